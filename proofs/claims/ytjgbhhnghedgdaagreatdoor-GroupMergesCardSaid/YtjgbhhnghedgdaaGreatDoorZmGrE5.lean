import Derived.Test.YtjgbhhnghedgdaaGreatDoorZmGrQ
set_option linter.all false
namespace Go.Proofs.YtjgbhhnghedgdaaGreatDoor
open Go.RowKit
set_option maxRecDepth 100000
set_option maxHeartbeats 4000000
theorem DL (l:List Int) (k:Nat) (g:gp) (hk:k≤l.length) (hl:l.length≤9223372036854775807) (hG:mj g):gm Tryz.prog 16 [.addr 1000000000000 0,.agg (bo g)] (z_ l k) (.agg (aI (vt l g k).1)) (z_ l (vt l g k).2) :=
 GJ l k (dU l k) (dU l (dU l k)) (gW l k 11) (gW l (dU l k) 10) _ _ g hl hG rfl (by have:=lM l k (n:=11) ah;omega) (by have:=lM l (dU l k) (n:=10) ah;omega) (dO (dO hk)) (dF l k 11 hk hl (by decide) (by decide)) (dF l (dU l k) 10 (dO hk) hl (by decide) (by decide)) (Is (by have:=lM l k (n:=11) ah;omega))
theorem GI (a:List dP) (x:dP):ae aI a++aI x=ae aI (a++ [x]):=fh a x
theorem KX (c:ta) (k:Nat):v8 c k<1024:=(x7 c k 10).1
theorem rG (l:List Int) (c:ta) (k n:Nat) (hn:n≤100) (hk:k≤l.length) (hl:l.length≤9223372036854775807) (hC:Eh c 1000):gm Tryz.prog 14 [.addr 1000000000000 0,.agg (kY c),ai n] (z_ l k) (.agg (kY (de l (c,k) n).1)) (z_ l (de l (c,k) n).2):=by
 unfold z_
 refine nj Tryz.func14 55<|zq<|zS<|zq<|zB 0 (zL (fun (i:Nat)=>(⟨[(6,AV.addr 6 0),(4,AV.addr 4 0),(0,AV.addr 1000000000000 0),(1,AV.agg [ai c.bP.aA,aw c.bP.head,ai c.bP.br,AV.sl 4 (ae aG c.bP.al),AV.sl 7 (ae a_ c.bP.aL),AV.sl 17 (ae aI c.log),ai (c.nx 0),ai (c.nx 1),ai (c.nx 2),ai (c.nx 3),ai (c.nx 4),ai (c.nx 5),ai (c.nx 6),ai (c.nx 7),ai (c.nx 8),ai (c.nx 9)]),(2,ai ↑n),(7,ai i)],[(6,⟨1,false,true,[ai 0,cN,ai 0,AV.nil,AV.nil,AV.nil,ai 0,ai 0,ai 0,ai 0,ai 0,ai 0,ai 0,ai 0,ai 0,ai 0]⟩),(4,⟨1,false,true,kY (de l (c,k) i).1⟩),(1000000000000,⟨1,false,true,[.sl 1 (au l),ai (de l (c,k) i).2]⟩)]⟩:AS)) (fun i=>(i≤n)) (fun i=>(n-i)) (0) ?_ (zW [.aa [6,4,0,1,2,7] [6,4,1000000000000]]) ?_)
 ·omega
 intro i hi
 obtain ⟨hB,pB⟩:=u9 l (s:=(c,k)) hC hk i
 by_cases c1:i<n
 case neg =>
  have e:i=n:=ah
  subst e
  refine zS<|zP 1 [yH ([(6,{b:=false})]++yg [4,5])] [.aa [18,6,4,0,1,2,7] [6,4,1000000000000]] (yM 3 (yF ((↑i:Int)<(↑i:Int))))<|zF 18<|zE 0<|aS<|aK<|bg<|ak<|zP 1 [{}] [.aa [18,6,4,0,1,2,7] [6,4,1000000000000]] [yL 16 16]<|zR (zG [] [yR (Value.int .i64 (de l (c,k) i).fst.bP.aA),yR (Value.int .u64 (wv (de l (c,k) i).fst.bP.head)),yR (Value.int .i64 (de l (c,k) i).fst.bP.br),yR (ae aG (de l (c,k) i).fst.bP.al),yR (ae a_ (de l (c,k) i).fst.bP.aL),yR (ae aI (de l (c,k) i).fst.log),yR (Value.int .i64 ((de l (c,k) i).fst.nx 0)),yR (Value.int .i64 ((de l (c,k) i).fst.nx 1)),yR (Value.int .i64 ((de l (c,k) i).fst.nx 2)),yR (Value.int .i64 ((de l (c,k) i).fst.nx 3)),yR (Value.int .i64 ((de l (c,k) i).fst.nx 4)),yR (Value.int .i64 ((de l (c,k) i).fst.nx 5)),yR (Value.int .i64 ((de l (c,k) i).fst.nx 6)),yR (Value.int .i64 ((de l (c,k) i).fst.nx 7)),yR (Value.int .i64 ((de l (c,k) i).fst.nx 8)),yR (Value.int .i64 ((de l (c,k) i).fst.nx 9)),yR [AV.sl 1 (au l),ai (↑(de l (c,k) i).snd:Int)]])
 have N0:=F8 l (de l (c,k) i).2 pB hl
 by_cases c2:(de l (c,k) i).2<l.length
 case neg =>
  have hs:=xk l (c,k) c2 (n-i)
  rw [show i+(n-i)=n by omega] at hs
  rw [decide_eq_false c2] at N0
  rw [←hs] at N0 ⊢
  refine zS<|zP 1 [yH [(5,{av:=some (ao false),ln:=[(1000000000000,1000000000000)],ho:=[(1000000000000,Row.mk 1 false true [AV.sl 1 (au l),ai (↑(de l (c,k) n).snd:Int)])]})]] [.aa [18,6,4,0,1,2,7] [1000000000000,6,4]] (yM 2 (yT ((↑i:Int)<(↑n:Int)))++ [yI N0,yB ([AV.sl 1 (au l),ai (↑(de l (c,k) n).snd:Int)].length= [AV.sl 1 (au l),ai (↑(de l (c,k) n).snd:Int)].length∧0< [AV.sl 1 (au l),ai (↑(de l (c,k) n).snd:Int)].length) ⟨rfl,Nat.succ_pos _⟩,yT ((↑i:Int)<(↑n:Int))])<|zF 18<|zE 0<|aS<|aK<|bg<|ak<|zP 1 [{}] [.aa [18,6,4,0,1,2,7] [6,1000000000000,4]] [yL 16 16]<|zR (zG [] [yR (Value.int .i64 (de l (c,k) n).fst.bP.aA),yR (Value.int .u64 (wv (de l (c,k) n).fst.bP.head)),yR (Value.int .i64 (de l (c,k) n).fst.bP.br),yR (ae aG (de l (c,k) n).fst.bP.al),yR (ae a_ (de l (c,k) n).fst.bP.aL),yR (ae aI (de l (c,k) n).fst.log),yR (Value.int .i64 ((de l (c,k) n).fst.nx 0)),yR (Value.int .i64 ((de l (c,k) n).fst.nx 1)),yR (Value.int .i64 ((de l (c,k) n).fst.nx 2)),yR (Value.int .i64 ((de l (c,k) n).fst.nx 3)),yR (Value.int .i64 ((de l (c,k) n).fst.nx 4)),yR (Value.int .i64 ((de l (c,k) n).fst.nx 5)),yR (Value.int .i64 ((de l (c,k) n).fst.nx 6)),yR (Value.int .i64 ((de l (c,k) n).fst.nx 7)),yR (Value.int .i64 ((de l (c,k) n).fst.nx 8)),yR (Value.int .i64 ((de l (c,k) n).fst.nx 9)),yR [AV.sl 1 (au l),ai (↑(de l (c,k) n).snd:Int)]])
 rw [decide_eq_true c2] at N0
 have dC:de l (c,k) (i+1)=Dg l (de l (c,k) i):=if_pos c2
 generalize de l (c,k) i=s at *
 obtain ⟨C,k0⟩:=s
 obtain ⟨h1,h2,h3,h4⟩:=hB
 simp only at pB c2 N0 h1 h2 h3 h4 ⊢
 have N1:=DL l k0 C.bP pB hl h1
 obtain ⟨b1,b2,b3⟩:=JJ l C.bP k0 pB h1.m8
 have hS:u7 l (C,k0)=bI (vt l C.bP k0).1 C.nx (v8 C (gW l (vt l C.bP k0).2 10)) 10:=rfl
 have hA:(Dg l (C,k0)).2=dU l (vt l C.bP k0).2:=rfl
 have Gj:(Dg l (C,k0)).1=if fD C.bP (u7 l (C,k0)).1=0 then ⟨ia C.bP (u7 l (C,k0)).1,C.log++ [(u7 l (C,k0)).1],(u7 l (C,k0)).2⟩ else C:=rfl
 generalize Dg l (C,k0)=G1 at *
 generalize u7 l (C,k0)=S at *
 generalize vt l C.bP k0=E at *
 have N2:=dF l E.2 10 b3 hl (by decide) (by decide)
 have hx:=lM l E.2 (n:=10) (by decide)
 unfold z_ at N1
 obtain ⟨E,k1⟩:=E
 simp only at b1 b2 b3 hS hA N1 N2 hx
 generalize gW l k1 10=x at *
 generalize dU l k1=k2 at *
 have hq:=CL C x ah h1.m8
 have Q5:=Cw (fun e he=>jK e he) C E (v8 C x) (KX C x) b1 (by rw [b2];exact Nat.zero_le _)
 have PQ:=xL b1 C.nx (v8 C x) 10
 rw [←hS] at Q5 PQ
 obtain ⟨e,nx⟩:=S
 simp only at Gj Q5 PQ
 have Ci:=p9 C.bP e h1 PQ.1 (by have:=PQ.2;rw [b2] at this;simp at this;omega) (jK e PQ.1)
 obtain ⟨G,k3⟩:=G1
 simp only at hA Gj
 subst hA
 by_cases c3:fD C.bP e=0
 ·rw [if_pos c3] at Gj
  subst Gj
  rw [c3] at Ci
  have s1:=GI C.log e
  refine zS<|zP 1 [yH [(5,{av:=some (ao true),ln:=[(1000000000000,1000000000000)],ho:=[(1000000000000,Row.mk 1 false true [AV.sl 1 (au l),ai ↑k0])]})]] [.aa [18,6,4,0,1,2,7] [1000000000000,6,4]] (yM 2 (yT ((↑i:Int)<(↑n:Int)))++ [yI N0,yB ([AV.sl 1 (au l),ai ↑k0].length= [AV.sl 1 (au l),ai ↑k0].length∧0< [AV.sl 1 (au l),ai ↑k0].length) ⟨rfl,Nat.succ_pos _⟩,yT ((↑i:Int)<(↑n:Int))])<|zT 18<|aW<|zS<|zB 1<|zS<|Tt 15 12 [4,7] [13,14] [(4,{av:=some (AV.agg (aI E)),ln:=[(1000000000000,1000000000000)],ho:=[(1000000000000,Row.mk 1 false true [AV.sl 1 (au l),ai ↑k1])]}),(7,{av:=some (ai ↑x),ln:=[(1000000000000,1000000000000)],ho:=[(1000000000000,Row.mk 1 false true [AV.sl 1 (au l),ai ↑k3])]}),(8,yV (ai (↑(v8 C x):Int))),(9,{av:=some (AV.bk [AV.agg (aI e),AV.arr (x_ nx)]),b:=false})] ([yI N1,yB ([AV.sl 1 (au l),ai ↑k0].length= [AV.sl 1 (au l),ai ↑k1].length∧0< [AV.sl 1 (au l),ai ↑k1].length) ⟨rfl,Nat.succ_pos _⟩]++yM 2 (yR (AV.agg [ai C.bP.aA,aw C.bP.head,ai C.bP.br,AV.sl 4 (ae aG C.bP.al),AV.sl 7 (ae a_ C.bP.aL),AV.sl 17 (ae aI C.log),ai (C.nx 0),ai (C.nx 1),ai (C.nx 2),ai (C.nx 3),ai (C.nx 4),ai (C.nx 5),ai (C.nx 6),ai (C.nx 7),ai (C.nx 8),ai (C.nx 9)]))++ [yR (AV.addr 1000000000000 0),yI N2,yB ([AV.sl 1 (au l),ai ↑k1].length= [AV.sl 1 (au l),ai ↑k3].length∧0< [AV.sl 1 (au l),ai ↑k3].length) ⟨rfl,Nat.succ_pos _⟩]++yM 2 (yR (AV.agg [ai C.bP.aA,aw C.bP.head,ai C.bP.br,AV.sl 4 (ae aG C.bP.al),AV.sl 7 (ae a_ C.bP.aL),AV.sl 17 (ae aI C.log),ai (C.nx 0),ai (C.nx 1),ai (C.nx 2),ai (C.nx 3),ai (C.nx 4),ai (C.nx 5),ai (C.nx 6),ai (C.nx 7),ai (C.nx 8),ai (C.nx 9)]))++ [yI hq,yI Q5,yL 17 17,yL 17 17,yL 10 10])<|ak<|bf.r9 [.aa [9,8,18,6,4,0,1,2,7] [9,8,1000000000000,6,4]] bt<|zP 2 [yH [(3,{av:=some (AV.bk [AV.agg (bo (ia C.bP e)),ai 0]),b:=false})],{}] [.aa [42,11,10,9,8,18,6,4,0,1,2,7] [10,9,8,1000000000000,6,4]] [yI Ci,yL 5 5]<|dm 42 ((0:Int) == (0:Int)) eg<|zS<|wz 4 [3] [(1,yV (AV.agg [ai (nx 0),ai (nx 1),ai (nx 2),ai (nx 3),ai (nx 4),ai (nx 5),ai (nx 6),ai (nx 7),ai (nx 8),ai (nx 9)]))] [yR [ai (nx 0),ai (nx 1),ai (nx 2),ai (nx 3),ai (nx 4),ai (nx 5),ai (nx 6),ai (nx 7),ai (nx 8),ai (nx 9)],yR 10,yL 5 16,yR (AV.agg [ai (nx 0),ai (nx 1),ai (nx 2),ai (nx 3),ai (nx 4),ai (nx 5),ai (nx 6),ai (nx 7),ai (nx 8),ai (nx 9)]),yR [ai (nx 0),ai (nx 1),ai (nx 2),ai (nx 3),ai (nx 4),ai (nx 5),ai (nx 6),ai (nx 7),ai (nx 8),ai (nx 9)],yR 10,yL 16 16]<|ak<|bf.r9 [.aa [45,42,11,10,9,8,18,6,4,0,1,2,7] [4,10,9,8,1000000000000,6]] bt<|wz 5 [2] [(2,{b:=false}),(5,yV (AV.arr (ae aI (C.log++ [e]))))] [yB (cE (ae aI C.log)) (dD (fun x=>dL rfl) _),yB ((0+(ae aI C.log).length)*208≤2392537302040576) (by simp only [aE (f:=aI) (e:=17) (fun _=>rfl)];omega),yR (AV.agg (aI e)),yR (AV.sl 17 (aI e)),yI s1,yB (((ae aI C.log).length+17)*208≤2392537302040576) (by simp only [aE (f:=aI) (e:=17) (fun _=>rfl)];omega),yL 6 16]<|aM<|ak<|zX (yH [(1,yV (ai ((↑i:Int)+1)))]) [yN ((↑i:Int)+1)] (aH (i+1) (by assumption) ah (eu [.gq 52,.aa [6,4,0,1,2,7] [6,4,1000000000000]] [] [4,1000000000000] [yB (List.map (aB 8) (cK 9 (cK 10 (Row.mk 1 false true (List.map (kB 52 (Row.mk 17 true false (ae aI (C.log++ [e])))) ((List.map (aB 52) (cK 49 (Row.mk 1 false true (List.map (aB 49) (List.take 6 (List.take 0 (List.map (aB 10) (kY C))++(bo (ia C.bP e))++List.drop 5 (List.map (aB 10) (kY C)))++ [ai (nx 0),ai (nx 1),ai (nx 2),ai (nx 3),ai (nx 4),ai (nx 5),ai (nx 6),ai (nx 7),ai (nx 8),ai (nx 9)]++List.drop 16 (List.take 0 (List.map (aB 10) (kY C))++(bo (ia C.bP e))++List.drop 5 (List.map (aB 10) (kY C))))))).cells).set 5 (bp (AS.mk [(53,AV.addr 4 5),(52,AV.ref 52),(47,AV.addr 4 5),(48,AV.sl 17 (ae aI C.log)),(49,AV.dead),(50,AV.agg (aI e)),(51,AV.sl 17 (aI e)),(45,AV.addr 4 0),(42,ao ((0:Int) == (0:Int))),(11,ai 0),(10,AV.addr 10 0),(9,AV.addr 9 0),(8,AV.addr 8 0),(18,ao true),(6,AV.addr 6 0),(4,AV.addr 4 0),(0,AV.addr 1000000000000 0),(1,AV.agg [ai c.bP.aA,aw c.bP.head,ai c.bP.br,AV.sl 4 (ae aG c.bP.al),AV.sl 7 (ae a_ c.bP.aL),AV.sl 17 (ae aI c.log),ai (c.nx 0),ai (c.nx 1),ai (c.nx 2),ai (c.nx 3),ai (c.nx 4),ai (c.nx 5),ai (c.nx 6),ai (c.nx 7),ai (c.nx 8),ai (c.nx 9)]),(2,ai ↑n),(7,ai ↑i)] [(52,Row.mk 17 true false (ae aI (C.log++ [e]))),(4,Row.mk 1 false true (List.map (aB 52) (cK 49 (Row.mk 1 false true (List.map (aB 49) (List.take 6 (List.take 0 (List.map (aB 10) (kY C))++(bo (ia C.bP e))++List.drop 5 (List.map (aB 10) (kY C)))++ [ai (nx 0),ai (nx 1),ai (nx 2),ai (nx 3),ai (nx 4),ai (nx 5),ai (nx 6),ai (nx 7),ai (nx 8),ai (nx 9)]++List.drop 16 (List.take 0 (List.map (aB 10) (kY C))++(bo (ia C.bP e))++List.drop 5 (List.map (aB 10) (kY C))))))).cells)),(10,Row.mk 1 false true (bo (ia C.bP e))),(9,Row.mk 1 false true (List.map (aB 52) (cK 49 (Row.mk 1 false true (List.map (aB 49) (List.map (aB 10) (match x_ nx with| [x]=>[ai 0,ai 0,ai 0,ai 0,ai 0,ai 0,ai 0,ai 0,ai 0,ai 0].set 0 x|l=>List.take 0 [ai 0,ai 0,ai 0,ai 0,ai 0,ai 0,ai 0,ai 0,ai 0,ai 0]++l++List.drop (0+l.length) [ai 0,ai 0,ai 0,ai 0,ai 0,ai 0,ai 0,ai 0,ai 0,ai 0]))))).cells)),(8,Row.mk 1 false true (aI e)),(1000000000000,Row.mk 1 false true [AV.sl 1 (au l),ai ↑k3]),(6,Row.mk 1 false true [ai 0,cN,ai 0,AV.nil,AV.nil,AV.nil,ai 0,ai 0,ai 0,ai 0,ai 0,ai 0,ai 0,ai 0,ai 0,ai 0])]) (Operand.tmp 52))))))).cells=kY (de l (c,k) (i+1)).fst) (by rw [dC];rfl),yB ([AV.sl 1 (au l),ai ↑k3]= [AV.sl 1 (au l),ai (↑(de l (c,k) (i+1)).snd:Int)]) (by rw [dC])]))
 ·rw [if_neg c3] at Gj
  subst Gj
  rw [tC c3] at Ci
  refine zS<|zP 1 [yH [(5,{av:=some (ao true),ln:=[(1000000000000,1000000000000)],ho:=[(1000000000000,Row.mk 1 false true [AV.sl 1 (au l),ai ↑k0])]})]] [.aa [18,6,4,0,1,2,7] [1000000000000,6,4]] (yM 2 (yT ((↑i:Int)<(↑n:Int)))++ [yI N0,yB ([AV.sl 1 (au l),ai ↑k0].length= [AV.sl 1 (au l),ai ↑k0].length∧0< [AV.sl 1 (au l),ai ↑k0].length) (by simp [c3]),yT ((↑i:Int)<(↑n:Int))])<|zT 18<|aW<|zS<|zB 1<|zS<|Tt 15 12 [4,7] [13,14] [(4,{av:=some (AV.agg (aI E)),ln:=[(1000000000000,1000000000000)],ho:=[(1000000000000,Row.mk 1 false true [AV.sl 1 (au l),ai ↑k1])]}),(7,{av:=some (ai ↑x),ln:=[(1000000000000,1000000000000)],ho:=[(1000000000000,Row.mk 1 false true [AV.sl 1 (au l),ai ↑k3])]}),(8,yV (ai (↑(v8 G x):Int))),(9,{av:=some (AV.bk [AV.agg (aI e),AV.arr (x_ nx)]),b:=false})] ([yI N1,yB ([AV.sl 1 (au l),ai ↑k0].length= [AV.sl 1 (au l),ai ↑k1].length∧0< [AV.sl 1 (au l),ai ↑k1].length) (by simp [c3])]++yM 2 (yR (AV.agg [ai G.bP.aA,aw G.bP.head,ai G.bP.br,AV.sl 4 (ae aG G.bP.al),AV.sl 7 (ae a_ G.bP.aL),AV.sl 17 (ae aI G.log),ai (G.nx 0),ai (G.nx 1),ai (G.nx 2),ai (G.nx 3),ai (G.nx 4),ai (G.nx 5),ai (G.nx 6),ai (G.nx 7),ai (G.nx 8),ai (G.nx 9)]))++ [yR (AV.addr 1000000000000 0),yI N2,yB ([AV.sl 1 (au l),ai ↑k1].length= [AV.sl 1 (au l),ai ↑k3].length∧0< [AV.sl 1 (au l),ai ↑k3].length) (by simp [c3])]++yM 2 (yR (AV.agg [ai G.bP.aA,aw G.bP.head,ai G.bP.br,AV.sl 4 (ae aG G.bP.al),AV.sl 7 (ae a_ G.bP.aL),AV.sl 17 (ae aI G.log),ai (G.nx 0),ai (G.nx 1),ai (G.nx 2),ai (G.nx 3),ai (G.nx 4),ai (G.nx 5),ai (G.nx 6),ai (G.nx 7),ai (G.nx 8),ai (G.nx 9)]))++ [yI hq,yI Q5,yL 17 17,yL 17 17,yL 10 10])<|ak<|bf.r9 [.aa [9,8,18,6,4,0,1,2,7] [9,8,1000000000000,6,4]] bt<|zP 2 [yH [(3,{av:=some (AV.bk [AV.agg (bo G.bP),ai (fD G.bP e)]),b:=false})],yH [(1,yV (ao false))]] [.aa [42,11,10,9,8,18,6,4,0,1,2,7] [10,9,8,1000000000000,6,4]] [yI Ci,yL 5 5,yB (ao (fD G.bP e == (0:Int))=ao false) (by simp [c3])]<|zF 42<|zK<|aM<|ak<|zX (yH [(1,yV (ai ((↑i:Int)+1)))]) [yN ((↑i:Int)+1)] (aH (i+1) (by assumption) ah (eu [.aa [6,4,0,1,2,7] [6,4,1000000000000]] [] [4,1000000000000] [yB (List.map (aB 8) (cK 9 (cK 10 (Row.mk 1 false true (List.map (aB 10) (kY G))))).cells=kY (de l (c,k) (i+1)).fst) (by rw [dC];rfl),yB ([AV.sl 1 (au l),ai ↑k3]= [AV.sl 1 (au l),ai (↑(de l (c,k) (i+1)).snd:Int)]) (by rw [dC])]))
end Go.Proofs.YtjgbhhnghedgdaaGreatDoor
