import Derived.Test.YtjgbhhnghedgdaaGreatDoorZbGrQ
set_option linter.all false
namespace Go.Proofs.YtjgbhhnghedgdaaGreatDoor
open Go.RowKit
set_option maxRecDepth 100000
set_option maxHeartbeats 4000000
theorem vb (l:List Int) (k:Nat) (g:gX) (hk:k≤l.length) (hl:l.length≤9223372036854775807) (hG:qD g):dh Tryz.prog 16 [.addr 1000000000000 0,.agg (bQ g)] (y5 l k) (.agg (a7 (sM l g k).1)) (y5 l (sM l g k).2) :=
 F6 l k (dU l k) (dU l (dU l k)) (gW l k 11) (gW l (dU l k) 10) _ _ g hl hG rfl (by have:=lG l k (n:=11) aj;omega) (by have:=lG l (dU l k) (n:=10) aj;omega) (dQ (dQ hk)) (dH l k 11 hk hl (by decide) (by decide)) (dH l (dU l k) 10 (dQ hk) hl (by decide) (by decide)) (HR (by have:=lG l k (n:=11) aj;omega))
theorem F1 (a:List eP) (x:eP):ae a7 a++a7 x=ae a7 (a++ [x]):=fZ a x
theorem Kk (c:sR) (k:Nat):vC c k<1024:=(xu c k 10).1
theorem FI (l:List Int) (c:sR) (k n:Nat) (hn:n≤100) (hk:k≤l.length) (hl:l.length≤9223372036854775807) (hC:DC c 1000):dh Tryz.prog 14 [.addr 1000000000000 0,.agg (kk c),ai n] (y5 l k) (.agg (kk (dm l (c,k) n).1)) (y5 l (dm l (c,k) n).2):=by
 unfold y5
 refine m6 Tryz.func14 55<|zq<|zS<|zq<|zB 0 (zL (fun (i:Nat)=>(⟨[(6,AV.addr 6 0),(4,AV.addr 4 0),(0,AV.addr 1000000000000 0),(1,AV.agg [ai c.cw.aB,aw c.cw.head,ai c.cw.bA,AV.sl 4 (ae aF c.cw.al),AV.sl 7 (ae bg c.cw.aO),AV.sl 17 (ae a7 c.log),ai (c.nx 0),ai (c.nx 1),ai (c.nx 2),ai (c.nx 3),ai (c.nx 4),ai (c.nx 5),ai (c.nx 6),ai (c.nx 7),ai (c.nx 8),ai (c.nx 9)]),(2,ai ↑n),(7,ai i)],[(6,⟨1,false,true,[ai 0,cQ,ai 0,AV.nil,AV.nil,AV.nil,ai 0,ai 0,ai 0,ai 0,ai 0,ai 0,ai 0,ai 0,ai 0,ai 0]⟩),(4,⟨1,false,true,kk (dm l (c,k) i).1⟩),(1000000000000,⟨1,false,true,[.sl 1 (ax l),ai (dm l (c,k) i).2]⟩)]⟩:AS)) (fun i=>(i≤n)) (fun i=>(n-i)) (0) ?_ (zW [.aa [6,4,0,1,2,7] [6,4,1000000000000]]) ?_)
 ·omega
 intro i hi
 obtain ⟨hB,r9⟩:=Cy l (s:=(c,k)) hC hk i
 by_cases c1:i<n
 case neg =>
  have e:i=n:=aj
  subst e
  refine zS<|zP 1 [yH ([(6,{b:=false})]++yg [4,5])] [.aa [18,6,4,0,1,2,7] [6,4,1000000000000]] (yM 3 (yF ((↑i:Int)<(↑i:Int))))<|zF 18<|zE 0<|ba<|aS<|br<|aq<|zP 1 [{}] [.aa [18,6,4,0,1,2,7] [6,4,1000000000000]] [yL 16 16]<|zR (zG [] [yR (Value.int .i64 (dm l (c,k) i).fst.cw.aB),yR (Value.int .u64 (wv (dm l (c,k) i).fst.cw.head)),yR (Value.int .i64 (dm l (c,k) i).fst.cw.bA),yR (ae aF (dm l (c,k) i).fst.cw.al),yR (ae bg (dm l (c,k) i).fst.cw.aO),yR (ae a7 (dm l (c,k) i).fst.log),yR (Value.int .i64 ((dm l (c,k) i).fst.nx 0)),yR (Value.int .i64 ((dm l (c,k) i).fst.nx 1)),yR (Value.int .i64 ((dm l (c,k) i).fst.nx 2)),yR (Value.int .i64 ((dm l (c,k) i).fst.nx 3)),yR (Value.int .i64 ((dm l (c,k) i).fst.nx 4)),yR (Value.int .i64 ((dm l (c,k) i).fst.nx 5)),yR (Value.int .i64 ((dm l (c,k) i).fst.nx 6)),yR (Value.int .i64 ((dm l (c,k) i).fst.nx 7)),yR (Value.int .i64 ((dm l (c,k) i).fst.nx 8)),yR (Value.int .i64 ((dm l (c,k) i).fst.nx 9)),yR [AV.sl 1 (ax l),ai (↑(dm l (c,k) i).snd:Int)]])
 have N0:=Fp l (dm l (c,k) i).2 r9 hl
 by_cases c2:(dm l (c,k) i).2<l.length
 case neg =>
  have hs:=wN l (c,k) c2 (n-i)
  rw [show i+(n-i)=n by omega] at hs
  rw [decide_eq_false c2] at N0
  rw [←hs] at N0 ⊢
  refine zS<|zP 1 [yH [(5,{av:=some (ao false),ln:=[(1000000000000,1000000000000)],ho:=[(1000000000000,Row.mk 1 false true [AV.sl 1 (ax l),ai (↑(dm l (c,k) n).snd:Int)])]})]] [.aa [18,6,4,0,1,2,7] [1000000000000,6,4]] (yM 2 (yT ((↑i:Int)<(↑n:Int)))++ [yI N0,yB ([AV.sl 1 (ax l),ai (↑(dm l (c,k) n).snd:Int)].length= [AV.sl 1 (ax l),ai (↑(dm l (c,k) n).snd:Int)].length∧0< [AV.sl 1 (ax l),ai (↑(dm l (c,k) n).snd:Int)].length) ⟨rfl,Nat.succ_pos _⟩,yT ((↑i:Int)<(↑n:Int))])<|zF 18<|zE 0<|ba<|aS<|br<|aq<|zP 1 [{}] [.aa [18,6,4,0,1,2,7] [6,1000000000000,4]] [yL 16 16]<|zR (zG [] [yR (Value.int .i64 (dm l (c,k) n).fst.cw.aB),yR (Value.int .u64 (wv (dm l (c,k) n).fst.cw.head)),yR (Value.int .i64 (dm l (c,k) n).fst.cw.bA),yR (ae aF (dm l (c,k) n).fst.cw.al),yR (ae bg (dm l (c,k) n).fst.cw.aO),yR (ae a7 (dm l (c,k) n).fst.log),yR (Value.int .i64 ((dm l (c,k) n).fst.nx 0)),yR (Value.int .i64 ((dm l (c,k) n).fst.nx 1)),yR (Value.int .i64 ((dm l (c,k) n).fst.nx 2)),yR (Value.int .i64 ((dm l (c,k) n).fst.nx 3)),yR (Value.int .i64 ((dm l (c,k) n).fst.nx 4)),yR (Value.int .i64 ((dm l (c,k) n).fst.nx 5)),yR (Value.int .i64 ((dm l (c,k) n).fst.nx 6)),yR (Value.int .i64 ((dm l (c,k) n).fst.nx 7)),yR (Value.int .i64 ((dm l (c,k) n).fst.nx 8)),yR (Value.int .i64 ((dm l (c,k) n).fst.nx 9)),yR [AV.sl 1 (ax l),ai (↑(dm l (c,k) n).snd:Int)]])
 rw [decide_eq_true c2] at N0
 have dS:dm l (c,k) (i+1)=Cz l (dm l (c,k) i):=if_pos c2
 generalize dm l (c,k) i=s at *
 obtain ⟨C,k0⟩:=s
 obtain ⟨h1,h2,h3,h4⟩:=hB
 simp only at r9 c2 N0 h1 h2 h3 h4 ⊢
 have N1:=vb l k0 C.cw r9 hl h1
 obtain ⟨b1,b2,b3⟩:=C9 l C.cw k0 r9 h1.m8
 have hS:uP l (C,k0)=cA (sM l C.cw k0).1 C.nx (vC C (gW l (sM l C.cw k0).2 10)) 10:=rfl
 have hA:(Cz l (C,k0)).2=dU l (sM l C.cw k0).2:=rfl
 have FD:(Cz l (C,k0)).1=if fX C.cw (uP l (C,k0)).1=0 then ⟨i_ C.cw (uP l (C,k0)).1,C.log++ [(uP l (C,k0)).1],(uP l (C,k0)).2⟩ else C:=rfl
 generalize Cz l (C,k0)=G1 at *
 generalize uP l (C,k0)=S at *
 generalize sM l C.cw k0=E at *
 have N2:=dH l E.2 10 b3 hl (by decide) (by decide)
 have hx:=lG l E.2 (n:=10) (by decide)
 unfold y5 at N1
 obtain ⟨E,k1⟩:=E
 simp only at b1 b2 b3 hS hA N1 N2 hx
 generalize gW l k1 10=x at *
 generalize dU l k1=k2 at *
 have hq:=B2 C x aj h1.m8
 have Qv:=BK (fun e he=>nq e he) C E (vC C x) (Kk C x) b1 (by rw [b2];exact Nat.zero_le _)
 have Pk:=xe b1 C.nx (vC C x) 10
 rw [←hS] at Qv Pk
 obtain ⟨e,nx⟩:=S
 simp only at FD Qv Pk
 have L0:=xq C.cw e h1 Pk.1 (by have:=Pk.2;rw [b2] at this;simp at this;omega) (nq e Pk.1)
 obtain ⟨G,k3⟩:=G1
 simp only at hA FD
 subst hA
 by_cases c3:fX C.cw e=0
 ·rw [if_pos c3] at FD
  subst FD
  rw [c3] at L0
  have s1:=F1 C.log e
  refine zS<|zP 1 [yH [(5,{av:=some (ao true),ln:=[(1000000000000,1000000000000)],ho:=[(1000000000000,Row.mk 1 false true [AV.sl 1 (ax l),ai ↑k0])]})]] [.aa [18,6,4,0,1,2,7] [1000000000000,6,4]] (yM 2 (yT ((↑i:Int)<(↑n:Int)))++ [yI N0,yB ([AV.sl 1 (ax l),ai ↑k0].length= [AV.sl 1 (ax l),ai ↑k0].length∧0< [AV.sl 1 (ax l),ai ↑k0].length) ⟨rfl,Nat.succ_pos _⟩,yT ((↑i:Int)<(↑n:Int))])<|zT 18<|a_<|zS<|zB 1<|zS<|SJ 15 12 [4,7] [13,14] [(4,{av:=some (AV.agg (a7 E)),ln:=[(1000000000000,1000000000000)],ho:=[(1000000000000,Row.mk 1 false true [AV.sl 1 (ax l),ai ↑k1])]}),(7,{av:=some (ai ↑x),ln:=[(1000000000000,1000000000000)],ho:=[(1000000000000,Row.mk 1 false true [AV.sl 1 (ax l),ai ↑k3])]}),(8,yV (ai (↑(vC C x):Int))),(9,{av:=some (AV.bt [AV.agg (a7 e),AV.arr (yW nx)]),b:=false})] ([yI N1,yB ([AV.sl 1 (ax l),ai ↑k0].length= [AV.sl 1 (ax l),ai ↑k1].length∧0< [AV.sl 1 (ax l),ai ↑k1].length) ⟨rfl,Nat.succ_pos _⟩]++yM 2 (yR (AV.agg [ai C.cw.aB,aw C.cw.head,ai C.cw.bA,AV.sl 4 (ae aF C.cw.al),AV.sl 7 (ae bg C.cw.aO),AV.sl 17 (ae a7 C.log),ai (C.nx 0),ai (C.nx 1),ai (C.nx 2),ai (C.nx 3),ai (C.nx 4),ai (C.nx 5),ai (C.nx 6),ai (C.nx 7),ai (C.nx 8),ai (C.nx 9)]))++ [yR (AV.addr 1000000000000 0),yI N2,yB ([AV.sl 1 (ax l),ai ↑k1].length= [AV.sl 1 (ax l),ai ↑k3].length∧0< [AV.sl 1 (ax l),ai ↑k3].length) ⟨rfl,Nat.succ_pos _⟩]++yM 2 (yR (AV.agg [ai C.cw.aB,aw C.cw.head,ai C.cw.bA,AV.sl 4 (ae aF C.cw.al),AV.sl 7 (ae bg C.cw.aO),AV.sl 17 (ae a7 C.log),ai (C.nx 0),ai (C.nx 1),ai (C.nx 2),ai (C.nx 3),ai (C.nx 4),ai (C.nx 5),ai (C.nx 6),ai (C.nx 7),ai (C.nx 8),ai (C.nx 9)]))++ [yI hq,yI Qv,yL 17 17,yL 17 17,yL 10 10])<|aq<|bf.sU [.aa [9,8,18,6,4,0,1,2,7] [9,8,1000000000000,6,4]] bk<|zP 2 [yH [(3,{av:=some (AV.bt [AV.agg (bQ (i_ C.cw e)),ai 0]),b:=false})],{}] [.aa [42,11,10,9,8,18,6,4,0,1,2,7] [10,9,8,1000000000000,6,4]] [yI L0,yL 5 5]<|dB 42 ((0:Int) == (0:Int)) fg<|zS<|y8 4 [3] [(1,yV (AV.agg [ai (nx 0),ai (nx 1),ai (nx 2),ai (nx 3),ai (nx 4),ai (nx 5),ai (nx 6),ai (nx 7),ai (nx 8),ai (nx 9)]))] [yR [ai (nx 0),ai (nx 1),ai (nx 2),ai (nx 3),ai (nx 4),ai (nx 5),ai (nx 6),ai (nx 7),ai (nx 8),ai (nx 9)],yR 10,yL 5 16,yR (AV.agg [ai (nx 0),ai (nx 1),ai (nx 2),ai (nx 3),ai (nx 4),ai (nx 5),ai (nx 6),ai (nx 7),ai (nx 8),ai (nx 9)]),yR [ai (nx 0),ai (nx 1),ai (nx 2),ai (nx 3),ai (nx 4),ai (nx 5),ai (nx 6),ai (nx 7),ai (nx 8),ai (nx 9)],yR 10,yL 16 16]<|aq<|bf.sU [.aa [45,42,11,10,9,8,18,6,4,0,1,2,7] [4,10,9,8,1000000000000,6]] bk<|y8 5 [2] [(2,{b:=false}),(5,yV (AV.arr (ae a7 (C.log++ [e]))))] [yB (cI (ae a7 C.log)) (dG (fun x=>dN rfl) _),yB ((0+(ae a7 C.log).length)*208≤2392537302040576) (by simp only [aG (f:=a7) (e:=17) (fun _=>rfl)];omega),yR (AV.agg (a7 e)),yR (AV.sl 17 (a7 e)),yI s1,yB (((ae a7 C.log).length+17)*208≤2392537302040576) (by simp only [aG (f:=a7) (e:=17) (fun _=>rfl)];omega),yL 6 16]<|aL<|aq<|zX (yH [(1,yV (ai ((↑i:Int)+1)))]) [yN ((↑i:Int)+1)] (aK (i+1) (by assumption) aj (eQ [.gP 52,.aa [6,4,0,1,2,7] [6,4,1000000000000]] [] [4,1000000000000] [yB (List.map (aE 8) (cP 9 (cP 10 (Row.mk 1 false true (List.map (lR 52 (Row.mk 17 true false (ae a7 (C.log++ [e])))) ((List.map (aE 52) (cP 49 (Row.mk 1 false true (List.map (aE 49) (List.take 6 (List.take 0 (List.map (aE 10) (kk C))++(bQ (i_ C.cw e))++List.drop 5 (List.map (aE 10) (kk C)))++ [ai (nx 0),ai (nx 1),ai (nx 2),ai (nx 3),ai (nx 4),ai (nx 5),ai (nx 6),ai (nx 7),ai (nx 8),ai (nx 9)]++List.drop 16 (List.take 0 (List.map (aE 10) (kk C))++(bQ (i_ C.cw e))++List.drop 5 (List.map (aE 10) (kk C))))))).cells).set 5 (bq (AS.mk [(53,AV.addr 4 5),(52,AV.ref 52),(47,AV.addr 4 5),(48,AV.sl 17 (ae a7 C.log)),(49,AV.dead),(50,AV.agg (a7 e)),(51,AV.sl 17 (a7 e)),(45,AV.addr 4 0),(42,ao ((0:Int) == (0:Int))),(11,ai 0),(10,AV.addr 10 0),(9,AV.addr 9 0),(8,AV.addr 8 0),(18,ao true),(6,AV.addr 6 0),(4,AV.addr 4 0),(0,AV.addr 1000000000000 0),(1,AV.agg [ai c.cw.aB,aw c.cw.head,ai c.cw.bA,AV.sl 4 (ae aF c.cw.al),AV.sl 7 (ae bg c.cw.aO),AV.sl 17 (ae a7 c.log),ai (c.nx 0),ai (c.nx 1),ai (c.nx 2),ai (c.nx 3),ai (c.nx 4),ai (c.nx 5),ai (c.nx 6),ai (c.nx 7),ai (c.nx 8),ai (c.nx 9)]),(2,ai ↑n),(7,ai ↑i)] [(52,Row.mk 17 true false (ae a7 (C.log++ [e]))),(4,Row.mk 1 false true (List.map (aE 52) (cP 49 (Row.mk 1 false true (List.map (aE 49) (List.take 6 (List.take 0 (List.map (aE 10) (kk C))++(bQ (i_ C.cw e))++List.drop 5 (List.map (aE 10) (kk C)))++ [ai (nx 0),ai (nx 1),ai (nx 2),ai (nx 3),ai (nx 4),ai (nx 5),ai (nx 6),ai (nx 7),ai (nx 8),ai (nx 9)]++List.drop 16 (List.take 0 (List.map (aE 10) (kk C))++(bQ (i_ C.cw e))++List.drop 5 (List.map (aE 10) (kk C))))))).cells)),(10,Row.mk 1 false true (bQ (i_ C.cw e))),(9,Row.mk 1 false true (List.map (aE 52) (cP 49 (Row.mk 1 false true (List.map (aE 49) (List.map (aE 10) (match yW nx with| [x]=>[ai 0,ai 0,ai 0,ai 0,ai 0,ai 0,ai 0,ai 0,ai 0,ai 0].set 0 x|l=>List.take 0 [ai 0,ai 0,ai 0,ai 0,ai 0,ai 0,ai 0,ai 0,ai 0,ai 0]++l++List.drop (0+l.length) [ai 0,ai 0,ai 0,ai 0,ai 0,ai 0,ai 0,ai 0,ai 0,ai 0]))))).cells)),(8,Row.mk 1 false true (a7 e)),(1000000000000,Row.mk 1 false true [AV.sl 1 (ax l),ai ↑k3]),(6,Row.mk 1 false true [ai 0,cQ,ai 0,AV.nil,AV.nil,AV.nil,ai 0,ai 0,ai 0,ai 0,ai 0,ai 0,ai 0,ai 0,ai 0,ai 0])]) (Operand.tmp 52))))))).cells=kk (dm l (c,k) (i+1)).fst) (by rw [dS];rfl),yB ([AV.sl 1 (ax l),ai ↑k3]= [AV.sl 1 (ax l),ai (↑(dm l (c,k) (i+1)).snd:Int)]) (by rw [dS])]))
 ·rw [if_neg c3] at FD
  subst FD
  rw [yE c3] at L0
  refine zS<|zP 1 [yH [(5,{av:=some (ao true),ln:=[(1000000000000,1000000000000)],ho:=[(1000000000000,Row.mk 1 false true [AV.sl 1 (ax l),ai ↑k0])]})]] [.aa [18,6,4,0,1,2,7] [1000000000000,6,4]] (yM 2 (yT ((↑i:Int)<(↑n:Int)))++ [yI N0,yB ([AV.sl 1 (ax l),ai ↑k0].length= [AV.sl 1 (ax l),ai ↑k0].length∧0< [AV.sl 1 (ax l),ai ↑k0].length) (by simp [c3]),yT ((↑i:Int)<(↑n:Int))])<|zT 18<|a_<|zS<|zB 1<|zS<|SJ 15 12 [4,7] [13,14] [(4,{av:=some (AV.agg (a7 E)),ln:=[(1000000000000,1000000000000)],ho:=[(1000000000000,Row.mk 1 false true [AV.sl 1 (ax l),ai ↑k1])]}),(7,{av:=some (ai ↑x),ln:=[(1000000000000,1000000000000)],ho:=[(1000000000000,Row.mk 1 false true [AV.sl 1 (ax l),ai ↑k3])]}),(8,yV (ai (↑(vC G x):Int))),(9,{av:=some (AV.bt [AV.agg (a7 e),AV.arr (yW nx)]),b:=false})] ([yI N1,yB ([AV.sl 1 (ax l),ai ↑k0].length= [AV.sl 1 (ax l),ai ↑k1].length∧0< [AV.sl 1 (ax l),ai ↑k1].length) (by simp [c3])]++yM 2 (yR (AV.agg [ai G.cw.aB,aw G.cw.head,ai G.cw.bA,AV.sl 4 (ae aF G.cw.al),AV.sl 7 (ae bg G.cw.aO),AV.sl 17 (ae a7 G.log),ai (G.nx 0),ai (G.nx 1),ai (G.nx 2),ai (G.nx 3),ai (G.nx 4),ai (G.nx 5),ai (G.nx 6),ai (G.nx 7),ai (G.nx 8),ai (G.nx 9)]))++ [yR (AV.addr 1000000000000 0),yI N2,yB ([AV.sl 1 (ax l),ai ↑k1].length= [AV.sl 1 (ax l),ai ↑k3].length∧0< [AV.sl 1 (ax l),ai ↑k3].length) (by simp [c3])]++yM 2 (yR (AV.agg [ai G.cw.aB,aw G.cw.head,ai G.cw.bA,AV.sl 4 (ae aF G.cw.al),AV.sl 7 (ae bg G.cw.aO),AV.sl 17 (ae a7 G.log),ai (G.nx 0),ai (G.nx 1),ai (G.nx 2),ai (G.nx 3),ai (G.nx 4),ai (G.nx 5),ai (G.nx 6),ai (G.nx 7),ai (G.nx 8),ai (G.nx 9)]))++ [yI hq,yI Qv,yL 17 17,yL 17 17,yL 10 10])<|aq<|bf.sU [.aa [9,8,18,6,4,0,1,2,7] [9,8,1000000000000,6,4]] bk<|zP 2 [yH [(3,{av:=some (AV.bt [AV.agg (bQ G.cw),ai (fX G.cw e)]),b:=false})],yH [(1,yV (ao false))]] [.aa [42,11,10,9,8,18,6,4,0,1,2,7] [10,9,8,1000000000000,6,4]] [yI L0,yL 5 5,yB (ao (fX G.cw e == (0:Int))=ao false) (by simp [c3])]<|zF 42<|zK<|aL<|aq<|zX (yH [(1,yV (ai ((↑i:Int)+1)))]) [yN ((↑i:Int)+1)] (aK (i+1) (by assumption) aj (eQ [.aa [6,4,0,1,2,7] [6,4,1000000000000]] [] [4,1000000000000] [yB (List.map (aE 8) (cP 9 (cP 10 (Row.mk 1 false true (List.map (aE 10) (kk G))))).cells=kk (dm l (c,k) (i+1)).fst) (by rw [dS];rfl),yB ([AV.sl 1 (ax l),ai ↑k3]= [AV.sl 1 (ax l),ai (↑(dm l (c,k) (i+1)).snd:Int)]) (by rw [dS])]))
end Go.Proofs.YtjgbhhnghedgdaaGreatDoor
