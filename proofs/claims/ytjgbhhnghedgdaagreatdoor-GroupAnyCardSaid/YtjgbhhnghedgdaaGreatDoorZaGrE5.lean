import Derived.Test.YtjgbhhnghedgdaaGreatDoorZaGrQ
set_option linter.all false
namespace Go.Proofs.YtjgbhhnghedgdaaGreatDoor
open Go.RowKit
set_option maxRecDepth 100000
set_option maxHeartbeats 4000000
theorem Dc (l:List Int) (k:Nat) (g:gK) (hk:k≤l.length) (hl:l.length≤9223372036854775807) (hG:nT g):ga Tryz.prog 16 [.addr 1000000000000 0,.agg (bB g)] (zg l k) (.agg (aT (va l g k).1)) (zg l (va l g k).2) :=
 Gd l k (dS l k) (dS l (dS l k)) (gV l k 11) (gV l (dS l k) 10) _ _ g hl hG rfl (by have:=lE l k (n:=11) ah;omega) (by have:=lE l (dS l k) (n:=10) ah;omega) (dN (dN hk)) (dE l k 11 hk hl (by decide) (by decide)) (dE l (dS l k) 10 (dN hk) hl (by decide) (by decide)) (HY (by have:=lE l k (n:=11) ah;omega))
theorem Gc (a:List eF) (x:eF):af aT a++aT x=af aT (a++ [x]):=fV a x
theorem KA (c:sQ) (k:Nat):vC c k<1024:=(xz c k 10).1
theorem FQ (l:List Int) (c:sQ) (k n:Nat) (hn:n≤100) (hk:k≤l.length) (hl:l.length≤9223372036854775807) (hC:DK c 1000):ga Tryz.prog 14 [.addr 1000000000000 0,.agg (kT c),ai n] (zg l k) (.agg (kT (dj l (c,k) n).1)) (zg l (dj l (c,k) n).2):=by
 unfold zg
 refine m5 Tryz.func14 55<|zq<|zS<|zq<|zB 0 (zL (fun (i:Nat)=>(⟨[(6,AV.addr 6 0),(4,AV.addr 4 0),(0,AV.addr 1000000000000 0),(1,AV.agg [ai c.bP.aB,aw c.bP.head,ai c.bP.bt,AV.sl 4 (af aH c.bP.al),AV.sl 7 (af bc c.bP.aK),AV.sl 17 (af aT c.log),ai (c.nx 0),ai (c.nx 1),ai (c.nx 2),ai (c.nx 3),ai (c.nx 4),ai (c.nx 5),ai (c.nx 6),ai (c.nx 7),ai (c.nx 8),ai (c.nx 9)]),(2,ai ↑n),(7,ai i)],[(6,⟨1,false,true,[ai 0,cO,ai 0,AV.nil,AV.nil,AV.nil,ai 0,ai 0,ai 0,ai 0,ai 0,ai 0,ai 0,ai 0,ai 0,ai 0]⟩),(4,⟨1,false,true,kT (dj l (c,k) i).1⟩),(1000000000000,⟨1,false,true,[.sl 1 (ax l),ai (dj l (c,k) i).2]⟩)]⟩:AS)) (fun i=>(i≤n)) (fun i=>(n-i)) (0) ?_ (zW [.ae [6,4,0,1,2,7] [6,4,1000000000000]]) ?_)
 ·omega
 intro i hi
 obtain ⟨hB,r9⟩:=CG l (s:=(c,k)) hC hk i
 by_cases c1:i<n
 case neg =>
  have e:i=n:=ah
  subst e
  refine zS<|zP 1 [yH ([(6,{b:=false})]++yg [4,5])] [.ae [18,6,4,0,1,2,7] [6,4,1000000000000]] (yM 3 (yF ((↑i:Int)<(↑i:Int))))<|zF 18<|zE 0<|a7<|aO<|bn<|ak<|zP 1 [{}] [.ae [18,6,4,0,1,2,7] [6,4,1000000000000]] [yL 16 16]<|zR (zG [] [yR (Value.int .i64 (dj l (c,k) i).fst.bP.aB),yR (Value.int .u64 (wv (dj l (c,k) i).fst.bP.head)),yR (Value.int .i64 (dj l (c,k) i).fst.bP.bt),yR (af aH (dj l (c,k) i).fst.bP.al),yR (af bc (dj l (c,k) i).fst.bP.aK),yR (af aT (dj l (c,k) i).fst.log),yR (Value.int .i64 ((dj l (c,k) i).fst.nx 0)),yR (Value.int .i64 ((dj l (c,k) i).fst.nx 1)),yR (Value.int .i64 ((dj l (c,k) i).fst.nx 2)),yR (Value.int .i64 ((dj l (c,k) i).fst.nx 3)),yR (Value.int .i64 ((dj l (c,k) i).fst.nx 4)),yR (Value.int .i64 ((dj l (c,k) i).fst.nx 5)),yR (Value.int .i64 ((dj l (c,k) i).fst.nx 6)),yR (Value.int .i64 ((dj l (c,k) i).fst.nx 7)),yR (Value.int .i64 ((dj l (c,k) i).fst.nx 8)),yR (Value.int .i64 ((dj l (c,k) i).fst.nx 9)),yR [AV.sl 1 (ax l),ai (↑(dj l (c,k) i).snd:Int)]])
 have N0:=Fz l (dj l (c,k) i).2 r9 hl
 by_cases c2:(dj l (c,k) i).2<l.length
 case neg =>
  have hs:=wO l (c,k) c2 (n-i)
  rw [show i+(n-i)=n by omega] at hs
  rw [decide_eq_false c2] at N0
  rw [←hs] at N0 ⊢
  refine zS<|zP 1 [yH [(5,{av:=some (ao false),ln:=[(1000000000000,1000000000000)],ho:=[(1000000000000,Row.mk 1 false true [AV.sl 1 (ax l),ai (↑(dj l (c,k) n).snd:Int)])]})]] [.ae [18,6,4,0,1,2,7] [1000000000000,6,4]] (yM 2 (yT ((↑i:Int)<(↑n:Int)))++ [yI N0,yB ([AV.sl 1 (ax l),ai (↑(dj l (c,k) n).snd:Int)].length= [AV.sl 1 (ax l),ai (↑(dj l (c,k) n).snd:Int)].length∧0< [AV.sl 1 (ax l),ai (↑(dj l (c,k) n).snd:Int)].length) ⟨rfl,Nat.succ_pos _⟩,yT ((↑i:Int)<(↑n:Int))])<|zF 18<|zE 0<|a7<|aO<|bn<|ak<|zP 1 [{}] [.ae [18,6,4,0,1,2,7] [6,1000000000000,4]] [yL 16 16]<|zR (zG [] [yR (Value.int .i64 (dj l (c,k) n).fst.bP.aB),yR (Value.int .u64 (wv (dj l (c,k) n).fst.bP.head)),yR (Value.int .i64 (dj l (c,k) n).fst.bP.bt),yR (af aH (dj l (c,k) n).fst.bP.al),yR (af bc (dj l (c,k) n).fst.bP.aK),yR (af aT (dj l (c,k) n).fst.log),yR (Value.int .i64 ((dj l (c,k) n).fst.nx 0)),yR (Value.int .i64 ((dj l (c,k) n).fst.nx 1)),yR (Value.int .i64 ((dj l (c,k) n).fst.nx 2)),yR (Value.int .i64 ((dj l (c,k) n).fst.nx 3)),yR (Value.int .i64 ((dj l (c,k) n).fst.nx 4)),yR (Value.int .i64 ((dj l (c,k) n).fst.nx 5)),yR (Value.int .i64 ((dj l (c,k) n).fst.nx 6)),yR (Value.int .i64 ((dj l (c,k) n).fst.nx 7)),yR (Value.int .i64 ((dj l (c,k) n).fst.nx 8)),yR (Value.int .i64 ((dj l (c,k) n).fst.nx 9)),yR [AV.sl 1 (ax l),ai (↑(dj l (c,k) n).snd:Int)]])
 rw [decide_eq_true c2] at N0
 have dP:dj l (c,k) (i+1)=CH l (dj l (c,k) i):=if_pos c2
 generalize dj l (c,k) i=s at *
 obtain ⟨C,k0⟩:=s
 obtain ⟨h1,h2,h3,h4⟩:=hB
 simp only at r9 c2 N0 h1 h2 h3 h4 ⊢
 have N1:=Dc l k0 C.bP r9 hl h1
 obtain ⟨b1,b2,b3⟩:=Jh l C.bP k0 r9 h1.m8
 have hS:uN l (C,k0)=bH (va l C.bP k0).1 C.nx (vC C (gV l (va l C.bP k0).2 10)) 10:=rfl
 have hA:(CH l (C,k0)).2=dS l (va l C.bP k0).2:=rfl
 have FL:(CH l (C,k0)).1=if fI C.bP (uN l (C,k0)).1=0 then ⟨iq C.bP (uN l (C,k0)).1,C.log++ [(uN l (C,k0)).1],(uN l (C,k0)).2⟩ else C:=rfl
 generalize CH l (C,k0)=G1 at *
 generalize uN l (C,k0)=S at *
 generalize va l C.bP k0=E at *
 have N2:=dE l E.2 10 b3 hl (by decide) (by decide)
 have hx:=lE l E.2 (n:=10) (by decide)
 unfold zg at N1
 obtain ⟨E,k1⟩:=E
 simp only at b1 b2 b3 hS hA N1 N2 hx
 generalize gV l k1 10=x at *
 generalize dS l k1=k2 at *
 have hq:=B9 C x ah h1.m8
 have QI:=BR (fun e he=>nn e he) C E (vC C x) (KA C x) b1 (by rw [b2];exact Nat.zero_le _)
 have Pw:=xh b1 C.nx (vC C x) 10
 rw [←hS] at QI Pw
 obtain ⟨e,nx⟩:=S
 simp only at FL QI Pw
 have Md:=pP C.bP e h1 Pw.1 (by have:=Pw.2;rw [b2] at this;simp at this;omega) (nn e Pw.1)
 obtain ⟨G,k3⟩:=G1
 simp only at hA FL
 subst hA
 by_cases c3:fI C.bP e=0
 ·rw [if_pos c3] at FL
  subst FL
  rw [c3] at Md
  have s1:=Gc C.log e
  refine zS<|zP 1 [yH [(5,{av:=some (ao true),ln:=[(1000000000000,1000000000000)],ho:=[(1000000000000,Row.mk 1 false true [AV.sl 1 (ax l),ai ↑k0])]})]] [.ae [18,6,4,0,1,2,7] [1000000000000,6,4]] (yM 2 (yT ((↑i:Int)<(↑n:Int)))++ [yI N0,yB ([AV.sl 1 (ax l),ai ↑k0].length= [AV.sl 1 (ax l),ai ↑k0].length∧0< [AV.sl 1 (ax l),ai ↑k0].length) ⟨rfl,Nat.succ_pos _⟩,yT ((↑i:Int)<(↑n:Int))])<|zT 18<|a_<|zS<|zB 1<|zS<|SZ 15 12 [4,7] [13,14] [(4,{av:=some (AV.agg (aT E)),ln:=[(1000000000000,1000000000000)],ho:=[(1000000000000,Row.mk 1 false true [AV.sl 1 (ax l),ai ↑k1])]}),(7,{av:=some (ai ↑x),ln:=[(1000000000000,1000000000000)],ho:=[(1000000000000,Row.mk 1 false true [AV.sl 1 (ax l),ai ↑k3])]}),(8,yV (ai (↑(vC C x):Int))),(9,{av:=some (AV.bq [AV.agg (aT e),AV.arr (xC nx)]),b:=false})] ([yI N1,yB ([AV.sl 1 (ax l),ai ↑k0].length= [AV.sl 1 (ax l),ai ↑k1].length∧0< [AV.sl 1 (ax l),ai ↑k1].length) ⟨rfl,Nat.succ_pos _⟩]++yM 2 (yR (AV.agg [ai C.bP.aB,aw C.bP.head,ai C.bP.bt,AV.sl 4 (af aH C.bP.al),AV.sl 7 (af bc C.bP.aK),AV.sl 17 (af aT C.log),ai (C.nx 0),ai (C.nx 1),ai (C.nx 2),ai (C.nx 3),ai (C.nx 4),ai (C.nx 5),ai (C.nx 6),ai (C.nx 7),ai (C.nx 8),ai (C.nx 9)]))++ [yR (AV.addr 1000000000000 0),yI N2,yB ([AV.sl 1 (ax l),ai ↑k1].length= [AV.sl 1 (ax l),ai ↑k3].length∧0< [AV.sl 1 (ax l),ai ↑k3].length) ⟨rfl,Nat.succ_pos _⟩]++yM 2 (yR (AV.agg [ai C.bP.aB,aw C.bP.head,ai C.bP.bt,AV.sl 4 (af aH C.bP.al),AV.sl 7 (af bc C.bP.aK),AV.sl 17 (af aT C.log),ai (C.nx 0),ai (C.nx 1),ai (C.nx 2),ai (C.nx 3),ai (C.nx 4),ai (C.nx 5),ai (C.nx 6),ai (C.nx 7),ai (C.nx 8),ai (C.nx 9)]))++ [yI hq,yI QI,yL 17 17,yL 17 17,yL 10 10])<|ak<|bf.sv [.ae [9,8,18,6,4,0,1,2,7] [9,8,1000000000000,6,4]] bh<|zP 2 [yH [(3,{av:=some (AV.bq [AV.agg (bB (iq C.bP e)),ai 0]),b:=false})],{}] [.ae [42,11,10,9,8,18,6,4,0,1,2,7] [10,9,8,1000000000000,6,4]] [yI Md,yL 5 5]<|du 42 ((0:Int) == (0:Int)) fb<|zS<|y9 4 [3] [(1,yV (AV.agg [ai (nx 0),ai (nx 1),ai (nx 2),ai (nx 3),ai (nx 4),ai (nx 5),ai (nx 6),ai (nx 7),ai (nx 8),ai (nx 9)]))] [yR [ai (nx 0),ai (nx 1),ai (nx 2),ai (nx 3),ai (nx 4),ai (nx 5),ai (nx 6),ai (nx 7),ai (nx 8),ai (nx 9)],yR 10,yL 5 16,yR (AV.agg [ai (nx 0),ai (nx 1),ai (nx 2),ai (nx 3),ai (nx 4),ai (nx 5),ai (nx 6),ai (nx 7),ai (nx 8),ai (nx 9)]),yR [ai (nx 0),ai (nx 1),ai (nx 2),ai (nx 3),ai (nx 4),ai (nx 5),ai (nx 6),ai (nx 7),ai (nx 8),ai (nx 9)],yR 10,yL 16 16]<|ak<|bf.sv [.ae [45,42,11,10,9,8,18,6,4,0,1,2,7] [4,10,9,8,1000000000000,6]] bh<|y9 5 [2] [(2,{b:=false}),(5,yV (AV.arr (af aT (C.log++ [e]))))] [yB (cE (af aT C.log)) (dD (fun x=>dJ rfl) _),yB ((0+(af aT C.log).length)*208≤2392537302040576) (by simp only [aF (f:=aT) (e:=17) (fun _=>rfl)];omega),yR (AV.agg (aT e)),yR (AV.sl 17 (aT e)),yI s1,yB (((af aT C.log).length+17)*208≤2392537302040576) (by simp only [aF (f:=aT) (e:=17) (fun _=>rfl)];omega),yL 6 16]<|aM<|ak<|zX (yH [(1,yV (ai ((↑i:Int)+1)))]) [yN ((↑i:Int)+1)] (aJ (i+1) (by assumption) ah (eK [.gN 52,.ae [6,4,0,1,2,7] [6,4,1000000000000]] [] [4,1000000000000] [yB (List.map (aD 8) (cN 9 (cN 10 (Row.mk 1 false true (List.map (lP 52 (Row.mk 17 true false (af aT (C.log++ [e])))) ((List.map (aD 52) (cN 49 (Row.mk 1 false true (List.map (aD 49) (List.take 6 (List.take 0 (List.map (aD 10) (kT C))++(bB (iq C.bP e))++List.drop 5 (List.map (aD 10) (kT C)))++ [ai (nx 0),ai (nx 1),ai (nx 2),ai (nx 3),ai (nx 4),ai (nx 5),ai (nx 6),ai (nx 7),ai (nx 8),ai (nx 9)]++List.drop 16 (List.take 0 (List.map (aD 10) (kT C))++(bB (iq C.bP e))++List.drop 5 (List.map (aD 10) (kT C))))))).cells).set 5 (bp (AS.mk [(53,AV.addr 4 5),(52,AV.ref 52),(47,AV.addr 4 5),(48,AV.sl 17 (af aT C.log)),(49,AV.dead),(50,AV.agg (aT e)),(51,AV.sl 17 (aT e)),(45,AV.addr 4 0),(42,ao ((0:Int) == (0:Int))),(11,ai 0),(10,AV.addr 10 0),(9,AV.addr 9 0),(8,AV.addr 8 0),(18,ao true),(6,AV.addr 6 0),(4,AV.addr 4 0),(0,AV.addr 1000000000000 0),(1,AV.agg [ai c.bP.aB,aw c.bP.head,ai c.bP.bt,AV.sl 4 (af aH c.bP.al),AV.sl 7 (af bc c.bP.aK),AV.sl 17 (af aT c.log),ai (c.nx 0),ai (c.nx 1),ai (c.nx 2),ai (c.nx 3),ai (c.nx 4),ai (c.nx 5),ai (c.nx 6),ai (c.nx 7),ai (c.nx 8),ai (c.nx 9)]),(2,ai ↑n),(7,ai ↑i)] [(52,Row.mk 17 true false (af aT (C.log++ [e]))),(4,Row.mk 1 false true (List.map (aD 52) (cN 49 (Row.mk 1 false true (List.map (aD 49) (List.take 6 (List.take 0 (List.map (aD 10) (kT C))++(bB (iq C.bP e))++List.drop 5 (List.map (aD 10) (kT C)))++ [ai (nx 0),ai (nx 1),ai (nx 2),ai (nx 3),ai (nx 4),ai (nx 5),ai (nx 6),ai (nx 7),ai (nx 8),ai (nx 9)]++List.drop 16 (List.take 0 (List.map (aD 10) (kT C))++(bB (iq C.bP e))++List.drop 5 (List.map (aD 10) (kT C))))))).cells)),(10,Row.mk 1 false true (bB (iq C.bP e))),(9,Row.mk 1 false true (List.map (aD 52) (cN 49 (Row.mk 1 false true (List.map (aD 49) (List.map (aD 10) (match xC nx with| [x]=>[ai 0,ai 0,ai 0,ai 0,ai 0,ai 0,ai 0,ai 0,ai 0,ai 0].set 0 x|l=>List.take 0 [ai 0,ai 0,ai 0,ai 0,ai 0,ai 0,ai 0,ai 0,ai 0,ai 0]++l++List.drop (0+l.length) [ai 0,ai 0,ai 0,ai 0,ai 0,ai 0,ai 0,ai 0,ai 0,ai 0]))))).cells)),(8,Row.mk 1 false true (aT e)),(1000000000000,Row.mk 1 false true [AV.sl 1 (ax l),ai ↑k3]),(6,Row.mk 1 false true [ai 0,cO,ai 0,AV.nil,AV.nil,AV.nil,ai 0,ai 0,ai 0,ai 0,ai 0,ai 0,ai 0,ai 0,ai 0,ai 0])]) (Operand.tmp 52))))))).cells=kT (dj l (c,k) (i+1)).fst) (by rw [dP];rfl),yB ([AV.sl 1 (ax l),ai ↑k3]= [AV.sl 1 (ax l),ai (↑(dj l (c,k) (i+1)).snd:Int)]) (by rw [dP])]))
 ·rw [if_neg c3] at FL
  subst FL
  rw [ti c3] at Md
  refine zS<|zP 1 [yH [(5,{av:=some (ao true),ln:=[(1000000000000,1000000000000)],ho:=[(1000000000000,Row.mk 1 false true [AV.sl 1 (ax l),ai ↑k0])]})]] [.ae [18,6,4,0,1,2,7] [1000000000000,6,4]] (yM 2 (yT ((↑i:Int)<(↑n:Int)))++ [yI N0,yB ([AV.sl 1 (ax l),ai ↑k0].length= [AV.sl 1 (ax l),ai ↑k0].length∧0< [AV.sl 1 (ax l),ai ↑k0].length) (by simp [c3]),yT ((↑i:Int)<(↑n:Int))])<|zT 18<|a_<|zS<|zB 1<|zS<|SZ 15 12 [4,7] [13,14] [(4,{av:=some (AV.agg (aT E)),ln:=[(1000000000000,1000000000000)],ho:=[(1000000000000,Row.mk 1 false true [AV.sl 1 (ax l),ai ↑k1])]}),(7,{av:=some (ai ↑x),ln:=[(1000000000000,1000000000000)],ho:=[(1000000000000,Row.mk 1 false true [AV.sl 1 (ax l),ai ↑k3])]}),(8,yV (ai (↑(vC G x):Int))),(9,{av:=some (AV.bq [AV.agg (aT e),AV.arr (xC nx)]),b:=false})] ([yI N1,yB ([AV.sl 1 (ax l),ai ↑k0].length= [AV.sl 1 (ax l),ai ↑k1].length∧0< [AV.sl 1 (ax l),ai ↑k1].length) (by simp [c3])]++yM 2 (yR (AV.agg [ai G.bP.aB,aw G.bP.head,ai G.bP.bt,AV.sl 4 (af aH G.bP.al),AV.sl 7 (af bc G.bP.aK),AV.sl 17 (af aT G.log),ai (G.nx 0),ai (G.nx 1),ai (G.nx 2),ai (G.nx 3),ai (G.nx 4),ai (G.nx 5),ai (G.nx 6),ai (G.nx 7),ai (G.nx 8),ai (G.nx 9)]))++ [yR (AV.addr 1000000000000 0),yI N2,yB ([AV.sl 1 (ax l),ai ↑k1].length= [AV.sl 1 (ax l),ai ↑k3].length∧0< [AV.sl 1 (ax l),ai ↑k3].length) (by simp [c3])]++yM 2 (yR (AV.agg [ai G.bP.aB,aw G.bP.head,ai G.bP.bt,AV.sl 4 (af aH G.bP.al),AV.sl 7 (af bc G.bP.aK),AV.sl 17 (af aT G.log),ai (G.nx 0),ai (G.nx 1),ai (G.nx 2),ai (G.nx 3),ai (G.nx 4),ai (G.nx 5),ai (G.nx 6),ai (G.nx 7),ai (G.nx 8),ai (G.nx 9)]))++ [yI hq,yI QI,yL 17 17,yL 17 17,yL 10 10])<|ak<|bf.sv [.ae [9,8,18,6,4,0,1,2,7] [9,8,1000000000000,6,4]] bh<|zP 2 [yH [(3,{av:=some (AV.bq [AV.agg (bB G.bP),ai (fI G.bP e)]),b:=false})],yH [(1,yV (ao false))]] [.ae [42,11,10,9,8,18,6,4,0,1,2,7] [10,9,8,1000000000000,6,4]] [yI Md,yL 5 5,yB (ao (fI G.bP e == (0:Int))=ao false) (by simp [c3])]<|zF 42<|zK<|aM<|ak<|zX (yH [(1,yV (ai ((↑i:Int)+1)))]) [yN ((↑i:Int)+1)] (aJ (i+1) (by assumption) ah (eK [.ae [6,4,0,1,2,7] [6,4,1000000000000]] [] [4,1000000000000] [yB (List.map (aD 8) (cN 9 (cN 10 (Row.mk 1 false true (List.map (aD 10) (kT G))))).cells=kT (dj l (c,k) (i+1)).fst) (by rw [dP];rfl),yB ([AV.sl 1 (ax l),ai ↑k3]= [AV.sl 1 (ax l),ai (↑(dj l (c,k) (i+1)).snd:Int)]) (by rw [dP])]))
end Go.Proofs.YtjgbhhnghedgdaaGreatDoor
