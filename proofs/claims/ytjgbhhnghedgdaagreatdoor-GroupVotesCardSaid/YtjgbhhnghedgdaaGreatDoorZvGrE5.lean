import Derived.Test.YtjgbhhnghedgdaaGreatDoorZvGrQ
set_option linter.all false
namespace Go.Proofs.YtjgbhhnghedgdaaGreatDoor
open Go.RowKit
set_option maxRecDepth 100000
set_option maxHeartbeats 4000000
theorem wq (l:List Int) (k:Nat) (g:ig) (hk:k≤l.length) (hl:l.length≤9223372036854775807) (hG:ry g):gn Tryz.prog 16 [.addr 1000000000000 0,.agg (dA g)] (Aw l k) (.agg (bf (tO l g k).1)) (Aw l (tO l g k).2) :=
 GR l k (eg l k) (eg l (eg l k)) (ia l k 11) (ia l (eg l k) 10) _ _ g hl hG rfl (by have:=lp l k (n:=11) ag;omega) (by have:=lp l (eg l k) (n:=10) ag;omega) (dS (dS hk)) (dt l k 11 hk hl (by decide) (by decide)) (dt l (eg l k) 10 (dS hk) hl (by decide) (by decide)) (IH (by have:=lp l k (n:=11) ag;omega))
theorem GQ (a:List fC) (x:fC):af bf a++bf x=af bf (a++ [x]):=fR a x
theorem Lb (c:tR) (k:Nat):Bi c k<1024:=(yX c k 10).1
theorem Gw (l:List Int) (c:tR) (k n:Nat) (hn:n≤100) (hk:k≤l.length) (hl:l.length≤9223372036854775807) (hC:Eo c 1000):gn Tryz.prog 14 [.addr 1000000000000 0,.agg (lr c),ai n] (Aw l k) (.agg (lr (dz l (c,k) n).1)) (Aw l (dz l (c,k) n).2):=by
 unfold Aw
 refine nC Tryz.func14 55<|zq<|zS<|zq<|zB 0 (zL (fun (i:Nat)=>(⟨[(6,AV.addr 6 0),(4,AV.addr 4 0),(0,AV.addr 1000000000000 0),(1,AV.agg [ai c.cH.aC,aw c.cH.head,ai c.cH.bA,AV.sl 4 (af aT c.cH.aq),AV.sl 7 (af bj c.cH.aU),AV.sl 17 (af bf c.log),ai (c.nx 0),ai (c.nx 1),ai (c.nx 2),ai (c.nx 3),ai (c.nx 4),ai (c.nx 5),ai (c.nx 6),ai (c.nx 7),ai (c.nx 8),ai (c.nx 9)]),(2,ai ↑n),(7,ai i)],[(6,⟨1,false,true,[ai 0,ez,ai 0,AV.nil,AV.nil,AV.nil,ai 0,ai 0,ai 0,ai 0,ai 0,ai 0,ai 0,ai 0,ai 0,ai 0]⟩),(4,⟨1,false,true,lr (dz l (c,k) i).1⟩),(1000000000000,⟨1,false,true,[.sl 1 (au l),ai (dz l (c,k) i).2]⟩)]⟩:AS)) (fun i=>(i≤n)) (fun i=>(n-i)) (0) ?_ (zW [.aa [6,4,0,1,2,7] [6,4,1000000000000]]) ?_)
 ·omega
 intro i hi
 obtain ⟨hB,w8⟩:=Dr l (s:=(c,k)) hC hk i
 by_cases c1:i<n
 case neg =>
  have e:i=n:=ag
  subst e
  refine zS<|zP 1 [yH ([(6,{b:=false})]++yg [4,5])] [.aa [18,6,4,0,1,2,7] [6,4,1000000000000]] (yM 3 (yF ((↑i:Int)<(↑i:Int))))<|zF 18<|zE 0<|a6<|aM<|bm<|al<|zP 1 [{}] [.aa [18,6,4,0,1,2,7] [6,4,1000000000000]] [yL 16 16]<|zR (zG [] [yR (Value.int .i64 (dz l (c,k) i).fst.cH.aC),yR (Value.int .u64 (wv (dz l (c,k) i).fst.cH.head)),yR (Value.int .i64 (dz l (c,k) i).fst.cH.bA),yR (af aT (dz l (c,k) i).fst.cH.aq),yR (af bj (dz l (c,k) i).fst.cH.aU),yR (af bf (dz l (c,k) i).fst.log),yR (Value.int .i64 ((dz l (c,k) i).fst.nx 0)),yR (Value.int .i64 ((dz l (c,k) i).fst.nx 1)),yR (Value.int .i64 ((dz l (c,k) i).fst.nx 2)),yR (Value.int .i64 ((dz l (c,k) i).fst.nx 3)),yR (Value.int .i64 ((dz l (c,k) i).fst.nx 4)),yR (Value.int .i64 ((dz l (c,k) i).fst.nx 5)),yR (Value.int .i64 ((dz l (c,k) i).fst.nx 6)),yR (Value.int .i64 ((dz l (c,k) i).fst.nx 7)),yR (Value.int .i64 ((dz l (c,k) i).fst.nx 8)),yR (Value.int .i64 ((dz l (c,k) i).fst.nx 9)),yR [AV.sl 1 (au l),ai (↑(dz l (c,k) i).snd:Int)]])
 have N0:=Gh l (dz l (c,k) i).2 w8 hl
 by_cases c2:(dz l (c,k) i).2<l.length
 case neg =>
  have hs:=xT l (c,k) c2 (n-i)
  rw [show i+(n-i)=n by omega] at hs
  rw [decide_eq_false c2] at N0
  rw [←hs] at N0 ⊢
  refine zS<|zP 1 [yH [(5,yE [(1000000000000,1000000000000)] N0)]] [.aa [18,6,4,0,1,2,7] [1000000000000,6,4]] (yM 2 (yT ((↑i:Int)<(↑n:Int)))++ [yI N0,yB ([AV.sl 1 (au l),ai (↑(dz l (c,k) n).snd:Int)].length= [AV.sl 1 (au l),ai (↑(dz l (c,k) n).snd:Int)].length∧0< [AV.sl 1 (au l),ai (↑(dz l (c,k) n).snd:Int)].length) ⟨rfl,Nat.succ_pos _⟩,yT ((↑i:Int)<(↑n:Int))])<|zF 18<|zE 0<|a6<|aM<|bm<|al<|zP 1 [{}] [.aa [18,6,4,0,1,2,7] [6,1000000000000,4]] [yL 16 16]<|zR (zG [] [yR (Value.int .i64 (dz l (c,k) n).fst.cH.aC),yR (Value.int .u64 (wv (dz l (c,k) n).fst.cH.head)),yR (Value.int .i64 (dz l (c,k) n).fst.cH.bA),yR (af aT (dz l (c,k) n).fst.cH.aq),yR (af bj (dz l (c,k) n).fst.cH.aU),yR (af bf (dz l (c,k) n).fst.log),yR (Value.int .i64 ((dz l (c,k) n).fst.nx 0)),yR (Value.int .i64 ((dz l (c,k) n).fst.nx 1)),yR (Value.int .i64 ((dz l (c,k) n).fst.nx 2)),yR (Value.int .i64 ((dz l (c,k) n).fst.nx 3)),yR (Value.int .i64 ((dz l (c,k) n).fst.nx 4)),yR (Value.int .i64 ((dz l (c,k) n).fst.nx 5)),yR (Value.int .i64 ((dz l (c,k) n).fst.nx 6)),yR (Value.int .i64 ((dz l (c,k) n).fst.nx 7)),yR (Value.int .i64 ((dz l (c,k) n).fst.nx 8)),yR (Value.int .i64 ((dz l (c,k) n).fst.nx 9)),yR [AV.sl 1 (au l),ai (↑(dz l (c,k) n).snd:Int)]])
 rw [decide_eq_true c2] at N0
 have dJ:dz l (c,k) (i+1)=Ds l (dz l (c,k) i):=if_pos c2
 generalize dz l (c,k) i=s at *
 obtain ⟨C,k0⟩:=s
 obtain ⟨h1,h2,h3,h4⟩:=hB
 simp only at w8 c2 N0 h1 h2 h3 h4 ⊢
 have N1:=wq l k0 C.cH w8 hl h1
 obtain ⟨b1,b2,b3⟩:=DX l C.cH k0 w8 h1.m8
 have hS:vP l (C,k0)=bB (tO l C.cH k0).1 C.nx (Bi C (ia l (tO l C.cH k0).2 10)) 10:=rfl
 have hA:(Ds l (C,k0)).2=eg l (tO l C.cH k0).2:=rfl
 have Cw:(Ds l (C,k0)).1=if gQ C.cH (vP l (C,k0)).1=0 then ⟨jC C.cH (vP l (C,k0)).1,C.log++ [(vP l (C,k0)).1],(vP l (C,k0)).2⟩ else C:=rfl
 generalize Ds l (C,k0)=G1 at *
 generalize vP l (C,k0)=S at *
 generalize tO l C.cH k0=E at *
 have N2:=dt l E.2 10 b3 hl (by decide) (by decide)
 have hx:=lp l E.2 (n:=10) (by decide)
 unfold Aw at N1
 obtain ⟨E,k1⟩:=E
 simp only at b1 b2 b3 hS hA N1 N2 hx
 generalize ia l k1 10=x at *
 generalize eg l k1=k2 at *
 have hq:=CV C x ag h1.m8
 have E7:=uO (fun e he=>lH e he) C E (Bi C x) (Lb C x) b1 (by rw [b2];exact Nat.zero_le _)
 have Lu:=uP b1 C.nx (Bi C x) 10
 rw [←hS] at E7 Lu
 obtain ⟨e,nx⟩:=S
 simp only at Cw E7 Lu
 have KI:=yU C.cH e h1 Lu.1 (by have:=Lu.2;rw [b2] at this;simp at this;omega) (lH e Lu.1)
 obtain ⟨G,k3⟩:=G1
 simp only at hA Cw
 subst hA
 by_cases c3:gQ C.cH e=0
 ·rw [if_pos c3] at Cw
  subst Cw
  rw [c3] at KI
  have s1:=GQ C.log e
  refine zS<|zP 1 [yH [(5,yE [(1000000000000,1000000000000)] N0)]] [.aa [18,6,4,0,1,2,7] [1000000000000,6,4]] (yM 2 (yT ((↑i:Int)<(↑n:Int)))++ [yI N0,yB ([AV.sl 1 (au l),ai ↑k0].length= [AV.sl 1 (au l),ai ↑k0].length∧0< [AV.sl 1 (au l),ai ↑k0].length) ⟨rfl,Nat.succ_pos _⟩,yT ((↑i:Int)<(↑n:Int))])<|zT 18<|a_<|zS<|zB 1<|zS<|R8 15 12 [4,7] [13,14] [(4,yE [(1000000000000,1000000000000)] N1),(7,yE [(1000000000000,1000000000000)] N2),(8,yC hq),(9,yD E7)] ([yI N1,yB ([AV.sl 1 (au l),ai ↑k0].length= [AV.sl 1 (au l),ai ↑k1].length∧0< [AV.sl 1 (au l),ai ↑k1].length) ⟨rfl,Nat.succ_pos _⟩]++yM 2 (yR (AV.agg [ai C.cH.aC,aw C.cH.head,ai C.cH.bA,AV.sl 4 (af aT C.cH.aq),AV.sl 7 (af bj C.cH.aU),AV.sl 17 (af bf C.log),ai (C.nx 0),ai (C.nx 1),ai (C.nx 2),ai (C.nx 3),ai (C.nx 4),ai (C.nx 5),ai (C.nx 6),ai (C.nx 7),ai (C.nx 8),ai (C.nx 9)]))++ [yR (AV.addr 1000000000000 0),yI N2,yB ([AV.sl 1 (au l),ai ↑k1].length= [AV.sl 1 (au l),ai ↑k3].length∧0< [AV.sl 1 (au l),ai ↑k3].length) ⟨rfl,Nat.succ_pos _⟩]++yM 2 (yR (AV.agg [ai C.cH.aC,aw C.cH.head,ai C.cH.bA,AV.sl 4 (af aT C.cH.aq),AV.sl 7 (af bj C.cH.aU),AV.sl 17 (af bf C.log),ai (C.nx 0),ai (C.nx 1),ai (C.nx 2),ai (C.nx 3),ai (C.nx 4),ai (C.nx 5),ai (C.nx 6),ai (C.nx 7),ai (C.nx 8),ai (C.nx 9)]))++ [yI hq,yI E7,yL 17 17,yL 17 17,yL 10 10])<|al<|bg.rz [.aa [9,8,18,6,4,0,1,2,7] [9,8,1000000000000,6,4]] bu<|zP 2 [yH [(3,yD KI)],{}] [.aa [42,11,10,9,8,18,6,4,0,1,2,7] [10,9,8,1000000000000,6,4]] [yI KI,yL 5 5]<|dB 42 ((0:Int) == (0:Int)) eJ<|zS<|Ax 4 [3] [(1,yV (AV.agg [ai (nx 0),ai (nx 1),ai (nx 2),ai (nx 3),ai (nx 4),ai (nx 5),ai (nx 6),ai (nx 7),ai (nx 8),ai (nx 9)]))] [yR [ai (nx 0),ai (nx 1),ai (nx 2),ai (nx 3),ai (nx 4),ai (nx 5),ai (nx 6),ai (nx 7),ai (nx 8),ai (nx 9)],yR 10,yL 5 16,yR (AV.agg [ai (nx 0),ai (nx 1),ai (nx 2),ai (nx 3),ai (nx 4),ai (nx 5),ai (nx 6),ai (nx 7),ai (nx 8),ai (nx 9)]),yR [ai (nx 0),ai (nx 1),ai (nx 2),ai (nx 3),ai (nx 4),ai (nx 5),ai (nx 6),ai (nx 7),ai (nx 8),ai (nx 9)],yR 10,yL 16 16]<|al<|bg.rz [.aa [45,42,11,10,9,8,18,6,4,0,1,2,7] [4,10,9,8,1000000000000,6]] bu<|Ax 5 [2] [(2,{b:=false}),(5,yV (AV.arr (af bf (C.log++ [e]))))] [yB (cp (af bf C.log)) (dm (fun x=>dr rfl) _),yB ((0+(af bf C.log).length)*208≤2392537302040576) (by simp only [aE (f:=bf) (e:=17) (fun _=>rfl)];omega),yR (AV.agg (bf e)),yR (AV.sl 17 (bf e)),yI s1,yB (((af bf C.log).length+17)*208≤2392537302040576) (by simp only [aE (f:=bf) (e:=17) (fun _=>rfl)];omega),yL 6 16]<|aJ<|al<|zX (yH [(1,yV (ai ((↑i:Int)+1)))]) [yN ((↑i:Int)+1)] (aH (i+1) (by assumption) ag (eS [.gR 52,.aa [6,4,0,1,2,7] [6,4,1000000000000]] [] [4,1000000000000] [yB (List.map (aF 8) (bE 9 (bE 10 (Row.mk 1 false true (List.map (me 52 (Row.mk 17 true false (af bf (C.log++ [e])))) ((List.map (aF 52) (bE 49 (Row.mk 1 false true (List.map (aF 49) (List.take 6 (List.take 0 (List.map (aF 10) (lr C))++(dA (jC C.cH e))++List.drop 5 (List.map (aF 10) (lr C)))++ [ai (nx 0),ai (nx 1),ai (nx 2),ai (nx 3),ai (nx 4),ai (nx 5),ai (nx 6),ai (nx 7),ai (nx 8),ai (nx 9)]++List.drop 16 (List.take 0 (List.map (aF 10) (lr C))++(dA (jC C.cH e))++List.drop 5 (List.map (aF 10) (lr C))))))).cells).set 5 (bq (AS.mk [(53,AV.addr 4 5),(52,AV.ref 52),(47,AV.addr 4 5),(48,AV.sl 17 (af bf C.log)),(49,AV.dead),(50,AV.agg (bf e)),(51,AV.sl 17 (bf e)),(45,AV.addr 4 0),(42,ao ((0:Int) == (0:Int))),(11,ai 0),(10,AV.addr 10 0),(9,AV.addr 9 0),(8,AV.addr 8 0),(18,ao true),(6,AV.addr 6 0),(4,AV.addr 4 0),(0,AV.addr 1000000000000 0),(1,AV.agg [ai c.cH.aC,aw c.cH.head,ai c.cH.bA,AV.sl 4 (af aT c.cH.aq),AV.sl 7 (af bj c.cH.aU),AV.sl 17 (af bf c.log),ai (c.nx 0),ai (c.nx 1),ai (c.nx 2),ai (c.nx 3),ai (c.nx 4),ai (c.nx 5),ai (c.nx 6),ai (c.nx 7),ai (c.nx 8),ai (c.nx 9)]),(2,ai ↑n),(7,ai ↑i)] [(52,Row.mk 17 true false (af bf (C.log++ [e]))),(4,Row.mk 1 false true (List.map (aF 52) (bE 49 (Row.mk 1 false true (List.map (aF 49) (List.take 6 (List.take 0 (List.map (aF 10) (lr C))++(dA (jC C.cH e))++List.drop 5 (List.map (aF 10) (lr C)))++ [ai (nx 0),ai (nx 1),ai (nx 2),ai (nx 3),ai (nx 4),ai (nx 5),ai (nx 6),ai (nx 7),ai (nx 8),ai (nx 9)]++List.drop 16 (List.take 0 (List.map (aF 10) (lr C))++(dA (jC C.cH e))++List.drop 5 (List.map (aF 10) (lr C))))))).cells)),(10,Row.mk 1 false true (dA (jC C.cH e))),(9,Row.mk 1 false true (List.map (aF 52) (bE 49 (Row.mk 1 false true (List.map (aF 49) (List.map (aF 10) (match Bo nx with| [x]=>[ai 0,ai 0,ai 0,ai 0,ai 0,ai 0,ai 0,ai 0,ai 0,ai 0].set 0 x|l=>List.take 0 [ai 0,ai 0,ai 0,ai 0,ai 0,ai 0,ai 0,ai 0,ai 0,ai 0]++l++List.drop (0+l.length) [ai 0,ai 0,ai 0,ai 0,ai 0,ai 0,ai 0,ai 0,ai 0,ai 0]))))).cells)),(8,Row.mk 1 false true (bf e)),(1000000000000,Row.mk 1 false true [AV.sl 1 (au l),ai ↑k3]),(6,Row.mk 1 false true [ai 0,ez,ai 0,AV.nil,AV.nil,AV.nil,ai 0,ai 0,ai 0,ai 0,ai 0,ai 0,ai 0,ai 0,ai 0,ai 0])]) (Operand.tmp 52))))))).cells=lr (dz l (c,k) (i+1)).fst) (by rw [dJ];rfl),yB ([AV.sl 1 (au l),ai ↑k3]= [AV.sl 1 (au l),ai (↑(dz l (c,k) (i+1)).snd:Int)]) (by rw [dJ])]))
 ·rw [if_neg c3] at Cw
  subst Cw
  rw [Am c3] at KI
  refine zS<|zP 1 [yH [(5,yE [(1000000000000,1000000000000)] N0)]] [.aa [18,6,4,0,1,2,7] [1000000000000,6,4]] (yM 2 (yT ((↑i:Int)<(↑n:Int)))++ [yI N0,yB ([AV.sl 1 (au l),ai ↑k0].length= [AV.sl 1 (au l),ai ↑k0].length∧0< [AV.sl 1 (au l),ai ↑k0].length) (by simp [c3]),yT ((↑i:Int)<(↑n:Int))])<|zT 18<|a_<|zS<|zB 1<|zS<|R8 15 12 [4,7] [13,14] [(4,yE [(1000000000000,1000000000000)] N1),(7,yE [(1000000000000,1000000000000)] N2),(8,yC hq),(9,yD E7)] ([yI N1,yB ([AV.sl 1 (au l),ai ↑k0].length= [AV.sl 1 (au l),ai ↑k1].length∧0< [AV.sl 1 (au l),ai ↑k1].length) (by simp [c3])]++yM 2 (yR (AV.agg [ai G.cH.aC,aw G.cH.head,ai G.cH.bA,AV.sl 4 (af aT G.cH.aq),AV.sl 7 (af bj G.cH.aU),AV.sl 17 (af bf G.log),ai (G.nx 0),ai (G.nx 1),ai (G.nx 2),ai (G.nx 3),ai (G.nx 4),ai (G.nx 5),ai (G.nx 6),ai (G.nx 7),ai (G.nx 8),ai (G.nx 9)]))++ [yR (AV.addr 1000000000000 0),yI N2,yB ([AV.sl 1 (au l),ai ↑k1].length= [AV.sl 1 (au l),ai ↑k3].length∧0< [AV.sl 1 (au l),ai ↑k3].length) (by simp [c3])]++yM 2 (yR (AV.agg [ai G.cH.aC,aw G.cH.head,ai G.cH.bA,AV.sl 4 (af aT G.cH.aq),AV.sl 7 (af bj G.cH.aU),AV.sl 17 (af bf G.log),ai (G.nx 0),ai (G.nx 1),ai (G.nx 2),ai (G.nx 3),ai (G.nx 4),ai (G.nx 5),ai (G.nx 6),ai (G.nx 7),ai (G.nx 8),ai (G.nx 9)]))++ [yI hq,yI E7,yL 17 17,yL 17 17,yL 10 10])<|al<|bg.rz [.aa [9,8,18,6,4,0,1,2,7] [9,8,1000000000000,6,4]] bu<|zP 2 [yH [(3,yD KI)],yH [(1,yV (ao false))]] [.aa [42,11,10,9,8,18,6,4,0,1,2,7] [10,9,8,1000000000000,6,4]] [yI KI,yL 5 5,yB (ao (gQ G.cH e == (0:Int))=ao false) (by simp [c3])]<|zF 42<|zK<|aJ<|al<|zX (yH [(1,yV (ai ((↑i:Int)+1)))]) [yN ((↑i:Int)+1)] (aH (i+1) (by assumption) ag (eS [.aa [6,4,0,1,2,7] [6,4,1000000000000]] [] [4,1000000000000] [yB (List.map (aF 8) (bE 9 (bE 10 (Row.mk 1 false true (List.map (aF 10) (lr G))))).cells=lr (dz l (c,k) (i+1)).fst) (by rw [dJ];rfl),yB ([AV.sl 1 (au l),ai ↑k3]= [AV.sl 1 (au l),ai (↑(dz l (c,k) (i+1)).snd:Int)]) (by rw [dJ])]))
end Go.Proofs.YtjgbhhnghedgdaaGreatDoor
