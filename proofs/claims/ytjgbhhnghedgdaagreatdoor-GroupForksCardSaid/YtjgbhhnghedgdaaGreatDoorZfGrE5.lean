import Derived.Test.YtjgbhhnghedgdaaGreatDoorZfGrQ
set_option linter.all false
namespace Go.Proofs.YtjgbhhnghedgdaaGreatDoor
open Go.RowKit
set_option maxRecDepth 100000
set_option maxHeartbeats 4000000
theorem Eu (l:List Int) (k:Nat) (g:fG) (hk:k≤l.length) (hl:l.length≤9223372036854775807) (hG:ni g):gw Tryz.prog 16 [.addr 1000000000000 0,.agg (de g)] (AL l k) (.agg (aG (tS l g k).1)) (AL l (tS l g k).2) :=
 HA l k (dW l k) (dW l (dW l k)) (ik l k 11) (ik l (dW l k) 10) _ _ g hl hG rfl (by have:=l3 l k (n:=11) ag;omega) (by have:=l3 l (dW l k) (n:=10) ag;omega) (dU (dU hk)) (dL l k 11 hk hl (by decide) (by decide)) (dL l (dW l k) 10 (dU hk) hl (by decide) (by decide)) (Jm (by have:=l3 l k (n:=11) ag;omega))
theorem Hz (a:List dj) (x:dj):ae aG a++aG x=ae aG (a++ [x]):=fS a x
theorem LS (c:rA) (k:Nat):Bw c k<1024:=(zb c k 10).1
theorem si (l:List Int) (c:rA) (k n:Nat) (hn:n≤100) (hk:k≤l.length) (hl:l.length≤9223372036854775807) (hC:wT c 1000):gw Tryz.prog 14 [.addr 1000000000000 0,.agg (ll c),ai n] (AL l k) (.agg (ll (c_ l (c,k) n).1)) (AL l (c_ l (c,k) n).2):=by
 unfold AL
 refine nw Tryz.func14 55<|zq<|zS<|zq<|zB 0 (zL (fun (i:Nat)=>(⟨[(6,AV.addr 6 0),(4,AV.addr 4 0),(0,AV.addr 1000000000000 0),(1,AV.agg [ai c.b7.aC,aw c.b7.head,ai c.b7.bm,AV.sl 4 (ae aN c.b7.aq),AV.sl 7 (ae bk c.b7.aR),AV.sl 17 (ae aG c.log),ai (c.nx 0),ai (c.nx 1),ai (c.nx 2),ai (c.nx 3),ai (c.nx 4),ai (c.nx 5),ai (c.nx 6),ai (c.nx 7),ai (c.nx 8),ai (c.nx 9)]),(2,ai ↑n),(7,ai i)],[(6,⟨1,false,true,[ai 0,dY,ai 0,AV.nil,AV.nil,AV.nil,ai 0,ai 0,ai 0,ai 0,ai 0,ai 0,ai 0,ai 0,ai 0,ai 0]⟩),(4,⟨1,false,true,ll (c_ l (c,k) i).1⟩),(1000000000000,⟨1,false,true,[.sl 1 (ax l),ai (c_ l (c,k) i).2]⟩)]⟩:AS)) (fun i=>(i≤n)) (fun i=>(n-i)) (0) ?_ (zW [.aa [6,4,0,1,2,7] [6,4,1000000000000]]) ?_)
 ·omega
 intro i hi
 obtain ⟨hB,tM⟩:=sg l (s:=(c,k)) hC hk i
 by_cases c1:i<n
 case neg =>
  have e:i=n:=ag
  subst e
  refine zS<|zP 1 [yH ([(6,{b:=false})]++yg [4,5])] [.aa [18,6,4,0,1,2,7] [6,4,1000000000000]] (yM 3 (yF ((↑i:Int)<(↑i:Int))))<|zF 18<|zE 0<|a7<|aP<|bp<|al<|zP 1 [{}] [.aa [18,6,4,0,1,2,7] [6,4,1000000000000]] [yL 16 16]<|zR (zG [] [yR (Value.int .i64 (c_ l (c,k) i).fst.b7.aC),yR (Value.int .u64 (wv (c_ l (c,k) i).fst.b7.head)),yR (Value.int .i64 (c_ l (c,k) i).fst.b7.bm),yR (ae aN (c_ l (c,k) i).fst.b7.aq),yR (ae bk (c_ l (c,k) i).fst.b7.aR),yR (ae aG (c_ l (c,k) i).fst.log),yR (Value.int .i64 ((c_ l (c,k) i).fst.nx 0)),yR (Value.int .i64 ((c_ l (c,k) i).fst.nx 1)),yR (Value.int .i64 ((c_ l (c,k) i).fst.nx 2)),yR (Value.int .i64 ((c_ l (c,k) i).fst.nx 3)),yR (Value.int .i64 ((c_ l (c,k) i).fst.nx 4)),yR (Value.int .i64 ((c_ l (c,k) i).fst.nx 5)),yR (Value.int .i64 ((c_ l (c,k) i).fst.nx 6)),yR (Value.int .i64 ((c_ l (c,k) i).fst.nx 7)),yR (Value.int .i64 ((c_ l (c,k) i).fst.nx 8)),yR (Value.int .i64 ((c_ l (c,k) i).fst.nx 9)),yR [AV.sl 1 (ax l),ai (↑(c_ l (c,k) i).snd:Int)]])
 have N0:=GZ l (c_ l (c,k) i).2 tM hl
 by_cases c2:(c_ l (c,k) i).2<l.length
 case neg =>
  have hs:=ya l (c,k) c2 (n-i)
  rw [show i+(n-i)=n by omega] at hs
  rw [decide_eq_false c2] at N0
  rw [←hs] at N0 ⊢
  refine zS<|zP 1 [yH [(5,yE [(1000000000000,1000000000000)] N0)]] [.aa [18,6,4,0,1,2,7] [1000000000000,6,4]] (yM 2 (yT ((↑i:Int)<(↑n:Int)))++ [yI N0,yB ([AV.sl 1 (ax l),ai (↑(c_ l (c,k) n).snd:Int)].length= [AV.sl 1 (ax l),ai (↑(c_ l (c,k) n).snd:Int)].length∧0< [AV.sl 1 (ax l),ai (↑(c_ l (c,k) n).snd:Int)].length) ⟨rfl,Nat.succ_pos _⟩,yT ((↑i:Int)<(↑n:Int))])<|zF 18<|zE 0<|a7<|aP<|bp<|al<|zP 1 [{}] [.aa [18,6,4,0,1,2,7] [6,1000000000000,4]] [yL 16 16]<|zR (zG [] [yR (Value.int .i64 (c_ l (c,k) n).fst.b7.aC),yR (Value.int .u64 (wv (c_ l (c,k) n).fst.b7.head)),yR (Value.int .i64 (c_ l (c,k) n).fst.b7.bm),yR (ae aN (c_ l (c,k) n).fst.b7.aq),yR (ae bk (c_ l (c,k) n).fst.b7.aR),yR (ae aG (c_ l (c,k) n).fst.log),yR (Value.int .i64 ((c_ l (c,k) n).fst.nx 0)),yR (Value.int .i64 ((c_ l (c,k) n).fst.nx 1)),yR (Value.int .i64 ((c_ l (c,k) n).fst.nx 2)),yR (Value.int .i64 ((c_ l (c,k) n).fst.nx 3)),yR (Value.int .i64 ((c_ l (c,k) n).fst.nx 4)),yR (Value.int .i64 ((c_ l (c,k) n).fst.nx 5)),yR (Value.int .i64 ((c_ l (c,k) n).fst.nx 6)),yR (Value.int .i64 ((c_ l (c,k) n).fst.nx 7)),yR (Value.int .i64 ((c_ l (c,k) n).fst.nx 8)),yR (Value.int .i64 ((c_ l (c,k) n).fst.nx 9)),yR [AV.sl 1 (ax l),ai (↑(c_ l (c,k) n).snd:Int)]])
 rw [decide_eq_true c2] at N0
 have dC:c_ l (c,k) (i+1)=xg l (c_ l (c,k) i):=if_pos c2
 generalize c_ l (c,k) i=s at *
 obtain ⟨C,k0⟩:=s
 obtain ⟨h1,h2,h3,h4⟩:=hB
 simp only at tM c2 N0 h1 h2 h3 h4 ⊢
 have N1:=Eu l k0 C.b7 tM hl h1
 obtain ⟨b1,b2,b3⟩:=Ey l C.b7 k0 tM h1.m8
 have hS:m6 l (C,k0)=bz (tS l C.b7 k0).1 C.nx (Bw C (ik l (tS l C.b7 k0).2 10)) 10:=rfl
 have hA:(xg l (C,k0)).2=dW l (tS l C.b7 k0).2:=rfl
 have Ha:(xg l (C,k0)).1=if eW C.b7 (m6 l (C,k0)).1=0 then ⟨ga C.b7 (m6 l (C,k0)).1,C.log++ [(m6 l (C,k0)).1],(m6 l (C,k0)).2⟩ else C:=rfl
 generalize xg l (C,k0)=G1 at *
 generalize m6 l (C,k0)=S at *
 generalize tS l C.b7 k0=E at *
 have N2:=dL l E.2 10 b3 hl (by decide) (by decide)
 have hx:=l3 l E.2 (n:=10) (by decide)
 unfold AL at N1
 obtain ⟨E,k1⟩:=E
 simp only at b1 b2 b3 hS hA N1 N2 hx
 generalize ik l k1 10=x at *
 generalize dW l k1=k2 at *
 have hq:=Dt C x ag h1.m8
 have PZ:=Dc (fun e he=>nS e he) C E (Bw C x) (LS C x) b1 (by rw [b2];exact Nat.zero_le _)
 have Q4:=yU b1 C.nx (Bw C x) 10
 rw [←hS] at PZ Q4
 obtain ⟨e,nx⟩:=S
 simp only at Ha PZ Q4
 have Ca:=y_ C.b7 e h1 Q4.1 (by have:=Q4.2;rw [b2] at this;simp at this;omega) (nS e Q4.1)
 obtain ⟨G,k3⟩:=G1
 simp only at hA Ha
 subst hA
 by_cases c3:eW C.b7 e=0
 ·rw [if_pos c3] at Ha
  subst Ha
  rw [c3] at Ca
  have s1:=Hz C.log e
  refine zS<|zP 1 [yH [(5,yE [(1000000000000,1000000000000)] N0)]] [.aa [18,6,4,0,1,2,7] [1000000000000,6,4]] (yM 2 (yT ((↑i:Int)<(↑n:Int)))++ [yI N0,yB ([AV.sl 1 (ax l),ai ↑k0].length= [AV.sl 1 (ax l),ai ↑k0].length∧0< [AV.sl 1 (ax l),ai ↑k0].length) ⟨rfl,Nat.succ_pos _⟩,yT ((↑i:Int)<(↑n:Int))])<|zT 18<|a6<|zS<|zB 1<|zS<|UE 15 12 [4,7] [13,14] [(4,yE [(1000000000000,1000000000000)] N1),(7,yE [(1000000000000,1000000000000)] N2),(8,yC hq),(9,yD PZ)] ([yI N1,yB ([AV.sl 1 (ax l),ai ↑k0].length= [AV.sl 1 (ax l),ai ↑k1].length∧0< [AV.sl 1 (ax l),ai ↑k1].length) ⟨rfl,Nat.succ_pos _⟩]++yM 2 (yR (AV.agg [ai C.b7.aC,aw C.b7.head,ai C.b7.bm,AV.sl 4 (ae aN C.b7.aq),AV.sl 7 (ae bk C.b7.aR),AV.sl 17 (ae aG C.log),ai (C.nx 0),ai (C.nx 1),ai (C.nx 2),ai (C.nx 3),ai (C.nx 4),ai (C.nx 5),ai (C.nx 6),ai (C.nx 7),ai (C.nx 8),ai (C.nx 9)]))++ [yR (AV.addr 1000000000000 0),yI N2,yB ([AV.sl 1 (ax l),ai ↑k1].length= [AV.sl 1 (ax l),ai ↑k3].length∧0< [AV.sl 1 (ax l),ai ↑k3].length) ⟨rfl,Nat.succ_pos _⟩]++yM 2 (yR (AV.agg [ai C.b7.aC,aw C.b7.head,ai C.b7.bm,AV.sl 4 (ae aN C.b7.aq),AV.sl 7 (ae bk C.b7.aR),AV.sl 17 (ae aG C.log),ai (C.nx 0),ai (C.nx 1),ai (C.nx 2),ai (C.nx 3),ai (C.nx 4),ai (C.nx 5),ai (C.nx 6),ai (C.nx 7),ai (C.nx 8),ai (C.nx 9)]))++ [yI hq,yI PZ,yL 17 17,yL 17 17,yL 10 10])<|al<|bf.tD [.aa [9,8,18,6,4,0,1,2,7] [9,8,1000000000000,6,4]] bC<|zP 2 [yH [(3,yD Ca)],{}] [.aa [42,11,10,9,8,18,6,4,0,1,2,7] [10,9,8,1000000000000,6,4]] [yI Ca,yL 5 5]<|du 42 ((0:Int) == (0:Int)) fh<|zS<|yw 4 [3] [(1,yV (AV.agg [ai (nx 0),ai (nx 1),ai (nx 2),ai (nx 3),ai (nx 4),ai (nx 5),ai (nx 6),ai (nx 7),ai (nx 8),ai (nx 9)]))] [yR [ai (nx 0),ai (nx 1),ai (nx 2),ai (nx 3),ai (nx 4),ai (nx 5),ai (nx 6),ai (nx 7),ai (nx 8),ai (nx 9)],yR 10,yL 5 16,yR (AV.agg [ai (nx 0),ai (nx 1),ai (nx 2),ai (nx 3),ai (nx 4),ai (nx 5),ai (nx 6),ai (nx 7),ai (nx 8),ai (nx 9)]),yR [ai (nx 0),ai (nx 1),ai (nx 2),ai (nx 3),ai (nx 4),ai (nx 5),ai (nx 6),ai (nx 7),ai (nx 8),ai (nx 9)],yR 10,yL 16 16]<|al<|bf.tD [.aa [45,42,11,10,9,8,18,6,4,0,1,2,7] [4,10,9,8,1000000000000,6]] bC<|yw 5 [2] [(2,{b:=false}),(5,yV (AV.arr (ae aG (C.log++ [e]))))] [yB (cC (ae aG C.log)) (dJ (fun x=>dQ rfl) _),yB ((0+(ae aG C.log).length)*208≤2392537302040576) (by simp only [aA (f:=aG) (e:=17) (fun _=>rfl)];omega),yR (AV.agg (aG e)),yR (AV.sl 17 (aG e)),yI s1,yB (((ae aG C.log).length+17)*208≤2392537302040576) (by simp only [aA (f:=aG) (e:=17) (fun _=>rfl)];omega),yL 6 16]<|aK<|al<|zX (yH [(1,yV (ai ((↑i:Int)+1)))]) [yN ((↑i:Int)+1)] (aF (i+1) (by assumption) ag (eX [.gM 52,.aa [6,4,0,1,2,7] [6,4,1000000000000]] [] [4,1000000000000] [yB (List.map (aH 8) (cF 9 (cF 10 (Row.mk 1 false true (List.map (lD 52 (Row.mk 17 true false (ae aG (C.log++ [e])))) ((List.map (aH 52) (cF 49 (Row.mk 1 false true (List.map (aH 49) (List.take 6 (List.take 0 (List.map (aH 10) (ll C))++(de (ga C.b7 e))++List.drop 5 (List.map (aH 10) (ll C)))++ [ai (nx 0),ai (nx 1),ai (nx 2),ai (nx 3),ai (nx 4),ai (nx 5),ai (nx 6),ai (nx 7),ai (nx 8),ai (nx 9)]++List.drop 16 (List.take 0 (List.map (aH 10) (ll C))++(de (ga C.b7 e))++List.drop 5 (List.map (aH 10) (ll C))))))).cells).set 5 (bq (AS.mk [(53,AV.addr 4 5),(52,AV.ref 52),(47,AV.addr 4 5),(48,AV.sl 17 (ae aG C.log)),(49,AV.dead),(50,AV.agg (aG e)),(51,AV.sl 17 (aG e)),(45,AV.addr 4 0),(42,ao ((0:Int) == (0:Int))),(11,ai 0),(10,AV.addr 10 0),(9,AV.addr 9 0),(8,AV.addr 8 0),(18,ao true),(6,AV.addr 6 0),(4,AV.addr 4 0),(0,AV.addr 1000000000000 0),(1,AV.agg [ai c.b7.aC,aw c.b7.head,ai c.b7.bm,AV.sl 4 (ae aN c.b7.aq),AV.sl 7 (ae bk c.b7.aR),AV.sl 17 (ae aG c.log),ai (c.nx 0),ai (c.nx 1),ai (c.nx 2),ai (c.nx 3),ai (c.nx 4),ai (c.nx 5),ai (c.nx 6),ai (c.nx 7),ai (c.nx 8),ai (c.nx 9)]),(2,ai ↑n),(7,ai ↑i)] [(52,Row.mk 17 true false (ae aG (C.log++ [e]))),(4,Row.mk 1 false true (List.map (aH 52) (cF 49 (Row.mk 1 false true (List.map (aH 49) (List.take 6 (List.take 0 (List.map (aH 10) (ll C))++(de (ga C.b7 e))++List.drop 5 (List.map (aH 10) (ll C)))++ [ai (nx 0),ai (nx 1),ai (nx 2),ai (nx 3),ai (nx 4),ai (nx 5),ai (nx 6),ai (nx 7),ai (nx 8),ai (nx 9)]++List.drop 16 (List.take 0 (List.map (aH 10) (ll C))++(de (ga C.b7 e))++List.drop 5 (List.map (aH 10) (ll C))))))).cells)),(10,Row.mk 1 false true (de (ga C.b7 e))),(9,Row.mk 1 false true (List.map (aH 52) (cF 49 (Row.mk 1 false true (List.map (aH 49) (List.map (aH 10) (match BE nx with| [x]=>[ai 0,ai 0,ai 0,ai 0,ai 0,ai 0,ai 0,ai 0,ai 0,ai 0].set 0 x|l=>List.take 0 [ai 0,ai 0,ai 0,ai 0,ai 0,ai 0,ai 0,ai 0,ai 0,ai 0]++l++List.drop (0+l.length) [ai 0,ai 0,ai 0,ai 0,ai 0,ai 0,ai 0,ai 0,ai 0,ai 0]))))).cells)),(8,Row.mk 1 false true (aG e)),(1000000000000,Row.mk 1 false true [AV.sl 1 (ax l),ai ↑k3]),(6,Row.mk 1 false true [ai 0,dY,ai 0,AV.nil,AV.nil,AV.nil,ai 0,ai 0,ai 0,ai 0,ai 0,ai 0,ai 0,ai 0,ai 0,ai 0])]) (Operand.tmp 52))))))).cells=ll (c_ l (c,k) (i+1)).fst) (by rw [dC];rfl),yB ([AV.sl 1 (ax l),ai ↑k3]= [AV.sl 1 (ax l),ai (↑(c_ l (c,k) (i+1)).snd:Int)]) (by rw [dC])]))
 ·rw [if_neg c3] at Ha
  subst Ha
  rw [ur c3] at Ca
  refine zS<|zP 1 [yH [(5,yE [(1000000000000,1000000000000)] N0)]] [.aa [18,6,4,0,1,2,7] [1000000000000,6,4]] (yM 2 (yT ((↑i:Int)<(↑n:Int)))++ [yI N0,yB ([AV.sl 1 (ax l),ai ↑k0].length= [AV.sl 1 (ax l),ai ↑k0].length∧0< [AV.sl 1 (ax l),ai ↑k0].length) (by simp [c3]),yT ((↑i:Int)<(↑n:Int))])<|zT 18<|a6<|zS<|zB 1<|zS<|UE 15 12 [4,7] [13,14] [(4,yE [(1000000000000,1000000000000)] N1),(7,yE [(1000000000000,1000000000000)] N2),(8,yC hq),(9,yD PZ)] ([yI N1,yB ([AV.sl 1 (ax l),ai ↑k0].length= [AV.sl 1 (ax l),ai ↑k1].length∧0< [AV.sl 1 (ax l),ai ↑k1].length) (by simp [c3])]++yM 2 (yR (AV.agg [ai G.b7.aC,aw G.b7.head,ai G.b7.bm,AV.sl 4 (ae aN G.b7.aq),AV.sl 7 (ae bk G.b7.aR),AV.sl 17 (ae aG G.log),ai (G.nx 0),ai (G.nx 1),ai (G.nx 2),ai (G.nx 3),ai (G.nx 4),ai (G.nx 5),ai (G.nx 6),ai (G.nx 7),ai (G.nx 8),ai (G.nx 9)]))++ [yR (AV.addr 1000000000000 0),yI N2,yB ([AV.sl 1 (ax l),ai ↑k1].length= [AV.sl 1 (ax l),ai ↑k3].length∧0< [AV.sl 1 (ax l),ai ↑k3].length) (by simp [c3])]++yM 2 (yR (AV.agg [ai G.b7.aC,aw G.b7.head,ai G.b7.bm,AV.sl 4 (ae aN G.b7.aq),AV.sl 7 (ae bk G.b7.aR),AV.sl 17 (ae aG G.log),ai (G.nx 0),ai (G.nx 1),ai (G.nx 2),ai (G.nx 3),ai (G.nx 4),ai (G.nx 5),ai (G.nx 6),ai (G.nx 7),ai (G.nx 8),ai (G.nx 9)]))++ [yI hq,yI PZ,yL 17 17,yL 17 17,yL 10 10])<|al<|bf.tD [.aa [9,8,18,6,4,0,1,2,7] [9,8,1000000000000,6,4]] bC<|zP 2 [yH [(3,yD Ca)],yH [(1,yV (ao false))]] [.aa [42,11,10,9,8,18,6,4,0,1,2,7] [10,9,8,1000000000000,6,4]] [yI Ca,yL 5 5,yB (ao (eW G.b7 e == (0:Int))=ao false) (by simp [c3])]<|zF 42<|zK<|aK<|al<|zX (yH [(1,yV (ai ((↑i:Int)+1)))]) [yN ((↑i:Int)+1)] (aF (i+1) (by assumption) ag (eX [.aa [6,4,0,1,2,7] [6,4,1000000000000]] [] [4,1000000000000] [yB (List.map (aH 8) (cF 9 (cF 10 (Row.mk 1 false true (List.map (aH 10) (ll G))))).cells=ll (c_ l (c,k) (i+1)).fst) (by rw [dC];rfl),yB ([AV.sl 1 (ax l),ai ↑k3]= [AV.sl 1 (ax l),ai (↑(c_ l (c,k) (i+1)).snd:Int)]) (by rw [dC])]))
end Go.Proofs.YtjgbhhnghedgdaaGreatDoor
