import Derived.Test.YtjgbhhnghedgdaaGreatDoorZfGrB1
set_option linter.all false
namespace Go.Proofs.YtjgbhhnghedgdaaGreatDoor
open Go.RowKit
set_option maxRecDepth 100000
set_option maxHeartbeats 4000000
structure l8 (e:dj):Prop where
 Sd:e.name.length≤1000
 dep:AG e.dep
theorem wa (e:dj) (h1:1≤e.kind) (h5:e.kind≤5) (hB:l8 e):bA Tryz.prog 74 [.agg (aG e)] (.b_ [.own 1 (ae dI (if ft e=0 then jh e else [])),ai (ft e)]):=by
 obtain ⟨hn,hd⟩:=hB
 have hz:=rH e.name hn
 by_cases k1:e.kind=1
 ·have hf:ft e=if eg e.name≠0 then eg e.name else gG e.kh:=if_pos k1
  by_cases c1:eg e.name=0
  case neg =>
   rw [if_pos c1] at hf
   have hv:(if ft e=0 then jh e else [])= []:=if_neg (by rw [hf];exact c1)
   rw [hv,hf]
   refine zO Tryz.func74 77<|zq<|zS<|zq<|zB 0<|zP 1 [{}] [.aa [10,9,3,2,1,0] [1]] []<|du 10 (e.kind == (1:Int)) fh<|zS<|zP 2 [yH [(2,yV (ai (eg e.name)))],yH [(1,yV (ao true))]] [.aa [16,4,10,9,3,2,1,0] [1]] [yI (eQ e.name hn),yB (ao (eg e.name != (0:Int))=ao true) (by simp [c1])]<|zT 16<|zq<|dk<|ba<|aI (bL)
  rw [if_neg ag] at hf
  by_cases c2:gG e.kh=0
  case neg =>
   have hv:(if ft e=0 then jh e else [])= []:=if_neg (by rw [hf];exact c2)
   rw [hv,hf]
   refine zO Tryz.func74 77<|zq<|zS<|zq<|zB 0<|zP 1 [{}] [.aa [10,9,3,2,1,0] [1]] []<|du 10 (e.kind == (1:Int)) fh<|zS<|zP 2 [yH [(2,yV (ai (eg e.name)))],yH [(1,yV (ao false))]] [.aa [16,4,10,9,3,2,1,0] [1]] [yI (eQ e.name hn),yB (ao (eg e.name != (0:Int))=ao false) (by simp [c1])]<|zF 16<|a6<|zP 1 [yH [(2,yC (dD (e.kh) (e.kr)))]] [.aa [6,5,16,4,10,9,3,2,1,0] [1021,1]] [yI (dD e.kh e.kr),yI (aQ (dP e.kh e.kr))]<|zS<|zQ 1 [yH [(1,yV (ao true))]] [yB (ao (gG e.kh != (0:Int))=ao true) (by simp [c2])]<|zT 25<|zP 1 [{}] [.aa [3,2,25,6,5,16,4,10,9,1,0] [1021,1]] []<|dk<|ba<|aI (bL)
  have hv:(if ft e=0 then jh e else [])= [[cL e.name],[fj (dP e.kh e.kr)]]:=by rw [if_pos ag];unfold jh gv;rw [if_neg ag,if_pos k1];rfl
  have gV:=nZ e.kh e.kr
  rw [hv,hf,c2]
  refine zO Tryz.func74 77<|zq<|zS<|zq<|zB 0<|zP 1 [{}] [.aa [10,9,3,2,1,0] [1]] []<|du 10 (e.kind == (1:Int)) fh<|zS<|zP 2 [yH [(2,yV (ai (eg e.name)))],yH [(1,yV (ao false))]] [.aa [16,4,10,9,3,2,1,0] [1]] [yI (eQ e.name hn),yB (ao (eg e.name != (0:Int))=ao false) (by simp [c1])]<|zF 16<|a6<|zP 1 [yH [(2,yC (dD (e.kh) (e.kr)))]] [.aa [6,5,16,4,10,9,3,2,1,0] [1021,1]] [yI (dD e.kh e.kr),yI (aQ (dP e.kh e.kr))]<|zS<|zQ 1 [yH [(1,yV (ao false))]] [yB (ao (gG e.kh != (0:Int))=ao false) (by simp [c2])]<|zF 25<|a6<|zP 1 [yH [(2,yD (me (e.name))),(4,yD (rk (dP e.kh e.kr) ag))]] [.aa [3,2,25,6,5,16,4,10,9,1,0] [32,1]] [yI (me e.name),yI (rk (dP e.kh e.kr) ag)]<|zR<|ba<|aI (bL)
 by_cases k2:e.kind=2
 ·have hf:ft e=eg e.name:=by unfold ft;rw [if_neg k1,if_pos k2]
  by_cases c1:eg e.name=0
  case neg =>
   have hv:(if ft e=0 then jh e else [])= []:=if_neg (by rw [hf];exact c1)
   rw [hv,hf]
   refine zO Tryz.func74 77<|zq<|zS<|zq<|zB 0<|zP 1 [{}] [.aa [10,9,3,2,1,0] [1]] []<|bj 10 (e.kind == (1:Int)) bx<|zq<|du 33 (e.kind == (2:Int)) fh<|zS<|zP 2 [yH [(2,yV (ai (eg e.name)))],yH [(1,yV (ao true))]] [.aa [39,7,33,10,9,3,2,1,0] [1]] [yI (eQ e.name hn),yB (ao (eg e.name != (0:Int))=ao true) (by simp [c1])]<|zT 39<|zq<|dk<|ba<|aI (bL)
  have hv:(if ft e=0 then jh e else [])= [[cL e.name]]:=by rw [if_pos ag];unfold jh gv;rw [if_neg ag,if_neg k1,if_pos k2];rfl
  rw [hv,hf,c1]
  refine zO Tryz.func74 77<|zq<|zS<|zq<|zB 0<|zP 1 [{}] [.aa [10,9,3,2,1,0] [1]] []<|bj 10 (e.kind == (1:Int)) bx<|zq<|du 33 (e.kind == (2:Int)) fh<|zS<|zP 2 [yH [(2,yV (ai (eg e.name)))],yH [(1,yV (ao false))]] [.aa [39,7,33,10,9,3,2,1,0] [1]] [yI (eQ e.name hn),yB (ao (eg e.name != (0:Int))=ao false) (by simp [c1])]<|zF 39<|a6<|zP 1 [yH [(2,yD (me (e.name)))]] [.aa [3,2,39,7,33,10,9,1,0] [44,1]] [yI (me e.name)]<|zR<|ba<|aI (bL)
 by_cases k3:e.kind=3
 ·have hf:ft e=if e.bm<1∨8<e.bm then 9 else 0:=by unfold ft;rw [if_neg k1,if_neg k2,if_pos k3]
  by_cases c1:e.bm<1
  ·rw [if_pos (.inl c1)] at hf
   rw [hf,if_neg ag]
   refine zO Tryz.func74 77<|zq<|zS<|zq<|zB 0<|zP 1 [{}] [.aa [10,9,3,2,1,0] [1]] []<|bj 10 (e.kind == (1:Int)) bx<|zq<|bj 33 (e.kind == (2:Int)) bx<|zP 1 [{}] [.aa [45,33,10,9,3,2,1,0] [1]] []<|du 45 (e.kind == (3:Int)) fh<|zS<|zP 1 [{}] [.aa [54,45,33,10,9,3,2,1,0] [1]] (yM 4 (yT (e.bm<1)))<|zT 54<|zq<|dk<|ba<|aI (bL)
  by_cases c2:8<e.bm
  ·rw [if_pos (.inr c2)] at hf
   rw [hf,if_neg ag]
   refine zO Tryz.func74 77<|zq<|zS<|zq<|zB 0<|zP 1 [{}] [.aa [10,9,3,2,1,0] [1]] []<|bj 10 (e.kind == (1:Int)) bx<|zq<|bj 33 (e.kind == (2:Int)) bx<|zP 1 [{}] [.aa [45,33,10,9,3,2,1,0] [1]] []<|du 45 (e.kind == (3:Int)) fh<|zS<|zP 1 [yH ([(7,{b:=false})]++yg [4,5,6])] [.aa [54,45,33,10,9,3,2,1,0] [1]] (yM 4 (yF (e.bm<1)))<|gX 54 (e.bm>8)<|zq<|dk<|ba<|aI (bL)
  rw [if_neg ag] at hf
  have hv:jh e= [[aL (u64 e.bm)]]:=by unfold jh gv;rw [if_neg ag,if_neg k1,if_neg k2,if_pos k3];rfl
  rw [hf,if_pos rfl,hv]
  refine zO Tryz.func74 77<|zq<|zS<|zq<|zB 0<|zP 1 [{}] [.aa [10,9,3,2,1,0] [1]] []<|bj 10 (e.kind == (1:Int)) bx<|zq<|bj 33 (e.kind == (2:Int)) bx<|zP 1 [{}] [.aa [45,33,10,9,3,2,1,0] [1]] []<|du 45 (e.kind == (3:Int)) fh<|zS<|zP 1 [yH ([(7,{b:=false})]++yg [4,5,6])] [.aa [54,45,33,10,9,3,2,1,0] [1]] (yM 4 (yF (e.bm<1)))<|dm 54 (e.bm>8)<|a6<|zP 1 [yH [(2,yV (aw (u64 e.bm))),(3,yD (dn (u64 e.bm)))]] [.aa [3,2,54,45,33,10,9,1,0] [59,1]] [yI (a8 e.bm),yI (dn (u64 e.bm))]<|zR<|ba<|aI (bL)
 by_cases k4:e.kind=4
 ·have hf:ft e=fZ e.dep:=by unfold ft;rw [if_neg k1,if_neg k2,if_neg k3,if_pos k4]
  have hv:jh e=NY e.dep:=if_pos k4
  rw [hf,hv]
  have Hc:=xh e.dep hd
  generalize (if fZ e.dep=0 then NY e.dep else [])=V at *
  generalize fZ e.dep=E at *
  refine zO Tryz.func74 77<|zq<|zS<|zq<|zB 0<|zP 1 [{}] [.aa [10,9,3,2,1,0] [1]] []<|bj 10 (e.kind == (1:Int)) bx<|zq<|bj 33 (e.kind == (2:Int)) bx<|zP 1 [{}] [.aa [45,33,10,9,3,2,1,0] [1]] []<|bj 45 (e.kind == (3:Int)) bx<|zq<|du 60 (e.kind == (4:Int)) fh<|zP 1 [yH [(2,yD Hc)]] [.aa [3,2,60,45,33,10,9,1,0] [1064,1]] [yI Hc]<|zR<|ba<|aI (bL)
 have hf:ft e=if e.target=0 then 9 else 0:=by unfold ft;rw [if_neg k1,if_neg k2,if_neg k3,if_neg k4]
 by_cases c1:e.target=0
 ·rw [if_pos c1] at hf
  rw [hf,if_neg ag]
  refine zO Tryz.func74 77<|zq<|zS<|zq<|zB 0<|zP 1 [{}] [.aa [10,9,3,2,1,0] [1]] []<|bj 10 (e.kind == (1:Int)) bx<|zq<|bj 33 (e.kind == (2:Int)) bx<|zP 1 [{}] [.aa [45,33,10,9,3,2,1,0] [1]] []<|bj 45 (e.kind == (3:Int)) bx<|zq<|bj 60 (e.kind == (4:Int)) bx<|zK<|aK<|al<|zS<|zP 1 [yH [(2,yV (ao (e.target == 0)))]] [.aa [69,60,45,33,10,9,3,2,1,0] [1]] [yI (fK e.target 0)]<|du 69 (e.target == 0) fh<|zq<|dk (bL)
 rw [if_neg c1] at hf
 have hv:jh e= [[aL e.cm],[aL e.target]]:=by unfold jh gv;rw [if_neg k4,if_neg k1,if_neg k2,if_neg k3,if_neg k4];rfl
 rw [hf,if_pos rfl,hv]
 refine zO Tryz.func74 77<|zq<|zS<|zq<|zB 0<|zP 1 [{}] [.aa [10,9,3,2,1,0] [1]] []<|bj 10 (e.kind == (1:Int)) bx<|zq<|bj 33 (e.kind == (2:Int)) bx<|zP 1 [{}] [.aa [45,33,10,9,3,2,1,0] [1]] []<|bj 45 (e.kind == (3:Int)) bx<|zq<|bj 60 (e.kind == (4:Int)) bx<|zK<|aK<|al<|zS<|zP 1 [yH [(2,yV (ao (e.target == 0)))]] [.aa [69,60,45,33,10,9,3,2,1,0] [1]] [yI (fK e.target 0)]<|bj 69 (e.target == 0) bx<|a6<|zP 1 [{hs:=[(2,yD (dn (e.cm))),(5,yD (dn (e.target)))],T:=5}] [.aa [3,2,69,60,45,33,10,9,1,0] [76,1]] [yI (dn e.cm),yI (dn e.target)]<|zR (bL)
theorem wO (e:dj) (hB:l8 e):bA Tryz.prog 39 [.agg (aG e)] (.b_ [.own 1 (ah (dM e)),ai (eO e)]):=by
 by_cases c:eO e=0
 case neg =>
  have hb:dM e= []:=if_neg c
  rw [hb]
  unfold eO
  by_cases k1:e.kind<1
  ·rw [if_pos (.inl k1)]
   refine zO Tryz.func39 60<|zq<|zS<|zP 1 [{}] [.aa [15,3,2,1,0] [1]] (yM 4 (yT (e.kind<1)))<|zT 15<|zq<|dk (bL)
  by_cases k5:5<e.kind
  ·rw [if_pos (.inr k5)]
   refine zO Tryz.func39 60<|zq<|zS<|zP 1 [yH ([(7,{b:=false})]++yg [4,5,6])] [.aa [15,3,2,1,0] [1]] (yM 4 (yF (e.kind<1)))<|gX 15 (e.kind>5)<|zq<|dk (bL)
  rw [if_neg ag]
  by_cases c1:¬fW e
  ·rw [if_pos c1]
   refine zO Tryz.func39 60<|zq<|zS<|zP 1 [yH ([(7,{b:=false})]++yg [4,5,6])] [.aa [15,3,2,1,0] [1]] (yM 4 (yF (e.kind<1)))<|dm 15 (e.kind>5)<|a6<|zS<|zP 1 [yH [(1,yV (ao (decide ¬fW e)))]] [.aa [17,15,3,2,1,0] [1]] [yI (jT e ag ag)]<|du 17 (decide ¬fW e) fh<|zq<|dk (bL)
  have wM:decide (¬fW e)=false:=decide_eq_false c1
  rw [if_neg c1]
  by_cases q1:e.aC<1
  ·rw [if_pos (.inl q1)]
   refine zO Tryz.func39 60<|zq<|zS<|zP 1 [yH ([(7,{b:=false})]++yg [4,5,6])] [.aa [15,3,2,1,0] [1]] (yM 4 (yF (e.kind<1)))<|dm 15 (e.kind>5)<|a6<|zS<|zP 1 [yH [(1,yV (ao (decide ¬fW e)))]] [.aa [17,15,3,2,1,0] [1]] [yI (jT e ag ag)]<|bj 17 (decide ¬fW e) (by assumption)<|a6<|zS<|zP 1 [{}] [.aa [25,17,15,3,2,1,0] [1]] (yM 4 (yT (e.aC<1)))<|zT 25<|zq<|dk (bL)
  by_cases q2:2147483647<e.aC
  ·rw [if_pos (.inr q2)]
   refine zO Tryz.func39 60<|zq<|zS<|zP 1 [yH ([(7,{b:=false})]++yg [4,5,6])] [.aa [15,3,2,1,0] [1]] (yM 4 (yF (e.kind<1)))<|dm 15 (e.kind>5)<|a6<|zS<|zP 1 [yH [(1,yV (ao (decide ¬fW e)))]] [.aa [17,15,3,2,1,0] [1]] [yI (jT e ag ag)]<|bj 17 (decide ¬fW e) (by assumption)<|a6<|zS<|zP 1 [yH ([(7,{b:=false})]++yg [4,5,6])] [.aa [25,17,15,3,2,1,0] [1]] (yM 4 (yF (e.aC<1)))<|gX 25 (e.aC>2147483647)<|zq<|dk (bL)
  rw [if_neg ag]
  have Nx:ft e≠0:=by
   unfold eO at c
   rwa [if_neg ag,if_neg c1,if_neg ag] at c
  have hf:=wa e ag ag hB
  rw [if_neg Nx] at hf
  refine zO Tryz.func39 60<|zq<|zS<|zP 1 [yH ([(7,{b:=false})]++yg [4,5,6])] [.aa [15,3,2,1,0] [1]] (yM 4 (yF (e.kind<1)))<|dm 15 (e.kind>5)<|a6<|zS<|zP 1 [yH [(1,yV (ao (decide ¬fW e)))]] [.aa [17,15,3,2,1,0] [1]] [yI (jT e ag ag)]<|bj 17 (decide ¬fW e) (by assumption)<|a6<|zS<|zP 1 [yH ([(7,{b:=false})]++yg [4,5,6])] [.aa [25,17,15,3,2,1,0] [1]] (yM 4 (yF (e.aC<1)))<|dm 25 (e.aC>2147483647)<|a6<|zP 1 [yH [(1,yD hf)]] [.aa [5,4,25,17,15,3,2,1,0] [1028,1]] [yI hf]<|zS<|zQ 1 [yH [(1,yV (ao true))]] [yB (ao (ft e != (0:Int))=ao true) (by simp [Nx])]<|zT 32<|zP 1 [{}] [.aa [3,2,32,5,4,25,17,15,1,0] [1028,1]] []<|dk (bL)
 have hb:dM e=g_ (fY e):=if_pos c
 rw [hb,c]
 obtain ⟨v1,v2,v3,v4,v5,v6,v7⟩:=Az c
 unfold eO at c
 by_cases k1:e.kind<1∨5<e.kind
 ·rw [if_pos k1] at c;omega
 rw [if_neg k1] at c
 by_cases c1:¬fW e
 ·rw [if_pos c1] at c;omega
 have wM:decide (¬fW e)=false:=decide_eq_false c1
 rw [if_neg c1] at c
 by_cases q1:e.aC<1∨2147483647<e.aC
 ·rw [if_pos q1] at c;omega
 rw [if_neg q1] at c
 have hf:=wa e ag ag hB
 rw [if_pos c,c] at hf
 have ha:=sL _ v1 (by rw [List.length_append];exact v2) (by rw [v3];exact v4)
 rw [v3] at ha
 have TQ:=Ez (fY e) ag (fun x hx=>(v6 x hx).1) (fun x hx=>(v6 x hx).2)
 have hd:HE (fY e)=g_ (fY e):=if_pos v4
 rw [hd,v4] at TQ
 have xW:(ae dI (jh e)).length≤6:=by rw [aA (e:=1) (fun _=>rfl)];omega
 clear v1 v2 v3 v4 v5 v6 hd hb
 generalize fY e=A at *
 generalize jh e=V at *
 refine zO Tryz.func39 60<|zq<|zS<|zP 1 [yH ([(7,{b:=false})]++yg [4,5,6])] [.aa [15,3,2,1,0] [1]] (yM 4 (yF (e.kind<1)))<|dm 15 (e.kind>5)<|a6<|zS<|zP 1 [yH [(1,yV (ao (decide ¬fW e)))]] [.aa [17,15,3,2,1,0] [1]] [yI (jT e ag ag)]<|bj 17 (decide ¬fW e) (by assumption)<|a6<|zS<|zP 1 [yH ([(7,{b:=false})]++yg [4,5,6])] [.aa [25,17,15,3,2,1,0] [1]] (yM 4 (yF (e.aC<1)))<|dm 25 (e.aC>2147483647)<|a6<|zP 1 [yH [(1,yD hf)]] [.aa [5,4,25,17,15,3,2,1,0] [1028,1]] [yI hf]<|zS<|zq<|zF 32<|a6<|zP 2 [{hs:=[(2,yV (aw (u64 e.aC))),(3,yD (dn (u64 e.aC))),(6,yD (dn (e.prev))),(9,yV (aw (u64 e.kind))),(10,yD (dn (u64 e.kind)))],T:=10},yH [(2,{b:=false}),(3,yD ha)]] [.aa [5,7,32,4,25,17,15,3,2,1,0] [1028,1]] [yI (a8 e.aC),yI (dn (u64 e.aC)),yI (dn e.prev),yI (a8 e.kind),yI (dn (u64 e.kind)),yB (cC (ae dI V)) (dJ (fun x=>dQ rfl) _),yO ((3+(ae dI V).length)*24≤140737488355328),yI ha]<|zS<|zq<|zF 54<|a6<|zP 1 [yH [(1,yC TQ)]] [.aa [3,2,54,5,7,32,4,25,17,15,1,0] [1057,1028,1]] [yI TQ,yI (aQ (g_ A))]<|zR (bL)
theorem qR (e:dj) (c:eO e=0):(dM e).length≤500000:=by
 obtain ⟨v1,v2,v3,v4,v5,v6,v7⟩:=Az c
 unfold dM
 rw [if_pos c]
 exact Nat.le_trans (q6 (fun x hx=>(v6 x hx).2) v5) (by decide)
theorem uF (e:dj) (hB:l8 e):bA Tryz.prog 50 [.agg (aG e)] (.b_ [aw (if eO e=0 then cO e else 0),ai (eO e)]):=by
 have hb:=wO e hB
 by_cases c:eO e=0
 case neg =>
  rw [if_neg c]
  refine zO Tryz.func50 16<|zP 2 [{},yH [(1,yC hb)]] [.aa [5,4,3,2,1,0] [1008,1]] [yI hb,yI (aQ (dM e))]<|zS<|zQ 1 [yH [(1,yV (ao true))]] [yB (ao (eO e != (0:Int))=ao true) (by simp [c])]<|zT 12<|zP 1 [{}] [.aa [3,2,12,5,4,1,0] [1008,1]] []<|dk (bL)
 rw [if_pos c]
 have hl:=qR e c
 rw [c] at hb ⊢
 refine zO Tryz.func50 16<|zP 2 [{},yH [(1,yC hb)]] [.aa [5,4,3,2,1,0] [1008,1]] [yI hb,yI (aQ (dM e))]<|zS<|zq<|zF 12<|a6<|zP 1 [yH [(1,yV (aw (hash (16:Int) (dM e))))]] [.aa [3,2,12,5,4,1,0] [1008,1]] [yI (oh ((16:Int)) (dM e))]<|zR (bL)
end Go.Proofs.YtjgbhhnghedgdaaGreatDoor
