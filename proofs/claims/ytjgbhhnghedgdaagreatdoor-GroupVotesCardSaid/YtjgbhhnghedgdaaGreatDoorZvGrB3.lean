import Derived.Test.YtjgbhhnghedgdaaGreatDoorZvNil
set_option linter.all false
namespace Go.Proofs.YtjgbhhnghedgdaaGreatDoor
open Go.RowKit
set_option maxRecDepth 100000
set_option maxHeartbeats 4000000
structure nB (e:fC):Prop where
 Rv:e.name.length≤1000
 dep:Aq e.dep
theorem vZ (e:fC) (h1:1≤e.kind) (h5:e.kind≤5) (hB:nB e):bG Tryz.prog 74 [.agg (bf e)] (.cw [.own 1 (af dQ (if fI e=0 then jk e else [])),ai (fI e)]):=by
 obtain ⟨hn,hd⟩:=hB
 have hz:=rG e.name hn
 by_cases k1:e.kind=1
 ·have hf:fI e=if eF e.name≠0 then eF e.name else gC e.kh:=if_pos k1
  by_cases c1:eF e.name=0
  case neg =>
   rw [if_pos c1] at hf
   have hv:(if fI e=0 then jk e else [])= []:=if_neg (by rw [hf];exact c1)
   rw [hv,hf]
   refine zO Tryz.func74 77<|zq<|zS<|zq<|zB 0<|zP 1 [{}] [.aa [10,9,3,2,1,0] [1]] []<|dB 10 (e.kind == (1:Int)) eJ<|zS<|zP 2 [yH [(2,yV (ai (eF e.name)))],yH [(1,yV (ao true))]] [.aa [16,4,10,9,3,2,1,0] [1]] [yI (eU e.name hn),yB (ao (eF e.name != (0:Int))=ao true) (by simp [c1])]<|zT 16<|zq<|dC<|bc<|aK (bP)
  rw [if_neg ag] at hf
  by_cases c2:gC e.kh=0
  case neg =>
   have hv:(if fI e=0 then jk e else [])= []:=if_neg (by rw [hf];exact c2)
   rw [hv,hf]
   refine zO Tryz.func74 77<|zq<|zS<|zq<|zB 0<|zP 1 [{}] [.aa [10,9,3,2,1,0] [1]] []<|dB 10 (e.kind == (1:Int)) eJ<|zS<|zP 2 [yH [(2,yV (ai (eF e.name)))],yH [(1,yV (ao false))]] [.aa [16,4,10,9,3,2,1,0] [1]] [yI (eU e.name hn),yB (ao (eF e.name != (0:Int))=ao false) (by simp [c1])]<|zF 16<|a_<|zP 1 [yH [(2,yC (dK (e.kh) (e.kr)))]] [.aa [6,5,16,4,10,9,3,2,1,0] [1021,1]] [yI (dK e.kh e.kr),yI (aV (d_ e.kh e.kr))]<|zS<|zQ 1 [yH [(1,yV (ao true))]] [yB (ao (gC e.kh != (0:Int))=ao true) (by simp [c2])]<|zT 25<|zP 1 [{}] [.aa [3,2,25,6,5,16,4,10,9,1,0] [1021,1]] []<|dC<|bc<|aK (bP)
  have hv:(if fI e=0 then jk e else [])= [[cX e.name],[fj (d_ e.kh e.kr)]]:=by rw [if_pos ag];unfold jk gE;rw [if_neg ag,if_pos k1];rfl
  have iY:=n_ e.kh e.kr
  rw [hv,hf,c2]
  refine zO Tryz.func74 77<|zq<|zS<|zq<|zB 0<|zP 1 [{}] [.aa [10,9,3,2,1,0] [1]] []<|dB 10 (e.kind == (1:Int)) eJ<|zS<|zP 2 [yH [(2,yV (ai (eF e.name)))],yH [(1,yV (ao false))]] [.aa [16,4,10,9,3,2,1,0] [1]] [yI (eU e.name hn),yB (ao (eF e.name != (0:Int))=ao false) (by simp [c1])]<|zF 16<|a_<|zP 1 [yH [(2,yC (dK (e.kh) (e.kr)))]] [.aa [6,5,16,4,10,9,3,2,1,0] [1021,1]] [yI (dK e.kh e.kr),yI (aV (d_ e.kh e.kr))]<|zS<|zQ 1 [yH [(1,yV (ao false))]] [yB (ao (gC e.kh != (0:Int))=ao false) (by simp [c2])]<|zF 25<|a_<|zP 1 [yH [(2,yD (mf (e.name))),(4,yD (rj (d_ e.kh e.kr) ag))]] [.aa [3,2,25,6,5,16,4,10,9,1,0] [32,1]] [yI (mf e.name),yI (rj (d_ e.kh e.kr) ag)]<|zR<|bc<|aK (bP)
 by_cases k2:e.kind=2
 ·have hf:fI e=eF e.name:=by unfold fI;rw [if_neg k1,if_pos k2]
  by_cases c1:eF e.name=0
  case neg =>
   have hv:(if fI e=0 then jk e else [])= []:=if_neg (by rw [hf];exact c1)
   rw [hv,hf]
   refine zO Tryz.func74 77<|zq<|zS<|zq<|zB 0<|zP 1 [{}] [.aa [10,9,3,2,1,0] [1]] []<|bk 10 (e.kind == (1:Int)) bD<|zq<|dB 33 (e.kind == (2:Int)) eJ<|zS<|zP 2 [yH [(2,yV (ai (eF e.name)))],yH [(1,yV (ao true))]] [.aa [39,7,33,10,9,3,2,1,0] [1]] [yI (eU e.name hn),yB (ao (eF e.name != (0:Int))=ao true) (by simp [c1])]<|zT 39<|zq<|dC<|bc<|aK (bP)
  have hv:(if fI e=0 then jk e else [])= [[cX e.name]]:=by rw [if_pos ag];unfold jk gE;rw [if_neg ag,if_neg k1,if_pos k2];rfl
  rw [hv,hf,c1]
  refine zO Tryz.func74 77<|zq<|zS<|zq<|zB 0<|zP 1 [{}] [.aa [10,9,3,2,1,0] [1]] []<|bk 10 (e.kind == (1:Int)) bD<|zq<|dB 33 (e.kind == (2:Int)) eJ<|zS<|zP 2 [yH [(2,yV (ai (eF e.name)))],yH [(1,yV (ao false))]] [.aa [39,7,33,10,9,3,2,1,0] [1]] [yI (eU e.name hn),yB (ao (eF e.name != (0:Int))=ao false) (by simp [c1])]<|zF 39<|a_<|zP 1 [yH [(2,yD (mf (e.name)))]] [.aa [3,2,39,7,33,10,9,1,0] [44,1]] [yI (mf e.name)]<|zR<|bc<|aK (bP)
 by_cases k3:e.kind=3
 ·have hf:fI e=if e.bA<1∨8<e.bA then 9 else 0:=by unfold fI;rw [if_neg k1,if_neg k2,if_pos k3]
  by_cases c1:e.bA<1
  ·rw [if_pos (.inl c1)] at hf
   rw [hf,if_neg ag]
   refine zO Tryz.func74 77<|zq<|zS<|zq<|zB 0<|zP 1 [{}] [.aa [10,9,3,2,1,0] [1]] []<|bk 10 (e.kind == (1:Int)) bD<|zq<|bk 33 (e.kind == (2:Int)) bD<|zP 1 [{}] [.aa [45,33,10,9,3,2,1,0] [1]] []<|dB 45 (e.kind == (3:Int)) eJ<|zS<|zP 1 [{}] [.aa [54,45,33,10,9,3,2,1,0] [1]] (yM 4 (yT (e.bA<1)))<|zT 54<|zq<|dC<|bc<|aK (bP)
  by_cases c2:8<e.bA
  ·rw [if_pos (.inr c2)] at hf
   rw [hf,if_neg ag]
   refine zO Tryz.func74 77<|zq<|zS<|zq<|zB 0<|zP 1 [{}] [.aa [10,9,3,2,1,0] [1]] []<|bk 10 (e.kind == (1:Int)) bD<|zq<|bk 33 (e.kind == (2:Int)) bD<|zP 1 [{}] [.aa [45,33,10,9,3,2,1,0] [1]] []<|dB 45 (e.kind == (3:Int)) eJ<|zS<|zP 1 [yH ([(7,{b:=false})]++yg [4,5,6])] [.aa [54,45,33,10,9,3,2,1,0] [1]] (yM 4 (yF (e.bA<1)))<|iw 54 (e.bA>8)<|zq<|dC<|bc<|aK (bP)
  rw [if_neg ag] at hf
  have hv:jk e= [[aN (u64 e.bA)]]:=by unfold jk gE;rw [if_neg ag,if_neg k1,if_neg k2,if_pos k3];rfl
  rw [hf,if_pos rfl,hv]
  refine zO Tryz.func74 77<|zq<|zS<|zq<|zB 0<|zP 1 [{}] [.aa [10,9,3,2,1,0] [1]] []<|bk 10 (e.kind == (1:Int)) bD<|zq<|bk 33 (e.kind == (2:Int)) bD<|zP 1 [{}] [.aa [45,33,10,9,3,2,1,0] [1]] []<|dB 45 (e.kind == (3:Int)) eJ<|zS<|zP 1 [yH ([(7,{b:=false})]++yg [4,5,6])] [.aa [54,45,33,10,9,3,2,1,0] [1]] (yM 4 (yF (e.bA<1)))<|dF 54 (e.bA>8)<|a_<|zP 1 [yH [(2,yV (aw (u64 e.bA))),(3,yD (dn (u64 e.bA)))]] [.aa [3,2,54,45,33,10,9,1,0] [59,1]] [yI (a7 e.bA),yI (dn (u64 e.bA))]<|zR<|bc<|aK (bP)
 by_cases k4:e.kind=4
 ·have hf:fI e=fX e.dep:=by unfold fI;rw [if_neg k1,if_neg k2,if_neg k3,if_pos k4]
  have hv:jk e=Nb e.dep:=if_pos k4
  rw [hf,hv]
  have Gs:=xb e.dep hd
  generalize (if fX e.dep=0 then Nb e.dep else [])=V at *
  generalize fX e.dep=E at *
  refine zO Tryz.func74 77<|zq<|zS<|zq<|zB 0<|zP 1 [{}] [.aa [10,9,3,2,1,0] [1]] []<|bk 10 (e.kind == (1:Int)) bD<|zq<|bk 33 (e.kind == (2:Int)) bD<|zP 1 [{}] [.aa [45,33,10,9,3,2,1,0] [1]] []<|bk 45 (e.kind == (3:Int)) bD<|zq<|dB 60 (e.kind == (4:Int)) eJ<|zP 1 [yH [(2,yD Gs)]] [.aa [3,2,60,45,33,10,9,1,0] [1064,1]] [yI Gs]<|zR<|bc<|aK (bP)
 have hf:fI e=if e.target=0 then 9 else 0:=by unfold fI;rw [if_neg k1,if_neg k2,if_neg k3,if_neg k4]
 by_cases c1:e.target=0
 ·rw [if_pos c1] at hf
  rw [hf,if_neg ag]
  refine zO Tryz.func74 77<|zq<|zS<|zq<|zB 0<|zP 1 [{}] [.aa [10,9,3,2,1,0] [1]] []<|bk 10 (e.kind == (1:Int)) bD<|zq<|bk 33 (e.kind == (2:Int)) bD<|zP 1 [{}] [.aa [45,33,10,9,3,2,1,0] [1]] []<|bk 45 (e.kind == (3:Int)) bD<|zq<|bk 60 (e.kind == (4:Int)) bD<|zK<|aJ<|al<|zS<|zP 1 [yH [(2,yV (ao (e.target == 0)))]] [.aa [69,60,45,33,10,9,3,2,1,0] [1]] [yI (fe e.target 0)]<|dB 69 (e.target == 0) eJ<|zq<|dC (bP)
 rw [if_neg c1] at hf
 have hv:jk e= [[aN e.bV],[aN e.target]]:=by unfold jk gE;rw [if_neg k4,if_neg k1,if_neg k2,if_neg k3,if_neg k4];rfl
 rw [hf,if_pos rfl,hv]
 refine zO Tryz.func74 77<|zq<|zS<|zq<|zB 0<|zP 1 [{}] [.aa [10,9,3,2,1,0] [1]] []<|bk 10 (e.kind == (1:Int)) bD<|zq<|bk 33 (e.kind == (2:Int)) bD<|zP 1 [{}] [.aa [45,33,10,9,3,2,1,0] [1]] []<|bk 45 (e.kind == (3:Int)) bD<|zq<|bk 60 (e.kind == (4:Int)) bD<|zK<|aJ<|al<|zS<|zP 1 [yH [(2,yV (ao (e.target == 0)))]] [.aa [69,60,45,33,10,9,3,2,1,0] [1]] [yI (fe e.target 0)]<|bk 69 (e.target == 0) bD<|a_<|zP 1 [{hs:=[(2,yD (dn (e.bV))),(5,yD (dn (e.target)))],T:=5}] [.aa [3,2,69,60,45,33,10,9,1,0] [76,1]] [yI (dn e.bV),yI (dn e.target)]<|zR (bP)
theorem Ki (e:fC) (hB:nB e):bG Tryz.prog 39 [.agg (bf e)] (.cw [.own 1 (aj (iJ e)),ai (fa e)]):=by
 by_cases c:fa e=0
 case neg =>
  have hb:iJ e= []:=if_neg c
  rw [hb]
  unfold fa
  by_cases k1:e.kind<1
  ·rw [if_pos (.inl k1)]
   refine zO Tryz.func39 60<|zq<|zS<|zP 1 [{}] [.aa [15,3,2,1,0] [1]] (yM 4 (yT (e.kind<1)))<|zT 15<|zq<|dC (bP)
  by_cases k5:5<e.kind
  ·rw [if_pos (.inr k5)]
   refine zO Tryz.func39 60<|zq<|zS<|zP 1 [yH ([(7,{b:=false})]++yg [4,5,6])] [.aa [15,3,2,1,0] [1]] (yM 4 (yF (e.kind<1)))<|iw 15 (e.kind>5)<|zq<|dC (bP)
  rw [if_neg ag]
  by_cases c1:¬fV e
  ·rw [if_pos c1]
   refine zO Tryz.func39 60<|zq<|zS<|zP 1 [yH ([(7,{b:=false})]++yg [4,5,6])] [.aa [15,3,2,1,0] [1]] (yM 4 (yF (e.kind<1)))<|dF 15 (e.kind>5)<|a_<|zS<|zP 1 [yH [(1,yV (ao (decide ¬fV e)))]] [.aa [17,15,3,2,1,0] [1]] [yI (jT e ag ag)]<|dB 17 (decide ¬fV e) eJ<|zq<|dC (bP)
  have wI:decide (¬fV e)=false:=decide_eq_false c1
  rw [if_neg c1]
  by_cases q1:e.aC<1
  ·rw [if_pos (.inl q1)]
   refine zO Tryz.func39 60<|zq<|zS<|zP 1 [yH ([(7,{b:=false})]++yg [4,5,6])] [.aa [15,3,2,1,0] [1]] (yM 4 (yF (e.kind<1)))<|dF 15 (e.kind>5)<|a_<|zS<|zP 1 [yH [(1,yV (ao (decide ¬fV e)))]] [.aa [17,15,3,2,1,0] [1]] [yI (jT e ag ag)]<|bk 17 (decide ¬fV e) (by assumption)<|a_<|zS<|zP 1 [{}] [.aa [25,17,15,3,2,1,0] [1]] (yM 4 (yT (e.aC<1)))<|zT 25<|zq<|dC (bP)
  by_cases q2:2147483647<e.aC
  ·rw [if_pos (.inr q2)]
   refine zO Tryz.func39 60<|zq<|zS<|zP 1 [yH ([(7,{b:=false})]++yg [4,5,6])] [.aa [15,3,2,1,0] [1]] (yM 4 (yF (e.kind<1)))<|dF 15 (e.kind>5)<|a_<|zS<|zP 1 [yH [(1,yV (ao (decide ¬fV e)))]] [.aa [17,15,3,2,1,0] [1]] [yI (jT e ag ag)]<|bk 17 (decide ¬fV e) (by assumption)<|a_<|zS<|zP 1 [yH ([(7,{b:=false})]++yg [4,5,6])] [.aa [25,17,15,3,2,1,0] [1]] (yM 4 (yF (e.aC<1)))<|iw 25 (e.aC>2147483647)<|zq<|dC (bP)
  rw [if_neg ag]
  have MK:fI e≠0:=by
   unfold fa at c
   rwa [if_neg ag,if_neg c1,if_neg ag] at c
  have hf:=vZ e ag ag hB
  rw [if_neg MK] at hf
  refine zO Tryz.func39 60<|zq<|zS<|zP 1 [yH ([(7,{b:=false})]++yg [4,5,6])] [.aa [15,3,2,1,0] [1]] (yM 4 (yF (e.kind<1)))<|dF 15 (e.kind>5)<|a_<|zS<|zP 1 [yH [(1,yV (ao (decide ¬fV e)))]] [.aa [17,15,3,2,1,0] [1]] [yI (jT e ag ag)]<|bk 17 (decide ¬fV e) (by assumption)<|a_<|zS<|zP 1 [yH ([(7,{b:=false})]++yg [4,5,6])] [.aa [25,17,15,3,2,1,0] [1]] (yM 4 (yF (e.aC<1)))<|dF 25 (e.aC>2147483647)<|a_<|zP 1 [yH [(1,yD hf)]] [.aa [5,4,25,17,15,3,2,1,0] [1028,1]] [yI hf]<|zS<|zQ 1 [yH [(1,yV (ao true))]] [yB (ao (fI e != (0:Int))=ao true) (by simp [MK])]<|zT 32<|zP 1 [{}] [.aa [3,2,32,5,4,25,17,15,1,0] [1028,1]] []<|dC (bP)
 have hb:iJ e=iu (gk e):=if_pos c
 rw [hb,c]
 obtain ⟨v1,v2,v3,v4,v5,v6,v7⟩:=Aj c
 unfold fa at c
 by_cases k1:e.kind<1∨5<e.kind
 ·rw [if_pos k1] at c;omega
 rw [if_neg k1] at c
 by_cases c1:¬fV e
 ·rw [if_pos c1] at c;omega
 have wI:decide (¬fV e)=false:=decide_eq_false c1
 rw [if_neg c1] at c
 by_cases q1:e.aC<1∨2147483647<e.aC
 ·rw [if_pos q1] at c;omega
 rw [if_neg q1] at c
 have hf:=vZ e ag ag hB
 rw [if_pos c,c] at hf
 have ha:=sF _ v1 (by rw [List.length_append];exact v2) (by rw [v3];exact v4)
 rw [v3] at ha
 have Tp:=DY (gk e) ag (fun x hx=>(v6 x hx).1) (fun x hx=>(v6 x hx).2)
 have hd:GX (gk e)=iu (gk e):=if_pos v4
 rw [hd,v4] at Tp
 have l0:(af dQ (jk e)).length≤6:=by rw [aE (e:=1) (fun _=>rfl)];omega
 clear v1 v2 v3 v4 v5 v6 hd hb
 generalize gk e=A at *
 generalize jk e=V at *
 refine zO Tryz.func39 60<|zq<|zS<|zP 1 [yH ([(7,{b:=false})]++yg [4,5,6])] [.aa [15,3,2,1,0] [1]] (yM 4 (yF (e.kind<1)))<|dF 15 (e.kind>5)<|a_<|zS<|zP 1 [yH [(1,yV (ao (decide ¬fV e)))]] [.aa [17,15,3,2,1,0] [1]] [yI (jT e ag ag)]<|bk 17 (decide ¬fV e) (by assumption)<|a_<|zS<|zP 1 [yH ([(7,{b:=false})]++yg [4,5,6])] [.aa [25,17,15,3,2,1,0] [1]] (yM 4 (yF (e.aC<1)))<|dF 25 (e.aC>2147483647)<|a_<|zP 1 [yH [(1,yD hf)]] [.aa [5,4,25,17,15,3,2,1,0] [1028,1]] [yI hf]<|zS<|zq<|zF 32<|a_<|zP 2 [{hs:=[(2,yV (aw (u64 e.aC))),(3,yD (dn (u64 e.aC))),(6,yD (dn (e.prev))),(9,yV (aw (u64 e.kind))),(10,yD (dn (u64 e.kind)))],T:=10},yH [(2,{b:=false}),(3,yD ha)]] [.aa [5,7,32,4,25,17,15,3,2,1,0] [1028,1]] [yI (a7 e.aC),yI (dn (u64 e.aC)),yI (dn e.prev),yI (a7 e.kind),yI (dn (u64 e.kind)),yB (cp (af dQ V)) (dm (fun x=>dr rfl) _),yO ((3+(af dQ V).length)*24≤140737488355328),yI ha]<|zS<|zq<|zF 54<|a_<|zP 1 [yH [(1,yC Tp)]] [.aa [3,2,54,5,7,32,4,25,17,15,1,0] [1057,1028,1]] [yI Tp,yI (aV (iu A))]<|zR (bP)
theorem vR (e:fC) (c:fa e=0):(iJ e).length≤500000:=by
 obtain ⟨v1,v2,v3,v4,v5,v6,v7⟩:=Aj c
 unfold iJ
 rw [if_pos c]
 exact Nat.le_trans (qW (fun x hx=>(v6 x hx).2) v5) (by decide)
theorem qd (e:fC) (hB:nB e):bG Tryz.prog 50 [.agg (bf e)] (.cw [aw (if fa e=0 then cJ e else 0),ai (fa e)]):=by
 have hb:=Ki e hB
 by_cases c:fa e=0
 case neg =>
  rw [if_neg c]
  refine zO Tryz.func50 16<|zP 2 [{},yH [(1,yC hb)]] [.aa [5,4,3,2,1,0] [1008,1]] [yI hb,yI (aV (iJ e))]<|zS<|zQ 1 [yH [(1,yV (ao true))]] [yB (ao (fa e != (0:Int))=ao true) (by simp [c])]<|zT 12<|zP 1 [{}] [.aa [3,2,12,5,4,1,0] [1008,1]] []<|dC (bP)
 rw [if_pos c]
 have hl:=vR e c
 rw [c] at hb ⊢
 refine zO Tryz.func50 16<|zP 2 [{},yH [(1,yC hb)]] [.aa [5,4,3,2,1,0] [1008,1]] [yI hb,yI (aV (iJ e))]<|zS<|zq<|zF 12<|a_<|zP 1 [yH [(1,yV (aw (hash (16:Int) (iJ e))))]] [.aa [3,2,12,5,4,1,0] [1008,1]] [yI (oo ((16:Int)) (iJ e))]<|zR (bP)
end Go.Proofs.YtjgbhhnghedgdaaGreatDoor
