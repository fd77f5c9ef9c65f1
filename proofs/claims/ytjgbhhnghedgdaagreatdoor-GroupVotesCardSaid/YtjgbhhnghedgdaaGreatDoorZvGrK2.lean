import Derived.Test.YtjgbhhnghedgdaaGreatDoorZvGrK1
set_option linter.all false
namespace Go.Proofs.YtjgbhhnghedgdaaGreatDoor
open Go.RowKit
set_option maxRecDepth 100000
set_option maxHeartbeats 4000000
theorem B2 (g:ig) (e:fC) (hG:ry g) (h1:1≤e.kind) (h5:e.kind≤5) (ht:e.kind=3->1≤e.bA∧e.bA≤8) (hB:Aq e.dep):bG Tryz.prog 59 [.agg (dA g),.agg (bf e)] (.cw [.agg (dA (c_ g e)),ai (gW g e)]):=by
 by_cases k1:e.kind=1
 ·have ce:gW g e=Cq g e:=if_pos k1
  have cg:c_ g e=if Cq g e=0 then G9 g e else g:=by
   unfold c_
   rw [ce]
   by_cases q:Cq g e=0
   ·rw [if_neg ag,if_pos k1,if_pos q];rfl
   ·rw [if_pos q,if_neg q]
  have hr:=Jv g e hG
  rw [←cg,←ce] at hr
  generalize c_ g e=G at *
  generalize gW g e=E at *
  refine zO Tryz.func59 80<|zq<|zS<|zq<|zB 0<|zP 1 [{}] [.aa [10,9,5,4,3,2,0,1] [4,3,2]] []<|dB 10 (e.kind == (1:Int)) eJ<|zP 1 [yH [(2,yD hr)]] [.aa [5,10,9,4,3,2,0,1] [4,3,2]] [yI hr,yL 5 5]<|zR<|bc<|aK (bP)
 by_cases k2:e.kind=2
 ·have ce:gW g e=Bb g e:=by unfold gW;rw [if_neg k1,if_pos k2];rfl
  have cg:c_ g e=if Bb g e=0 then {g with aq:=q8 g.aq (dZ g.aq e.name).toNat} else g:=by
   unfold c_
   rw [ce]
   by_cases q:Bb g e=0
   ·rw [if_neg ag,if_neg k1,if_pos k2,if_pos q]
   ·rw [if_pos q,if_neg q]
  have hr:=BT g e hG
  rw [←cg,←ce] at hr
  generalize c_ g e=G at *
  generalize gW g e=E at *
  refine zO Tryz.func59 80<|zq<|zS<|zq<|zB 0<|zP 1 [{}] [.aa [10,9,5,4,3,2,0,1] [4,3,2]] []<|bk 10 (e.kind == (1:Int)) bD<|zq<|dB 17 (e.kind == (2:Int)) eJ<|zP 1 [yH [(2,yD hr)]] [.aa [5,17,10,9,4,3,2,0,1] [4,3,2]] [yI hr,yL 5 5]<|zR<|bc<|aK (bP)
 by_cases k4:e.kind=4
 ·have ce:gW g e=yl g e:=by unfold gW;rw [if_neg k1,if_neg k2,if_neg ag,if_pos k4];rfl
  have cg:c_ g e=if yl g e=0 then {g with aU:=g.aU++ [e.dep]} else g:=by
   unfold c_
   rw [ce]
   by_cases q:yl g e=0
   ·rw [if_neg ag,if_neg k1,if_neg k2,if_neg ag,if_pos k4,if_pos q]
   ·rw [if_pos q,if_neg q]
  have hr:=Dq g e hG hB
  rw [←cg,←ce] at hr
  generalize c_ g e=G at *
  generalize gW g e=E at *
  refine zO Tryz.func59 80<|zq<|zS<|zq<|zB 0<|zP 1 [{}] [.aa [10,9,5,4,3,2,0,1] [4,3,2]] []<|bk 10 (e.kind == (1:Int)) bD<|zq<|bk 17 (e.kind == (2:Int)) bD<|zP 1 [{}] [.aa [24,17,10,9,5,4,3,2,0,1] [4,3,2]] []<|bk 24 (e.kind == (3:Int)) bD<|zq<|dB 44 (e.kind == (4:Int)) eJ<|zP 1 [yH [(2,yD hr)]] [.aa [5,44,24,17,10,9,4,3,2,0,1] [4,3,2]] [yI hr,yL 5 5]<|zR<|bc<|aK (bP)
 obtain ⟨g1,g2,g3,g4,g5,g6⟩:=hG
 have nG:(af aT g.aq).length=g.aq.length*4:=aE (e:=4) (fun _=>rfl) ..
 have ue:(af bj g.aU).length=g.aU.length*7:=aE (e:=7) (fun _=>rfl) ..
 by_cases k3:e.kind=3
 ·obtain ⟨t1,t2⟩:=ht k3
  have ce:gW g e=if (g.aq.length:Int)<e.bA∨2*e.bA≤g.aq.length then 41 else 0:=by unfold gW;rw [if_neg k1,if_neg k2,if_pos k3]
  by_cases c1:(g.aq.length:Int)<e.bA
  ·rw [if_pos (.inl c1)] at ce
   have cg:c_ g e=g:=if_pos ag
   rw [ce,cg]
   refine zO Tryz.func59 80<|zq<|zS<|zq<|zB 0<|zP 1 [{}] [.aa [10,9,5,4,3,2,0,1] [4,3,2]] []<|bk 10 (e.kind == (1:Int)) bD<|zq<|bk 17 (e.kind == (2:Int)) bD<|zP 1 [{}] [.aa [24,17,10,9,5,4,3,2,0,1] [4,3,2]] []<|dB 24 (e.kind == (3:Int)) eJ<|zP 1 [yH [(2,{k:=g.aq.length})]] [.aa [6,24,17,10,9,5,4,3,2,0,1] [4,3,2]] [yI nG]<|zS<|zP 1 [{}] [.aa [39,6,24,17,10,9,5,4,3,2,0,1] [4,3,2]] (yM 6 (yT (e.bA>(↑g.aq.length:Int))))<|zT 39<|zP 1 [{}] [.aa [5,39,6,24,17,10,9,4,3,2,0,1] [4,3,2]] [yL 5 5]<|dC<|bc<|aK (bP)
  by_cases c2:2*e.bA≤g.aq.length
  ·rw [if_pos (.inr c2)] at ce
   have cg:c_ g e=g:=if_pos ag
   rw [ce,cg]
   refine zO Tryz.func59 80<|zq<|zS<|zq<|zB 0<|zP 1 [{}] [.aa [10,9,5,4,3,2,0,1] [4,3,2]] []<|bk 10 (e.kind == (1:Int)) bD<|zq<|bk 17 (e.kind == (2:Int)) bD<|zP 1 [{}] [.aa [24,17,10,9,5,4,3,2,0,1] [4,3,2]] []<|dB 24 (e.kind == (3:Int)) eJ<|zP 1 [yH [(2,{k:=g.aq.length})]] [.aa [6,24,17,10,9,5,4,3,2,0,1] [4,3,2]] [yI nG]<|zS<|zP 1 [yH ([(7,{av:=some (ai ((2:Int)*e.bA)),g:=false}),(10,{b:=false})]++yg [5,6,8,9])] [.aa [39,6,24,17,10,9,5,4,3,2,0,1] [4,3,2]] (yM 3 (yF (e.bA>(↑g.aq.length:Int)))++ [yN ((2:Int)*e.bA)]++yM 3 (yF (e.bA>(↑g.aq.length:Int))))<|iw 39 ((2:Int)*e.bA≤(↑g.aq.length:Int))<|zP 1 [{}] [.aa [5,39,6,24,17,10,9,4,3,2,0,1] [4,3,2]] [yL 5 5]<|dC<|bc<|aK (bP)
  rw [if_neg ag] at ce
  have cg:c_ g e=⟨g.aC,g.head,e.bA,g.aq,g.aU⟩:=by unfold c_;rw [if_neg ag,if_neg k1,if_neg k2,if_pos k3]
  rw [ce,cg]
  refine zO Tryz.func59 80<|zq<|zS<|zq<|zB 0<|zP 1 [{}] [.aa [10,9,5,4,3,2,0,1] [4,3,2]] []<|bk 10 (e.kind == (1:Int)) bD<|zq<|bk 17 (e.kind == (2:Int)) bD<|zP 1 [{}] [.aa [24,17,10,9,5,4,3,2,0,1] [4,3,2]] []<|dB 24 (e.kind == (3:Int)) eJ<|zP 1 [yH [(2,{k:=g.aq.length})]] [.aa [6,24,17,10,9,5,4,3,2,0,1] [4,3,2]] [yI nG]<|zS<|zP 1 [yH ([(7,{av:=some (ai ((2:Int)*e.bA)),g:=false}),(10,{b:=false})]++yg [5,6,8,9])] [.aa [39,6,24,17,10,9,5,4,3,2,0,1] [4,3,2]] (yM 3 (yF (e.bA>(↑g.aq.length:Int)))++ [yN ((2:Int)*e.bA)]++yM 3 (yF (e.bA>(↑g.aq.length:Int))))<|dF 39 ((2:Int)*e.bA≤(↑g.aq.length:Int))<|a_<|zX {} [yL 3 5]<|aJ<|al<|zP 1 [{}] [.aa [5,41,39,6,24,17,10,9,4,3,2,0,1] [4,2,3]] [yL 5 5]<|zR (bP)
 have k5:e.kind=5:=ag
 have wO:=B1 g e.bV ag
 have fi:=D9 g.aU ag
 have ce:gW g e=if wP g.aU e.bV=g.aU.length then 11 else if (g.aU.getD (wP g.aU e.bV) default).target≠0 then 18 else 0:=by unfold gW;rw [if_neg k1,if_neg k2,if_neg k3,if_neg k4]
 rcases oV g.aU e.bV with ⟨hf,hk⟩|⟨k,hf,hk,iY⟩
 ·rw [if_pos hf] at ce
  have cg:c_ g e=g:=if_pos ag
  rw [ce,cg]
  rw [hk] at wO
  refine zO Tryz.func59 80<|zq<|zS<|zq<|zB 0<|zP 1 [{}] [.aa [10,9,5,4,3,2,0,1] [4,3,2]] []<|bk 10 (e.kind == (1:Int)) bD<|zq<|bk 17 (e.kind == (2:Int)) bD<|zP 1 [{}] [.aa [24,17,10,9,5,4,3,2,0,1] [4,3,2]] []<|bk 24 (e.kind == (3:Int)) bD<|zq<|bk 44 (e.kind == (4:Int)) bD<|zP 1 [{}] [.aa [51,44,24,17,10,9,5,4,3,2,0,1] [4,3,2]] []<|dB 51 (e.kind == (5:Int)) eJ<|zP 1 [yH [(3,yC wO)]] [.aa [7,51,44,24,17,10,9,5,4,3,2,0,1] [4,3,2]] [yI wO]<|zS<|zq<|iw 58 ((-1:Int)<0)<|zP 1 [{}] [.aa [5,58,7,51,44,24,17,10,9,4,3,2,0,1] [4,3,2]] [yL 5 5]<|dC<|bc<|aK (bP)
 rw [if_neg ag,hf] at ce
 rw [hk] at wO
 have gM:=Ad iY
 by_cases c1:(g.aU.getD k default).target=0
 case neg =>
  rw [if_pos c1] at ce
  have cg:c_ g e=g:=if_pos ag
  rw [ce,cg]
  refine zO Tryz.func59 80<|zq<|zS<|zq<|zB 0<|zP 1 [{}] [.aa [10,9,5,4,3,2,0,1] [4,3,2]] []<|bk 10 (e.kind == (1:Int)) bD<|zq<|bk 17 (e.kind == (2:Int)) bD<|zP 1 [{}] [.aa [24,17,10,9,5,4,3,2,0,1] [4,3,2]] []<|bk 24 (e.kind == (3:Int)) bD<|zq<|bk 44 (e.kind == (4:Int)) bD<|zP 1 [{}] [.aa [51,44,24,17,10,9,5,4,3,2,0,1] [4,3,2]] []<|dB 51 (e.kind == (5:Int)) eJ<|zP 1 [yH [(3,yC wO)]] [.aa [7,51,44,24,17,10,9,5,4,3,2,0,1] [4,3,2]] [yI wO]<|zS<|zq<|dF 58 ((↑k:Int)<0)<|a_<|zS<|zP 1 [yH [(3,{k:=k}),(5,yV (aw ((g.aU.getD k default).target))),(6,yV (ao ((g.aU.getD k default).target != 0)))]] [.aa [66,58,7,51,44,24,17,10,9,5,4,3,2,0,1] [4,3,2]] [yR (↑k:Int),yO (k*7<(af bj g.aU).length),yA bj g.aU k 6,yI (cG ((g.aU.getD k default).target) 0)]<|dB 66 ((g.aU.getD k default).target != 0) (by simp_all)<|zP 1 [{}] [.aa [5,66,58,7,51,44,24,17,10,9,4,3,2,0,1] [4,3,2]] [yL 5 5]<|dC<|bc<|aK (bP)
 rw [if_neg (fun q=>q c1)] at ce
 have cg:c_ g e=⟨g.aC,g.head,g.bA,g.aq,uV g.aU k e.target⟩:=by unfold c_;rw [if_neg ag,if_neg k1,if_neg k2,if_neg k3,if_neg k4,hf]
 rw [ce,cg]
 have s1:=Cf iY e.target
 refine zO Tryz.func59 80<|zq<|zS<|zq<|zB 0<|zP 1 [{}] [.aa [10,9,5,4,3,2,0,1] [4,3,2]] []<|bk 10 (e.kind == (1:Int)) bD<|zq<|bk 17 (e.kind == (2:Int)) bD<|zP 1 [{}] [.aa [24,17,10,9,5,4,3,2,0,1] [4,3,2]] []<|bk 24 (e.kind == (3:Int)) bD<|zq<|bk 44 (e.kind == (4:Int)) bD<|zP 1 [{}] [.aa [51,44,24,17,10,9,5,4,3,2,0,1] [4,3,2]] []<|dB 51 (e.kind == (5:Int)) eJ<|zP 1 [yH [(3,yC wO)]] [.aa [7,51,44,24,17,10,9,5,4,3,2,0,1] [4,3,2]] [yI wO]<|zS<|zq<|dF 58 ((↑k:Int)<0)<|a_<|zS<|zP 1 [yH [(3,{k:=k}),(5,yV (aw ((g.aU.getD k default).target))),(6,yV (ao false))]] [.aa [66,58,7,51,44,24,17,10,9,5,4,3,2,0,1] [4,3,2]] [yR (↑k:Int),yO (k*7<(af bj g.aU).length),yA bj g.aU k 6,yB (ao (wv (g.aU.getD k default).target != (0:Int))=ao false) (by rw [c1];rfl)]<|zF 66<|a_<|zP 1 [yH [(2,yD fi)]] [.aa [66,58,7,51,44,24,17,10,9,5,4,3,2,0,1] [2,70,4,3]] [yI fi,yL 5 5]<|zX (yH [(5,{k:=k}),(7,yV (AV.arr (af bj (uV g.aU k e.target))))]) [yR (↑k:Int),yO (k*7<(af bj g.aU).length),yI s1,yO (k*7+6+1≤(af bj g.aU).length)]<|aJ<|al<|zP 1 [{}] [.aa [5,66,58,7,51,44,24,17,10,9,4,3,2,0,1] [4,70,2,3]] [yL 5 5]<|bg.rz [.gR 70] bu<|zR (bP)
theorem sG (g:ig) (e:fC) (hG:ry g) (hB:nB e) (hv:e.ak.length≤1000000):bG Tryz.prog 30 [.agg (dA g),.agg (bf e)] (.cw [.agg (dA (jC g e)),ai (gQ g e)]):=by
 have l0:(af aL e.ak).length=e.ak.length*4:=aE (e:=4) (fun _=>rfl) ..
 have wZ:=qd e hB
 by_cases cb:fa e=0
 case neg =>
  have ce:gQ g e=fa e:=if_pos cb
  have cg:jC g e=g:=if_pos (by rw [ce];exact cb)
  rw [if_neg cb] at wZ
  rw [ce,cg]
  refine zO Tryz.func30 92<|zP 2 [{},yH [(1,yC wZ)]] [.aa [7,6,5,4,3,2,0,1] [4,3,2]] [yI wZ]<|zS<|zQ 1 [yH [(1,yV (ao true))]] [yB (ao (fa e != (0:Int))=ao true) (by simp [cb])]<|zT 19<|zP 1 [{}] [.aa [5,19,7,6,4,3,2,0,1] [4,3,2]] [yL 5 5]<|dC (bP)
 rw [if_pos cb,cb] at wZ
 obtain ⟨k1,k5,RZ,T9,wN,UF⟩:=qO cb
 by_cases c1:e.aC≠g.aC+1
 ·have ce:gQ g e=42:=by unfold gQ;rw [if_neg (fun q=>q cb),if_pos (.inl c1)]
  have cg:jC g e=g:=if_pos ag
  rw [ce,cg]
  have wI:(e.aC-1 != g.aC)=true:=bne_iff_ne.2 ag
  refine zO Tryz.func30 92<|zP 2 [{},yH [(1,yC wZ)]] [.aa [7,6,5,4,3,2,0,1] [4,3,2]] [yI wZ]<|zS<|zq<|zF 19<|a_<|zS<|zP 1 [yH [(2,yV (ai (e.aC-1)))]] [.aa [34,19,7,6,5,4,3,2,0,1] [4,3,2]] ([yN (e.aC-1)]++yM 6 (yI wI))<|zT 34<|zP 1 [{}] [.aa [5,34,19,7,6,4,3,2,0,1] [4,3,2]] [yL 5 5]<|dC (bP)
 have Pv:e.aC=g.aC+1:=ag
 have wI:(e.aC-1 != g.aC)=false:=by rw [Pv];simp
 by_cases c2:e.prev=g.head
 case neg =>
  have ce:gQ g e=42:=by unfold gQ;rw [if_neg (fun q=>q cb),if_pos (.inr c2)]
  have cg:jC g e=g:=if_pos ag
  rw [ce,cg]
  have Uc:(e.prev != g.head)=true:=bne_iff_ne.2 c2
  refine zO Tryz.func30 92<|zP 2 [{},yH [(1,yC wZ)]] [.aa [7,6,5,4,3,2,0,1] [4,3,2]] [yI wZ]<|zS<|zq<|zF 19<|a_<|zS<|zP 1 [yH ([(2,yV (ai (e.aC-1))),(11,{av:=some (ao (e.prev != g.head)),g:=false}),(12,{b:=false})]++yg [7,8,9,10])] [.aa [34,19,7,6,5,4,3,2,0,1] [4,3,2]] ([yN (e.aC-1)]++yM 5 (yI wI)++ [yI (cG e.prev g.head),yI wI])<|dB 34 (e.prev != g.head) (by assumption)<|zP 1 [{}] [.aa [5,34,19,7,6,4,3,2,0,1] [4,3,2]] [yL 5 5]<|dC (bP)
 have Uc:(e.prev != g.head)=false:=by rw [c2];simp
 have G6:gQ g e=if fT g (cJ e) e.ak≠0 then fT g (cJ e) e.ak else gW g e:=by unfold gQ;rw [if_neg (fun q=>q cb),if_neg (by rintro (q|q);exact q Pv;exact q c2)]
 have m8:=hG.m8
 have t_:=Kf g (cJ e) e.ak ag hv
 by_cases c3:fT g (cJ e) e.ak=0
 case neg =>
  rw [if_pos c3] at G6
  have cg:jC g e=g:=if_pos (by rw [G6];exact c3)
  rw [G6,cg]
  refine zO Tryz.func30 92<|zP 2 [{},yH [(1,yC wZ)]] [.aa [7,6,5,4,3,2,0,1] [4,3,2]] [yI wZ]<|zS<|zQ 1 [yH [(1,yV (ao false))]] [yR (ao false)]<|zF 19<|a_<|zS<|zP 1 [yH ([(2,yV (ai (e.aC-1))),(11,{av:=some (ao (e.prev != g.head)),g:=false}),(12,{b:=false})]++yg [7,8,9,10])] [.aa [34,19,7,6,5,4,3,2,0,1] [4,3,2]] ([yN (e.aC-1)]++yM 5 (yI wI)++ [yI (cG e.prev g.head),yI wI])<|bk 34 (e.prev != g.head) (by assumption)<|a_<|zS<|zP 2 [yH [(4,yC t_)],yH [(1,yV (ao true))]] [.aa [42,41,8,34,19,7,6,5,4,3,2,0,1] [4,3,2]] [yI t_,yB (ao (fT g (cJ e) e.ak != (0:Int))=ao true) (by simp [c3])]<|zT 42<|zP 1 [{}] [.aa [5,42,41,8,34,19,7,6,4,3,2,0,1] [4,3,2]] [yL 5 5]<|dC (bP)
 have LA:=fun i hi=>xi c3 (i:=i) hi
 rw [if_neg (fun q=>q c3)] at G6
 rw [c3] at t_
 have tI:=B2 g e hG k1 k5 (zo cb) hB.dep
 rw [←G6] at tI
 by_cases c4:gQ g e=0
 case neg =>
  have cg:jC g e=g:=if_pos c4
  rw [cg]
  refine zO Tryz.func30 92<|zP 2 [{},yH [(1,yC wZ)]] [.aa [7,6,5,4,3,2,0,1] [4,3,2]] [yI wZ]<|zS<|zQ 1 [yH [(1,yV (ao false))]] [yR (ao false)]<|zF 19<|a_<|zS<|zP 1 [yH ([(2,yV (ai (e.aC-1))),(11,{av:=some (ao (e.prev != g.head)),g:=false}),(12,{b:=false})]++yg [7,8,9,10])] [.aa [34,19,7,6,5,4,3,2,0,1] [4,3,2]] ([yN (e.aC-1)]++yM 5 (yI wI)++ [yI (cG e.prev g.head),yI wI])<|bk 34 (e.prev != g.head) (by assumption)<|a_<|zS<|zP 2 [yH [(4,yC t_)],yH [(1,yV (ao false))]] [.aa [42,41,8,34,19,7,6,5,4,3,2,0,1] [4,3,2]] [yI t_,yR (ao false)]<|zF 42<|a_<|zP 1 [yH [(2,yD tI)]] [.aa [7,9,42,41,8,34,19,6,5,4,3,2,0,1] [9,4,3,2]] [yI tI,yL 5 5]<|zS<|zQ 1 [yH [(1,yV (ao true))]] [yB (ao (gQ g e != (0:Int))=ao true) (by simp [c4])]<|zT 52<|zP 1 [{}] [.aa [5,52,7,9,42,41,8,34,19,6,4,3,2,0,1] [4,9,3,2]] [yL 5 5]<|dC (bP)
 have cg:jC g e=⟨e.aC,cJ e,(c_ g e).bA,kt (c_ g e).aq e.ak,(c_ g e).aU⟩:=if_neg (fun q=>q c4)
 rw [cg,c4]
 rw [c4] at tI
 have fi:=Cj g e
 generalize c_ g e=G at *
 have nG:∀i,(af aT (kt G.aq (e.ak.take i))).length=G.aq.length*4:=fun i=>by rw [aE (e:=4) (fun _=>rfl),nN]
 have MN:=vo G.aq ag
 generalize cJ e=W at *
 clear G6 cg UF wN
 refine zO Tryz.func30 92<|zP 2 [{},yH [(1,yC wZ)]] [.aa [7,6,5,4,3,2,0,1] [4,3,2]] [yI wZ]<|zS<|zq<|zF 19<|a_<|zS<|zP 1 [yH ([(2,yV (ai (e.aC-1))),(11,{av:=some (ao (e.prev != g.head)),g:=false}),(12,{b:=false})]++yg [7,8,9,10])] [.aa [34,19,7,6,5,4,3,2,0,1] [4,3,2]] ([yN (e.aC-1)]++yM 5 (yI wI)++ [yI (cG e.prev g.head),yI wI])<|bk 34 (e.prev != g.head) (by assumption)<|a_<|zS<|zP 2 [yH [(4,yC t_)],{}] [.aa [42,41,8,34,19,7,6,5,4,3,2,0,1] [4,3,2]] [yI t_]<|zF 42<|a_<|zP 1 [yH [(2,yD tI)]] [.aa [7,9,42,41,8,34,19,6,5,4,3,2,0,1] [9,4,3,2]] [yI tI,yL 5 5]<|zS<|zq<|zF 52<|a_<|zP 3 [{},{},yH [(2,yD MN)]] [.aa [52,7,9,42,41,8,34,19,6,5,4,3,2,0,1] [9,62,4,3,2]] [yL 1 5,yL 2 5,yI MN,yL 4 5]<|zS<|zQ 1 [yH [(2,{k:=e.ak.length})]] [yI l0]<|zB 0 (zL (fun (i:Nat)=>(⟨[(66,ai (↑e.ak.length:Int)),(65,AV.sl 4 (af aL e.ak)),(52,ao ((0:Int) != (0:Int))),(7,ai 0),(9,AV.addr 9 0),(42,ao ((0:Int) != (0:Int))),(41,ai 0),(8,ai 0),(34,ao (e.prev != g.head)),(19,ao ((0:Int) != (0:Int))),(6,aw W),(5,ai 0),(4,AV.addr 4 0),(3,AV.addr 3 0),(2,AV.addr 2 0),(0,AV.agg (dA g)),(1,AV.agg (bf e)),(67,ai i)],[(9,⟨1,false,true,[ai e.aC,aw W,ai G.bA,AV.ref 62,AV.sl 7 (af bj G.aU)]⟩),(4,⟨1,false,true,[ai 0,ez,ai 0,AV.nil,AV.nil]⟩),(3,⟨1,false,true,(bf e)⟩),(2,⟨1,false,true,List.map (aF 62) (List.map (aF 9) (List.map (aF 4) (List.map (aF 3) (List.map (aF 2) (dA g)))))⟩),(62,⟨4,true,false,af aT (kt G.aq (e.ak.take i))⟩)]⟩:AS)) (fun i=>(i≤e.ak.length)) (fun i=>(e.ak.length-i)) (0) ?_ (zW [.aa [66,65,52,7,9,42,41,8,34,19,6,5,4,3,2,0,1,67] [9,4,3,2,62]]) ?_)
 ·omega
 intro i hi
 have V5:=nG i
 refine bg.mj 1 [{}] bu (s':=AS.mk [(68,ao (decide ((↑i:Int)<(↑e.ak.length:Int)))),(66,ai (↑e.ak.length:Int)),(65,AV.sl 4 (af aL e.ak)),(52,ao ((0:Int) != (0:Int))),(7,ai 0),(9,AV.addr 9 0),(42,ao ((0:Int) != (0:Int))),(41,ai 0),(8,ai 0),(34,ao (e.prev != g.head)),(19,ao ((0:Int) != (0:Int))),(6,aw W),(5,ai 0),(4,AV.addr 4 0),(3,AV.addr 3 0),(2,AV.addr 2 0),(0,AV.agg (dA g)),(1,AV.agg (bf e)),(67,ai ↑i)] [(9,Row.mk 1 false true [ai e.aC,aw W,ai G.bA,AV.ref 62,AV.sl 7 (af bj G.aU)]),(4,Row.mk 1 false true [ai 0,ez,ai 0,AV.nil,AV.nil]),(3,Row.mk 1 false true (bf e)),(2,Row.mk 1 false true (List.map (aF 62) (List.map (aF 9) (List.map (aF 4) (List.map (aF 3) (List.map (aF 2) (dA g))))))),(62,Row.mk 4 true false (af aT (kt G.aq (List.take i e.ak))))]) (C:=[]) bu trivial<|zS (zD 68 ((↑i:Int)<(↑e.ak.length:Int)) (fun q=>?_) (fun q=>?_))
 ·have dI:i<e.ak.length:=ag
  have gM:=i4 dI
  have dJ:=xm G.aq dI
  obtain ⟨Au,Hj⟩:=LA i dI
  have XM:(kt G.aq (e.ak.take i)).length=G.aq.length:=nN _ _
  generalize kt G.aq (e.ak.take i)=U at *
  have jL:bG Tryz.prog 61 [.agg (dA ⟨e.aC,W,G.bA,U,G.aU⟩),cV (e.ak.getD i default).name] (ai (dZ U (e.ak.getD i default).name)):=oq ⟨e.aC,W,G.bA,U,G.aU⟩ (e.ak.getD i default).name (by show U.length≤_;omega)
  rcases gU U (e.ak.getD i default).name with hk|⟨k,hk,iY,QD⟩
  ·have h1:qg U (e.ak.getD i default)=U:=if_pos ag
   rw [h1] at dJ
   rw [hk] at jL
   refine a_<|zS<|zB 1<|zP 3 [yH [(0,{k:=i}),(1,yV (AV.agg (aL (e.ak.getD i default))))],yH [(3,yC jL)],{}] [.aa [76,12,11,68,66,65,52,7,9,42,41,8,34,19,6,5,4,3,2,0,1,67] [11,9,4,3,2,62]] [yR (↑i:Int),yO (i*4<(af aL e.ak).length),yu aL e.ak i 0 4,yR 4,yL 4 4,yI jL]<|dF 76 ((-1:Int)≥0)<|zK<|aJ<|al<|zX (yH [(0,yV (ai ((↑i:Int)+1)))]) [yN ((↑i:Int)+1)] (aH (i+1) (by assumption) ag (eS [.aa [66,65,52,7,9,42,41,8,34,19,6,5,4,3,2,0,1,67] [9,4,3,2,62]] [] [62] [yB (af aT U=af aT (kt G.aq (List.take (i+1) e.ak))) (by rw [dJ])]))
  ·have h1:qg U (e.ak.getD i default)=U.set k {U.getD k default with used:=(U.getD k default).used|||gO (e.ak.getD i default).leaf}:=by unfold qg;rw [if_neg ag,vm hk,hk];rfl
   rw [h1] at dJ
   rw [hk] at jL
   have S5:=oO iY
   have SH:=xI iY ((U.getD k default).used|||gO (e.ak.getD i default).leaf)
   refine a_<|zS<|zB 1<|zP 3 [yH [(0,{k:=i}),(1,yV (AV.agg (aL (e.ak.getD i default))))],yH [(3,yC jL)],{}] [.aa [76,12,11,68,66,65,52,7,9,42,41,8,34,19,6,5,4,3,2,0,1,67] [11,9,4,3,2,62]] [yR (↑i:Int),yO (i*4<(af aL e.ak).length),yu aL e.ak i 0 4,yR 4,yL 4 4,yI jL]<|iw 76 ((↑k:Int)≥0)<|zX ({hs:=[(3,{k:=k}),(5,yV (aw ((U.getD k default).used))),(9,yV (aw (gO (e.ak.getD i default).leaf))),(10,yV (aw ((U.getD k default).used|||gO (e.ak.getD i default).leaf))),(11,{k:=k})],T:=10}) [yR (↑k:Int),yO (k*4<(af aT U).length),yA aT U k 3,yB (AV.val (Value.int .u64 (IntKind.u64.wrap ((1:Int)*(2:Int)^min (e.ak.getD i default).leaf.toNat IntKind.u64.bits)))=aw (gO (e.ak.getD i default).leaf)) (jP 1 _ Au ag),yI Au,yI (p8 ((U.getD k default).used) (gO (e.ak.getD i default).leaf)),yR (↑k:Int),yO (k*4<(af aT U).length),yO (k*4+3+1≤(af aT U).length)]<|aJ<|al<|zX (yH [(0,yV (ai ((↑i:Int)+1)))]) [yN ((↑i:Int)+1)] (aH (i+1) (by assumption) ag (eS [.aa [66,65,52,7,9,42,41,8,34,19,6,5,4,3,2,0,1,67] [9,4,3,2,62]] [] [62] [yB ((af aT U).set (k*4+3) (aw ((U.getD k default).used|||gO (e.ak.getD i default).leaf))=af aT (kt G.aq (List.take (i+1) e.ak))) (by rw [dJ];exact SH)]))
 ·have ei:i=e.ak.length:=ag
  subst ei
  rw [List.take_length]
  refine zE 0<|a6<|aM<|bm<|al<|zP 1 [{}] [.aa [5,68,66,65,52,7,9,42,41,8,34,19,6,4,3,2,0,1,67] [4,9,3,2,62]] [yL 5 5]<|bg.rz [.gR 62] bu<|zR (bP)
def JW (e:fC) (V:List ic):List AV:=[ai e.aC,aw e.prev,ai e.kind,cV e.name,ai e.kh,aw e.kr,ai e.bA,aw e.dep.bV,aw e.dep.peer,.own 1 (aj e.dep.box),.own 1 (af ay e.dep.ae),.own 1 (ah e.dep.ax),ai e.dep.need,aw e.dep.target,aw e.bV,aw e.target,.own 4 (af aL V)]
theorem xh (e:fC) (W:UInt64) (name:List UInt8) (seed:UInt64) (h leaf:Int) (hv:e.ak= []) (hs:wS h leaf=0) (hw:bG Tryz.prog 50 [.agg (bf e)] (.cw [aw W,ai 0])) (h1:e.dep.box.length≤1000000) (h2:e.dep.ae.length≤1000000) (h3:e.dep.ax.length≤1000000) :
  bG Tryz.prog 25 [.agg (bf e),cV name,aw seed,ai h,ai leaf] (.cw [.agg (JW e [⟨name,np h leaf,mN seed h leaf W,mM seed h leaf⟩]),ai 0]):=by
 have l0:(af aL e.ak).length=0:=by rw [hv];rfl
 have xR:=oz e.dep h1 h2 h3
 refine zO Tryz.func25 114<|zP 2 [{},yH [(1,yC hw)]] [.aa [13,12,11,10,5,0,1,2,3,4] [10,5]] [yI hw]<|zS<|zq<|zF 27<|a_<|zS<|zP 1 [yH [(2,{k:=e.ak.length})]] [.aa [33,32,31,27,13,12,11,10,5,0,1,2,3,4] [10,5]] [yB ((af aL e.ak).length=e.ak.length*4) (by simp only [aE (f:=aL) (e:=4) (fun _=>rfl)])]<|zB 0 (zL (fun (i:Nat)=>(⟨[(32,ai (↑e.ak.length:Int)),(31,AV.sl 4 (af aL e.ak)),(27,ao ((0:Int) != (0:Int))),(13,ai 0),(12,aw W),(10,AV.addr 10 0),(5,AV.addr 5 0),(0,AV.agg (bf e)),(1,cV name),(2,aw seed),(3,ai h),(4,ai leaf),(33,ai i)],[(10,⟨1,false,true,[ai 0,ez,ai 0,AV.val (Value.string (ByteArray.mk #[])),ai 0,ez,ai 0,ez,ez,AV.nil,AV.nil,AV.nil,ai 0,ez,ez,ez,AV.nil]⟩),(5,⟨1,false,true,List.map (aF 10) (List.map (aF 5) (bf e))⟩)]⟩:AS)) (fun i=>(i=0)) (fun i=>0) (0) ?_ (zW [.aa [32,31,27,13,12,10,5,0,1,2,3,4,33] [10,5]]) ?_)
 ·rfl
 rintro i rfl
 refine zq<|zS<|bk 34 (decide ((↑(0:Nat):Int)<(↑e.ak.length:Int))) (by simp_all)<|zE 0<|a6<|aM<|bm<|al<|zP 1 [yH [(4,yD (mg (seed) (h) (leaf) (W)))]] [.aa [13,16,34,32,31,27,12,10,5,0,1,2,3,4,33] [16,301048,10,5]] [yI (mg seed h leaf W),yL 3 3]<|zS<|zQ 1 [yH [(1,yV (ao false))]] [yB (ao (wS h leaf != (0:Int))=ao false) (by simp [hs])]<|zF 52<|a_<|zq<|zS<|zB 2 (zL (fun (i:Nat)=>(⟨[(52,ao false),(13,ai (wS h leaf)),(16,AV.addr 16 0),(34,ao (decide ((↑(0:Nat):Int)<(↑e.ak.length:Int)))),(32,ai (↑e.ak.length:Int)),(31,AV.sl 4 (af aL e.ak)),(27,ao ((0:Int) != (0:Int))),(12,aw W),(10,AV.addr 10 0),(5,AV.addr 5 0),(0,AV.agg (bf e)),(1,cV name),(2,aw seed),(3,ai h),(4,ai leaf),(33,ai (↑(0:Nat):Int)),(17,ai i)],[(16,⟨1,false,true,[ai (np h leaf),AV.sl 1 (ah (mN seed h leaf W)),AV.ref 301048]⟩),(10,⟨1,false,true,[ai 0,ez,ai 0,AV.val (Value.string (ByteArray.mk #[])),ai 0,ez,ai 0,ez,ez,AV.nil,AV.nil,AV.nil,ai 0,ez,ez,ez,AV.nil]⟩),(5,⟨1,false,true,List.map (aF 16) (List.map (aF 301048) (List.map (aF 10) (List.map (aF 5) (bf e))))⟩),(301048,⟨1,true,false,ah (mM seed h leaf)⟩)]⟩:AS)) (fun i=>(i=0)) (fun i=>0) (0) ?_ (zW [.aa [52,13,16,34,32,31,27,12,10,5,0,1,2,3,4,33,17] [16,10,5,301048]]) ?_)
 ·rfl
 rintro i rfl
 have w1:IntKind.i64.wrap ((e.ak.length:Int)+1)=(1:Nat):=by rw [hv];rfl
 refine zS<|zP 1 [yH ([(3,{k:=e.ak.length}),(14,{b:=false})]++yg [6,7,8,9,10,11,12,13])] [.aa [69,52,13,16,34,32,31,27,12,10,5,0,1,2,3,4,33,17] [16,10,5,301048]] ([yB ((af aL e.ak).length=e.ak.length*4) (by simp only [aE (f:=aL) (e:=4) (fun _=>rfl)])]++yM 9 (yS (decide ((↑(0:Nat):Int)<(↑e.ak.length:Int))=false)))<|zF 69<|zE 2<|a6<|aM<|bm<|al<|zP 1 [yH [(2,{k:=e.ak.length}),(3,yV (ai (↑(1:Nat):Int))),(4,{k:=0,m:=1})]] [.aa [18,69,52,13,16,34,32,31,27,12,10,5,0,1,2,3,4,33,17] [76,16,10,5,301048]] [yB ((af aL e.ak).length=e.ak.length*4) (by simp only [aE (f:=aL) (e:=4) (fun _=>rfl)]),yI (yc w1),yR (0:Int),yR (↑(1:Nat):Int),yL 0 1,yL 72 281474976710656,yB (1≤maxLen) (by decide)]<|zS<|zQ 1 [yH [(2,{k:=e.ak.length})]] [yB ((af aL e.ak).length=e.ak.length*4) (by simp only [aE (f:=aL) (e:=4) (fun _=>rfl)])]<|zB 4 (zL (fun (i:Nat)=>(⟨[(79,ai (↑e.ak.length:Int)),(78,AV.sl 4 (af aL e.ak)),(69,ao false),(52,ao false),(13,ai (wS h leaf)),(16,AV.addr 16 0),(34,ao (decide ((↑(0:Nat):Int)<(↑e.ak.length:Int)))),(32,ai (↑e.ak.length:Int)),(31,AV.sl 4 (af aL e.ak)),(27,ao ((0:Int) != (0:Int))),(12,aw W),(10,AV.addr 10 0),(5,AV.addr 5 0),(0,AV.agg (bf e)),(1,cV name),(2,aw seed),(3,ai h),(4,ai leaf),(33,ai (↑(0:Nat):Int)),(17,ai (↑(0:Nat):Int)),(80,ai i),(18,AV.ref 76)],[(16,⟨1,false,true,[ai (np h leaf),AV.sl 1 (ah (mN seed h leaf W)),AV.ref 301048]⟩),(10,⟨1,false,true,[ai 0,ez,ai 0,AV.val (Value.string (ByteArray.mk #[])),ai 0,ez,ai 0,ez,ez,AV.nil,AV.nil,AV.nil,ai 0,ez,ez,ez,AV.nil]⟩),(5,⟨1,false,true,List.map (aF 76) (List.map (aF 16) (List.map (aF 301048) (List.map (aF 10) (List.map (aF 5) (bf e)))))⟩),(301048,⟨1,true,false,ah (mM seed h leaf)⟩),(76,⟨4,true,false,af aL []⟩)]⟩:AS)) (fun i=>(i=0)) (fun i=>0) (0) ?_ (zW [.aa [79,78,69,52,13,16,34,32,31,27,12,10,5,0,1,2,3,4,33,17,80,18] [16,10,5,301048,76]]) ?_)
 ·rfl
 rintro i rfl
 have hI:gn Tryz.prog 53 [.ref 5,ai 0,.sl 4 [cV name,ai (np h leaf),.sl 1 (ah (mN seed h leaf W)),.sl 1 (ah (mM seed h leaf))]] [(5,⟨4,true,false,af aL []⟩)] (.own 4 (af aL [⟨name,np h leaf,mN seed h leaf W,mM seed h leaf⟩])) [(5,⟨4,true,false,af aL []⟩)]:=tf [] ⟨name,np h leaf,mN seed h leaf W,mM seed h leaf⟩ (by decide)
 refine zq<|zS<|bk 81 (decide ((↑(0:Nat):Int)<(↑e.ak.length:Int))) (by simp_all)<|zE 4<|a6<|aM<|bm<|al<|zP 3 [yH [(6,yE [(76,5)] hI)],yH [(2,yD xR)],{}] [.aa [11,81,79,78,69,52,13,16,34,32,31,27,12,10,5,0,1,2,3,4,33,17,80] [10,5,500111,400111,300111,107,16]] [yI hI,yL 17 17,yI xR,yL 14 17,yL 17 17]<|zR (bP)
theorem Jk (q:Nat) (hq:q<16):(q%2=0->q^^^1=q+1∧q=2*(q/2))∧(q%2≠0->q^^^1=q-1∧q=2*(q/2)+1):=by
 have key:∀q:Fin 16,(q.val%2=0->q.val^^^1=q.val+1∧q.val=2*(q.val/2))∧(q.val%2≠0->q.val^^^1=q.val-1∧q.val=2*(q.val/2)+1):=by decide +kernel
 exact key ⟨q,hq⟩
theorem Ed (seed:UInt64) (leaf n:Nat) (x:UInt64) (hx:x=gp seed 0 leaf) (T0:leaf<16) (k:Nat) (hk:k≤n):dG leaf (dh seed leaf n) x k=gp seed k (leaf/2^k):=by
 induction k with
 | zero=>simp [dG,hx]
 | succ k ih =>
  have ih:=ih ag
  have hg:(dh seed leaf n).getD k 0=gp seed k (leaf/2^k^^^1):=by simp [dh,show k<n by omega]
  have hd:leaf/2^(k+1)=leaf/2^k/2:=by rw [Nat.pow_succ,Nat.div_div_eq_div_mul]
  obtain ⟨h1,h2⟩:=Jk (leaf/2^k) (Nat.lt_of_le_of_lt (Nat.div_le_self ..) T0)
  unfold dG
  rw [ih,hg,hd]
  generalize leaf/2^k=q at *
  by_cases hq:q%2=0
  ·obtain ⟨e1,e2⟩:=h1 hq
   rw [if_pos hq,e1]
   show hY _ _ _=hY _ _ _
   rw [←e2]
  ·obtain ⟨e1,e2⟩:=h2 hq
   rw [if_neg hq,e1]
   show hY _ _ _=hY _ _ _
   rw [show 2*(q/2)+1=q by omega,show 2*(q/2)=q-1 by omega]
theorem HB (seed:UInt64) (h leaf:Nat) (m:UInt64) (hh:h≤4) (hl:leaf<2^h):lR (h:Int) (gp seed h 0) m (leaf:Int) (bS seed leaf m 18) (dh seed leaf h)=0:=by
 have hb:¬iZ (h:Int) (leaf:Int):=by unfold iZ ct;rw [Int.toNat_natCast];omega
 have e:=Ed seed leaf h (combine leaf (cP leaf m (bS seed leaf m 18) 18)) (by rw [Ia];rfl) (Nat.lt_of_lt_of_le hl (Nat.pow_le_pow_right (by decide) hh)) h (Nat.le_refl h)
 rw [Nat.div_eq_of_lt hl] at e
 unfold lR
 rw [if_neg hb,if_neg (by rw [oH,oK];omega),Int.toNat_natCast,Int.toNat_natCast,if_pos e]
def JT:List (Nat×Nat):=[(9,1),(10,1),(11,1),(16,4)]
def OC:nH:=⟨0,0,[],[],[],0,0⟩
theorem Sj:eF [109,48]=0:=EP (by decide) (by decide)
theorem PU:eF [109,49]=0:=EP (by decide) (by decide)
theorem PO (s:UInt64):Mt s 4=gp s 4 0:=if_neg (show ¬ct 4 by decide)
theorem So:eK 0=⟨[109,48],4,gp 300 4 0,0⟩:=by
 unfold eK
 rw [PO,show u8 (48+((0:Nat):Int))=48 by decide,show (300:UInt64)+u64 ((0:Nat):Int)=300 by decide]
theorem Sn:eK 1=⟨[109,49],4,gp 301 4 0,0⟩:=by
 unfold eK
 rw [PO,show u8 (48+((1:Nat):Int))=49 by decide,show (300:UInt64)+u64 ((1:Nat):Int)=301 by decide]
def nz (hd P:UInt64) (V:List ic):fC:=⟨1,hd,1,[109,49],4,P,0,OC,0,0,V⟩
def sv (W:UInt64) (V:List ic):fC:=⟨2,W,2,[109,49],0,0,0,OC,0,0,V⟩
def Rf (hd P:UInt64):List AV:=[ai 1,aw hd,ai 1,cV [109,49],ai 4,aw P,ai 0,aw 0,aw 0,.nil,.nil,.nil,ai 0,aw 0,aw 0,aw 0,.nil]
def Ub (W:UInt64):List AV:=[ai 2,aw W,ai 2,cV [109,49],ai 0,aw 0,ai 0,aw 0,aw 0,.nil,.nil,.nil,ai 0,aw 0,aw 0,aw 0,.nil]
theorem MR:Aq OC:=⟨Nat.zero_le _,Nat.zero_le _,Nat.zero_le _,fun i hi=>absurd hi (Nat.not_lt_zero i)⟩
theorem DV (hd P:UInt64) (V:List ic):nB (nz hd P V):=⟨Nat.le_of_ble_eq_true rfl,MR⟩
theorem JV (W:UInt64) (V:List ic):nB (sv W V):=⟨Nat.le_of_ble_eq_true rfl,MR⟩
theorem DW (hd P:UInt64) (V:List ic):fa (nz hd P V)=0:=by
 have hs:fV (nz hd P V):=⟨.inl rfl,.inl rfl,.inr rfl,.inr ⟨rfl,rfl,rfl,rfl,rfl,rfl,rfl⟩,.inr ⟨rfl,rfl⟩,rfl⟩
 rw [Js (show (1:Int)≤1 by omega) (show (1:Int)≤5 by omega) hs (show (1:Int)≤1 by omega) (show (1:Int)≤2147483647 by omega)]
 unfold fI
 rw [if_pos (show (nz hd P V).kind=1 from rfl),if_neg (fun q=>q PU)]
 show gC 4=0
 decide
theorem DU (W:UInt64) (V:List ic):fa (sv W V)=0:=by
 have hs:fV (sv W V):=⟨.inr (.inl rfl),.inr ⟨rfl,rfl⟩,.inr rfl,.inr ⟨rfl,rfl,rfl,rfl,rfl,rfl,rfl⟩,.inr ⟨rfl,rfl⟩,rfl⟩
 rw [Js (show (1:Int)≤2 by omega) (show (2:Int)≤5 by omega) hs (show (1:Int)≤2 by omega) (show (2:Int)≤2147483647 by omega)]
 unfold fI
 rw [if_neg (show ¬(sv W V).kind=1 from (show ¬(2:Int)=1 by omega)),if_pos (show (sv W V).kind=2 from rfl)]
 exact PU
theorem y8 (m:Mem) (l:List Mem) {h:List UInt8} (e:m.name=h):dZ (m::l) h=(0:Nat):=y9 (i:=0) (Nat.zero_lt_succ _) ag e
theorem Iw (m:Mem) {h:List UInt8} (e:m.name≠h):dZ [m] h= -1:=y7 fun j hj=>by
 have:j=0:=by simp at hj;omega
 subst this;exact e
theorem AE (g:ig) (W:UInt64) (v:ic) (k:Nat) (h1:dZ g.aq v.name=k) (h3:lR (g.aq.getD k default).h (g.aq.getD k default).r W v.leaf v.cM v.path=0) (h6:(g.aq.getD k default).used&&&gO v.leaf=0):fT g W [v]=if (1:Int)<g.bA then 41 else 0:=by
 have h0:ki g W [v] 0=0:=by
  rw [yh (l:=[v]) (i:=0) (fun q=>absurd q.1 (Nat.lt_irrefl 0)) h1 h3,if_neg (fun q=>q h6)]
 have hf:ff (ki g W [v]) [v].length=0:=h0
 unfold fT
 rw [if_neg (fun q=>q hf)];rfl
theorem Cl:bG Tryz.prog 12 [] (ao true):=by
 have Ly:=f_ 0 ag
 have Fc:=f_ 1 ag
 rw [So] at Ly
 rw [Sn] at Fc
 have E5 (l:Nat) (hl:l<16) (m:UInt64):=HB 300 4 l m ag ag
 generalize gp 300 4 0=P0 at *
 generalize gp 301 4 0=P1 at *
 have BI:gC 4=0:=by decide
 have hn:=Jt ⟨[109,48],4,P0,0⟩ (Nat.le_of_ble_eq_true rfl)
 have ne:je ⟨[109,48],4,P0,0⟩=0:=by unfold je;rw [if_neg (by simp [Sj]),if_neg (by simp [BI]),if_neg (by simp)]
 rw [ne,show di ⟨[109,48],4,P0,0⟩=⟨0,hash 16 (d_ 4 P0++ [109,48]),1,[⟨[109,48],4,P0,0⟩],[]⟩ from if_pos ne] at hn
 generalize hash 16 (d_ 4 P0++ [109,48])=hd at hn
 have P6 (V:List ic):=qd _ (DV hd P1 V)
 simp only [if_pos (DW hd P1 _),DW] at P6
 have qx (V:List ic):cJ (nz hd P1 V)=cJ (nz hd P1 []):=rfl
 have aX (V:List ic):=Ko (g:=⟨0,hd,1,[⟨[109,48],4,P0,0⟩],[]⟩) (DW hd P1 V) rfl rfl
 simp only [qx] at P6 aX
 obtain ⟨W,hW⟩:∃W,W=cJ (nz hd P1 []):=⟨_,rfl⟩
 rw [←hW] at P6 aX
 have P5 (V:List ic):=qd _ (JV W V)
 simp only [if_pos (DU W _),DU] at P5
 have qz (V:List ic):cJ (sv W V)=cJ (sv W []):=rfl
 have aZ (V:List ic):=Ko (g:=⟨1,W,2,[⟨[109,48],4,P0,1⟩,⟨[109,49],4,P1,0⟩],[]⟩) (DU W V) rfl rfl
 simp only [qz] at P5 aZ
 obtain ⟨W2,Wx⟩:∃W2,W2=cJ (sv W []):=⟨_,rfl⟩
 rw [←Wx] at P5 aZ
 have b0:¬iZ 4 0:=by decide
 have b1:¬iZ 4 1:=by decide
 have hv:=xh (nz hd P1 []) W [109,48] 300 4 0 rfl (if_neg b0) (P6 []) (Nat.le_of_ble_eq_true rfl) (Nat.le_of_ble_eq_true rfl) (Nat.le_of_ble_eq_true rfl)
 have NH:=xh (sv W []) W2 [109,48] 300 4 1 rfl (if_neg b1) (P5 []) (Nat.le_of_ble_eq_true rfl) (Nat.le_of_ble_eq_true rfl) (Nat.le_of_ble_eq_true rfl)
 rw [show np 4 0=0 from if_neg b0,show mN 300 4 0 W=bS 300 0 W 18 from if_neg b0,show mM 300 4 0=dh 300 0 4 from if_neg b0] at hv
 rw [show np 4 1=1 from if_neg b1,show mN 300 4 1 W2=bS 300 1 W2 18 from if_neg b1,show mM 300 4 1=dh 300 1 4 from if_neg b1] at NH
 have km:=E5 0 ag W
 have gG:=E5 1 ag W2
 clear E5
 have q0:bS 300 ((0:Nat):Int) W 18=bS 300 0 W 18:=rfl
 have q1:bS 300 ((1:Nat):Int) W2 18=bS 300 1 W2 18:=rfl
 rw [q0] at km
 rw [q1] at gG
 generalize bS 300 0 W 18=C0 at *
 generalize bS 300 1 W2 18=C1 at *
 generalize dh 300 0 4=A0 at *
 generalize dh 300 1 4=A1 at *
 have V0:=AE ⟨0,hd,1,[⟨[109,48],4,P0,0⟩],[]⟩ W ⟨[109,48],0,C0,A0⟩ 0 (y8 _ _ rfl) km (show (0:UInt64)&&&((1:UInt64)<<<UInt64.ofNat (Int.toNat 0))=0 by decide)
 have V1:=AE ⟨1,W,2,[⟨[109,48],4,P0,1⟩,⟨[109,49],4,P1,0⟩],[]⟩ W2 ⟨[109,48],1,C1,A1⟩ 0 (y8 _ _ rfl) gG (show (1:UInt64)&&&((1:UInt64)<<<UInt64.ofNat (Int.toNat 1))=0 by decide)
 have R3:gQ ⟨0,hd,1,[⟨[109,48],4,P0,0⟩],[]⟩ (nz hd P1 [⟨[109,48],0,C0,A0⟩])=0:=by
  rw [aX,show fT _ W (nz hd P1 [⟨[109,48],0,C0,A0⟩]).ak=0 from V0.trans (if_neg (show ¬(1:Int)<1 by omega)),if_neg (fun q=>q rfl)]
  unfold gW
  rw [if_pos (show (nz hd P1 _).kind=1 from rfl),show dZ [⟨[109,48],4,P0,0⟩] (nz hd P1 [⟨[109,48],0,C0,A0⟩]).name= -1 from Iw _ (show ([109,48]:List UInt8)≠ [109,49] by decide)]
  rfl
 have Uh:gQ ⟨0,hd,1,[⟨[109,48],4,P0,0⟩],[]⟩ (nz hd P1 [])=41:=by rw [aX];rfl
 have Ug:gQ ⟨1,W,2,[⟨[109,48],4,P0,1⟩,⟨[109,49],4,P1,0⟩],[]⟩ (sv W [⟨[109,48],1,C1,A1⟩])=41:=by
  rw [aZ,show fT _ W2 (sv W [⟨[109,48],1,C1,A1⟩]).ak=41 from V1.trans (if_pos (show (1:Int)<2 by omega)),if_pos ag]
 have eA:jC ⟨0,hd,1,[⟨[109,48],4,P0,0⟩],[]⟩ (nz hd P1 [⟨[109,48],0,C0,A0⟩])=⟨1,W,2,[⟨[109,48],4,P0,1⟩,⟨[109,49],4,P1,0⟩],[]⟩:=by
  have hc:gW ⟨0,hd,1,[⟨[109,48],4,P0,0⟩],[]⟩ (nz hd P1 [⟨[109,48],0,C0,A0⟩])=0:=(x8 R3).2.2.2.2
  rw [FD R3,qx,←hW]
  unfold c_
  rw [if_neg (fun q=>q hc),if_pos (show (nz hd P1 _).kind=1 from rfl)]
  have hu:qg [⟨[109,48],4,P0,0⟩,⟨[109,49],4,P1,0⟩] ⟨[109,48],0,C0,A0⟩= [⟨[109,48],4,P0,1⟩,⟨[109,49],4,P1,0⟩]:=by
   have hm:dZ [⟨[109,48],4,P0,0⟩,⟨[109,49],4,P1,0⟩] (⟨[109,48],0,C0,A0⟩:ic).name=(0:Nat):=y8 _ _ rfl
   unfold qg
   rw [vm hm,hm,if_neg ag]
   show [(⟨[109,48],4,P0,(0:UInt64)|||gO 0⟩:Mem),⟨[109,49],4,P1,0⟩]=_
   rw [show (0:UInt64)|||gO 0=1 by decide]
  show (⟨1,W,if 2*(1:Int)≤((1:Nat):Int)+1 then 1+1 else 1,qg [⟨[109,48],4,P0,0⟩,⟨[109,49],4,P1,0⟩] ⟨[109,48],0,C0,A0⟩,[]⟩:ig)=_
  rw [if_pos ag,hu];rfl
 have hA:=sG ⟨0,hd,1,[⟨[109,48],4,P0,0⟩],[]⟩ (nz hd P1 [⟨[109,48],0,C0,A0⟩]) ⟨Int.le_refl 0,(show (0:Int)≤2147483647 by omega),(ag:1≤8),(show (0:Int)≤1 by omega),(show (1:Int)≤8 by omega),Nat.zero_le _⟩ (DV _ _ _) (ag:1≤1000000)
 rw [R3,eA] at hA
 have hQ:=sG ⟨0,hd,1,[⟨[109,48],4,P0,0⟩],[]⟩ (nz hd P1 []) ⟨Int.le_refl 0,(show (0:Int)≤2147483647 by omega),(ag:1≤8),(show (0:Int)≤1 by omega),(show (1:Int)≤8 by omega),Nat.zero_le _⟩ (DV _ _ _) (Nat.zero_le _)
 rw [Uh,Am (by rw [Uh];omega)] at hQ
 have TN:=sG ⟨1,W,2,[⟨[109,48],4,P0,1⟩,⟨[109,49],4,P1,0⟩],[]⟩ (sv W [⟨[109,48],1,C1,A1⟩]) ⟨(show (0:Int)≤1 by omega),(show (1:Int)≤2147483647 by omega),(ag:2≤8),(show (0:Int)≤2 by omega),(show (2:Int)≤8 by omega),Nat.zero_le _⟩ (JV _ _) (ag:1≤1000000)
 rw [Ug,Am (by rw [Ug];omega)] at TN
 have Hh:bG Tryz.prog 25 [.agg (Rf hd P1),cV [109,48],aw 300,ai 4,ai 0] _:=bG.ER JT hv
 have P_:bG Tryz.prog 25 [.agg (Ub W),cV [109,48],aw 300,ai 4,ai 1] (.cw [.agg (JW (sv W [⟨[109,48],1,C1,A1⟩]) [⟨[109,48],1,C1,A1⟩]),ai 0]):=bG.ER JT NH
 have U9:bG Tryz.prog 30 [.agg (dA ⟨0,hd,1,[⟨[109,48],4,P0,0⟩],[]⟩),.agg (Rf hd P1)] _:=bG.ER JT hQ
 clear V0 V1 km gG eA P6 P5 hv NH hQ q0 q1 ne BI aX aZ R3 Uh Ug qx qz
 refine zO Tryz.func12 100<|zP 2 [{},yH [(0,yC Ly),(1,yD hn)]] [.aa [2,1,0] [1,501016,401016]] [yI Ly,yI hn,yL 5 5]<|zS<|Ax 6 [5] [(2,yC Fc)] [yI Fc,yR (AV.addr 1 1),yR (aw hd),yR (AV.agg [AV.val (Value.string (ByteArray.mk #[109,49])),ai 4,aw P1,aw 0]),yI Fc,yR (AV.agg [ai 4,aw P1]),yR (AV.agg [ai 1,aw hd,ai 1,AV.val (Value.string (ByteArray.mk #[109,49])),ai 4,aw P1,ai 0,AV.val (Value.int .u64 0),AV.val (Value.int .u64 0),AV.nil,AV.nil,AV.nil,ai 0,AV.val (Value.int .u64 0),AV.val (Value.int .u64 0),AV.val (Value.int .u64 0),AV.nil]),yL 17 17]<|al<|bg.rz [.aa [3,2,1,0] [3,1,501016,401016]] bu<|zP 6 [yH [(1,yD Hh)],yH [(2,yD hA)],yH [(2,yD U9)],yH [(3,yD P_)],yH [(2,yD TN)],yH [(30,{k:=2}),(36,{k:=0}),(39,yV (ao (1 == 1)))]] [.aa [0,13,11,10,9,7,6,5,4,3,2,1] [10,6,4,3,1]] ([yI Hh,yL 17 17,yI hA,yL 5 5,yI U9,yL 5 5,yI P_,yL 17 17,yI TN,yL 5 5]++yM 22 (yR true)++ [yR (2*4)]++yM 5 (yR true)++ [yR (0:Int),yO (0<8)]++yM 3 (yR true)++ [yR (ao (1 == 1))]++yM 5 (yR true))<|zR (bP)
end Go.Proofs.YtjgbhhnghedgdaaGreatDoor
