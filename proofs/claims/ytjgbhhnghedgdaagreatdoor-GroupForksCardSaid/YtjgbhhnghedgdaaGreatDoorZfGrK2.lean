import Derived.Test.YtjgbhhnghedgdaaGreatDoorZfGrK1
set_option linter.all false
namespace Go.Proofs.YtjgbhhnghedgdaaGreatDoor
open Go.RowKit
set_option maxRecDepth 100000
set_option maxHeartbeats 4000000
theorem Cp (g:fG) (e:dj) (hG:ni g) (h1:1≤e.kind) (h5:e.kind≤5) (ht:e.kind=3->1≤e.bm∧e.bm≤8) (hB:AG e.dep):bA Tryz.prog 59 [.agg (de g),.agg (aG e)] (.b_ [.agg (de (cw g e)),ai (gT g e)]):=by
 by_cases k1:e.kind=1
 ·have ce:gT g e=CR g e:=if_pos k1
  have cg:cw g e=if CR g e=0 then HP g e else g:=by
   unfold cw
   rw [ce]
   by_cases q:CR g e=0
   ·rw [if_neg ag,if_pos k1,if_pos q];rfl
   ·rw [if_pos q,if_neg q]
  have hr:=Kb g e hG
  rw [←cg,←ce] at hr
  generalize cw g e=G at *
  generalize gT g e=E at *
  refine zO Tryz.func59 80<|zq<|zS<|zq<|zB 0<|zP 1 [{}] [.aa [10,9,5,4,3,2,0,1] [4,3,2]] []<|du 10 (e.kind == (1:Int)) fh<|zP 1 [yH [(2,yD hr)]] [.aa [5,10,9,4,3,2,0,1] [4,3,2]] [yI hr,yL 5 5]<|zR<|ba<|aI (bL)
 by_cases k2:e.kind=2
 ·have ce:gT g e=Bp g e:=by unfold gT;rw [if_neg k1,if_pos k2];rfl
  have cg:cw g e=if Bp g e=0 then {g with aq:=ke g.aq (cT g.aq e.name).toNat} else g:=by
   unfold cw
   rw [ce]
   by_cases q:Bp g e=0
   ·rw [if_neg ag,if_neg k1,if_pos k2,if_pos q]
   ·rw [if_pos q,if_neg q]
  have hr:=Cf g e hG
  rw [←cg,←ce] at hr
  generalize cw g e=G at *
  generalize gT g e=E at *
  refine zO Tryz.func59 80<|zq<|zS<|zq<|zB 0<|zP 1 [{}] [.aa [10,9,5,4,3,2,0,1] [4,3,2]] []<|bj 10 (e.kind == (1:Int)) bx<|zq<|du 17 (e.kind == (2:Int)) fh<|zP 1 [yH [(2,yD hr)]] [.aa [5,17,10,9,4,3,2,0,1] [4,3,2]] [yI hr,yL 5 5]<|zR<|ba<|aI (bL)
 by_cases k4:e.kind=4
 ·have ce:gT g e=yG g e:=by unfold gT;rw [if_neg k1,if_neg k2,if_neg ag,if_pos k4];rfl
  have cg:cw g e=if yG g e=0 then {g with aR:=g.aR++ [e.dep]} else g:=by
   unfold cw
   rw [ce]
   by_cases q:yG g e=0
   ·rw [if_neg ag,if_neg k1,if_neg k2,if_neg ag,if_pos k4,if_pos q]
   ·rw [if_pos q,if_neg q]
  have hr:=DY g e hG hB
  rw [←cg,←ce] at hr
  generalize cw g e=G at *
  generalize gT g e=E at *
  refine zO Tryz.func59 80<|zq<|zS<|zq<|zB 0<|zP 1 [{}] [.aa [10,9,5,4,3,2,0,1] [4,3,2]] []<|bj 10 (e.kind == (1:Int)) bx<|zq<|bj 17 (e.kind == (2:Int)) bx<|zP 1 [{}] [.aa [24,17,10,9,5,4,3,2,0,1] [4,3,2]] []<|bj 24 (e.kind == (3:Int)) bx<|zq<|du 44 (e.kind == (4:Int)) fh<|zP 1 [yH [(2,yD hr)]] [.aa [5,44,24,17,10,9,4,3,2,0,1] [4,3,2]] [yI hr,yL 5 5]<|zR<|ba<|aI (bL)
 obtain ⟨g1,g2,g3,g4,g5,g6⟩:=hG
 have nF:(ae aN g.aq).length=g.aq.length*4:=aA (e:=4) (fun _=>rfl) ..
 have ud:(ae bk g.aR).length=g.aR.length*7:=aA (e:=7) (fun _=>rfl) ..
 by_cases k3:e.kind=3
 ·obtain ⟨t1,t2⟩:=ht k3
  have ce:gT g e=if (g.aq.length:Int)<e.bm∨2*e.bm≤g.aq.length then 41 else 0:=by unfold gT;rw [if_neg k1,if_neg k2,if_pos k3]
  by_cases c1:(g.aq.length:Int)<e.bm
  ·rw [if_pos (.inl c1)] at ce
   have cg:cw g e=g:=if_pos ag
   rw [ce,cg]
   refine zO Tryz.func59 80<|zq<|zS<|zq<|zB 0<|zP 1 [{}] [.aa [10,9,5,4,3,2,0,1] [4,3,2]] []<|bj 10 (e.kind == (1:Int)) bx<|zq<|bj 17 (e.kind == (2:Int)) bx<|zP 1 [{}] [.aa [24,17,10,9,5,4,3,2,0,1] [4,3,2]] []<|du 24 (e.kind == (3:Int)) fh<|zP 1 [yH [(2,{k:=g.aq.length})]] [.aa [6,24,17,10,9,5,4,3,2,0,1] [4,3,2]] [yI nF]<|zS<|zP 1 [{}] [.aa [39,6,24,17,10,9,5,4,3,2,0,1] [4,3,2]] (yM 6 (yT (e.bm>(↑g.aq.length:Int))))<|zT 39<|zP 1 [{}] [.aa [5,39,6,24,17,10,9,4,3,2,0,1] [4,3,2]] [yL 5 5]<|dk<|ba<|aI (bL)
  by_cases c2:2*e.bm≤g.aq.length
  ·rw [if_pos (.inr c2)] at ce
   have cg:cw g e=g:=if_pos ag
   rw [ce,cg]
   refine zO Tryz.func59 80<|zq<|zS<|zq<|zB 0<|zP 1 [{}] [.aa [10,9,5,4,3,2,0,1] [4,3,2]] []<|bj 10 (e.kind == (1:Int)) bx<|zq<|bj 17 (e.kind == (2:Int)) bx<|zP 1 [{}] [.aa [24,17,10,9,5,4,3,2,0,1] [4,3,2]] []<|du 24 (e.kind == (3:Int)) fh<|zP 1 [yH [(2,{k:=g.aq.length})]] [.aa [6,24,17,10,9,5,4,3,2,0,1] [4,3,2]] [yI nF]<|zS<|zP 1 [yH ([(7,{av:=some (ai ((2:Int)*e.bm)),g:=false}),(10,{b:=false})]++yg [5,6,8,9])] [.aa [39,6,24,17,10,9,5,4,3,2,0,1] [4,3,2]] (yM 3 (yF (e.bm>(↑g.aq.length:Int)))++ [yN ((2:Int)*e.bm)]++yM 3 (yF (e.bm>(↑g.aq.length:Int))))<|gX 39 ((2:Int)*e.bm≤(↑g.aq.length:Int))<|zP 1 [{}] [.aa [5,39,6,24,17,10,9,4,3,2,0,1] [4,3,2]] [yL 5 5]<|dk<|ba<|aI (bL)
  rw [if_neg ag] at ce
  have cg:cw g e=⟨g.aC,g.head,e.bm,g.aq,g.aR⟩:=by unfold cw;rw [if_neg ag,if_neg k1,if_neg k2,if_pos k3]
  rw [ce,cg]
  refine zO Tryz.func59 80<|zq<|zS<|zq<|zB 0<|zP 1 [{}] [.aa [10,9,5,4,3,2,0,1] [4,3,2]] []<|bj 10 (e.kind == (1:Int)) bx<|zq<|bj 17 (e.kind == (2:Int)) bx<|zP 1 [{}] [.aa [24,17,10,9,5,4,3,2,0,1] [4,3,2]] []<|du 24 (e.kind == (3:Int)) fh<|zP 1 [yH [(2,{k:=g.aq.length})]] [.aa [6,24,17,10,9,5,4,3,2,0,1] [4,3,2]] [yI nF]<|zS<|zP 1 [yH ([(7,{av:=some (ai ((2:Int)*e.bm)),g:=false}),(10,{b:=false})]++yg [5,6,8,9])] [.aa [39,6,24,17,10,9,5,4,3,2,0,1] [4,3,2]] (yM 3 (yF (e.bm>(↑g.aq.length:Int)))++ [yN ((2:Int)*e.bm)]++yM 3 (yF (e.bm>(↑g.aq.length:Int))))<|dm 39 ((2:Int)*e.bm≤(↑g.aq.length:Int))<|a6<|zX {} [yL 3 5]<|aK<|al<|zP 1 [{}] [.aa [5,41,39,6,24,17,10,9,4,3,2,0,1] [4,2,3]] [yL 5 5]<|zR (bL)
 have k5:e.kind=5:=ag
 have wX:=Co g e.cm ag
 have gC:=EG g.aR ag
 have ce:gT g e=if ug g.aR e.cm=g.aR.length then 11 else if (g.aR.getD (ug g.aR e.cm) default).target≠0 then 18 else 0:=by unfold gT;rw [if_neg k1,if_neg k2,if_neg k3,if_neg k4]
 rcases oO g.aR e.cm with ⟨hf,hk⟩|⟨k,hf,hk,gV⟩
 ·rw [if_pos hf] at ce
  have cg:cw g e=g:=if_pos ag
  rw [ce,cg]
  rw [hk] at wX
  refine zO Tryz.func59 80<|zq<|zS<|zq<|zB 0<|zP 1 [{}] [.aa [10,9,5,4,3,2,0,1] [4,3,2]] []<|bj 10 (e.kind == (1:Int)) bx<|zq<|bj 17 (e.kind == (2:Int)) bx<|zP 1 [{}] [.aa [24,17,10,9,5,4,3,2,0,1] [4,3,2]] []<|bj 24 (e.kind == (3:Int)) bx<|zq<|bj 44 (e.kind == (4:Int)) bx<|zP 1 [{}] [.aa [51,44,24,17,10,9,5,4,3,2,0,1] [4,3,2]] []<|du 51 (e.kind == (5:Int)) fh<|zP 1 [yH [(3,yC wX)]] [.aa [7,51,44,24,17,10,9,5,4,3,2,0,1] [4,3,2]] [yI wX]<|zS<|zq<|gX 58 ((-1:Int)<0)<|zP 1 [{}] [.aa [5,58,7,51,44,24,17,10,9,4,3,2,0,1] [4,3,2]] [yL 5 5]<|dk<|ba<|aI (bL)
 rw [if_neg ag,hf] at ce
 rw [hk] at wX
 have ic:=Ar gV
 by_cases c1:(g.aR.getD k default).target=0
 case neg =>
  rw [if_pos c1] at ce
  have cg:cw g e=g:=if_pos ag
  rw [ce,cg]
  refine zO Tryz.func59 80<|zq<|zS<|zq<|zB 0<|zP 1 [{}] [.aa [10,9,5,4,3,2,0,1] [4,3,2]] []<|bj 10 (e.kind == (1:Int)) bx<|zq<|bj 17 (e.kind == (2:Int)) bx<|zP 1 [{}] [.aa [24,17,10,9,5,4,3,2,0,1] [4,3,2]] []<|bj 24 (e.kind == (3:Int)) bx<|zq<|bj 44 (e.kind == (4:Int)) bx<|zP 1 [{}] [.aa [51,44,24,17,10,9,5,4,3,2,0,1] [4,3,2]] []<|du 51 (e.kind == (5:Int)) fh<|zP 1 [yH [(3,yC wX)]] [.aa [7,51,44,24,17,10,9,5,4,3,2,0,1] [4,3,2]] [yI wX]<|zS<|zq<|dm 58 ((↑k:Int)<0)<|a6<|zS<|zP 1 [yH [(3,{k:=k}),(5,yV (aw ((g.aR.getD k default).target))),(6,yV (ao ((g.aR.getD k default).target != 0)))]] [.aa [66,58,7,51,44,24,17,10,9,5,4,3,2,0,1] [4,3,2]] [yR (↑k:Int),yO (k*7<(ae bk g.aR).length),yA bk g.aR k 6,yI (cK ((g.aR.getD k default).target) 0)]<|du 66 ((g.aR.getD k default).target != 0) (by simp_all)<|zP 1 [{}] [.aa [5,66,58,7,51,44,24,17,10,9,4,3,2,0,1] [4,3,2]] [yL 5 5]<|dk<|ba<|aI (bL)
 rw [if_neg (fun q=>q c1)] at ce
 have cg:cw g e=⟨g.aC,g.head,g.bm,g.aq,rO g.aR k e.target⟩:=by unfold cw;rw [if_neg ag,if_neg k1,if_neg k2,if_neg k3,if_neg k4,hf]
 rw [ce,cg]
 have s1:=CE gV e.target
 refine zO Tryz.func59 80<|zq<|zS<|zq<|zB 0<|zP 1 [{}] [.aa [10,9,5,4,3,2,0,1] [4,3,2]] []<|bj 10 (e.kind == (1:Int)) bx<|zq<|bj 17 (e.kind == (2:Int)) bx<|zP 1 [{}] [.aa [24,17,10,9,5,4,3,2,0,1] [4,3,2]] []<|bj 24 (e.kind == (3:Int)) bx<|zq<|bj 44 (e.kind == (4:Int)) bx<|zP 1 [{}] [.aa [51,44,24,17,10,9,5,4,3,2,0,1] [4,3,2]] []<|du 51 (e.kind == (5:Int)) fh<|zP 1 [yH [(3,yC wX)]] [.aa [7,51,44,24,17,10,9,5,4,3,2,0,1] [4,3,2]] [yI wX]<|zS<|zq<|dm 58 ((↑k:Int)<0)<|a6<|zS<|zP 1 [yH [(3,{k:=k}),(5,yV (aw ((g.aR.getD k default).target))),(6,yV (ao false))]] [.aa [66,58,7,51,44,24,17,10,9,5,4,3,2,0,1] [4,3,2]] [yR (↑k:Int),yO (k*7<(ae bk g.aR).length),yA bk g.aR k 6,yB (ao (wv (g.aR.getD k default).target != (0:Int))=ao false) (by rw [c1];rfl)]<|zF 66<|a6<|zP 1 [yH [(2,yD gC)]] [.aa [66,58,7,51,44,24,17,10,9,5,4,3,2,0,1] [2,70,4,3]] [yI gC,yL 5 5]<|zX (yH [(5,{k:=k}),(7,yV (AV.arr (ae bk (rO g.aR k e.target))))]) [yR (↑k:Int),yO (k*7<(ae bk g.aR).length),yI s1,yO (k*7+6+1≤(ae bk g.aR).length)]<|aK<|al<|zP 1 [{}] [.aa [5,66,58,7,51,44,24,17,10,9,4,3,2,0,1] [4,70,2,3]] [yL 5 5]<|bf.tD [.gM 70] bC<|zR (bL)
theorem oY (g:fG) (e:dj) (hG:ni g) (hB:l8 e) (hv:e.ak.length≤1000000):bA Tryz.prog 30 [.agg (de g),.agg (aG e)] (.b_ [.agg (de (ga g e)),ai (eW g e)]):=by
 have xW:(ae aW e.ak).length=e.ak.length*4:=aA (e:=4) (fun _=>rfl) ..
 have FK:=uF e hB
 by_cases cb:eO e=0
 case neg =>
  have ce:eW g e=eO e:=if_pos cb
  have cg:ga g e=g:=if_pos (by rw [ce];exact cb)
  rw [if_neg cb] at FK
  rw [ce,cg]
  refine zO Tryz.func30 92<|zP 2 [{},yH [(1,yC FK)]] [.aa [7,6,5,4,3,2,0,1] [4,3,2]] [yI FK]<|zS<|zQ 1 [yH [(1,yV (ao true))]] [yB (ao (eO e != (0:Int))=ao true) (by simp [cb])]<|zT 19<|zP 1 [{}] [.aa [5,19,7,6,4,3,2,0,1] [4,3,2]] [yL 5 5]<|dk (bL)
 rw [if_pos cb,cb] at FK
 obtain ⟨k1,k5,SC,Us,vO,U2⟩:=mu cb
 by_cases c1:e.aC≠g.aC+1
 ·have ce:eW g e=42:=by unfold eW;rw [if_neg (fun q=>q cb),if_pos (.inl c1)]
  have cg:ga g e=g:=if_pos ag
  rw [ce,cg]
  have wM:(e.aC-1 != g.aC)=true:=bne_iff_ne.2 ag
  refine zO Tryz.func30 92<|zP 2 [{},yH [(1,yC FK)]] [.aa [7,6,5,4,3,2,0,1] [4,3,2]] [yI FK]<|zS<|zq<|zF 19<|a6<|zS<|zP 1 [yH [(2,yV (ai (e.aC-1)))]] [.aa [34,19,7,6,5,4,3,2,0,1] [4,3,2]] ([yN (e.aC-1)]++yM 6 (yI wM))<|zT 34<|zP 1 [{}] [.aa [5,34,19,7,6,4,3,2,0,1] [4,3,2]] [yL 5 5]<|dk (bL)
 have Qo:e.aC=g.aC+1:=ag
 have wM:(e.aC-1 != g.aC)=false:=by rw [Qo];simp
 by_cases c2:e.prev=g.head
 case neg =>
  have ce:eW g e=42:=by unfold eW;rw [if_neg (fun q=>q cb),if_pos (.inr c2)]
  have cg:ga g e=g:=if_pos ag
  rw [ce,cg]
  have Uv:(e.prev != g.head)=true:=bne_iff_ne.2 c2
  refine zO Tryz.func30 92<|zP 2 [{},yH [(1,yC FK)]] [.aa [7,6,5,4,3,2,0,1] [4,3,2]] [yI FK]<|zS<|zq<|zF 19<|a6<|zS<|zP 1 [yH ([(2,yV (ai (e.aC-1))),(11,{av:=some (ao (e.prev != g.head)),g:=false}),(12,{b:=false})]++yg [7,8,9,10])] [.aa [34,19,7,6,5,4,3,2,0,1] [4,3,2]] ([yN (e.aC-1)]++yM 5 (yI wM)++ [yI (cK e.prev g.head),yI wM])<|du 34 (e.prev != g.head) (by assumption)<|zP 1 [{}] [.aa [5,34,19,7,6,4,3,2,0,1] [4,3,2]] [yL 5 5]<|dk (bL)
 have Uv:(e.prev != g.head)=false:=by rw [c2];simp
 have HM:eW g e=if fH g (cO e) e.ak≠0 then fH g (cO e) e.ak else gT g e:=by unfold eW;rw [if_neg (fun q=>q cb),if_neg (by rintro (q|q);exact q Qo;exact q c2)]
 have m8:=hG.m8
 have rB:=KW g (cO e) e.ak ag hv
 by_cases c3:fH g (cO e) e.ak=0
 case neg =>
  rw [if_pos c3] at HM
  have cg:ga g e=g:=if_pos (by rw [HM];exact c3)
  rw [HM,cg]
  refine zO Tryz.func30 92<|zP 2 [{},yH [(1,yC FK)]] [.aa [7,6,5,4,3,2,0,1] [4,3,2]] [yI FK]<|zS<|zQ 1 [yH [(1,yV (ao false))]] [yR (ao false)]<|zF 19<|a6<|zS<|zP 1 [yH ([(2,yV (ai (e.aC-1))),(11,{av:=some (ao (e.prev != g.head)),g:=false}),(12,{b:=false})]++yg [7,8,9,10])] [.aa [34,19,7,6,5,4,3,2,0,1] [4,3,2]] ([yN (e.aC-1)]++yM 5 (yI wM)++ [yI (cK e.prev g.head),yI wM])<|bj 34 (e.prev != g.head) (by assumption)<|a6<|zS<|zP 2 [yH [(4,yC rB)],yH [(1,yV (ao true))]] [.aa [42,41,8,34,19,7,6,5,4,3,2,0,1] [4,3,2]] [yI rB,yB (ao (fH g (cO e) e.ak != (0:Int))=ao true) (by simp [c3])]<|zT 42<|zP 1 [{}] [.aa [5,42,41,8,34,19,7,6,4,3,2,0,1] [4,3,2]] [yL 5 5]<|dk (bL)
 have JO:=fun i hi=>rC c3 (i:=i) hi
 rw [if_neg (fun q=>q c3)] at HM
 rw [c3] at rB
 have tN:=Cp g e hG k1 k5 (qQ cb) hB.dep
 rw [←HM] at tN
 by_cases c4:eW g e=0
 case neg =>
  have cg:ga g e=g:=if_pos c4
  rw [cg]
  refine zO Tryz.func30 92<|zP 2 [{},yH [(1,yC FK)]] [.aa [7,6,5,4,3,2,0,1] [4,3,2]] [yI FK]<|zS<|zQ 1 [yH [(1,yV (ao false))]] [yR (ao false)]<|zF 19<|a6<|zS<|zP 1 [yH ([(2,yV (ai (e.aC-1))),(11,{av:=some (ao (e.prev != g.head)),g:=false}),(12,{b:=false})]++yg [7,8,9,10])] [.aa [34,19,7,6,5,4,3,2,0,1] [4,3,2]] ([yN (e.aC-1)]++yM 5 (yI wM)++ [yI (cK e.prev g.head),yI wM])<|bj 34 (e.prev != g.head) (by assumption)<|a6<|zS<|zP 2 [yH [(4,yC rB)],yH [(1,yV (ao false))]] [.aa [42,41,8,34,19,7,6,5,4,3,2,0,1] [4,3,2]] [yI rB,yR (ao false)]<|zF 42<|a6<|zP 1 [yH [(2,yD tN)]] [.aa [7,9,42,41,8,34,19,6,5,4,3,2,0,1] [9,4,3,2]] [yI tN,yL 5 5]<|zS<|zQ 1 [yH [(1,yV (ao true))]] [yB (ao (eW g e != (0:Int))=ao true) (by simp [c4])]<|zT 52<|zP 1 [{}] [.aa [5,52,7,9,42,41,8,34,19,6,4,3,2,0,1] [4,9,3,2]] [yL 5 5]<|dk (bL)
 have cg:ga g e=⟨e.aC,cO e,(cw g e).bm,iz (cw g e).aq e.ak,(cw g e).aR⟩:=if_neg (fun q=>q c4)
 rw [cg,c4]
 rw [c4] at tN
 have gC:=CK g e
 generalize cw g e=G at *
 have nF:∀i,(ae aN (iz G.aq (e.ak.take i))).length=G.aq.length*4:=fun i=>by rw [aA (e:=4) (fun _=>rfl),kN]
 have NA:=vn G.aq ag
 generalize cO e=W at *
 clear HM cg U2 vO
 refine zO Tryz.func30 92<|zP 2 [{},yH [(1,yC FK)]] [.aa [7,6,5,4,3,2,0,1] [4,3,2]] [yI FK]<|zS<|zq<|zF 19<|a6<|zS<|zP 1 [yH ([(2,yV (ai (e.aC-1))),(11,{av:=some (ao (e.prev != g.head)),g:=false}),(12,{b:=false})]++yg [7,8,9,10])] [.aa [34,19,7,6,5,4,3,2,0,1] [4,3,2]] ([yN (e.aC-1)]++yM 5 (yI wM)++ [yI (cK e.prev g.head),yI wM])<|bj 34 (e.prev != g.head) (by assumption)<|a6<|zS<|zP 2 [yH [(4,yC rB)],{}] [.aa [42,41,8,34,19,7,6,5,4,3,2,0,1] [4,3,2]] [yI rB]<|zF 42<|a6<|zP 1 [yH [(2,yD tN)]] [.aa [7,9,42,41,8,34,19,6,5,4,3,2,0,1] [9,4,3,2]] [yI tN,yL 5 5]<|zS<|zq<|zF 52<|a6<|zP 3 [{},{},yH [(2,yD NA)]] [.aa [52,7,9,42,41,8,34,19,6,5,4,3,2,0,1] [9,62,4,3,2]] [yL 1 5,yL 2 5,yI NA,yL 4 5]<|zS<|zQ 1 [yH [(2,{k:=e.ak.length})]] [yI xW]<|zB 0 (zL (fun (i:Nat)=>(⟨[(66,ai (↑e.ak.length:Int)),(65,AV.sl 4 (ae aW e.ak)),(52,ao ((0:Int) != (0:Int))),(7,ai 0),(9,AV.addr 9 0),(42,ao ((0:Int) != (0:Int))),(41,ai 0),(8,ai 0),(34,ao (e.prev != g.head)),(19,ao ((0:Int) != (0:Int))),(6,aw W),(5,ai 0),(4,AV.addr 4 0),(3,AV.addr 3 0),(2,AV.addr 2 0),(0,AV.agg (de g)),(1,AV.agg (aG e)),(67,ai i)],[(9,⟨1,false,true,[ai e.aC,aw W,ai G.bm,AV.ref 62,AV.sl 7 (ae bk G.aR)]⟩),(4,⟨1,false,true,[ai 0,dY,ai 0,AV.nil,AV.nil]⟩),(3,⟨1,false,true,(aG e)⟩),(2,⟨1,false,true,List.map (aH 62) (List.map (aH 9) (List.map (aH 4) (List.map (aH 3) (List.map (aH 2) (de g)))))⟩),(62,⟨4,true,false,ae aN (iz G.aq (e.ak.take i))⟩)]⟩:AS)) (fun i=>(i≤e.ak.length)) (fun i=>(e.ak.length-i)) (0) ?_ (zW [.aa [66,65,52,7,9,42,41,8,34,19,6,5,4,3,2,0,1,67] [9,4,3,2,62]]) ?_)
 ·omega
 intro i hi
 have Wp:=nF i
 refine bf.nQ 1 [{}] bC (s':=AS.mk [(68,ao (decide ((↑i:Int)<(↑e.ak.length:Int)))),(66,ai (↑e.ak.length:Int)),(65,AV.sl 4 (ae aW e.ak)),(52,ao ((0:Int) != (0:Int))),(7,ai 0),(9,AV.addr 9 0),(42,ao ((0:Int) != (0:Int))),(41,ai 0),(8,ai 0),(34,ao (e.prev != g.head)),(19,ao ((0:Int) != (0:Int))),(6,aw W),(5,ai 0),(4,AV.addr 4 0),(3,AV.addr 3 0),(2,AV.addr 2 0),(0,AV.agg (de g)),(1,AV.agg (aG e)),(67,ai ↑i)] [(9,Row.mk 1 false true [ai e.aC,aw W,ai G.bm,AV.ref 62,AV.sl 7 (ae bk G.aR)]),(4,Row.mk 1 false true [ai 0,dY,ai 0,AV.nil,AV.nil]),(3,Row.mk 1 false true (aG e)),(2,Row.mk 1 false true (List.map (aH 62) (List.map (aH 9) (List.map (aH 4) (List.map (aH 3) (List.map (aH 2) (de g))))))),(62,Row.mk 4 true false (ae aN (iz G.aq (List.take i e.ak))))]) (C:=[]) bC trivial<|zS (zD 68 ((↑i:Int)<(↑e.ak.length:Int)) (fun q=>?_) (fun q=>?_))
 ·have dc:i<e.ak.length:=ag
  have ic:=jF dc
  have dC:=xu G.aq dc
  obtain ⟨xc,FT⟩:=JO i dc
  have XW:(iz G.aq (e.ak.take i)).length=G.aq.length:=kN _ _
  generalize iz G.aq (e.ak.take i)=U at *
  have jL:bA Tryz.prog 61 [.agg (de ⟨e.aC,W,G.bm,U,G.aR⟩),di (e.ak.getD i default).name] (ai (cT U (e.ak.getD i default).name)):=oi ⟨e.aC,W,G.bm,U,G.aR⟩ (e.ak.getD i default).name (by show U.length≤_;omega)
  rcases eN U (e.ak.getD i default).name with hk|⟨k,hk,gV,JT⟩
  ·have h1:nJ U (e.ak.getD i default)=U:=if_pos ag
   rw [h1] at dC
   rw [hk] at jL
   refine a6<|zS<|zB 1<|zP 3 [yH [(0,{k:=i}),(1,yV (AV.agg (aW (e.ak.getD i default))))],yH [(3,yC jL)],{}] [.aa [76,12,11,68,66,65,52,7,9,42,41,8,34,19,6,5,4,3,2,0,1,67] [11,9,4,3,2,62]] [yR (↑i:Int),yO (i*4<(ae aW e.ak).length),yu aW e.ak i 0 4,yR 4,yL 4 4,yI jL]<|dm 76 ((-1:Int)≥0)<|zK<|aK<|al<|zX (yH [(0,yV (ai ((↑i:Int)+1)))]) [yN ((↑i:Int)+1)] (aF (i+1) (by assumption) ag (eX [.aa [66,65,52,7,9,42,41,8,34,19,6,5,4,3,2,0,1,67] [9,4,3,2,62]] [] [62] [yB (ae aN U=ae aN (iz G.aq (List.take (i+1) e.ak))) (by rw [dC])]))
  ·have h1:nJ U (e.ak.getD i default)=U.set k {U.getD k default with used:=(U.getD k default).used|||gJ (e.ak.getD i default).leaf}:=by unfold nJ;rw [if_neg ag,pS hk,hk];rfl
   rw [h1] at dC
   rw [hk] at jL
   have Tx:=oJ gV
   have Tk:=xR gV ((U.getD k default).used|||gJ (e.ak.getD i default).leaf)
   refine a6<|zS<|zB 1<|zP 3 [yH [(0,{k:=i}),(1,yV (AV.agg (aW (e.ak.getD i default))))],yH [(3,yC jL)],{}] [.aa [76,12,11,68,66,65,52,7,9,42,41,8,34,19,6,5,4,3,2,0,1,67] [11,9,4,3,2,62]] [yR (↑i:Int),yO (i*4<(ae aW e.ak).length),yu aW e.ak i 0 4,yR 4,yL 4 4,yI jL]<|gX 76 ((↑k:Int)≥0)<|zX ({hs:=[(3,{k:=k}),(5,yV (aw ((U.getD k default).used))),(9,yV (aw (gJ (e.ak.getD i default).leaf))),(10,yV (aw ((U.getD k default).used|||gJ (e.ak.getD i default).leaf))),(11,{k:=k})],T:=10}) [yR (↑k:Int),yO (k*4<(ae aN U).length),yA aN U k 3,yB (AV.val (Value.int .u64 (IntKind.u64.wrap ((1:Int)*(2:Int)^min (e.ak.getD i default).leaf.toNat IntKind.u64.bits)))=aw (gJ (e.ak.getD i default).leaf)) (jP 1 _ xc ag),yI xc,yI (qa ((U.getD k default).used) (gJ (e.ak.getD i default).leaf)),yR (↑k:Int),yO (k*4<(ae aN U).length),yO (k*4+3+1≤(ae aN U).length)]<|aK<|al<|zX (yH [(0,yV (ai ((↑i:Int)+1)))]) [yN ((↑i:Int)+1)] (aF (i+1) (by assumption) ag (eX [.aa [66,65,52,7,9,42,41,8,34,19,6,5,4,3,2,0,1,67] [9,4,3,2,62]] [] [62] [yB ((ae aN U).set (k*4+3) (aw ((U.getD k default).used|||gJ (e.ak.getD i default).leaf))=ae aN (iz G.aq (List.take (i+1) e.ak))) (by rw [dC];exact Tk)]))
 ·have ei:i=e.ak.length:=ag
  subst ei
  rw [List.take_length]
  refine zE 0<|a7<|aP<|bp<|al<|zP 1 [{}] [.aa [5,68,66,65,52,7,9,42,41,8,34,19,6,4,3,2,0,1,67] [4,9,3,2,62]] [yL 5 5]<|bf.tD [.gM 62] bC<|zR (bL)
def RO (e:dj) (V:List gW):List AV:=[ai e.aC,aw e.prev,ai e.kind,di e.name,ai e.kh,aw e.kr,ai e.bm,aw e.dep.cm,aw e.dep.peer,.own 1 (ah e.dep.box),.own 1 (ae au e.dep.af),.own 1 (aj e.dep.ay),ai e.dep.need,aw e.dep.target,aw e.cm,aw e.target,.own 4 (ae aW V)]
theorem xo (e:dj) (W:UInt64) (name:List UInt8) (seed:UInt64) (h leaf:Int) (hv:e.ak= []) (hs:Bc h leaf=0) (hw:bA Tryz.prog 50 [.agg (aG e)] (.b_ [aw W,ai 0])) (h1:e.dep.box.length≤1000000) (h2:e.dep.af.length≤1000000) (h3:e.dep.ay.length≤1000000) :
  bA Tryz.prog 25 [.agg (aG e),di name,aw seed,ai h,ai leaf] (.b_ [.agg (RO e [⟨name,qo h leaf,pE seed h leaf W,pD seed h leaf⟩]),ai 0]):=by
 have xW:(ae aW e.ak).length=0:=by rw [hv];rfl
 have DW:=tw e.dep h1 h2 h3
 refine zO Tryz.func25 114<|zP 2 [{},yH [(1,yC hw)]] [.aa [13,12,11,10,5,0,1,2,3,4] [10,5]] [yI hw]<|zS<|zq<|zF 27<|a6<|zS<|zP 1 [yH [(2,{k:=e.ak.length})]] [.aa [33,32,31,27,13,12,11,10,5,0,1,2,3,4] [10,5]] [yB ((ae aW e.ak).length=e.ak.length*4) (by simp only [aA (f:=aW) (e:=4) (fun _=>rfl)])]<|zB 0 (zL (fun (i:Nat)=>(⟨[(32,ai (↑e.ak.length:Int)),(31,AV.sl 4 (ae aW e.ak)),(27,ao ((0:Int) != (0:Int))),(13,ai 0),(12,aw W),(10,AV.addr 10 0),(5,AV.addr 5 0),(0,AV.agg (aG e)),(1,di name),(2,aw seed),(3,ai h),(4,ai leaf),(33,ai i)],[(10,⟨1,false,true,[ai 0,dY,ai 0,AV.val (Value.string (ByteArray.mk #[])),ai 0,dY,ai 0,dY,dY,AV.nil,AV.nil,AV.nil,ai 0,dY,dY,dY,AV.nil]⟩),(5,⟨1,false,true,List.map (aH 10) (List.map (aH 5) (aG e))⟩)]⟩:AS)) (fun i=>(i=0)) (fun i=>0) (0) ?_ (zW [.aa [32,31,27,13,12,10,5,0,1,2,3,4,33] [10,5]]) ?_)
 ·rfl
 rintro i rfl
 refine zq<|zS<|bj 34 (decide ((↑(0:Nat):Int)<(↑e.ak.length:Int))) (by simp_all)<|zE 0<|a7<|aP<|bp<|al<|zP 1 [yH [(4,yD (A9 (seed) (h) (leaf) (W)))]] [.aa [13,16,34,32,31,27,12,10,5,0,1,2,3,4,33] [16,301048,10,5]] [yI (A9 seed h leaf W),yL 3 3]<|zS<|zQ 1 [yH [(1,yV (ao false))]] [yB (ao (Bc h leaf != (0:Int))=ao false) (by simp [hs])]<|zF 52<|a6<|zq<|zS<|zB 2 (zL (fun (i:Nat)=>(⟨[(52,ao false),(13,ai (Bc h leaf)),(16,AV.addr 16 0),(34,ao (decide ((↑(0:Nat):Int)<(↑e.ak.length:Int)))),(32,ai (↑e.ak.length:Int)),(31,AV.sl 4 (ae aW e.ak)),(27,ao ((0:Int) != (0:Int))),(12,aw W),(10,AV.addr 10 0),(5,AV.addr 5 0),(0,AV.agg (aG e)),(1,di name),(2,aw seed),(3,ai h),(4,ai leaf),(33,ai (↑(0:Nat):Int)),(17,ai i)],[(16,⟨1,false,true,[ai (qo h leaf),AV.sl 1 (aj (pE seed h leaf W)),AV.ref 301048]⟩),(10,⟨1,false,true,[ai 0,dY,ai 0,AV.val (Value.string (ByteArray.mk #[])),ai 0,dY,ai 0,dY,dY,AV.nil,AV.nil,AV.nil,ai 0,dY,dY,dY,AV.nil]⟩),(5,⟨1,false,true,List.map (aH 16) (List.map (aH 301048) (List.map (aH 10) (List.map (aH 5) (aG e))))⟩),(301048,⟨1,true,false,aj (pD seed h leaf)⟩)]⟩:AS)) (fun i=>(i=0)) (fun i=>0) (0) ?_ (zW [.aa [52,13,16,34,32,31,27,12,10,5,0,1,2,3,4,33,17] [16,10,5,301048]]) ?_)
 ·rfl
 rintro i rfl
 have w1:IntKind.i64.wrap ((e.ak.length:Int)+1)=(1:Nat):=by rw [hv];rfl
 refine zS<|zP 1 [yH ([(3,{k:=e.ak.length}),(14,{b:=false})]++yg [6,7,8,9,10,11,12,13])] [.aa [69,52,13,16,34,32,31,27,12,10,5,0,1,2,3,4,33,17] [16,10,5,301048]] ([yB ((ae aW e.ak).length=e.ak.length*4) (by simp only [aA (f:=aW) (e:=4) (fun _=>rfl)])]++yM 9 (yS (decide ((↑(0:Nat):Int)<(↑e.ak.length:Int))=false)))<|zF 69<|zE 2<|a7<|aP<|bp<|al<|zP 1 [yH [(2,{k:=e.ak.length}),(3,yV (ai (↑(1:Nat):Int))),(4,{k:=0,m:=1})]] [.aa [18,69,52,13,16,34,32,31,27,12,10,5,0,1,2,3,4,33,17] [76,16,10,5,301048]] [yB ((ae aW e.ak).length=e.ak.length*4) (by simp only [aA (f:=aW) (e:=4) (fun _=>rfl)]),yI (yc w1),yR (0:Int),yR (↑(1:Nat):Int),yL 0 1,yL 72 281474976710656,yB (1≤maxLen) (by decide)]<|zS<|zQ 1 [yH [(2,{k:=e.ak.length})]] [yB ((ae aW e.ak).length=e.ak.length*4) (by simp only [aA (f:=aW) (e:=4) (fun _=>rfl)])]<|zB 4 (zL (fun (i:Nat)=>(⟨[(79,ai (↑e.ak.length:Int)),(78,AV.sl 4 (ae aW e.ak)),(69,ao false),(52,ao false),(13,ai (Bc h leaf)),(16,AV.addr 16 0),(34,ao (decide ((↑(0:Nat):Int)<(↑e.ak.length:Int)))),(32,ai (↑e.ak.length:Int)),(31,AV.sl 4 (ae aW e.ak)),(27,ao ((0:Int) != (0:Int))),(12,aw W),(10,AV.addr 10 0),(5,AV.addr 5 0),(0,AV.agg (aG e)),(1,di name),(2,aw seed),(3,ai h),(4,ai leaf),(33,ai (↑(0:Nat):Int)),(17,ai (↑(0:Nat):Int)),(80,ai i),(18,AV.ref 76)],[(16,⟨1,false,true,[ai (qo h leaf),AV.sl 1 (aj (pE seed h leaf W)),AV.ref 301048]⟩),(10,⟨1,false,true,[ai 0,dY,ai 0,AV.val (Value.string (ByteArray.mk #[])),ai 0,dY,ai 0,dY,dY,AV.nil,AV.nil,AV.nil,ai 0,dY,dY,dY,AV.nil]⟩),(5,⟨1,false,true,List.map (aH 76) (List.map (aH 16) (List.map (aH 301048) (List.map (aH 10) (List.map (aH 5) (aG e)))))⟩),(301048,⟨1,true,false,aj (pD seed h leaf)⟩),(76,⟨4,true,false,ae aW []⟩)]⟩:AS)) (fun i=>(i=0)) (fun i=>0) (0) ?_ (zW [.aa [79,78,69,52,13,16,34,32,31,27,12,10,5,0,1,2,3,4,33,17,80,18] [16,10,5,301048,76]]) ?_)
 ·rfl
 rintro i rfl
 have hI:gw Tryz.prog 53 [.ref 5,ai 0,.sl 4 [di name,ai (qo h leaf),.sl 1 (aj (pE seed h leaf W)),.sl 1 (aj (pD seed h leaf))]] [(5,⟨4,true,false,ae aW []⟩)] (.own 4 (ae aW [⟨name,qo h leaf,pE seed h leaf W,pD seed h leaf⟩])) [(5,⟨4,true,false,ae aW []⟩)]:=BQ [] ⟨name,qo h leaf,pE seed h leaf W,pD seed h leaf⟩ (by decide)
 refine zq<|zS<|bj 81 (decide ((↑(0:Nat):Int)<(↑e.ak.length:Int))) (by simp_all)<|zE 4<|a7<|aP<|bp<|al<|zP 3 [yH [(6,yE [(76,5)] hI)],yH [(2,yD DW)],{}] [.aa [11,81,79,78,69,52,13,16,34,32,31,27,12,10,5,0,1,2,3,4,33,17,80] [10,5,500111,400111,300111,107,16]] [yI hI,yL 17 17,yI DW,yL 14 17,yL 17 17]<|zR (bL)
theorem JZ (q:Nat) (hq:q<16):(q%2=0->q^^^1=q+1∧q=2*(q/2))∧(q%2≠0->q^^^1=q-1∧q=2*(q/2)+1):=by
 have key:∀q:Fin 16,(q.val%2=0->q.val^^^1=q.val+1∧q.val=2*(q.val/2))∧(q.val%2≠0->q.val^^^1=q.val-1∧q.val=2*(q.val/2)+1):=by decide +kernel
 exact key ⟨q,hq⟩
theorem EN (seed:UInt64) (leaf n:Nat) (x:UInt64) (hx:x=gq seed 0 leaf) (Ui:leaf<16) (k:Nat) (hk:k≤n):dA leaf (df seed leaf n) x k=gq seed k (leaf/2^k):=by
 induction k with
 | zero=>simp [dA,hx]
 | succ k ih =>
  have ih:=ih ag
  have hg:(df seed leaf n).getD k 0=gq seed k (leaf/2^k^^^1):=by simp [df,show k<n by omega]
  have hd:leaf/2^(k+1)=leaf/2^k/2:=by rw [Nat.pow_succ,Nat.div_div_eq_div_mul]
  obtain ⟨h1,h2⟩:=JZ (leaf/2^k) (Nat.lt_of_le_of_lt (Nat.div_le_self ..) Ui)
  unfold dA
  rw [ih,hg,hd]
  generalize leaf/2^k=q at *
  by_cases hq:q%2=0
  ·obtain ⟨e1,e2⟩:=h1 hq
   rw [if_pos hq,e1]
   show ia _ _ _=ia _ _ _
   rw [←e2]
  ·obtain ⟨e1,e2⟩:=h2 hq
   rw [if_neg hq,e1]
   show ia _ _ _=ia _ _ _
   rw [show 2*(q/2)+1=q by omega,show 2*(q/2)=q-1 by omega]
theorem A2 (seed:UInt64) (h leaf:Nat) (m:UInt64) (hh:h≤4) (hl:leaf<2^h):kM (h:Int) (gq seed h 0) m (leaf:Int) (bQ seed leaf m 18) (df seed leaf h)=0:=by
 have hb:¬iV (h:Int) (leaf:Int):=by unfold iV ck;rw [Int.toNat_natCast];omega
 have e:=EN seed leaf h (combine leaf (cN leaf m (bQ seed leaf m 18) 18)) (by rw [IQ];rfl) (Nat.lt_of_lt_of_le hl (Nat.pow_le_pow_right (by decide) hh)) h (Nat.le_refl h)
 rw [Nat.div_eq_of_lt hl] at e
 unfold kM
 rw [if_neg hb,if_neg (by rw [rL,rV];omega),Int.toNat_natCast,Int.toNat_natCast,if_pos e]
def KC:List (Nat×Nat):=[(9,1),(10,1),(11,1),(16,4)]
def Ps:oD:=⟨0,0,[],[],[],0,0⟩
theorem QJ:eg [109,48]=0:=Fy (by decide) (by decide)
theorem QI:eg [109,49]=0:=Fy (by decide) (by decide)
theorem Ol (s:UInt64):LU s 4=gq s 4 0:=if_neg (show ¬ck 4 by decide)
theorem QL:dv 0=⟨[109,48],4,gq 300 4 0,0⟩:=by
 unfold dv
 rw [Ol,show u8 (48+((0:Nat):Int))=48 by decide,show (300:UInt64)+u64 ((0:Nat):Int)=300 by decide]
theorem S4:dv 1=⟨[109,49],4,gq 301 4 0,0⟩:=by
 unfold dv
 rw [Ol,show u8 (48+((1:Nat):Int))=49 by decide,show (300:UInt64)+u64 ((1:Nat):Int)=301 by decide]
def nu (hd P:UInt64) (V:List gW):dj:=⟨1,hd,1,[109,49],4,P,0,Ps,0,0,V⟩
def sE (W:UInt64) (V:List gW):dj:=⟨2,W,2,[109,49],0,0,0,Ps,0,0,V⟩
def RY (hd P:UInt64):List AV:=[ai 1,aw hd,ai 1,di [109,49],ai 4,aw P,ai 0,aw 0,aw 0,.nil,.nil,.nil,ai 0,aw 0,aw 0,aw 0,.nil]
def Uu (W:UInt64):List AV:=[ai 2,aw W,ai 2,di [109,49],ai 0,aw 0,ai 0,aw 0,aw 0,.nil,.nil,.nil,ai 0,aw 0,aw 0,aw 0,.nil]
theorem NF:AG Ps:=⟨Nat.zero_le _,Nat.zero_le _,Nat.zero_le _,fun i hi=>absurd hi (Nat.not_lt_zero i)⟩
theorem Ew (hd P:UInt64) (V:List gW):l8 (nu hd P V):=⟨Nat.le_of_ble_eq_true rfl,NF⟩
theorem KE (W:UInt64) (V:List gW):l8 (sE W V):=⟨Nat.le_of_ble_eq_true rfl,NF⟩
theorem Ex (hd P:UInt64) (V:List gW):eO (nu hd P V)=0:=by
 have hs:fW (nu hd P V):=⟨.inl rfl,.inl rfl,.inr rfl,.inr ⟨rfl,rfl,rfl,rfl,rfl,rfl,rfl⟩,.inr ⟨rfl,rfl⟩,rfl⟩
 rw [J_ (show (1:Int)≤1 by omega) (show (1:Int)≤5 by omega) hs (show (1:Int)≤1 by omega) (show (1:Int)≤2147483647 by omega)]
 unfold ft
 rw [if_pos (show (nu hd P V).kind=1 from rfl),if_neg (fun q=>q QI)]
 show gG 4=0
 decide
theorem Ev (W:UInt64) (V:List gW):eO (sE W V)=0:=by
 have hs:fW (sE W V):=⟨.inr (.inl rfl),.inr ⟨rfl,rfl⟩,.inr rfl,.inr ⟨rfl,rfl,rfl,rfl,rfl,rfl,rfl⟩,.inr ⟨rfl,rfl⟩,rfl⟩
 rw [J_ (show (1:Int)≤2 by omega) (show (2:Int)≤5 by omega) hs (show (1:Int)≤2 by omega) (show (2:Int)≤2147483647 by omega)]
 unfold ft
 rw [if_neg (show ¬(sE W V).kind=1 from (show ¬(2:Int)=1 by omega)),if_pos (show (sE W V).kind=2 from rfl)]
 exact QI
theorem zl (m:Mem) (l:List Mem) {h:List UInt8} (e:m.name=h):cT (m::l) h=(0:Nat):=zm (i:=0) (Nat.zero_lt_succ _) ag e
theorem Jb (m:Mem) {h:List UInt8} (e:m.name≠h):cT [m] h= -1:=zk fun j hj=>by
 have:j=0:=by simp at hj;omega
 subst this;exact e
theorem AU (g:fG) (W:UInt64) (v:gW) (k:Nat) (h1:cT g.aq v.name=k) (h3:kM (g.aq.getD k default).h (g.aq.getD k default).r W v.leaf v.fb v.path=0) (h6:(g.aq.getD k default).used&&&gJ v.leaf=0):fH g W [v]=if (1:Int)<g.bm then 41 else 0:=by
 have h0:iJ g W [v] 0=0:=by
  rw [yx (l:=[v]) (i:=0) (fun q=>absurd q.1 (Nat.lt_irrefl 0)) h1 h3,if_neg (fun q=>q h6)]
 have hf:ff (iJ g W [v]) [v].length=0:=h0
 unfold fH
 rw [if_neg (fun q=>q hf)];rfl
theorem CM:bA Tryz.prog 12 [] (ao true):=by
 have Mi:=fC 0 ag
 have FQ:=fC 1 ag
 rw [QL] at Mi
 rw [S4] at FQ
 have FL (l:Nat) (hl:l<16) (m:UInt64):=A2 300 4 l m ag ag
 generalize gq 300 4 0=P0 at *
 generalize gq 301 4 0=P1 at *
 have B1:gG 4=0:=by decide
 have hn:=Cg ⟨[109,48],4,P0,0⟩ (Nat.le_of_ble_eq_true rfl)
 have ne:gr ⟨[109,48],4,P0,0⟩=0:=by unfold gr;rw [if_neg (by simp [QJ]),if_neg (by simp [B1]),if_neg (by simp)]
 rw [ne,show bU ⟨[109,48],4,P0,0⟩=⟨0,hash 16 (dP 4 P0++ [109,48]),1,[⟨[109,48],4,P0,0⟩],[]⟩ from if_pos ne] at hn
 generalize hash 16 (dP 4 P0++ [109,48])=hd at hn
 have QQ (V:List gW):=uF _ (Ew hd P1 V)
 simp only [if_pos (Ex hd P1 _),Ex] at QQ
 have qx (V:List gW):cO (nu hd P1 V)=cO (nu hd P1 []):=rfl
 have aX (V:List gW):=K4 (g:=⟨0,hd,1,[⟨[109,48],4,P0,0⟩],[]⟩) (Ex hd P1 V) rfl rfl
 simp only [qx] at QQ aX
 obtain ⟨W,hW⟩:∃W,W=cO (nu hd P1 []):=⟨_,rfl⟩
 rw [←hW] at QQ aX
 have QP (V:List gW):=uF _ (KE W V)
 simp only [if_pos (Ev W _),Ev] at QP
 have qz (V:List gW):cO (sE W V)=cO (sE W []):=rfl
 have aZ (V:List gW):=K4 (g:=⟨1,W,2,[⟨[109,48],4,P0,1⟩,⟨[109,49],4,P1,0⟩],[]⟩) (Ev W V) rfl rfl
 simp only [qz] at QP aZ
 obtain ⟨W2,WU⟩:∃W2,W2=cO (sE W []):=⟨_,rfl⟩
 rw [←WU] at QP aZ
 have b0:¬iV 4 0:=by decide
 have b1:¬iV 4 1:=by decide
 have hv:=xo (nu hd P1 []) W [109,48] 300 4 0 rfl (if_neg b0) (QQ []) (Nat.le_of_ble_eq_true rfl) (Nat.le_of_ble_eq_true rfl) (Nat.le_of_ble_eq_true rfl)
 have OC:=xo (sE W []) W2 [109,48] 300 4 1 rfl (if_neg b1) (QP []) (Nat.le_of_ble_eq_true rfl) (Nat.le_of_ble_eq_true rfl) (Nat.le_of_ble_eq_true rfl)
 rw [show qo 4 0=0 from if_neg b0,show pE 300 4 0 W=bQ 300 0 W 18 from if_neg b0,show pD 300 4 0=df 300 0 4 from if_neg b0] at hv
 rw [show qo 4 1=1 from if_neg b1,show pE 300 4 1 W2=bQ 300 1 W2 18 from if_neg b1,show pD 300 4 1=df 300 1 4 from if_neg b1] at OC
 have l9:=FL 0 ag W
 have ij:=FL 1 ag W2
 clear FL
 have q0:bQ 300 ((0:Nat):Int) W 18=bQ 300 0 W 18:=rfl
 have q1:bQ 300 ((1:Nat):Int) W2 18=bQ 300 1 W2 18:=rfl
 rw [q0] at l9
 rw [q1] at ij
 generalize bQ 300 0 W 18=C0 at *
 generalize bQ 300 1 W2 18=C1 at *
 generalize df 300 0 4=A0 at *
 generalize df 300 1 4=A1 at *
 have V0:=AU ⟨0,hd,1,[⟨[109,48],4,P0,0⟩],[]⟩ W ⟨[109,48],0,C0,A0⟩ 0 (zl _ _ rfl) l9 (show (0:UInt64)&&&((1:UInt64)<<<UInt64.ofNat (Int.toNat 0))=0 by decide)
 have V1:=AU ⟨1,W,2,[⟨[109,48],4,P0,1⟩,⟨[109,49],4,P1,0⟩],[]⟩ W2 ⟨[109,48],1,C1,A1⟩ 0 (zl _ _ rfl) ij (show (1:UInt64)&&&((1:UInt64)<<<UInt64.ofNat (Int.toNat 1))=0 by decide)
 have SF:eW ⟨0,hd,1,[⟨[109,48],4,P0,0⟩],[]⟩ (nu hd P1 [⟨[109,48],0,C0,A0⟩])=0:=by
  rw [aX,show fH _ W (nu hd P1 [⟨[109,48],0,C0,A0⟩]).ak=0 from V0.trans (if_neg (show ¬(1:Int)<1 by omega)),if_neg (fun q=>q rfl)]
  unfold gT
  rw [if_pos (show (nu hd P1 _).kind=1 from rfl),show cT [⟨[109,48],4,P0,0⟩] (nu hd P1 [⟨[109,48],0,C0,A0⟩]).name= -1 from Jb _ (show ([109,48]:List UInt8)≠ [109,49] by decide)]
  rfl
 have UA:eW ⟨0,hd,1,[⟨[109,48],4,P0,0⟩],[]⟩ (nu hd P1 [])=41:=by rw [aX];rfl
 have Uz:eW ⟨1,W,2,[⟨[109,48],4,P0,1⟩,⟨[109,49],4,P1,0⟩],[]⟩ (sE W [⟨[109,48],1,C1,A1⟩])=41:=by
  rw [aZ,show fH _ W2 (sE W [⟨[109,48],1,C1,A1⟩]).ak=41 from V1.trans (if_pos (show (1:Int)<2 by omega)),if_pos ag]
 have eA:ga ⟨0,hd,1,[⟨[109,48],4,P0,0⟩],[]⟩ (nu hd P1 [⟨[109,48],0,C0,A0⟩])=⟨1,W,2,[⟨[109,48],4,P0,1⟩,⟨[109,49],4,P1,0⟩],[]⟩:=by
  have hc:gT ⟨0,hd,1,[⟨[109,48],4,P0,0⟩],[]⟩ (nu hd P1 [⟨[109,48],0,C0,A0⟩])=0:=(gy SF).2.2.2.2
  rw [rn SF,qx,←hW]
  unfold cw
  rw [if_neg (fun q=>q hc),if_pos (show (nu hd P1 _).kind=1 from rfl)]
  have hu:nJ [⟨[109,48],4,P0,0⟩,⟨[109,49],4,P1,0⟩] ⟨[109,48],0,C0,A0⟩= [⟨[109,48],4,P0,1⟩,⟨[109,49],4,P1,0⟩]:=by
   have hm:cT [⟨[109,48],4,P0,0⟩,⟨[109,49],4,P1,0⟩] (⟨[109,48],0,C0,A0⟩:gW).name=(0:Nat):=zl _ _ rfl
   unfold nJ
   rw [pS hm,hm,if_neg ag]
   show [(⟨[109,48],4,P0,(0:UInt64)|||gJ 0⟩:Mem),⟨[109,49],4,P1,0⟩]=_
   rw [show (0:UInt64)|||gJ 0=1 by decide]
  show (⟨1,W,if 2*(1:Int)≤((1:Nat):Int)+1 then 1+1 else 1,nJ [⟨[109,48],4,P0,0⟩,⟨[109,49],4,P1,0⟩] ⟨[109,48],0,C0,A0⟩,[]⟩:fG)=_
  rw [if_pos ag,hu];rfl
 have hA:=oY ⟨0,hd,1,[⟨[109,48],4,P0,0⟩],[]⟩ (nu hd P1 [⟨[109,48],0,C0,A0⟩]) ⟨Int.le_refl 0,(show (0:Int)≤2147483647 by omega),(ag:1≤8),(show (0:Int)≤1 by omega),(show (1:Int)≤8 by omega),Nat.zero_le _⟩ (Ew _ _ _) (ag:1≤1000000)
 rw [SF,eA] at hA
 have hQ:=oY ⟨0,hd,1,[⟨[109,48],4,P0,0⟩],[]⟩ (nu hd P1 []) ⟨Int.le_refl 0,(show (0:Int)≤2147483647 by omega),(ag:1≤8),(show (0:Int)≤1 by omega),(show (1:Int)≤8 by omega),Nat.zero_le _⟩ (Ew _ _ _) (Nat.zero_le _)
 rw [UA,ur (by rw [UA];omega)] at hQ
 have T6:=oY ⟨1,W,2,[⟨[109,48],4,P0,1⟩,⟨[109,49],4,P1,0⟩],[]⟩ (sE W [⟨[109,48],1,C1,A1⟩]) ⟨(show (0:Int)≤1 by omega),(show (1:Int)≤2147483647 by omega),(ag:2≤8),(show (0:Int)≤2 by omega),(show (2:Int)≤8 by omega),Nat.zero_le _⟩ (KE _ _) (ag:1≤1000000)
 rw [Uz,ur (by rw [Uz];omega)] at T6
 have HW:bA Tryz.prog 25 [.agg (RY hd P1),di [109,48],aw 300,ai 4,ai 0] _:=bA.I5 KC hv
 have QU:bA Tryz.prog 25 [.agg (Uu W),di [109,48],aw 300,ai 4,ai 1] (.b_ [.agg (RO (sE W [⟨[109,48],1,C1,A1⟩]) [⟨[109,48],1,C1,A1⟩]),ai 0]):=bA.I5 KC OC
 have Vs:bA Tryz.prog 30 [.agg (de ⟨0,hd,1,[⟨[109,48],4,P0,0⟩],[]⟩),.agg (RY hd P1)] _:=bA.I5 KC hQ
 clear V0 V1 l9 ij eA QQ QP hv OC hQ q0 q1 ne B1 aX aZ SF UA Uz qx qz
 refine zO Tryz.func12 100<|zP 2 [{},yH [(0,yC Mi),(1,yD hn)]] [.aa [2,1,0] [1,501016,401016]] [yI Mi,yI hn,yL 5 5]<|zS<|yw 6 [5] [(2,yC FQ)] [yI FQ,yR (AV.addr 1 1),yR (aw hd),yR (AV.agg [AV.val (Value.string (ByteArray.mk #[109,49])),ai 4,aw P1,aw 0]),yI FQ,yR (AV.agg [ai 4,aw P1]),yR (AV.agg [ai 1,aw hd,ai 1,AV.val (Value.string (ByteArray.mk #[109,49])),ai 4,aw P1,ai 0,AV.val (Value.int .u64 0),AV.val (Value.int .u64 0),AV.nil,AV.nil,AV.nil,ai 0,AV.val (Value.int .u64 0),AV.val (Value.int .u64 0),AV.val (Value.int .u64 0),AV.nil]),yL 17 17]<|al<|bf.tD [.aa [3,2,1,0] [3,1,501016,401016]] bC<|zP 6 [yH [(1,yD HW)],yH [(2,yD hA)],yH [(2,yD Vs)],yH [(3,yD QU)],yH [(2,yD T6)],yH [(30,{k:=2}),(36,{k:=0}),(39,yV (ao (1 == 1)))]] [.aa [0,13,11,10,9,7,6,5,4,3,2,1] [10,6,4,3,1]] ([yI HW,yL 17 17,yI hA,yL 5 5,yI Vs,yL 5 5,yI QU,yL 17 17,yI T6,yL 5 5]++yM 22 (yR true)++ [yR (2*4)]++yM 5 (yR true)++ [yR (0:Int),yO (0<8)]++yM 3 (yR true)++ [yR (ao (1 == 1))]++yM 5 (yR true))<|zR (bL)
end Go.Proofs.YtjgbhhnghedgdaaGreatDoor
