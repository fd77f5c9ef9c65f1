import Derived.Test.YtjgbhhnghedgdaaGreatDoorZaGrK1
set_option linter.all false
namespace Go.Proofs.YtjgbhhnghedgdaaGreatDoor
open Go.RowKit
set_option maxRecDepth 100000
set_option maxHeartbeats 4000000
theorem Bb (g:gK) (e:eF) (hG:nT g) (h1:1≤e.kind) (h5:e.kind≤5) (ht:e.kind=3->1≤e.bt∧e.bt≤8) (hB:y8 e.dep):bK Tryz.prog 59 [.agg (bB g),.agg (aT e)] (.bq [.agg (bB (cQ g e)),ai (gI g e)]):=by
 by_cases k1:e.kind=1
 ·have ce:gI g e=BA g e:=if_pos k1
  have cg:cQ g e=if BA g e=0 then Gs g e else g:=by
   unfold cQ
   rw [ce]
   by_cases q:BA g e=0
   ·rw [if_neg ah,if_pos k1,if_pos q];rfl
   ·rw [if_pos q,if_neg q]
  have hr:=IP g e hG
  rw [←cg,←ce] at hr
  generalize cQ g e=G at *
  generalize gI g e=E at *
  refine zO Tryz.func59 80<|zq<|zS<|zq<|zB 0<|zP 1 [{}] [.ae [10,9,5,4,3,2,0,1] [4,3,2]] []<|du 10 (e.kind == (1:Int)) fb<|zP 1 [yH [(2,{av:=some (AV.bq [AV.agg (bB G),ai E]),b:=false})]] [.ae [5,10,9,4,3,2,0,1] [4,3,2]] [yI hr,yL 5 5]<|zR<|aY<|aI (bV)
 by_cases k2:e.kind=2
 ·have ce:gI g e=Ad g e:=by unfold gI;rw [if_neg k1,if_pos k2];rfl
  have cg:cQ g e=if Ad g e=0 then {g with al:=po g.al (dF g.al e.name).toNat} else g:=by
   unfold cQ
   rw [ce]
   by_cases q:Ad g e=0
   ·rw [if_neg ah,if_neg k1,if_pos k2,if_pos q]
   ·rw [if_pos q,if_neg q]
  have hr:=A4 g e hG
  rw [←cg,←ce] at hr
  generalize cQ g e=G at *
  generalize gI g e=E at *
  refine zO Tryz.func59 80<|zq<|zS<|zq<|zB 0<|zP 1 [{}] [.ae [10,9,5,4,3,2,0,1] [4,3,2]] []<|bj 10 (e.kind == (1:Int)) bE<|zq<|du 17 (e.kind == (2:Int)) fb<|zP 1 [yH [(2,{av:=some (AV.bq [AV.agg (bB G),ai E]),b:=false})]] [.ae [5,17,10,9,4,3,2,0,1] [4,3,2]] [yI hr,yL 5 5]<|zR<|aY<|aI (bV)
 by_cases k4:e.kind=4
 ·have ce:gI g e=xd g e:=by unfold gI;rw [if_neg k1,if_neg k2,if_neg ah,if_pos k4];rfl
  have cg:cQ g e=if xd g e=0 then {g with aK:=g.aK++ [e.dep]} else g:=by
   unfold cQ
   rw [ce]
   by_cases q:xd g e=0
   ·rw [if_neg ah,if_neg k1,if_neg k2,if_neg ah,if_pos k4,if_pos q]
   ·rw [if_pos q,if_neg q]
  have hr:=CF g e hG hB
  rw [←cg,←ce] at hr
  generalize cQ g e=G at *
  generalize gI g e=E at *
  refine zO Tryz.func59 80<|zq<|zS<|zq<|zB 0<|zP 1 [{}] [.ae [10,9,5,4,3,2,0,1] [4,3,2]] []<|bj 10 (e.kind == (1:Int)) bE<|zq<|bj 17 (e.kind == (2:Int)) bE<|zP 1 [{}] [.ae [24,17,10,9,5,4,3,2,0,1] [4,3,2]] []<|bj 24 (e.kind == (3:Int)) bE<|zq<|du 44 (e.kind == (4:Int)) fb<|zP 1 [yH [(2,{av:=some (AV.bq [AV.agg (bB G),ai E]),b:=false})]] [.ae [5,44,24,17,10,9,4,3,2,0,1] [4,3,2]] [yI hr,yL 5 5]<|zR<|aY<|aI (bV)
 obtain ⟨g1,g2,g3,g4,g5,g6⟩:=hG
 have mb:(af aH g.al).length=g.al.length*4:=aF (e:=4) (fun _=>rfl) ..
 have qD:(af bc g.aK).length=g.aK.length*7:=aF (e:=7) (fun _=>rfl) ..
 by_cases k3:e.kind=3
 ·obtain ⟨t1,t2⟩:=ht k3
  have ce:gI g e=if (g.al.length:Int)<e.bt∨2*e.bt≤g.al.length then 41 else 0:=by unfold gI;rw [if_neg k1,if_neg k2,if_pos k3]
  by_cases c1:(g.al.length:Int)<e.bt
  ·rw [if_pos (.inl c1)] at ce
   have cg:cQ g e=g:=if_pos ah
   rw [ce,cg]
   refine zO Tryz.func59 80<|zq<|zS<|zq<|zB 0<|zP 1 [{}] [.ae [10,9,5,4,3,2,0,1] [4,3,2]] []<|bj 10 (e.kind == (1:Int)) bE<|zq<|bj 17 (e.kind == (2:Int)) bE<|zP 1 [{}] [.ae [24,17,10,9,5,4,3,2,0,1] [4,3,2]] []<|du 24 (e.kind == (3:Int)) fb<|zP 1 [yH [(2,{k:=g.al.length})]] [.ae [6,24,17,10,9,5,4,3,2,0,1] [4,3,2]] [yI mb]<|zS<|zP 1 [{}] [.ae [39,6,24,17,10,9,5,4,3,2,0,1] [4,3,2]] (yM 6 (yT (e.bt>(↑g.al.length:Int))))<|zT 39<|zP 1 [{}] [.ae [5,39,6,24,17,10,9,4,3,2,0,1] [4,3,2]] [yL 5 5]<|dk<|aY<|aI (bV)
  by_cases c2:2*e.bt≤g.al.length
  ·rw [if_pos (.inr c2)] at ce
   have cg:cQ g e=g:=if_pos ah
   rw [ce,cg]
   refine zO Tryz.func59 80<|zq<|zS<|zq<|zB 0<|zP 1 [{}] [.ae [10,9,5,4,3,2,0,1] [4,3,2]] []<|bj 10 (e.kind == (1:Int)) bE<|zq<|bj 17 (e.kind == (2:Int)) bE<|zP 1 [{}] [.ae [24,17,10,9,5,4,3,2,0,1] [4,3,2]] []<|du 24 (e.kind == (3:Int)) fb<|zP 1 [yH [(2,{k:=g.al.length})]] [.ae [6,24,17,10,9,5,4,3,2,0,1] [4,3,2]] [yI mb]<|zS<|zP 1 [yH ([(7,{av:=some (ai ((2:Int)*e.bt)),g:=false}),(10,{b:=false})]++yg [5,6,8,9])] [.ae [39,6,24,17,10,9,5,4,3,2,0,1] [4,3,2]] (yM 3 (yF (e.bt>(↑g.al.length:Int)))++ [yN ((2:Int)*e.bt)]++yM 3 (yF (e.bt>(↑g.al.length:Int))))<|gT 39 ((2:Int)*e.bt≤(↑g.al.length:Int))<|zP 1 [{}] [.ae [5,39,6,24,17,10,9,4,3,2,0,1] [4,3,2]] [yL 5 5]<|dk<|aY<|aI (bV)
  rw [if_neg ah] at ce
  have cg:cQ g e=⟨g.aB,g.head,e.bt,g.al,g.aK⟩:=by unfold cQ;rw [if_neg ah,if_neg k1,if_neg k2,if_pos k3]
  rw [ce,cg]
  refine zO Tryz.func59 80<|zq<|zS<|zq<|zB 0<|zP 1 [{}] [.ae [10,9,5,4,3,2,0,1] [4,3,2]] []<|bj 10 (e.kind == (1:Int)) bE<|zq<|bj 17 (e.kind == (2:Int)) bE<|zP 1 [{}] [.ae [24,17,10,9,5,4,3,2,0,1] [4,3,2]] []<|du 24 (e.kind == (3:Int)) fb<|zP 1 [yH [(2,{k:=g.al.length})]] [.ae [6,24,17,10,9,5,4,3,2,0,1] [4,3,2]] [yI mb]<|zS<|zP 1 [yH ([(7,{av:=some (ai ((2:Int)*e.bt)),g:=false}),(10,{b:=false})]++yg [5,6,8,9])] [.ae [39,6,24,17,10,9,5,4,3,2,0,1] [4,3,2]] (yM 3 (yF (e.bt>(↑g.al.length:Int)))++ [yN ((2:Int)*e.bt)]++yM 3 (yF (e.bt>(↑g.al.length:Int))))<|dp 39 ((2:Int)*e.bt≤(↑g.al.length:Int))<|a_<|zX {} [yL 3 5]<|aM<|ak<|zP 1 [{}] [.ae [5,41,39,6,24,17,10,9,4,3,2,0,1] [4,2,3]] [yL 5 5]<|zR (bV)
 have k5:e.kind=5:=ah
 have CB:=Ba g e.bR ah
 have gl:=Dr g.aK ah
 have ce:gI g e=if vr g.aK e.bR=g.aK.length then 11 else if (g.aK.getD (vr g.aK e.bR) default).target≠0 then 18 else 0:=by unfold gI;rw [if_neg k1,if_neg k2,if_neg k3,if_neg k4]
 rcases oa g.aK e.bR with ⟨hf,hk⟩|⟨k,hf,hk,iG⟩
 ·rw [if_pos hf] at ce
  have cg:cQ g e=g:=if_pos ah
  rw [ce,cg]
  rw [hk] at CB
  refine zO Tryz.func59 80<|zq<|zS<|zq<|zB 0<|zP 1 [{}] [.ae [10,9,5,4,3,2,0,1] [4,3,2]] []<|bj 10 (e.kind == (1:Int)) bE<|zq<|bj 17 (e.kind == (2:Int)) bE<|zP 1 [{}] [.ae [24,17,10,9,5,4,3,2,0,1] [4,3,2]] []<|bj 24 (e.kind == (3:Int)) bE<|zq<|bj 44 (e.kind == (4:Int)) bE<|zP 1 [{}] [.ae [51,44,24,17,10,9,5,4,3,2,0,1] [4,3,2]] []<|du 51 (e.kind == (5:Int)) fb<|zP 1 [yH [(3,yV (ai (-1:Int)))]] [.ae [7,51,44,24,17,10,9,5,4,3,2,0,1] [4,3,2]] [yI CB]<|zS<|zq<|gT 58 ((-1:Int)<0)<|zP 1 [{}] [.ae [5,58,7,51,44,24,17,10,9,4,3,2,0,1] [4,3,2]] [yL 5 5]<|dk<|aY<|aI (bV)
 rw [if_neg ah,hf] at ce
 rw [hk] at CB
 have gh:=yE iG
 by_cases c1:(g.aK.getD k default).target=0
 case neg =>
  rw [if_pos c1] at ce
  have cg:cQ g e=g:=if_pos ah
  rw [ce,cg]
  refine zO Tryz.func59 80<|zq<|zS<|zq<|zB 0<|zP 1 [{}] [.ae [10,9,5,4,3,2,0,1] [4,3,2]] []<|bj 10 (e.kind == (1:Int)) bE<|zq<|bj 17 (e.kind == (2:Int)) bE<|zP 1 [{}] [.ae [24,17,10,9,5,4,3,2,0,1] [4,3,2]] []<|bj 24 (e.kind == (3:Int)) bE<|zq<|bj 44 (e.kind == (4:Int)) bE<|zP 1 [{}] [.ae [51,44,24,17,10,9,5,4,3,2,0,1] [4,3,2]] []<|du 51 (e.kind == (5:Int)) fb<|zP 1 [yH [(3,yV (ai ↑k))]] [.ae [7,51,44,24,17,10,9,5,4,3,2,0,1] [4,3,2]] [yI CB]<|zS<|zq<|dp 58 ((↑k:Int)<0)<|a_<|zS<|zP 1 [yH [(3,{k:=k}),(5,yV (aw ((g.aK.getD k default).target))),(6,yV (ao ((g.aK.getD k default).target != 0)))]] [.ae [66,58,7,51,44,24,17,10,9,5,4,3,2,0,1] [4,3,2]] [yR (↑k:Int),yO (k*7<(af bc g.aK).length),yA bc g.aK k 6,yI (cJ ((g.aK.getD k default).target) 0)]<|du 66 ((g.aK.getD k default).target != 0) (by simp_all)<|zP 1 [{}] [.ae [5,66,58,7,51,44,24,17,10,9,4,3,2,0,1] [4,3,2]] [yL 5 5]<|dk<|aY<|aI (bV)
 rw [if_neg (fun q=>q c1)] at ce
 have cg:cQ g e=⟨g.aB,g.head,g.bt,g.al,qP g.aK k e.target⟩:=by unfold cQ;rw [if_neg ah,if_neg k1,if_neg k2,if_neg k3,if_neg k4,hf]
 rw [ce,cg]
 have s1:=Bn iG e.target
 refine zO Tryz.func59 80<|zq<|zS<|zq<|zB 0<|zP 1 [{}] [.ae [10,9,5,4,3,2,0,1] [4,3,2]] []<|bj 10 (e.kind == (1:Int)) bE<|zq<|bj 17 (e.kind == (2:Int)) bE<|zP 1 [{}] [.ae [24,17,10,9,5,4,3,2,0,1] [4,3,2]] []<|bj 24 (e.kind == (3:Int)) bE<|zq<|bj 44 (e.kind == (4:Int)) bE<|zP 1 [{}] [.ae [51,44,24,17,10,9,5,4,3,2,0,1] [4,3,2]] []<|du 51 (e.kind == (5:Int)) fb<|zP 1 [yH [(3,yV (ai ↑k))]] [.ae [7,51,44,24,17,10,9,5,4,3,2,0,1] [4,3,2]] [yI CB]<|zS<|zq<|dp 58 ((↑k:Int)<0)<|a_<|zS<|zP 1 [yH [(3,{k:=k}),(5,yV (aw ((g.aK.getD k default).target))),(6,yV (ao false))]] [.ae [66,58,7,51,44,24,17,10,9,5,4,3,2,0,1] [4,3,2]] [yR (↑k:Int),yO (k*7<(af bc g.aK).length),yA bc g.aK k 6,yB (ao (wv (g.aK.getD k default).target != (0:Int))=ao false) (by rw [c1];rfl)]<|zF 66<|a_<|zP 1 [yH [(2,{av:=some (AV.own 7 (af bc g.aK)),b:=false})]] [.ae [66,58,7,51,44,24,17,10,9,5,4,3,2,0,1] [2,70,4,3]] [yI gl,yL 5 5]<|bf.Oh {hs:=[(5,{k:=k}),(7,{av:=some (AV.arr (af bc (qP g.aK k e.target)))})]} (s':=AS.mk [(78,AV.addr 70 (k*7+6)),(77,AV.addr 70 (k*7)),(76,aw e.target),(75,AV.addr 3 15),(74,ai ↑k),(73,AV.ref 70),(72,AV.addr 2 4),(66,ao false),(58,ao (decide ((↑k:Int)<0))),(7,ai ↑k),(51,ao (e.kind == (5:Int))),(44,ao (e.kind == (4:Int))),(24,ao (e.kind == (3:Int))),(17,ao (e.kind == (2:Int))),(10,ao (e.kind == (1:Int))),(9,ai e.kind),(5,ai 0),(4,AV.addr 4 0),(3,AV.addr 3 0),(2,AV.addr 2 0),(0,AV.agg (bB g)),(1,AV.agg (aT e))] [(70,Row.mk 7 true false (af bc (qP g.aK k e.target))),(2,Row.mk 1 false true ((List.map (aD 70) (List.map (aD 4) (List.map (aD 3) (List.map (aD 2) (bB g))))).set 4 (bp (AS.mk [(71,AV.addr 2 4),(70,AV.ref 70),(69,AV.sl 7 (af bc g.aK)),(68,AV.addr 2 4),(66,ao false),(58,ao (decide ((↑k:Int)<0))),(7,ai ↑k),(51,ao (e.kind == (5:Int))),(44,ao (e.kind == (4:Int))),(24,ao (e.kind == (3:Int))),(17,ao (e.kind == (2:Int))),(10,ao (e.kind == (1:Int))),(9,ai e.kind),(5,ai 0),(4,AV.addr 4 0),(3,AV.addr 3 0),(2,AV.addr 2 0),(0,AV.agg (bB g)),(1,AV.agg (aT e))] [(70,Row.mk 7 true false (af bc g.aK)),(4,Row.mk 1 false true [ai 0,cO,ai 0,AV.nil,AV.nil]),(3,Row.mk 1 false true (aT e)),(2,Row.mk 1 false true (List.map (aD 70) (List.map (aD 4) (List.map (aD 3) (List.map (aD 2) (bB g))))))]) (Operand.tmp 70)))),(4,Row.mk 1 false true [ai 0,cO,ai 0,AV.nil,AV.nil]),(3,Row.mk 1 false true (aT e))]) (C:=[(↑k:Int)=(↑k:Int),k*7<(af bc g.aK).length,(af bc g.aK).set (k*7+6) (aw e.target)=af bc (qP g.aK k e.target),k*7+6+1≤(af bc g.aK).length]) bh ⟨rfl,ah,s1,ah,trivial⟩<|aM<|ak<|zP 1 [{}] [.ae [5,66,58,7,51,44,24,17,10,9,4,3,2,0,1] [4,70,2,3]] [yL 5 5]<|bf.sv [.gN 70] bh<|zR (bV)
theorem ou (g:gK) (e:eF) (hG:nT g) (hB:mN e) (hv:e.aq.length≤1000000):bK Tryz.prog 30 [.agg (bB g),.agg (aT e)] (.bq [.agg (bB (iq g e)),ai (fI g e)]):=by
 have xR:(af a8 e.aq).length=e.aq.length*4:=aF (e:=4) (fun _=>rfl) ..
 have LY:=tz e hB
 by_cases cb:eu e=0
 case neg =>
  have ce:fI g e=eu e:=if_pos cb
  have cg:iq g e=g:=if_pos (by rw [ce];exact cb)
  rw [if_neg cb] at LY
  rw [ce,cg]
  refine zO Tryz.func30 92<|zP 2 [{},yH [(1,yV (AV.bq [aw 0,ai (eu e)]))]] [.ae [7,6,5,4,3,2,0,1] [4,3,2]] [yI LY]<|zS<|zQ 1 [yH [(1,yV (ao true))]] [yB (ao (eu e != (0:Int))=ao true) (by simp [cb])]<|zT 19<|zP 1 [{}] [.ae [5,19,7,6,4,3,2,0,1] [4,3,2]] [yL 5 5]<|dk (bV)
 rw [if_pos cb,cb] at LY
 obtain ⟨k1,k5,Qh,SL,sH,To⟩:=qd cb
 by_cases c1:e.aB≠g.aB+1
 ·have ce:fI g e=42:=by unfold fI;rw [if_neg (fun q=>q cb),if_pos (.inl c1)]
  have cg:iq g e=g:=if_pos ah
  rw [ce,cg]
  have vl:(e.aB-1 != g.aB)=true:=bne_iff_ne.2 ah
  refine zO Tryz.func30 92<|zP 2 [{},yH [(1,yV (AV.bq [aw (de e),ai 0]))]] [.ae [7,6,5,4,3,2,0,1] [4,3,2]] [yI LY]<|zS<|zq<|zF 19<|a_<|zS<|zP 1 [yH [(2,yV (ai (e.aB-1)))]] [.ae [34,19,7,6,5,4,3,2,0,1] [4,3,2]] ([yN (e.aB-1)]++yM 6 (yI vl))<|zT 34<|zP 1 [{}] [.ae [5,34,19,7,6,4,3,2,0,1] [4,3,2]] [yL 5 5]<|dk (bV)
 have OL:e.aB=g.aB+1:=ah
 have vl:(e.aB-1 != g.aB)=false:=by rw [OL];simp
 by_cases c2:e.prev=g.head
 case neg =>
  have ce:fI g e=42:=by unfold fI;rw [if_neg (fun q=>q cb),if_pos (.inr c2)]
  have cg:iq g e=g:=if_pos ah
  rw [ce,cg]
  have SP:(e.prev != g.head)=true:=bne_iff_ne.2 c2
  refine zO Tryz.func30 92<|zP 2 [{},yH [(1,yV (AV.bq [aw (de e),ai 0]))]] [.ae [7,6,5,4,3,2,0,1] [4,3,2]] [yI LY]<|zS<|zq<|zF 19<|a_<|zS<|zP 1 [yH ([(2,yV (ai (e.aB-1))),(11,{av:=some (ao (e.prev != g.head)),g:=false}),(12,{b:=false})]++yg [7,8,9,10])] [.ae [34,19,7,6,5,4,3,2,0,1] [4,3,2]] ([yN (e.aB-1)]++yM 5 (yI vl)++ [yI (cJ e.prev g.head),yI vl])<|du 34 (e.prev != g.head) (by assumption)<|zP 1 [{}] [.ae [5,34,19,7,6,4,3,2,0,1] [4,3,2]] [yL 5 5]<|dk (bV)
 have SP:(e.prev != g.head)=false:=by rw [c2];simp
 have Gn:fI g e=if fv g (de e) e.aq≠0 then fv g (de e) e.aq else gI g e:=by unfold fI;rw [if_neg (fun q=>q cb),if_neg (by rintro (q|q);exact q OL;exact q c2)]
 have m8:=hG.m8
 have BE:=JB g (de e) e.aq ah hv
 by_cases c3:fv g (de e) e.aq=0
 case neg =>
  rw [if_pos c3] at Gn
  have cg:iq g e=g:=if_pos (by rw [Gn];exact c3)
  rw [Gn,cg]
  refine zO Tryz.func30 92<|zP 2 [{},yH [(1,yV (AV.bq [aw (de e),ai 0]))]] [.ae [7,6,5,4,3,2,0,1] [4,3,2]] [yI LY]<|zS<|zQ 1 [yH [(1,yV (ao false))]] [yR (ao false)]<|zF 19<|a_<|zS<|zP 1 [yH ([(2,yV (ai (e.aB-1))),(11,{av:=some (ao (e.prev != g.head)),g:=false}),(12,{b:=false})]++yg [7,8,9,10])] [.ae [34,19,7,6,5,4,3,2,0,1] [4,3,2]] ([yN (e.aB-1)]++yM 5 (yI vl)++ [yI (cJ e.prev g.head),yI vl])<|bj 34 (e.prev != g.head) (by assumption)<|a_<|zS<|zP 2 [yH [(4,yV (ai (fv g (de e) e.aq)))],yH [(1,yV (ao true))]] [.ae [42,41,8,34,19,7,6,5,4,3,2,0,1] [4,3,2]] [yI BE,yB (ao (fv g (de e) e.aq != (0:Int))=ao true) (by simp [c3])]<|zT 42<|zP 1 [{}] [.ae [5,42,41,8,34,19,7,6,4,3,2,0,1] [4,3,2]] [yL 5 5]<|dk (bV)
 have K0:=fun i hi=>vS c3 (i:=i) hi
 rw [if_neg (fun q=>q c3)] at Gn
 rw [c3] at BE
 have vJ:=Bb g e hG k1 k5 (x7 cb) hB.dep
 rw [←Gn] at vJ
 by_cases c4:fI g e=0
 case neg =>
  have cg:iq g e=g:=if_pos c4
  rw [cg]
  refine zO Tryz.func30 92<|zP 2 [{},yH [(1,yV (AV.bq [aw (de e),ai 0]))]] [.ae [7,6,5,4,3,2,0,1] [4,3,2]] [yI LY]<|zS<|zQ 1 [yH [(1,yV (ao false))]] [yR (ao false)]<|zF 19<|a_<|zS<|zP 1 [yH ([(2,yV (ai (e.aB-1))),(11,{av:=some (ao (e.prev != g.head)),g:=false}),(12,{b:=false})]++yg [7,8,9,10])] [.ae [34,19,7,6,5,4,3,2,0,1] [4,3,2]] ([yN (e.aB-1)]++yM 5 (yI vl)++ [yI (cJ e.prev g.head),yI vl])<|bj 34 (e.prev != g.head) (by assumption)<|a_<|zS<|zP 2 [yH [(4,yV (ai 0))],yH [(1,yV (ao false))]] [.ae [42,41,8,34,19,7,6,5,4,3,2,0,1] [4,3,2]] [yI BE,yR (ao false)]<|zF 42<|a_<|zP 1 [yH [(2,{av:=some (AV.bq [AV.agg (bB (cQ g e)),ai (fI g e)]),b:=false})]] [.ae [7,9,42,41,8,34,19,6,5,4,3,2,0,1] [9,4,3,2]] [yI vJ,yL 5 5]<|zS<|zQ 1 [yH [(1,yV (ao true))]] [yB (ao (fI g e != (0:Int))=ao true) (by simp [c4])]<|zT 52<|zP 1 [{}] [.ae [5,52,7,9,42,41,8,34,19,6,4,3,2,0,1] [4,9,3,2]] [yL 5 5]<|dk (bV)
 have cg:iq g e=⟨e.aB,de e,(cQ g e).bt,j8 (cQ g e).al e.aq,(cQ g e).aK⟩:=if_neg (fun q=>q c4)
 rw [cg,c4]
 rw [c4] at vJ
 have gl:=Br g e
 generalize cQ g e=G at *
 have mb:∀i,(af aH (j8 G.al (e.aq.take i))).length=G.al.length*4:=fun i=>by rw [aF (e:=4) (fun _=>rfl),nc]
 have Nr:=uk G.al ah
 generalize de e=W at *
 clear Gn cg To sH
 refine zO Tryz.func30 92<|zP 2 [{},yH [(1,yV (AV.bq [aw W,ai 0]))]] [.ae [7,6,5,4,3,2,0,1] [4,3,2]] [yI LY]<|zS<|zq<|zF 19<|a_<|zS<|zP 1 [yH ([(2,yV (ai (e.aB-1))),(11,{av:=some (ao (e.prev != g.head)),g:=false}),(12,{b:=false})]++yg [7,8,9,10])] [.ae [34,19,7,6,5,4,3,2,0,1] [4,3,2]] ([yN (e.aB-1)]++yM 5 (yI vl)++ [yI (cJ e.prev g.head),yI vl])<|bj 34 (e.prev != g.head) (by assumption)<|a_<|zS<|zP 2 [yH [(4,yV (ai 0))],{}] [.ae [42,41,8,34,19,7,6,5,4,3,2,0,1] [4,3,2]] [yI BE]<|zF 42<|a_<|zP 1 [yH [(2,{av:=some (AV.bq [AV.agg (bB G),ai 0]),b:=false})]] [.ae [7,9,42,41,8,34,19,6,5,4,3,2,0,1] [9,4,3,2]] [yI vJ,yL 5 5]<|zS<|zq<|zF 52<|a_<|zP 3 [{},{},yH [(2,{av:=some (AV.own 4 (af aH G.al)),b:=false})]] [.ae [52,7,9,42,41,8,34,19,6,5,4,3,2,0,1] [9,62,4,3,2]] [yL 1 5,yL 2 5,yI Nr,yL 4 5]<|zS<|zQ 1 [yH [(2,{k:=e.aq.length})]] [yI xR]<|zB 0 (zL (fun (i:Nat)=>(⟨[(66,ai (↑e.aq.length:Int)),(65,AV.sl 4 (af a8 e.aq)),(52,ao ((0:Int) != (0:Int))),(7,ai 0),(9,AV.addr 9 0),(42,ao ((0:Int) != (0:Int))),(41,ai 0),(8,ai 0),(34,ao (e.prev != g.head)),(19,ao ((0:Int) != (0:Int))),(6,aw W),(5,ai 0),(4,AV.addr 4 0),(3,AV.addr 3 0),(2,AV.addr 2 0),(0,AV.agg (bB g)),(1,AV.agg (aT e)),(67,ai i)],[(9,⟨1,false,true,[ai e.aB,aw W,ai G.bt,AV.ref 62,AV.sl 7 (af bc G.aK)]⟩),(4,⟨1,false,true,[ai 0,cO,ai 0,AV.nil,AV.nil]⟩),(3,⟨1,false,true,(aT e)⟩),(2,⟨1,false,true,List.map (aD 62) (List.map (aD 9) (List.map (aD 4) (List.map (aD 3) (List.map (aD 2) (bB g)))))⟩),(62,⟨4,true,false,af aH (j8 G.al (e.aq.take i))⟩)]⟩:AS)) (fun i=>(i≤e.aq.length)) (fun i=>(e.aq.length-i)) (0) ?_ (zW [.ae [66,65,52,7,9,42,41,8,34,19,6,5,4,3,2,0,1,67] [9,4,3,2,62]]) ?_)
 ·omega
 intro i hi
 have UN:=mb i
 refine bf.i9 1 [{}] bh (s':=AS.mk [(68,ao (decide ((↑i:Int)<(↑e.aq.length:Int)))),(66,ai (↑e.aq.length:Int)),(65,AV.sl 4 (af a8 e.aq)),(52,ao ((0:Int) != (0:Int))),(7,ai 0),(9,AV.addr 9 0),(42,ao ((0:Int) != (0:Int))),(41,ai 0),(8,ai 0),(34,ao (e.prev != g.head)),(19,ao ((0:Int) != (0:Int))),(6,aw W),(5,ai 0),(4,AV.addr 4 0),(3,AV.addr 3 0),(2,AV.addr 2 0),(0,AV.agg (bB g)),(1,AV.agg (aT e)),(67,ai ↑i)] [(9,Row.mk 1 false true [ai e.aB,aw W,ai G.bt,AV.ref 62,AV.sl 7 (af bc G.aK)]),(4,Row.mk 1 false true [ai 0,cO,ai 0,AV.nil,AV.nil]),(3,Row.mk 1 false true (aT e)),(2,Row.mk 1 false true (List.map (aD 62) (List.map (aD 9) (List.map (aD 4) (List.map (aD 3) (List.map (aD 2) (bB g))))))),(62,Row.mk 4 true false (af aH (j8 G.al (List.take i e.aq))))]) (C:=[]) bh trivial<|zS (zD 68 ((↑i:Int)<(↑e.aq.length:Int)) (fun q=>?_) (fun q=>?_))
 ·have dz:i<e.aq.length:=ah
  have gh:=k9 dz
  have dP:=vW G.al dz
  obtain ⟨ze,GA⟩:=K0 i dz
  have Wl:(j8 G.al (e.aq.take i)).length=G.al.length:=nc _ _
  generalize j8 G.al (e.aq.take i)=U at *
  have m7:bK Tryz.prog 61 [.agg (bB ⟨e.aB,W,G.bt,U,G.aK⟩),db (e.aq.getD i default).name] (ai (dF U (e.aq.getD i default).name)):=nI ⟨e.aB,W,G.bt,U,G.aK⟩ (e.aq.getD i default).name (by show U.length≤_;omega)
  rcases gF U (e.aq.getD i default).name with hk|⟨k,hk,iG,PQ⟩
  ·have h1:pH U (e.aq.getD i default)=U:=if_pos ah
   rw [h1] at dP
   rw [hk] at m7
   refine a_<|zS<|zB 1<|zP 3 [yH [(0,{k:=i}),(1,yV (AV.agg (a8 (e.aq.getD i default))))],yH [(3,yV (ai (-1:Int)))],{}] [.ae [76,12,11,68,66,65,52,7,9,42,41,8,34,19,6,5,4,3,2,0,1,67] [11,9,4,3,2,62]] [yR (↑i:Int),yO (i*4<(af a8 e.aq).length),yu a8 e.aq i 0 4,yR 4,yL 4 4,yI m7]<|dp 76 ((-1:Int)≥0)<|zK<|aM<|ak<|zX (yH [(0,yV (ai ((↑i:Int)+1)))]) [yN ((↑i:Int)+1)] (aJ (i+1) (by assumption) ah (eK [.ae [66,65,52,7,9,42,41,8,34,19,6,5,4,3,2,0,1,67] [9,4,3,2,62]] [] [62] [yB (af aH U=af aH (j8 G.al (List.take (i+1) e.aq))) (by rw [dP])]))
  ·have h1:pH U (e.aq.getD i default)=U.set k {U.getD k default with used:=(U.getD k default).used|||gA (e.aq.getD i default).leaf}:=by unfold pH;rw [if_neg ah,ui hk,hk];rfl
   rw [h1] at dP
   rw [hk] at m7
   have RU:=mu iG
   have RF:=wF iG ((U.getD k default).used|||gA (e.aq.getD i default).leaf)
   refine a_<|zS<|zB 1<|zP 3 [yH [(0,{k:=i}),(1,yV (AV.agg (a8 (e.aq.getD i default))))],yH [(3,yV (ai ↑k))],{}] [.ae [76,12,11,68,66,65,52,7,9,42,41,8,34,19,6,5,4,3,2,0,1,67] [11,9,4,3,2,62]] [yR (↑i:Int),yO (i*4<(af a8 e.aq).length),yu a8 e.aq i 0 4,yR 4,yL 4 4,yI m7]<|gT 76 ((↑k:Int)≥0)<|zX ({hs:=[(3,{k:=k}),(5,yV (aw ((U.getD k default).used))),(9,yV (aw (gA (e.aq.getD i default).leaf))),(10,yV (aw ((U.getD k default).used|||gA (e.aq.getD i default).leaf))),(11,{k:=k})],T:=10}) [yR (↑k:Int),yO (k*4<(af aH U).length),yA aH U k 3,yB (AV.val (Value.int .u64 (IntKind.u64.wrap ((1:Int)*(2:Int)^min (e.aq.getD i default).leaf.toNat IntKind.u64.bits)))=aw (gA (e.aq.getD i default).leaf)) (jB 1 _ ze ah),yI ze,yI (pw ((U.getD k default).used) (gA (e.aq.getD i default).leaf)),yR (↑k:Int),yO (k*4<(af aH U).length),yO (k*4+3+1≤(af aH U).length)]<|aM<|ak<|zX (yH [(0,yV (ai ((↑i:Int)+1)))]) [yN ((↑i:Int)+1)] (aJ (i+1) (by assumption) ah (eK [.ae [66,65,52,7,9,42,41,8,34,19,6,5,4,3,2,0,1,67] [9,4,3,2,62]] [] [62] [yB ((af aH U).set (k*4+3) (aw ((U.getD k default).used|||gA (e.aq.getD i default).leaf))=af aH (j8 G.al (List.take (i+1) e.aq))) (by rw [dP];exact RF)]))
 ·have ei:i=e.aq.length:=ah
  subst ei
  rw [List.take_length]
  refine zE 0<|a7<|aO<|bn<|ak<|zP 1 [{}] [.ae [5,68,66,65,52,7,9,42,41,8,34,19,6,4,3,2,0,1,67] [4,9,3,2,62]] [yL 5 5]<|bf.sv [.gN 62] bh<|zR (bV)
def Qi (e:eF) (V:List gk):List AV:=[ai e.aB,aw e.prev,ai e.kind,db e.name,ai e.kh,aw e.kr,ai e.bt,aw e.dep.bR,aw e.dep.peer,.own 1 (ag e.dep.box),.own 1 (af ay e.dep.aa),.own 1 (aj e.dep.au),ai e.dep.need,aw e.dep.target,aw e.bR,aw e.target,.own 4 (af a8 V)]
theorem vR (e:eF) (W:UInt64) (name:List UInt8) (seed:UInt64) (h leaf:Int) (hv:e.aq= []) (hs:wj h leaf=0) (hw:bK Tryz.prog 50 [.agg (aT e)] (.bq [aw W,ai 0])) (h1:e.dep.box.length≤1000000) (h2:e.dep.aa.length≤1000000) (h3:e.dep.au.length≤1000000) :
  bK Tryz.prog 25 [.agg (aT e),db name,aw seed,ai h,ai leaf] (.bq [.agg (Qi e [⟨name,oV h leaf,oy seed h leaf W,ox seed h leaf⟩]),ai 0]):=by
 have xR:(af a8 e.aq).length=0:=by rw [hv];rfl
 have FO:=sj e.dep h1 h2 h3
 refine zO Tryz.func25 114<|zP 2 [{},yH [(1,yV (AV.bq [aw W,ai 0]))]] [.ae [13,12,11,10,5,0,1,2,3,4] [10,5]] [yI hw]<|zS<|zq<|zF 27<|a_<|zS<|zP 1 [yH [(2,{k:=e.aq.length})]] [.ae [33,32,31,27,13,12,11,10,5,0,1,2,3,4] [10,5]] [yB ((af a8 e.aq).length=e.aq.length*4) (by simp only [aF (f:=a8) (e:=4) (fun _=>rfl)])]<|zB 0 (zL (fun (i:Nat)=>(⟨[(32,ai (↑e.aq.length:Int)),(31,AV.sl 4 (af a8 e.aq)),(27,ao ((0:Int) != (0:Int))),(13,ai 0),(12,aw W),(10,AV.addr 10 0),(5,AV.addr 5 0),(0,AV.agg (aT e)),(1,db name),(2,aw seed),(3,ai h),(4,ai leaf),(33,ai i)],[(10,⟨1,false,true,[ai 0,cO,ai 0,AV.val (Value.string (ByteArray.mk #[])),ai 0,cO,ai 0,cO,cO,AV.nil,AV.nil,AV.nil,ai 0,cO,cO,cO,AV.nil]⟩),(5,⟨1,false,true,List.map (aD 10) (List.map (aD 5) (aT e))⟩)]⟩:AS)) (fun i=>(i=0)) (fun i=>0) (0) ?_ (zW [.ae [32,31,27,13,12,10,5,0,1,2,3,4,33] [10,5]]) ?_)
 ·rfl
 rintro i rfl
 refine zq<|zS<|bj 34 (decide ((↑(0:Nat):Int)<(↑e.aq.length:Int))) (by simp_all)<|zE 0<|a7<|aO<|bn<|ak<|zP 1 [yH [(4,{av:=some (AV.bq [AV.agg [ai (oV h leaf),AV.sl 1 (aj (oy seed h leaf W)),AV.own 1 (aj (ox seed h leaf))],ai (wj h leaf)]),b:=false})]] [.ae [13,16,34,32,31,27,12,10,5,0,1,2,3,4,33] [16,301048,10,5]] [yI (G8 seed h leaf W),yL 3 3]<|zS<|zQ 1 [yH [(1,yV (ao false))]] [yB (ao (wj h leaf != (0:Int))=ao false) (by simp [hs])]<|zF 52<|a_<|zq<|zS<|zB 2 (zL (fun (i:Nat)=>(⟨[(52,ao false),(13,ai (wj h leaf)),(16,AV.addr 16 0),(34,ao (decide ((↑(0:Nat):Int)<(↑e.aq.length:Int)))),(32,ai (↑e.aq.length:Int)),(31,AV.sl 4 (af a8 e.aq)),(27,ao ((0:Int) != (0:Int))),(12,aw W),(10,AV.addr 10 0),(5,AV.addr 5 0),(0,AV.agg (aT e)),(1,db name),(2,aw seed),(3,ai h),(4,ai leaf),(33,ai (↑(0:Nat):Int)),(17,ai i)],[(16,⟨1,false,true,[ai (oV h leaf),AV.sl 1 (aj (oy seed h leaf W)),AV.ref 301048]⟩),(10,⟨1,false,true,[ai 0,cO,ai 0,AV.val (Value.string (ByteArray.mk #[])),ai 0,cO,ai 0,cO,cO,AV.nil,AV.nil,AV.nil,ai 0,cO,cO,cO,AV.nil]⟩),(5,⟨1,false,true,List.map (aD 16) (List.map (aD 301048) (List.map (aD 10) (List.map (aD 5) (aT e))))⟩),(301048,⟨1,true,false,aj (ox seed h leaf)⟩)]⟩:AS)) (fun i=>(i=0)) (fun i=>0) (0) ?_ (zW [.ae [52,13,16,34,32,31,27,12,10,5,0,1,2,3,4,33,17] [16,10,5,301048]]) ?_)
 ·rfl
 rintro i rfl
 have w1:IntKind.i64.wrap ((e.aq.length:Int)+1)=(1:Nat):=by rw [hv];rfl
 refine zS<|zP 1 [yH ([(3,{k:=e.aq.length}),(14,{b:=false})]++yg [6,7,8,9,10,11,12,13])] [.ae [69,52,13,16,34,32,31,27,12,10,5,0,1,2,3,4,33,17] [16,10,5,301048]] ([yB ((af a8 e.aq).length=e.aq.length*4) (by simp only [aF (f:=a8) (e:=4) (fun _=>rfl)])]++yM 9 (yS (decide ((↑(0:Nat):Int)<(↑e.aq.length:Int))=false)))<|zF 69<|zE 2<|a7<|aO<|bn<|ak<|zP 1 [yH [(2,{k:=e.aq.length}),(3,yV (ai (↑(1:Nat):Int))),(4,{k:=0,m:=1})]] [.ae [18,69,52,13,16,34,32,31,27,12,10,5,0,1,2,3,4,33,17] [76,16,10,5,301048]] [yB ((af a8 e.aq).length=e.aq.length*4) (by simp only [aF (f:=a8) (e:=4) (fun _=>rfl)]),yI (yc w1),yR (0:Int),yR (↑(1:Nat):Int),yL 0 1,yL 72 281474976710656,yB (1≤maxLen) (by decide)]<|zS<|zQ 1 [yH [(2,{k:=e.aq.length})]] [yB ((af a8 e.aq).length=e.aq.length*4) (by simp only [aF (f:=a8) (e:=4) (fun _=>rfl)])]<|zB 4 (zL (fun (i:Nat)=>(⟨[(79,ai (↑e.aq.length:Int)),(78,AV.sl 4 (af a8 e.aq)),(69,ao false),(52,ao false),(13,ai (wj h leaf)),(16,AV.addr 16 0),(34,ao (decide ((↑(0:Nat):Int)<(↑e.aq.length:Int)))),(32,ai (↑e.aq.length:Int)),(31,AV.sl 4 (af a8 e.aq)),(27,ao ((0:Int) != (0:Int))),(12,aw W),(10,AV.addr 10 0),(5,AV.addr 5 0),(0,AV.agg (aT e)),(1,db name),(2,aw seed),(3,ai h),(4,ai leaf),(33,ai (↑(0:Nat):Int)),(17,ai (↑(0:Nat):Int)),(80,ai i),(18,AV.ref 76)],[(16,⟨1,false,true,[ai (oV h leaf),AV.sl 1 (aj (oy seed h leaf W)),AV.ref 301048]⟩),(10,⟨1,false,true,[ai 0,cO,ai 0,AV.val (Value.string (ByteArray.mk #[])),ai 0,cO,ai 0,cO,cO,AV.nil,AV.nil,AV.nil,ai 0,cO,cO,cO,AV.nil]⟩),(5,⟨1,false,true,List.map (aD 76) (List.map (aD 16) (List.map (aD 301048) (List.map (aD 10) (List.map (aD 5) (aT e)))))⟩),(301048,⟨1,true,false,aj (ox seed h leaf)⟩),(76,⟨4,true,false,af a8 []⟩)]⟩:AS)) (fun i=>(i=0)) (fun i=>0) (0) ?_ (zW [.ae [79,78,69,52,13,16,34,32,31,27,12,10,5,0,1,2,3,4,33,17,80,18] [16,10,5,301048,76]]) ?_)
 ·rfl
 rintro i rfl
 have hI:ga Tryz.prog 53 [.ref 5,ai 0,.sl 4 [db name,ai (oV h leaf),.sl 1 (aj (oy seed h leaf W)),.sl 1 (aj (ox seed h leaf))]] [(5,⟨4,true,false,af a8 []⟩)] (.own 4 (af a8 [⟨name,oV h leaf,oy seed h leaf W,ox seed h leaf⟩])) [(5,⟨4,true,false,af a8 []⟩)]:=AF [] ⟨name,oV h leaf,oy seed h leaf W,ox seed h leaf⟩ (by decide)
 refine zq<|zS<|bj 81 (decide ((↑(0:Nat):Int)<(↑e.aq.length:Int))) (by simp_all)<|zE 4<|a7<|aO<|bn<|ak<|zP 3 [yH [(6,{av:=some (AV.own 4 (af a8 [gk.mk name (oV h leaf) (oy seed h leaf W) (ox seed h leaf)])),ln:=[(76,5)],ho:=[(5,Row.mk 4 true false (af a8 []))]})],yH [(2,{av:=some (AV.agg [aw e.dep.bR,aw e.dep.peer,AV.own 1 (ag e.dep.box),AV.own 1 (af ay e.dep.aa),AV.own 1 (aj e.dep.au),ai e.dep.need,aw e.dep.target]),b:=false})],{}] [.ae [11,81,79,78,69,52,13,16,34,32,31,27,12,10,5,0,1,2,3,4,33,17,80] [10,5,500111,400111,300111,107,16]] [yI hI,yL 17 17,yI FO,yL 14 17,yL 17 17]<|zR (bV)
theorem ID (q:Nat) (hq:q<16):(q%2=0->q^^^1=q+1∧q=2*(q/2))∧(q%2≠0->q^^^1=q-1∧q=2*(q/2)+1):=by
 have key:∀q:Fin 16,(q.val%2=0->q.val^^^1=q.val+1∧q.val=2*(q.val/2))∧(q.val%2≠0->q.val^^^1=q.val-1∧q.val=2*(q.val/2)+1):=by decide +kernel
 exact key ⟨q,hq⟩
theorem Dx (seed:UInt64) (leaf n:Nat) (x:UInt64) (hx:x=fS seed 0 leaf) (SC:leaf<16) (k:Nat) (hk:k≤n):dv leaf (dm seed leaf n) x k=fS seed k (leaf/2^k):=by
 induction k with
 | zero=>simp [dv,hx]
 | succ k ih =>
  have ih:=ih ah
  have hg:(dm seed leaf n).getD k 0=fS seed k (leaf/2^k^^^1):=by simp [dm,show k<n by omega]
  have hd:leaf/2^(k+1)=leaf/2^k/2:=by rw [Nat.pow_succ,Nat.div_div_eq_div_mul]
  obtain ⟨h1,h2⟩:=ID (leaf/2^k) (Nat.lt_of_le_of_lt (Nat.div_le_self ..) SC)
  unfold dv
  rw [ih,hg,hd]
  generalize leaf/2^k=q at *
  by_cases hq:q%2=0
  ·obtain ⟨e1,e2⟩:=h1 hq
   rw [if_pos hq,e1]
   show gP _ _ _=gP _ _ _
   rw [←e2]
  ·obtain ⟨e1,e2⟩:=h2 hq
   rw [if_neg hq,e1]
   show gP _ _ _=gP _ _ _
   rw [show 2*(q/2)+1=q by omega,show 2*(q/2)=q-1 by omega]
theorem GR (seed:UInt64) (h leaf:Nat) (m:UInt64) (hh:h≤4) (hl:leaf<2^h):ku (h:Int) (fS seed h 0) m (leaf:Int) (bU seed leaf m 18) (dm seed leaf h)=0:=by
 have hb:¬i6 (h:Int) (leaf:Int):=by unfold i6 bA;rw [Int.toNat_natCast];omega
 have e:=Dx seed leaf h (combine leaf (cM leaf m (bU seed leaf m 18) 18)) (by rw [Ht];rfl) (Nat.lt_of_lt_of_le hl (Nat.pow_le_pow_right (by decide) hh)) h (Nat.le_refl h)
 rw [Nat.div_eq_of_lt hl] at e
 unfold ku
 rw [if_neg hb,if_neg (by rw [qM,qV];omega),Int.toNat_natCast,Int.toNat_natCast,if_pos e]
def Je:List (Nat×Nat):=[(9,1),(10,1),(11,1),(16,4)]
def NM:m0:=⟨0,0,[],[],[],0,0⟩
theorem Rh:d_ [109,48]=0:=Ee (by decide) (by decide)
theorem O_:d_ [109,49]=0:=Ee (by decide) (by decide)
theorem O5 (s:UInt64):JX s 4=fS s 4 0:=if_neg (show ¬bA 4 by decide)
theorem Rm:dK 0=⟨[109,48],4,fS 300 4 0,0⟩:=by
 unfold dK
 rw [O5,show u8 (48+((0:Nat):Int))=48 by decide,show (300:UInt64)+u64 ((0:Nat):Int)=300 by decide]
theorem Rl:dK 1=⟨[109,49],4,fS 301 4 0,0⟩:=by
 unfold dK
 rw [O5,show u8 (48+((1:Nat):Int))=49 by decide,show (300:UInt64)+u64 ((1:Nat):Int)=301 by decide]
def gG (hd P:UInt64) (V:List gk):eF:=⟨1,hd,1,[109,49],4,P,0,NM,0,0,V⟩
def iX (W:UInt64) (V:List gk):eF:=⟨2,W,2,[109,49],0,0,0,NM,0,0,V⟩
def Qp (hd P:UInt64):List AV:=[ai 1,aw hd,ai 1,db [109,49],ai 4,aw P,ai 0,aw 0,aw 0,.nil,.nil,.nil,ai 0,aw 0,aw 0,aw 0,.nil]
def SN (W:UInt64):List AV:=[ai 2,aw W,ai 2,db [109,49],ai 0,aw 0,ai 0,aw 0,aw 0,.nil,.nil,.nil,ai 0,aw 0,aw 0,aw 0,.nil]
theorem Mh:y8 NM:=⟨Nat.zero_le _,Nat.zero_le _,Nat.zero_le _,fun i hi=>absurd hi (Nat.not_lt_zero i)⟩
theorem De (hd P:UInt64) (V:List gk):mN (gG hd P V):=⟨Nat.le_of_ble_eq_true rfl,Mh⟩
theorem Jg (W:UInt64) (V:List gk):mN (iX W V):=⟨Nat.le_of_ble_eq_true rfl,Mh⟩
theorem Df (hd P:UInt64) (V:List gk):eu (gG hd P V)=0:=by
 have hs:fe (gG hd P V):=⟨.inl rfl,.inl rfl,.inr rfl,.inr ⟨rfl,rfl,rfl,rfl,rfl,rfl,rfl⟩,.inr ⟨rfl,rfl⟩,rfl⟩
 rw [IK (show (1:Int)≤1 by omega) (show (1:Int)≤5 by omega) hs (show (1:Int)≤1 by omega) (show (1:Int)≤2147483647 by omega)]
 unfold eY
 rw [if_pos (show (gG hd P V).kind=1 from rfl),if_neg (fun q=>q O_)]
 show eU 4=0
 decide
theorem Dd (W:UInt64) (V:List gk):eu (iX W V)=0:=by
 have hs:fe (iX W V):=⟨.inr (.inl rfl),.inr ⟨rfl,rfl⟩,.inr rfl,.inr ⟨rfl,rfl,rfl,rfl,rfl,rfl,rfl⟩,.inr ⟨rfl,rfl⟩,rfl⟩
 rw [IK (show (1:Int)≤2 by omega) (show (2:Int)≤5 by omega) hs (show (1:Int)≤2 by omega) (show (2:Int)≤2147483647 by omega)]
 unfold eY
 rw [if_neg (show ¬(iX W V).kind=1 from (show ¬(2:Int)=1 by omega)),if_pos (show (iX W V).kind=2 from rfl)]
 exact O_
theorem xI (m:Mem) (l:List Mem) {h:List UInt8} (e:m.name=h):dF (m::l) h=(0:Nat):=xJ (i:=0) (Nat.zero_lt_succ _) ah e
theorem HO (m:Mem) {h:List UInt8} (e:m.name≠h):dF [m] h= -1:=xH fun j hj=>by
 have:j=0:=by simp at hj;omega
 subst this;exact e
theorem zm (g:gK) (W:UInt64) (v:gk) (k:Nat) (h1:dF g.al v.name=k) (h3:ku (g.al.getD k default).h (g.al.getD k default).r W v.leaf v.ct v.path=0) (h6:(g.al.getD k default).used&&&gA v.leaf=0):fv g W [v]=if (1:Int)<g.bt then 41 else 0:=by
 have h0:jV g W [v] 0=0:=by
  rw [xa (l:=[v]) (i:=0) (fun q=>absurd q.1 (Nat.lt_irrefl 0)) h1 h3,if_neg (fun q=>q h6)]
 have hf:ff (jV g W [v]) [v].length=0:=h0
 unfold fv
 rw [if_neg (fun q=>q hf)];rfl
theorem Bu:bK Tryz.prog 12 [] (ao true):=by
 have L4:=gr 0 ah
 have FI:=gr 1 ah
 rw [Rm] at L4
 rw [Rl] at FI
 have Es (l:Nat) (hl:l<16) (m:UInt64):=GR 300 4 l m ah ah
 generalize fS 300 4 0=P0 at *
 generalize fS 301 4 0=P1 at *
 have AP:eU 4=0:=by decide
 have hn:=IL ⟨[109,48],4,P0,0⟩ (Nat.le_of_ble_eq_true rfl)
 have ne:iF ⟨[109,48],4,P0,0⟩=0:=by unfold iF;rw [if_neg (by simp [Rh]),if_neg (by simp [AP]),if_neg (by simp)]
 rw [ne,show dd ⟨[109,48],4,P0,0⟩=⟨0,hash 16 (di 4 P0++ [109,48]),1,[⟨[109,48],4,P0,0⟩],[]⟩ from if_pos ne] at hn
 generalize hash 16 (di 4 P0++ [109,48])=hd at hn
 have Pk (V:List gk):=tz _ (De hd P1 V)
 simp only [if_pos (Df hd P1 _),Df] at Pk
 have qx (V:List gk):de (gG hd P1 V)=de (gG hd P1 []):=rfl
 have aX (V:List gk):=JK (g:=⟨0,hd,1,[⟨[109,48],4,P0,0⟩],[]⟩) (Df hd P1 V) rfl rfl
 simp only [qx] at Pk aX
 obtain ⟨W,hW⟩:∃W,W=de (gG hd P1 []):=⟨_,rfl⟩
 rw [←hW] at Pk aX
 have Pj (V:List gk):=tz _ (Jg W V)
 simp only [if_pos (Dd W _),Dd] at Pj
 have qz (V:List gk):de (iX W V)=de (iX W []):=rfl
 have aZ (V:List gk):=JK (g:=⟨1,W,2,[⟨[109,48],4,P0,1⟩,⟨[109,49],4,P1,0⟩],[]⟩) (Dd W V) rfl rfl
 simp only [qz] at Pj aZ
 obtain ⟨W2,Vj⟩:∃W2,W2=de (iX W []):=⟨_,rfl⟩
 rw [←Vj] at Pj aZ
 have b0:¬i6 4 0:=by decide
 have b1:¬i6 4 1:=by decide
 have hv:=vR (gG hd P1 []) W [109,48] 300 4 0 rfl (if_neg b0) (Pk []) (Nat.le_of_ble_eq_true rfl) (Nat.le_of_ble_eq_true rfl) (Nat.le_of_ble_eq_true rfl)
 have MY:=vR (iX W []) W2 [109,48] 300 4 1 rfl (if_neg b1) (Pj []) (Nat.le_of_ble_eq_true rfl) (Nat.le_of_ble_eq_true rfl) (Nat.le_of_ble_eq_true rfl)
 rw [show oV 4 0=0 from if_neg b0,show oy 300 4 0 W=bU 300 0 W 18 from if_neg b0,show ox 300 4 0=dm 300 0 4 from if_neg b0] at hv
 rw [show oV 4 1=1 from if_neg b1,show oy 300 4 1 W2=bU 300 1 W2 18 from if_neg b1,show ox 300 4 1=dm 300 1 4 from if_neg b1] at MY
 have lH:=Es 0 ah W
 have gU:=Es 1 ah W2
 clear Es
 have q0:bU 300 ((0:Nat):Int) W 18=bU 300 0 W 18:=rfl
 have q1:bU 300 ((1:Nat):Int) W2 18=bU 300 1 W2 18:=rfl
 rw [q0] at lH
 rw [q1] at gU
 generalize bU 300 0 W 18=C0 at *
 generalize bU 300 1 W2 18=C1 at *
 generalize dm 300 0 4=A0 at *
 generalize dm 300 1 4=A1 at *
 have V0:=zm ⟨0,hd,1,[⟨[109,48],4,P0,0⟩],[]⟩ W ⟨[109,48],0,C0,A0⟩ 0 (xI _ _ rfl) lH (show (0:UInt64)&&&((1:UInt64)<<<UInt64.ofNat (Int.toNat 0))=0 by decide)
 have V1:=zm ⟨1,W,2,[⟨[109,48],4,P0,1⟩,⟨[109,49],4,P1,0⟩],[]⟩ W2 ⟨[109,48],1,C1,A1⟩ 0 (xI _ _ rfl) gU (show (1:UInt64)&&&((1:UInt64)<<<UInt64.ofNat (Int.toNat 1))=0 by decide)
 have Q4:fI ⟨0,hd,1,[⟨[109,48],4,P0,0⟩],[]⟩ (gG hd P1 [⟨[109,48],0,C0,A0⟩])=0:=by
  rw [aX,show fv _ W (gG hd P1 [⟨[109,48],0,C0,A0⟩]).aq=0 from V0.trans (if_neg (show ¬(1:Int)<1 by omega)),if_neg (fun q=>q rfl)]
  unfold gI
  rw [if_pos (show (gG hd P1 _).kind=1 from rfl),show dF [⟨[109,48],4,P0,0⟩] (gG hd P1 [⟨[109,48],0,C0,A0⟩]).name= -1 from HO _ (show ([109,48]:List UInt8)≠ [109,49] by decide)]
  rfl
 have SW:fI ⟨0,hd,1,[⟨[109,48],4,P0,0⟩],[]⟩ (gG hd P1 [])=41:=by rw [aX];rfl
 have SV:fI ⟨1,W,2,[⟨[109,48],4,P0,1⟩,⟨[109,49],4,P1,0⟩],[]⟩ (iX W [⟨[109,48],1,C1,A1⟩])=41:=by
  rw [aZ,show fv _ W2 (iX W [⟨[109,48],1,C1,A1⟩]).aq=41 from V1.trans (if_pos (show (1:Int)<2 by omega)),if_pos ah]
 have eA:iq ⟨0,hd,1,[⟨[109,48],4,P0,0⟩],[]⟩ (gG hd P1 [⟨[109,48],0,C0,A0⟩])=⟨1,W,2,[⟨[109,48],4,P0,1⟩,⟨[109,49],4,P1,0⟩],[]⟩:=by
  have hc:gI ⟨0,hd,1,[⟨[109,48],4,P0,0⟩],[]⟩ (gG hd P1 [⟨[109,48],0,C0,A0⟩])=0:=(wW Q4).2.2.2.2
  rw [EU Q4,qx,←hW]
  unfold cQ
  rw [if_neg (fun q=>q hc),if_pos (show (gG hd P1 _).kind=1 from rfl)]
  have hu:pH [⟨[109,48],4,P0,0⟩,⟨[109,49],4,P1,0⟩] ⟨[109,48],0,C0,A0⟩= [⟨[109,48],4,P0,1⟩,⟨[109,49],4,P1,0⟩]:=by
   have hm:dF [⟨[109,48],4,P0,0⟩,⟨[109,49],4,P1,0⟩] (⟨[109,48],0,C0,A0⟩:gk).name=(0:Nat):=xI _ _ rfl
   unfold pH
   rw [ui hm,hm,if_neg ah]
   show [(⟨[109,48],4,P0,(0:UInt64)|||gA 0⟩:Mem),⟨[109,49],4,P1,0⟩]=_
   rw [show (0:UInt64)|||gA 0=1 by decide]
  show (⟨1,W,if 2*(1:Int)≤((1:Nat):Int)+1 then 1+1 else 1,pH [⟨[109,48],4,P0,0⟩,⟨[109,49],4,P1,0⟩] ⟨[109,48],0,C0,A0⟩,[]⟩:gK)=_
  rw [if_pos ah,hu];rfl
 have hA:=ou ⟨0,hd,1,[⟨[109,48],4,P0,0⟩],[]⟩ (gG hd P1 [⟨[109,48],0,C0,A0⟩]) ⟨Int.le_refl 0,(show (0:Int)≤2147483647 by omega),(ah:1≤8),(show (0:Int)≤1 by omega),(show (1:Int)≤8 by omega),Nat.zero_le _⟩ (De _ _ _) (ah:1≤1000000)
 rw [Q4,eA] at hA
 have hQ:=ou ⟨0,hd,1,[⟨[109,48],4,P0,0⟩],[]⟩ (gG hd P1 []) ⟨Int.le_refl 0,(show (0:Int)≤2147483647 by omega),(ah:1≤8),(show (0:Int)≤1 by omega),(show (1:Int)≤8 by omega),Nat.zero_le _⟩ (De _ _ _) (Nat.zero_le _)
 rw [SW,ti (by rw [SW];omega)] at hQ
 have TT:=ou ⟨1,W,2,[⟨[109,48],4,P0,1⟩,⟨[109,49],4,P1,0⟩],[]⟩ (iX W [⟨[109,48],1,C1,A1⟩]) ⟨(show (0:Int)≤1 by omega),(show (1:Int)≤2147483647 by omega),(ah:2≤8),(show (0:Int)≤2 by omega),(show (2:Int)≤8 by omega),Nat.zero_le _⟩ (Jg _ _) (ah:1≤1000000)
 rw [SV,ti (by rw [SV];omega)] at TT
 have H8:bK Tryz.prog 25 [.agg (Qp hd P1),db [109,48],aw 300,ai 4,ai 0] _:=bK.HH Je hv
 have RA:bK Tryz.prog 25 [.agg (SN W),db [109,48],aw 300,ai 4,ai 1] (.bq [.agg (Qi (iX W [⟨[109,48],1,C1,A1⟩]) [⟨[109,48],1,C1,A1⟩]),ai 0]):=bK.HH Je MY
 have Vl:bK Tryz.prog 30 [.agg (bB ⟨0,hd,1,[⟨[109,48],4,P0,0⟩],[]⟩),.agg (Qp hd P1)] _:=bK.HH Je hQ
 clear V0 V1 lH gU eA Pk Pj hv MY hQ q0 q1 ne AP aX aZ Q4 SW SV qx qz
 refine zO Tryz.func12 100<|zP 2 [{},yH [(0,yV (AV.agg [AV.val (Value.string (ByteArray.mk #[109,48])),ai 4,aw P0,aw 0])),(1,{av:=some (AV.bq [AV.agg [ai 0,aw hd,ai 1,AV.own 4 (af aH [Mem.mk [109,48] (4:Int) P0 0]),AV.own 7 (af bc [])],ai 0]),b:=false})]] [.ae [2,1,0] [1,501016,401016]] [yI L4,yI hn,yL 5 5]<|zS<|y9 6 [5] [(2,yV (AV.agg [AV.val (Value.string (ByteArray.mk #[109,49])),ai 4,aw P1,aw 0]))] [yI FI,yR (AV.addr 1 1),yR (aw hd),yR (AV.agg [AV.val (Value.string (ByteArray.mk #[109,49])),ai 4,aw P1,aw 0]),yI FI,yR (AV.agg [ai 4,aw P1]),yR (AV.agg [ai 1,aw hd,ai 1,AV.val (Value.string (ByteArray.mk #[109,49])),ai 4,aw P1,ai 0,AV.val (Value.int .u64 0),AV.val (Value.int .u64 0),AV.nil,AV.nil,AV.nil,ai 0,AV.val (Value.int .u64 0),AV.val (Value.int .u64 0),AV.val (Value.int .u64 0),AV.nil]),yL 17 17]<|ak<|bf.sv [.ae [3,2,1,0] [3,1,501016,401016]] bh<|zP 6 [yH [(1,{av:=some (AV.bq [AV.agg [ai ((gG hd P1 []).aB),aw ((gG hd P1 []).prev),ai ((gG hd P1 []).kind),db (gG hd P1 []).name,ai ((gG hd P1 []).kh),aw ((gG hd P1 []).kr),ai ((gG hd P1 []).bt),aw ((gG hd P1 []).dep.bR),aw ((gG hd P1 []).dep.peer),AV.own 1 (ag (gG hd P1 []).dep.box),AV.own 1 (af ay (gG hd P1 []).dep.aa),AV.own 1 (aj (gG hd P1 []).dep.au),ai ((gG hd P1 []).dep.need),aw ((gG hd P1 []).dep.target),aw ((gG hd P1 []).bR),aw ((gG hd P1 []).target),AV.own 4 (af a8 [gk.mk [109,48] (0:Int) C0 A0])],ai 0]),b:=false})],yH [(2,{av:=some (AV.bq [AV.agg [ai 1,aw W,ai 2,AV.sl 4 (af aH [Mem.mk [109,48] (4:Int) P0 1,Mem.mk [109,49] (4:Int) P1 0]),AV.sl 7 (af bc [])],ai 0]),b:=false})],yH [(2,{av:=some (AV.bq [AV.agg [ai 0,aw hd,ai 1,AV.sl 4 (af aH [Mem.mk [109,48] (4:Int) P0 0]),AV.sl 7 (af bc [])],ai 41]),b:=false})],yH [(3,{av:=some (AV.bq [AV.agg [ai ((iX W [gk.mk [109,48] (1:Int) C1 A1]).aB),aw ((iX W [gk.mk [109,48] (1:Int) C1 A1]).prev),ai ((iX W [gk.mk [109,48] (1:Int) C1 A1]).kind),db (iX W [gk.mk [109,48] (1:Int) C1 A1]).name,ai ((iX W [gk.mk [109,48] (1:Int) C1 A1]).kh),aw ((iX W [gk.mk [109,48] (1:Int) C1 A1]).kr),ai ((iX W [gk.mk [109,48] (1:Int) C1 A1]).bt),aw ((iX W [gk.mk [109,48] (1:Int) C1 A1]).dep.bR),aw ((iX W [gk.mk [109,48] (1:Int) C1 A1]).dep.peer),AV.own 1 (ag (iX W [gk.mk [109,48] (1:Int) C1 A1]).dep.box),AV.own 1 (af ay (iX W [gk.mk [109,48] (1:Int) C1 A1]).dep.aa),AV.own 1 (aj (iX W [gk.mk [109,48] (1:Int) C1 A1]).dep.au),ai ((iX W [gk.mk [109,48] (1:Int) C1 A1]).dep.need),aw ((iX W [gk.mk [109,48] (1:Int) C1 A1]).dep.target),aw ((iX W [gk.mk [109,48] (1:Int) C1 A1]).bR),aw ((iX W [gk.mk [109,48] (1:Int) C1 A1]).target),AV.own 4 (af a8 [gk.mk [109,48] (1:Int) C1 A1])],ai 0]),b:=false})],yH [(2,{av:=some (AV.bq [AV.agg [ai 1,aw W,ai 2,AV.sl 4 (af aH [Mem.mk [109,48] (4:Int) P0 1,Mem.mk [109,49] (4:Int) P1 0]),AV.sl 7 (af bc [])],ai 41]),b:=false})],yH [(30,{k:=2}),(36,{k:=0}),(39,yV (ao (1 == 1)))]] [.ae [0,13,11,10,9,7,6,5,4,3,2,1] [10,6,4,3,1]] ([yI H8,yL 17 17,yI hA,yL 5 5,yI Vl,yL 5 5,yI RA,yL 17 17,yI TT,yL 5 5]++yM 22 (yR true)++ [yR (2*4)]++yM 5 (yR true)++ [yR (0:Int),yO (0<8)]++yM 3 (yR true)++ [yR (ao (1 == 1))]++yM 5 (yR true))<|zR (bV)
end Go.Proofs.YtjgbhhnghedgdaaGreatDoor
