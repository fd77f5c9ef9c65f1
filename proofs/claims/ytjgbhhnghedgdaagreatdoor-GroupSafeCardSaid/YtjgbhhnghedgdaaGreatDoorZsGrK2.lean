import Derived.Test.YtjgbhhnghedgdaaGreatDoorZsGrK1
set_option linter.all false
namespace Go.Proofs.YtjgbhhnghedgdaaGreatDoor
open Go.RowKit
set_option maxRecDepth 100000
set_option maxHeartbeats 4000000
theorem Az (g:fL) (e:eK) (hG:oZ g) (h1:1≤e.kind) (h5:e.kind≤5) (ht:e.kind=3->1≤e.bB∧e.bB≤8) (hB:yh e.dep):bK Tryz.prog 59 [.agg (bW g),.agg (bk e)] (.br [.agg (bW (dt g e)),ai (j9 g e)]):=by
 by_cases k1:e.kind=1
 ·have ce:j9 g e=A4 g e:=if_pos k1
  have cg:dt g e=if A4 g e=0 then FJ g e else g:=by
   unfold dt
   rw [ce]
   by_cases q:A4 g e=0
   ·rw [if_neg ah,if_pos k1,if_pos q];rfl
   ·rw [if_pos q,if_neg q]
  have hr:=Ic g e hG
  rw [←cg,←ce] at hr
  generalize dt g e=G at *
  generalize j9 g e=E at *
  refine zO Tryz.func59 80<|zq<|zS<|zq<|zB 0<|zP 1 [{}] [.aa [10,9,5,4,3,2,0,1] [4,3,2]] []<|dQ 10 (e.kind == (1:Int)) fX<|zP 1 [yH [(2,{av:=some (AV.br [AV.agg (bW G),ai E]),b:=false})]] [.aa [5,10,9,4,3,2,0,1] [4,3,2]] [yI hr,yL 5 5]<|zR<|bl<|aW (cE)
 by_cases k2:e.kind=2
 ·have ce:j9 g e=zd g e:=by unfold j9;rw [if_neg k1,if_pos k2];rfl
  have cg:dt g e=if zd g e=0 then {g with al:=mJ g.al (eS g.al e.name).toNat} else g:=by
   unfold dt
   rw [ce]
   by_cases q:zd g e=0
   ·rw [if_neg ah,if_neg k1,if_pos k2,if_pos q]
   ·rw [if_pos q,if_neg q]
  have hr:=Ao g e hG
  rw [←cg,←ce] at hr
  generalize dt g e=G at *
  generalize j9 g e=E at *
  refine zO Tryz.func59 80<|zq<|zS<|zq<|zB 0<|zP 1 [{}] [.aa [10,9,5,4,3,2,0,1] [4,3,2]] []<|bo 10 (e.kind == (1:Int)) bR<|zq<|dQ 17 (e.kind == (2:Int)) fX<|zP 1 [yH [(2,{av:=some (AV.br [AV.agg (bW G),ai E]),b:=false})]] [.aa [5,17,10,9,4,3,2,0,1] [4,3,2]] [yI hr,yL 5 5]<|zR<|bl<|aW (cE)
 by_cases k4:e.kind=4
 ·have ce:j9 g e=wO g e:=by unfold j9;rw [if_neg k1,if_neg k2,if_neg ah,if_pos k4];rfl
  have cg:dt g e=if wO g e=0 then {g with aF:=g.aF++ [e.dep]} else g:=by
   unfold dt
   rw [ce]
   by_cases q:wO g e=0
   ·rw [if_neg ah,if_neg k1,if_neg k2,if_neg ah,if_pos k4,if_pos q]
   ·rw [if_pos q,if_neg q]
  have hr:=B4 g e hG hB
  rw [←cg,←ce] at hr
  generalize dt g e=G at *
  generalize j9 g e=E at *
  refine zO Tryz.func59 80<|zq<|zS<|zq<|zB 0<|zP 1 [{}] [.aa [10,9,5,4,3,2,0,1] [4,3,2]] []<|bo 10 (e.kind == (1:Int)) bR<|zq<|bo 17 (e.kind == (2:Int)) bR<|zP 1 [{}] [.aa [24,17,10,9,5,4,3,2,0,1] [4,3,2]] []<|bo 24 (e.kind == (3:Int)) bR<|zq<|dQ 44 (e.kind == (4:Int)) fX<|zP 1 [yH [(2,{av:=some (AV.br [AV.agg (bW G),ai E]),b:=false})]] [.aa [5,44,24,17,10,9,4,3,2,0,1] [4,3,2]] [yI hr,yL 5 5]<|zR<|bl<|aW (cE)
 obtain ⟨g1,g2,g3,g4,g5,g6⟩:=hG
 have nj:(af aP g.al).length=g.al.length*4:=aG (e:=4) (fun _=>rfl) ..
 have sK:(af bg g.aF).length=g.aF.length*7:=aG (e:=7) (fun _=>rfl) ..
 by_cases k3:e.kind=3
 ·obtain ⟨t1,t2⟩:=ht k3
  have ce:j9 g e=if (g.al.length:Int)<e.bB∨2*e.bB≤g.al.length then 41 else 0:=by unfold j9;rw [if_neg k1,if_neg k2,if_pos k3]
  by_cases c1:(g.al.length:Int)<e.bB
  ·rw [if_pos (.inl c1)] at ce
   have cg:dt g e=g:=if_pos ah
   rw [ce,cg]
   refine zO Tryz.func59 80<|zq<|zS<|zq<|zB 0<|zP 1 [{}] [.aa [10,9,5,4,3,2,0,1] [4,3,2]] []<|bo 10 (e.kind == (1:Int)) bR<|zq<|bo 17 (e.kind == (2:Int)) bR<|zP 1 [{}] [.aa [24,17,10,9,5,4,3,2,0,1] [4,3,2]] []<|dQ 24 (e.kind == (3:Int)) fX<|zP 1 [yH [(2,{k:=g.al.length})]] [.aa [6,24,17,10,9,5,4,3,2,0,1] [4,3,2]] [yI nj]<|zS<|zP 1 [{}] [.aa [39,6,24,17,10,9,5,4,3,2,0,1] [4,3,2]] (yM 6 (yT (e.bB>(↑g.al.length:Int))))<|zT 39<|zP 1 [{}] [.aa [5,39,6,24,17,10,9,4,3,2,0,1] [4,3,2]] [yL 5 5]<|dW<|bl<|aW (cE)
  by_cases c2:2*e.bB≤g.al.length
  ·rw [if_pos (.inr c2)] at ce
   have cg:dt g e=g:=if_pos ah
   rw [ce,cg]
   refine zO Tryz.func59 80<|zq<|zS<|zq<|zB 0<|zP 1 [{}] [.aa [10,9,5,4,3,2,0,1] [4,3,2]] []<|bo 10 (e.kind == (1:Int)) bR<|zq<|bo 17 (e.kind == (2:Int)) bR<|zP 1 [{}] [.aa [24,17,10,9,5,4,3,2,0,1] [4,3,2]] []<|dQ 24 (e.kind == (3:Int)) fX<|zP 1 [yH [(2,{k:=g.al.length})]] [.aa [6,24,17,10,9,5,4,3,2,0,1] [4,3,2]] [yI nj]<|zS<|zP 1 [yH ([(7,{av:=some (ai ((2:Int)*e.bB)),g:=false}),(10,{b:=false})]++yg [5,6,8,9])] [.aa [39,6,24,17,10,9,5,4,3,2,0,1] [4,3,2]] (yM 3 (yF (e.bB>(↑g.al.length:Int)))++ [yN ((2:Int)*e.bB)]++yM 3 (yF (e.bB>(↑g.al.length:Int))))<|jO 39 ((2:Int)*e.bB≤(↑g.al.length:Int))<|zP 1 [{}] [.aa [5,39,6,24,17,10,9,4,3,2,0,1] [4,3,2]] [yL 5 5]<|dW<|bl<|aW (cE)
  rw [if_neg ah] at ce
  have cg:dt g e=⟨g.aC,g.head,e.bB,g.al,g.aF⟩:=by unfold dt;rw [if_neg ah,if_neg k1,if_neg k2,if_pos k3]
  rw [ce,cg]
  refine zO Tryz.func59 80<|zq<|zS<|zq<|zB 0<|zP 1 [{}] [.aa [10,9,5,4,3,2,0,1] [4,3,2]] []<|bo 10 (e.kind == (1:Int)) bR<|zq<|bo 17 (e.kind == (2:Int)) bR<|zP 1 [{}] [.aa [24,17,10,9,5,4,3,2,0,1] [4,3,2]] []<|dQ 24 (e.kind == (3:Int)) fX<|zP 1 [yH [(2,{k:=g.al.length})]] [.aa [6,24,17,10,9,5,4,3,2,0,1] [4,3,2]] [yI nj]<|zS<|zP 1 [yH ([(7,{av:=some (ai ((2:Int)*e.bB)),g:=false}),(10,{b:=false})]++yg [5,6,8,9])] [.aa [39,6,24,17,10,9,5,4,3,2,0,1] [4,3,2]] (yM 3 (yF (e.bB>(↑g.al.length:Int)))++ [yN ((2:Int)*e.bB)]++yM 3 (yF (e.bB>(↑g.al.length:Int))))<|dK 39 ((2:Int)*e.bB≤(↑g.al.length:Int))<|a8<|zX {} [yL 3 5]<|aM<|ak<|zP 1 [{}] [.aa [5,41,39,6,24,17,10,9,4,3,2,0,1] [4,2,3]] [yL 5 5]<|zR (cE)
 have k5:e.kind=5:=ah
 have Js:=Ay g e.cm ah
 have gw:=CJ g.aF ah
 have ce:j9 g e=if uB g.aF e.cm=g.aF.length then 11 else if (g.aF.getD (uB g.aF e.cm) default).target≠0 then 18 else 0:=by unfold j9;rw [if_neg k1,if_neg k2,if_neg k3,if_neg k4]
 rcases wx g.aF e.cm with ⟨hf,hk⟩|⟨k,hf,hk,iw⟩
 ·rw [if_pos hf] at ce
  have cg:dt g e=g:=if_pos ah
  rw [ce,cg]
  rw [hk] at Js
  refine zO Tryz.func59 80<|zq<|zS<|zq<|zB 0<|zP 1 [{}] [.aa [10,9,5,4,3,2,0,1] [4,3,2]] []<|bo 10 (e.kind == (1:Int)) bR<|zq<|bo 17 (e.kind == (2:Int)) bR<|zP 1 [{}] [.aa [24,17,10,9,5,4,3,2,0,1] [4,3,2]] []<|bo 24 (e.kind == (3:Int)) bR<|zq<|bo 44 (e.kind == (4:Int)) bR<|zP 1 [{}] [.aa [51,44,24,17,10,9,5,4,3,2,0,1] [4,3,2]] []<|dQ 51 (e.kind == (5:Int)) fX<|zP 1 [yH [(3,yV (ai (-1:Int)))]] [.aa [7,51,44,24,17,10,9,5,4,3,2,0,1] [4,3,2]] [yI Js]<|zS<|zq<|jO 58 ((-1:Int)<0)<|zP 1 [{}] [.aa [5,58,7,51,44,24,17,10,9,4,3,2,0,1] [4,3,2]] [yL 5 5]<|dW<|bl<|aW (cE)
 rw [if_neg ah,hf] at ce
 rw [hk] at Js
 have ix:=Ed iw
 by_cases c1:(g.aF.getD k default).target=0
 case neg =>
  rw [if_pos c1] at ce
  have cg:dt g e=g:=if_pos ah
  rw [ce,cg]
  refine zO Tryz.func59 80<|zq<|zS<|zq<|zB 0<|zP 1 [{}] [.aa [10,9,5,4,3,2,0,1] [4,3,2]] []<|bo 10 (e.kind == (1:Int)) bR<|zq<|bo 17 (e.kind == (2:Int)) bR<|zP 1 [{}] [.aa [24,17,10,9,5,4,3,2,0,1] [4,3,2]] []<|bo 24 (e.kind == (3:Int)) bR<|zq<|bo 44 (e.kind == (4:Int)) bR<|zP 1 [{}] [.aa [51,44,24,17,10,9,5,4,3,2,0,1] [4,3,2]] []<|dQ 51 (e.kind == (5:Int)) fX<|zP 1 [yH [(3,yV (ai ↑k))]] [.aa [7,51,44,24,17,10,9,5,4,3,2,0,1] [4,3,2]] [yI Js]<|zS<|zq<|dK 58 ((↑k:Int)<0)<|a8<|zS<|zP 1 [yH [(3,{k:=k}),(5,yV (aw ((g.aF.getD k default).target))),(6,yV (ao ((g.aF.getD k default).target != 0)))]] [.aa [66,58,7,51,44,24,17,10,9,5,4,3,2,0,1] [4,3,2]] [yR (↑k:Int),yO (k*7<(af bg g.aF).length),yA bg g.aF k 6,yI (cU ((g.aF.getD k default).target) 0)]<|dQ 66 ((g.aF.getD k default).target != 0) (by simp_all)<|zP 1 [{}] [.aa [5,66,58,7,51,44,24,17,10,9,4,3,2,0,1] [4,3,2]] [yL 5 5]<|dW<|bl<|aW (cE)
 rw [if_neg (fun q=>q c1)] at ce
 have cg:dt g e=⟨g.aC,g.head,g.bB,g.al,qv g.aF k e.target⟩:=by unfold dt;rw [if_neg ah,if_neg k1,if_neg k2,if_neg k3,if_neg k4,hf]
 rw [ce,cg]
 have s1:=IM iw e.target
 refine zO Tryz.func59 80<|zq<|zS<|zq<|zB 0<|zP 1 [{}] [.aa [10,9,5,4,3,2,0,1] [4,3,2]] []<|bo 10 (e.kind == (1:Int)) bR<|zq<|bo 17 (e.kind == (2:Int)) bR<|zP 1 [{}] [.aa [24,17,10,9,5,4,3,2,0,1] [4,3,2]] []<|bo 24 (e.kind == (3:Int)) bR<|zq<|bo 44 (e.kind == (4:Int)) bR<|zP 1 [{}] [.aa [51,44,24,17,10,9,5,4,3,2,0,1] [4,3,2]] []<|dQ 51 (e.kind == (5:Int)) fX<|zP 1 [yH [(3,yV (ai ↑k))]] [.aa [7,51,44,24,17,10,9,5,4,3,2,0,1] [4,3,2]] [yI Js]<|zS<|zq<|dK 58 ((↑k:Int)<0)<|a8<|zS<|zP 1 [yH [(3,{k:=k}),(5,yV (aw ((g.aF.getD k default).target))),(6,yV (ao false))]] [.aa [66,58,7,51,44,24,17,10,9,5,4,3,2,0,1] [4,3,2]] [yR (↑k:Int),yO (k*7<(af bg g.aF).length),yA bg g.aF k 6,yB (ao (wv (g.aF.getD k default).target != (0:Int))=ao false) (by rw [c1];rfl)]<|zF 66<|a8<|zP 1 [yH [(2,{av:=some (AV.own 7 (af bg g.aF)),b:=false})]] [.aa [66,58,7,51,44,24,17,10,9,5,4,3,2,0,1] [2,70,4,3]] [yI gw,yL 5 5]<|zX (yH [(5,{k:=k}),(7,yV (AV.arr (af bg (qv g.aF k e.target))))]) [yR (↑k:Int),yO (k*7<(af bg g.aF).length),yI s1,yO (k*7+6+1≤(af bg g.aF).length)]<|aM<|ak<|zP 1 [{}] [.aa [5,66,58,7,51,44,24,17,10,9,4,3,2,0,1] [4,70,2,3]] [yL 5 5]<|a7.su [.iR 70] bH<|zR (cE)
theorem nT (g:fL) (e:eK) (hG:oZ g) (hB:ob e) (hv:e.ar.length≤1000000):bK Tryz.prog 30 [.agg (bW g),.agg (bk e)] (.br [.agg (bW (jL g e)),ai (gG g e)]):=by
 have E1:(af bp e.ar).length=e.ar.length*4:=aG (e:=4) (fun _=>rfl) ..
 have Lu:=ta e hB
 by_cases cb:eY e=0
 case neg =>
  have ce:gG g e=eY e:=if_pos cb
  have cg:jL g e=g:=if_pos (by rw [ce];exact cb)
  rw [if_neg cb] at Lu
  rw [ce,cg]
  refine zO Tryz.func30 92<|zP 2 [{},yH [(1,yV (AV.br [aw 0,ai (eY e)]))]] [.aa [7,6,5,4,3,2,0,1] [4,3,2]] [yI Lu]<|zS<|zQ 1 [yH [(1,yV (ao true))]] [yB (ao (eY e != (0:Int))=ao true) (by simp [cb])]<|zT 19<|zP 1 [{}] [.aa [5,19,7,6,4,3,2,0,1] [4,3,2]] [yL 5 5]<|dW (cE)
 rw [if_pos cb,cb] at Lu
 obtain ⟨k1,k5,Su,TG,vo,Uf⟩:=uw cb
 by_cases c1:e.aC≠g.aC+1
 ·have ce:gG g e=42:=by unfold gG;rw [if_neg (fun q=>q cb),if_pos (.inl c1)]
  have cg:jL g e=g:=if_pos ah
  rw [ce,cg]
  have FZ:(e.aC-1 != g.aC)=true:=bne_iff_ne.2 ah
  refine zO Tryz.func30 92<|zP 2 [{},yH [(1,yV (AV.br [aw (dJ e),ai 0]))]] [.aa [7,6,5,4,3,2,0,1] [4,3,2]] [yI Lu]<|zS<|zq<|zF 19<|a8<|zS<|zP 1 [yH [(2,yV (ai (e.aC-1)))]] [.aa [34,19,7,6,5,4,3,2,0,1] [4,3,2]] ([yN (e.aC-1)]++yM 6 (yI FZ))<|zT 34<|zP 1 [{}] [.aa [5,34,19,7,6,4,3,2,0,1] [4,3,2]] [yL 5 5]<|dW (cE)
 have TI:e.aC=g.aC+1:=ah
 have FZ:(e.aC-1 != g.aC)=false:=by rw [TI];simp
 by_cases c2:e.prev=g.head
 case neg =>
  have ce:gG g e=42:=by unfold gG;rw [if_neg (fun q=>q cb),if_pos (.inr c2)]
  have cg:jL g e=g:=if_pos ah
  rw [ce,cg]
  have VF:(e.prev != g.head)=true:=bne_iff_ne.2 c2
  refine zO Tryz.func30 92<|zP 2 [{},yH [(1,yV (AV.br [aw (dJ e),ai 0]))]] [.aa [7,6,5,4,3,2,0,1] [4,3,2]] [yI Lu]<|zS<|zq<|zF 19<|a8<|zS<|zP 1 [yH ([(2,yV (ai (e.aC-1))),(11,{av:=some (ao (e.prev != g.head)),g:=false}),(12,{b:=false})]++yg [7,8,9,10])] [.aa [34,19,7,6,5,4,3,2,0,1] [4,3,2]] ([yN (e.aC-1)]++yM 5 (yI FZ)++ [yI (cU e.prev g.head),yI FZ])<|dQ 34 (e.prev != g.head) (by assumption)<|zP 1 [{}] [.aa [5,34,19,7,6,4,3,2,0,1] [4,3,2]] [yL 5 5]<|dW (cE)
 have VF:(e.prev != g.head)=false:=by rw [c2];simp
 have On:gG g e=if iv g (dJ e) e.ar≠0 then iv g (dJ e) e.ar else j9 g e:=by unfold gG;rw [if_neg (fun q=>q cb),if_neg (by rintro (q|q);exact q TI;exact q c2)]
 have m8:=hG.m8
 have Hz:=I3 g (dJ e) e.ar ah hv
 by_cases c3:iv g (dJ e) e.ar=0
 case neg =>
  rw [if_pos c3] at On
  have cg:jL g e=g:=if_pos (by rw [On];exact c3)
  rw [On,cg]
  refine zO Tryz.func30 92<|zP 2 [{},yH [(1,yV (AV.br [aw (dJ e),ai 0]))]] [.aa [7,6,5,4,3,2,0,1] [4,3,2]] [yI Lu]<|zS<|zQ 1 [yH [(1,yV (ao false))]] [yR (ao false)]<|zF 19<|a8<|zS<|zP 1 [yH ([(2,yV (ai (e.aC-1))),(11,{av:=some (ao (e.prev != g.head)),g:=false}),(12,{b:=false})]++yg [7,8,9,10])] [.aa [34,19,7,6,5,4,3,2,0,1] [4,3,2]] ([yN (e.aC-1)]++yM 5 (yI FZ)++ [yI (cU e.prev g.head),yI FZ])<|bo 34 (e.prev != g.head) (by assumption)<|a8<|zS<|zP 2 [yH [(4,yV (ai (iv g (dJ e) e.ar)))],yH [(1,yV (ao true))]] [.aa [42,41,8,34,19,7,6,5,4,3,2,0,1] [4,3,2]] [yI Hz,yB (ao (iv g (dJ e) e.ar != (0:Int))=ao true) (by simp [c3])]<|zT 42<|zP 1 [{}] [.aa [5,42,41,8,34,19,7,6,4,3,2,0,1] [4,3,2]] [yL 5 5]<|dW (cE)
 have LD:=fun i hi=>vA c3 (i:=i) hi
 rw [if_neg (fun q=>q c3)] at On
 rw [c3] at Hz
 have A_:=Az g e hG k1 k5 (D5 cb) hB.dep
 rw [←On] at A_
 by_cases c4:gG g e=0
 case neg =>
  have cg:jL g e=g:=if_pos c4
  rw [cg]
  refine zO Tryz.func30 92<|zP 2 [{},yH [(1,yV (AV.br [aw (dJ e),ai 0]))]] [.aa [7,6,5,4,3,2,0,1] [4,3,2]] [yI Lu]<|zS<|zQ 1 [yH [(1,yV (ao false))]] [yR (ao false)]<|zF 19<|a8<|zS<|zP 1 [yH ([(2,yV (ai (e.aC-1))),(11,{av:=some (ao (e.prev != g.head)),g:=false}),(12,{b:=false})]++yg [7,8,9,10])] [.aa [34,19,7,6,5,4,3,2,0,1] [4,3,2]] ([yN (e.aC-1)]++yM 5 (yI FZ)++ [yI (cU e.prev g.head),yI FZ])<|bo 34 (e.prev != g.head) (by assumption)<|a8<|zS<|zP 2 [yH [(4,yV (ai 0))],yH [(1,yV (ao false))]] [.aa [42,41,8,34,19,7,6,5,4,3,2,0,1] [4,3,2]] [yI Hz,yR (ao false)]<|zF 42<|a8<|zP 1 [yH [(2,{av:=some (AV.br [AV.agg (bW (dt g e)),ai (gG g e)]),b:=false})]] [.aa [7,9,42,41,8,34,19,6,5,4,3,2,0,1] [9,4,3,2]] [yI A_,yL 5 5]<|zS<|zQ 1 [yH [(1,yV (ao true))]] [yB (ao (gG g e != (0:Int))=ao true) (by simp [c4])]<|zT 52<|zP 1 [{}] [.aa [5,52,7,9,42,41,8,34,19,6,4,3,2,0,1] [4,9,3,2]] [yL 5 5]<|dW (cE)
 have cg:jL g e=⟨e.aC,dJ e,(dt g e).bB,i3 (dt g e).al e.ar,(dt g e).aF⟩:=if_neg (fun q=>q c4)
 rw [cg,c4]
 rw [c4] at A_
 have gw:=I4 g e
 generalize dt g e=G at *
 have nj:∀i,(af aP (i3 G.al (e.ar.take i))).length=G.al.length*4:=fun i=>by rw [aG (e:=4) (fun _=>rfl),ko]
 have M3:=tW G.al ah
 generalize dJ e=W at *
 clear On cg Uf vo
 refine zO Tryz.func30 92<|zP 2 [{},yH [(1,yV (AV.br [aw W,ai 0]))]] [.aa [7,6,5,4,3,2,0,1] [4,3,2]] [yI Lu]<|zS<|zq<|zF 19<|a8<|zS<|zP 1 [yH ([(2,yV (ai (e.aC-1))),(11,{av:=some (ao (e.prev != g.head)),g:=false}),(12,{b:=false})]++yg [7,8,9,10])] [.aa [34,19,7,6,5,4,3,2,0,1] [4,3,2]] ([yN (e.aC-1)]++yM 5 (yI FZ)++ [yI (cU e.prev g.head),yI FZ])<|bo 34 (e.prev != g.head) (by assumption)<|a8<|zS<|zP 2 [yH [(4,yV (ai 0))],{}] [.aa [42,41,8,34,19,7,6,5,4,3,2,0,1] [4,3,2]] [yI Hz]<|zF 42<|a8<|zP 1 [yH [(2,{av:=some (AV.br [AV.agg (bW G),ai 0]),b:=false})]] [.aa [7,9,42,41,8,34,19,6,5,4,3,2,0,1] [9,4,3,2]] [yI A_,yL 5 5]<|zS<|zq<|zF 52<|a8<|zP 3 [{},{},yH [(2,{av:=some (AV.own 4 (af aP G.al)),b:=false})]] [.aa [52,7,9,42,41,8,34,19,6,5,4,3,2,0,1] [9,62,4,3,2]] [yL 1 5,yL 2 5,yI M3,yL 4 5]<|zS<|zQ 1 [yH [(2,{k:=e.ar.length})]] [yI E1]<|zB 0 (zL (fun (i:Nat)=>(⟨[(66,ai (↑e.ar.length:Int)),(65,AV.sl 4 (af bp e.ar)),(52,ao ((0:Int) != (0:Int))),(7,ai 0),(9,AV.addr 9 0),(42,ao ((0:Int) != (0:Int))),(41,ai 0),(8,ai 0),(34,ao (e.prev != g.head)),(19,ao ((0:Int) != (0:Int))),(6,aw W),(5,ai 0),(4,AV.addr 4 0),(3,AV.addr 3 0),(2,AV.addr 2 0),(0,AV.agg (bW g)),(1,AV.agg (bk e)),(67,ai i)],[(9,⟨1,false,true,[ai e.aC,aw W,ai G.bB,AV.ref 62,AV.sl 7 (af bg G.aF)]⟩),(4,⟨1,false,true,[ai 0,eh,ai 0,AV.nil,AV.nil]⟩),(3,⟨1,false,true,(bk e)⟩),(2,⟨1,false,true,List.map (aQ 62) (List.map (aQ 9) (List.map (aQ 4) (List.map (aQ 3) (List.map (aQ 2) (bW g)))))⟩),(62,⟨4,true,false,af aP (i3 G.al (e.ar.take i))⟩)]⟩:AS)) (fun i=>(i≤e.ar.length)) (fun i=>(e.ar.length-i)) (0) ?_ (zW [.aa [66,65,52,7,9,42,41,8,34,19,6,5,4,3,2,0,1,67] [9,4,3,2,62]]) ?_)
 ·omega
 intro i hi
 have Uz:=nj i
 refine a7.mW 1 [{}] bH (s':=AS.mk [(68,ao (decide ((↑i:Int)<(↑e.ar.length:Int)))),(66,ai (↑e.ar.length:Int)),(65,AV.sl 4 (af bp e.ar)),(52,ao ((0:Int) != (0:Int))),(7,ai 0),(9,AV.addr 9 0),(42,ao ((0:Int) != (0:Int))),(41,ai 0),(8,ai 0),(34,ao (e.prev != g.head)),(19,ao ((0:Int) != (0:Int))),(6,aw W),(5,ai 0),(4,AV.addr 4 0),(3,AV.addr 3 0),(2,AV.addr 2 0),(0,AV.agg (bW g)),(1,AV.agg (bk e)),(67,ai ↑i)] [(9,Row.mk 1 false true [ai e.aC,aw W,ai G.bB,AV.ref 62,AV.sl 7 (af bg G.aF)]),(4,Row.mk 1 false true [ai 0,eh,ai 0,AV.nil,AV.nil]),(3,Row.mk 1 false true (bk e)),(2,Row.mk 1 false true (List.map (aQ 62) (List.map (aQ 9) (List.map (aQ 4) (List.map (aQ 3) (List.map (aQ 2) (bW g))))))),(62,Row.mk 4 true false (af aP (i3 G.al (List.take i e.ar))))]) (C:=[]) bH trivial<|zS (zD 68 ((↑i:Int)<(↑e.ar.length:Int)) (fun q=>?_) (fun q=>?_))
 ·have dM:i<e.ar.length:=ah
  have ix:=o9 dM
  have dI:=Eu G.al dM
  obtain ⟨A9,FU⟩:=LD i dM
  have V8:(i3 G.al (e.ar.take i)).length=G.al.length:=ko _ _
  generalize i3 G.al (e.ar.take i)=U at *
  have si:bK Tryz.prog 61 [.agg (bW ⟨e.aC,W,G.bB,U,G.aF⟩),dw (e.ar.getD i default).name] (ai (eS U (e.ar.getD i default).name)):=nq ⟨e.aC,W,G.bB,U,G.aF⟩ (e.ar.getD i default).name (by show U.length≤_;omega)
  rcases fP U (e.ar.getD i default).name with hk|⟨k,hk,iw,Jr⟩
  ·have h1:k7 U (e.ar.getD i default)=U:=if_pos ah
   rw [h1] at dI
   rw [hk] at si
   refine a8<|zS<|zB 1<|zP 3 [yH [(0,{k:=i}),(1,yV (AV.agg (bp (e.ar.getD i default))))],yH [(3,yV (ai (-1:Int)))],{}] [.aa [76,12,11,68,66,65,52,7,9,42,41,8,34,19,6,5,4,3,2,0,1,67] [11,9,4,3,2,62]] [yR (↑i:Int),yO (i*4<(af bp e.ar).length),yu bp e.ar i 0 4,yR 4,yL 4 4,yI si]<|dK 76 ((-1:Int)≥0)<|zK<|aM<|ak<|zX (yH [(0,yV (ai ((↑i:Int)+1)))]) [yN ((↑i:Int)+1)] (aI (i+1) (by assumption) ah (e_ [.aa [66,65,52,7,9,42,41,8,34,19,6,5,4,3,2,0,1,67] [9,4,3,2,62]] [] [62] [yB (af aP U=af aP (i3 G.al (List.take (i+1) e.ar))) (by rw [dI])]))
  ·have h1:k7 U (e.ar.getD i default)=U.set k {U.getD k default with used:=(U.getD k default).used|||fJ (e.ar.getD i default).leaf}:=by unfold k7;rw [if_neg ah,m7 hk,hk];rfl
   rw [h1] at dI
   rw [hk] at si
   have RA:=l_ iw
   have Rm:=ES iw ((U.getD k default).used|||fJ (e.ar.getD i default).leaf)
   refine a8<|zS<|zB 1<|zP 3 [yH [(0,{k:=i}),(1,yV (AV.agg (bp (e.ar.getD i default))))],yH [(3,yV (ai ↑k))],{}] [.aa [76,12,11,68,66,65,52,7,9,42,41,8,34,19,6,5,4,3,2,0,1,67] [11,9,4,3,2,62]] [yR (↑i:Int),yO (i*4<(af bp e.ar).length),yu bp e.ar i 0 4,yR 4,yL 4 4,yI si]<|jO 76 ((↑k:Int)≥0)<|zX ({hs:=[(3,{k:=k}),(5,yV (aw ((U.getD k default).used))),(9,yV (aw (fJ (e.ar.getD i default).leaf))),(10,yV (aw ((U.getD k default).used|||fJ (e.ar.getD i default).leaf))),(11,{k:=k})],T:=10}) [yR (↑k:Int),yO (k*4<(af aP U).length),yA aP U k 3,yB (AV.val (Value.int .u64 (IntKind.u64.wrap ((1:Int)*(2:Int)^min (e.ar.getD i default).leaf.toNat IntKind.u64.bits)))=aw (fJ (e.ar.getD i default).leaf)) (jq 1 _ A9 ah),yI A9,yI (rk ((U.getD k default).used) (fJ (e.ar.getD i default).leaf)),yR (↑k:Int),yO (k*4<(af aP U).length),yO (k*4+3+1≤(af aP U).length)]<|aM<|ak<|zX (yH [(0,yV (ai ((↑i:Int)+1)))]) [yN ((↑i:Int)+1)] (aI (i+1) (by assumption) ah (e_ [.aa [66,65,52,7,9,42,41,8,34,19,6,5,4,3,2,0,1,67] [9,4,3,2,62]] [] [62] [yB ((af aP U).set (k*4+3) (aw ((U.getD k default).used|||fJ (e.ar.getD i default).leaf))=af aP (i3 G.al (List.take (i+1) e.ar))) (by rw [dI];exact Rm)]))
 ·have ei:i=e.ar.length:=ah
  subst ei
  rw [List.take_length]
  refine zE 0<|aY<|aN<|bm<|ak<|zP 1 [{}] [.aa [5,68,66,65,52,7,9,42,41,8,34,19,6,4,3,2,0,1,67] [4,9,3,2,62]] [yL 5 5]<|a7.su [.iR 62] bH<|zR (cE)
def PO (e:eK) (V:List fW):List AV:=[ai e.aC,aw e.prev,ai e.kind,dw e.name,ai e.kh,aw e.kr,ai e.bB,aw e.dep.cm,aw e.dep.peer,.own 1 (ag e.dep.box),.own 1 (af ay e.dep.ae),.own 1 (aj e.dep.au),ai e.dep.need,aw e.dep.target,aw e.cm,aw e.target,.own 4 (af bp V)]
theorem vz (e:eK) (W:UInt64) (name:List UInt8) (seed:UInt64) (h leaf:Int) (hv:e.ar= []) (hs:vN h leaf=0) (hw:bK Tryz.prog 50 [.agg (bk e)] (.br [aw W,ai 0])) (h1:e.dep.box.length≤1000000) (h2:e.dep.ae.length≤1000000) (h3:e.dep.au.length≤1000000) :
  bK Tryz.prog 25 [.agg (bk e),dw name,aw seed,ai h,ai leaf] (.br [.agg (PO e [⟨name,oA h leaf,nZ seed h leaf W,nY seed h leaf⟩]),ai 0]):=by
 have E1:(af bp e.ar).length=0:=by rw [hv];rfl
 have Fb:=rW e.dep h1 h2 h3
 refine zO Tryz.func25 114<|zP 2 [{},yH [(1,yV (AV.br [aw W,ai 0]))]] [.aa [13,12,11,10,5,0,1,2,3,4] [10,5]] [yI hw]<|zS<|zq<|zF 27<|a8<|zS<|zP 1 [yH [(2,{k:=e.ar.length})]] [.aa [33,32,31,27,13,12,11,10,5,0,1,2,3,4] [10,5]] [yB ((af bp e.ar).length=e.ar.length*4) (by simp only [aG (f:=bp) (e:=4) (fun _=>rfl)])]<|zB 0 (zL (fun (i:Nat)=>(⟨[(32,ai (↑e.ar.length:Int)),(31,AV.sl 4 (af bp e.ar)),(27,ao ((0:Int) != (0:Int))),(13,ai 0),(12,aw W),(10,AV.addr 10 0),(5,AV.addr 5 0),(0,AV.agg (bk e)),(1,dw name),(2,aw seed),(3,ai h),(4,ai leaf),(33,ai i)],[(10,⟨1,false,true,[ai 0,eh,ai 0,AV.val (Value.string (ByteArray.mk #[])),ai 0,eh,ai 0,eh,eh,AV.nil,AV.nil,AV.nil,ai 0,eh,eh,eh,AV.nil]⟩),(5,⟨1,false,true,List.map (aQ 10) (List.map (aQ 5) (bk e))⟩)]⟩:AS)) (fun i=>(i=0)) (fun i=>0) (0) ?_ (zW [.aa [32,31,27,13,12,10,5,0,1,2,3,4,33] [10,5]]) ?_)
 ·rfl
 rintro i rfl
 refine zq<|zS<|bo 34 (decide ((↑(0:Nat):Int)<(↑e.ar.length:Int))) (by simp_all)<|zE 0<|aY<|aN<|bm<|ak<|zP 1 [yH [(4,{av:=some (AV.br [AV.agg [ai (oA h leaf),AV.sl 1 (aj (nZ seed h leaf W)),AV.own 1 (aj (nY seed h leaf))],ai (vN h leaf)]),b:=false})]] [.aa [13,16,34,32,31,27,12,10,5,0,1,2,3,4,33] [16,301048,10,5]] [yI (Gp seed h leaf W),yL 3 3]<|zS<|zQ 1 [yH [(1,yV (ao false))]] [yB (ao (vN h leaf != (0:Int))=ao false) (by simp [hs])]<|zF 52<|a8<|zq<|zS<|zB 2 (zL (fun (i:Nat)=>(⟨[(52,ao false),(13,ai (vN h leaf)),(16,AV.addr 16 0),(34,ao (decide ((↑(0:Nat):Int)<(↑e.ar.length:Int)))),(32,ai (↑e.ar.length:Int)),(31,AV.sl 4 (af bp e.ar)),(27,ao ((0:Int) != (0:Int))),(12,aw W),(10,AV.addr 10 0),(5,AV.addr 5 0),(0,AV.agg (bk e)),(1,dw name),(2,aw seed),(3,ai h),(4,ai leaf),(33,ai (↑(0:Nat):Int)),(17,ai i)],[(16,⟨1,false,true,[ai (oA h leaf),AV.sl 1 (aj (nZ seed h leaf W)),AV.ref 301048]⟩),(10,⟨1,false,true,[ai 0,eh,ai 0,AV.val (Value.string (ByteArray.mk #[])),ai 0,eh,ai 0,eh,eh,AV.nil,AV.nil,AV.nil,ai 0,eh,eh,eh,AV.nil]⟩),(5,⟨1,false,true,List.map (aQ 16) (List.map (aQ 301048) (List.map (aQ 10) (List.map (aQ 5) (bk e))))⟩),(301048,⟨1,true,false,aj (nY seed h leaf)⟩)]⟩:AS)) (fun i=>(i=0)) (fun i=>0) (0) ?_ (zW [.aa [52,13,16,34,32,31,27,12,10,5,0,1,2,3,4,33,17] [16,10,5,301048]]) ?_)
 ·rfl
 rintro i rfl
 have w1:IntKind.i64.wrap ((e.ar.length:Int)+1)=(1:Nat):=by rw [hv];rfl
 refine zS<|zP 1 [yH ([(3,{k:=e.ar.length}),(14,{b:=false})]++yg [6,7,8,9,10,11,12,13])] [.aa [69,52,13,16,34,32,31,27,12,10,5,0,1,2,3,4,33,17] [16,10,5,301048]] ([yB ((af bp e.ar).length=e.ar.length*4) (by simp only [aG (f:=bp) (e:=4) (fun _=>rfl)])]++yM 9 (yS (decide ((↑(0:Nat):Int)<(↑e.ar.length:Int))=false)))<|zF 69<|zE 2<|aY<|aN<|bm<|ak<|zP 1 [yH [(2,{k:=e.ar.length}),(3,yV (ai (↑(1:Nat):Int))),(4,{k:=0,m:=1})]] [.aa [18,69,52,13,16,34,32,31,27,12,10,5,0,1,2,3,4,33,17] [76,16,10,5,301048]] [yB ((af bp e.ar).length=e.ar.length*4) (by simp only [aG (f:=bp) (e:=4) (fun _=>rfl)]),yI (yc w1),yR (0:Int),yR (↑(1:Nat):Int),yL 0 1,yL 72 281474976710656,yB (1≤maxLen) (by decide)]<|zS<|zQ 1 [yH [(2,{k:=e.ar.length})]] [yB ((af bp e.ar).length=e.ar.length*4) (by simp only [aG (f:=bp) (e:=4) (fun _=>rfl)])]<|zB 4 (zL (fun (i:Nat)=>(⟨[(79,ai (↑e.ar.length:Int)),(78,AV.sl 4 (af bp e.ar)),(69,ao false),(52,ao false),(13,ai (vN h leaf)),(16,AV.addr 16 0),(34,ao (decide ((↑(0:Nat):Int)<(↑e.ar.length:Int)))),(32,ai (↑e.ar.length:Int)),(31,AV.sl 4 (af bp e.ar)),(27,ao ((0:Int) != (0:Int))),(12,aw W),(10,AV.addr 10 0),(5,AV.addr 5 0),(0,AV.agg (bk e)),(1,dw name),(2,aw seed),(3,ai h),(4,ai leaf),(33,ai (↑(0:Nat):Int)),(17,ai (↑(0:Nat):Int)),(80,ai i),(18,AV.ref 76)],[(16,⟨1,false,true,[ai (oA h leaf),AV.sl 1 (aj (nZ seed h leaf W)),AV.ref 301048]⟩),(10,⟨1,false,true,[ai 0,eh,ai 0,AV.val (Value.string (ByteArray.mk #[])),ai 0,eh,ai 0,eh,eh,AV.nil,AV.nil,AV.nil,ai 0,eh,eh,eh,AV.nil]⟩),(5,⟨1,false,true,List.map (aQ 76) (List.map (aQ 16) (List.map (aQ 301048) (List.map (aQ 10) (List.map (aQ 5) (bk e)))))⟩),(301048,⟨1,true,false,aj (nY seed h leaf)⟩),(76,⟨4,true,false,af bp []⟩)]⟩:AS)) (fun i=>(i=0)) (fun i=>0) (0) ?_ (zW [.aa [79,78,69,52,13,16,34,32,31,27,12,10,5,0,1,2,3,4,33,17,80,18] [16,10,5,301048,76]]) ?_)
 ·rfl
 rintro i rfl
 have hI:gb Tryz.prog 53 [.ref 5,ai 0,.sl 4 [dw name,ai (oA h leaf),.sl 1 (aj (nZ seed h leaf W)),.sl 1 (aj (nY seed h leaf))]] [(5,⟨4,true,false,af bp []⟩)] (.own 4 (af bp [⟨name,oA h leaf,nZ seed h leaf W,nY seed h leaf⟩])) [(5,⟨4,true,false,af bp []⟩)]:=zZ [] ⟨name,oA h leaf,nZ seed h leaf W,nY seed h leaf⟩ (by decide)
 refine zq<|zS<|bo 81 (decide ((↑(0:Nat):Int)<(↑e.ar.length:Int))) (by simp_all)<|zE 4<|aY<|aN<|bm<|ak<|zP 3 [yH [(6,{av:=some (AV.own 4 (af bp [fW.mk name (oA h leaf) (nZ seed h leaf W) (nY seed h leaf)])),ln:=[(76,5)],ho:=[(5,Row.mk 4 true false (af bp []))]})],yH [(2,{av:=some (AV.agg [aw e.dep.cm,aw e.dep.peer,AV.own 1 (ag e.dep.box),AV.own 1 (af ay e.dep.ae),AV.own 1 (aj e.dep.au),ai e.dep.need,aw e.dep.target]),b:=false})],{}] [.aa [11,81,79,78,69,52,13,16,34,32,31,27,12,10,5,0,1,2,3,4,33,17,80] [10,5,500111,400111,300111,107,16]] [yI hI,yL 17 17,yI Fb,yL 14 17,yL 17 17]<|zR (cE)
theorem H4 (q:Nat) (hq:q<16):(q%2=0->q^^^1=q+1∧q=2*(q/2))∧(q%2≠0->q^^^1=q-1∧q=2*(q/2)+1):=by
 have key:∀q:Fin 16,(q.val%2=0->q.val^^^1=q.val+1∧q.val=2*(q.val/2))∧(q.val%2≠0->q.val^^^1=q.val-1∧q.val=2*(q.val/2)+1):=by decide +kernel
 exact key ⟨q,hq⟩
theorem CP (seed:UInt64) (leaf n:Nat) (x:UInt64) (hx:x=fM seed 0 leaf) (Sk:leaf<16) (k:Nat) (hk:k≤n):gn leaf (cX seed leaf n) x k=fM seed k (leaf/2^k):=by
 induction k with
 | zero=>simp [gn,hx]
 | succ k ih =>
  have ih:=ih ah
  have hg:(cX seed leaf n).getD k 0=fM seed k (leaf/2^k^^^1):=by simp [cX,show k<n by omega]
  have hd:leaf/2^(k+1)=leaf/2^k/2:=by rw [Nat.pow_succ,Nat.div_div_eq_div_mul]
  obtain ⟨h1,h2⟩:=H4 (leaf/2^k) (Nat.lt_of_le_of_lt (Nat.div_le_self ..) Sk)
  unfold gn
  rw [ih,hg,hd]
  generalize leaf/2^k=q at *
  by_cases hq:q%2=0
  ·obtain ⟨e1,e2⟩:=h1 hq
   rw [if_pos hq,e1]
   show jH _ _ _=jH _ _ _
   rw [←e2]
  ·obtain ⟨e1,e2⟩:=h2 hq
   rw [if_neg hq,e1]
   show jH _ _ _=jH _ _ _
   rw [show 2*(q/2)+1=q by omega,show 2*(q/2)=q-1 by omega]
theorem Gb (seed:UInt64) (h leaf:Nat) (m:UInt64) (hh:h≤4) (hl:leaf<2^h):nX (h:Int) (fM seed h 0) m (leaf:Int) (bP seed leaf m 18) (cX seed leaf h)=0:=by
 have hb:¬jK (h:Int) (leaf:Int):=by unfold jK bQ;rw [Int.toNat_natCast];omega
 have e:=CP seed leaf h (combine leaf (fp leaf m (bP seed leaf m 18) 18)) (by rw [GN];rfl) (Nat.lt_of_lt_of_le hl (Nat.pow_le_pow_right (by decide) hh)) h (Nat.le_refl h)
 rw [Nat.div_eq_of_lt hl] at e
 unfold nX
 rw [if_neg hb,if_neg (by rw [qs,qD];omega),Int.toNat_natCast,Int.toNat_natCast,if_pos e]
def IB:List (Nat×Nat):=[(9,1),(10,1),(11,1),(16,4)]
def Nr:nC:=⟨0,0,[],[],[],0,0⟩
theorem OL:dG [109,48]=0:=Dy (by decide) (by decide)
theorem OK:dG [109,49]=0:=Dy (by decide) (by decide)
theorem OE (s:UInt64):Jm s 4=fM s 4 0:=if_neg (show ¬bQ 4 by decide)
theorem OO:dq 0=⟨[109,48],4,fM 300 4 0,0⟩:=by
 unfold dq
 rw [OE,show u8 (48+((0:Nat):Int))=48 by decide,show (300:UInt64)+u64 ((0:Nat):Int)=300 by decide]
theorem Q3:dq 1=⟨[109,49],4,fM 301 4 0,0⟩:=by
 unfold dq
 rw [OE,show u8 (48+((1:Nat):Int))=49 by decide,show (300:UInt64)+u64 ((1:Nat):Int)=301 by decide]
def gy (hd P:UInt64) (V:List fW):eK:=⟨1,hd,1,[109,49],4,P,0,Nr,0,0,V⟩
def iM (W:UInt64) (V:List fW):eK:=⟨2,W,2,[109,49],0,0,0,Nr,0,0,V⟩
def PW (hd P:UInt64):List AV:=[ai 1,aw hd,ai 1,dw [109,49],ai 4,aw P,ai 0,aw 0,aw 0,.nil,.nil,.nil,ai 0,aw 0,aw 0,aw 0,.nil]
def Sx (W:UInt64):List AV:=[ai 2,aw W,ai 2,dw [109,49],ai 0,aw 0,ai 0,aw 0,aw 0,.nil,.nil,.nil,ai 0,aw 0,aw 0,aw 0,.nil]
theorem LQ:yh Nr:=⟨Nat.zero_le _,Nat.zero_le _,Nat.zero_le _,fun i hi=>absurd hi (Nat.not_lt_zero i)⟩
theorem CA (hd P:UInt64) (V:List fW):ob (gy hd P V):=⟨Nat.le_of_ble_eq_true rfl,LQ⟩
theorem ID (W:UInt64) (V:List fW):ob (iM W V):=⟨Nat.le_of_ble_eq_true rfl,LQ⟩
theorem CB (hd P:UInt64) (V:List fW):eY (gy hd P V)=0:=by
 have hs:eN (gy hd P V):=⟨.inl rfl,.inl rfl,.inr rfl,.inr ⟨rfl,rfl,rfl,rfl,rfl,rfl,rfl⟩,.inr ⟨rfl,rfl⟩,rfl⟩
 rw [Ia (show (1:Int)≤1 by omega) (show (1:Int)≤5 by omega) hs (show (1:Int)≤1 by omega) (show (1:Int)≤2147483647 by omega)]
 unfold eF
 rw [if_pos (show (gy hd P V).kind=1 from rfl),if_neg (fun q=>q OK)]
 show eE 4=0
 decide
theorem Cz (W:UInt64) (V:List fW):eY (iM W V)=0:=by
 have hs:eN (iM W V):=⟨.inr (.inl rfl),.inr ⟨rfl,rfl⟩,.inr rfl,.inr ⟨rfl,rfl,rfl,rfl,rfl,rfl,rfl⟩,.inr ⟨rfl,rfl⟩,rfl⟩
 rw [Ia (show (1:Int)≤2 by omega) (show (2:Int)≤5 by omega) hs (show (1:Int)≤2 by omega) (show (2:Int)≤2147483647 by omega)]
 unfold eF
 rw [if_neg (show ¬(iM W V).kind=1 from (show ¬(2:Int)=1 by omega)),if_pos (show (iM W V).kind=2 from rfl)]
 exact OK
theorem xg (m:Mem) (l:List Mem) {h:List UInt8} (e:m.name=h):eS (m::l) h=(0:Nat):=DD (i:=0) (Nat.zero_lt_succ _) ah e
theorem Hd (m:Mem) {h:List UInt8} (e:m.name≠h):eS [m] h= -1:=DB fun j hj=>by
 have:j=0:=by simp at hj;omega
 subst this;exact e
theorem yq (g:fL) (W:UInt64) (v:fW) (k:Nat) (h1:eS g.al v.name=k) (h3:nX (g.al.getD k default).h (g.al.getD k default).r W v.leaf v.kM v.path=0) (h6:(g.al.getD k default).used&&&fJ v.leaf=0):iv g W [v]=if (1:Int)<g.bB then 41 else 0:=by
 have h0:jt g W [v] 0=0:=by
  rw [C9 (l:=[v]) (i:=0) (fun q=>absurd q.1 (Nat.lt_irrefl 0)) h1 h3,if_neg (fun q=>q h6)]
 have hf:ff (jt g W [v]) [v].length=0:=h0
 unfold iv
 rw [if_neg (fun q=>q hf)];rfl
theorem AX:bK Tryz.prog 12 [] (ao true):=by
 have LA:=fy 0 ah
 have E6:=fy 1 ah
 rw [OO] at LA
 rw [Q3] at E6
 have DM (l:Nat) (hl:l<16) (m:UInt64):=Gb 300 4 l m ah ah
 generalize fM 300 4 0=P0 at *
 generalize fM 301 4 0=P1 at *
 have Ad:eE 4=0:=by decide
 have hn:=Aq ⟨[109,48],4,P0,0⟩ (Nat.le_of_ble_eq_true rfl)
 have ne:gO ⟨[109,48],4,P0,0⟩=0:=by unfold gO;rw [if_neg (by simp [OL]),if_neg (by simp [Ad]),if_neg (by simp)]
 rw [ne,show cO ⟨[109,48],4,P0,0⟩=⟨0,hash 16 (cT 4 P0++ [109,48]),1,[⟨[109,48],4,P0,0⟩],[]⟩ from if_pos ne] at hn
 generalize hash 16 (cT 4 P0++ [109,48])=hd at hn
 have OV (V:List fW):=ta _ (CA hd P1 V)
 simp only [if_pos (CB hd P1 _),CB] at OV
 have qx (V:List fW):dJ (gy hd P1 V)=dJ (gy hd P1 []):=rfl
 have aX (V:List fW):=Jb (g:=⟨0,hd,1,[⟨[109,48],4,P0,0⟩],[]⟩) (CB hd P1 V) rfl rfl
 simp only [qx] at OV aX
 obtain ⟨W,hW⟩:∃W,W=dJ (gy hd P1 []):=⟨_,rfl⟩
 rw [←hW] at OV aX
 have OU (V:List fW):=ta _ (ID W V)
 simp only [if_pos (Cz W _),Cz] at OU
 have qz (V:List fW):dJ (iM W V)=dJ (iM W []):=rfl
 have aZ (V:List fW):=Jb (g:=⟨1,W,2,[⟨[109,48],4,P0,1⟩,⟨[109,49],4,P1,0⟩],[]⟩) (Cz W V) rfl rfl
 simp only [qz] at OU aZ
 obtain ⟨W2,U6⟩:∃W2,W2=dJ (iM W []):=⟨_,rfl⟩
 rw [←U6] at OU aZ
 have b0:¬jK 4 0:=by decide
 have b1:¬jK 4 1:=by decide
 have hv:=vz (gy hd P1 []) W [109,48] 300 4 0 rfl (if_neg b0) (OV []) (Nat.le_of_ble_eq_true rfl) (Nat.le_of_ble_eq_true rfl) (Nat.le_of_ble_eq_true rfl)
 have MB:=vz (iM W []) W2 [109,48] 300 4 1 rfl (if_neg b1) (OU []) (Nat.le_of_ble_eq_true rfl) (Nat.le_of_ble_eq_true rfl) (Nat.le_of_ble_eq_true rfl)
 rw [show oA 4 0=0 from if_neg b0,show nZ 300 4 0 W=bP 300 0 W 18 from if_neg b0,show nY 300 4 0=cX 300 0 4 from if_neg b0] at hv
 rw [show oA 4 1=1 from if_neg b1,show nZ 300 4 1 W2=bP 300 1 W2 18 from if_neg b1,show nY 300 4 1=cX 300 1 4 from if_neg b1] at MB
 have lr:=DM 0 ah W
 have gI:=DM 1 ah W2
 clear DM
 have q0:bP 300 ((0:Nat):Int) W 18=bP 300 0 W 18:=rfl
 have q1:bP 300 ((1:Nat):Int) W2 18=bP 300 1 W2 18:=rfl
 rw [q0] at lr
 rw [q1] at gI
 generalize bP 300 0 W 18=C0 at *
 generalize bP 300 1 W2 18=C1 at *
 generalize cX 300 0 4=A0 at *
 generalize cX 300 1 4=A1 at *
 have V0:=yq ⟨0,hd,1,[⟨[109,48],4,P0,0⟩],[]⟩ W ⟨[109,48],0,C0,A0⟩ 0 (xg _ _ rfl) lr (show (0:UInt64)&&&((1:UInt64)<<<UInt64.ofNat (Int.toNat 0))=0 by decide)
 have V1:=yq ⟨1,W,2,[⟨[109,48],4,P0,1⟩,⟨[109,49],4,P1,0⟩],[]⟩ W2 ⟨[109,48],1,C1,A1⟩ 0 (xg _ _ rfl) gI (show (1:UInt64)&&&((1:UInt64)<<<UInt64.ofNat (Int.toNat 1))=0 by decide)
 have QK:gG ⟨0,hd,1,[⟨[109,48],4,P0,0⟩],[]⟩ (gy hd P1 [⟨[109,48],0,C0,A0⟩])=0:=by
  rw [aX,show iv _ W (gy hd P1 [⟨[109,48],0,C0,A0⟩]).ar=0 from V0.trans (if_neg (show ¬(1:Int)<1 by omega)),if_neg (fun q=>q rfl)]
  unfold j9
  rw [if_pos (show (gy hd P1 _).kind=1 from rfl),show eS [⟨[109,48],4,P0,0⟩] (gy hd P1 [⟨[109,48],0,C0,A0⟩]).name= -1 from Hd _ (show ([109,48]:List UInt8)≠ [109,49] by decide)]
  rfl
 have SC:gG ⟨0,hd,1,[⟨[109,48],4,P0,0⟩],[]⟩ (gy hd P1 [])=41:=by rw [aX];rfl
 have SB:gG ⟨1,W,2,[⟨[109,48],4,P0,1⟩,⟨[109,49],4,P1,0⟩],[]⟩ (iM W [⟨[109,48],1,C1,A1⟩])=41:=by
  rw [aZ,show iv _ W2 (iM W [⟨[109,48],1,C1,A1⟩]).ar=41 from V1.trans (if_pos (show (1:Int)<2 by omega)),if_pos ah]
 have eA:jL ⟨0,hd,1,[⟨[109,48],4,P0,0⟩],[]⟩ (gy hd P1 [⟨[109,48],0,C0,A0⟩])=⟨1,W,2,[⟨[109,48],4,P0,1⟩,⟨[109,49],4,P1,0⟩],[]⟩:=by
  have hc:j9 ⟨0,hd,1,[⟨[109,48],4,P0,0⟩],[]⟩ (gy hd P1 [⟨[109,48],0,C0,A0⟩])=0:=(je QK).2.2.2.2
  rw [nU QK,qx,←hW]
  unfold dt
  rw [if_neg (fun q=>q hc),if_pos (show (gy hd P1 _).kind=1 from rfl)]
  have hu:k7 [⟨[109,48],4,P0,0⟩,⟨[109,49],4,P1,0⟩] ⟨[109,48],0,C0,A0⟩= [⟨[109,48],4,P0,1⟩,⟨[109,49],4,P1,0⟩]:=by
   have hm:eS [⟨[109,48],4,P0,0⟩,⟨[109,49],4,P1,0⟩] (⟨[109,48],0,C0,A0⟩:fW).name=(0:Nat):=xg _ _ rfl
   unfold k7
   rw [m7 hm,hm,if_neg ah]
   show [(⟨[109,48],4,P0,(0:UInt64)|||fJ 0⟩:Mem),⟨[109,49],4,P1,0⟩]=_
   rw [show (0:UInt64)|||fJ 0=1 by decide]
  show (⟨1,W,if 2*(1:Int)≤((1:Nat):Int)+1 then 1+1 else 1,k7 [⟨[109,48],4,P0,0⟩,⟨[109,49],4,P1,0⟩] ⟨[109,48],0,C0,A0⟩,[]⟩:fL)=_
  rw [if_pos ah,hu];rfl
 have hA:=nT ⟨0,hd,1,[⟨[109,48],4,P0,0⟩],[]⟩ (gy hd P1 [⟨[109,48],0,C0,A0⟩]) ⟨Int.le_refl 0,(show (0:Int)≤2147483647 by omega),(ah:1≤8),(show (0:Int)≤1 by omega),(show (1:Int)≤8 by omega),Nat.zero_le _⟩ (CA _ _ _) (ah:1≤1000000)
 rw [QK,eA] at hA
 have hQ:=nT ⟨0,hd,1,[⟨[109,48],4,P0,0⟩],[]⟩ (gy hd P1 []) ⟨Int.le_refl 0,(show (0:Int)≤2147483647 by omega),(ah:1≤8),(show (0:Int)≤1 by omega),(show (1:Int)≤8 by omega),Nat.zero_le _⟩ (CA _ _ _) (Nat.zero_le _)
 rw [SC,qc (by rw [SC];omega)] at hQ
 have Tz:=nT ⟨1,W,2,[⟨[109,48],4,P0,1⟩,⟨[109,49],4,P1,0⟩],[]⟩ (iM W [⟨[109,48],1,C1,A1⟩]) ⟨(show (0:Int)≤1 by omega),(show (1:Int)≤2147483647 by omega),(ah:2≤8),(show (0:Int)≤2 by omega),(show (2:Int)≤8 by omega),Nat.zero_le _⟩ (ID _ _) (ah:1≤1000000)
 rw [SB,qc (by rw [SB];omega)] at Tz
 have HA:bK Tryz.prog 25 [.agg (PW hd P1),dw [109,48],aw 300,ai 4,ai 0] _:=bK.G6 IB hv
 have Rh:bK Tryz.prog 25 [.agg (Sx W),dw [109,48],aw 300,ai 4,ai 1] (.br [.agg (PO (iM W [⟨[109,48],1,C1,A1⟩]) [⟨[109,48],1,C1,A1⟩]),ai 0]):=bK.G6 IB MB
 have U8:bK Tryz.prog 30 [.agg (bW ⟨0,hd,1,[⟨[109,48],4,P0,0⟩],[]⟩),.agg (PW hd P1)] _:=bK.G6 IB hQ
 clear V0 V1 lr gI eA OV OU hv MB hQ q0 q1 ne Ad aX aZ QK SC SB qx qz
 refine zO Tryz.func12 100<|zP 2 [{},yH [(0,yV (AV.agg [AV.val (Value.string (ByteArray.mk #[109,48])),ai 4,aw P0,aw 0])),(1,{av:=some (AV.br [AV.agg [ai 0,aw hd,ai 1,AV.own 4 (af aP [Mem.mk [109,48] (4:Int) P0 0]),AV.own 7 (af bg [])],ai 0]),b:=false})]] [.aa [2,1,0] [1,501016,401016]] [yI LA,yI hn,yL 5 5]<|zS<|FM 6 [5] [(2,yV (AV.agg [AV.val (Value.string (ByteArray.mk #[109,49])),ai 4,aw P1,aw 0]))] [yI E6,yR (AV.addr 1 1),yR (aw hd),yR (AV.agg [AV.val (Value.string (ByteArray.mk #[109,49])),ai 4,aw P1,aw 0]),yI E6,yR (AV.agg [ai 4,aw P1]),yR (AV.agg [ai 1,aw hd,ai 1,AV.val (Value.string (ByteArray.mk #[109,49])),ai 4,aw P1,ai 0,AV.val (Value.int .u64 0),AV.val (Value.int .u64 0),AV.nil,AV.nil,AV.nil,ai 0,AV.val (Value.int .u64 0),AV.val (Value.int .u64 0),AV.val (Value.int .u64 0),AV.nil]),yL 17 17]<|ak<|a7.su [.aa [3,2,1,0] [3,1,501016,401016]] bH<|zP 6 [yH [(1,{av:=some (AV.br [AV.agg [ai ((gy hd P1 []).aC),aw ((gy hd P1 []).prev),ai ((gy hd P1 []).kind),dw (gy hd P1 []).name,ai ((gy hd P1 []).kh),aw ((gy hd P1 []).kr),ai ((gy hd P1 []).bB),aw ((gy hd P1 []).dep.cm),aw ((gy hd P1 []).dep.peer),AV.own 1 (ag (gy hd P1 []).dep.box),AV.own 1 (af ay (gy hd P1 []).dep.ae),AV.own 1 (aj (gy hd P1 []).dep.au),ai ((gy hd P1 []).dep.need),aw ((gy hd P1 []).dep.target),aw ((gy hd P1 []).cm),aw ((gy hd P1 []).target),AV.own 4 (af bp [fW.mk [109,48] (0:Int) C0 A0])],ai 0]),b:=false})],yH [(2,{av:=some (AV.br [AV.agg [ai 1,aw W,ai 2,AV.sl 4 (af aP [Mem.mk [109,48] (4:Int) P0 1,Mem.mk [109,49] (4:Int) P1 0]),AV.sl 7 (af bg [])],ai 0]),b:=false})],yH [(2,{av:=some (AV.br [AV.agg [ai 0,aw hd,ai 1,AV.sl 4 (af aP [Mem.mk [109,48] (4:Int) P0 0]),AV.sl 7 (af bg [])],ai 41]),b:=false})],yH [(3,{av:=some (AV.br [AV.agg [ai ((iM W [fW.mk [109,48] (1:Int) C1 A1]).aC),aw ((iM W [fW.mk [109,48] (1:Int) C1 A1]).prev),ai ((iM W [fW.mk [109,48] (1:Int) C1 A1]).kind),dw (iM W [fW.mk [109,48] (1:Int) C1 A1]).name,ai ((iM W [fW.mk [109,48] (1:Int) C1 A1]).kh),aw ((iM W [fW.mk [109,48] (1:Int) C1 A1]).kr),ai ((iM W [fW.mk [109,48] (1:Int) C1 A1]).bB),aw ((iM W [fW.mk [109,48] (1:Int) C1 A1]).dep.cm),aw ((iM W [fW.mk [109,48] (1:Int) C1 A1]).dep.peer),AV.own 1 (ag (iM W [fW.mk [109,48] (1:Int) C1 A1]).dep.box),AV.own 1 (af ay (iM W [fW.mk [109,48] (1:Int) C1 A1]).dep.ae),AV.own 1 (aj (iM W [fW.mk [109,48] (1:Int) C1 A1]).dep.au),ai ((iM W [fW.mk [109,48] (1:Int) C1 A1]).dep.need),aw ((iM W [fW.mk [109,48] (1:Int) C1 A1]).dep.target),aw ((iM W [fW.mk [109,48] (1:Int) C1 A1]).cm),aw ((iM W [fW.mk [109,48] (1:Int) C1 A1]).target),AV.own 4 (af bp [fW.mk [109,48] (1:Int) C1 A1])],ai 0]),b:=false})],yH [(2,{av:=some (AV.br [AV.agg [ai 1,aw W,ai 2,AV.sl 4 (af aP [Mem.mk [109,48] (4:Int) P0 1,Mem.mk [109,49] (4:Int) P1 0]),AV.sl 7 (af bg [])],ai 41]),b:=false})],yH [(30,{k:=2}),(36,{k:=0}),(39,yV (ao (1 == 1)))]] [.aa [0,13,11,10,9,7,6,5,4,3,2,1] [10,6,4,3,1]] ([yI HA,yL 17 17,yI hA,yL 5 5,yI U8,yL 5 5,yI Rh,yL 17 17,yI Tz,yL 5 5]++yM 22 (yR true)++ [yR (2*4)]++yM 5 (yR true)++ [yR (0:Int),yO (0<8)]++yM 3 (yR true)++ [yR (ao (1 == 1))]++yM 5 (yR true))<|zR (cE)
end Go.Proofs.YtjgbhhnghedgdaaGreatDoor
