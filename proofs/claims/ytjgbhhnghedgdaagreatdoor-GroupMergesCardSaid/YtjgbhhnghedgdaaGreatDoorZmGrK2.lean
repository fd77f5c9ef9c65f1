import Derived.Test.YtjgbhhnghedgdaaGreatDoorZmGrK1
set_option linter.all false
namespace Go.Proofs.YtjgbhhnghedgdaaGreatDoor
open Go.RowKit
set_option maxRecDepth 100000
set_option maxHeartbeats 4000000
theorem BN (g:gp) (e:dP) (hG:mj g) (h1:1≤e.kind) (h5:e.kind≤5) (ht:e.kind=3->1≤e.br∧e.br≤8) (hB:zZ e.dep):bC Tryz.prog 59 [.agg (bo g),.agg (aI e)] (.bk [.agg (bo (cS g e)),ai (gL g e)]):=by
 by_cases k1:e.kind=1
 ·have ce:gL g e=Cb g e:=if_pos k1
  have cg:cS g e=if Cb g e=0 then G3 g e else g:=by
   unfold cS
   rw [ce]
   by_cases q:Cb g e=0
   ·rw [if_neg ah,if_pos k1,if_pos q];rfl
   ·rw [if_pos q,if_neg q]
  have hr:=Ji g e hG
  rw [←cg,←ce] at hr
  generalize cS g e=G at *
  generalize gL g e=E at *
  refine zO Tryz.func59 80<|zq<|zS<|zq<|zB 0<|zP 1 [{}] [.aa [10,9,5,4,3,2,0,1] [4,3,2]] []<|dm 10 (e.kind == (1:Int)) eg<|zP 1 [yH [(2,{av:=some (AV.bk [AV.agg (bo G),ai E]),b:=false})]] [.aa [5,10,9,4,3,2,0,1] [4,3,2]] [yI hr,yL 5 5]<|zR<|bc<|aN (bL)
 by_cases k2:e.kind=2
 ·have ce:gL g e=AL g e:=by unfold gL;rw [if_neg k1,if_pos k2];rfl
  have cg:cS g e=if AL g e=0 then {g with al:=pG g.al (dG g.al e.name).toNat} else g:=by
   unfold cS
   rw [ce]
   by_cases q:AL g e=0
   ·rw [if_neg ah,if_neg k1,if_pos k2,if_pos q]
   ·rw [if_pos q,if_neg q]
  have hr:=BE g e hG
  rw [←cg,←ce] at hr
  generalize cS g e=G at *
  generalize gL g e=E at *
  refine zO Tryz.func59 80<|zq<|zS<|zq<|zB 0<|zP 1 [{}] [.aa [10,9,5,4,3,2,0,1] [4,3,2]] []<|bj 10 (e.kind == (1:Int)) bD<|zq<|dm 17 (e.kind == (2:Int)) eg<|zP 1 [yH [(2,{av:=some (AV.bk [AV.agg (bo G),ai E]),b:=false})]] [.aa [5,17,10,9,4,3,2,0,1] [4,3,2]] [yI hr,yL 5 5]<|zR<|bc<|aN (bL)
 by_cases k4:e.kind=4
 ·have ce:gL g e=xI g e:=by unfold gL;rw [if_neg k1,if_neg k2,if_neg ah,if_pos k4];rfl
  have cg:cS g e=if xI g e=0 then {g with aL:=g.aL++ [e.dep]} else g:=by
   unfold cS
   rw [ce]
   by_cases q:xI g e=0
   ·rw [if_neg ah,if_neg k1,if_neg k2,if_neg ah,if_pos k4,if_pos q]
   ·rw [if_pos q,if_neg q]
  have hr:=Df g e hG hB
  rw [←cg,←ce] at hr
  generalize cS g e=G at *
  generalize gL g e=E at *
  refine zO Tryz.func59 80<|zq<|zS<|zq<|zB 0<|zP 1 [{}] [.aa [10,9,5,4,3,2,0,1] [4,3,2]] []<|bj 10 (e.kind == (1:Int)) bD<|zq<|bj 17 (e.kind == (2:Int)) bD<|zP 1 [{}] [.aa [24,17,10,9,5,4,3,2,0,1] [4,3,2]] []<|bj 24 (e.kind == (3:Int)) bD<|zq<|dm 44 (e.kind == (4:Int)) eg<|zP 1 [yH [(2,{av:=some (AV.bk [AV.agg (bo G),ai E]),b:=false})]] [.aa [5,44,24,17,10,9,4,3,2,0,1] [4,3,2]] [yI hr,yL 5 5]<|zR<|bc<|aN (bL)
 obtain ⟨g1,g2,g3,g4,g5,g6⟩:=hG
 have ml:(ae aG g.al).length=g.al.length*4:=aE (e:=4) (fun _=>rfl) ..
 have qQ:(ae a_ g.aL).length=g.aL.length*7:=aE (e:=7) (fun _=>rfl) ..
 by_cases k3:e.kind=3
 ·obtain ⟨t1,t2⟩:=ht k3
  have ce:gL g e=if (g.al.length:Int)<e.br∨2*e.br≤g.al.length then 41 else 0:=by unfold gL;rw [if_neg k1,if_neg k2,if_pos k3]
  by_cases c1:(g.al.length:Int)<e.br
  ·rw [if_pos (.inl c1)] at ce
   have cg:cS g e=g:=if_pos ah
   rw [ce,cg]
   refine zO Tryz.func59 80<|zq<|zS<|zq<|zB 0<|zP 1 [{}] [.aa [10,9,5,4,3,2,0,1] [4,3,2]] []<|bj 10 (e.kind == (1:Int)) bD<|zq<|bj 17 (e.kind == (2:Int)) bD<|zP 1 [{}] [.aa [24,17,10,9,5,4,3,2,0,1] [4,3,2]] []<|dm 24 (e.kind == (3:Int)) eg<|zP 1 [yH [(2,{k:=g.al.length})]] [.aa [6,24,17,10,9,5,4,3,2,0,1] [4,3,2]] [yI ml]<|zS<|zP 1 [{}] [.aa [39,6,24,17,10,9,5,4,3,2,0,1] [4,3,2]] (yM 6 (yT (e.br>(↑g.al.length:Int))))<|zT 39<|zP 1 [{}] [.aa [5,39,6,24,17,10,9,4,3,2,0,1] [4,3,2]] [yL 5 5]<|dd<|bc<|aN (bL)
  by_cases c2:2*e.br≤g.al.length
  ·rw [if_pos (.inr c2)] at ce
   have cg:cS g e=g:=if_pos ah
   rw [ce,cg]
   refine zO Tryz.func59 80<|zq<|zS<|zq<|zB 0<|zP 1 [{}] [.aa [10,9,5,4,3,2,0,1] [4,3,2]] []<|bj 10 (e.kind == (1:Int)) bD<|zq<|bj 17 (e.kind == (2:Int)) bD<|zP 1 [{}] [.aa [24,17,10,9,5,4,3,2,0,1] [4,3,2]] []<|dm 24 (e.kind == (3:Int)) eg<|zP 1 [yH [(2,{k:=g.al.length})]] [.aa [6,24,17,10,9,5,4,3,2,0,1] [4,3,2]] [yI ml]<|zS<|zP 1 [yH ([(7,{av:=some (ai ((2:Int)*e.br)),g:=false}),(10,{b:=false})]++yg [5,6,8,9])] [.aa [39,6,24,17,10,9,5,4,3,2,0,1] [4,3,2]] (yM 3 (yF (e.br>(↑g.al.length:Int)))++ [yN ((2:Int)*e.br)]++yM 3 (yF (e.br>(↑g.al.length:Int))))<|gN 39 ((2:Int)*e.br≤(↑g.al.length:Int))<|zP 1 [{}] [.aa [5,39,6,24,17,10,9,4,3,2,0,1] [4,3,2]] [yL 5 5]<|dd<|bc<|aN (bL)
  rw [if_neg ah] at ce
  have cg:cS g e=⟨g.aA,g.head,e.br,g.al,g.aL⟩:=by unfold cS;rw [if_neg ah,if_neg k1,if_neg k2,if_pos k3]
  rw [ce,cg]
  refine zO Tryz.func59 80<|zq<|zS<|zq<|zB 0<|zP 1 [{}] [.aa [10,9,5,4,3,2,0,1] [4,3,2]] []<|bj 10 (e.kind == (1:Int)) bD<|zq<|bj 17 (e.kind == (2:Int)) bD<|zP 1 [{}] [.aa [24,17,10,9,5,4,3,2,0,1] [4,3,2]] []<|dm 24 (e.kind == (3:Int)) eg<|zP 1 [yH [(2,{k:=g.al.length})]] [.aa [6,24,17,10,9,5,4,3,2,0,1] [4,3,2]] [yI ml]<|zS<|zP 1 [yH ([(7,{av:=some (ai ((2:Int)*e.br)),g:=false}),(10,{b:=false})]++yg [5,6,8,9])] [.aa [39,6,24,17,10,9,5,4,3,2,0,1] [4,3,2]] (yM 3 (yF (e.br>(↑g.al.length:Int)))++ [yN ((2:Int)*e.br)]++yM 3 (yF (e.br>(↑g.al.length:Int))))<|dq 39 ((2:Int)*e.br≤(↑g.al.length:Int))<|aW<|zX {} [yL 3 5]<|aM<|ak<|zP 1 [{}] [.aa [5,41,39,6,24,17,10,9,4,3,2,0,1] [4,2,3]] [yL 5 5]<|zR (bL)
 have k5:e.kind=5:=ah
 have Dc:=BM g e.bY ah
 have gF:=DW g.aL ah
 have ce:gL g e=if vP g.aL e.bY=g.aL.length then 11 else if (g.aL.getD (vP g.aL e.bY) default).target≠0 then 18 else 0:=by unfold gL;rw [if_neg k1,if_neg k2,if_neg k3,if_neg k4]
 rcases oq g.aL e.bY with ⟨hf,hk⟩|⟨k,hf,hk,iH⟩
 ·rw [if_pos hf] at ce
  have cg:cS g e=g:=if_pos ah
  rw [ce,cg]
  rw [hk] at Dc
  refine zO Tryz.func59 80<|zq<|zS<|zq<|zB 0<|zP 1 [{}] [.aa [10,9,5,4,3,2,0,1] [4,3,2]] []<|bj 10 (e.kind == (1:Int)) bD<|zq<|bj 17 (e.kind == (2:Int)) bD<|zP 1 [{}] [.aa [24,17,10,9,5,4,3,2,0,1] [4,3,2]] []<|bj 24 (e.kind == (3:Int)) bD<|zq<|bj 44 (e.kind == (4:Int)) bD<|zP 1 [{}] [.aa [51,44,24,17,10,9,5,4,3,2,0,1] [4,3,2]] []<|dm 51 (e.kind == (5:Int)) eg<|zP 1 [yH [(3,yV (ai (-1:Int)))]] [.aa [7,51,44,24,17,10,9,5,4,3,2,0,1] [4,3,2]] [yI Dc]<|zS<|zq<|gN 58 ((-1:Int)<0)<|zP 1 [{}] [.aa [5,58,7,51,44,24,17,10,9,4,3,2,0,1] [4,3,2]] [yL 5 5]<|dd<|bc<|aN (bL)
 rw [if_neg ah,hf] at ce
 rw [hk] at Dc
 have gh:=zt iH
 by_cases c1:(g.aL.getD k default).target=0
 case neg =>
  rw [if_pos c1] at ce
  have cg:cS g e=g:=if_pos ah
  rw [ce,cg]
  refine zO Tryz.func59 80<|zq<|zS<|zq<|zB 0<|zP 1 [{}] [.aa [10,9,5,4,3,2,0,1] [4,3,2]] []<|bj 10 (e.kind == (1:Int)) bD<|zq<|bj 17 (e.kind == (2:Int)) bD<|zP 1 [{}] [.aa [24,17,10,9,5,4,3,2,0,1] [4,3,2]] []<|bj 24 (e.kind == (3:Int)) bD<|zq<|bj 44 (e.kind == (4:Int)) bD<|zP 1 [{}] [.aa [51,44,24,17,10,9,5,4,3,2,0,1] [4,3,2]] []<|dm 51 (e.kind == (5:Int)) eg<|zP 1 [yH [(3,yV (ai ↑k))]] [.aa [7,51,44,24,17,10,9,5,4,3,2,0,1] [4,3,2]] [yI Dc]<|zS<|zq<|dq 58 ((↑k:Int)<0)<|aW<|zS<|zP 1 [yH [(3,{k:=k}),(5,yV (aw ((g.aL.getD k default).target))),(6,yV (ao ((g.aL.getD k default).target != 0)))]] [.aa [66,58,7,51,44,24,17,10,9,5,4,3,2,0,1] [4,3,2]] [yR (↑k:Int),yO (k*7<(ae a_ g.aL).length),yA a_ g.aL k 6,yI (cJ ((g.aL.getD k default).target) 0)]<|dm 66 ((g.aL.getD k default).target != 0) (by simp_all)<|zP 1 [{}] [.aa [5,66,58,7,51,44,24,17,10,9,4,3,2,0,1] [4,3,2]] [yL 5 5]<|dd<|bc<|aN (bL)
 rw [if_neg (fun q=>q c1)] at ce
 have cg:cS g e=⟨g.aA,g.head,g.br,g.al,q8 g.aL k e.target⟩:=by unfold cS;rw [if_neg ah,if_neg k1,if_neg k2,if_neg k3,if_neg k4,hf]
 rw [ce,cg]
 have s1:=B0 iH e.target
 refine zO Tryz.func59 80<|zq<|zS<|zq<|zB 0<|zP 1 [{}] [.aa [10,9,5,4,3,2,0,1] [4,3,2]] []<|bj 10 (e.kind == (1:Int)) bD<|zq<|bj 17 (e.kind == (2:Int)) bD<|zP 1 [{}] [.aa [24,17,10,9,5,4,3,2,0,1] [4,3,2]] []<|bj 24 (e.kind == (3:Int)) bD<|zq<|bj 44 (e.kind == (4:Int)) bD<|zP 1 [{}] [.aa [51,44,24,17,10,9,5,4,3,2,0,1] [4,3,2]] []<|dm 51 (e.kind == (5:Int)) eg<|zP 1 [yH [(3,yV (ai ↑k))]] [.aa [7,51,44,24,17,10,9,5,4,3,2,0,1] [4,3,2]] [yI Dc]<|zS<|zq<|dq 58 ((↑k:Int)<0)<|aW<|zS<|zP 1 [yH [(3,{k:=k}),(5,yV (aw ((g.aL.getD k default).target))),(6,yV (ao false))]] [.aa [66,58,7,51,44,24,17,10,9,5,4,3,2,0,1] [4,3,2]] [yR (↑k:Int),yO (k*7<(ae a_ g.aL).length),yA a_ g.aL k 6,yB (ao (wv (g.aL.getD k default).target != (0:Int))=ao false) (by rw [c1];rfl)]<|zF 66<|aW<|zP 1 [yH [(2,{av:=some (AV.own 7 (ae a_ g.aL)),b:=false})]] [.aa [66,58,7,51,44,24,17,10,9,5,4,3,2,0,1] [2,70,4,3]] [yI gF,yL 5 5]<|zX (yH [(5,{k:=k}),(7,yV (AV.arr (ae a_ (q8 g.aL k e.target))))]) [yR (↑k:Int),yO (k*7<(ae a_ g.aL).length),yI s1,yO (k*7+6+1≤(ae a_ g.aL).length)]<|aM<|ak<|zP 1 [{}] [.aa [5,66,58,7,51,44,24,17,10,9,4,3,2,0,1] [4,70,2,3]] [yL 5 5]<|bf.r9 [.gq 70] bt<|zR (bL)
theorem oC (g:gp) (e:dP) (hG:mj g) (hB:mY e) (hv:e.aq.length≤1000000):bC Tryz.prog 30 [.agg (bo g),.agg (aI e)] (.bk [.agg (bo (ia g e)),ai (fD g e)]):=by
 have yx:(ae aU e.aq).length=e.aq.length*4:=aE (e:=4) (fun _=>rfl) ..
 have Ml:=tN e hB
 by_cases cb:dH e=0
 case neg =>
  have ce:fD g e=dH e:=if_pos cb
  have cg:ia g e=g:=if_pos (by rw [ce];exact cb)
  rw [if_neg cb] at Ml
  rw [ce,cg]
  refine zO Tryz.func30 92<|zP 2 [{},yH [(1,yV (AV.bk [aw 0,ai (dH e)]))]] [.aa [7,6,5,4,3,2,0,1] [4,3,2]] [yI Ml]<|zS<|zQ 1 [yH [(1,yV (ao true))]] [yB (ao (dH e != (0:Int))=ao true) (by simp [cb])]<|zT 19<|zP 1 [{}] [.aa [5,19,7,6,4,3,2,0,1] [4,3,2]] [yL 5 5]<|dd (bL)
 rw [if_pos cb,cb] at Ml
 obtain ⟨k1,k5,Rq,Th,tp,TR⟩:=qp cb
 by_cases c1:e.aA≠g.aA+1
 ·have ce:fD g e=42:=by unfold fD;rw [if_neg (fun q=>q cb),if_pos (.inl c1)]
  have cg:ia g e=g:=if_pos ah
  rw [ce,cg]
  have vG:(e.aA-1 != g.aA)=true:=bne_iff_ne.2 ah
  refine zO Tryz.func30 92<|zP 2 [{},yH [(1,yV (AV.bk [aw (di e),ai 0]))]] [.aa [7,6,5,4,3,2,0,1] [4,3,2]] [yI Ml]<|zS<|zq<|zF 19<|aW<|zS<|zP 1 [yH [(2,yV (ai (e.aA-1)))]] [.aa [34,19,7,6,5,4,3,2,0,1] [4,3,2]] ([yN (e.aA-1)]++yM 6 (yI vG))<|zT 34<|zP 1 [{}] [.aa [5,34,19,7,6,4,3,2,0,1] [4,3,2]] [yL 5 5]<|dd (bL)
 have Pa:e.aA=g.aA+1:=ah
 have vG:(e.aA-1 != g.aA)=false:=by rw [Pa];simp
 by_cases c2:e.prev=g.head
 case neg =>
  have ce:fD g e=42:=by unfold fD;rw [if_neg (fun q=>q cb),if_pos (.inr c2)]
  have cg:ia g e=g:=if_pos ah
  rw [ce,cg]
  have Tk:(e.prev != g.head)=true:=bne_iff_ne.2 c2
  refine zO Tryz.func30 92<|zP 2 [{},yH [(1,yV (AV.bk [aw (di e),ai 0]))]] [.aa [7,6,5,4,3,2,0,1] [4,3,2]] [yI Ml]<|zS<|zq<|zF 19<|aW<|zS<|zP 1 [yH ([(2,yV (ai (e.aA-1))),(11,{av:=some (ao (e.prev != g.head)),g:=false}),(12,{b:=false})]++yg [7,8,9,10])] [.aa [34,19,7,6,5,4,3,2,0,1] [4,3,2]] ([yN (e.aA-1)]++yM 5 (yI vG)++ [yI (cJ e.prev g.head),yI vG])<|dm 34 (e.prev != g.head) (by assumption)<|zP 1 [{}] [.aa [5,34,19,7,6,4,3,2,0,1] [4,3,2]] [yL 5 5]<|dd (bL)
 have Tk:(e.prev != g.head)=false:=by rw [c2];simp
 have GX:fD g e=if fB g (di e) e.aq≠0 then fB g (di e) e.aq else gL g e:=by unfold fD;rw [if_neg (fun q=>q cb),if_neg (by rintro (q|q);exact q Pa;exact q c2)]
 have m8:=hG.m8
 have Ch:=J2 g (di e) e.aq ah hv
 by_cases c3:fB g (di e) e.aq=0
 case neg =>
  rw [if_pos c3] at GX
  have cg:ia g e=g:=if_pos (by rw [GX];exact c3)
  rw [GX,cg]
  refine zO Tryz.func30 92<|zP 2 [{},yH [(1,yV (AV.bk [aw (di e),ai 0]))]] [.aa [7,6,5,4,3,2,0,1] [4,3,2]] [yI Ml]<|zS<|zQ 1 [yH [(1,yV (ao false))]] [yR (ao false)]<|zF 19<|aW<|zS<|zP 1 [yH ([(2,yV (ai (e.aA-1))),(11,{av:=some (ao (e.prev != g.head)),g:=false}),(12,{b:=false})]++yg [7,8,9,10])] [.aa [34,19,7,6,5,4,3,2,0,1] [4,3,2]] ([yN (e.aA-1)]++yM 5 (yI vG)++ [yI (cJ e.prev g.head),yI vG])<|bj 34 (e.prev != g.head) (by assumption)<|aW<|zS<|zP 2 [yH [(4,yV (ai (fB g (di e) e.aq)))],yH [(1,yV (ao true))]] [.aa [42,41,8,34,19,7,6,5,4,3,2,0,1] [4,3,2]] [yI Ch,yB (ao (fB g (di e) e.aq != (0:Int))=ao true) (by simp [c3])]<|zT 42<|zP 1 [{}] [.aa [5,42,41,8,34,19,7,6,4,3,2,0,1] [4,3,2]] [yL 5 5]<|dd (bL)
 have Lm:=fun i hi=>wE c3 (i:=i) hi
 rw [if_neg (fun q=>q c3)] at GX
 rw [c3] at Ch
 have wj:=BN g e hG k1 k5 (yQ cb) hB.dep
 rw [←GX] at wj
 by_cases c4:fD g e=0
 case neg =>
  have cg:ia g e=g:=if_pos c4
  rw [cg]
  refine zO Tryz.func30 92<|zP 2 [{},yH [(1,yV (AV.bk [aw (di e),ai 0]))]] [.aa [7,6,5,4,3,2,0,1] [4,3,2]] [yI Ml]<|zS<|zQ 1 [yH [(1,yV (ao false))]] [yR (ao false)]<|zF 19<|aW<|zS<|zP 1 [yH ([(2,yV (ai (e.aA-1))),(11,{av:=some (ao (e.prev != g.head)),g:=false}),(12,{b:=false})]++yg [7,8,9,10])] [.aa [34,19,7,6,5,4,3,2,0,1] [4,3,2]] ([yN (e.aA-1)]++yM 5 (yI vG)++ [yI (cJ e.prev g.head),yI vG])<|bj 34 (e.prev != g.head) (by assumption)<|aW<|zS<|zP 2 [yH [(4,yV (ai 0))],yH [(1,yV (ao false))]] [.aa [42,41,8,34,19,7,6,5,4,3,2,0,1] [4,3,2]] [yI Ch,yR (ao false)]<|zF 42<|aW<|zP 1 [yH [(2,{av:=some (AV.bk [AV.agg (bo (cS g e)),ai (fD g e)]),b:=false})]] [.aa [7,9,42,41,8,34,19,6,5,4,3,2,0,1] [9,4,3,2]] [yI wj,yL 5 5]<|zS<|zQ 1 [yH [(1,yV (ao true))]] [yB (ao (fD g e != (0:Int))=ao true) (by simp [c4])]<|zT 52<|zP 1 [{}] [.aa [5,52,7,9,42,41,8,34,19,6,4,3,2,0,1] [4,9,3,2]] [yL 5 5]<|dd (bL)
 have cg:ia g e=⟨e.aA,di e,(cS g e).br,ke (cS g e).al e.aq,(cS g e).aL⟩:=if_neg (fun q=>q c4)
 rw [cg,c4]
 rw [c4] at wj
 have gF:=B4 g e
 generalize cS g e=G at *
 have ml:∀i,(ae aG (ke G.al (e.aq.take i))).length=G.al.length*4:=fun i=>by rw [aE (e:=4) (fun _=>rfl),ns]
 have NN:=uF G.al ah
 generalize di e=W at *
 clear GX cg TR tp
 refine zO Tryz.func30 92<|zP 2 [{},yH [(1,yV (AV.bk [aw W,ai 0]))]] [.aa [7,6,5,4,3,2,0,1] [4,3,2]] [yI Ml]<|zS<|zq<|zF 19<|aW<|zS<|zP 1 [yH ([(2,yV (ai (e.aA-1))),(11,{av:=some (ao (e.prev != g.head)),g:=false}),(12,{b:=false})]++yg [7,8,9,10])] [.aa [34,19,7,6,5,4,3,2,0,1] [4,3,2]] ([yN (e.aA-1)]++yM 5 (yI vG)++ [yI (cJ e.prev g.head),yI vG])<|bj 34 (e.prev != g.head) (by assumption)<|aW<|zS<|zP 2 [yH [(4,yV (ai 0))],{}] [.aa [42,41,8,34,19,7,6,5,4,3,2,0,1] [4,3,2]] [yI Ch]<|zF 42<|aW<|zP 1 [yH [(2,{av:=some (AV.bk [AV.agg (bo G),ai 0]),b:=false})]] [.aa [7,9,42,41,8,34,19,6,5,4,3,2,0,1] [9,4,3,2]] [yI wj,yL 5 5]<|zS<|zq<|zF 52<|aW<|zP 3 [{},{},yH [(2,{av:=some (AV.own 4 (ae aG G.al)),b:=false})]] [.aa [52,7,9,42,41,8,34,19,6,5,4,3,2,0,1] [9,62,4,3,2]] [yL 1 5,yL 2 5,yI NN,yL 4 5]<|zS<|zQ 1 [yH [(2,{k:=e.aq.length})]] [yI yx]<|zB 0 (zL (fun (i:Nat)=>(⟨[(66,ai (↑e.aq.length:Int)),(65,AV.sl 4 (ae aU e.aq)),(52,ao ((0:Int) != (0:Int))),(7,ai 0),(9,AV.addr 9 0),(42,ao ((0:Int) != (0:Int))),(41,ai 0),(8,ai 0),(34,ao (e.prev != g.head)),(19,ao ((0:Int) != (0:Int))),(6,aw W),(5,ai 0),(4,AV.addr 4 0),(3,AV.addr 3 0),(2,AV.addr 2 0),(0,AV.agg (bo g)),(1,AV.agg (aI e)),(67,ai i)],[(9,⟨1,false,true,[ai e.aA,aw W,ai G.br,AV.ref 62,AV.sl 7 (ae a_ G.aL)]⟩),(4,⟨1,false,true,[ai 0,cN,ai 0,AV.nil,AV.nil]⟩),(3,⟨1,false,true,(aI e)⟩),(2,⟨1,false,true,List.map (aB 62) (List.map (aB 9) (List.map (aB 4) (List.map (aB 3) (List.map (aB 2) (bo g)))))⟩),(62,⟨4,true,false,ae aG (ke G.al (e.aq.take i))⟩)]⟩:AS)) (fun i=>(i≤e.aq.length)) (fun i=>(e.aq.length-i)) (0) ?_ (zW [.aa [66,65,52,7,9,42,41,8,34,19,6,5,4,3,2,0,1,67] [9,4,3,2,62]]) ?_)
 ·omega
 intro i hi
 have Vd:=ml i
 refine bf.jJ 1 [{}] bt (s':=AS.mk [(68,ao (decide ((↑i:Int)<(↑e.aq.length:Int)))),(66,ai (↑e.aq.length:Int)),(65,AV.sl 4 (ae aU e.aq)),(52,ao ((0:Int) != (0:Int))),(7,ai 0),(9,AV.addr 9 0),(42,ao ((0:Int) != (0:Int))),(41,ai 0),(8,ai 0),(34,ao (e.prev != g.head)),(19,ao ((0:Int) != (0:Int))),(6,aw W),(5,ai 0),(4,AV.addr 4 0),(3,AV.addr 3 0),(2,AV.addr 2 0),(0,AV.agg (bo g)),(1,AV.agg (aI e)),(67,ai ↑i)] [(9,Row.mk 1 false true [ai e.aA,aw W,ai G.br,AV.ref 62,AV.sl 7 (ae a_ G.aL)]),(4,Row.mk 1 false true [ai 0,cN,ai 0,AV.nil,AV.nil]),(3,Row.mk 1 false true (aI e)),(2,Row.mk 1 false true (List.map (aB 62) (List.map (aB 9) (List.map (aB 4) (List.map (aB 3) (List.map (aB 2) (bo g))))))),(62,Row.mk 4 true false (ae aG (ke G.al (List.take i e.aq))))]) (C:=[]) bt trivial<|zS (zD 68 ((↑i:Int)<(↑e.aq.length:Int)) (fun q=>?_) (fun q=>?_))
 ·have cX:i<e.aq.length:=ah
  have gh:=jt cX
  have dC:=wJ G.al cX
  obtain ⟨vM,E3⟩:=Lm i cX
  have WL:(ke G.al (e.aq.take i)).length=G.al.length:=ns _ _
  generalize ke G.al (e.aq.take i)=U at *
  have nm:bC Tryz.prog 61 [.agg (bo ⟨e.aA,W,G.br,U,G.aL⟩),cQ (e.aq.getD i default).name] (ai (dG U (e.aq.getD i default).name)):=nR ⟨e.aA,W,G.br,U,G.aL⟩ (e.aq.getD i default).name (by show U.length≤_;omega)
  rcases gI U (e.aq.getD i default).name with hk|⟨k,hk,iH,Qa⟩
  ·have h1:pU U (e.aq.getD i default)=U:=if_pos ah
   rw [h1] at dC
   rw [hk] at nm
   refine aW<|zS<|zB 1<|zP 3 [yH [(0,{k:=i}),(1,yV (AV.agg (aU (e.aq.getD i default))))],yH [(3,yV (ai (-1:Int)))],{}] [.aa [76,12,11,68,66,65,52,7,9,42,41,8,34,19,6,5,4,3,2,0,1,67] [11,9,4,3,2,62]] [yR (↑i:Int),yO (i*4<(ae aU e.aq).length),yu aU e.aq i 0 4,yR 4,yL 4 4,yI nm]<|dq 76 ((-1:Int)≥0)<|zK<|aM<|ak<|zX (yH [(0,yV (ai ((↑i:Int)+1)))]) [yN ((↑i:Int)+1)] (aH (i+1) (by assumption) ah (eu [.aa [66,65,52,7,9,42,41,8,34,19,6,5,4,3,2,0,1,67] [9,4,3,2,62]] [] [62] [yB (ae aG U=ae aG (ke G.al (List.take (i+1) e.aq))) (by rw [dC])]))
  ·have h1:pU U (e.aq.getD i default)=U.set k {U.getD k default with used:=(U.getD k default).used|||gE (e.aq.getD i default).leaf}:=by unfold pU;rw [if_neg ah,uD hk,hk];rfl
   rw [h1] at dC
   rw [hk] at nm
   have Si:=mE iH
   have R6:=xa iH ((U.getD k default).used|||gE (e.aq.getD i default).leaf)
   refine aW<|zS<|zB 1<|zP 3 [yH [(0,{k:=i}),(1,yV (AV.agg (aU (e.aq.getD i default))))],yH [(3,yV (ai ↑k))],{}] [.aa [76,12,11,68,66,65,52,7,9,42,41,8,34,19,6,5,4,3,2,0,1,67] [11,9,4,3,2,62]] [yR (↑i:Int),yO (i*4<(ae aU e.aq).length),yu aU e.aq i 0 4,yR 4,yL 4 4,yI nm]<|gN 76 ((↑k:Int)≥0)<|zX ({hs:=[(3,{k:=k}),(5,yV (aw ((U.getD k default).used))),(9,yV (aw (gE (e.aq.getD i default).leaf))),(10,yV (aw ((U.getD k default).used|||gE (e.aq.getD i default).leaf))),(11,{k:=k})],T:=10}) [yR (↑k:Int),yO (k*4<(ae aG U).length),yA aG U k 3,yB (AV.val (Value.int .u64 (IntKind.u64.wrap ((1:Int)*(2:Int)^min (e.aq.getD i default).leaf.toNat IntKind.u64.bits)))=aw (gE (e.aq.getD i default).leaf)) (jD 1 _ vM ah),yI vM,yI (pL ((U.getD k default).used) (gE (e.aq.getD i default).leaf)),yR (↑k:Int),yO (k*4<(ae aG U).length),yO (k*4+3+1≤(ae aG U).length)]<|aM<|ak<|zX (yH [(0,yV (ai ((↑i:Int)+1)))]) [yN ((↑i:Int)+1)] (aH (i+1) (by assumption) ah (eu [.aa [66,65,52,7,9,42,41,8,34,19,6,5,4,3,2,0,1,67] [9,4,3,2,62]] [] [62] [yB ((ae aG U).set (k*4+3) (aw ((U.getD k default).used|||gE (e.aq.getD i default).leaf))=ae aG (ke G.al (List.take (i+1) e.aq))) (by rw [dC];exact R6)]))
 ·have ei:i=e.aq.length:=ah
  subst ei
  rw [List.take_length]
  refine zE 0<|aS<|aK<|bg<|ak<|zP 1 [{}] [.aa [5,68,66,65,52,7,9,42,41,8,34,19,6,4,3,2,0,1,67] [4,9,3,2,62]] [yL 5 5]<|bf.r9 [.gq 62] bt<|zR (bL)
def QA (e:dP) (V:List gb):List AV:=[ai e.aA,aw e.prev,ai e.kind,cQ e.name,ai e.kh,aw e.kr,ai e.br,aw e.dep.bY,aw e.dep.peer,.own 1 (ag e.dep.box),.own 1 (ae ax e.dep.af),.own 1 (aj e.dep.ay),ai e.dep.need,aw e.dep.target,aw e.bY,aw e.target,.own 4 (ae aU V)]
theorem wC (e:dP) (W:UInt64) (name:List UInt8) (seed:UInt64) (h leaf:Int) (hv:e.aq= []) (hs:wS h leaf=0) (hw:bC Tryz.prog 50 [.agg (aI e)] (.bk [aw W,ai 0])) (h1:e.dep.box.length≤1000000) (h2:e.dep.af.length≤1000000) (h3:e.dep.ay.length≤1000000) :
  bC Tryz.prog 25 [.agg (aI e),cQ name,aw seed,ai h,ai leaf] (.bk [.agg (QA e [⟨name,pa h leaf,oG seed h leaf W,oF seed h leaf⟩]),ai 0]):=by
 have yx:(ae aU e.aq).length=0:=by rw [hv];rfl
 have Gm:=sH e.dep h1 h2 h3
 refine zO Tryz.func25 114<|zP 2 [{},yH [(1,yV (AV.bk [aw W,ai 0]))]] [.aa [13,12,11,10,5,0,1,2,3,4] [10,5]] [yI hw]<|zS<|zq<|zF 27<|aW<|zS<|zP 1 [yH [(2,{k:=e.aq.length})]] [.aa [33,32,31,27,13,12,11,10,5,0,1,2,3,4] [10,5]] [yB ((ae aU e.aq).length=e.aq.length*4) (by simp only [aE (f:=aU) (e:=4) (fun _=>rfl)])]<|zB 0 (zL (fun (i:Nat)=>(⟨[(32,ai (↑e.aq.length:Int)),(31,AV.sl 4 (ae aU e.aq)),(27,ao ((0:Int) != (0:Int))),(13,ai 0),(12,aw W),(10,AV.addr 10 0),(5,AV.addr 5 0),(0,AV.agg (aI e)),(1,cQ name),(2,aw seed),(3,ai h),(4,ai leaf),(33,ai i)],[(10,⟨1,false,true,[ai 0,cN,ai 0,AV.val (Value.string (ByteArray.mk #[])),ai 0,cN,ai 0,cN,cN,AV.nil,AV.nil,AV.nil,ai 0,cN,cN,cN,AV.nil]⟩),(5,⟨1,false,true,List.map (aB 10) (List.map (aB 5) (aI e))⟩)]⟩:AS)) (fun i=>(i=0)) (fun i=>0) (0) ?_ (zW [.aa [32,31,27,13,12,10,5,0,1,2,3,4,33] [10,5]]) ?_)
 ·rfl
 rintro i rfl
 refine zq<|zS<|bj 34 (decide ((↑(0:Nat):Int)<(↑e.aq.length:Int))) (by simp_all)<|zE 0<|aS<|aK<|bg<|ak<|zP 1 [yH [(4,{av:=some (AV.bk [AV.agg [ai (pa h leaf),AV.sl 1 (aj (oG seed h leaf W)),AV.own 1 (aj (oF seed h leaf))],ai (wS h leaf)]),b:=false})]] [.aa [13,16,34,32,31,27,12,10,5,0,1,2,3,4,33] [16,301048,10,5]] [yI (HC seed h leaf W),yL 3 3]<|zS<|zQ 1 [yH [(1,yV (ao false))]] [yB (ao (wS h leaf != (0:Int))=ao false) (by simp [hs])]<|zF 52<|aW<|zq<|zS<|zB 2 (zL (fun (i:Nat)=>(⟨[(52,ao false),(13,ai (wS h leaf)),(16,AV.addr 16 0),(34,ao (decide ((↑(0:Nat):Int)<(↑e.aq.length:Int)))),(32,ai (↑e.aq.length:Int)),(31,AV.sl 4 (ae aU e.aq)),(27,ao ((0:Int) != (0:Int))),(12,aw W),(10,AV.addr 10 0),(5,AV.addr 5 0),(0,AV.agg (aI e)),(1,cQ name),(2,aw seed),(3,ai h),(4,ai leaf),(33,ai (↑(0:Nat):Int)),(17,ai i)],[(16,⟨1,false,true,[ai (pa h leaf),AV.sl 1 (aj (oG seed h leaf W)),AV.ref 301048]⟩),(10,⟨1,false,true,[ai 0,cN,ai 0,AV.val (Value.string (ByteArray.mk #[])),ai 0,cN,ai 0,cN,cN,AV.nil,AV.nil,AV.nil,ai 0,cN,cN,cN,AV.nil]⟩),(5,⟨1,false,true,List.map (aB 16) (List.map (aB 301048) (List.map (aB 10) (List.map (aB 5) (aI e))))⟩),(301048,⟨1,true,false,aj (oF seed h leaf)⟩)]⟩:AS)) (fun i=>(i=0)) (fun i=>0) (0) ?_ (zW [.aa [52,13,16,34,32,31,27,12,10,5,0,1,2,3,4,33,17] [16,10,5,301048]]) ?_)
 ·rfl
 rintro i rfl
 have w1:IntKind.i64.wrap ((e.aq.length:Int)+1)=(1:Nat):=by rw [hv];rfl
 refine zS<|zP 1 [yH ([(3,{k:=e.aq.length}),(14,{b:=false})]++yg [6,7,8,9,10,11,12,13])] [.aa [69,52,13,16,34,32,31,27,12,10,5,0,1,2,3,4,33,17] [16,10,5,301048]] ([yB ((ae aU e.aq).length=e.aq.length*4) (by simp only [aE (f:=aU) (e:=4) (fun _=>rfl)])]++yM 9 (yS (decide ((↑(0:Nat):Int)<(↑e.aq.length:Int))=false)))<|zF 69<|zE 2<|aS<|aK<|bg<|ak<|zP 1 [yH [(2,{k:=e.aq.length}),(3,yV (ai (↑(1:Nat):Int))),(4,{k:=0,m:=1})]] [.aa [18,69,52,13,16,34,32,31,27,12,10,5,0,1,2,3,4,33,17] [76,16,10,5,301048]] [yB ((ae aU e.aq).length=e.aq.length*4) (by simp only [aE (f:=aU) (e:=4) (fun _=>rfl)]),yI (yc w1),yR (0:Int),yR (↑(1:Nat):Int),yL 0 1,yL 72 281474976710656,yB (1≤maxLen) (by decide)]<|zS<|zQ 1 [yH [(2,{k:=e.aq.length})]] [yB ((ae aU e.aq).length=e.aq.length*4) (by simp only [aE (f:=aU) (e:=4) (fun _=>rfl)])]<|zB 4 (zL (fun (i:Nat)=>(⟨[(79,ai (↑e.aq.length:Int)),(78,AV.sl 4 (ae aU e.aq)),(69,ao false),(52,ao false),(13,ai (wS h leaf)),(16,AV.addr 16 0),(34,ao (decide ((↑(0:Nat):Int)<(↑e.aq.length:Int)))),(32,ai (↑e.aq.length:Int)),(31,AV.sl 4 (ae aU e.aq)),(27,ao ((0:Int) != (0:Int))),(12,aw W),(10,AV.addr 10 0),(5,AV.addr 5 0),(0,AV.agg (aI e)),(1,cQ name),(2,aw seed),(3,ai h),(4,ai leaf),(33,ai (↑(0:Nat):Int)),(17,ai (↑(0:Nat):Int)),(80,ai i),(18,AV.ref 76)],[(16,⟨1,false,true,[ai (pa h leaf),AV.sl 1 (aj (oG seed h leaf W)),AV.ref 301048]⟩),(10,⟨1,false,true,[ai 0,cN,ai 0,AV.val (Value.string (ByteArray.mk #[])),ai 0,cN,ai 0,cN,cN,AV.nil,AV.nil,AV.nil,ai 0,cN,cN,cN,AV.nil]⟩),(5,⟨1,false,true,List.map (aB 76) (List.map (aB 16) (List.map (aB 301048) (List.map (aB 10) (List.map (aB 5) (aI e)))))⟩),(301048,⟨1,true,false,aj (oF seed h leaf)⟩),(76,⟨4,true,false,ae aU []⟩)]⟩:AS)) (fun i=>(i=0)) (fun i=>0) (0) ?_ (zW [.aa [79,78,69,52,13,16,34,32,31,27,12,10,5,0,1,2,3,4,33,17,80,18] [16,10,5,301048,76]]) ?_)
 ·rfl
 rintro i rfl
 have hI:gm Tryz.prog 53 [.ref 5,ai 0,.sl 4 [cQ name,ai (pa h leaf),.sl 1 (aj (oG seed h leaf W)),.sl 1 (aj (oF seed h leaf))]] [(5,⟨4,true,false,ae aU []⟩)] (.own 4 (ae aU [⟨name,pa h leaf,oG seed h leaf W,oF seed h leaf⟩])) [(5,⟨4,true,false,ae aU []⟩)]:=Bg [] ⟨name,pa h leaf,oG seed h leaf W,oF seed h leaf⟩ (by decide)
 refine zq<|zS<|bj 81 (decide ((↑(0:Nat):Int)<(↑e.aq.length:Int))) (by simp_all)<|zE 4<|aS<|aK<|bg<|ak<|zP 3 [yH [(6,{av:=some (AV.own 4 (ae aU [gb.mk name (pa h leaf) (oG seed h leaf W) (oF seed h leaf)])),ln:=[(76,5)],ho:=[(5,Row.mk 4 true false (ae aU []))]})],yH [(2,{av:=some (AV.agg [aw e.dep.bY,aw e.dep.peer,AV.own 1 (ag e.dep.box),AV.own 1 (ae ax e.dep.af),AV.own 1 (aj e.dep.ay),ai e.dep.need,aw e.dep.target]),b:=false})],{}] [.aa [11,81,79,78,69,52,13,16,34,32,31,27,12,10,5,0,1,2,3,4,33,17,80] [10,5,500111,400111,300111,107,16]] [yI hI,yL 17 17,yI Gm,yL 14 17,yL 17 17]<|zR (bL)
theorem I_ (q:Nat) (hq:q<16):(q%2=0->q^^^1=q+1∧q=2*(q/2))∧(q%2≠0->q^^^1=q-1∧q=2*(q/2)+1):=by
 have key:∀q:Fin 16,(q.val%2=0->q.val^^^1=q.val+1∧q.val=2*(q.val/2))∧(q.val%2≠0->q.val^^^1=q.val-1∧q.val=2*(q.val/2)+1):=by decide +kernel
 exact key ⟨q,hq⟩
theorem D6 (seed:UInt64) (leaf n:Nat) (x:UInt64) (hx:x=gf seed 0 leaf) (S9:leaf<16) (k:Nat) (hk:k≤n):dv leaf (dn seed leaf n) x k=gf seed k (leaf/2^k):=by
 induction k with
 | zero=>simp [dv,hx]
 | succ k ih =>
  have ih:=ih ah
  have hg:(dn seed leaf n).getD k 0=gf seed k (leaf/2^k^^^1):=by simp [dn,show k<n by omega]
  have hd:leaf/2^(k+1)=leaf/2^k/2:=by rw [Nat.pow_succ,Nat.div_div_eq_div_mul]
  obtain ⟨h1,h2⟩:=I_ (leaf/2^k) (Nat.lt_of_le_of_lt (Nat.div_le_self ..) S9)
  unfold dv
  rw [ih,hg,hd]
  generalize leaf/2^k=q at *
  by_cases hq:q%2=0
  ·obtain ⟨e1,e2⟩:=h1 hq
   rw [if_pos hq,e1]
   show gR _ _ _=gR _ _ _
   rw [←e2]
  ·obtain ⟨e1,e2⟩:=h2 hq
   rw [if_neg hq,e1]
   show gR _ _ _=gR _ _ _
   rw [show 2*(q/2)+1=q by omega,show 2*(q/2)=q-1 by omega]
theorem Hp (seed:UInt64) (h leaf:Nat) (m:UInt64) (hh:h≤4) (hl:leaf<2^h):kA (h:Int) (gf seed h 0) m (leaf:Int) (bW seed leaf m 18) (dn seed leaf h)=0:=by
 have hb:¬i7 (h:Int) (leaf:Int):=by unfold i7 bB;rw [Int.toNat_natCast];omega
 have e:=D6 seed leaf h (combine leaf (cO leaf m (bW seed leaf m 18) 18)) (by rw [HX];rfl) (Nat.lt_of_lt_of_le hl (Nat.pow_le_pow_right (by decide) hh)) h (Nat.le_refl h)
 rw [Nat.div_eq_of_lt hl] at e
 unfold kA
 rw [if_neg hb,if_neg (by rw [qZ,rj];omega),Int.toNat_natCast,Int.toNat_natCast,if_pos e]
def JG:List (Nat×Nat):=[(9,1),(10,1),(11,1),(16,4)]
def Og:np:=⟨0,0,[],[],[],0,0⟩
theorem RG:eh [109,48]=0:=EI (by decide) (by decide)
theorem Pw:eh [109,49]=0:=EI (by decide) (by decide)
theorem Pr (s:UInt64):Kk s 4=gf s 4 0:=if_neg (show ¬bB 4 by decide)
theorem RL:dJ 0=⟨[109,48],4,gf 300 4 0,0⟩:=by
 unfold dJ
 rw [Pr,show u8 (48+((0:Nat):Int))=48 by decide,show (300:UInt64)+u64 ((0:Nat):Int)=300 by decide]
theorem RK:dJ 1=⟨[109,49],4,gf 301 4 0,0⟩:=by
 unfold dJ
 rw [Pr,show u8 (48+((1:Nat):Int))=49 by decide,show (300:UInt64)+u64 ((1:Nat):Int)=301 by decide]
def gK (hd P:UInt64) (V:List gb):dP:=⟨1,hd,1,[109,49],4,P,0,Og,0,0,V⟩
def iY (W:UInt64) (V:List gb):dP:=⟨2,W,2,[109,49],0,0,0,Og,0,0,V⟩
def QI (hd P:UInt64):List AV:=[ai 1,aw hd,ai 1,cQ [109,49],ai 4,aw P,ai 0,aw 0,aw 0,.nil,.nil,.nil,ai 0,aw 0,aw 0,aw 0,.nil]
def Tj (W:UInt64):List AV:=[ai 2,aw W,ai 2,cQ [109,49],ai 0,aw 0,ai 0,aw 0,aw 0,.nil,.nil,.nil,ai 0,aw 0,aw 0,aw 0,.nil]
theorem MD:zZ Og:=⟨Nat.zero_le _,Nat.zero_le _,Nat.zero_le _,fun i hi=>absurd hi (Nat.not_lt_zero i)⟩
theorem DN (hd P:UInt64) (V:List gb):mY (gK hd P V):=⟨Nat.le_of_ble_eq_true rfl,MD⟩
theorem JI (W:UInt64) (V:List gb):mY (iY W V):=⟨Nat.le_of_ble_eq_true rfl,MD⟩
theorem DO (hd P:UInt64) (V:List gb):dH (gK hd P V)=0:=by
 have hs:fk (gK hd P V):=⟨.inl rfl,.inl rfl,.inr rfl,.inr ⟨rfl,rfl,rfl,rfl,rfl,rfl,rfl⟩,.inr ⟨rfl,rfl⟩,rfl⟩
 rw [Jg (show (1:Int)≤1 by omega) (show (1:Int)≤5 by omega) hs (show (1:Int)≤1 by omega) (show (1:Int)≤2147483647 by omega)]
 unfold fb
 rw [if_pos (show (gK hd P V).kind=1 from rfl),if_neg (fun q=>q Pw)]
 show e_ 4=0
 decide
theorem DM (W:UInt64) (V:List gb):dH (iY W V)=0:=by
 have hs:fk (iY W V):=⟨.inr (.inl rfl),.inr ⟨rfl,rfl⟩,.inr rfl,.inr ⟨rfl,rfl,rfl,rfl,rfl,rfl,rfl⟩,.inr ⟨rfl,rfl⟩,rfl⟩
 rw [Jg (show (1:Int)≤2 by omega) (show (2:Int)≤5 by omega) hs (show (1:Int)≤2 by omega) (show (2:Int)≤2147483647 by omega)]
 unfold fb
 rw [if_neg (show ¬(iY W V).kind=1 from (show ¬(2:Int)=1 by omega)),if_pos (show (iY W V).kind=2 from rfl)]
 exact Pw
theorem yl (m:Mem) (l:List Mem) {h:List UInt8} (e:m.name=h):dG (m::l) h=(0:Nat):=ym (i:=0) (Nat.zero_lt_succ _) ah e
theorem Ih (m:Mem) {h:List UInt8} (e:m.name≠h):dG [m] h= -1:=yk fun j hj=>by
 have:j=0:=by simp at hj;omega
 subst this;exact e
theorem Af (g:gp) (W:UInt64) (v:gb) (k:Nat) (h1:dG g.al v.name=k) (h3:kA (g.al.getD k default).h (g.al.getD k default).r W v.leaf v.ga v.path=0) (h6:(g.al.getD k default).used&&&gE v.leaf=0):fB g W [v]=if (1:Int)<g.br then 41 else 0:=by
 have h0:jY g W [v] 0=0:=by
  rw [xF (l:=[v]) (i:=0) (fun q=>absurd q.1 (Nat.lt_irrefl 0)) h1 h3,if_neg (fun q=>q h6)]
 have hf:ff (jY g W [v]) [v].length=0:=h0
 unfold fB
 rw [if_neg (fun q=>q hf)];rfl
theorem B7:bC Tryz.prog 12 [] (ao true):=by
 have Mq:=fP 0 ah
 have Gg:=fP 1 ah
 rw [RL] at Mq
 rw [RK] at Gg
 have EV (l:Nat) (hl:l<16) (m:UInt64):=Hp 300 4 l m ah ah
 generalize gf 300 4 0=P0 at *
 generalize gf 301 4 0=P1 at *
 have Br:e_ 4=0:=by decide
 have hn:=BF ⟨[109,48],4,P0,0⟩ (Nat.le_of_ble_eq_true rfl)
 have ne:eY ⟨[109,48],4,P0,0⟩=0:=by unfold eY;rw [if_neg (by simp [RG]),if_neg (by simp [Br]),if_neg (by simp)]
 rw [ne,show bH ⟨[109,48],4,P0,0⟩=⟨0,hash 16 (dh 4 P0++ [109,48]),1,[⟨[109,48],4,P0,0⟩],[]⟩ from if_pos ne] at hn
 generalize hash 16 (dh 4 P0++ [109,48])=hd at hn
 have PC (V:List gb):=tN _ (DN hd P1 V)
 simp only [if_pos (DO hd P1 _),DO] at PC
 have qx (V:List gb):di (gK hd P1 V)=di (gK hd P1 []):=rfl
 have aX (V:List gb):=J9 (g:=⟨0,hd,1,[⟨[109,48],4,P0,0⟩],[]⟩) (DO hd P1 V) rfl rfl
 simp only [qx] at PC aX
 obtain ⟨W,hW⟩:∃W,W=di (gK hd P1 []):=⟨_,rfl⟩
 rw [←hW] at PC aX
 have PB (V:List gb):=tN _ (JI W V)
 simp only [if_pos (DM W _),DM] at PB
 have qz (V:List gb):di (iY W V)=di (iY W []):=rfl
 have aZ (V:List gb):=J9 (g:=⟨1,W,2,[⟨[109,48],4,P0,1⟩,⟨[109,49],4,P1,0⟩],[]⟩) (DM W V) rfl rfl
 simp only [qz] at PB aZ
 obtain ⟨W2,VF⟩:∃W2,W2=di (iY W []):=⟨_,rfl⟩
 rw [←VF] at PB aZ
 have b0:¬i7 4 0:=by decide
 have b1:¬i7 4 1:=by decide
 have hv:=wC (gK hd P1 []) W [109,48] 300 4 0 rfl (if_neg b0) (PC []) (Nat.le_of_ble_eq_true rfl) (Nat.le_of_ble_eq_true rfl) (Nat.le_of_ble_eq_true rfl)
 have Nl:=wC (iY W []) W2 [109,48] 300 4 1 rfl (if_neg b1) (PB []) (Nat.le_of_ble_eq_true rfl) (Nat.le_of_ble_eq_true rfl) (Nat.le_of_ble_eq_true rfl)
 rw [show pa 4 0=0 from if_neg b0,show oG 300 4 0 W=bW 300 0 W 18 from if_neg b0,show oF 300 4 0=dn 300 0 4 from if_neg b0] at hv
 rw [show pa 4 1=1 from if_neg b1,show oG 300 4 1 W2=bW 300 1 W2 18 from if_neg b1,show oF 300 4 1=dn 300 1 4 from if_neg b1] at Nl
 have lP:=EV 0 ah W
 have gV:=EV 1 ah W2
 clear EV
 have q0:bW 300 ((0:Nat):Int) W 18=bW 300 0 W 18:=rfl
 have q1:bW 300 ((1:Nat):Int) W2 18=bW 300 1 W2 18:=rfl
 rw [q0] at lP
 rw [q1] at gV
 generalize bW 300 0 W 18=C0 at *
 generalize bW 300 1 W2 18=C1 at *
 generalize dn 300 0 4=A0 at *
 generalize dn 300 1 4=A1 at *
 have V0:=Af ⟨0,hd,1,[⟨[109,48],4,P0,0⟩],[]⟩ W ⟨[109,48],0,C0,A0⟩ 0 (yl _ _ rfl) lP (show (0:UInt64)&&&((1:UInt64)<<<UInt64.ofNat (Int.toNat 0))=0 by decide)
 have V1:=Af ⟨1,W,2,[⟨[109,48],4,P0,1⟩,⟨[109,49],4,P1,0⟩],[]⟩ W2 ⟨[109,48],1,C1,A1⟩ 0 (yl _ _ rfl) gV (show (1:UInt64)&&&((1:UInt64)<<<UInt64.ofNat (Int.toNat 1))=0 by decide)
 have Rt:fD ⟨0,hd,1,[⟨[109,48],4,P0,0⟩],[]⟩ (gK hd P1 [⟨[109,48],0,C0,A0⟩])=0:=by
  rw [aX,show fB _ W (gK hd P1 [⟨[109,48],0,C0,A0⟩]).aq=0 from V0.trans (if_neg (show ¬(1:Int)<1 by omega)),if_neg (fun q=>q rfl)]
  unfold gL
  rw [if_pos (show (gK hd P1 _).kind=1 from rfl),show dG [⟨[109,48],4,P0,0⟩] (gK hd P1 [⟨[109,48],0,C0,A0⟩]).name= -1 from Ih _ (show ([109,48]:List UInt8)≠ [109,49] by decide)]
  rfl
 have Tp:fD ⟨0,hd,1,[⟨[109,48],4,P0,0⟩],[]⟩ (gK hd P1 [])=41:=by rw [aX];rfl
 have To:fD ⟨1,W,2,[⟨[109,48],4,P0,1⟩,⟨[109,49],4,P1,0⟩],[]⟩ (iY W [⟨[109,48],1,C1,A1⟩])=41:=by
  rw [aZ,show fB _ W2 (iY W [⟨[109,48],1,C1,A1⟩]).aq=41 from V1.trans (if_pos (show (1:Int)<2 by omega)),if_pos ah]
 have eA:ia ⟨0,hd,1,[⟨[109,48],4,P0,0⟩],[]⟩ (gK hd P1 [⟨[109,48],0,C0,A0⟩])=⟨1,W,2,[⟨[109,48],4,P0,1⟩,⟨[109,49],4,P1,0⟩],[]⟩:=by
  have hc:gL ⟨0,hd,1,[⟨[109,48],4,P0,0⟩],[]⟩ (gK hd P1 [⟨[109,48],0,C0,A0⟩])=0:=(xw Rt).2.2.2.2
  rw [Ft Rt,qx,←hW]
  unfold cS
  rw [if_neg (fun q=>q hc),if_pos (show (gK hd P1 _).kind=1 from rfl)]
  have hu:pU [⟨[109,48],4,P0,0⟩,⟨[109,49],4,P1,0⟩] ⟨[109,48],0,C0,A0⟩= [⟨[109,48],4,P0,1⟩,⟨[109,49],4,P1,0⟩]:=by
   have hm:dG [⟨[109,48],4,P0,0⟩,⟨[109,49],4,P1,0⟩] (⟨[109,48],0,C0,A0⟩:gb).name=(0:Nat):=yl _ _ rfl
   unfold pU
   rw [uD hm,hm,if_neg ah]
   show [(⟨[109,48],4,P0,(0:UInt64)|||gE 0⟩:Mem),⟨[109,49],4,P1,0⟩]=_
   rw [show (0:UInt64)|||gE 0=1 by decide]
  show (⟨1,W,if 2*(1:Int)≤((1:Nat):Int)+1 then 1+1 else 1,pU [⟨[109,48],4,P0,0⟩,⟨[109,49],4,P1,0⟩] ⟨[109,48],0,C0,A0⟩,[]⟩:gp)=_
  rw [if_pos ah,hu];rfl
 have hA:=oC ⟨0,hd,1,[⟨[109,48],4,P0,0⟩],[]⟩ (gK hd P1 [⟨[109,48],0,C0,A0⟩]) ⟨Int.le_refl 0,(show (0:Int)≤2147483647 by omega),(ah:1≤8),(show (0:Int)≤1 by omega),(show (1:Int)≤8 by omega),Nat.zero_le _⟩ (DN _ _ _) (ah:1≤1000000)
 rw [Rt,eA] at hA
 have hQ:=oC ⟨0,hd,1,[⟨[109,48],4,P0,0⟩],[]⟩ (gK hd P1 []) ⟨Int.le_refl 0,(show (0:Int)≤2147483647 by omega),(ah:1≤8),(show (0:Int)≤1 by omega),(show (1:Int)≤8 by omega),Nat.zero_le _⟩ (DN _ _ _) (Nat.zero_le _)
 rw [Tp,tC (by rw [Tp];omega)] at hQ
 have Ui:=oC ⟨1,W,2,[⟨[109,48],4,P0,1⟩,⟨[109,49],4,P1,0⟩],[]⟩ (iY W [⟨[109,48],1,C1,A1⟩]) ⟨(show (0:Int)≤1 by omega),(show (1:Int)≤2147483647 by omega),(ah:2≤8),(show (0:Int)≤2 by omega),(show (2:Int)≤8 by omega),Nat.zero_le _⟩ (JI _ _) (ah:1≤1000000)
 rw [To,tC (by rw [To];omega)] at Ui
 have ID:bC Tryz.prog 25 [.agg (QI hd P1),cQ [109,48],aw 300,ai 4,ai 0] _:=bC.EJ JG hv
 have R1:bC Tryz.prog 25 [.agg (Tj W),cQ [109,48],aw 300,ai 4,ai 1] (.bk [.agg (QA (iY W [⟨[109,48],1,C1,A1⟩]) [⟨[109,48],1,C1,A1⟩]),ai 0]):=bC.EJ JG Nl
 have VH:bC Tryz.prog 30 [.agg (bo ⟨0,hd,1,[⟨[109,48],4,P0,0⟩],[]⟩),.agg (QI hd P1)] _:=bC.EJ JG hQ
 clear V0 V1 lP gV eA PC PB hv Nl hQ q0 q1 ne Br aX aZ Rt Tp To qx qz
 refine zO Tryz.func12 100<|zP 2 [{},yH [(0,yV (AV.agg [AV.val (Value.string (ByteArray.mk #[109,48])),ai 4,aw P0,aw 0])),(1,{av:=some (AV.bk [AV.agg [ai 0,aw hd,ai 1,AV.own 4 (ae aG [Mem.mk [109,48] (4:Int) P0 0]),AV.own 7 (ae a_ [])],ai 0]),b:=false})]] [.aa [2,1,0] [1,501016,401016]] [yI Mq,yI hn,yL 5 5]<|zS<|wz 6 [5] [(2,yV (AV.agg [AV.val (Value.string (ByteArray.mk #[109,49])),ai 4,aw P1,aw 0]))] [yI Gg,yR (AV.addr 1 1),yR (aw hd),yR (AV.agg [AV.val (Value.string (ByteArray.mk #[109,49])),ai 4,aw P1,aw 0]),yI Gg,yR (AV.agg [ai 4,aw P1]),yR (AV.agg [ai 1,aw hd,ai 1,AV.val (Value.string (ByteArray.mk #[109,49])),ai 4,aw P1,ai 0,AV.val (Value.int .u64 0),AV.val (Value.int .u64 0),AV.nil,AV.nil,AV.nil,ai 0,AV.val (Value.int .u64 0),AV.val (Value.int .u64 0),AV.val (Value.int .u64 0),AV.nil]),yL 17 17]<|ak<|bf.r9 [.aa [3,2,1,0] [3,1,501016,401016]] bt<|zP 6 [yH [(1,{av:=some (AV.bk [AV.agg [ai ((gK hd P1 []).aA),aw ((gK hd P1 []).prev),ai ((gK hd P1 []).kind),cQ (gK hd P1 []).name,ai ((gK hd P1 []).kh),aw ((gK hd P1 []).kr),ai ((gK hd P1 []).br),aw ((gK hd P1 []).dep.bY),aw ((gK hd P1 []).dep.peer),AV.own 1 (ag (gK hd P1 []).dep.box),AV.own 1 (ae ax (gK hd P1 []).dep.af),AV.own 1 (aj (gK hd P1 []).dep.ay),ai ((gK hd P1 []).dep.need),aw ((gK hd P1 []).dep.target),aw ((gK hd P1 []).bY),aw ((gK hd P1 []).target),AV.own 4 (ae aU [gb.mk [109,48] (0:Int) C0 A0])],ai 0]),b:=false})],yH [(2,{av:=some (AV.bk [AV.agg [ai 1,aw W,ai 2,AV.sl 4 (ae aG [Mem.mk [109,48] (4:Int) P0 1,Mem.mk [109,49] (4:Int) P1 0]),AV.sl 7 (ae a_ [])],ai 0]),b:=false})],yH [(2,{av:=some (AV.bk [AV.agg [ai 0,aw hd,ai 1,AV.sl 4 (ae aG [Mem.mk [109,48] (4:Int) P0 0]),AV.sl 7 (ae a_ [])],ai 41]),b:=false})],yH [(3,{av:=some (AV.bk [AV.agg [ai ((iY W [gb.mk [109,48] (1:Int) C1 A1]).aA),aw ((iY W [gb.mk [109,48] (1:Int) C1 A1]).prev),ai ((iY W [gb.mk [109,48] (1:Int) C1 A1]).kind),cQ (iY W [gb.mk [109,48] (1:Int) C1 A1]).name,ai ((iY W [gb.mk [109,48] (1:Int) C1 A1]).kh),aw ((iY W [gb.mk [109,48] (1:Int) C1 A1]).kr),ai ((iY W [gb.mk [109,48] (1:Int) C1 A1]).br),aw ((iY W [gb.mk [109,48] (1:Int) C1 A1]).dep.bY),aw ((iY W [gb.mk [109,48] (1:Int) C1 A1]).dep.peer),AV.own 1 (ag (iY W [gb.mk [109,48] (1:Int) C1 A1]).dep.box),AV.own 1 (ae ax (iY W [gb.mk [109,48] (1:Int) C1 A1]).dep.af),AV.own 1 (aj (iY W [gb.mk [109,48] (1:Int) C1 A1]).dep.ay),ai ((iY W [gb.mk [109,48] (1:Int) C1 A1]).dep.need),aw ((iY W [gb.mk [109,48] (1:Int) C1 A1]).dep.target),aw ((iY W [gb.mk [109,48] (1:Int) C1 A1]).bY),aw ((iY W [gb.mk [109,48] (1:Int) C1 A1]).target),AV.own 4 (ae aU [gb.mk [109,48] (1:Int) C1 A1])],ai 0]),b:=false})],yH [(2,{av:=some (AV.bk [AV.agg [ai 1,aw W,ai 2,AV.sl 4 (ae aG [Mem.mk [109,48] (4:Int) P0 1,Mem.mk [109,49] (4:Int) P1 0]),AV.sl 7 (ae a_ [])],ai 41]),b:=false})],yH [(30,{k:=2}),(36,{k:=0}),(39,yV (ao (1 == 1)))]] [.aa [0,13,11,10,9,7,6,5,4,3,2,1] [10,6,4,3,1]] ([yI ID,yL 17 17,yI hA,yL 5 5,yI VH,yL 5 5,yI R1,yL 17 17,yI Ui,yL 5 5]++yM 22 (yR true)++ [yR (2*4)]++yM 5 (yR true)++ [yR (0:Int),yO (0<8)]++yM 3 (yR true)++ [yR (ao (1 == 1))]++yM 5 (yR true))<|zR (bL)
end Go.Proofs.YtjgbhhnghedgdaaGreatDoor
