import Derived.Test.YtjgbhhnghedgdaaGreatDoorZpGrK1
set_option linter.all false
namespace Go.Proofs.YtjgbhhnghedgdaaGreatDoor
open Go.RowKit
set_option maxRecDepth 100000
set_option maxHeartbeats 4000000
theorem AY (g:gB) (e:fo) (hG:nI g) (h1:1≤e.kind) (h5:e.kind≤5) (ht:e.kind=3->1≤e.bt∧e.bt≤8) (hB:yP e.dep):bK Tryz.prog 59 [.agg (bV g),.agg (bX e)] (.br [.agg (bV (cP g e)),ai (gK g e)]):=by
 by_cases k1:e.kind=1
 ·have ce:gK g e=Bo g e:=if_pos k1
  have cg:cP g e=if Bo g e=0 then FX g e else g:=by
   unfold cP
   rw [ce]
   by_cases q:Bo g e=0
   ·rw [if_neg aj,if_pos k1,if_pos q];rfl
   ·rw [if_pos q,if_neg q]
  have hr:=Iq g e hG
  rw [←cg,←ce] at hr
  generalize cP g e=G at *
  generalize gK g e=E at *
  refine zO Tryz.func59 80<|zq<|zS<|zq<|zB 0<|zP 1 [{}] [.aa [10,9,5,4,3,2,0,1] [4,3,2]] []<|dr 10 (e.kind == (1:Int)) fi<|zP 1 [yH [(2,{av:=some (AV.br [AV.agg (bV G),ai E]),b:=false})]] [.aa [5,10,9,4,3,2,0,1] [4,3,2]] [yI hr,yL 5 5]<|zR<|bc<|aK (bU)
 by_cases k2:e.kind=2
 ·have ce:gK g e=zJ g e:=by unfold gK;rw [if_neg k1,if_pos k2];rfl
  have cg:cP g e=if zJ g e=0 then {g with al:=pb g.al (dC g.al e.name).toNat} else g:=by
   unfold cP
   rw [ce]
   by_cases q:zJ g e=0
   ·rw [if_neg aj,if_neg k1,if_pos k2,if_pos q]
   ·rw [if_pos q,if_neg q]
  have hr:=AL g e hG
  rw [←cg,←ce] at hr
  generalize cP g e=G at *
  generalize gK g e=E at *
  refine zO Tryz.func59 80<|zq<|zS<|zq<|zB 0<|zP 1 [{}] [.aa [10,9,5,4,3,2,0,1] [4,3,2]] []<|bj 10 (e.kind == (1:Int)) bE<|zq<|dr 17 (e.kind == (2:Int)) fi<|zP 1 [yH [(2,{av:=some (AV.br [AV.agg (bV G),ai E]),b:=false})]] [.aa [5,17,10,9,4,3,2,0,1] [4,3,2]] [yI hr,yL 5 5]<|zR<|bc<|aK (bU)
 by_cases k4:e.kind=4
 ·have ce:gK g e=wZ g e:=by unfold gK;rw [if_neg k1,if_neg k2,if_neg aj,if_pos k4];rfl
  have cg:cP g e=if wZ g e=0 then {g with aJ:=g.aJ++ [e.dep]} else g:=by
   unfold cP
   rw [ce]
   by_cases q:wZ g e=0
   ·rw [if_neg aj,if_neg k1,if_neg k2,if_neg aj,if_pos k4,if_pos q]
   ·rw [if_pos q,if_neg q]
  have hr:=Cp g e hG hB
  rw [←cg,←ce] at hr
  generalize cP g e=G at *
  generalize gK g e=E at *
  refine zO Tryz.func59 80<|zq<|zS<|zq<|zB 0<|zP 1 [{}] [.aa [10,9,5,4,3,2,0,1] [4,3,2]] []<|bj 10 (e.kind == (1:Int)) bE<|zq<|bj 17 (e.kind == (2:Int)) bE<|zP 1 [{}] [.aa [24,17,10,9,5,4,3,2,0,1] [4,3,2]] []<|bj 24 (e.kind == (3:Int)) bE<|zq<|dr 44 (e.kind == (4:Int)) fi<|zP 1 [yH [(2,{av:=some (AV.br [AV.agg (bV G),ai E]),b:=false})]] [.aa [5,44,24,17,10,9,4,3,2,0,1] [4,3,2]] [yI hr,yL 5 5]<|zR<|bc<|aK (bU)
 obtain ⟨g1,g2,g3,g4,g5,g6⟩:=hG
 have l0:(af aI g.al).length=g.al.length*4:=aE (e:=4) (fun _=>rfl) ..
 have qt:(af bg g.aJ).length=g.aJ.length*7:=aE (e:=7) (fun _=>rfl) ..
 by_cases k3:e.kind=3
 ·obtain ⟨t1,t2⟩:=ht k3
  have ce:gK g e=if (g.al.length:Int)<e.bt∨2*e.bt≤g.al.length then 41 else 0:=by unfold gK;rw [if_neg k1,if_neg k2,if_pos k3]
  by_cases c1:(g.al.length:Int)<e.bt
  ·rw [if_pos (.inl c1)] at ce
   have cg:cP g e=g:=if_pos aj
   rw [ce,cg]
   refine zO Tryz.func59 80<|zq<|zS<|zq<|zB 0<|zP 1 [{}] [.aa [10,9,5,4,3,2,0,1] [4,3,2]] []<|bj 10 (e.kind == (1:Int)) bE<|zq<|bj 17 (e.kind == (2:Int)) bE<|zP 1 [{}] [.aa [24,17,10,9,5,4,3,2,0,1] [4,3,2]] []<|dr 24 (e.kind == (3:Int)) fi<|zP 1 [yH [(2,{k:=g.al.length})]] [.aa [6,24,17,10,9,5,4,3,2,0,1] [4,3,2]] [yI l0]<|zS<|zP 1 [{}] [.aa [39,6,24,17,10,9,5,4,3,2,0,1] [4,3,2]] (yM 6 (yT (e.bt>(↑g.al.length:Int))))<|zT 39<|zP 1 [{}] [.aa [5,39,6,24,17,10,9,4,3,2,0,1] [4,3,2]] [yL 5 5]<|dt<|bc<|aK (bU)
  by_cases c2:2*e.bt≤g.al.length
  ·rw [if_pos (.inr c2)] at ce
   have cg:cP g e=g:=if_pos aj
   rw [ce,cg]
   refine zO Tryz.func59 80<|zq<|zS<|zq<|zB 0<|zP 1 [{}] [.aa [10,9,5,4,3,2,0,1] [4,3,2]] []<|bj 10 (e.kind == (1:Int)) bE<|zq<|bj 17 (e.kind == (2:Int)) bE<|zP 1 [{}] [.aa [24,17,10,9,5,4,3,2,0,1] [4,3,2]] []<|dr 24 (e.kind == (3:Int)) fi<|zP 1 [yH [(2,{k:=g.al.length})]] [.aa [6,24,17,10,9,5,4,3,2,0,1] [4,3,2]] [yI l0]<|zS<|zP 1 [yH ([(7,{av:=some (ai ((2:Int)*e.bt)),g:=false}),(10,{b:=false})]++yg [5,6,8,9])] [.aa [39,6,24,17,10,9,5,4,3,2,0,1] [4,3,2]] (yM 3 (yF (e.bt>(↑g.al.length:Int)))++ [yN ((2:Int)*e.bt)]++yM 3 (yF (e.bt>(↑g.al.length:Int))))<|ib 39 ((2:Int)*e.bt≤(↑g.al.length:Int))<|zP 1 [{}] [.aa [5,39,6,24,17,10,9,4,3,2,0,1] [4,3,2]] [yL 5 5]<|dt<|bc<|aK (bU)
  rw [if_neg aj] at ce
  have cg:cP g e=⟨g.aA,g.head,e.bt,g.al,g.aJ⟩:=by unfold cP;rw [if_neg aj,if_neg k1,if_neg k2,if_pos k3]
  rw [ce,cg]
  refine zO Tryz.func59 80<|zq<|zS<|zq<|zB 0<|zP 1 [{}] [.aa [10,9,5,4,3,2,0,1] [4,3,2]] []<|bj 10 (e.kind == (1:Int)) bE<|zq<|bj 17 (e.kind == (2:Int)) bE<|zP 1 [{}] [.aa [24,17,10,9,5,4,3,2,0,1] [4,3,2]] []<|dr 24 (e.kind == (3:Int)) fi<|zP 1 [yH [(2,{k:=g.al.length})]] [.aa [6,24,17,10,9,5,4,3,2,0,1] [4,3,2]] [yI l0]<|zS<|zP 1 [yH ([(7,{av:=some (ai ((2:Int)*e.bt)),g:=false}),(10,{b:=false})]++yg [5,6,8,9])] [.aa [39,6,24,17,10,9,5,4,3,2,0,1] [4,3,2]] (yM 3 (yF (e.bt>(↑g.al.length:Int)))++ [yN ((2:Int)*e.bt)]++yM 3 (yF (e.bt>(↑g.al.length:Int))))<|dp 39 ((2:Int)*e.bt≤(↑g.al.length:Int))<|a7<|zX {} [yL 3 5]<|aL<|ak<|zP 1 [{}] [.aa [5,41,39,6,24,17,10,9,4,3,2,0,1] [4,2,3]] [yL 5 5]<|zR (bU)
 have k5:e.kind=5:=aj
 have Cm:=AX g e.bF aj
 have gC:=C7 g.aJ aj
 have ce:gK g e=if vi g.aJ e.bF=g.aJ.length then 11 else if (g.aJ.getD (vi g.aJ e.bF) default).target≠0 then 18 else 0:=by unfold gK;rw [if_neg k1,if_neg k2,if_neg k3,if_neg k4]
 rcases nS g.aJ e.bF with ⟨hf,hk⟩|⟨k,hf,hk,iF⟩
 ·rw [if_pos hf] at ce
  have cg:cP g e=g:=if_pos aj
  rw [ce,cg]
  rw [hk] at Cm
  refine zO Tryz.func59 80<|zq<|zS<|zq<|zB 0<|zP 1 [{}] [.aa [10,9,5,4,3,2,0,1] [4,3,2]] []<|bj 10 (e.kind == (1:Int)) bE<|zq<|bj 17 (e.kind == (2:Int)) bE<|zP 1 [{}] [.aa [24,17,10,9,5,4,3,2,0,1] [4,3,2]] []<|bj 24 (e.kind == (3:Int)) bE<|zq<|bj 44 (e.kind == (4:Int)) bE<|zP 1 [{}] [.aa [51,44,24,17,10,9,5,4,3,2,0,1] [4,3,2]] []<|dr 51 (e.kind == (5:Int)) fi<|zP 1 [yH [(3,yV (ai (-1:Int)))]] [.aa [7,51,44,24,17,10,9,5,4,3,2,0,1] [4,3,2]] [yI Cm]<|zS<|zq<|ib 58 ((-1:Int)<0)<|zP 1 [{}] [.aa [5,58,7,51,44,24,17,10,9,4,3,2,0,1] [4,3,2]] [yL 5 5]<|dt<|bc<|aK (bU)
 rw [if_neg aj,hf] at ce
 rw [hk] at Cm
 have gT:=yn iF
 by_cases c1:(g.aJ.getD k default).target=0
 case neg =>
  rw [if_pos c1] at ce
  have cg:cP g e=g:=if_pos aj
  rw [ce,cg]
  refine zO Tryz.func59 80<|zq<|zS<|zq<|zB 0<|zP 1 [{}] [.aa [10,9,5,4,3,2,0,1] [4,3,2]] []<|bj 10 (e.kind == (1:Int)) bE<|zq<|bj 17 (e.kind == (2:Int)) bE<|zP 1 [{}] [.aa [24,17,10,9,5,4,3,2,0,1] [4,3,2]] []<|bj 24 (e.kind == (3:Int)) bE<|zq<|bj 44 (e.kind == (4:Int)) bE<|zP 1 [{}] [.aa [51,44,24,17,10,9,5,4,3,2,0,1] [4,3,2]] []<|dr 51 (e.kind == (5:Int)) fi<|zP 1 [yH [(3,yV (ai ↑k))]] [.aa [7,51,44,24,17,10,9,5,4,3,2,0,1] [4,3,2]] [yI Cm]<|zS<|zq<|dp 58 ((↑k:Int)<0)<|a7<|zS<|zP 1 [yH [(3,{k:=k}),(5,yV (aw ((g.aJ.getD k default).target))),(6,yV (ao ((g.aJ.getD k default).target != 0)))]] [.aa [66,58,7,51,44,24,17,10,9,5,4,3,2,0,1] [4,3,2]] [yR (↑k:Int),yO (k*7<(af bg g.aJ).length),yA bg g.aJ k 6,yI (cI ((g.aJ.getD k default).target) 0)]<|dr 66 ((g.aJ.getD k default).target != 0) (by simp_all)<|zP 1 [{}] [.aa [5,66,58,7,51,44,24,17,10,9,4,3,2,0,1] [4,3,2]] [yL 5 5]<|dt<|bc<|aK (bU)
 rw [if_neg (fun q=>q c1)] at ce
 have cg:cP g e=⟨g.aA,g.head,g.bt,g.al,tG g.aJ k e.target⟩:=by unfold cP;rw [if_neg aj,if_neg k1,if_neg k2,if_neg k3,if_neg k4,hf]
 rw [ce,cg]
 have s1:=Bc iF e.target
 refine zO Tryz.func59 80<|zq<|zS<|zq<|zB 0<|zP 1 [{}] [.aa [10,9,5,4,3,2,0,1] [4,3,2]] []<|bj 10 (e.kind == (1:Int)) bE<|zq<|bj 17 (e.kind == (2:Int)) bE<|zP 1 [{}] [.aa [24,17,10,9,5,4,3,2,0,1] [4,3,2]] []<|bj 24 (e.kind == (3:Int)) bE<|zq<|bj 44 (e.kind == (4:Int)) bE<|zP 1 [{}] [.aa [51,44,24,17,10,9,5,4,3,2,0,1] [4,3,2]] []<|dr 51 (e.kind == (5:Int)) fi<|zP 1 [yH [(3,yV (ai ↑k))]] [.aa [7,51,44,24,17,10,9,5,4,3,2,0,1] [4,3,2]] [yI Cm]<|zS<|zq<|dp 58 ((↑k:Int)<0)<|a7<|zS<|zP 1 [yH [(3,{k:=k}),(5,yV (aw ((g.aJ.getD k default).target))),(6,yV (ao false))]] [.aa [66,58,7,51,44,24,17,10,9,5,4,3,2,0,1] [4,3,2]] [yR (↑k:Int),yO (k*7<(af bg g.aJ).length),yA bg g.aJ k 6,yB (ao (wv (g.aJ.getD k default).target != (0:Int))=ao false) (by rw [c1];rfl)]<|zF 66<|a7<|zP 1 [yH [(2,{av:=some (AV.own 7 (af bg g.aJ)),b:=false})]] [.aa [66,58,7,51,44,24,17,10,9,5,4,3,2,0,1] [2,70,4,3]] [yI gC,yL 5 5]<|zX (yH [(5,{k:=k}),(7,yV (AV.arr (af bg (tG g.aJ k e.target))))]) [yR (↑k:Int),yO (k*7<(af bg g.aJ).length),yI s1,yO (k*7+6+1≤(af bg g.aJ).length)]<|aL<|ak<|zP 1 [{}] [.aa [5,66,58,7,51,44,24,17,10,9,4,3,2,0,1] [4,70,2,3]] [yL 5 5]<|bf.rG [.gp 70] bD<|zR (bU)
theorem oa (g:gB) (e:fo) (hG:nI g) (hB:mQ e) (hv:e.aq.length≤1000000):bK Tryz.prog 30 [.agg (bV g),.agg (bX e)] (.br [.agg (bV (kQ g e)),ai (fI g e)]):=by
 have uq:(af aU e.aq).length=e.aq.length*4:=aE (e:=4) (fun _=>rfl) ..
 have Ly:=tj e hB
 by_cases cb:eh e=0
 case neg =>
  have ce:fI g e=eh e:=if_pos cb
  have cg:kQ g e=g:=if_pos (by rw [ce];exact cb)
  rw [if_neg cb] at Ly
  rw [ce,cg]
  refine zO Tryz.func30 92<|zP 2 [{},yH [(1,yV (AV.br [aw 0,ai (eh e)]))]] [.aa [7,6,5,4,3,2,0,1] [4,3,2]] [yI Ly]<|zS<|zQ 1 [yH [(1,yV (ao true))]] [yB (ao (eh e != (0:Int))=ao true) (by simp [cb])]<|zT 19<|zP 1 [{}] [.aa [5,19,7,6,4,3,2,0,1] [4,3,2]] [yL 5 5]<|dt (bU)
 rw [if_pos cb,cb] at Ly
 obtain ⟨k1,k5,QE,Sq,vh,S5⟩:=pZ cb
 by_cases c1:e.aA≠g.aA+1
 ·have ce:fI g e=42:=by unfold fI;rw [if_neg (fun q=>q cb),if_pos (.inl c1)]
  have cg:kQ g e=g:=if_pos aj
  rw [ce,cg]
  have vc:(e.aA-1 != g.aA)=true:=bne_iff_ne.2 aj
  refine zO Tryz.func30 92<|zP 2 [{},yH [(1,yV (AV.br [aw (de e),ai 0]))]] [.aa [7,6,5,4,3,2,0,1] [4,3,2]] [yI Ly]<|zS<|zq<|zF 19<|a7<|zS<|zP 1 [yH [(2,yV (ai (e.aA-1)))]] [.aa [34,19,7,6,5,4,3,2,0,1] [4,3,2]] ([yN (e.aA-1)]++yM 6 (yI vc))<|zT 34<|zP 1 [{}] [.aa [5,34,19,7,6,4,3,2,0,1] [4,3,2]] [yL 5 5]<|dt (bU)
 have Ok:e.aA=g.aA+1:=aj
 have vc:(e.aA-1 != g.aA)=false:=by rw [Ok];simp
 by_cases c2:e.prev=g.head
 case neg =>
  have ce:fI g e=42:=by unfold fI;rw [if_neg (fun q=>q cb),if_pos (.inr c2)]
  have cg:kQ g e=g:=if_pos aj
  rw [ce,cg]
  have Su:(e.prev != g.head)=true:=bne_iff_ne.2 c2
  refine zO Tryz.func30 92<|zP 2 [{},yH [(1,yV (AV.br [aw (de e),ai 0]))]] [.aa [7,6,5,4,3,2,0,1] [4,3,2]] [yI Ly]<|zS<|zq<|zF 19<|a7<|zS<|zP 1 [yH ([(2,yV (ai (e.aA-1))),(11,{av:=some (ao (e.prev != g.head)),g:=false}),(12,{b:=false})]++yg [7,8,9,10])] [.aa [34,19,7,6,5,4,3,2,0,1] [4,3,2]] ([yN (e.aA-1)]++yM 5 (yI vc)++ [yI (cI e.prev g.head),yI vc])<|dr 34 (e.prev != g.head) (by assumption)<|zP 1 [{}] [.aa [5,34,19,7,6,4,3,2,0,1] [4,3,2]] [yL 5 5]<|dt (bU)
 have Su:(e.prev != g.head)=false:=by rw [c2];simp
 have FT:fI g e=if fv g (de e) e.aq≠0 then fv g (de e) e.aq else gK g e:=by unfold fI;rw [if_neg (fun q=>q cb),if_neg (by rintro (q|q);exact q Ok;exact q c2)]
 have m8:=hG.m8
 have D7:=Jf g (de e) e.aq aj hv
 by_cases c3:fv g (de e) e.aq=0
 case neg =>
  rw [if_pos c3] at FT
  have cg:kQ g e=g:=if_pos (by rw [FT];exact c3)
  rw [FT,cg]
  refine zO Tryz.func30 92<|zP 2 [{},yH [(1,yV (AV.br [aw (de e),ai 0]))]] [.aa [7,6,5,4,3,2,0,1] [4,3,2]] [yI Ly]<|zS<|zQ 1 [yH [(1,yV (ao false))]] [yR (ao false)]<|zF 19<|a7<|zS<|zP 1 [yH ([(2,yV (ai (e.aA-1))),(11,{av:=some (ao (e.prev != g.head)),g:=false}),(12,{b:=false})]++yg [7,8,9,10])] [.aa [34,19,7,6,5,4,3,2,0,1] [4,3,2]] ([yN (e.aA-1)]++yM 5 (yI vc)++ [yI (cI e.prev g.head),yI vc])<|bj 34 (e.prev != g.head) (by assumption)<|a7<|zS<|zP 2 [yH [(4,yV (ai (fv g (de e) e.aq)))],yH [(1,yV (ao true))]] [.aa [42,41,8,34,19,7,6,5,4,3,2,0,1] [4,3,2]] [yI D7,yB (ao (fv g (de e) e.aq != (0:Int))=ao true) (by simp [c3])]<|zT 42<|zP 1 [{}] [.aa [5,42,41,8,34,19,7,6,4,3,2,0,1] [4,3,2]] [yL 5 5]<|dt (bU)
 have KC:=fun i hi=>vK c3 (i:=i) hi
 rw [if_neg (fun q=>q c3)] at FT
 rw [c3] at D7
 have vz:=AY g e hG k1 k5 (xP cb) hB.dep
 rw [←FT] at vz
 by_cases c4:fI g e=0
 case neg =>
  have cg:kQ g e=g:=if_pos c4
  rw [cg]
  refine zO Tryz.func30 92<|zP 2 [{},yH [(1,yV (AV.br [aw (de e),ai 0]))]] [.aa [7,6,5,4,3,2,0,1] [4,3,2]] [yI Ly]<|zS<|zQ 1 [yH [(1,yV (ao false))]] [yR (ao false)]<|zF 19<|a7<|zS<|zP 1 [yH ([(2,yV (ai (e.aA-1))),(11,{av:=some (ao (e.prev != g.head)),g:=false}),(12,{b:=false})]++yg [7,8,9,10])] [.aa [34,19,7,6,5,4,3,2,0,1] [4,3,2]] ([yN (e.aA-1)]++yM 5 (yI vc)++ [yI (cI e.prev g.head),yI vc])<|bj 34 (e.prev != g.head) (by assumption)<|a7<|zS<|zP 2 [yH [(4,yV (ai 0))],yH [(1,yV (ao false))]] [.aa [42,41,8,34,19,7,6,5,4,3,2,0,1] [4,3,2]] [yI D7,yR (ao false)]<|zF 42<|a7<|zP 1 [yH [(2,{av:=some (AV.br [AV.agg (bV (cP g e)),ai (fI g e)]),b:=false})]] [.aa [7,9,42,41,8,34,19,6,5,4,3,2,0,1] [9,4,3,2]] [yI vz,yL 5 5]<|zS<|zQ 1 [yH [(1,yV (ao true))]] [yB (ao (fI g e != (0:Int))=ao true) (by simp [c4])]<|zT 52<|zP 1 [{}] [.aa [5,52,7,9,42,41,8,34,19,6,4,3,2,0,1] [4,9,3,2]] [yL 5 5]<|dt (bU)
 have cg:kQ g e=⟨e.aA,de e,(cP g e).bt,jY (cP g e).al e.aq,(cP g e).aJ⟩:=if_neg (fun q=>q c4)
 rw [cg,c4]
 rw [c4] at vz
 have gC:=Bg g e
 generalize cP g e=G at *
 have l0:∀i,(af aI (jY G.al (e.aq.take i))).length=G.al.length*4:=fun i=>by rw [aE (e:=4) (fun _=>rfl),mY]
 have MY:=uc G.al aj
 generalize de e=W at *
 clear FT cg S5 vh
 refine zO Tryz.func30 92<|zP 2 [{},yH [(1,yV (AV.br [aw W,ai 0]))]] [.aa [7,6,5,4,3,2,0,1] [4,3,2]] [yI Ly]<|zS<|zq<|zF 19<|a7<|zS<|zP 1 [yH ([(2,yV (ai (e.aA-1))),(11,{av:=some (ao (e.prev != g.head)),g:=false}),(12,{b:=false})]++yg [7,8,9,10])] [.aa [34,19,7,6,5,4,3,2,0,1] [4,3,2]] ([yN (e.aA-1)]++yM 5 (yI vc)++ [yI (cI e.prev g.head),yI vc])<|bj 34 (e.prev != g.head) (by assumption)<|a7<|zS<|zP 2 [yH [(4,yV (ai 0))],{}] [.aa [42,41,8,34,19,7,6,5,4,3,2,0,1] [4,3,2]] [yI D7]<|zF 42<|a7<|zP 1 [yH [(2,{av:=some (AV.br [AV.agg (bV G),ai 0]),b:=false})]] [.aa [7,9,42,41,8,34,19,6,5,4,3,2,0,1] [9,4,3,2]] [yI vz,yL 5 5]<|zS<|zq<|zF 52<|a7<|zP 3 [{},{},yH [(2,{av:=some (AV.own 4 (af aI G.al)),b:=false})]] [.aa [52,7,9,42,41,8,34,19,6,5,4,3,2,0,1] [9,62,4,3,2]] [yL 1 5,yL 2 5,yI MY,yL 4 5]<|zS<|zQ 1 [yH [(2,{k:=e.aq.length})]] [yI uq]<|zB 0 (zL (fun (i:Nat)=>(⟨[(66,ai (↑e.aq.length:Int)),(65,AV.sl 4 (af aU e.aq)),(52,ao ((0:Int) != (0:Int))),(7,ai 0),(9,AV.addr 9 0),(42,ao ((0:Int) != (0:Int))),(41,ai 0),(8,ai 0),(34,ao (e.prev != g.head)),(19,ao ((0:Int) != (0:Int))),(6,aw W),(5,ai 0),(4,AV.addr 4 0),(3,AV.addr 3 0),(2,AV.addr 2 0),(0,AV.agg (bV g)),(1,AV.agg (bX e)),(67,ai i)],[(9,⟨1,false,true,[ai e.aA,aw W,ai G.bt,AV.ref 62,AV.sl 7 (af bg G.aJ)]⟩),(4,⟨1,false,true,[ai 0,dW,ai 0,AV.nil,AV.nil]⟩),(3,⟨1,false,true,(bX e)⟩),(2,⟨1,false,true,List.map (aR 62) (List.map (aR 9) (List.map (aR 4) (List.map (aR 3) (List.map (aR 2) (bV g)))))⟩),(62,⟨4,true,false,af aI (jY G.al (e.aq.take i))⟩)]⟩:AS)) (fun i=>(i≤e.aq.length)) (fun i=>(e.aq.length-i)) (0) ?_ (zW [.aa [66,65,52,7,9,42,41,8,34,19,6,5,4,3,2,0,1,67] [9,4,3,2,62]]) ?_)
 ·omega
 intro i hi
 have Uq:=l0 i
 refine bf.na 1 [{}] bD (s':=AS.mk [(68,ao (decide ((↑i:Int)<(↑e.aq.length:Int)))),(66,ai (↑e.aq.length:Int)),(65,AV.sl 4 (af aU e.aq)),(52,ao ((0:Int) != (0:Int))),(7,ai 0),(9,AV.addr 9 0),(42,ao ((0:Int) != (0:Int))),(41,ai 0),(8,ai 0),(34,ao (e.prev != g.head)),(19,ao ((0:Int) != (0:Int))),(6,aw W),(5,ai 0),(4,AV.addr 4 0),(3,AV.addr 3 0),(2,AV.addr 2 0),(0,AV.agg (bV g)),(1,AV.agg (bX e)),(67,ai ↑i)] [(9,Row.mk 1 false true [ai e.aA,aw W,ai G.bt,AV.ref 62,AV.sl 7 (af bg G.aJ)]),(4,Row.mk 1 false true [ai 0,dW,ai 0,AV.nil,AV.nil]),(3,Row.mk 1 false true (bX e)),(2,Row.mk 1 false true (List.map (aR 62) (List.map (aR 9) (List.map (aR 4) (List.map (aR 3) (List.map (aR 2) (bV g))))))),(62,Row.mk 4 true false (af aI (jY G.al (List.take i e.aq))))]) (C:=[]) bD trivial<|zS (zD 68 ((↑i:Int)<(↑e.aq.length:Int)) (fun q=>?_) (fun q=>?_))
 ·have dD:i<e.aq.length:=aj
  have gT:=jm dD
  have dL:=vO G.al dD
  obtain ⟨yW,Gb⟩:=KC i dD
  have VY:(jY G.al (e.aq.take i)).length=G.al.length:=mY _ _
  generalize jY G.al (e.aq.take i)=U at *
  have mS:bK Tryz.prog 61 [.agg (bV ⟨e.aA,W,G.bt,U,G.aJ⟩),cZ (e.aq.getD i default).name] (ai (dC U (e.aq.getD i default).name)):=nw ⟨e.aA,W,G.bt,U,G.aJ⟩ (e.aq.getD i default).name (by show U.length≤_;omega)
  rcases gG U (e.aq.getD i default).name with hk|⟨k,hk,iF,Pr⟩
  ·have h1:pA U (e.aq.getD i default)=U:=if_pos aj
   rw [h1] at dL
   rw [hk] at mS
   refine a7<|zS<|zB 1<|zP 3 [yH [(0,{k:=i}),(1,yV (AV.agg (aU (e.aq.getD i default))))],yH [(3,yV (ai (-1:Int)))],{}] [.aa [76,12,11,68,66,65,52,7,9,42,41,8,34,19,6,5,4,3,2,0,1,67] [11,9,4,3,2,62]] [yR (↑i:Int),yO (i*4<(af aU e.aq).length),yu aU e.aq i 0 4,yR 4,yL 4 4,yI mS]<|dp 76 ((-1:Int)≥0)<|zK<|aL<|ak<|zX (yH [(0,yV (ai ((↑i:Int)+1)))]) [yN ((↑i:Int)+1)] (aH (i+1) (by assumption) aj (eJ [.aa [66,65,52,7,9,42,41,8,34,19,6,5,4,3,2,0,1,67] [9,4,3,2,62]] [] [62] [yB (af aI U=af aI (jY G.al (List.take (i+1) e.aq))) (by rw [dL])]))
  ·have h1:pA U (e.aq.getD i default)=U.set k {U.getD k default with used:=(U.getD k default).used|||gy (e.aq.getD i default).leaf}:=by unfold pA;rw [if_neg aj,ua hk,hk];rfl
   rw [h1] at dL
   rw [hk] at mS
   have Rv:=mg iF
   have Rh:=wq iF ((U.getD k default).used|||gy (e.aq.getD i default).leaf)
   refine a7<|zS<|zB 1<|zP 3 [yH [(0,{k:=i}),(1,yV (AV.agg (aU (e.aq.getD i default))))],yH [(3,yV (ai ↑k))],{}] [.aa [76,12,11,68,66,65,52,7,9,42,41,8,34,19,6,5,4,3,2,0,1,67] [11,9,4,3,2,62]] [yR (↑i:Int),yO (i*4<(af aU e.aq).length),yu aU e.aq i 0 4,yR 4,yL 4 4,yI mS]<|ib 76 ((↑k:Int)≥0)<|zX ({hs:=[(3,{k:=k}),(5,yV (aw ((U.getD k default).used))),(9,yV (aw (gy (e.aq.getD i default).leaf))),(10,yV (aw ((U.getD k default).used|||gy (e.aq.getD i default).leaf))),(11,{k:=k})],T:=10}) [yR (↑k:Int),yO (k*4<(af aI U).length),yA aI U k 3,yB (AV.val (Value.int .u64 (IntKind.u64.wrap ((1:Int)*(2:Int)^min (e.aq.getD i default).leaf.toNat IntKind.u64.bits)))=aw (gy (e.aq.getD i default).leaf)) (jx 1 _ yW aj),yI yW,yI (pg ((U.getD k default).used) (gy (e.aq.getD i default).leaf)),yR (↑k:Int),yO (k*4<(af aI U).length),yO (k*4+3+1≤(af aI U).length)]<|aL<|ak<|zX (yH [(0,yV (ai ((↑i:Int)+1)))]) [yN ((↑i:Int)+1)] (aH (i+1) (by assumption) aj (eJ [.aa [66,65,52,7,9,42,41,8,34,19,6,5,4,3,2,0,1,67] [9,4,3,2,62]] [] [62] [yB ((af aI U).set (k*4+3) (aw ((U.getD k default).used|||gy (e.aq.getD i default).leaf))=af aI (jY G.al (List.take (i+1) e.aq))) (by rw [dL];exact Rh)]))
 ·have ei:i=e.aq.length:=aj
  subst ei
  rw [List.take_length]
  refine zE 0<|a_<|aP<|bo<|ak<|zP 1 [{}] [.aa [5,68,66,65,52,7,9,42,41,8,34,19,6,4,3,2,0,1,67] [4,9,3,2,62]] [yL 5 5]<|bf.rG [.gp 62] bD<|zR (bU)
def PR (e:fo) (V:List gA):List AV:=[ai e.aA,aw e.prev,ai e.kind,cZ e.name,ai e.kh,aw e.kr,ai e.bt,aw e.dep.bF,aw e.dep.peer,.own 1 (ag e.dep.box),.own 1 (af ay e.dep.ae),.own 1 (ah e.dep.au),ai e.dep.need,aw e.dep.target,aw e.bF,aw e.target,.own 4 (af aU V)]
theorem vJ (e:fo) (W:UInt64) (name:List UInt8) (seed:UInt64) (h leaf:Int) (hv:e.aq= []) (hs:vX h leaf=0) (hw:bK Tryz.prog 50 [.agg (bX e)] (.br [aw W,ai 0])) (h1:e.dep.box.length≤1000000) (h2:e.dep.ae.length≤1000000) (h3:e.dep.au.length≤1000000) :
  bK Tryz.prog 25 [.agg (bX e),cZ name,aw seed,ai h,ai leaf] (.br [.agg (PR e [⟨name,oM h leaf,oi seed h leaf W,oh seed h leaf⟩]),ai 0]):=by
 have uq:(af aU e.aq).length=0:=by rw [hv];rfl
 have Fp:=r9 e.dep h1 h2 h3
 refine zO Tryz.func25 114<|zP 2 [{},yH [(1,yV (AV.br [aw W,ai 0]))]] [.aa [13,12,11,10,5,0,1,2,3,4] [10,5]] [yI hw]<|zS<|zq<|zF 27<|a7<|zS<|zP 1 [yH [(2,{k:=e.aq.length})]] [.aa [33,32,31,27,13,12,11,10,5,0,1,2,3,4] [10,5]] [yB ((af aU e.aq).length=e.aq.length*4) (by simp only [aE (f:=aU) (e:=4) (fun _=>rfl)])]<|zB 0 (zL (fun (i:Nat)=>(⟨[(32,ai (↑e.aq.length:Int)),(31,AV.sl 4 (af aU e.aq)),(27,ao ((0:Int) != (0:Int))),(13,ai 0),(12,aw W),(10,AV.addr 10 0),(5,AV.addr 5 0),(0,AV.agg (bX e)),(1,cZ name),(2,aw seed),(3,ai h),(4,ai leaf),(33,ai i)],[(10,⟨1,false,true,[ai 0,dW,ai 0,AV.val (Value.string (ByteArray.mk #[])),ai 0,dW,ai 0,dW,dW,AV.nil,AV.nil,AV.nil,ai 0,dW,dW,dW,AV.nil]⟩),(5,⟨1,false,true,List.map (aR 10) (List.map (aR 5) (bX e))⟩)]⟩:AS)) (fun i=>(i=0)) (fun i=>0) (0) ?_ (zW [.aa [32,31,27,13,12,10,5,0,1,2,3,4,33] [10,5]]) ?_)
 ·rfl
 rintro i rfl
 refine zq<|zS<|bj 34 (decide ((↑(0:Nat):Int)<(↑e.aq.length:Int))) (by simp_all)<|zE 0<|a_<|aP<|bo<|ak<|zP 1 [yH [(4,{av:=some (AV.br [AV.agg [ai (oM h leaf),AV.sl 1 (ah (oi seed h leaf W)),AV.own 1 (ah (oh seed h leaf))],ai (vX h leaf)]),b:=false})]] [.aa [13,16,34,32,31,27,12,10,5,0,1,2,3,4,33] [16,301048,10,5]] [yI (GF seed h leaf W),yL 3 3]<|zS<|zQ 1 [yH [(1,yV (ao false))]] [yB (ao (vX h leaf != (0:Int))=ao false) (by simp [hs])]<|zF 52<|a7<|zq<|zS<|zB 2 (zL (fun (i:Nat)=>(⟨[(52,ao false),(13,ai (vX h leaf)),(16,AV.addr 16 0),(34,ao (decide ((↑(0:Nat):Int)<(↑e.aq.length:Int)))),(32,ai (↑e.aq.length:Int)),(31,AV.sl 4 (af aU e.aq)),(27,ao ((0:Int) != (0:Int))),(12,aw W),(10,AV.addr 10 0),(5,AV.addr 5 0),(0,AV.agg (bX e)),(1,cZ name),(2,aw seed),(3,ai h),(4,ai leaf),(33,ai (↑(0:Nat):Int)),(17,ai i)],[(16,⟨1,false,true,[ai (oM h leaf),AV.sl 1 (ah (oi seed h leaf W)),AV.ref 301048]⟩),(10,⟨1,false,true,[ai 0,dW,ai 0,AV.val (Value.string (ByteArray.mk #[])),ai 0,dW,ai 0,dW,dW,AV.nil,AV.nil,AV.nil,ai 0,dW,dW,dW,AV.nil]⟩),(5,⟨1,false,true,List.map (aR 16) (List.map (aR 301048) (List.map (aR 10) (List.map (aR 5) (bX e))))⟩),(301048,⟨1,true,false,ah (oh seed h leaf)⟩)]⟩:AS)) (fun i=>(i=0)) (fun i=>0) (0) ?_ (zW [.aa [52,13,16,34,32,31,27,12,10,5,0,1,2,3,4,33,17] [16,10,5,301048]]) ?_)
 ·rfl
 rintro i rfl
 have w1:IntKind.i64.wrap ((e.aq.length:Int)+1)=(1:Nat):=by rw [hv];rfl
 refine zS<|zP 1 [yH ([(3,{k:=e.aq.length}),(14,{b:=false})]++yg [6,7,8,9,10,11,12,13])] [.aa [69,52,13,16,34,32,31,27,12,10,5,0,1,2,3,4,33,17] [16,10,5,301048]] ([yB ((af aU e.aq).length=e.aq.length*4) (by simp only [aE (f:=aU) (e:=4) (fun _=>rfl)])]++yM 9 (yS (decide ((↑(0:Nat):Int)<(↑e.aq.length:Int))=false)))<|zF 69<|zE 2<|a_<|aP<|bo<|ak<|zP 1 [yH [(2,{k:=e.aq.length}),(3,yV (ai (↑(1:Nat):Int))),(4,{k:=0,m:=1})]] [.aa [18,69,52,13,16,34,32,31,27,12,10,5,0,1,2,3,4,33,17] [76,16,10,5,301048]] [yB ((af aU e.aq).length=e.aq.length*4) (by simp only [aE (f:=aU) (e:=4) (fun _=>rfl)]),yI (yc w1),yR (0:Int),yR (↑(1:Nat):Int),yL 0 1,yL 72 281474976710656,yB (1≤maxLen) (by decide)]<|zS<|zQ 1 [yH [(2,{k:=e.aq.length})]] [yB ((af aU e.aq).length=e.aq.length*4) (by simp only [aE (f:=aU) (e:=4) (fun _=>rfl)])]<|zB 4 (zL (fun (i:Nat)=>(⟨[(79,ai (↑e.aq.length:Int)),(78,AV.sl 4 (af aU e.aq)),(69,ao false),(52,ao false),(13,ai (vX h leaf)),(16,AV.addr 16 0),(34,ao (decide ((↑(0:Nat):Int)<(↑e.aq.length:Int)))),(32,ai (↑e.aq.length:Int)),(31,AV.sl 4 (af aU e.aq)),(27,ao ((0:Int) != (0:Int))),(12,aw W),(10,AV.addr 10 0),(5,AV.addr 5 0),(0,AV.agg (bX e)),(1,cZ name),(2,aw seed),(3,ai h),(4,ai leaf),(33,ai (↑(0:Nat):Int)),(17,ai (↑(0:Nat):Int)),(80,ai i),(18,AV.ref 76)],[(16,⟨1,false,true,[ai (oM h leaf),AV.sl 1 (ah (oi seed h leaf W)),AV.ref 301048]⟩),(10,⟨1,false,true,[ai 0,dW,ai 0,AV.val (Value.string (ByteArray.mk #[])),ai 0,dW,ai 0,dW,dW,AV.nil,AV.nil,AV.nil,ai 0,dW,dW,dW,AV.nil]⟩),(5,⟨1,false,true,List.map (aR 76) (List.map (aR 16) (List.map (aR 301048) (List.map (aR 10) (List.map (aR 5) (bX e)))))⟩),(301048,⟨1,true,false,ah (oh seed h leaf)⟩),(76,⟨4,true,false,af aU []⟩)]⟩:AS)) (fun i=>(i=0)) (fun i=>0) (0) ?_ (zW [.aa [79,78,69,52,13,16,34,32,31,27,12,10,5,0,1,2,3,4,33,17,80,18] [16,10,5,301048,76]]) ?_)
 ·rfl
 rintro i rfl
 have hI:gk Tryz.prog 53 [.ref 5,ai 0,.sl 4 [cZ name,ai (oM h leaf),.sl 1 (ah (oi seed h leaf W)),.sl 1 (ah (oh seed h leaf))]] [(5,⟨4,true,false,af aU []⟩)] (.own 4 (af aU [⟨name,oM h leaf,oi seed h leaf W,oh seed h leaf⟩])) [(5,⟨4,true,false,af aU []⟩)]:=Ap [] ⟨name,oM h leaf,oi seed h leaf W,oh seed h leaf⟩ (by decide)
 refine zq<|zS<|bj 81 (decide ((↑(0:Nat):Int)<(↑e.aq.length:Int))) (by simp_all)<|zE 4<|a_<|aP<|bo<|ak<|zP 3 [yH [(6,{av:=some (AV.own 4 (af aU [gA.mk name (oM h leaf) (oi seed h leaf W) (oh seed h leaf)])),ln:=[(76,5)],ho:=[(5,Row.mk 4 true false (af aU []))]})],yH [(2,{av:=some (AV.agg [aw e.dep.bF,aw e.dep.peer,AV.own 1 (ag e.dep.box),AV.own 1 (af ay e.dep.ae),AV.own 1 (ah e.dep.au),ai e.dep.need,aw e.dep.target]),b:=false})],{}] [.aa [11,81,79,78,69,52,13,16,34,32,31,27,12,10,5,0,1,2,3,4,33,17,80] [10,5,500111,400111,300111,107,16]] [yI hI,yL 17 17,yI Fp,yL 14 17,yL 17 17]<|zR (bU)
theorem Ig (q:Nat) (hq:q<16):(q%2=0->q^^^1=q+1∧q=2*(q/2))∧(q%2≠0->q^^^1=q-1∧q=2*(q/2)+1):=by
 have key:∀q:Fin 16,(q.val%2=0->q.val^^^1=q.val+1∧q.val=2*(q.val/2))∧(q.val%2≠0->q.val^^^1=q.val-1∧q.val=2*(q.val/2)+1):=by decide +kernel
 exact key ⟨q,hq⟩
theorem Dc (seed:UInt64) (leaf n:Nat) (x:UInt64) (hx:x=fV seed 0 leaf) (Sg:leaf<16) (k:Nat) (hk:k≤n):dn leaf (dh seed leaf n) x k=fV seed k (leaf/2^k):=by
 induction k with
 | zero=>simp [dn,hx]
 | succ k ih =>
  have ih:=ih aj
  have hg:(dh seed leaf n).getD k 0=fV seed k (leaf/2^k^^^1):=by simp [dh,show k<n by omega]
  have hd:leaf/2^(k+1)=leaf/2^k/2:=by rw [Nat.pow_succ,Nat.div_div_eq_div_mul]
  obtain ⟨h1,h2⟩:=Ig (leaf/2^k) (Nat.lt_of_le_of_lt (Nat.div_le_self ..) Sg)
  unfold dn
  rw [ih,hg,hd]
  generalize leaf/2^k=q at *
  by_cases hq:q%2=0
  ·obtain ⟨e1,e2⟩:=h1 hq
   rw [if_pos hq,e1]
   show gO _ _ _=gO _ _ _
   rw [←e2]
  ·obtain ⟨e1,e2⟩:=h2 hq
   rw [if_neg hq,e1]
   show gO _ _ _=gO _ _ _
   rw [show 2*(q/2)+1=q by omega,show 2*(q/2)=q-1 by omega]
theorem Gq (seed:UInt64) (h leaf:Nat) (m:UInt64) (hh:h≤4) (hl:leaf<2^h):kp (h:Int) (fV seed h 0) m (leaf:Int) (bT seed leaf m 18) (dh seed leaf h)=0:=by
 have hb:¬i3 (h:Int) (leaf:Int):=by unfold i3 bz;rw [Int.toNat_natCast];omega
 have e:=Dc seed leaf h (combine leaf (cM leaf m (bT seed leaf m 18) 18)) (by rw [G5];rfl) (Nat.lt_of_lt_of_le hl (Nat.pow_le_pow_right (by decide) hh)) h (Nat.le_refl h)
 rw [Nat.div_eq_of_lt hl] at e
 unfold kp
 rw [if_neg hb,if_neg (by rw [qE,qM];omega),Int.toNat_natCast,Int.toNat_natCast,if_pos e]
def IQ:List (Nat×Nat):=[(9,1),(10,1),(11,1),(16,4)]
def Ni:mU:=⟨0,0,[],[],[],0,0⟩
theorem OJ:dV [109,48]=0:=DR (by decide) (by decide)
theorem OI:dV [109,49]=0:=DR (by decide) (by decide)
theorem OC (s:UInt64):Jx s 4=fV s 4 0:=if_neg (show ¬bz 4 by decide)
theorem OL:dY 0=⟨[109,48],4,fV 300 4 0,0⟩:=by
 unfold dY
 rw [OC,show u8 (48+((0:Nat):Int))=48 by decide,show (300:UInt64)+u64 ((0:Nat):Int)=300 by decide]
theorem QY:dY 1=⟨[109,49],4,fV 301 4 0,0⟩:=by
 unfold dY
 rw [OC,show u8 (48+((1:Nat):Int))=49 by decide,show (300:UInt64)+u64 ((1:Nat):Int)=301 by decide]
def gI (hd P:UInt64) (V:List gA):fo:=⟨1,hd,1,[109,49],4,P,0,Ni,0,0,V⟩
def iU (W:UInt64) (V:List gA):fo:=⟨2,W,2,[109,49],0,0,0,Ni,0,0,V⟩
def PY (hd P:UInt64):List AV:=[ai 1,aw hd,ai 1,cZ [109,49],ai 4,aw P,ai 0,aw 0,aw 0,.nil,.nil,.nil,ai 0,aw 0,aw 0,aw 0,.nil]
def Ss (W:UInt64):List AV:=[ai 2,aw W,ai 2,cZ [109,49],ai 0,aw 0,ai 0,aw 0,aw 0,.nil,.nil,.nil,ai 0,aw 0,aw 0,aw 0,.nil]
theorem LQ:yP Ni:=⟨Nat.zero_le _,Nat.zero_le _,Nat.zero_le _,fun i hi=>absurd hi (Nat.not_lt_zero i)⟩
theorem CV (hd P:UInt64) (V:List gA):mQ (gI hd P V):=⟨Nat.le_of_ble_eq_true rfl,LQ⟩
theorem IV (W:UInt64) (V:List gA):mQ (iU W V):=⟨Nat.le_of_ble_eq_true rfl,LQ⟩
theorem CW (hd P:UInt64) (V:List gA):eh (gI hd P V)=0:=by
 have hs:fa (gI hd P V):=⟨.inl rfl,.inl rfl,.inr rfl,.inr ⟨rfl,rfl,rfl,rfl,rfl,rfl,rfl⟩,.inr ⟨rfl,rfl⟩,rfl⟩
 rw [Io (show (1:Int)≤1 by omega) (show (1:Int)≤5 by omega) hs (show (1:Int)≤1 by omega) (show (1:Int)≤2147483647 by omega)]
 unfold eW
 rw [if_pos (show (gI hd P V).kind=1 from rfl),if_neg (fun q=>q OI)]
 show eT 4=0
 decide
theorem CU (W:UInt64) (V:List gA):eh (iU W V)=0:=by
 have hs:fa (iU W V):=⟨.inr (.inl rfl),.inr ⟨rfl,rfl⟩,.inr rfl,.inr ⟨rfl,rfl,rfl,rfl,rfl,rfl,rfl⟩,.inr ⟨rfl,rfl⟩,rfl⟩
 rw [Io (show (1:Int)≤2 by omega) (show (2:Int)≤5 by omega) hs (show (1:Int)≤2 by omega) (show (2:Int)≤2147483647 by omega)]
 unfold eW
 rw [if_neg (show ¬(iU W V).kind=1 from (show ¬(2:Int)=1 by omega)),if_pos (show (iU W V).kind=2 from rfl)]
 exact OI
theorem xz (m:Mem) (l:List Mem) {h:List UInt8} (e:m.name=h):dC (m::l) h=(0:Nat):=xA (i:=0) (Nat.zero_lt_succ _) aj e
theorem Hr (m:Mem) {h:List UInt8} (e:m.name≠h):dC [m] h= -1:=xy fun j hj=>by
 have:j=0:=by simp at hj;omega
 subst this;exact e
theorem y9 (g:gB) (W:UInt64) (v:gA) (k:Nat) (h1:dC g.al v.name=k) (h3:kp (g.al.getD k default).h (g.al.getD k default).r W v.leaf v.fU v.path=0) (h6:(g.al.getD k default).used&&&gy v.leaf=0):fv g W [v]=if (1:Int)<g.bt then 41 else 0:=by
 have h0:jR g W [v] 0=0:=by
  rw [wW (l:=[v]) (i:=0) (fun q=>absurd q.1 (Nat.lt_irrefl 0)) h1 h3,if_neg (fun q=>q h6)]
 have hf:ff (jR g W [v]) [v].length=0:=h0
 unfold fv
 rw [if_neg (fun q=>q hf)];rfl
theorem Bj:bK Tryz.prog 12 [] (ao true):=by
 have LC:=fK 0 aj
 have Fj:=fK 1 aj
 rw [OL] at LC
 rw [QY] at Fj
 have D6 (l:Nat) (hl:l<16) (m:UInt64):=Gq 300 4 l m aj aj
 generalize fV 300 4 0=P0 at *
 generalize fV 301 4 0=P1 at *
 have Ay:eT 4=0:=by decide
 have hn:=AM ⟨[109,48],4,P0,0⟩ (Nat.le_of_ble_eq_true rfl)
 have ne:ie ⟨[109,48],4,P0,0⟩=0:=by unfold ie;rw [if_neg (by simp [OJ]),if_neg (by simp [Ay]),if_neg (by simp)]
 rw [ne,show da ⟨[109,48],4,P0,0⟩=⟨0,hash 16 (dc 4 P0++ [109,48]),1,[⟨[109,48],4,P0,0⟩],[]⟩ from if_pos ne] at hn
 generalize hash 16 (dc 4 P0++ [109,48])=hd at hn
 have OT (V:List gA):=tj _ (CV hd P1 V)
 simp only [if_pos (CW hd P1 _),CW] at OT
 have qx (V:List gA):de (gI hd P1 V)=de (gI hd P1 []):=rfl
 have aX (V:List gA):=Jn (g:=⟨0,hd,1,[⟨[109,48],4,P0,0⟩],[]⟩) (CW hd P1 V) rfl rfl
 simp only [qx] at OT aX
 obtain ⟨W,hW⟩:∃W,W=de (gI hd P1 []):=⟨_,rfl⟩
 rw [←hW] at OT aX
 have OS (V:List gA):=tj _ (IV W V)
 simp only [if_pos (CU W _),CU] at OS
 have qz (V:List gA):de (iU W V)=de (iU W []):=rfl
 have aZ (V:List gA):=Jn (g:=⟨1,W,2,[⟨[109,48],4,P0,1⟩,⟨[109,49],4,P1,0⟩],[]⟩) (CU W V) rfl rfl
 simp only [qz] at OS aZ
 obtain ⟨W2,UW⟩:∃W2,W2=de (iU W []):=⟨_,rfl⟩
 rw [←UW] at OS aZ
 have b0:¬i3 4 0:=by decide
 have b1:¬i3 4 1:=by decide
 have hv:=vJ (gI hd P1 []) W [109,48] 300 4 0 rfl (if_neg b0) (OT []) (Nat.le_of_ble_eq_true rfl) (Nat.le_of_ble_eq_true rfl) (Nat.le_of_ble_eq_true rfl)
 have Mx:=vJ (iU W []) W2 [109,48] 300 4 1 rfl (if_neg b1) (OS []) (Nat.le_of_ble_eq_true rfl) (Nat.le_of_ble_eq_true rfl) (Nat.le_of_ble_eq_true rfl)
 rw [show oM 4 0=0 from if_neg b0,show oi 300 4 0 W=bT 300 0 W 18 from if_neg b0,show oh 300 4 0=dh 300 0 4 from if_neg b0] at hv
 rw [show oM 4 1=1 from if_neg b1,show oi 300 4 1 W2=bT 300 1 W2 18 from if_neg b1,show oh 300 4 1=dh 300 1 4 from if_neg b1] at Mx
 have kT:=D6 0 aj W
 have gS:=D6 1 aj W2
 clear D6
 have q0:bT 300 ((0:Nat):Int) W 18=bT 300 0 W 18:=rfl
 have q1:bT 300 ((1:Nat):Int) W2 18=bT 300 1 W2 18:=rfl
 rw [q0] at kT
 rw [q1] at gS
 generalize bT 300 0 W 18=C0 at *
 generalize bT 300 1 W2 18=C1 at *
 generalize dh 300 0 4=A0 at *
 generalize dh 300 1 4=A1 at *
 have V0:=y9 ⟨0,hd,1,[⟨[109,48],4,P0,0⟩],[]⟩ W ⟨[109,48],0,C0,A0⟩ 0 (xz _ _ rfl) kT (show (0:UInt64)&&&((1:UInt64)<<<UInt64.ofNat (Int.toNat 0))=0 by decide)
 have V1:=y9 ⟨1,W,2,[⟨[109,48],4,P0,1⟩,⟨[109,49],4,P1,0⟩],[]⟩ W2 ⟨[109,48],1,C1,A1⟩ 0 (xz _ _ rfl) gS (show (1:UInt64)&&&((1:UInt64)<<<UInt64.ofNat (Int.toNat 1))=0 by decide)
 have QH:fI ⟨0,hd,1,[⟨[109,48],4,P0,0⟩],[]⟩ (gI hd P1 [⟨[109,48],0,C0,A0⟩])=0:=by
  rw [aX,show fv _ W (gI hd P1 [⟨[109,48],0,C0,A0⟩]).aq=0 from V0.trans (if_neg (show ¬(1:Int)<1 by omega)),if_neg (fun q=>q rfl)]
  unfold gK
  rw [if_pos (show (gI hd P1 _).kind=1 from rfl),show dC [⟨[109,48],4,P0,0⟩] (gI hd P1 [⟨[109,48],0,C0,A0⟩]).name= -1 from Hr _ (show ([109,48]:List UInt8)≠ [109,49] by decide)]
  rfl
 have Sz:fI ⟨0,hd,1,[⟨[109,48],4,P0,0⟩],[]⟩ (gI hd P1 [])=41:=by rw [aX];rfl
 have Sy:fI ⟨1,W,2,[⟨[109,48],4,P0,1⟩,⟨[109,49],4,P1,0⟩],[]⟩ (iU W [⟨[109,48],1,C1,A1⟩])=41:=by
  rw [aZ,show fv _ W2 (iU W [⟨[109,48],1,C1,A1⟩]).aq=41 from V1.trans (if_pos (show (1:Int)<2 by omega)),if_pos aj]
 have eA:kQ ⟨0,hd,1,[⟨[109,48],4,P0,0⟩],[]⟩ (gI hd P1 [⟨[109,48],0,C0,A0⟩])=⟨1,W,2,[⟨[109,48],4,P0,1⟩,⟨[109,49],4,P1,0⟩],[]⟩:=by
  have hc:gK ⟨0,hd,1,[⟨[109,48],4,P0,0⟩],[]⟩ (gI hd P1 [⟨[109,48],0,C0,A0⟩])=0:=(wO QH).2.2.2.2
  rw [Ez QH,qx,←hW]
  unfold cP
  rw [if_neg (fun q=>q hc),if_pos (show (gI hd P1 _).kind=1 from rfl)]
  have hu:pA [⟨[109,48],4,P0,0⟩,⟨[109,49],4,P1,0⟩] ⟨[109,48],0,C0,A0⟩= [⟨[109,48],4,P0,1⟩,⟨[109,49],4,P1,0⟩]:=by
   have hm:dC [⟨[109,48],4,P0,0⟩,⟨[109,49],4,P1,0⟩] (⟨[109,48],0,C0,A0⟩:gA).name=(0:Nat):=xz _ _ rfl
   unfold pA
   rw [ua hm,hm,if_neg aj]
   show [(⟨[109,48],4,P0,(0:UInt64)|||gy 0⟩:Mem),⟨[109,49],4,P1,0⟩]=_
   rw [show (0:UInt64)|||gy 0=1 by decide]
  show (⟨1,W,if 2*(1:Int)≤((1:Nat):Int)+1 then 1+1 else 1,pA [⟨[109,48],4,P0,0⟩,⟨[109,49],4,P1,0⟩] ⟨[109,48],0,C0,A0⟩,[]⟩:gB)=_
  rw [if_pos aj,hu];rfl
 have hA:=oa ⟨0,hd,1,[⟨[109,48],4,P0,0⟩],[]⟩ (gI hd P1 [⟨[109,48],0,C0,A0⟩]) ⟨Int.le_refl 0,(show (0:Int)≤2147483647 by omega),(aj:1≤8),(show (0:Int)≤1 by omega),(show (1:Int)≤8 by omega),Nat.zero_le _⟩ (CV _ _ _) (aj:1≤1000000)
 rw [QH,eA] at hA
 have hQ:=oa ⟨0,hd,1,[⟨[109,48],4,P0,0⟩],[]⟩ (gI hd P1 []) ⟨Int.le_refl 0,(show (0:Int)≤2147483647 by omega),(aj:1≤8),(show (0:Int)≤1 by omega),(show (1:Int)≤8 by omega),Nat.zero_le _⟩ (CV _ _ _) (Nat.zero_le _)
 rw [Sz,s6 (by rw [Sz];omega)] at hQ
 have Tw:=oa ⟨1,W,2,[⟨[109,48],4,P0,1⟩,⟨[109,49],4,P1,0⟩],[]⟩ (iU W [⟨[109,48],1,C1,A1⟩]) ⟨(show (0:Int)≤1 by omega),(show (1:Int)≤2147483647 by omega),(aj:2≤8),(show (0:Int)≤2 by omega),(show (2:Int)≤8 by omega),Nat.zero_le _⟩ (IV _ _) (aj:1≤1000000)
 rw [Sy,s6 (by rw [Sy];omega)] at Tw
 have HM:bK Tryz.prog 25 [.agg (PY hd P1),cZ [109,48],aw 300,ai 4,ai 0] _:=bK.Hj IQ hv
 have Rc:bK Tryz.prog 25 [.agg (Ss W),cZ [109,48],aw 300,ai 4,ai 1] (.br [.agg (PR (iU W [⟨[109,48],1,C1,A1⟩]) [⟨[109,48],1,C1,A1⟩]),ai 0]):=bK.Hj IQ Mx
 have UY:bK Tryz.prog 30 [.agg (bV ⟨0,hd,1,[⟨[109,48],4,P0,0⟩],[]⟩),.agg (PY hd P1)] _:=bK.Hj IQ hQ
 clear V0 V1 kT gS eA OT OS hv Mx hQ q0 q1 ne Ay aX aZ QH Sz Sy qx qz
 refine zO Tryz.func12 100<|zP 2 [{},yH [(0,yV (AV.agg [AV.val (Value.string (ByteArray.mk #[109,48])),ai 4,aw P0,aw 0])),(1,{av:=some (AV.br [AV.agg [ai 0,aw hd,ai 1,AV.own 4 (af aI [Mem.mk [109,48] (4:Int) P0 0]),AV.own 7 (af bg [])],ai 0]),b:=false})]] [.aa [2,1,0] [1,501016,401016]] [yI LC,yI hn,yL 5 5]<|zS<|Bu 6 [5] [(2,yV (AV.agg [AV.val (Value.string (ByteArray.mk #[109,49])),ai 4,aw P1,aw 0]))] [yI Fj,yR (AV.addr 1 1),yR (aw hd),yR (AV.agg [AV.val (Value.string (ByteArray.mk #[109,49])),ai 4,aw P1,aw 0]),yI Fj,yR (AV.agg [ai 4,aw P1]),yR (AV.agg [ai 1,aw hd,ai 1,AV.val (Value.string (ByteArray.mk #[109,49])),ai 4,aw P1,ai 0,AV.val (Value.int .u64 0),AV.val (Value.int .u64 0),AV.nil,AV.nil,AV.nil,ai 0,AV.val (Value.int .u64 0),AV.val (Value.int .u64 0),AV.val (Value.int .u64 0),AV.nil]),yL 17 17]<|ak<|bf.rG [.aa [3,2,1,0] [3,1,501016,401016]] bD<|zP 6 [yH [(1,{av:=some (AV.br [AV.agg [ai ((gI hd P1 []).aA),aw ((gI hd P1 []).prev),ai ((gI hd P1 []).kind),cZ (gI hd P1 []).name,ai ((gI hd P1 []).kh),aw ((gI hd P1 []).kr),ai ((gI hd P1 []).bt),aw ((gI hd P1 []).dep.bF),aw ((gI hd P1 []).dep.peer),AV.own 1 (ag (gI hd P1 []).dep.box),AV.own 1 (af ay (gI hd P1 []).dep.ae),AV.own 1 (ah (gI hd P1 []).dep.au),ai ((gI hd P1 []).dep.need),aw ((gI hd P1 []).dep.target),aw ((gI hd P1 []).bF),aw ((gI hd P1 []).target),AV.own 4 (af aU [gA.mk [109,48] (0:Int) C0 A0])],ai 0]),b:=false})],yH [(2,{av:=some (AV.br [AV.agg [ai 1,aw W,ai 2,AV.sl 4 (af aI [Mem.mk [109,48] (4:Int) P0 1,Mem.mk [109,49] (4:Int) P1 0]),AV.sl 7 (af bg [])],ai 0]),b:=false})],yH [(2,{av:=some (AV.br [AV.agg [ai 0,aw hd,ai 1,AV.sl 4 (af aI [Mem.mk [109,48] (4:Int) P0 0]),AV.sl 7 (af bg [])],ai 41]),b:=false})],yH [(3,{av:=some (AV.br [AV.agg [ai ((iU W [gA.mk [109,48] (1:Int) C1 A1]).aA),aw ((iU W [gA.mk [109,48] (1:Int) C1 A1]).prev),ai ((iU W [gA.mk [109,48] (1:Int) C1 A1]).kind),cZ (iU W [gA.mk [109,48] (1:Int) C1 A1]).name,ai ((iU W [gA.mk [109,48] (1:Int) C1 A1]).kh),aw ((iU W [gA.mk [109,48] (1:Int) C1 A1]).kr),ai ((iU W [gA.mk [109,48] (1:Int) C1 A1]).bt),aw ((iU W [gA.mk [109,48] (1:Int) C1 A1]).dep.bF),aw ((iU W [gA.mk [109,48] (1:Int) C1 A1]).dep.peer),AV.own 1 (ag (iU W [gA.mk [109,48] (1:Int) C1 A1]).dep.box),AV.own 1 (af ay (iU W [gA.mk [109,48] (1:Int) C1 A1]).dep.ae),AV.own 1 (ah (iU W [gA.mk [109,48] (1:Int) C1 A1]).dep.au),ai ((iU W [gA.mk [109,48] (1:Int) C1 A1]).dep.need),aw ((iU W [gA.mk [109,48] (1:Int) C1 A1]).dep.target),aw ((iU W [gA.mk [109,48] (1:Int) C1 A1]).bF),aw ((iU W [gA.mk [109,48] (1:Int) C1 A1]).target),AV.own 4 (af aU [gA.mk [109,48] (1:Int) C1 A1])],ai 0]),b:=false})],yH [(2,{av:=some (AV.br [AV.agg [ai 1,aw W,ai 2,AV.sl 4 (af aI [Mem.mk [109,48] (4:Int) P0 1,Mem.mk [109,49] (4:Int) P1 0]),AV.sl 7 (af bg [])],ai 41]),b:=false})],yH [(30,{k:=2}),(36,{k:=0}),(39,yV (ao (1 == 1)))]] [.aa [0,13,11,10,9,7,6,5,4,3,2,1] [10,6,4,3,1]] ([yI HM,yL 17 17,yI hA,yL 5 5,yI UY,yL 5 5,yI Rc,yL 17 17,yI Tw,yL 5 5]++yM 22 (yR true)++ [yR (2*4)]++yM 5 (yR true)++ [yR (0:Int),yO (0<8)]++yM 3 (yR true)++ [yR (ao (1 == 1))]++yM 5 (yR true))<|zR (bU)
theorem Hm:ie (dY 0)=0:=by
 rw [OL]
 unfold ie
 rw [if_neg (by simp [OJ]),if_neg (by decide),if_neg (by simp)]
end Go.Proofs.YtjgbhhnghedgdaaGreatDoor
