import Derived.Test.YtjgbhhnghedgdaaGreatDoorZbGrR3
import Derived.Test.YtjgbhhnghedgdaaGreatDoorZbTk7r
set_option linter.all false
namespace Go.Proofs.YtjgbhhnghedgdaaGreatDoor
open Go.RowKit
set_option maxRecDepth 100000
set_option maxHeartbeats 4000000
structure rN (e:eP):Prop where
 name:e.name.length≤100
 box:e.dep.box.length≤1100
 AB:e.dep.af.length≤12
 Nx:e.dep.au.length≤12
 TT:e.ak.length≤10
 hs:∀i,i<e.dep.af.length->(e.dep.af.getD i default).length≤100
 vs:∀i,i<e.ak.length->(e.ak.getD i default).name.length≤100∧(e.ak.getD i default).bI.length≤40∧(e.ak.getD i default).path.length≤10
noncomputable def zm (e:eP):Bool:= @decide (rN e) (Classical.propDecidable _)
theorem lq {e:eP} (h:¬rN e):zm e=false:=by exact @decide_eq_false _ (Classical.propDecidable _) h
theorem DQ {e:eP} (h:rN e):zm e=true:=by exact @decide_eq_true _ (Classical.propDecidable _) h
theorem rN.b {e:eP} (h:rN e):mO e:=⟨by have:=h.name;omega,⟨by have:=h.box;omega,by have:=h.AB;omega,by have:=h.Nx;omega,fun i hi=>by have:=h.hs i hi;omega⟩⟩
theorem wa (e:eP):bL Tryz.prog 11 [.agg (a7 e)] (ao (zm e)):=by
 have xN:(ae aP e.ak).length=e.ak.length*4:=aG (e:=4) (fun _=>rfl) ..
 have PF:(ae ay e.dep.af).length=e.dep.af.length:=by rw [aG (e:=1) (fun _=>rfl)];omega
 by_cases c1:100<e.name.length
 ·have hs:=lq (e:=e) fun q=>by have:=q.name;omega
  refine zO Tryz.func11 89<|zq<|zS<|zP 1 [yH [(2,yV (ai (↑e.name.length:Int)))]] [.aa [35,2,1,0] [1]] ([yR (ai (↑e.name.length:Int))]++yM 6 (yT ((↑e.name.length:Int)>100))++yM 17 (yR true))<|zT 35<|zq<|dn (zV [yB (Value.bool false=Value.bool (zm e)) (by rw [hs])])
 by_cases c2:1100<e.dep.box.length
 ·have hs:=lq (e:=e) fun q=>by have:=q.box;omega
  refine zO Tryz.func11 89<|zq<|zS<|zP 1 [yH ([(2,yV (ai (↑e.name.length:Int))),(8,{k:=e.dep.box.length,g:=false}),(10,{b:=false})]++yg [5,6,7,9])] [.aa [35,2,1,0] [1]] ([yR (ai (↑e.name.length:Int))]++yM 4 (yF ((↑e.name.length:Int)>100))++ [yI (aA e.dep.box)]++yM 2 (yF ((↑e.name.length:Int)>100))++yM 6 (yT ((↑e.dep.box.length:Int)>1100))++yM 11 (yR true))<|zT 35<|zq<|dn (zV [yB (Value.bool false=Value.bool (zm e)) (by rw [hs])])
 by_cases c3:12<e.dep.af.length
 ·have hs:=lq (e:=e) fun q=>by have:=q.AB;omega
  refine zO Tryz.func11 89<|zq<|zS<|zP 1 [yH ([(2,yV (ai (↑e.name.length:Int))),(8,{k:=e.dep.box.length,g:=false}),(10,{b:=false}),(15,{k:=(ae ay e.dep.af).length,g:=false}),(17,{b:=false})]++yg [5,6,7,9,12,13,14,16])] [.aa [35,2,1,0] [1]] ([yR (ai (↑e.name.length:Int))]++yM 4 (yF ((↑e.name.length:Int)>100))++ [yI (aA e.dep.box)]++yM 2 (yF ((↑e.name.length:Int)>100))++yM 4 (yF ((↑e.dep.box.length:Int)>1100))++ [yR ((ae ay e.dep.af).length)]++yM 2 (yF ((↑e.dep.box.length:Int)>1100))++yM 6 (yT ((↑(ae ay e.dep.af).length:Int)>12))++yM 5 (yR true))<|zT 35<|zq<|dn (zV [yB (Value.bool false=Value.bool (zm e)) (by rw [hs])])
 by_cases c4:12<e.dep.au.length
 ·have hs:=lq (e:=e) fun q=>by have:=q.Nx;omega
  refine zO Tryz.func11 89<|zq<|zS<|zP 1 [yH ([(2,yV (ai (↑e.name.length:Int))),(8,{k:=e.dep.box.length,g:=false}),(10,{b:=false}),(15,{k:=(ae ay e.dep.af).length,g:=false}),(17,{b:=false}),(22,{k:=e.dep.au.length,g:=false}),(24,{b:=false})]++yg [5,6,7,9,12,13,14,16,19,20,21,23])] [.aa [35,2,1,0] [1]] ([yR (ai (↑e.name.length:Int))]++yM 4 (yF ((↑e.name.length:Int)>100))++ [yI (aA e.dep.box)]++yM 2 (yF ((↑e.name.length:Int)>100))++yM 4 (yF ((↑e.dep.box.length:Int)>1100))++ [yR ((ae ay e.dep.af).length)]++yM 2 (yF ((↑e.dep.box.length:Int)>1100))++yM 4 (yF ((↑(ae ay e.dep.af).length:Int)>12))++ [yB ((ah e.dep.au).length=e.dep.au.length) (aC _)]++yM 2 (yF ((↑(ae ay e.dep.af).length:Int)>12))++yM 5 (yT ((↑e.dep.au.length:Int)>12)))<|zT 35<|zq<|dn (zV [yB (Value.bool false=Value.bool (zm e)) (by rw [hs])])
 by_cases c5:10<e.ak.length
 ·have hs:=lq (e:=e) fun q=>by have:=q.TT;omega
  refine zO Tryz.func11 89<|zq<|zS<|zP 1 [yH ([(2,yV (ai (↑e.name.length:Int))),(8,{k:=e.dep.box.length,g:=false}),(10,{b:=false}),(15,{k:=(ae ay e.dep.af).length,g:=false}),(17,{b:=false}),(22,{k:=e.dep.au.length,g:=false}),(24,{b:=false}),(28,{k:=e.ak.length,g:=false}),(30,{b:=false})]++yg [5,6,7,9,12,13,14,16,19,20,21,23,26,27,29])] [.aa [35,2,1,0] [1]] ([yR (ai (↑e.name.length:Int))]++yM 4 (yF ((↑e.name.length:Int)>100))++ [yI (aA e.dep.box)]++yM 2 (yF ((↑e.name.length:Int)>100))++yM 4 (yF ((↑e.dep.box.length:Int)>1100))++ [yR ((ae ay e.dep.af).length)]++yM 2 (yF ((↑e.dep.box.length:Int)>1100))++yM 4 (yF ((↑(ae ay e.dep.af).length:Int)>12))++ [yB ((ah e.dep.au).length=e.dep.au.length) (aC _)]++yM 2 (yF ((↑(ae ay e.dep.af).length:Int)>12))++yM 3 (yF ((↑e.dep.au.length:Int)>12))++ [yI xN]++yM 2 (yF ((↑e.dep.au.length:Int)>12)))<|gU 35 ((↑e.ak.length:Int)>10)<|zq<|dn (zV [yB (Value.bool false=Value.bool (zm e)) (by rw [hs])])
 refine zO Tryz.func11 89<|zq<|zS<|zP 1 [yH ([(2,yV (ai (↑e.name.length:Int))),(8,{k:=e.dep.box.length,g:=false}),(10,{b:=false}),(15,{k:=(ae ay e.dep.af).length,g:=false}),(17,{b:=false}),(22,{k:=e.dep.au.length,g:=false}),(24,{b:=false}),(28,{k:=e.ak.length,g:=false}),(30,{b:=false})]++yg [5,6,7,9,12,13,14,16,19,20,21,23,26,27,29])] [.aa [35,2,1,0] [1]] ([yR (ai (↑e.name.length:Int))]++yM 4 (yF ((↑e.name.length:Int)>100))++ [yI (aA e.dep.box)]++yM 2 (yF ((↑e.name.length:Int)>100))++yM 4 (yF ((↑e.dep.box.length:Int)>1100))++ [yR ((ae ay e.dep.af).length)]++yM 2 (yF ((↑e.dep.box.length:Int)>1100))++yM 4 (yF ((↑(ae ay e.dep.af).length:Int)>12))++ [yB ((ah e.dep.au).length=e.dep.au.length) (aC _)]++yM 2 (yF ((↑(ae ay e.dep.af).length:Int)>12))++yM 3 (yF ((↑e.dep.au.length:Int)>12))++ [yI xN]++yM 2 (yF ((↑e.dep.au.length:Int)>12)))<|dt 35 ((↑e.ak.length:Int)>10)<|a_<|zS<|zq<|zB 0 (zL (fun (i:Nat)=>(⟨[(35,ao (decide ((↑e.ak.length:Int)>10))),(1,AV.addr 1 0),(0,AV.agg (a7 e)),(3,ai i)],[(1,⟨1,false,true,List.map (aE 1) (a7 e)⟩)]⟩:AS)) (fun i=>(i≤e.dep.af.length∧ ∀j,j<i->(e.dep.af.getD j default).length≤100)) (fun i=>(e.dep.af.length-i)) (0) ?_ (zW [.aa [35,1,0,3] [1]]) ?_)
 ·exact ⟨aj,fun j hj=>absurd hj (Nat.not_lt_zero j)⟩
 rintro i ⟨hi,hb⟩
 refine zS<|zP 1 [yH [(4,{k:=(ae ay e.dep.af).length})]] [.aa [41,35,1,0,3] [1]] [yR ((ae ay e.dep.af).length)] (zD 41 ((↑i:Int)<(↑(ae ay e.dep.af).length:Int)) (fun q=>?_) (fun q=>?_))
 ·have dM:i<e.dep.af.length:=aj
  have gN:=js dM
  by_cases c6:100<(e.dep.af.getD i default).length
  ·have hs:=lq (e:=e) fun q=>by have:=q.hs i dM;omega
   refine a_<|zS<|zB 1<|zP 1 [yH [(4,{k:=i}),(5,yV (cF (e.dep.af.getD i default))),(6,yV (ai (↑(e.dep.af.getD i default).length:Int)))]] [.aa [51,41,35,1,0,3] [1]] [yR (↑i:Int),yO (i<(ae ay e.dep.af).length),yI gN,yR (ai (↑(e.dep.af.getD i default).length:Int))]<|gU 51 ((↑(e.dep.af.getD i default).length:Int)>100)<|zq<|zR<|a6<|aI<|de<|a6<|aI (zV [yB (Value.bool false=Value.bool (zm e)) (by rw [hs])])
  ·skip
   refine a_<|zS<|zB 1<|zP 1 [yH [(4,{k:=i}),(5,yV (cF (e.dep.af.getD i default))),(6,yV (ai (↑(e.dep.af.getD i default).length:Int)))]] [.aa [51,41,35,1,0,3] [1]] [yR (↑i:Int),yO (i<(ae ay e.dep.af).length),yI gN,yR (ai (↑(e.dep.af.getD i default).length:Int))]<|dt 51 ((↑(e.dep.af.getD i default).length:Int)>100)<|zK<|aL<|aq<|zX (yH [(1,yV (ai ((↑i:Int)+1)))]) [yN ((↑i:Int)+1)] (aK (i+1) ⟨aj,fun j hj=>by by_cases e2:j=i;(subst e2;omega);exact hb j aj⟩ aj (zW [.aa [35,1,0,3] [1]]))
 ·have ei:i=e.dep.af.length:=aj
  subst ei
  refine zE 0<|ba<|aS<|br<|aq<|zS<|zq<|zB 2 (zL (fun (k:Nat)=>(⟨[(41,ao (decide ((↑e.dep.af.length:Int)<(↑(ae ay e.dep.af).length:Int)))),(35,ao (decide ((↑e.ak.length:Int)>10))),(1,AV.addr 1 0),(0,AV.agg (a7 e)),(3,ai (↑e.dep.af.length:Int)),(4,ai k)],[(1,⟨1,false,true,List.map (aE 1) (a7 e)⟩)]⟩:AS)) (fun k=>(k≤e.ak.length∧ ∀j,j<k->(e.ak.getD j default).name.length≤100∧(e.ak.getD j default).bI.length≤40∧(e.ak.getD j default).path.length≤10)) (fun k=>(e.ak.length-k)) (0) ?_ (zW [.aa [41,35,1,0,3,4] [1]]) ?_)
  ·exact ⟨aj,fun j hj=>absurd hj (Nat.not_lt_zero j)⟩
  rintro k ⟨hk,hv⟩
  refine zS<|zP 1 [yH [(3,{k:=e.ak.length})]] [.aa [56,41,35,1,0,3,4] [1]] [yI xN] (zD 56 ((↑k:Int)<(↑e.ak.length:Int)) (fun q2=>?_) (fun q2=>?_))
  ·have r9:k<e.ak.length:=aj
   have gN:=la r9
   by_cases c6:100<(e.ak.getD k default).name.length
   ·have hs:=lq (e:=e) fun q=>by have:=(q.vs k r9).1;omega
    refine a_<|zS<|zB 3<|zP 1 [yH [(3,{k:=k}),(5,yV (cF (e.ak.getD k default).name)),(6,yV (ai (↑(e.ak.getD k default).name.length:Int)))]] [.aa [88,56,41,35,1,0,3,4] [1]] ([yR (↑k:Int),yO (k*4<(ae aP e.ak).length),yB ((ae aP e.ak)[k*4]?=some (cF (e.ak.getD k default).name)) (bc (f:=aP) (e:=4) (k:=k) (j:=0) (fun _=>rfl) aj rfl),yR (ai (↑(e.ak.getD k default).name.length:Int))]++yM 10 (yT ((↑(e.ak.getD k default).name.length:Int)>100))++yM 10 (yR true))<|zT 88<|zq<|zR<|a6<|aI<|de<|a6<|aI (zV [yB (Value.bool false=Value.bool (zm e)) (by rw [hs])])
   by_cases c7:40<(e.ak.getD k default).bI.length
   ·have hs:=lq (e:=e) fun q=>by have:=(q.vs k r9).2.1;omega
    refine a_<|zS<|zB 3<|zP 1 [yH ([(3,{k:=k}),(5,yV (cF (e.ak.getD k default).name)),(6,yV (ai (↑(e.ak.getD k default).name.length:Int))),(12,{k:=k,g:=false}),(15,{av:=some (AV.sl 1 (ah (e.ak.getD k default).bI)),g:=false}),(16,{k:=(e.ak.getD k default).bI.length,g:=false}),(18,{b:=false})]++yg [9,10,11,13,14,17])] [.aa [88,56,41,35,1,0,3,4] [1]] ([yR (↑k:Int),yO (k*4<(ae aP e.ak).length),yB ((ae aP e.ak)[k*4]?=some (cF (e.ak.getD k default).name)) (bc (f:=aP) (e:=4) (k:=k) (j:=0) (fun _=>rfl) aj rfl),yR (ai (↑(e.ak.getD k default).name.length:Int))]++yM 4 (yF ((↑(e.ak.getD k default).name.length:Int)>100))++ [yR (↑k:Int),yO (k*4<(ae aP e.ak).length)]++yM 3 (yF ((↑(e.ak.getD k default).name.length:Int)>100))++ [yB ((ae aP e.ak)[k*4+1+1]?=some (AV.sl 1 (ah (e.ak.getD k default).bI))) (bc (f:=aP) (e:=4) (k:=k) (j:=2) (fun _=>rfl) aj rfl),yF ((↑(e.ak.getD k default).name.length:Int)>100),yB ((ah (e.ak.getD k default).bI).length=(e.ak.getD k default).bI.length) (aC _)]++yM 2 (yF ((↑(e.ak.getD k default).name.length:Int)>100))++yM 10 (yT ((↑(e.ak.getD k default).bI.length:Int)>40)))<|zT 88<|zq<|zR<|a6<|aI<|de<|a6<|aI (zV [yB (Value.bool false=Value.bool (zm e)) (by rw [hs])])
   by_cases c8:10<(e.ak.getD k default).path.length
   ·have hs:=lq (e:=e) fun q=>by have:=(q.vs k r9).2.2;omega
    refine a_<|zS<|zB 3<|zP 1 [yH ([(3,{k:=k}),(5,yV (cF (e.ak.getD k default).name)),(6,yV (ai (↑(e.ak.getD k default).name.length:Int))),(12,{k:=k,g:=false}),(15,{av:=some (AV.sl 1 (ah (e.ak.getD k default).bI)),g:=false}),(16,{k:=(e.ak.getD k default).bI.length,g:=false}),(18,{b:=false}),(23,{k:=k,g:=false}),(26,{av:=some (AV.sl 1 (ah (e.ak.getD k default).path)),g:=false}),(27,{k:=(e.ak.getD k default).path.length,g:=false}),(29,{b:=false})]++yg [9,10,11,13,14,17,20,21,22,24,25,28])] [.aa [88,56,41,35,1,0,3,4] [1]] ([yR (↑k:Int),yO (k*4<(ae aP e.ak).length),yB ((ae aP e.ak)[k*4]?=some (cF (e.ak.getD k default).name)) (bc (f:=aP) (e:=4) (k:=k) (j:=0) (fun _=>rfl) aj rfl),yR (ai (↑(e.ak.getD k default).name.length:Int))]++yM 4 (yF ((↑(e.ak.getD k default).name.length:Int)>100))++ [yR (↑k:Int),yO (k*4<(ae aP e.ak).length)]++yM 3 (yF ((↑(e.ak.getD k default).name.length:Int)>100))++ [yB ((ae aP e.ak)[k*4+1+1]?=some (AV.sl 1 (ah (e.ak.getD k default).bI))) (bc (f:=aP) (e:=4) (k:=k) (j:=2) (fun _=>rfl) aj rfl),yF ((↑(e.ak.getD k default).name.length:Int)>100),yB ((ah (e.ak.getD k default).bI).length=(e.ak.getD k default).bI.length) (aC _)]++yM 2 (yF ((↑(e.ak.getD k default).name.length:Int)>100))++yM 4 (yF ((↑(e.ak.getD k default).bI.length:Int)>40))++ [yR (↑k:Int),yO (k*4<(ae aP e.ak).length)]++yM 3 (yF ((↑(e.ak.getD k default).bI.length:Int)>40))++ [yB ((ae aP e.ak)[k*4+1+2]?=some (AV.sl 1 (ah (e.ak.getD k default).path))) (bc (f:=aP) (e:=4) (k:=k) (j:=3) (fun _=>rfl) aj rfl),yF ((↑(e.ak.getD k default).bI.length:Int)>40),yB ((ah (e.ak.getD k default).path).length=(e.ak.getD k default).path.length) (aC _)]++yM 2 (yF ((↑(e.ak.getD k default).bI.length:Int)>40)))<|gU 88 ((↑(e.ak.getD k default).path.length:Int)>10)<|zq<|zR<|a6<|aI<|de<|a6<|aI (zV [yB (Value.bool false=Value.bool (zm e)) (by rw [hs])])
   ·skip
    refine a_<|zS<|zB 3<|zP 1 [yH ([(3,{k:=k}),(5,yV (cF (e.ak.getD k default).name)),(6,yV (ai (↑(e.ak.getD k default).name.length:Int))),(12,{k:=k,g:=false}),(15,{av:=some (AV.sl 1 (ah (e.ak.getD k default).bI)),g:=false}),(16,{k:=(e.ak.getD k default).bI.length,g:=false}),(18,{b:=false}),(23,{k:=k,g:=false}),(26,{av:=some (AV.sl 1 (ah (e.ak.getD k default).path)),g:=false}),(27,{k:=(e.ak.getD k default).path.length,g:=false}),(29,{b:=false})]++yg [9,10,11,13,14,17,20,21,22,24,25,28])] [.aa [88,56,41,35,1,0,3,4] [1]] ([yR (↑k:Int),yO (k*4<(ae aP e.ak).length),yB ((ae aP e.ak)[k*4]?=some (cF (e.ak.getD k default).name)) (bc (f:=aP) (e:=4) (k:=k) (j:=0) (fun _=>rfl) aj rfl),yR (ai (↑(e.ak.getD k default).name.length:Int))]++yM 4 (yF ((↑(e.ak.getD k default).name.length:Int)>100))++ [yR (↑k:Int),yO (k*4<(ae aP e.ak).length)]++yM 3 (yF ((↑(e.ak.getD k default).name.length:Int)>100))++ [yB ((ae aP e.ak)[k*4+1+1]?=some (AV.sl 1 (ah (e.ak.getD k default).bI))) (bc (f:=aP) (e:=4) (k:=k) (j:=2) (fun _=>rfl) aj rfl),yF ((↑(e.ak.getD k default).name.length:Int)>100),yB ((ah (e.ak.getD k default).bI).length=(e.ak.getD k default).bI.length) (aC _)]++yM 2 (yF ((↑(e.ak.getD k default).name.length:Int)>100))++yM 4 (yF ((↑(e.ak.getD k default).bI.length:Int)>40))++ [yR (↑k:Int),yO (k*4<(ae aP e.ak).length)]++yM 3 (yF ((↑(e.ak.getD k default).bI.length:Int)>40))++ [yB ((ae aP e.ak)[k*4+1+2]?=some (AV.sl 1 (ah (e.ak.getD k default).path))) (bc (f:=aP) (e:=4) (k:=k) (j:=3) (fun _=>rfl) aj rfl),yF ((↑(e.ak.getD k default).bI.length:Int)>40),yB ((ah (e.ak.getD k default).path).length=(e.ak.getD k default).path.length) (aC _)]++yM 2 (yF ((↑(e.ak.getD k default).bI.length:Int)>40)))<|dt 88 ((↑(e.ak.getD k default).path.length:Int)>10)<|zK<|aL<|aq<|zX (yH [(1,yV (ai ((↑k:Int)+1)))]) [yN ((↑k:Int)+1)] (aK (k+1) ⟨aj,fun j hj=>by by_cases e2:j=k;(subst e2;exact ⟨aj,aj,aj⟩);exact hv j aj⟩ aj (zW [.aa [41,35,1,0,3,4] [1]]))
  ·have ek:k=e.ak.length:=aj
   subst ek
   have hs:=DQ (e:=e) ⟨aj,aj,aj,aj,aj,hb,hv⟩
   refine zE 2<|ba<|aS<|br<|aq<|zq<|zR (zV [yB (Value.bool true=Value.bool (zm e)) (by rw [hs])])
theorem pv (e:eP) (hB:mO e):bL Tryz.prog 17 [.agg (a7 e)] (ao true):=by
 have h1:=Bl e hB
 have h2:=nq e hB
 have hl:(fo e).length≤500000:=by
  by_cases c:eu e=0
  ·exact qd e c
  ·rw [show fo e= [] from if_neg c];exact Nat.zero_le _
 generalize fo e=B at *
 generalize eu e=E at *
 refine zO Tryz.func17 27<|zP 4 [{},yH [(1,yV (AV.bt [AV.own 1 (ag B),ai E]))],yH [(1,yV (AV.bt [AV.own 1 (ag B),ai E]))],yH [(1,yV (cF B)),(3,yV (cF B)),(4,yV (ao (B == B)))]] [.aa [2,6,5,4,3,1,0] [1014,1009,1]] ([yI h1,yI (aR B),yI h2,yI (aR B)]++yM 2 (yR (ag B))++ [yB (ao ((ByteArray.mk B.toArray).toList == (ByteArray.mk B.toArray).toList)=ao (B == B)) (fN (B) (B))]++yM 4 (yB ((B == B)=true) (by simp_all)))<|zR (zV [yB (Value.bool (E == E)=Value.bool true) (by simp only [beq_self_eq_true])])
end Go.Proofs.YtjgbhhnghedgdaaGreatDoor
