import Derived.Test.YtjgbhhnghedgdaaGreatDoorZaGrR3
import Derived.Test.YtjgbhhnghedgdaaGreatDoorZaTk7r
set_option linter.all false
namespace Go.Proofs.YtjgbhhnghedgdaaGreatDoor
open Go.RowKit
set_option maxRecDepth 100000
set_option maxHeartbeats 4000000
structure rM (e:eF):Prop where
 name:e.name.length≤100
 box:e.dep.box.length≤1100
 zb:e.dep.aa.length≤12
 NL:e.dep.au.length≤12
 Ra:e.aq.length≤10
 hs:∀i,i<e.dep.aa.length->(e.dep.aa.getD i default).length≤100
 vs:∀i,i<e.aq.length->(e.aq.getD i default).name.length≤100∧(e.aq.getD i default).ct.length≤40∧(e.aq.getD i default).path.length≤10
noncomputable def xf (e:eF):Bool:= @decide (rM e) (Classical.propDecidable _)
theorem ll {e:eF} (h:¬rM e):xf e=false:=by exact @decide_eq_false _ (Classical.propDecidable _) h
theorem DY {e:eF} (h:rM e):xf e=true:=by exact @decide_eq_true _ (Classical.propDecidable _) h
theorem rM.b {e:eF} (h:rM e):mN e:=⟨by have:=h.name;omega,⟨by have:=h.box;omega,by have:=h.zb;omega,by have:=h.NL;omega,fun i hi=>by have:=h.hs i hi;omega⟩⟩
theorem wg (e:eF):bK Tryz.prog 11 [.agg (aT e)] (ao (xf e)):=by
 have xR:(af a8 e.aq).length=e.aq.length*4:=aF (e:=4) (fun _=>rfl) ..
 have PS:(af ay e.dep.aa).length=e.dep.aa.length:=by rw [aF (e:=1) (fun _=>rfl)];omega
 by_cases c1:100<e.name.length
 ·have hs:=ll (e:=e) fun q=>by have:=q.name;omega
  refine zO Tryz.func11 89<|zq<|zS<|zP 1 [yH [(2,yV (ai (↑e.name.length:Int)))]] [.ae [35,2,1,0] [1]] ([yR (ai (↑e.name.length:Int))]++yM 6 (yT ((↑e.name.length:Int)>100))++yM 17 (yR true))<|zT 35<|zq<|dk (zV [yB (Value.bool false=Value.bool (xf e)) (by rw [hs])])
 by_cases c2:1100<e.dep.box.length
 ·have hs:=ll (e:=e) fun q=>by have:=q.box;omega
  refine zO Tryz.func11 89<|zq<|zS<|zP 1 [yH ([(2,yV (ai (↑e.name.length:Int))),(8,{k:=e.dep.box.length,g:=false}),(10,{b:=false})]++yg [5,6,7,9])] [.ae [35,2,1,0] [1]] ([yR (ai (↑e.name.length:Int))]++yM 4 (yF ((↑e.name.length:Int)>100))++ [yI (aC e.dep.box)]++yM 2 (yF ((↑e.name.length:Int)>100))++yM 6 (yT ((↑e.dep.box.length:Int)>1100))++yM 11 (yR true))<|zT 35<|zq<|dk (zV [yB (Value.bool false=Value.bool (xf e)) (by rw [hs])])
 by_cases c3:12<e.dep.aa.length
 ·have hs:=ll (e:=e) fun q=>by have:=q.zb;omega
  refine zO Tryz.func11 89<|zq<|zS<|zP 1 [yH ([(2,yV (ai (↑e.name.length:Int))),(8,{k:=e.dep.box.length,g:=false}),(10,{b:=false}),(15,{k:=(af ay e.dep.aa).length,g:=false}),(17,{b:=false})]++yg [5,6,7,9,12,13,14,16])] [.ae [35,2,1,0] [1]] ([yR (ai (↑e.name.length:Int))]++yM 4 (yF ((↑e.name.length:Int)>100))++ [yI (aC e.dep.box)]++yM 2 (yF ((↑e.name.length:Int)>100))++yM 4 (yF ((↑e.dep.box.length:Int)>1100))++ [yR ((af ay e.dep.aa).length)]++yM 2 (yF ((↑e.dep.box.length:Int)>1100))++yM 6 (yT ((↑(af ay e.dep.aa).length:Int)>12))++yM 5 (yR true))<|zT 35<|zq<|dk (zV [yB (Value.bool false=Value.bool (xf e)) (by rw [hs])])
 by_cases c4:12<e.dep.au.length
 ·have hs:=ll (e:=e) fun q=>by have:=q.NL;omega
  refine zO Tryz.func11 89<|zq<|zS<|zP 1 [yH ([(2,yV (ai (↑e.name.length:Int))),(8,{k:=e.dep.box.length,g:=false}),(10,{b:=false}),(15,{k:=(af ay e.dep.aa).length,g:=false}),(17,{b:=false}),(22,{k:=e.dep.au.length,g:=false}),(24,{b:=false})]++yg [5,6,7,9,12,13,14,16,19,20,21,23])] [.ae [35,2,1,0] [1]] ([yR (ai (↑e.name.length:Int))]++yM 4 (yF ((↑e.name.length:Int)>100))++ [yI (aC e.dep.box)]++yM 2 (yF ((↑e.name.length:Int)>100))++yM 4 (yF ((↑e.dep.box.length:Int)>1100))++ [yR ((af ay e.dep.aa).length)]++yM 2 (yF ((↑e.dep.box.length:Int)>1100))++yM 4 (yF ((↑(af ay e.dep.aa).length:Int)>12))++ [yI (aA e.dep.au)]++yM 2 (yF ((↑(af ay e.dep.aa).length:Int)>12))++yM 5 (yT ((↑e.dep.au.length:Int)>12)))<|zT 35<|zq<|dk (zV [yB (Value.bool false=Value.bool (xf e)) (by rw [hs])])
 by_cases c5:10<e.aq.length
 ·have hs:=ll (e:=e) fun q=>by have:=q.Ra;omega
  refine zO Tryz.func11 89<|zq<|zS<|zP 1 [yH ([(2,yV (ai (↑e.name.length:Int))),(8,{k:=e.dep.box.length,g:=false}),(10,{b:=false}),(15,{k:=(af ay e.dep.aa).length,g:=false}),(17,{b:=false}),(22,{k:=e.dep.au.length,g:=false}),(24,{b:=false}),(28,{k:=e.aq.length,g:=false}),(30,{b:=false})]++yg [5,6,7,9,12,13,14,16,19,20,21,23,26,27,29])] [.ae [35,2,1,0] [1]] ([yR (ai (↑e.name.length:Int))]++yM 4 (yF ((↑e.name.length:Int)>100))++ [yI (aC e.dep.box)]++yM 2 (yF ((↑e.name.length:Int)>100))++yM 4 (yF ((↑e.dep.box.length:Int)>1100))++ [yR ((af ay e.dep.aa).length)]++yM 2 (yF ((↑e.dep.box.length:Int)>1100))++yM 4 (yF ((↑(af ay e.dep.aa).length:Int)>12))++ [yI (aA e.dep.au)]++yM 2 (yF ((↑(af ay e.dep.aa).length:Int)>12))++yM 3 (yF ((↑e.dep.au.length:Int)>12))++ [yI xR]++yM 2 (yF ((↑e.dep.au.length:Int)>12)))<|gT 35 ((↑e.aq.length:Int)>10)<|zq<|dk (zV [yB (Value.bool false=Value.bool (xf e)) (by rw [hs])])
 refine zO Tryz.func11 89<|zq<|zS<|zP 1 [yH ([(2,yV (ai (↑e.name.length:Int))),(8,{k:=e.dep.box.length,g:=false}),(10,{b:=false}),(15,{k:=(af ay e.dep.aa).length,g:=false}),(17,{b:=false}),(22,{k:=e.dep.au.length,g:=false}),(24,{b:=false}),(28,{k:=e.aq.length,g:=false}),(30,{b:=false})]++yg [5,6,7,9,12,13,14,16,19,20,21,23,26,27,29])] [.ae [35,2,1,0] [1]] ([yR (ai (↑e.name.length:Int))]++yM 4 (yF ((↑e.name.length:Int)>100))++ [yI (aC e.dep.box)]++yM 2 (yF ((↑e.name.length:Int)>100))++yM 4 (yF ((↑e.dep.box.length:Int)>1100))++ [yR ((af ay e.dep.aa).length)]++yM 2 (yF ((↑e.dep.box.length:Int)>1100))++yM 4 (yF ((↑(af ay e.dep.aa).length:Int)>12))++ [yI (aA e.dep.au)]++yM 2 (yF ((↑(af ay e.dep.aa).length:Int)>12))++yM 3 (yF ((↑e.dep.au.length:Int)>12))++ [yI xR]++yM 2 (yF ((↑e.dep.au.length:Int)>12)))<|dp 35 ((↑e.aq.length:Int)>10)<|a_<|zS<|zq<|zB 0 (zL (fun (i:Nat)=>(⟨[(35,ao (decide ((↑e.aq.length:Int)>10))),(1,AV.addr 1 0),(0,AV.agg (aT e)),(3,ai i)],[(1,⟨1,false,true,List.map (aD 1) (aT e)⟩)]⟩:AS)) (fun i=>(i≤e.dep.aa.length∧ ∀j,j<i->(e.dep.aa.getD j default).length≤100)) (fun i=>(e.dep.aa.length-i)) (0) ?_ (zW [.ae [35,1,0,3] [1]]) ?_)
 ·exact ⟨ah,fun j hj=>absurd hj (Nat.not_lt_zero j)⟩
 rintro i ⟨hi,hb⟩
 refine zS<|zP 1 [yH [(4,{k:=(af ay e.dep.aa).length})]] [.ae [41,35,1,0,3] [1]] [yR ((af ay e.dep.aa).length)] (zD 41 ((↑i:Int)<(↑(af ay e.dep.aa).length:Int)) (fun q=>?_) (fun q=>?_))
 ·have dz:i<e.dep.aa.length:=ah
  have gh:=iK dz
  by_cases c6:100<(e.dep.aa.getD i default).length
  ·have hs:=ll (e:=e) fun q=>by have:=q.hs i dz;omega
   refine a_<|zS<|zB 1<|zP 1 [yH [(4,{k:=i}),(5,yV (db (e.dep.aa.getD i default))),(6,yV (ai (↑(e.dep.aa.getD i default).length:Int)))]] [.ae [51,41,35,1,0,3] [1]] [yR (↑i:Int),yO (i<(af ay e.dep.aa).length),yI gh,yR (ai (↑(e.dep.aa.getD i default).length:Int))]<|gT 51 ((↑(e.dep.aa.getD i default).length:Int)>100)<|zq<|zR<|aY<|aI<|c_<|aY<|aI (zV [yB (Value.bool false=Value.bool (xf e)) (by rw [hs])])
  ·skip
   refine a_<|zS<|zB 1<|zP 1 [yH [(4,{k:=i}),(5,yV (db (e.dep.aa.getD i default))),(6,yV (ai (↑(e.dep.aa.getD i default).length:Int)))]] [.ae [51,41,35,1,0,3] [1]] [yR (↑i:Int),yO (i<(af ay e.dep.aa).length),yI gh,yR (ai (↑(e.dep.aa.getD i default).length:Int))]<|dp 51 ((↑(e.dep.aa.getD i default).length:Int)>100)<|zK<|aM<|ak<|zX (yH [(1,yV (ai ((↑i:Int)+1)))]) [yN ((↑i:Int)+1)] (aJ (i+1) ⟨ah,fun j hj=>by by_cases e2:j=i;(subst e2;omega);exact hb j ah⟩ ah (zW [.ae [35,1,0,3] [1]]))
 ·have ei:i=e.dep.aa.length:=ah
  subst ei
  refine zE 0<|a7<|aO<|bn<|ak<|zS<|zq<|zB 2 (zL (fun (k:Nat)=>(⟨[(41,ao (decide ((↑e.dep.aa.length:Int)<(↑(af ay e.dep.aa).length:Int)))),(35,ao (decide ((↑e.aq.length:Int)>10))),(1,AV.addr 1 0),(0,AV.agg (aT e)),(3,ai (↑e.dep.aa.length:Int)),(4,ai k)],[(1,⟨1,false,true,List.map (aD 1) (aT e)⟩)]⟩:AS)) (fun k=>(k≤e.aq.length∧ ∀j,j<k->(e.aq.getD j default).name.length≤100∧(e.aq.getD j default).ct.length≤40∧(e.aq.getD j default).path.length≤10)) (fun k=>(e.aq.length-k)) (0) ?_ (zW [.ae [41,35,1,0,3,4] [1]]) ?_)
  ·exact ⟨ah,fun j hj=>absurd hj (Nat.not_lt_zero j)⟩
  rintro k ⟨hk,hv⟩
  refine zS<|zP 1 [yH [(3,{k:=e.aq.length})]] [.ae [56,41,35,1,0,3,4] [1]] [yI xR] (zD 56 ((↑k:Int)<(↑e.aq.length:Int)) (fun q2=>?_) (fun q2=>?_))
  ·have r9:k<e.aq.length:=ah
   have gh:=k9 r9
   by_cases c6:100<(e.aq.getD k default).name.length
   ·have hs:=ll (e:=e) fun q=>by have:=(q.vs k r9).1;omega
    refine a_<|zS<|zB 3<|zP 1 [yH [(3,{k:=k}),(5,yV (db (e.aq.getD k default).name)),(6,yV (ai (↑(e.aq.getD k default).name.length:Int)))]] [.ae [88,56,41,35,1,0,3,4] [1]] ([yR (↑k:Int),yO (k*4<(af a8 e.aq).length),yA a8 e.aq k 0,yR (ai (↑(e.aq.getD k default).name.length:Int))]++yM 10 (yT ((↑(e.aq.getD k default).name.length:Int)>100))++yM 10 (yR true))<|zT 88<|zq<|zR<|aY<|aI<|c_<|aY<|aI (zV [yB (Value.bool false=Value.bool (xf e)) (by rw [hs])])
   by_cases c7:40<(e.aq.getD k default).ct.length
   ·have hs:=ll (e:=e) fun q=>by have:=(q.vs k r9).2.1;omega
    refine a_<|zS<|zB 3<|zP 1 [yH ([(3,{k:=k}),(5,yV (db (e.aq.getD k default).name)),(6,yV (ai (↑(e.aq.getD k default).name.length:Int))),(12,{k:=k,g:=false}),(15,{av:=some (AV.sl 1 (aj (e.aq.getD k default).ct)),g:=false}),(16,{k:=(e.aq.getD k default).ct.length,g:=false}),(18,{b:=false})]++yg [9,10,11,13,14,17])] [.ae [88,56,41,35,1,0,3,4] [1]] ([yR (↑k:Int),yO (k*4<(af a8 e.aq).length),yA a8 e.aq k 0,yR (ai (↑(e.aq.getD k default).name.length:Int))]++yM 4 (yF ((↑(e.aq.getD k default).name.length:Int)>100))++ [yR (↑k:Int),yO (k*4<(af a8 e.aq).length)]++yM 3 (yF ((↑(e.aq.getD k default).name.length:Int)>100))++ [yA a8 e.aq k 2,yF ((↑(e.aq.getD k default).name.length:Int)>100),yI (aA ((e.aq.getD k default).ct))]++yM 2 (yF ((↑(e.aq.getD k default).name.length:Int)>100))++yM 10 (yT ((↑(e.aq.getD k default).ct.length:Int)>40)))<|zT 88<|zq<|zR<|aY<|aI<|c_<|aY<|aI (zV [yB (Value.bool false=Value.bool (xf e)) (by rw [hs])])
   by_cases c8:10<(e.aq.getD k default).path.length
   ·have hs:=ll (e:=e) fun q=>by have:=(q.vs k r9).2.2;omega
    refine a_<|zS<|zB 3<|zP 1 [yH ([(3,{k:=k}),(5,yV (db (e.aq.getD k default).name)),(6,yV (ai (↑(e.aq.getD k default).name.length:Int))),(12,{k:=k,g:=false}),(15,{av:=some (AV.sl 1 (aj (e.aq.getD k default).ct)),g:=false}),(16,{k:=(e.aq.getD k default).ct.length,g:=false}),(18,{b:=false}),(23,{k:=k,g:=false}),(26,{av:=some (AV.sl 1 (aj (e.aq.getD k default).path)),g:=false}),(27,{k:=(e.aq.getD k default).path.length,g:=false}),(29,{b:=false})]++yg [9,10,11,13,14,17,20,21,22,24,25,28])] [.ae [88,56,41,35,1,0,3,4] [1]] ([yR (↑k:Int),yO (k*4<(af a8 e.aq).length),yA a8 e.aq k 0,yR (ai (↑(e.aq.getD k default).name.length:Int))]++yM 4 (yF ((↑(e.aq.getD k default).name.length:Int)>100))++ [yR (↑k:Int),yO (k*4<(af a8 e.aq).length)]++yM 3 (yF ((↑(e.aq.getD k default).name.length:Int)>100))++ [yA a8 e.aq k 2,yF ((↑(e.aq.getD k default).name.length:Int)>100),yI (aA ((e.aq.getD k default).ct))]++yM 2 (yF ((↑(e.aq.getD k default).name.length:Int)>100))++yM 4 (yF ((↑(e.aq.getD k default).ct.length:Int)>40))++ [yR (↑k:Int),yO (k*4<(af a8 e.aq).length)]++yM 3 (yF ((↑(e.aq.getD k default).ct.length:Int)>40))++ [yA a8 e.aq k 3,yF ((↑(e.aq.getD k default).ct.length:Int)>40),yI (aA ((e.aq.getD k default).path))]++yM 2 (yF ((↑(e.aq.getD k default).ct.length:Int)>40)))<|gT 88 ((↑(e.aq.getD k default).path.length:Int)>10)<|zq<|zR<|aY<|aI<|c_<|aY<|aI (zV [yB (Value.bool false=Value.bool (xf e)) (by rw [hs])])
   ·skip
    refine a_<|zS<|zB 3<|zP 1 [yH ([(3,{k:=k}),(5,yV (db (e.aq.getD k default).name)),(6,yV (ai (↑(e.aq.getD k default).name.length:Int))),(12,{k:=k,g:=false}),(15,{av:=some (AV.sl 1 (aj (e.aq.getD k default).ct)),g:=false}),(16,{k:=(e.aq.getD k default).ct.length,g:=false}),(18,{b:=false}),(23,{k:=k,g:=false}),(26,{av:=some (AV.sl 1 (aj (e.aq.getD k default).path)),g:=false}),(27,{k:=(e.aq.getD k default).path.length,g:=false}),(29,{b:=false})]++yg [9,10,11,13,14,17,20,21,22,24,25,28])] [.ae [88,56,41,35,1,0,3,4] [1]] ([yR (↑k:Int),yO (k*4<(af a8 e.aq).length),yA a8 e.aq k 0,yR (ai (↑(e.aq.getD k default).name.length:Int))]++yM 4 (yF ((↑(e.aq.getD k default).name.length:Int)>100))++ [yR (↑k:Int),yO (k*4<(af a8 e.aq).length)]++yM 3 (yF ((↑(e.aq.getD k default).name.length:Int)>100))++ [yA a8 e.aq k 2,yF ((↑(e.aq.getD k default).name.length:Int)>100),yI (aA ((e.aq.getD k default).ct))]++yM 2 (yF ((↑(e.aq.getD k default).name.length:Int)>100))++yM 4 (yF ((↑(e.aq.getD k default).ct.length:Int)>40))++ [yR (↑k:Int),yO (k*4<(af a8 e.aq).length)]++yM 3 (yF ((↑(e.aq.getD k default).ct.length:Int)>40))++ [yA a8 e.aq k 3,yF ((↑(e.aq.getD k default).ct.length:Int)>40),yI (aA ((e.aq.getD k default).path))]++yM 2 (yF ((↑(e.aq.getD k default).ct.length:Int)>40)))<|dp 88 ((↑(e.aq.getD k default).path.length:Int)>10)<|zK<|aM<|ak<|zX (yH [(1,yV (ai ((↑k:Int)+1)))]) [yN ((↑k:Int)+1)] (aJ (k+1) ⟨ah,fun j hj=>by by_cases e2:j=k;(subst e2;exact ⟨ah,ah,ah⟩);exact hv j ah⟩ ah (zW [.ae [41,35,1,0,3,4] [1]]))
  ·have ek:k=e.aq.length:=ah
   subst ek
   have hs:=DY (e:=e) ⟨ah,ah,ah,ah,ah,hb,hv⟩
   refine zE 2<|a7<|aO<|bn<|ak<|zq<|zR (zV [yB (Value.bool true=Value.bool (xf e)) (by rw [hs])])
end Go.Proofs.YtjgbhhnghedgdaaGreatDoor
