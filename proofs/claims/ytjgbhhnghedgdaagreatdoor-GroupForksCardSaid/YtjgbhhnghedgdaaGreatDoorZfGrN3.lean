import Derived.Test.YtjgbhhnghedgdaaGreatDoorZfGrN0
set_option linter.all false
namespace Go.Proofs.YtjgbhhnghedgdaaGreatDoor
open Go.RowKit
set_option maxRecDepth 100000
set_option maxHeartbeats 4000000
theorem GR (m:Mem) (a b:List dj) (hm:m.name.length≤1000) (ha:a.length≤1000000) (hb:b.length≤1000000) (hA:wS a) (hB:wS b):bA Tryz.prog 35 [.agg (aN m),.sl 17 (ae aG a),.sl 17 (ae aG b)] (.b_ [ai (I9 m a b),.own 1 (ae au (DD m a b)),ai (DE m a b)]):=by
 have J0:(ae aG a).length=a.length*17:=aA (e:=17) (fun _=>rfl) ..
 have nG:(ae aG b).length=b.length*17:=aA (e:=17) (fun _=>rfl) ..
 have h1:=uV m a hm ha hA
 have h2:=uV m b hm hb hB
 by_cases c1:pG m a=0
 case neg =>
  have e0:DE m a b=pG m a:=if_pos c1
  have e1:I9 m a b=0:=if_neg ag
  have e2:DD m a b= []:=if_neg (fun q=>by have:=q.1;omega)
  rw [e0,e1,e2]
  rw [show Dj m a=My from if_neg c1] at h1
  refine zO Tryz.func35 107<|zq<|zS<|zP 2 [yH [(2,yC h1)],yH [(1,yV (ao true))]] [.aa [27,10,8,7,6,3,0,1,2] [3]] [yI h1,yL 5 5,yB (ao (pG m a != (0:Int))=ao true) (by simp [c1])]<|zT 27<|zq<|dk (bL)
 have e0:DE m a b=pG m b:=if_neg (fun q=>q c1)
 rw [show Dj m a=de (jv a (bU m) a.length) from if_pos c1,c1] at h1
 generalize jv a (bU m) a.length=GA at *
 by_cases c2:pG m b=0
 case neg =>
  have e1:I9 m a b=0:=if_neg ag
  have e2:DD m a b= []:=if_neg (fun q=>by have:=q.1;omega)
  rw [e0,e1,e2]
  rw [show Dj m b=My from if_neg c2] at h2
  refine zO Tryz.func35 107<|zq<|zS<|zP 2 [yH [(2,yD h1)],yH [(1,yV (ao false))]] [.aa [27,10,8,7,6,3,0,1,2] [3]] [yI h1,yL 5 5,yR (ao false)]<|zF 27<|a6<|zS<|zP 2 [yH [(2,yC h2)],yH [(1,yV (ao true))]] [.aa [36,12,27,10,8,7,6,3,0,1,2] [3]] [yI h2,yL 5 5,yB (ao (pG m b != (0:Int))=ao true) (by simp [c2])]<|zT 36<|zq<|dk (bL)
 rw [c2] at e0
 rw [show Dj m b=de (jv b (bU m) b.length) from if_pos c2,c2] at h2
 generalize jv b (bU m) b.length=GB at *
 have e1:I9 m a b=kf a b:=if_pos e0
 have e2:DD m a b=if kf a b<a.length∧kf a b<b.length then ie (a.getD (kf a b) default).ak (b.getD (kf a b) default).ak else []:=by
  unfold DD;rw [e0]
  by_cases c:kf a b<a.length∧kf a b<b.length
  ·rw [if_pos c,if_pos ⟨rfl,c⟩]
  ·rw [if_neg c,if_neg (fun q=>c q.2)]
 rw [e0,e1,e2]
 clear e0 e1 e2 c1 c2
 refine zO Tryz.func35 107<|zq<|zS<|zP 2 [yH [(2,yD h1)],{}] [.aa [27,10,8,7,6,3,0,1,2] [3]] [yI h1,yL 5 5]<|zF 27<|a6<|zS<|zP 2 [yH [(2,yD h2)],{}] [.aa [36,12,27,10,8,7,6,3,0,1,2] [3]] [yI h2,yL 5 5]<|zF 36<|a6<|zS<|zB 0 (zL (fun (k:Nat)=>(⟨[(36,ao ((0:Int) != (0:Int))),(12,ai 0),(27,ao ((0:Int) != (0:Int))),(10,ai 0),(8,ai 0),(7,AV.nil),(3,AV.addr 3 0),(0,AV.agg (aN m)),(1,AV.sl 17 (ae aG a)),(2,AV.sl 17 (ae aG b)),(6,ai k)],[(3,⟨1,false,true,List.map (aH 11) (List.map (aH 11) (List.map (aH 9) (List.map (aH 9) (List.map (aH 3) (aN m)))))⟩)]⟩:AS)) (fun k=>(k≤a.length∧k≤b.length∧ ∀j,j<k->SB a b j)) (fun k=>(a.length-k)) (0) ?_ (zW [.aa [36,12,27,10,8,7,3,0,1,2,6] [3]]) ?_)
 ·exact ⟨ag,ag,ag⟩
 rintro k ⟨Rn,tM,hs⟩
 by_cases c1:k<a.length
 case neg =>
  have ec:=Ax Rn tM hs (fun q=>absurd q c1)
  rw [ec,if_neg (fun q=>c1 q.1)]
  have ek:k=a.length:=ag
  subst ek
  refine zS<|zP 1 [yH ([(2,{k:=a.length}),(9,{b:=false})]++yg [5,6,7,8])] [.aa [47,36,12,27,10,8,7,3,0,1,2,6] [3]] ([yI J0]++yM 5 (yF ((↑a.length:Int)<(↑a.length:Int))))<|zF 47<|zE 0<|a7<|aP<|bp<|al<|zS<|zP 1 [yH [(2,{k:=a.length})]] [.aa [79,47,36,12,27,10,8,7,3,0,1,2,6] [3]] ([yI J0]++yM 5 (yB (((↑a.length:Int) == (↑a.length:Int))=true) fh))<|zT 79<|zq<|dk (bL)
 by_cases c2:k<b.length
 case neg =>
  have ec:=Ax Rn tM hs (fun _ q=>absurd q c2)
  rw [ec,if_neg (fun q=>c2 q.2)]
  have ek:k=b.length:=ag
  subst ek
  refine zS<|zP 1 [yH [(2,{k:=a.length}),(7,{k:=b.length})]] [.aa [47,36,12,27,10,8,7,3,0,1,2,6] [3]] ([yI J0]++yM 3 (yT ((↑b.length:Int)<(↑a.length:Int)))++ [yI nG]++yM 2 (yT ((↑b.length:Int)<(↑a.length:Int))))<|dm 47 ((↑b.length:Int)<(↑b.length:Int))<|zE 0<|a7<|aP<|bp<|al<|zS<|zP 1 [yH ([(2,{k:=a.length}),(7,{k:=b.length,g:=false}),(9,{b:=false})]++yg [5,6,8])] [.aa [79,47,36,12,27,10,8,7,3,0,1,2,6] [3]] ([yI J0]++yM 3 (yB (((↑b.length:Int) == (↑a.length:Int))=false) bx)++ [yI nG]++yM 2 (yB (((↑b.length:Int) == (↑a.length:Int))=false) bx))<|du 79 ((↑b.length:Int) == (↑b.length:Int)) fh<|zq<|dk (bL)
 have ic:=qY c1
 have FY:=qY c2
 have y1:=wO (a.getD k default) (hA.at_ c1).1
 have y2:=wO (b.getD k default) (hB.at_ c2).1
 have y3:=MX (dM (a.getD k default)) (dM (b.getD k default)) (by have:=zJ (a.getD k default);omega) (by have:=zJ (b.getD k default);omega)
 by_cases c3:dM (a.getD k default)=dM (b.getD k default)
 ·rw [beq_iff_eq.2 c3] at y3
  refine zS<|zP 1 [yH [(2,{k:=a.length}),(7,{k:=b.length})]] [.aa [47,36,12,27,10,8,7,3,0,1,2,6] [3]] ([yI J0]++yM 3 (yT ((↑k:Int)<(↑a.length:Int)))++ [yI nG]++yM 2 (yT ((↑k:Int)<(↑a.length:Int))))<|gX 47 ((↑k:Int)<(↑b.length:Int))<|a6<|zB 1<|zP 2 [yH [(2,{k:=k}),(3,yV (AV.agg (aG (a.getD k default)))),(4,yC y1)],yH [(2,{k:=k}),(3,yV (AV.agg (aG (b.getD k default)))),(4,yC y2)]] [.aa [15,13,47,36,12,27,10,8,7,3,0,1,2,6] [1061,1053,3]] [yR (↑k:Int),yO (k*17<(ae aG a).length),yu aG a k 0 17,yR 17,yI y1,yI (aQ (dM (a.getD k default))),yR (↑k:Int),yO (k*17<(ae aG b).length),yu aG b k 0 17,yR 17,yI y2,yI (aQ (dM (b.getD k default)))]<|zS<|zP 1 [yH [(2,yC y3)]] [.aa [67,15,13,47,36,12,27,10,8,7,3,0,1,2,6] [1061,1053,3]] [yI y3]<|zF 67<|a6<|zX (yH [(1,yV (ai ((↑k:Int)+1)))]) [yN ((↑k:Int)+1)]<|aK (aF (k+1) ⟨ag,ag,fun j hj=>by by_cases e:j=k;(subst e;exact c3);exact hs j ag⟩ ag (zW [.aa [36,12,27,10,8,7,3,0,1,2,6] [3]]))
 ·rw [beq_eq_false_iff_ne.2 c3] at y3
  have ec:=Ax Rn tM hs (fun _ _=>c3)
  rw [ec,if_pos ⟨c1,c2⟩]
  have va:=wy c1
  have vb:=wy c2
  have b1:=(hA.at_ c1).2
  have b2:=(hB.at_ c2).2
  have xW:(ae aW (a.getD k default).ak).length=(a.getD k default).ak.length*4:=aA (e:=4) (fun _=>rfl) ..
  refine zS<|zP 1 [yH [(2,{k:=a.length}),(7,{k:=b.length})]] [.aa [47,36,12,27,10,8,7,3,0,1,2,6] [3]] ([yI J0]++yM 3 (yT ((↑k:Int)<(↑a.length:Int)))++ [yI nG]++yM 2 (yT ((↑k:Int)<(↑a.length:Int))))<|gX 47 ((↑k:Int)<(↑b.length:Int))<|a6<|zB 1<|zP 2 [yH [(2,{k:=k}),(3,yV (AV.agg (aG (a.getD k default)))),(4,yC y1)],yH [(2,{k:=k}),(3,yV (AV.agg (aG (b.getD k default)))),(4,yC y2)]] [.aa [15,13,47,36,12,27,10,8,7,3,0,1,2,6] [1061,1053,3]] [yR (↑k:Int),yO (k*17<(ae aG a).length),yu aG a k 0 17,yR 17,yI y1,yI (aQ (dM (a.getD k default))),yR (↑k:Int),yO (k*17<(ae aG b).length),yu aG b k 0 17,yR 17,yI y2,yI (aQ (dM (b.getD k default)))]<|zS<|zP 1 [yH [(2,yC y3)]] [.aa [67,15,13,47,36,12,27,10,8,7,3,0,1,2,6] [1061,1053,3]] [yI y3]<|zT 67<|zE 0<|a7<|Nl bC<|aP<|bp<|al<|zS<|zP 1 [yH ([(2,{k:=a.length}),(7,{k:=b.length,g:=false}),(9,{b:=false})]++yg [5,6,8])] [.aa [79,67,15,13,47,36,12,27,10,8,7,3,0,1,2,6] [1061,1053,3]] ([yI J0]++yM 3 (yB (((↑k:Int) == (↑a.length:Int))=false) bx)++ [yI nG]++yM 2 (yB (((↑k:Int) == (↑a.length:Int))=false) bx))<|bj 79 ((↑k:Int) == (↑b.length:Int)) bx<|a6<|zS<|zP 1 [yH [(2,{k:=k}),(4,yV (AV.sl 4 (ae aW (a.getD k default).ak))),(5,{k:=(a.getD k default).ak.length})]] [.aa [87,86,85,79,67,15,13,47,36,12,27,10,8,7,3,0,1,2,6] [1061,1053,3]] [yR (↑k:Int),yO (k*17<(ae aG a).length),yI va,yI xW]<|zB 2 (zL (fun (i:Nat)=>(⟨[(86,ai (↑(a.getD k default).ak.length:Int)),(85,AV.sl 4 (ae aW (a.getD k default).ak)),(79,ao ((↑k:Int) == (↑b.length:Int))),(67,ao (!false)),(15,AV.ref 1061),(13,AV.ref 1053),(47,ao (decide ((↑k:Int)<(↑b.length:Int)))),(36,ao ((0:Int) != (0:Int))),(12,ai 0),(27,ao ((0:Int) != (0:Int))),(10,ai 0),(8,ai 0),(3,AV.addr 3 0),(0,AV.agg (aN m)),(1,AV.sl 17 (ae aG a)),(2,AV.sl 17 (ae aG b)),(6,ai ↑k),(87,ai i),(7,AV.ref 103)],[(1061,⟨1,true,false,ah (dM (b.getD k default))⟩),(1053,⟨1,true,false,ah (dM (a.getD k default))⟩),(103,⟨1,true,false,ae au (ie ((a.getD k default).ak.take i) (b.getD k default).ak)⟩),(3,⟨1,false,true,aN m⟩)]⟩:AS)) (fun i=>(i≤(a.getD k default).ak.length)) (fun i=>((a.getD k default).ak.length-i)) (0) ?_ (zW [.nil 7 103 1,.aa [86,85,79,67,15,13,47,36,12,27,10,8,3,0,1,2,6,87,7] [1061,1053,103,3]]) ?_)
  ·omega
  intro i hi
  refine zq<|zS (zD 88 ((↑i:Int)<(↑(a.getD k default).ak.length:Int)) (fun q=>?_) (fun q=>?_))
  ·have dc:i<(a.getD k default).ak.length:=ag
   have dC:=Hm (a.getD k default).ak (b.getD k default).ak dc
   have XG:=jF dc
   have Qb:=C5 (b.getD k default).ak ((a.getD k default).ak.getD i default) ag
   have vO:(ae au (ie ((a.getD k default).ak.take i) (b.getD k default).ak)).length≤10:=by rw [aA (e:=1) (fun _=>rfl)];have h:=Cr ((a.getD k default).ak.take i) (b.getD k default).ak;rw [List.length_take] at h;omega
   by_cases cd:l0 (b.getD k default).ak ((a.getD k default).ak.getD i default).name=true
   ·rw [if_pos cd] at dC
    rw [cd] at Qb
    refine a6<|zS<|zB 3<|zP 3 [yH [(0,{k:=i}),(1,yV (AV.agg (aW ((a.getD k default).ak.getD i default))))],yH [(0,yV (AV.lu 66 [AV.ptr (aW ((a.getD k default).ak.getD i default)) 0]))],yH [(2,{k:=k}),(4,yV (AV.sl 4 (ae aW (b.getD k default).ak))),(6,yC Qb)]] [.aa [98,19,18,88,86,85,79,67,15,13,47,36,12,27,10,8,3,0,1,2,6,87,7] [1061,1053,103,3]] [yR (↑i:Int),yO (i*4<(ae aW (a.getD k default).ak).length),yu aW ((a.getD k default).ak) i 0 4,yR 4,yL 4 4,yR (↑k:Int),yO (k*17<(ae aG b).length),yI vb,yI Qb]<|zT 98<|zX {} [yO (((ae au (ie (List.take i (a.getD k default).ak) (b.getD k default).ak)).length+1)*16≤140737488355328)]<|aK<|al<|zX (yH [(0,yV (ai ((↑i:Int)+1)))]) [yN ((↑i:Int)+1)] (aF (i+1) (by assumption) ag (eX [.aa [86,85,79,67,15,13,47,36,12,27,10,8,3,0,1,2,6,87,7] [1061,1053,103,3]] [] [103] [yB (ae au (ie (List.take i (a.getD k default).ak) (b.getD k default).ak)++ [di ((a.getD k default).ak.getD i default).name]=ae au (ie (List.take (i+1) (a.getD k default).ak) (b.getD k default).ak)) (by rw [dC];exact fS _ _)]))
   ·rw [if_neg cd,List.append_nil] at dC
    rw [show l0 (b.getD k default).ak ((a.getD k default).ak.getD i default).name=false by simpa using cd] at Qb
    refine a6<|zS<|zB 3<|zP 3 [yH [(0,{k:=i}),(1,yV (AV.agg (aW ((a.getD k default).ak.getD i default))))],yH [(0,yV (AV.lu 66 [AV.ptr (aW ((a.getD k default).ak.getD i default)) 0]))],yH [(2,{k:=k}),(4,yV (AV.sl 4 (ae aW (b.getD k default).ak))),(6,yC Qb)]] [.aa [98,19,18,88,86,85,79,67,15,13,47,36,12,27,10,8,3,0,1,2,6,87,7] [1061,1053,103,3]] [yR (↑i:Int),yO (i*4<(ae aW (a.getD k default).ak).length),yu aW ((a.getD k default).ak) i 0 4,yR 4,yL 4 4,yR (↑k:Int),yO (k*17<(ae aG b).length),yI vb,yI Qb]<|zF 98<|zK<|aK<|al<|zX (yH [(0,yV (ai ((↑i:Int)+1)))]) [yN ((↑i:Int)+1)] (aF (i+1) (by assumption) ag (eX [.aa [86,85,79,67,15,13,47,36,12,27,10,8,3,0,1,2,6,87,7] [1061,1053,103,3]] [] [103] [yB (ae au (ie (List.take i (a.getD k default).ak) (b.getD k default).ak)=ae au (ie (List.take (i+1) (a.getD k default).ak) (b.getD k default).ak)) (by rw [dC])]))
  ·have ei:i=(a.getD k default).ak.length:=ag
   subst ei
   rw [List.take_length]
   refine zE 2<|a7<|aP<|bp<|al<|zq<|zR (bL)
end Go.Proofs.YtjgbhhnghedgdaaGreatDoor
