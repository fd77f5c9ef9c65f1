import Derived.Test.YtjgbhhnghedgdaaGreatDoorZmGrN0
set_option linter.all false
namespace Go.Proofs.YtjgbhhnghedgdaaGreatDoor
open Go.RowKit
set_option maxRecDepth 100000
set_option maxHeartbeats 4000000
theorem F1 (m:Mem) (a b:List dP) (hm:m.name.length≤1000) (ha:a.length≤1000000) (hb:b.length≤1000000) (hA:na a) (hB:na b):bC Tryz.prog 35 [.agg (aG m),.sl 17 (ae aI a),.sl 17 (ae aI b)] (.bk [ai (yf m a b),.own 1 (ae ax (pt m a b)),ai (yh m a b)]):=by
 have vO:(ae aI a).length=a.length*17:=aE (e:=17) (fun _=>rfl) ..
 have lJ:(ae aI b).length=b.length*17:=aE (e:=17) (fun _=>rfl) ..
 have h1:=pe m a hm ha hA
 have h2:=pe m b hm hb hB
 by_cases c1:iQ m a=0
 case neg =>
  have e0:yh m a b=iQ m a:=if_pos c1
  have e1:yf m a b=0:=if_neg ah
  have e2:pt m a b= []:=if_neg (fun q=>by have:=q.1;omega)
  rw [e0,e1,e2]
  rw [show lz m a=BD from if_neg c1] at h1
  refine zO Tryz.func35 107<|zq<|zS<|zP 2 [yH [(2,yV (AV.bk [AV.agg [ai 0,aw 0,ai 0,AV.nil,AV.nil],ai (iQ m a)]))],yH [(1,yV (ao true))]] [.aa [27,10,8,7,6,3,0,1,2] [3]] [yI h1,yL 5 5,yB (ao (iQ m a != (0:Int))=ao true) (by simp [c1])]<|zT 27<|zq<|dd (bL)
 have e0:yh m a b=iQ m b:=if_neg (fun q=>q c1)
 rw [show lz m a=bo (jh a (bH m) a.length) from if_pos c1,c1] at h1
 generalize jh a (bH m) a.length=GA at *
 by_cases c2:iQ m b=0
 case neg =>
  have e1:yf m a b=0:=if_neg ah
  have e2:pt m a b= []:=if_neg (fun q=>by have:=q.1;omega)
  rw [e0,e1,e2]
  rw [show lz m b=BD from if_neg c2] at h2
  refine zO Tryz.func35 107<|zq<|zS<|zP 2 [yH [(2,{av:=some (AV.bk [AV.agg (bo GA),ai 0]),b:=false})],yH [(1,yV (ao false))]] [.aa [27,10,8,7,6,3,0,1,2] [3]] [yI h1,yL 5 5,yR (ao false)]<|zF 27<|aW<|zS<|zP 2 [yH [(2,yV (AV.bk [AV.agg [ai 0,aw 0,ai 0,AV.nil,AV.nil],ai (iQ m b)]))],yH [(1,yV (ao true))]] [.aa [36,12,27,10,8,7,6,3,0,1,2] [3]] [yI h2,yL 5 5,yB (ao (iQ m b != (0:Int))=ao true) (by simp [c2])]<|zT 36<|zq<|dd (bL)
 rw [c2] at e0
 rw [show lz m b=bo (jh b (bH m) b.length) from if_pos c2,c2] at h2
 generalize jh b (bH m) b.length=GB at *
 have e1:yf m a b=vQ a b:=if_pos e0
 have e2:pt m a b=if vQ a b<a.length∧vQ a b<b.length then lb (a.getD (vQ a b) default).aq (b.getD (vQ a b) default).aq else []:=by
  unfold pt;rw [e0]
  by_cases c:vQ a b<a.length∧vQ a b<b.length
  ·rw [if_pos c,if_pos ⟨rfl,c⟩]
  ·rw [if_neg c,if_neg (fun q=>c q.2)]
 rw [e0,e1,e2]
 clear e0 e1 e2 c1 c2
 refine zO Tryz.func35 107<|zq<|zS<|zP 2 [yH [(2,{av:=some (AV.bk [AV.agg (bo GA),ai 0]),b:=false})],{}] [.aa [27,10,8,7,6,3,0,1,2] [3]] [yI h1,yL 5 5]<|zF 27<|aW<|zS<|zP 2 [yH [(2,{av:=some (AV.bk [AV.agg (bo GB),ai 0]),b:=false})],{}] [.aa [36,12,27,10,8,7,6,3,0,1,2] [3]] [yI h2,yL 5 5]<|zF 36<|aW<|zS<|zB 0 (zL (fun (k:Nat)=>(⟨[(36,ao ((0:Int) != (0:Int))),(12,ai 0),(27,ao ((0:Int) != (0:Int))),(10,ai 0),(8,ai 0),(7,AV.nil),(3,AV.addr 3 0),(0,AV.agg (aG m)),(1,AV.sl 17 (ae aI a)),(2,AV.sl 17 (ae aI b)),(6,ai k)],[(3,⟨1,false,true,List.map (aB 11) (List.map (aB 11) (List.map (aB 9) (List.map (aB 9) (List.map (aB 3) (aG m)))))⟩)]⟩:AS)) (fun k=>(k≤a.length∧k≤b.length∧ ∀j,j<k->Rp a b j)) (fun k=>(a.length-k)) (0) ?_ (zW [.aa [36,12,27,10,8,7,3,0,1,2,6] [3]]) ?_)
 ·exact ⟨ah,ah,ah⟩
 rintro k ⟨Lo,pB,hs⟩
 by_cases c1:k<a.length
 case neg =>
  have ec:=pK Lo pB hs (fun q=>absurd q c1)
  rw [ec,if_neg (fun q=>c1 q.1)]
  have ek:k=a.length:=ah
  subst ek
  refine zS<|zP 1 [yH ([(2,{k:=a.length}),(9,{b:=false})]++yg [5,6,7,8])] [.aa [47,36,12,27,10,8,7,3,0,1,2,6] [3]] ([yI vO]++yM 5 (yF ((↑a.length:Int)<(↑a.length:Int))))<|zF 47<|zE 0<|aS<|aK<|bg<|ak<|zS<|zP 1 [yH [(2,{k:=a.length})]] [.aa [79,47,36,12,27,10,8,7,3,0,1,2,6] [3]] ([yI vO]++yM 5 (yB (((↑a.length:Int) == (↑a.length:Int))=true) eg))<|zT 79<|zq<|dd (bL)
 by_cases c2:k<b.length
 case neg =>
  have ec:=pK Lo pB hs (fun _ q=>absurd q c2)
  rw [ec,if_neg (fun q=>c2 q.2)]
  have ek:k=b.length:=ah
  subst ek
  refine zS<|zP 1 [yH [(2,{k:=a.length}),(7,{k:=b.length})]] [.aa [47,36,12,27,10,8,7,3,0,1,2,6] [3]] ([yI vO]++yM 3 (yT ((↑b.length:Int)<(↑a.length:Int)))++ [yI lJ]++yM 2 (yT ((↑b.length:Int)<(↑a.length:Int))))<|dq 47 ((↑b.length:Int)<(↑b.length:Int))<|zE 0<|aS<|aK<|bg<|ak<|zS<|zP 1 [yH ([(2,{k:=a.length}),(7,{k:=b.length,g:=false}),(9,{b:=false})]++yg [5,6,8])] [.aa [79,47,36,12,27,10,8,7,3,0,1,2,6] [3]] ([yI vO]++yM 3 (yB (((↑b.length:Int) == (↑a.length:Int))=false) bD)++ [yI lJ]++yM 2 (yB (((↑b.length:Int) == (↑a.length:Int))=false) bD))<|dm 79 ((↑b.length:Int) == (↑b.length:Int)) eg<|zq<|dd (bL)
 have gh:=ox c1
 have E9:=ox c2
 have y1:=vH (a.getD k default) (hA.at_ c1).1
 have y2:=vH (b.getD k default) (hB.at_ c2).1
 have y3:=L1 (bN (a.getD k default)) (bN (b.getD k default)) (by have:=Fc (a.getD k default);omega) (by have:=Fc (b.getD k default);omega)
 by_cases c3:bN (a.getD k default)=bN (b.getD k default)
 ·rw [beq_iff_eq.2 c3] at y3
  refine zS<|zP 1 [yH [(2,{k:=a.length}),(7,{k:=b.length})]] [.aa [47,36,12,27,10,8,7,3,0,1,2,6] [3]] ([yI vO]++yM 3 (yT ((↑k:Int)<(↑a.length:Int)))++ [yI lJ]++yM 2 (yT ((↑k:Int)<(↑a.length:Int))))<|gN 47 ((↑k:Int)<(↑b.length:Int))<|aW<|zB 1<|zP 2 [yH [(2,{k:=k}),(3,yV (AV.agg (aI (a.getD k default)))),(4,yV (AV.bk [AV.own 1 (ag (bN (a.getD k default))),ai (dH (a.getD k default))]))],yH [(2,{k:=k}),(3,yV (AV.agg (aI (b.getD k default)))),(4,yV (AV.bk [AV.own 1 (ag (bN (b.getD k default))),ai (dH (b.getD k default))]))]] [.aa [15,13,47,36,12,27,10,8,7,3,0,1,2,6] [1061,1053,3]] [yR (↑k:Int),yO (k*17<(ae aI a).length),yu aI a k 0 17,yR 17,yI y1,yI (aP (bN (a.getD k default))),yR (↑k:Int),yO (k*17<(ae aI b).length),yu aI b k 0 17,yR 17,yI y2,yI (aP (bN (b.getD k default)))]<|zS<|zP 1 [yH [(2,yV (ao true))]] [.aa [67,15,13,47,36,12,27,10,8,7,3,0,1,2,6] [1061,1053,3]] [yI y3]<|zF 67<|aW<|zX (yH [(1,yV (ai ((↑k:Int)+1)))]) [yN ((↑k:Int)+1)]<|aM (aH (k+1) ⟨ah,ah,fun j hj=>by by_cases e:j=k;(subst e;exact c3);exact hs j ah⟩ ah (zW [.aa [36,12,27,10,8,7,3,0,1,2,6] [3]]))
 ·rw [beq_eq_false_iff_ne.2 c3] at y3
  have ec:=pK Lo pB hs (fun _ _=>c3)
  rw [ec,if_pos ⟨c1,c2⟩]
  have va:=mR c1
  have vb:=mR c2
  have b1:=(hA.at_ c1).2
  have b2:=(hB.at_ c2).2
  have yx:(ae aU (a.getD k default).aq).length=(a.getD k default).aq.length*4:=aE (e:=4) (fun _=>rfl) ..
  refine zS<|zP 1 [yH [(2,{k:=a.length}),(7,{k:=b.length})]] [.aa [47,36,12,27,10,8,7,3,0,1,2,6] [3]] ([yI vO]++yM 3 (yT ((↑k:Int)<(↑a.length:Int)))++ [yI lJ]++yM 2 (yT ((↑k:Int)<(↑a.length:Int))))<|gN 47 ((↑k:Int)<(↑b.length:Int))<|aW<|zB 1<|zP 2 [yH [(2,{k:=k}),(3,yV (AV.agg (aI (a.getD k default)))),(4,yV (AV.bk [AV.own 1 (ag (bN (a.getD k default))),ai (dH (a.getD k default))]))],yH [(2,{k:=k}),(3,yV (AV.agg (aI (b.getD k default)))),(4,yV (AV.bk [AV.own 1 (ag (bN (b.getD k default))),ai (dH (b.getD k default))]))]] [.aa [15,13,47,36,12,27,10,8,7,3,0,1,2,6] [1061,1053,3]] [yR (↑k:Int),yO (k*17<(ae aI a).length),yu aI a k 0 17,yR 17,yI y1,yI (aP (bN (a.getD k default))),yR (↑k:Int),yO (k*17<(ae aI b).length),yu aI b k 0 17,yR 17,yI y2,yI (aP (bN (b.getD k default)))]<|zS<|zP 1 [yH [(2,yV (ao false))]] [.aa [67,15,13,47,36,12,27,10,8,7,3,0,1,2,6] [1061,1053,3]] [yI y3]<|zT 67<|zE 0<|aS<|IB bt<|aK<|bg<|ak<|zS<|zP 1 [yH ([(2,{k:=a.length}),(7,{k:=b.length,g:=false}),(9,{b:=false})]++yg [5,6,8])] [.aa [79,67,15,13,47,36,12,27,10,8,7,3,0,1,2,6] [1061,1053,3]] ([yI vO]++yM 3 (yB (((↑k:Int) == (↑a.length:Int))=false) bD)++ [yI lJ]++yM 2 (yB (((↑k:Int) == (↑a.length:Int))=false) bD))<|bj 79 ((↑k:Int) == (↑b.length:Int)) bD<|aW<|zS<|zP 1 [yH [(2,{k:=k}),(4,yV (AV.sl 4 (ae aU (a.getD k default).aq))),(5,{k:=(a.getD k default).aq.length})]] [.aa [87,86,85,79,67,15,13,47,36,12,27,10,8,7,3,0,1,2,6] [1061,1053,3]] [yR (↑k:Int),yO (k*17<(ae aI a).length),yI va,yI yx]<|zB 2 (zL (fun (i:Nat)=>(⟨[(86,ai (↑(a.getD k default).aq.length:Int)),(85,AV.sl 4 (ae aU (a.getD k default).aq)),(79,ao ((↑k:Int) == (↑b.length:Int))),(67,ao (!false)),(15,AV.ref 1061),(13,AV.ref 1053),(47,ao (decide ((↑k:Int)<(↑b.length:Int)))),(36,ao ((0:Int) != (0:Int))),(12,ai 0),(27,ao ((0:Int) != (0:Int))),(10,ai 0),(8,ai 0),(3,AV.addr 3 0),(0,AV.agg (aG m)),(1,AV.sl 17 (ae aI a)),(2,AV.sl 17 (ae aI b)),(6,ai ↑k),(87,ai i),(7,AV.ref 103)],[(1061,⟨1,true,false,ag (bN (b.getD k default))⟩),(1053,⟨1,true,false,ag (bN (a.getD k default))⟩),(103,⟨1,true,false,ae ax (lb ((a.getD k default).aq.take i) (b.getD k default).aq)⟩),(3,⟨1,false,true,aG m⟩)]⟩:AS)) (fun i=>(i≤(a.getD k default).aq.length)) (fun i=>((a.getD k default).aq.length-i)) (0) ?_ (zW [.nil 7 103 1,.aa [86,85,79,67,15,13,47,36,12,27,10,8,3,0,1,2,6,87,7] [1061,1053,103,3]]) ?_)
  ·omega
  intro i hi
  refine zq<|zS (zD 88 ((↑i:Int)<(↑(a.getD k default).aq.length:Int)) (fun q=>?_) (fun q=>?_))
  ·have cX:i<(a.getD k default).aq.length:=ah
   have dC:=xm (a.getD k default).aq (b.getD k default).aq cX
   have UR:=jt cX
   have Lx:=Co (b.getD k default).aq ((a.getD k default).aq.getD i default) ah
   have tp:(ae ax (lb ((a.getD k default).aq.take i) (b.getD k default).aq)).length≤10:=by rw [aE (e:=1) (fun _=>rfl)];have h:=vd ((a.getD k default).aq.take i) (b.getD k default).aq;rw [List.length_take] at h;omega
   by_cases cd:lL (b.getD k default).aq ((a.getD k default).aq.getD i default).name=true
   ·rw [if_pos cd] at dC
    rw [cd] at Lx
    refine aW<|zS<|zB 3<|zP 3 [yH [(0,{k:=i}),(1,yV (AV.agg (aU ((a.getD k default).aq.getD i default))))],yH [(0,yV (AV.kX 66 [AV.ptr (aU ((a.getD k default).aq.getD i default)) 0]))],yH [(2,{k:=k}),(4,yV (AV.sl 4 (ae aU (b.getD k default).aq))),(6,yV (ao true))]] [.aa [98,19,18,88,86,85,79,67,15,13,47,36,12,27,10,8,3,0,1,2,6,87,7] [1061,1053,103,3]] [yR (↑i:Int),yO (i*4<(ae aU (a.getD k default).aq).length),yu aU ((a.getD k default).aq) i 0 4,yR 4,yL 4 4,yR (↑k:Int),yO (k*17<(ae aI b).length),yI vb,yI Lx]<|zT 98<|zX {} [yO (((ae ax (lb (List.take i (a.getD k default).aq) (b.getD k default).aq)).length+1)*16≤140737488355328)]<|aM<|ak<|zX (yH [(0,yV (ai ((↑i:Int)+1)))]) [yN ((↑i:Int)+1)] (aH (i+1) (by assumption) ah (eu [.aa [86,85,79,67,15,13,47,36,12,27,10,8,3,0,1,2,6,87,7] [1061,1053,103,3]] [] [103] [yB (ae ax (lb (List.take i (a.getD k default).aq) (b.getD k default).aq)++ [cQ ((a.getD k default).aq.getD i default).name]=ae ax (lb (List.take (i+1) (a.getD k default).aq) (b.getD k default).aq)) (by rw [dC];exact fh _ _)]))
   ·rw [if_neg cd,List.append_nil] at dC
    rw [show lL (b.getD k default).aq ((a.getD k default).aq.getD i default).name=false by simpa using cd] at Lx
    refine aW<|zS<|zB 3<|zP 3 [yH [(0,{k:=i}),(1,yV (AV.agg (aU ((a.getD k default).aq.getD i default))))],yH [(0,yV (AV.kX 66 [AV.ptr (aU ((a.getD k default).aq.getD i default)) 0]))],yH [(2,{k:=k}),(4,yV (AV.sl 4 (ae aU (b.getD k default).aq))),(6,yV (ao false))]] [.aa [98,19,18,88,86,85,79,67,15,13,47,36,12,27,10,8,3,0,1,2,6,87,7] [1061,1053,103,3]] [yR (↑i:Int),yO (i*4<(ae aU (a.getD k default).aq).length),yu aU ((a.getD k default).aq) i 0 4,yR 4,yL 4 4,yR (↑k:Int),yO (k*17<(ae aI b).length),yI vb,yI Lx]<|zF 98<|zK<|aM<|ak<|zX (yH [(0,yV (ai ((↑i:Int)+1)))]) [yN ((↑i:Int)+1)] (aH (i+1) (by assumption) ah (eu [.aa [86,85,79,67,15,13,47,36,12,27,10,8,3,0,1,2,6,87,7] [1061,1053,103,3]] [] [103] [yB (ae ax (lb (List.take i (a.getD k default).aq) (b.getD k default).aq)=ae ax (lb (List.take (i+1) (a.getD k default).aq) (b.getD k default).aq)) (by rw [dC])]))
  ·have ei:i=(a.getD k default).aq.length:=ah
   subst ei
   rw [List.take_length]
   refine zE 2<|aS<|aK<|bg<|ak<|zq<|zR (bL)
end Go.Proofs.YtjgbhhnghedgdaaGreatDoor
