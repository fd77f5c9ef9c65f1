/-
  Proved: for every input the law GroupMerges returns true, and each argument reads afterwards as it read before; and its card, tied to the text of the program. Condition: the tables unicode/utf8.first and acceptRanges read as they were laid (tied).
-/
import Derived.Test.YtjgbhhnghedgdaaGreatDoorZmGrE5
import Derived.Test.YtjgbhhnghedgdaaGreatDoorZmGrN3
import Derived.Test.YtjgbhhnghedgdaaGreatDoorCards
import Derived.Test.YtjgbhhnghedgdaaGreatDoorTie
import Derived.LaidMore
import Derived.OpenShut
import Derived.ProofKit
import Derived.SevenTiedAt
import Derived.Lib.LaidU8T
import Derived.Lib.LaidIn
set_option linter.all false
namespace Go.Proofs.YtjgbhhnghedgdaaGreatDoor
open Go.RowKit
set_option maxRecDepth 100000
set_option maxHeartbeats 4000000
theorem xW (m:Mem) (a b:List dP) (hm:m.name.length≤1000) (ha:a.length≤1000000) (hb:b.length≤1000000) (hA:na a) (hB:na b):bC Tryz.prog 36 [.agg (aG m),.sl 17 (ae aI a),.sl 17 (ae aI b)] (.bk [ai (yf m a b),.own 1 (ae ax (pt m a b)),ai (yh m a b)]):=by
 have vO:(ae aI a).length=a.length*17:=aE (e:=17) (fun _=>rfl) ..
 have lJ:(ae aI b).length=b.length*17:=aE (e:=17) (fun _=>rfl) ..
 have h1:=lB m a hm ha hA
 have h2:=lB m b hm hb hB
 by_cases c1:iQ m a=0
 case neg =>
  have e0:yh m a b=iQ m a:=if_pos c1
  have e1:yf m a b=0:=if_neg ah
  have e2:pt m a b= []:=if_neg (fun q=>by have:=q.1;omega)
  rw [e0,e1,e2]
  rw [show lz m a=BD from if_neg c1] at h1
  refine zO Tryz.func36 120<|zq<|zS<|zP 2 [yH [(2,yV (AV.bk [AV.agg [ai 0,aw 0,ai 0,AV.nil,AV.nil],ai (iQ m a)]))],yH [(1,yV (ao true))]] [.aa [27,10,8,7,6,3,0,1,2] [3]] [yI h1,yL 5 5,yB (ao (iQ m a != (0:Int))=ao true) (by simp [c1])]<|zT 27<|zq<|dd (bL)
 have e0:yh m a b=iQ m b:=if_neg (fun q=>q c1)
 rw [show lz m a=bo (jh a (bH m) a.length) from if_pos c1,c1] at h1
 generalize jh a (bH m) a.length=GA at *
 by_cases c2:iQ m b=0
 case neg =>
  have e1:yf m a b=0:=if_neg ah
  have e2:pt m a b= []:=if_neg (fun q=>by have:=q.1;omega)
  rw [e0,e1,e2]
  rw [show lz m b=BD from if_neg c2] at h2
  refine zO Tryz.func36 120<|zq<|zS<|zP 2 [yH [(2,{av:=some (AV.bk [AV.agg (bo GA),ai 0]),b:=false})],yH [(1,yV (ao false))]] [.aa [27,10,8,7,6,3,0,1,2] [3]] [yI h1,yL 5 5,yR (ao false)]<|zF 27<|aW<|zS<|zP 2 [yH [(2,yV (AV.bk [AV.agg [ai 0,aw 0,ai 0,AV.nil,AV.nil],ai (iQ m b)]))],yH [(1,yV (ao true))]] [.aa [36,12,27,10,8,7,6,3,0,1,2] [3]] [yI h2,yL 5 5,yB (ao (iQ m b != (0:Int))=ao true) (by simp [c2])]<|zT 36<|zq<|dd (bL)
 rw [c2] at e0
 rw [show lz m b=bo (jh b (bH m) b.length) from if_pos c2,c2] at h2
 generalize jh b (bH m) b.length=GB at *
 have e1:yf m a b=vQ a b:=if_pos e0
 have e2:pt m a b=if vQ a b<a.length∧vQ a b<b.length then lb (a.getD (vQ a b) default).aq (b.getD (vQ a b) default).aq else []:=by
  unfold pt;rw [e0]
  by_cases c:vQ a b<a.length∧vQ a b<b.length
  ·rw [if_pos c,if_pos ⟨rfl,c⟩]
  ·rw [if_neg c,if_neg (fun q=>c q.2)]
 rw [e0,e1,e2]
 clear e0 e1 e2 c1 c2
 refine zO Tryz.func36 120<|zq<|zS<|zP 2 [yH [(2,{av:=some (AV.bk [AV.agg (bo GA),ai 0]),b:=false})],{}] [.aa [27,10,8,7,6,3,0,1,2] [3]] [yI h1,yL 5 5]<|zF 27<|aW<|zS<|zP 2 [yH [(2,{av:=some (AV.bk [AV.agg (bo GB),ai 0]),b:=false})],{}] [.aa [36,12,27,10,8,7,6,3,0,1,2] [3]] [yI h2,yL 5 5]<|zF 36<|aW<|zq<|zS<|zB 0 (zL (fun (k:Nat)=>(⟨[(36,ao ((0:Int) != (0:Int))),(12,ai 0),(27,ao ((0:Int) != (0:Int))),(10,ai 0),(8,ai 0),(7,AV.nil),(6,ai 0),(3,AV.addr 3 0),(0,AV.agg (aG m)),(1,AV.sl 17 (ae aI a)),(2,AV.sl 17 (ae aI b)),(13,ai k)],[(3,⟨1,false,true,List.map (aB 11) (List.map (aB 11) (List.map (aB 9) (List.map (aB 9) (List.map (aB 3) (aG m)))))⟩)]⟩:AS)) (fun k=>(k≤a.length∧k≤b.length∧ ∀j,j<k->Rp a b j)) (fun k=>(a.length-k)) (0) ?_ (zW [.aa [36,12,27,10,8,7,6,3,0,1,2,13] [3]]) ?_)
 ·exact ⟨ah,ah,ah⟩
 rintro k ⟨Lo,pB,hs⟩
 by_cases c1:k<a.length
 case neg =>
  have ec:=pK Lo pB hs (fun q=>absurd q c1)
  rw [ec,if_neg (fun q=>c1 q.1)]
  have ek:k=a.length:=ah
  subst ek
  refine zS<|zP 1 [yH ([(2,{k:=a.length}),(9,{b:=false})]++yg [5,6,7,8])] [.aa [47,36,12,27,10,8,7,6,3,0,1,2,13] [3]] ([yI vO]++yM 5 (yF ((↑a.length:Int)<(↑a.length:Int))))<|zF 47<|zE 0<|aS<|aK<|bg<|ak<|zq<|zS<|zP 1 [yH ([(2,{k:=a.length}),(9,{b:=false})]++yg [5,6,7,8])] [.aa [80,18,47,36,12,27,10,8,7,6,3,0,1,2,13] [3]] ([yI vO]++yM 5 (yF ((↑a.length:Int)<(↑a.length:Int))))<|zF 80<|aW<|zq<|zR (bL)
 by_cases c2:k<b.length
 case neg =>
  have ec:=pK Lo pB hs (fun _ q=>absurd q c2)
  rw [ec,if_neg (fun q=>c2 q.2)]
  have ek:k=b.length:=ah
  subst ek
  refine zS<|zP 1 [yH [(2,{k:=a.length}),(7,{k:=b.length})]] [.aa [47,36,12,27,10,8,7,6,3,0,1,2,13] [3]] ([yI vO]++yM 3 (yT ((↑b.length:Int)<(↑a.length:Int)))++ [yI lJ]++yM 2 (yT ((↑b.length:Int)<(↑a.length:Int))))<|dq 47 ((↑b.length:Int)<(↑b.length:Int))<|zE 0<|aS<|aK<|bg<|ak<|zq<|zS<|zP 1 [yH [(2,{k:=a.length}),(7,{k:=b.length})]] [.aa [80,18,47,36,12,27,10,8,7,6,3,0,1,2,13] [3]] ([yI vO]++yM 3 (yT ((↑b.length:Int)<(↑a.length:Int)))++ [yI lJ]++yM 2 (yT ((↑b.length:Int)<(↑a.length:Int))))<|dq 80 ((↑b.length:Int)<(↑b.length:Int))<|aW<|zq<|zR (bL)
 have gh:=ox c1
 have E9:=ox c2
 have y1:=jK (a.getD k default) (hA.at_ c1).1
 have y2:=jK (b.getD k default) (hB.at_ c2).1
 by_cases c3:bN (a.getD k default)=bN (b.getD k default)
 ·skip
  refine zS<|zP 1 [yH [(2,{k:=a.length}),(7,{k:=b.length})]] [.aa [47,36,12,27,10,8,7,6,3,0,1,2,13] [3]] ([yI vO]++yM 3 (yT ((↑k:Int)<(↑a.length:Int)))++ [yI lJ]++yM 2 (yT ((↑k:Int)<(↑a.length:Int))))<|gN 47 ((↑k:Int)<(↑b.length:Int))<|aW<|zB 1<|zP 2 [yH [(2,{k:=k}),(3,yV (AV.agg (aI (a.getD k default)))),(4,yV (AV.bk [AV.own 1 (ag (bN (a.getD k default))),ai (dH (a.getD k default))]))],yH [(2,{k:=k}),(3,yV (AV.agg (aI (b.getD k default)))),(4,yV (AV.bk [AV.own 1 (ag (bN (b.getD k default))),ai (dH (b.getD k default))]))]] [.aa [16,14,47,36,12,27,10,8,7,6,3,0,1,2,13] [1061,1053,3]] [yR (↑k:Int),yO (k*17<(ae aI a).length),yu aI a k 0 17,yR 17,yI y1,yI (aP (bN (a.getD k default))),yR (↑k:Int),yO (k*17<(ae aI b).length),yu aI b k 0 17,yR 17,yI y2,yI (aP (bN (b.getD k default)))]<|zS<|zP 1 [yH [(1,yV (cQ (bN (a.getD k default)))),(3,yV (cQ (bN (b.getD k default)))),(4,yV (ao (bN (a.getD k default) != bN (b.getD k default))))]] [.aa [68,16,14,47,36,12,27,10,8,7,6,3,0,1,2,13] [1061,1053,3]] [yR (ag (bN (a.getD k default))),yR (ag (bN (b.getD k default))),yI (tV (bN (a.getD k default)) (bN (b.getD k default)))]<|bj 68 (bN (a.getD k default) != bN (b.getD k default)) (by simp_all)<|aW<|zX (yH [(1,yV (ai ((↑k:Int)+1)))]) [yN ((↑k:Int)+1)]<|aM (aH (k+1) ⟨ah,ah,fun j hj=>by by_cases e:j=k;(subst e;exact c3);exact hs j ah⟩ ah (zW [.aa [36,12,27,10,8,7,6,3,0,1,2,13] [3]]))
 ·have ec:=pK Lo pB hs (fun _ _=>c3)
  rw [ec,if_pos ⟨c1,c2⟩]
  have va:=mR c1
  have vb:=mR c2
  have b1:=(hA.at_ c1).2
  have b2:=(hB.at_ c2).2
  have yx:(ae aU (a.getD k default).aq).length=(a.getD k default).aq.length*4:=aE (e:=4) (fun _=>rfl) ..
  refine zS<|zP 1 [yH [(2,{k:=a.length}),(7,{k:=b.length})]] [.aa [47,36,12,27,10,8,7,6,3,0,1,2,13] [3]] ([yI vO]++yM 3 (yT ((↑k:Int)<(↑a.length:Int)))++ [yI lJ]++yM 2 (yT ((↑k:Int)<(↑a.length:Int))))<|gN 47 ((↑k:Int)<(↑b.length:Int))<|aW<|zB 1<|zP 2 [yH [(2,{k:=k}),(3,yV (AV.agg (aI (a.getD k default)))),(4,yV (AV.bk [AV.own 1 (ag (bN (a.getD k default))),ai (dH (a.getD k default))]))],yH [(2,{k:=k}),(3,yV (AV.agg (aI (b.getD k default)))),(4,yV (AV.bk [AV.own 1 (ag (bN (b.getD k default))),ai (dH (b.getD k default))]))]] [.aa [16,14,47,36,12,27,10,8,7,6,3,0,1,2,13] [1061,1053,3]] [yR (↑k:Int),yO (k*17<(ae aI a).length),yu aI a k 0 17,yR 17,yI y1,yI (aP (bN (a.getD k default))),yR (↑k:Int),yO (k*17<(ae aI b).length),yu aI b k 0 17,yR 17,yI y2,yI (aP (bN (b.getD k default)))]<|zS<|zP 1 [yH [(1,yV (cQ (bN (a.getD k default)))),(3,yV (cQ (bN (b.getD k default)))),(4,yV (ao (bN (a.getD k default) != bN (b.getD k default))))]] [.aa [68,16,14,47,36,12,27,10,8,7,6,3,0,1,2,13] [1061,1053,3]] [yR (ag (bN (a.getD k default))),yR (ag (bN (b.getD k default))),yI (tV (bN (a.getD k default)) (bN (b.getD k default)))]<|dm 68 (bN (a.getD k default) != bN (b.getD k default)) (by simp_all)<|zE 0<|aS<|IB bt<|aK<|bg<|ak<|zq<|zS<|zP 1 [yH [(2,{k:=a.length}),(7,{k:=b.length})]] [.aa [80,18,68,16,14,47,36,12,27,10,8,7,6,3,0,1,2,13] [1061,1053,3]] ([yI vO]++yM 3 (yT ((↑k:Int)<(↑a.length:Int)))++ [yI lJ]++yM 2 (yT ((↑k:Int)<(↑a.length:Int))))<|gN 80 ((↑k:Int)<(↑b.length:Int))<|zq<|zB 2 (zL (fun (i:Nat)=>(⟨[(80,ao (decide ((↑k:Int)<(↑b.length:Int)))),(68,ao (bN (a.getD k default) != bN (b.getD k default))),(16,AV.ref 1061),(14,AV.ref 1053),(47,ao (decide ((↑k:Int)<(↑b.length:Int)))),(36,ao ((0:Int) != (0:Int))),(12,ai 0),(27,ao ((0:Int) != (0:Int))),(10,ai 0),(8,ai 0),(7,AV.nil),(6,ai 0),(3,AV.addr 3 0),(0,AV.agg (aG m)),(1,AV.sl 17 (ae aI a)),(2,AV.sl 17 (ae aI b)),(13,ai ↑k),(19,ai i),(18,AV.ref 117)],[(1061,⟨1,true,false,ag (bN (b.getD k default))⟩),(1053,⟨1,true,false,ag (bN (a.getD k default))⟩),(117,⟨1,true,false,ae ax (lb ((a.getD k default).aq.take i) (b.getD k default).aq)⟩),(3,⟨1,false,true,aG m⟩)]⟩:AS)) (fun i=>(i≤(a.getD k default).aq.length)) (fun i=>((a.getD k default).aq.length-i)) (0) ?_ (zW [.nil 18 117 1,.aa [80,68,16,14,47,36,12,27,10,8,7,6,3,0,1,2,13,19,18] [1061,1053,117,3]]) ?_)
  ·omega
  intro i hi
  refine zS<|zP 1 [yH [(3,{k:=k}),(5,yV (AV.sl 4 (ae aU (a.getD k default).aq))),(6,{k:=(a.getD k default).aq.length})]] [.aa [88,80,68,16,14,47,36,12,27,10,8,7,6,3,0,1,2,13,19,18] [1061,1053,117,3]] [yR (↑k:Int),yO (k*17<(ae aI a).length),yI va,yI yx] (zD 88 ((↑i:Int)<(↑(a.getD k default).aq.length:Int)) (fun q=>?_) (fun q=>?_))
  ·have cX:i<(a.getD k default).aq.length:=ah
   have dC:=xm (a.getD k default).aq (b.getD k default).aq cX
   have UR:=jt cX
   have Lx:=FE (b.getD k default).aq ((a.getD k default).aq.getD i default).name ah
   have tp:(ae ax (lb ((a.getD k default).aq.take i) (b.getD k default).aq)).length≤10:=by rw [aE (e:=1) (fun _=>rfl)];have h:=vd ((a.getD k default).aq.take i) (b.getD k default).aq;rw [List.length_take] at h;omega
   by_cases cd:lL (b.getD k default).aq ((a.getD k default).aq.getD i default).name=true
   ·rw [if_pos cd] at dC
    rw [cd] at Lx
    refine aW<|zS<|zB 3<|zP 1 [{hs:=[(2,{k:=k}),(4,yV (AV.sl 4 (ae aU (b.getD k default).aq))),(7,{k:=k}),(9,yV (AV.sl 4 (ae aU (a.getD k default).aq))),(11,{k:=i}),(13,yV (cQ ((a.getD k default).aq.getD i default).name)),(14,yV (ao true))],T:=14}] [.aa [105,88,80,68,16,14,47,36,12,27,10,8,7,6,3,0,1,2,13,19,18] [1061,1053,117,3]] [yR (↑k:Int),yO (k*17<(ae aI b).length),yI vb,yR (↑k:Int),yO (k*17<(ae aI a).length),yI va,yR (↑i:Int),yO (i*4<(ae aU (a.getD k default).aq).length),yA aU ((a.getD k default).aq) i 0,yI Lx]<|zT 105<|zX (yH [(3,{k:=k}),(5,yV (AV.sl 4 (ae aU (a.getD k default).aq))),(7,{k:=i}),(9,yV (cQ ((a.getD k default).aq.getD i default).name))]) [yR (↑k:Int),yO (k*17<(ae aI a).length),yI va,yR (↑i:Int),yO (i*4<(ae aU (a.getD k default).aq).length),yA aU ((a.getD k default).aq) i 0,yO (((ae ax (lb (List.take i (a.getD k default).aq) (b.getD k default).aq)).length+1)*16≤140737488355328)]<|aM<|ak<|zX (yH [(1,yV (ai ((↑i:Int)+1)))]) [yN ((↑i:Int)+1)] (aH (i+1) (by assumption) ah (eu [.aa [80,68,16,14,47,36,12,27,10,8,7,6,3,0,1,2,13,19,18] [1061,1053,117,3]] [] [117] [yB (ae ax (lb (List.take i (a.getD k default).aq) (b.getD k default).aq)++ [cQ ((a.getD k default).aq.getD i default).name]=ae ax (lb (List.take (i+1) (a.getD k default).aq) (b.getD k default).aq)) (by rw [dC];exact fh _ _)]))
   ·rw [if_neg cd,List.append_nil] at dC
    rw [show lL (b.getD k default).aq ((a.getD k default).aq.getD i default).name=false by simpa using cd] at Lx
    refine aW<|zS<|zB 3<|zP 1 [{hs:=[(2,{k:=k}),(4,yV (AV.sl 4 (ae aU (b.getD k default).aq))),(7,{k:=k}),(9,yV (AV.sl 4 (ae aU (a.getD k default).aq))),(11,{k:=i}),(13,yV (cQ ((a.getD k default).aq.getD i default).name)),(14,yV (ao false))],T:=14}] [.aa [105,88,80,68,16,14,47,36,12,27,10,8,7,6,3,0,1,2,13,19,18] [1061,1053,117,3]] [yR (↑k:Int),yO (k*17<(ae aI b).length),yI vb,yR (↑k:Int),yO (k*17<(ae aI a).length),yI va,yR (↑i:Int),yO (i*4<(ae aU (a.getD k default).aq).length),yA aU ((a.getD k default).aq) i 0,yI Lx]<|zF 105<|zK<|aM<|ak<|zX (yH [(1,yV (ai ((↑i:Int)+1)))]) [yN ((↑i:Int)+1)] (aH (i+1) (by assumption) ah (eu [.aa [80,68,16,14,47,36,12,27,10,8,7,6,3,0,1,2,13,19,18] [1061,1053,117,3]] [] [117] [yB (ae ax (lb (List.take i (a.getD k default).aq) (b.getD k default).aq)=ae ax (lb (List.take (i+1) (a.getD k default).aq) (b.getD k default).aq)) (by rw [dC])]))
  ·have ei:i=(a.getD k default).aq.length:=ah
   subst ei
   rw [List.take_length]
   refine zE 2<|aS<|aK<|bg<|ak<|zq<|zR (bL)
theorem Nf (m:Mem) {a b:List dP} (hA:na a):(pt m a b).length≤10:=by
 unfold pt
 split
 ·rename_i h
  exact Nat.le_trans (vd _ _) (hA.at_ h.2.1).2
 ·exact Nat.zero_le _
theorem At (m:Mem) {l:List dP} (hE:na l):bC Tryz.prog 21 [.agg (lz m l),.agg (lz m l)] (ao true):=by
 unfold lz
 by_cases c:iQ m l=0
 ·rw [if_pos c]
  have cn:eY m=0:=Classical.byContradiction fun q=>by unfold iQ at c;rw [if_pos q] at c;exact q c
  obtain ⟨h1,h2⟩:=CV cn
  exact Aw _ (xP h1 _) (HO hE h2 _ (Nat.le_refl _))
 ·rw [if_neg c]
  exact bC.EJ [(3,4),(4,7)] (Aw ⟨0,0,0,[],[]⟩ ⟨Int.le_refl 0,(show (0:Int)≤2147483647 by omega),Nat.zero_le _,Int.le_refl 0,(show (0:Int)≤8 by omega),Nat.zero_le _⟩ (fun d hd=>by cases hd))
theorem s5 (n left right:List Int) (cut:UInt8) (_:∀x∈n,Bi x) (_:∀x∈left,Bi x) (_:∀x∈right,Bi x):bC Tryz.prog 9 [.sl 1 (au n),.sl 1 (au left),.sl 1 (au right),ab cut] (ao true):=by
 refine bC.len 0 rfl fun vM=>bC.len 1 rfl fun E3=>bC.len 2 rfl fun Bq=>?_
 rw [ks] at vM E3 Bq
 have Ug:=B7
 have hC:=Oj
 have N1:=rG n ld 0 6 ah (Nat.zero_le _) ah ⟨hC.bP,hC.Bp,Nat.zero_le _,hC.QB⟩
 obtain ⟨hB,hk⟩:=u9 n (s:=(ld,0)) hC (Nat.zero_le _) 6
 generalize de n (ld,0) 6=s at *
 obtain ⟨c,k⟩:=s
 simp only at N1 hB hk
 have N2:=rG left c 0 4 ah (Nat.zero_le _) ah ⟨hB.bP,hB.Bp,by have:=hB.len;omega,hB.QB⟩
 have N3:=rG right c 0 4 ah (Nat.zero_le _) ah ⟨hB.bP,hB.Bp,by have:=hB.len;omega,hB.QB⟩
 obtain ⟨S8,pB⟩:=u9 left (s:=(c,0)) hB (Nat.zero_le _) 4
 obtain ⟨S7,Bs⟩:=u9 right (s:=(c,0)) hB (Nat.zero_le _) 4
 generalize de left (c,0) 4=s at *
 obtain ⟨ca,ka⟩:=s
 generalize de right (c,0) 4=s at *
 obtain ⟨cb,kb⟩:=s
 simp only at N2 N3 S8 pB S7 Bs
 unfold z_ at N1 N2 N3
 have hA:=S8.QB
 have Un:=S7.QB
 have vO:=S8.len
 have lJ:=S7.len
 have hm:=fP 0 ah
 have OQ:(dJ 0).name.length≤1000:=Nat.le_of_ble_eq_true rfl
 generalize dJ 0=m at *
 refine zO Tryz.func9 121<|zP 2 [{},yH [(1,{av:=some (AV.box [AV.sl 1 (au n),ai (↑(0:Nat):Int)]),b:=false}),(2,{av:=some (AV.agg [ai ld.bP.aA,aw ld.bP.head,ai ld.bP.br,AV.sl 4 (ae aG ld.bP.al),AV.sl 7 (ae a_ ld.bP.aL),AV.sl 17 (ae aI ld.log),ai (ld.nx 0),ai (ld.nx 1),ai (ld.nx 2),ai (ld.nx 3),ai (ld.nx 4),ai (ld.nx 5),ai (ld.nx 6),ai (ld.nx 7),ai (ld.nx 8),ai (ld.nx 9)]),b:=false}),(3,{av:=some (AV.agg [ai c.bP.aA,aw c.bP.head,ai c.bP.br,AV.sl 4 (ae aG c.bP.al),AV.sl 7 (ae a_ c.bP.aL),AV.sl 17 (ae aI c.log),ai (c.nx 0),ai (c.nx 1),ai (c.nx 2),ai (c.nx 3),ai (c.nx 4),ai (c.nx 5),ai (c.nx 6),ai (c.nx 7),ai (c.nx 8),ai (c.nx 9)]),ln:=[(24,1000000000000)],ho:=[(1000000000000,Row.mk 1 false true [AV.sl 1 (au n),ai ↑k])]})]] [.aa [9,8,0,1,2,3] [9]] [yI (yb n),yI GZ,yI N1,yB ([AV.sl 1 (au n),ai (↑(0:Nat):Int)].length= [AV.sl 1 (au n),ai ↑k].length∧0< [AV.sl 1 (au n),ai ↑k].length) ⟨rfl,Nat.succ_pos _⟩,yL 16 16]<|zS<|wz 3 [1] [(1,{av:=some (AV.box [AV.sl 1 (au left),ai (↑(0:Nat):Int)]),b:=false}),(3,{av:=some (AV.agg [ai ca.bP.aA,aw ca.bP.head,ai ca.bP.br,AV.sl 4 (ae aG ca.bP.al),AV.sl 7 (ae a_ ca.bP.aL),AV.sl 17 (ae aI ca.log),ai (ca.nx 0),ai (ca.nx 1),ai (ca.nx 2),ai (ca.nx 3),ai (ca.nx 4),ai (ca.nx 5),ai (ca.nx 6),ai (ca.nx 7),ai (ca.nx 8),ai (ca.nx 9)]),ln:=[(28,1000000000000)],ho:=[(1000000000000,Row.mk 1 false true [AV.sl 1 (au left),ai ↑ka])]})] [yI (yb left),yR (AV.agg [ai c.bP.aA,aw c.bP.head,ai c.bP.br,AV.sl 4 (ae aG c.bP.al),AV.sl 7 (ae a_ c.bP.aL),AV.sl 17 (ae aI c.log),ai (c.nx 0),ai (c.nx 1),ai (c.nx 2),ai (c.nx 3),ai (c.nx 4),ai (c.nx 5),ai (c.nx 6),ai (c.nx 7),ai (c.nx 8),ai (c.nx 9)]),yI N2,yB ([AV.sl 1 (au left),ai (↑(0:Nat):Int)].length= [AV.sl 1 (au left),ai ↑ka].length∧0< [AV.sl 1 (au left),ai ↑ka].length) ⟨rfl,Nat.succ_pos _⟩]<|ak<|zS<|wz 3 [1] [(1,{av:=some (AV.box [AV.sl 1 (au right),ai (↑(0:Nat):Int)]),b:=false}),(3,{av:=some (AV.agg [ai cb.bP.aA,aw cb.bP.head,ai cb.bP.br,AV.sl 4 (ae aG cb.bP.al),AV.sl 7 (ae a_ cb.bP.aL),AV.sl 17 (ae aI cb.log),ai (cb.nx 0),ai (cb.nx 1),ai (cb.nx 2),ai (cb.nx 3),ai (cb.nx 4),ai (cb.nx 5),ai (cb.nx 6),ai (cb.nx 7),ai (cb.nx 8),ai (cb.nx 9)]),ln:=[(33,1000000000000)],ho:=[(1000000000000,Row.mk 1 false true [AV.sl 1 (au right),ai ↑kb])]})] [yI (yb right),yR (AV.agg [ai c.bP.aA,aw c.bP.head,ai c.bP.br,AV.sl 4 (ae aG c.bP.al),AV.sl 7 (ae a_ c.bP.aL),AV.sl 17 (ae aI c.log),ai (c.nx 0),ai (c.nx 1),ai (c.nx 2),ai (c.nx 3),ai (c.nx 4),ai (c.nx 5),ai (c.nx 6),ai (c.nx 7),ai (c.nx 8),ai (c.nx 9)]),yI N3,yB ([AV.sl 1 (au right),ai (↑(0:Nat):Int)].length= [AV.sl 1 (au right),ai ↑kb].length∧0< [AV.sl 1 (au right),ai ↑kb].length) ⟨rfl,Nat.succ_pos _⟩]<|ak ?_
 generalize ca.log=A0 at *
 generalize cb.log=B at *
 refine bf.nJ (fun (A:List dP)=>(⟨[(11,AV.sl 17 (ae aI B)),(9,AV.addr 9 0),(8,ao false),(0,AV.sl 1 (au n)),(1,AV.sl 1 (au left)),(2,AV.sl 1 (au right)),(3,ab cut),(10,AV.sl 17 (ae aI A))],[(9,⟨1,false,true,[ai c.bP.aA,aw c.bP.head,ai c.bP.br,AV.sl 4 (ae aG c.bP.al),AV.sl 7 (ae a_ c.bP.aL),AV.sl 17 (ae aI c.log),ai (c.nx 0),ai (c.nx 1),ai (c.nx 2),ai (c.nx 3),ai (c.nx 4),ai (c.nx 5),ai (c.nx 6),ai (c.nx 7),ai (c.nx 8),ai (c.nx 9)]⟩)]⟩:AS)) (fun A=>(na A∧A.length≤10)) bt ?_ ?_
 ·by_cases c1:0<A0.length
  ·by_cases c2:((bv cut).tmod 8 == 7)=true
   ·have fY:(ae aI A0).length=A0.length*17:=aE (e:=17) (fun _=>rfl) ..
    obtain ⟨j,hj,Mu⟩:∃j:Nat,(bv cut).tmod A0.length=(j:Int)∧j<A0.length:=by
     refine ⟨cut.toNat%A0.length,?_,Nat.mod_lt _ c1⟩
     show ((cut.toNat:Nat):Int).tmod (A0.length:Int)=_
     rw [Int.tmod_eq_emod_of_nonneg ah]
     exact (Int.natCast_emod _ _).symm
    have hd:(ae aI A0).drop (j*17)=ae aI (A0.drop j):=mc (e:=17) (fun _=>rfl) _ _
    refine zP 1 [yH [(1,{k:=A0.length})]] [.aa [44,11,10,9,8,0,1,2,3] [9]] ([yI fY]++yM 2 (yT ((↑A0.length:Int)>0))++ [yO ((8:Int)≠(0:Int))]++yM 2 (yT ((↑A0.length:Int)>0)))<|dm 44 ((bv cut).tmod (8:Int) == (7:Int)) (by assumption)<|zX (yH [(2,yV (ai (bv cut))),(4,{k:=A0.length}),(5,yV (ai ↑j)),(6,{k:=j})]) [yB (ai (IntKind.i64.wrap (bv cut))=ai (bv cut)) (G2 (cut)),yI fY,yI (yc hj),yO ((↑A0.length:Int)≠(0:Int)),yR (↑j:Int),yO (j*17≤(ae aI A0).length)]<|ak (⟨(A0.drop j),⟨fun e he=>hA e (List.mem_of_mem_drop he),by rw [List.length_drop];omega⟩,(eu [.aa [11,9,8,0,1,2,3,10] [9]] [10] [] [yB (AV.sl 17 (List.drop (j*17) (ae aI A0))=AV.sl 17 (ae aI (List.drop j A0))) (congrArg (AV.sl 17) hd)])⟩)
   ·have c3:((bv cut).tmod 8 == 7)=false:=by simpa using c2
    refine zP 1 [yH [(1,{k:=A0.length})]] [.aa [44,11,10,9,8,0,1,2,3] [9]] ([yB ((ae aI A0).length=A0.length*17) (by simp only [aE (f:=aI) (e:=17) (fun _=>rfl)])]++yM 2 (yT ((↑A0.length:Int)>0))++ [yO ((8:Int)≠(0:Int))]++yM 2 (yT ((↑A0.length:Int)>0)))<|bj 44 ((bv cut).tmod (8:Int) == (7:Int)) (by assumption)<|aW (⟨A0,⟨hA,ah⟩,(zW [.aa [11,9,8,0,1,2,3,10] [9]])⟩)
  ·skip
   refine zP 1 [yH ([(1,{k:=A0.length}),(7,{b:=false})]++yg [4,5,6])] [.aa [44,11,10,9,8,0,1,2,3] [9]] ([yB ((ae aI A0).length=A0.length*17) (by simp only [aE (f:=aI) (e:=17) (fun _=>rfl)])]++yM 4 (yF ((↑A0.length:Int)>0)))<|zF 44<|aW (⟨A0,⟨hA,ah⟩,(zW [.aa [11,9,8,0,1,2,3,10] [9]])⟩)
 clear N1 N2 N3 hA vO
 rintro A ⟨hA,vO⟩
 have y1:=pe m A OQ ah hA
 have y2:=lB m A OQ ah hA
 have y3:=F1 m A B OQ ah ah hA Un
 have y4:=xW m A B OQ ah ah hA Un
 have y5:=At m hA
 have hL:=Nf m (b:=B) hA
 have hE:(ae ax (pt m A B)).length=(pt m A B).length:=by rw [aE (e:=1) (fun _=>rfl)];omega
 obtain ⟨X,hX⟩:∃g,lz m A=bo g∨lz m A=BD:=⟨jh A (bH m) A.length,by unfold lz;split;exact .inl rfl;exact .inr rfl⟩
 generalize iQ m A=E at *
 generalize pt m A B=L at *
 generalize yf m A B=K at *
 generalize yh m A B=F at *
 generalize lz m A=R at *
 rcases hX with rfl|rfl
 ·skip
  refine zP 4 [yH [(0,yV (AV.agg (aG m))),(2,{av:=some (AV.bk [AV.agg (bo X),ai E]),b:=false})],yH [(0,yV (AV.agg (aG m))),(2,{av:=some (AV.bk [AV.agg (bo X),ai E]),b:=false})],yH [(0,yV (AV.agg (aG m))),(3,{av:=some (AV.bk [ai ↑K,AV.own 1 (ae ax L),ai F]),b:=false})],yH [(0,yV (AV.agg (aG m))),(3,{av:=some (AV.bk [ai ↑K,AV.own 1 (ae ax L),ai F]),b:=false})]] [.aa [21,20,19,18,17,16,15,14,13,12,11,9,8,0,1,2,3,10] [2076,2068,14,12,9]] [yI hm,yI y1,yL 5 5,yI hm,yI y2,yL 5 5,yI hm,yI y3,yI hm,yI y4]<|zS<|zP 1 [yH [(1,{k:=(ae ax L).length}),(3,{k:=(ae ax L).length})]] [.aa [84,21,20,19,18,17,16,15,14,13,12,11,9,8,0,1,2,3,10] [2076,2068,14,12,9]] (yM 2 (yR ((ae ax L).length)))<|bj 84 ((↑(ae ax L).length:Int) != (↑(ae ax L).length:Int)) (by simp_all)<|aW<|zS<|zq<|zB 0 (zL (fun (i:Nat)=>(⟨[(84,ao ((↑(ae ax L).length:Int) != (↑(ae ax L).length:Int))),(21,ai F),(20,AV.ref 2076),(19,ai ↑K),(18,ai F),(17,AV.ref 2068),(16,ai ↑K),(15,ai E),(14,AV.addr 14 0),(13,ai E),(12,AV.addr 12 0),(11,AV.sl 17 (ae aI B)),(9,AV.addr 9 0),(0,AV.sl 1 (au n)),(1,AV.sl 1 (au left)),(2,AV.sl 1 (au right)),(3,ab cut),(10,AV.sl 17 (ae aI A)),(22,ai i)],[(2076,⟨1,true,false,ae ax L⟩),(2068,⟨1,true,false,ae ax L⟩),(14,⟨1,false,true,(bo X)⟩),(12,⟨1,false,true,(bo X)⟩),(9,⟨1,false,true,[ai c.bP.aA,aw c.bP.head,ai c.bP.br,AV.sl 4 (ae aG c.bP.al),AV.sl 7 (ae a_ c.bP.aL),AV.sl 17 (ae aI c.log),ai (c.nx 0),ai (c.nx 1),ai (c.nx 2),ai (c.nx 3),ai (c.nx 4),ai (c.nx 5),ai (c.nx 6),ai (c.nx 7),ai (c.nx 8),ai (c.nx 9)]⟩)]⟩:AS)) (fun i=>(i≤L.length)) (fun i=>(L.length-i)) (0) ?_ (zW [.aa [84,21,20,19,18,17,16,15,14,13,12,11,9,0,1,2,3,10,22] [2076,2068,14,12,9]]) ?_)
  ·omega
  intro i hi
  refine zS<|zP 1 [yH [(2,{k:=(ae ax L).length})]] [.aa [88,84,21,20,19,18,17,16,15,14,13,12,11,9,0,1,2,3,10,22] [2076,2068,14,12,9]] [yR ((ae ax L).length)] (zD 88 ((↑i:Int)<(↑(ae ax L).length:Int)) (fun q=>?_) (fun q=>?_))
  ·have cX:i<L.length:=ah
   have gh:=ie cX
   refine aW<|zS<|zB 1<|zP 1 [{hs:=[(2,{k:=i}),(3,yV (cQ (L.getD i default))),(6,{k:=i}),(7,yV (cQ (L.getD i default))),(8,yV (ao (L.getD i default != L.getD i default)))],T:=8}] [.aa [99,88,84,21,20,19,18,17,16,15,14,13,12,11,9,0,1,2,3,10,22] [2076,2068,14,12,9]] [yR (↑i:Int),yO (i<(ae ax L).length),yI gh,yR (↑i:Int),yO (i<(ae ax L).length),yI gh,yI (tV (L.getD i default) (L.getD i default))]<|bj 99 (L.getD i default != L.getD i default) (by simp_all)<|zK<|aM<|ak<|zX (yH [(1,yV (ai ((↑i:Int)+1)))]) [yN ((↑i:Int)+1)] (aH (i+1) (by assumption) ah (zW [.aa [84,21,20,19,18,17,16,15,14,13,12,11,9,0,1,2,3,10,22] [2076,2068,14,12,9]]))
  ·skip
   refine zE 0<|aS<|aK<|bg<|ak<|zP 1 [yH [(6,yV (ao true)),(19,yV (ao true))]] [.aa [8,88,84,21,20,19,18,17,16,15,14,13,12,11,9,0,1,2,3,10,22] [2076,2068,14,12,9]] (yM 3 (yB ((E == E)=true) eg)++ [yI y5,yB ((E == E)=true) eg]++yM 4 (yR true)++yM 4 (yB (((↑K:Int) == (↑K:Int))=true) eg)++ [yB ((F == F)=true) eg,yI Ug,yB ((F == F)=true) eg])<|zR (bL)
 ·skip
  refine zP 4 [yH [(0,yV (AV.agg (aG m))),(2,yV (AV.bk [AV.agg [ai 0,aw 0,ai 0,AV.nil,AV.nil],ai E]))],yH [(0,yV (AV.agg (aG m))),(2,yV (AV.bk [AV.agg [ai 0,aw 0,ai 0,AV.nil,AV.nil],ai E]))],yH [(0,yV (AV.agg (aG m))),(3,{av:=some (AV.bk [ai ↑K,AV.own 1 (ae ax L),ai F]),b:=false})],yH [(0,yV (AV.agg (aG m))),(3,{av:=some (AV.bk [ai ↑K,AV.own 1 (ae ax L),ai F]),b:=false})]] [.aa [21,20,19,18,17,16,15,14,13,12,11,9,8,0,1,2,3,10] [2076,2068,14,12,9]] [yI hm,yI y1,yL 5 5,yI hm,yI y2,yL 5 5,yI hm,yI y3,yI hm,yI y4]<|zS<|zP 1 [yH [(1,{k:=(ae ax L).length}),(3,{k:=(ae ax L).length})]] [.aa [84,21,20,19,18,17,16,15,14,13,12,11,9,8,0,1,2,3,10] [2076,2068,14,12,9]] (yM 2 (yR ((ae ax L).length)))<|bj 84 ((↑(ae ax L).length:Int) != (↑(ae ax L).length:Int)) (by simp_all)<|aW<|zS<|zq<|zB 0 (zL (fun (i:Nat)=>(⟨[(84,ao ((↑(ae ax L).length:Int) != (↑(ae ax L).length:Int))),(21,ai F),(20,AV.ref 2076),(19,ai ↑K),(18,ai F),(17,AV.ref 2068),(16,ai ↑K),(15,ai E),(14,AV.addr 14 0),(13,ai E),(12,AV.addr 12 0),(11,AV.sl 17 (ae aI B)),(9,AV.addr 9 0),(0,AV.sl 1 (au n)),(1,AV.sl 1 (au left)),(2,AV.sl 1 (au right)),(3,ab cut),(10,AV.sl 17 (ae aI A)),(22,ai i)],[(2076,⟨1,true,false,ae ax L⟩),(2068,⟨1,true,false,ae ax L⟩),(14,⟨1,false,true,[ai 0,aw 0,ai 0,AV.nil,AV.nil]⟩),(12,⟨1,false,true,[ai 0,aw 0,ai 0,AV.nil,AV.nil]⟩),(9,⟨1,false,true,[ai c.bP.aA,aw c.bP.head,ai c.bP.br,AV.sl 4 (ae aG c.bP.al),AV.sl 7 (ae a_ c.bP.aL),AV.sl 17 (ae aI c.log),ai (c.nx 0),ai (c.nx 1),ai (c.nx 2),ai (c.nx 3),ai (c.nx 4),ai (c.nx 5),ai (c.nx 6),ai (c.nx 7),ai (c.nx 8),ai (c.nx 9)]⟩)]⟩:AS)) (fun i=>(i≤L.length)) (fun i=>(L.length-i)) (0) ?_ (zW [.aa [84,21,20,19,18,17,16,15,14,13,12,11,9,0,1,2,3,10,22] [2076,2068,14,12,9]]) ?_)
  ·omega
  intro i hi
  refine zS<|zP 1 [yH [(2,{k:=(ae ax L).length})]] [.aa [88,84,21,20,19,18,17,16,15,14,13,12,11,9,0,1,2,3,10,22] [2076,2068,14,12,9]] [yR ((ae ax L).length)] (zD 88 ((↑i:Int)<(↑(ae ax L).length:Int)) (fun q=>?_) (fun q=>?_))
  ·have cX:i<L.length:=ah
   have gh:=ie cX
   refine aW<|zS<|zB 1<|zP 1 [{hs:=[(2,{k:=i}),(3,yV (cQ (L.getD i default))),(6,{k:=i}),(7,yV (cQ (L.getD i default))),(8,yV (ao (L.getD i default != L.getD i default)))],T:=8}] [.aa [99,88,84,21,20,19,18,17,16,15,14,13,12,11,9,0,1,2,3,10,22] [2076,2068,14,12,9]] [yR (↑i:Int),yO (i<(ae ax L).length),yI gh,yR (↑i:Int),yO (i<(ae ax L).length),yI gh,yI (tV (L.getD i default) (L.getD i default))]<|bj 99 (L.getD i default != L.getD i default) (by simp_all)<|zK<|aM<|ak<|zX (yH [(1,yV (ai ((↑i:Int)+1)))]) [yN ((↑i:Int)+1)] (aH (i+1) (by assumption) ah (zW [.aa [84,21,20,19,18,17,16,15,14,13,12,11,9,0,1,2,3,10,22] [2076,2068,14,12,9]]))
  ·skip
   refine zE 0<|aS<|aK<|bg<|ak<|zP 1 [yH [(6,yV (ao true)),(19,yV (ao true))]] [.aa [8,88,84,21,20,19,18,17,16,15,14,13,12,11,9,0,1,2,3,10,22] [2076,2068,14,12,9]] (yM 3 (yB ((E == E)=true) eg)++ [yI y5,yB ((E == E)=true) eg]++yM 4 (yR true)++yM 4 (yB (((↑K:Int) == (↑K:Int))=true) eg)++ [yB ((F == F)=true) eg,yI Ug,yB ((F == F)=true) eg])<|zR (bL)
end Go.Proofs.YtjgbhhnghedgdaaGreatDoor
namespace Go.Proofs.YtjgbhhnghedgdaaGreatDoor.groupMerges
open Go.ChangeShapes Go.WideShapes Go.ChangeAt Go.RowKit Go.Lib
theorem own:ownKnob Tryz.prog.godebug=none:=by kernel_rfl
theorem laidOut:laidOutB Tryz.prog=true:=by kernel_rfl
noncomputable def xc (os:Os):World :=
 let w0:=World.doorLaid Tryz.prog 400 os
 {w0 with heap:=w0.heap.modify 0 fun
   | .cells _ t frozen=>.cells (Lib.firstTab.map fun z=>Value.int .u8 z).toArray t frozen
   | o=>o}
theorem met (os:Os) (args:Array Value):laidMetH Tryz.prog Rows.groupMergesRow.laid ((xc os).forCall (fun _ _=>0) ⟨#[],args,[]⟩).memory :=
 laidMetH_of_parts3 (fuel:=8) (laidMet_of_run' 8 bt bt) bt bt
theorem LG {W:World} (h:laidMetH Tryz.prog Rows.groupMergesRow.laid W):Good W:=by
 rw [MakeChecks.laidMetH_plain _ _ _ bt] at h
 have e1:Rows.laid_unicode_utf8_first=Lib.firstData:=by kernel_rfl
 have e2:(Rows.laid_unicode_utf8_acceptRanges:DataW Unit)=Lib.acceptData:=by kernel_rfl
 have m1 : ("unicode/utf8.first", Rows.laid_unicode_utf8_first) ∈ Rows.groupMergesRow.laid := .tail _ (.head _)
 have m2 : ("unicode/utf8.acceptRanges", Rows.laid_unicode_utf8_acceptRanges) ∈ Rows.groupMergesRow.laid := .head _
 have r1:=Lib.laidMet.reads h m1
 have r2:=Lib.laidMet.reads h m2
 rw [e1] at r1
 rw [e2] at r2
 exact utf8Tabs_of_readsT (U8Types.of196 Hr) ⟨by kernel_rfl,by kernel_rfl,by kernel_rfl,by kernel_rfl,by kernel_rfl,by kernel_rfl,by kernel_rfl⟩ r1 r2
set_option maxRecDepth 100000 in
theorem lifted (os:Os) (started:os.Started) (H:Type) (enc:TypeId×Value->H) :
  ReturnsInHanded {} Tryz.checked os 9 .any (fun w args=>(Rows.groupMergesSpec.pre enc Tryz.prog Tryz.f9 [] false w args∧laidMetH Tryz.prog Rows.groupMergesRow.laid w)∧sizedMet enc Tryz.prog Tryz.f9 (OpenSpec.ofChange Rows.groupMergesSpec) false w args) (Rows.groupMergesSpec.post enc Tryz.prog Tryz.f9 false true false false):=by
 refine returnsInHanded_of_change_and (C:=Tryz.checked) (X:=fun w _=>laidMetH Tryz.prog Rows.groupMergesRow.laid w) (fun _ _ _ hh h=>h.of_heap hh) own started bt Tryz.func9
  (ChangeSpec.witness_shaped (enc:=enc) (C:=Tryz.checked) (os:=os) (X:=fun w _=>laidMetH Tryz.prog Rows.groupMergesRow.laid w) false (xc os) #[.slice none 0 0,.slice none 0 0,.slice none 0 0,.int .u8 0] 8 rfl (World.shaped_of_RefB bt bt) bt bt bt (met os _)) ?_
 intro W base args ds gs before PG hW _ _ hL _
 have j7:Good W:=LG hL
 have iW:∀(j:Nat) t v,Tryz.f9.params[j]?=some t->args[j]?=some v->Value.okWide Tryz.prog W .any base t v:=PG
 have VG:=hW
 obtain ⟨p,q,VZ,hV,rfl,WG,ir⟩:=hW
 have hA:DataW.TrodAll enc Tryz.prog W 0 (fun _=>true) true Tryz.f9.params.toList args.toList ds p:=VZ
 have fY:=hA
 rw [Tryz.params9] at hA iW
 obtain ⟨v0,Wn,d0,WU,p0,q0,iE,rfl,rfl,h0,r0⟩:=trodAll_cons hA
 obtain ⟨v1,Wm,d1,WT,p1,q1,rfl,rfl,rfl,h1,r1⟩:=trodAll_cons r0
 obtain ⟨v2,Wl,d2,WS,p2,q2,rfl,rfl,rfl,h2,r2⟩:=trodAll_cons r1
 obtain ⟨v3,Wj,d3,WR,p3,q3,rfl,rfl,rfl,h3,r3⟩:=trodAll_cons r2
 obtain ⟨rfl,rfl,rfl⟩:=trodAll_nil r3
 obtain rfl:args= #[v0,v1,v2,v3]:=by cases args;simp_all
 obtain ⟨rfl,rfl⟩:=trodVars_none hV
 obtain ⟨x0,o0,e0⟩:=((q_ Tryz.underlying33 Tryz.underlying3 bt).one bt) H enc W base v0 d0 p0 (iW 0 33 v0 rfl rfl) h0
 obtain ⟨x1,o1,e1⟩:=((q_ Tryz.underlying33 Tryz.underlying3 bt).one bt) H enc W base v1 d1 p1 (iW 1 33 v1 rfl rfl) h1
 obtain ⟨x2,o2,e2⟩:=((q_ Tryz.underlying33 Tryz.underlying3 bt).one bt) H enc W base v2 d2 p2 (iW 2 33 v2 rfl rfl) h2
 obtain ⟨x3,o3,e3⟩:=((FT Tryz.underlying5).one bt) H enc W base v3 d3 p3 (iW 3 5 v3 rfl rfl) h3
 refine ((s5 x0 x1 x2 x3 o0 o1 o2).law W j7 [v0,v1,v2,v3] rfl (p7 e0 (p7 e1 (p7 e2 (p7 e3 (KS _ _)))))).mono fun e W' ⟨he,cZ⟩=>?_
 subst he
 exact ⟨_,rfl,_,_,_,[],_,[],VG,trodAll_mk1 (shut_bool Tryz.underlying4 _),Below.Hu laidOut cZ _ _ _ _ bt fY,rfl,cZ.frame _,fun h=>by cases h⟩
theorem over:Rows.groupMergesRow.holds Tryz.pinned (OpenSpec.ofChange Rows.groupMergesSpec) :=
 OpenClaim.holds_of_wide 9 Tryz.f9 rfl rfl rfl rfl rfl rfl rfl ⟨rfl,rfl,rfl,rfl,rfl⟩ rfl rfl rfl rfl rfl bt Tryz.func9 bt
  (of_decide_eq_true bt) (by unfold Func.isWrapper;first|(rw [if_pos (by decide +kernel)];kernel_rfl)|(rw [if_neg (by decide +kernel)];exact ⟨rfl,rfl⟩))
  (fun os started H enc _=>lifted os started H enc)
theorem proved:Rows.GroupMergesCardSaid :=
 Claim7.holds_tied_plain_at .later [] [.data, .pinned] true (true, "fab67545d1c5343aea5e1f3d0de8eea608bff556b3f6889684a4119b28c12f87") false
  over (fun _ h=>by cases h) bt (fun _ h=>by cases h) groupMerges_row_tie rfl ⟨rfl,rfl⟩ bt rfl
  (fun f fn hf Vr=>by
   obtain rfl : f = 9 := Option.some.inj ((show Tryz.prog.funcNamed "passkey/passkeylaw38.GroupMerges" = some 9 by kernel_rfl).symm.trans hf) |>.symm
   obtain rfl:fn=Tryz.f9:=(Option.some.inj (Tryz.func9.symm.trans Vr)).symm
   exact ⟨by kernel_rfl,fun j t ht=>by
    rw [Tryz.params9] at ht
    have fY:(Tryz.f9.params.toList.all fun u=> !Tryz.prog.wantsStandIn u)=true:=by kernel_rfl
    have hm:t∈Tryz.f9.params.toList:=by rw [Tryz.params9];simpa using Array.mem_of_getElem? ht
    exact (show Tryz.prog.wantsStandIn t=false by simpa using List.all_eq_true.1 fY t hm)⟩)
  bt
#print axioms proved
end Go.Proofs.YtjgbhhnghedgdaaGreatDoor.groupMerges
