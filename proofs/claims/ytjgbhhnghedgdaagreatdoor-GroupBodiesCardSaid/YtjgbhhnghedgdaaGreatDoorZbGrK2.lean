import Derived.Test.YtjgbhhnghedgdaaGreatDoorZbGrK1
set_option linter.all false
namespace Go.Proofs.YtjgbhhnghedgdaaGreatDoor
open Go.RowKit
set_option maxRecDepth 100000
set_option maxHeartbeats 4000000
theorem A3 (g:gX) (e:eP) (hG:qD g) (h1:1≤e.kind) (h5:e.kind≤5) (ht:e.kind=3->1≤e.bA∧e.bA≤8) (hB:yU e.dep):bL Tryz.prog 59 [.agg (bQ g),.agg (a7 e)] (.bt [.agg (bQ (cS g e)),ai (gK g e)]):=by
 by_cases k1:e.kind=1
 ·have ce:gK g e=Br g e:=if_pos k1
  have cg:cS g e=if Br g e=0 then Gj g e else g:=by
   unfold cS
   rw [ce]
   by_cases q:Br g e=0
   ·rw [if_neg aj,if_pos k1,if_pos q];rfl
   ·rw [if_pos q,if_neg q]
  have hr:=IG g e hG
  rw [←cg,←ce] at hr
  generalize cS g e=G at *
  generalize gK g e=E at *
  refine zO Tryz.func59 80<|zq<|zS<|zq<|zB 0<|zP 1 [{}] [.aa [10,9,5,4,3,2,0,1] [4,3,2]] []<|dB 10 (e.kind == (1:Int)) fg<|zP 1 [yH [(2,{av:=some (AV.bt [AV.agg (bQ G),ai E]),b:=false})]] [.aa [5,10,9,4,3,2,0,1] [4,3,2]] [yI hr,yL 5 5]<|zR<|a6<|aI (bR)
 by_cases k2:e.kind=2
 ·have ce:gK g e=zU g e:=by unfold gK;rw [if_neg k1,if_pos k2];rfl
  have cg:cS g e=if zU g e=0 then {g with al:=pn g.al (dJ g.al e.name).toNat} else g:=by
   unfold cS
   rw [ce]
   by_cases q:zU g e=0
   ·rw [if_neg aj,if_neg k1,if_pos k2,if_pos q]
   ·rw [if_pos q,if_neg q]
  have hr:=AQ g e hG
  rw [←cg,←ce] at hr
  generalize cS g e=G at *
  generalize gK g e=E at *
  refine zO Tryz.func59 80<|zq<|zS<|zq<|zB 0<|zP 1 [{}] [.aa [10,9,5,4,3,2,0,1] [4,3,2]] []<|bn 10 (e.kind == (1:Int)) bE<|zq<|dB 17 (e.kind == (2:Int)) fg<|zP 1 [yH [(2,{av:=some (AV.bt [AV.agg (bQ G),ai E]),b:=false})]] [.aa [5,17,10,9,4,3,2,0,1] [4,3,2]] [yI hr,yL 5 5]<|zR<|a6<|aI (bR)
 by_cases k4:e.kind=4
 ·have ce:gK g e=xb g e:=by unfold gK;rw [if_neg k1,if_neg k2,if_neg aj,if_pos k4];rfl
  have cg:cS g e=if xb g e=0 then {g with aO:=g.aO++ [e.dep]} else g:=by
   unfold cS
   rw [ce]
   by_cases q:xb g e=0
   ·rw [if_neg aj,if_neg k1,if_neg k2,if_neg aj,if_pos k4,if_pos q]
   ·rw [if_pos q,if_neg q]
  have hr:=Cx g e hG hB
  rw [←cg,←ce] at hr
  generalize cS g e=G at *
  generalize gK g e=E at *
  refine zO Tryz.func59 80<|zq<|zS<|zq<|zB 0<|zP 1 [{}] [.aa [10,9,5,4,3,2,0,1] [4,3,2]] []<|bn 10 (e.kind == (1:Int)) bE<|zq<|bn 17 (e.kind == (2:Int)) bE<|zP 1 [{}] [.aa [24,17,10,9,5,4,3,2,0,1] [4,3,2]] []<|bn 24 (e.kind == (3:Int)) bE<|zq<|dB 44 (e.kind == (4:Int)) fg<|zP 1 [yH [(2,{av:=some (AV.bt [AV.agg (bQ G),ai E]),b:=false})]] [.aa [5,44,24,17,10,9,4,3,2,0,1] [4,3,2]] [yI hr,yL 5 5]<|zR<|a6<|aI (bR)
 obtain ⟨g1,g2,g3,g4,g5,g6⟩:=hG
 have m7:(ae aF g.al).length=g.al.length*4:=aG (e:=4) (fun _=>rfl) ..
 have s9:(ae bg g.aO).length=g.aO.length*7:=aG (e:=7) (fun _=>rfl) ..
 by_cases k3:e.kind=3
 ·obtain ⟨t1,t2⟩:=ht k3
  have ce:gK g e=if (g.al.length:Int)<e.bA∨2*e.bA≤g.al.length then 41 else 0:=by unfold gK;rw [if_neg k1,if_neg k2,if_pos k3]
  by_cases c1:(g.al.length:Int)<e.bA
  ·rw [if_pos (.inl c1)] at ce
   have cg:cS g e=g:=if_pos aj
   rw [ce,cg]
   refine zO Tryz.func59 80<|zq<|zS<|zq<|zB 0<|zP 1 [{}] [.aa [10,9,5,4,3,2,0,1] [4,3,2]] []<|bn 10 (e.kind == (1:Int)) bE<|zq<|bn 17 (e.kind == (2:Int)) bE<|zP 1 [{}] [.aa [24,17,10,9,5,4,3,2,0,1] [4,3,2]] []<|dB 24 (e.kind == (3:Int)) fg<|zP 1 [yH [(2,{k:=g.al.length})]] [.aa [6,24,17,10,9,5,4,3,2,0,1] [4,3,2]] [yI m7]<|zS<|zP 1 [{}] [.aa [39,6,24,17,10,9,5,4,3,2,0,1] [4,3,2]] (yM 6 (yT (e.bA>(↑g.al.length:Int))))<|zT 39<|zP 1 [{}] [.aa [5,39,6,24,17,10,9,4,3,2,0,1] [4,3,2]] [yL 5 5]<|dn<|a6<|aI (bR)
  by_cases c2:2*e.bA≤g.al.length
  ·rw [if_pos (.inr c2)] at ce
   have cg:cS g e=g:=if_pos aj
   rw [ce,cg]
   refine zO Tryz.func59 80<|zq<|zS<|zq<|zB 0<|zP 1 [{}] [.aa [10,9,5,4,3,2,0,1] [4,3,2]] []<|bn 10 (e.kind == (1:Int)) bE<|zq<|bn 17 (e.kind == (2:Int)) bE<|zP 1 [{}] [.aa [24,17,10,9,5,4,3,2,0,1] [4,3,2]] []<|dB 24 (e.kind == (3:Int)) fg<|zP 1 [yH [(2,{k:=g.al.length})]] [.aa [6,24,17,10,9,5,4,3,2,0,1] [4,3,2]] [yI m7]<|zS<|zP 1 [yH ([(7,{av:=some (ai ((2:Int)*e.bA)),g:=false}),(10,{b:=false})]++yg [5,6,8,9])] [.aa [39,6,24,17,10,9,5,4,3,2,0,1] [4,3,2]] (yM 3 (yF (e.bA>(↑g.al.length:Int)))++ [yN ((2:Int)*e.bA)]++yM 3 (yF (e.bA>(↑g.al.length:Int))))<|gU 39 ((2:Int)*e.bA≤(↑g.al.length:Int))<|zP 1 [{}] [.aa [5,39,6,24,17,10,9,4,3,2,0,1] [4,3,2]] [yL 5 5]<|dn<|a6<|aI (bR)
  rw [if_neg aj] at ce
  have cg:cS g e=⟨g.aB,g.head,e.bA,g.al,g.aO⟩:=by unfold cS;rw [if_neg aj,if_neg k1,if_neg k2,if_pos k3]
  rw [ce,cg]
  refine zO Tryz.func59 80<|zq<|zS<|zq<|zB 0<|zP 1 [{}] [.aa [10,9,5,4,3,2,0,1] [4,3,2]] []<|bn 10 (e.kind == (1:Int)) bE<|zq<|bn 17 (e.kind == (2:Int)) bE<|zP 1 [{}] [.aa [24,17,10,9,5,4,3,2,0,1] [4,3,2]] []<|dB 24 (e.kind == (3:Int)) fg<|zP 1 [yH [(2,{k:=g.al.length})]] [.aa [6,24,17,10,9,5,4,3,2,0,1] [4,3,2]] [yI m7]<|zS<|zP 1 [yH ([(7,{av:=some (ai ((2:Int)*e.bA)),g:=false}),(10,{b:=false})]++yg [5,6,8,9])] [.aa [39,6,24,17,10,9,5,4,3,2,0,1] [4,3,2]] (yM 3 (yF (e.bA>(↑g.al.length:Int)))++ [yN ((2:Int)*e.bA)]++yM 3 (yF (e.bA>(↑g.al.length:Int))))<|dt 39 ((2:Int)*e.bA≤(↑g.al.length:Int))<|a_<|zX {} [yL 3 5]<|aL<|aq<|zP 1 [{}] [.aa [5,41,39,6,24,17,10,9,4,3,2,0,1] [4,2,3]] [yL 5 5]<|zR (bR)
 have k5:e.kind=5:=aj
 have Cu:=A2 g e.bZ aj
 have gm:=Di g.aO aj
 have ce:gK g e=if vt g.aO e.bZ=g.aO.length then 11 else if (g.aO.getD (vt g.aO e.bZ) default).target≠0 then 18 else 0:=by unfold gK;rw [if_neg k1,if_neg k2,if_neg k3,if_neg k4]
 rcases ob g.aO e.bZ with ⟨hf,hk⟩|⟨k,hf,hk,iH⟩
 ·rw [if_pos hf] at ce
  have cg:cS g e=g:=if_pos aj
  rw [ce,cg]
  rw [hk] at Cu
  refine zO Tryz.func59 80<|zq<|zS<|zq<|zB 0<|zP 1 [{}] [.aa [10,9,5,4,3,2,0,1] [4,3,2]] []<|bn 10 (e.kind == (1:Int)) bE<|zq<|bn 17 (e.kind == (2:Int)) bE<|zP 1 [{}] [.aa [24,17,10,9,5,4,3,2,0,1] [4,3,2]] []<|bn 24 (e.kind == (3:Int)) bE<|zq<|bn 44 (e.kind == (4:Int)) bE<|zP 1 [{}] [.aa [51,44,24,17,10,9,5,4,3,2,0,1] [4,3,2]] []<|dB 51 (e.kind == (5:Int)) fg<|zP 1 [yH [(3,yV (ai (-1:Int)))]] [.aa [7,51,44,24,17,10,9,5,4,3,2,0,1] [4,3,2]] [yI Cu]<|zS<|zq<|gU 58 ((-1:Int)<0)<|zP 1 [{}] [.aa [5,58,7,51,44,24,17,10,9,4,3,2,0,1] [4,3,2]] [yL 5 5]<|dn<|a6<|aI (bR)
 rw [if_neg aj,hf] at ce
 rw [hk] at Cu
 have gN:=yr iH
 by_cases c1:(g.aO.getD k default).target=0
 case neg =>
  rw [if_pos c1] at ce
  have cg:cS g e=g:=if_pos aj
  rw [ce,cg]
  refine zO Tryz.func59 80<|zq<|zS<|zq<|zB 0<|zP 1 [{}] [.aa [10,9,5,4,3,2,0,1] [4,3,2]] []<|bn 10 (e.kind == (1:Int)) bE<|zq<|bn 17 (e.kind == (2:Int)) bE<|zP 1 [{}] [.aa [24,17,10,9,5,4,3,2,0,1] [4,3,2]] []<|bn 24 (e.kind == (3:Int)) bE<|zq<|bn 44 (e.kind == (4:Int)) bE<|zP 1 [{}] [.aa [51,44,24,17,10,9,5,4,3,2,0,1] [4,3,2]] []<|dB 51 (e.kind == (5:Int)) fg<|zP 1 [yH [(3,yV (ai ↑k))]] [.aa [7,51,44,24,17,10,9,5,4,3,2,0,1] [4,3,2]] [yI Cu]<|zS<|zq<|dt 58 ((↑k:Int)<0)<|a_<|zS<|zP 1 [yH [(3,{k:=k}),(5,yV (aw ((g.aO.getD k default).target))),(6,yV (ao ((g.aO.getD k default).target != 0)))]] [.aa [66,58,7,51,44,24,17,10,9,5,4,3,2,0,1] [4,3,2]] [yR (↑k:Int),yO (k*7<(ae bg g.aO).length),yB ((ae bg g.aO)[k*7+6]?=some (aw ((g.aO.getD k default).target))) (bc (f:=bg) (e:=7) (k:=k) (j:=6) (fun _=>rfl) aj rfl),yI (cN ((g.aO.getD k default).target) 0)]<|dB 66 ((g.aO.getD k default).target != 0) (by simp_all)<|zP 1 [{}] [.aa [5,66,58,7,51,44,24,17,10,9,4,3,2,0,1] [4,3,2]] [yL 5 5]<|dn<|a6<|aI (bR)
 rw [if_neg (fun q=>q c1)] at ce
 have cg:cS g e=⟨g.aB,g.head,g.bA,g.al,qP g.aO k e.target⟩:=by unfold cS;rw [if_neg aj,if_neg k1,if_neg k2,if_neg k3,if_neg k4,hf]
 rw [ce,cg]
 have s1:=Be iH e.target
 refine zO Tryz.func59 80<|zq<|zS<|zq<|zB 0<|zP 1 [{}] [.aa [10,9,5,4,3,2,0,1] [4,3,2]] []<|bn 10 (e.kind == (1:Int)) bE<|zq<|bn 17 (e.kind == (2:Int)) bE<|zP 1 [{}] [.aa [24,17,10,9,5,4,3,2,0,1] [4,3,2]] []<|bn 24 (e.kind == (3:Int)) bE<|zq<|bn 44 (e.kind == (4:Int)) bE<|zP 1 [{}] [.aa [51,44,24,17,10,9,5,4,3,2,0,1] [4,3,2]] []<|dB 51 (e.kind == (5:Int)) fg<|zP 1 [yH [(3,yV (ai ↑k))]] [.aa [7,51,44,24,17,10,9,5,4,3,2,0,1] [4,3,2]] [yI Cu]<|zS<|zq<|dt 58 ((↑k:Int)<0)<|a_<|zS<|zP 1 [yH [(3,{k:=k}),(5,yV (aw ((g.aO.getD k default).target))),(6,yV (ao false))]] [.aa [66,58,7,51,44,24,17,10,9,5,4,3,2,0,1] [4,3,2]] [yR (↑k:Int),yO (k*7<(ae bg g.aO).length),yB ((ae bg g.aO)[k*7+6]?=some (aw ((g.aO.getD k default).target))) (bc (f:=bg) (e:=7) (k:=k) (j:=6) (fun _=>rfl) aj rfl),yB (ao (wv (g.aO.getD k default).target != (0:Int))=ao false) (by rw [c1];rfl)]<|zF 66<|a_<|zP 1 [yH [(2,{av:=some (AV.own 7 (ae bg g.aO)),b:=false})]] [.aa [66,58,7,51,44,24,17,10,9,5,4,3,2,0,1] [2,70,4,3]] [yI gm,yL 5 5]<|bf.NY {hs:=[(5,{k:=k}),(7,{av:=some (AV.arr (ae bg (qP g.aO k e.target)))})]} (s':=AS.mk [(78,AV.addr 70 (k*7+6)),(77,AV.addr 70 (k*7)),(76,aw e.target),(75,AV.addr 3 15),(74,ai ↑k),(73,AV.ref 70),(72,AV.addr 2 4),(66,ao false),(58,ao (decide ((↑k:Int)<0))),(7,ai ↑k),(51,ao (e.kind == (5:Int))),(44,ao (e.kind == (4:Int))),(24,ao (e.kind == (3:Int))),(17,ao (e.kind == (2:Int))),(10,ao (e.kind == (1:Int))),(9,ai e.kind),(5,ai 0),(4,AV.addr 4 0),(3,AV.addr 3 0),(2,AV.addr 2 0),(0,AV.agg (bQ g)),(1,AV.agg (a7 e))] [(70,Row.mk 7 true false (ae bg (qP g.aO k e.target))),(2,Row.mk 1 false true ((List.map (aE 70) (List.map (aE 4) (List.map (aE 3) (List.map (aE 2) (bQ g))))).set 4 (bq (AS.mk [(71,AV.addr 2 4),(70,AV.ref 70),(69,AV.sl 7 (ae bg g.aO)),(68,AV.addr 2 4),(66,ao false),(58,ao (decide ((↑k:Int)<0))),(7,ai ↑k),(51,ao (e.kind == (5:Int))),(44,ao (e.kind == (4:Int))),(24,ao (e.kind == (3:Int))),(17,ao (e.kind == (2:Int))),(10,ao (e.kind == (1:Int))),(9,ai e.kind),(5,ai 0),(4,AV.addr 4 0),(3,AV.addr 3 0),(2,AV.addr 2 0),(0,AV.agg (bQ g)),(1,AV.agg (a7 e))] [(70,Row.mk 7 true false (ae bg g.aO)),(4,Row.mk 1 false true [ai 0,cQ,ai 0,AV.nil,AV.nil]),(3,Row.mk 1 false true (a7 e)),(2,Row.mk 1 false true (List.map (aE 70) (List.map (aE 4) (List.map (aE 3) (List.map (aE 2) (bQ g))))))]) (Operand.tmp 70)))),(4,Row.mk 1 false true [ai 0,cQ,ai 0,AV.nil,AV.nil]),(3,Row.mk 1 false true (a7 e))]) (C:=[(↑k:Int)=(↑k:Int),k*7<(ae bg g.aO).length,(ae bg g.aO).set (k*7+6) (aw e.target)=ae bg (qP g.aO k e.target),k*7+6+1≤(ae bg g.aO).length]) bk ⟨rfl,aj,s1,aj,trivial⟩<|aL<|aq<|zP 1 [{}] [.aa [5,66,58,7,51,44,24,17,10,9,4,3,2,0,1] [4,70,2,3]] [yL 5 5]<|bf.sU [.gP 70] bk<|zR (bR)
theorem rI (g:gX) (e:eP) (hG:qD g) (hB:mO e) (hv:e.ak.length≤1000000):bL Tryz.prog 30 [.agg (bQ g),.agg (a7 e)] (.bt [.agg (bQ (i_ g e)),ai (fX g e)]):=by
 have xN:(ae aP e.ak).length=e.ak.length*4:=aG (e:=4) (fun _=>rfl) ..
 have LK:=tA e hB
 by_cases cb:eu e=0
 case neg =>
  have ce:fX g e=eu e:=if_pos cb
  have cg:i_ g e=g:=if_pos (by rw [ce];exact cb)
  rw [if_neg cb] at LK
  rw [ce,cg]
  refine zO Tryz.func30 92<|zP 2 [{},yH [(1,yV (AV.bt [aw 0,ai (eu e)]))]] [.aa [7,6,5,4,3,2,0,1] [4,3,2]] [yI LK]<|zS<|zQ 1 [yH [(1,yV (ao true))]] [yB (ao (eu e != (0:Int))=ao true) (by simp [cb])]<|zT 19<|zP 1 [{}] [.aa [5,19,7,6,4,3,2,0,1] [4,3,2]] [yL 5 5]<|dn (bR)
 rw [if_pos cb,cb] at LK
 obtain ⟨k1,k5,QP,Sy,sG,Tb⟩:=qc cb
 by_cases c1:e.aB≠g.aB+1
 ·have ce:fX g e=42:=by unfold fX;rw [if_neg (fun q=>q cb),if_pos (.inl c1)]
  have cg:i_ g e=g:=if_pos aj
  rw [ce,cg]
  have vm:(e.aB-1 != g.aB)=true:=bne_iff_ne.2 aj
  refine zO Tryz.func30 92<|zP 2 [{},yH [(1,yV (AV.bt [aw (df e),ai 0]))]] [.aa [7,6,5,4,3,2,0,1] [4,3,2]] [yI LK]<|zS<|zq<|zF 19<|a_<|zS<|zP 1 [yH [(2,yV (ai (e.aB-1)))]] [.aa [34,19,7,6,5,4,3,2,0,1] [4,3,2]] ([yN (e.aB-1)]++yM 6 (yI vm))<|zT 34<|zP 1 [{}] [.aa [5,34,19,7,6,4,3,2,0,1] [4,3,2]] [yL 5 5]<|dn (bR)
 have Oy:e.aB=g.aB+1:=aj
 have vm:(e.aB-1 != g.aB)=false:=by rw [Oy];simp
 by_cases c2:e.prev=g.head
 case neg =>
  have ce:fX g e=42:=by unfold fX;rw [if_neg (fun q=>q cb),if_pos (.inr c2)]
  have cg:i_ g e=g:=if_pos aj
  rw [ce,cg]
  have SB:(e.prev != g.head)=true:=bne_iff_ne.2 c2
  refine zO Tryz.func30 92<|zP 2 [{},yH [(1,yV (AV.bt [aw (df e),ai 0]))]] [.aa [7,6,5,4,3,2,0,1] [4,3,2]] [yI LK]<|zS<|zq<|zF 19<|a_<|zS<|zP 1 [yH ([(2,yV (ai (e.aB-1))),(11,{av:=some (ao (e.prev != g.head)),g:=false}),(12,{b:=false})]++yg [7,8,9,10])] [.aa [34,19,7,6,5,4,3,2,0,1] [4,3,2]] ([yN (e.aB-1)]++yM 5 (yI vm)++ [yI (cN e.prev g.head),yI vm])<|dB 34 (e.prev != g.head) (by assumption)<|zP 1 [{}] [.aa [5,34,19,7,6,4,3,2,0,1] [4,3,2]] [yL 5 5]<|dn (bR)
 have SB:(e.prev != g.head)=false:=by rw [c2];simp
 have Gf:fX g e=if fA g (df e) e.ak≠0 then fA g (df e) e.ak else gK g e:=by unfold fX;rw [if_neg (fun q=>q cb),if_neg (by rintro (q|q);exact q Oy;exact q c2)]
 have m8:=hG.m8
 have Bv:=Js g (df e) e.ak aj hv
 by_cases c3:fA g (df e) e.ak=0
 case neg =>
  rw [if_pos c3] at Gf
  have cg:i_ g e=g:=if_pos (by rw [Gf];exact c3)
  rw [Gf,cg]
  refine zO Tryz.func30 92<|zP 2 [{},yH [(1,yV (AV.bt [aw (df e),ai 0]))]] [.aa [7,6,5,4,3,2,0,1] [4,3,2]] [yI LK]<|zS<|zQ 1 [yH [(1,yV (ao false))]] [yR (ao false)]<|zF 19<|a_<|zS<|zP 1 [yH ([(2,yV (ai (e.aB-1))),(11,{av:=some (ao (e.prev != g.head)),g:=false}),(12,{b:=false})]++yg [7,8,9,10])] [.aa [34,19,7,6,5,4,3,2,0,1] [4,3,2]] ([yN (e.aB-1)]++yM 5 (yI vm)++ [yI (cN e.prev g.head),yI vm])<|bn 34 (e.prev != g.head) (by assumption)<|a_<|zS<|zP 2 [yH [(4,yV (ai (fA g (df e) e.ak)))],yH [(1,yV (ao true))]] [.aa [42,41,8,34,19,7,6,5,4,3,2,0,1] [4,3,2]] [yI Bv,yB (ao (fA g (df e) e.ak != (0:Int))=ao true) (by simp [c3])]<|zT 42<|zP 1 [{}] [.aa [5,42,41,8,34,19,7,6,4,3,2,0,1] [4,3,2]] [yL 5 5]<|dn (bR)
 have KO:=fun i hi=>vR c3 (i:=i) hi
 rw [if_neg (fun q=>q c3)] at Gf
 rw [c3] at Bv
 have vJ:=A3 g e hG k1 k5 (xV cb) hB.dep
 rw [←Gf] at vJ
 by_cases c4:fX g e=0
 case neg =>
  have cg:i_ g e=g:=if_pos c4
  rw [cg]
  refine zO Tryz.func30 92<|zP 2 [{},yH [(1,yV (AV.bt [aw (df e),ai 0]))]] [.aa [7,6,5,4,3,2,0,1] [4,3,2]] [yI LK]<|zS<|zQ 1 [yH [(1,yV (ao false))]] [yR (ao false)]<|zF 19<|a_<|zS<|zP 1 [yH ([(2,yV (ai (e.aB-1))),(11,{av:=some (ao (e.prev != g.head)),g:=false}),(12,{b:=false})]++yg [7,8,9,10])] [.aa [34,19,7,6,5,4,3,2,0,1] [4,3,2]] ([yN (e.aB-1)]++yM 5 (yI vm)++ [yI (cN e.prev g.head),yI vm])<|bn 34 (e.prev != g.head) (by assumption)<|a_<|zS<|zP 2 [yH [(4,yV (ai 0))],yH [(1,yV (ao false))]] [.aa [42,41,8,34,19,7,6,5,4,3,2,0,1] [4,3,2]] [yI Bv,yR (ao false)]<|zF 42<|a_<|zP 1 [yH [(2,{av:=some (AV.bt [AV.agg (bQ (cS g e)),ai (fX g e)]),b:=false})]] [.aa [7,9,42,41,8,34,19,6,5,4,3,2,0,1] [9,4,3,2]] [yI vJ,yL 5 5]<|zS<|zQ 1 [yH [(1,yV (ao true))]] [yB (ao (fX g e != (0:Int))=ao true) (by simp [c4])]<|zT 52<|zP 1 [{}] [.aa [5,52,7,9,42,41,8,34,19,6,4,3,2,0,1] [4,9,3,2]] [yL 5 5]<|dn (bR)
 have cg:i_ g e=⟨e.aB,df e,(cS g e).bA,j9 (cS g e).al e.ak,(cS g e).aO⟩:=if_neg (fun q=>q c4)
 rw [cg,c4]
 rw [c4] at vJ
 have gm:=Bi g e
 generalize cS g e=G at *
 have m7:∀i,(ae aF (j9 G.al (e.ak.take i))).length=G.al.length*4:=fun i=>by rw [aG (e:=4) (fun _=>rfl),ng]
 have Nb:=um G.al aj
 generalize df e=W at *
 clear Gf cg Tb sG
 refine zO Tryz.func30 92<|zP 2 [{},yH [(1,yV (AV.bt [aw W,ai 0]))]] [.aa [7,6,5,4,3,2,0,1] [4,3,2]] [yI LK]<|zS<|zq<|zF 19<|a_<|zS<|zP 1 [yH ([(2,yV (ai (e.aB-1))),(11,{av:=some (ao (e.prev != g.head)),g:=false}),(12,{b:=false})]++yg [7,8,9,10])] [.aa [34,19,7,6,5,4,3,2,0,1] [4,3,2]] ([yN (e.aB-1)]++yM 5 (yI vm)++ [yI (cN e.prev g.head),yI vm])<|bn 34 (e.prev != g.head) (by assumption)<|a_<|zS<|zP 2 [yH [(4,yV (ai 0))],{}] [.aa [42,41,8,34,19,7,6,5,4,3,2,0,1] [4,3,2]] [yI Bv]<|zF 42<|a_<|zP 1 [yH [(2,{av:=some (AV.bt [AV.agg (bQ G),ai 0]),b:=false})]] [.aa [7,9,42,41,8,34,19,6,5,4,3,2,0,1] [9,4,3,2]] [yI vJ,yL 5 5]<|zS<|zq<|zF 52<|a_<|zP 3 [{},{},yH [(2,{av:=some (AV.own 4 (ae aF G.al)),b:=false})]] [.aa [52,7,9,42,41,8,34,19,6,5,4,3,2,0,1] [9,62,4,3,2]] [yL 1 5,yL 2 5,yI Nb,yL 4 5]<|zS<|zQ 1 [yH [(2,{k:=e.ak.length})]] [yI xN]<|zB 0 (zL (fun (i:Nat)=>(⟨[(66,ai (↑e.ak.length:Int)),(65,AV.sl 4 (ae aP e.ak)),(52,ao ((0:Int) != (0:Int))),(7,ai 0),(9,AV.addr 9 0),(42,ao ((0:Int) != (0:Int))),(41,ai 0),(8,ai 0),(34,ao (e.prev != g.head)),(19,ao ((0:Int) != (0:Int))),(6,aw W),(5,ai 0),(4,AV.addr 4 0),(3,AV.addr 3 0),(2,AV.addr 2 0),(0,AV.agg (bQ g)),(1,AV.agg (a7 e)),(67,ai i)],[(9,⟨1,false,true,[ai e.aB,aw W,ai G.bA,AV.ref 62,AV.sl 7 (ae bg G.aO)]⟩),(4,⟨1,false,true,[ai 0,cQ,ai 0,AV.nil,AV.nil]⟩),(3,⟨1,false,true,(a7 e)⟩),(2,⟨1,false,true,List.map (aE 62) (List.map (aE 9) (List.map (aE 4) (List.map (aE 3) (List.map (aE 2) (bQ g)))))⟩),(62,⟨4,true,false,ae aF (j9 G.al (e.ak.take i))⟩)]⟩:AS)) (fun i=>(i≤e.ak.length)) (fun i=>(e.ak.length-i)) (0) ?_ (zW [.aa [66,65,52,7,9,42,41,8,34,19,6,5,4,3,2,0,1,67] [9,4,3,2,62]]) ?_)
 ·omega
 intro i hi
 have Uz:=m7 i
 refine bf.jH 1 [{}] bk (s':=AS.mk [(68,ao (decide ((↑i:Int)<(↑e.ak.length:Int)))),(66,ai (↑e.ak.length:Int)),(65,AV.sl 4 (ae aP e.ak)),(52,ao ((0:Int) != (0:Int))),(7,ai 0),(9,AV.addr 9 0),(42,ao ((0:Int) != (0:Int))),(41,ai 0),(8,ai 0),(34,ao (e.prev != g.head)),(19,ao ((0:Int) != (0:Int))),(6,aw W),(5,ai 0),(4,AV.addr 4 0),(3,AV.addr 3 0),(2,AV.addr 2 0),(0,AV.agg (bQ g)),(1,AV.agg (a7 e)),(67,ai ↑i)] [(9,Row.mk 1 false true [ai e.aB,aw W,ai G.bA,AV.ref 62,AV.sl 7 (ae bg G.aO)]),(4,Row.mk 1 false true [ai 0,cQ,ai 0,AV.nil,AV.nil]),(3,Row.mk 1 false true (a7 e)),(2,Row.mk 1 false true (List.map (aE 62) (List.map (aE 9) (List.map (aE 4) (List.map (aE 3) (List.map (aE 2) (bQ g))))))),(62,Row.mk 4 true false (ae aF (j9 G.al (List.take i e.ak))))]) (C:=[]) bk trivial<|zS (zD 68 ((↑i:Int)<(↑e.ak.length:Int)) (fun q=>?_) (fun q=>?_))
 ·have dM:i<e.ak.length:=aj
  have gN:=la dM
  have dS:=vV G.al dM
  obtain ⟨y1,Gu⟩:=KO i dM
  have V5:(j9 G.al (e.ak.take i)).length=G.al.length:=ng _ _
  generalize j9 G.al (e.ak.take i)=U at *
  have m9:bL Tryz.prog 61 [.agg (bQ ⟨e.aB,W,G.bA,U,G.aO⟩),cF (e.ak.getD i default).name] (ai (dJ U (e.ak.getD i default).name)):=nJ ⟨e.aB,W,G.bA,U,G.aO⟩ (e.ak.getD i default).name (by show U.length≤_;omega)
  rcases gH U (e.ak.getD i default).name with hk|⟨k,hk,iH,PC⟩
  ·have h1:pH U (e.ak.getD i default)=U:=if_pos aj
   rw [h1] at dS
   rw [hk] at m9
   refine a_<|zS<|zB 1<|zP 3 [yH [(0,{k:=i}),(1,yV (AV.agg (aP (e.ak.getD i default))))],yH [(3,yV (ai (-1:Int)))],{}] [.aa [76,12,11,68,66,65,52,7,9,42,41,8,34,19,6,5,4,3,2,0,1,67] [11,9,4,3,2,62]] [yR (↑i:Int),yO (i*4<(ae aP e.ak).length),yB (List.take 4 (List.drop (i*4) (ae aP e.ak))=(aP (e.ak.getD i default))) (dr (f:=aP) (e:=4) (k:=i) (j:=0) (fun _=>rfl) aj (by decide) rfl),yR 4,yL 4 4,yI m9]<|dt 76 ((-1:Int)≥0)<|zK<|aL<|aq<|zX (yH [(0,yV (ai ((↑i:Int)+1)))]) [yN ((↑i:Int)+1)] (aK (i+1) (by assumption) aj (eQ [.aa [66,65,52,7,9,42,41,8,34,19,6,5,4,3,2,0,1,67] [9,4,3,2,62]] [] [62] [yB (ae aF U=ae aF (j9 G.al (List.take (i+1) e.ak))) (by rw [dS])]))
  ·have h1:pH U (e.ak.getD i default)=U.set k {U.getD k default with used:=(U.getD k default).used|||gC (e.ak.getD i default).leaf}:=by unfold pH;rw [if_neg aj,uj hk,hk];rfl
   rw [h1] at dS
   rw [hk] at m9
   have RF:=nY iH
   have Rs:=wE iH ((U.getD k default).used|||gC (e.ak.getD i default).leaf)
   refine a_<|zS<|zB 1<|zP 3 [yH [(0,{k:=i}),(1,yV (AV.agg (aP (e.ak.getD i default))))],yH [(3,yV (ai ↑k))],{}] [.aa [76,12,11,68,66,65,52,7,9,42,41,8,34,19,6,5,4,3,2,0,1,67] [11,9,4,3,2,62]] [yR (↑i:Int),yO (i*4<(ae aP e.ak).length),yB (List.take 4 (List.drop (i*4) (ae aP e.ak))=(aP (e.ak.getD i default))) (dr (f:=aP) (e:=4) (k:=i) (j:=0) (fun _=>rfl) aj (by decide) rfl),yR 4,yL 4 4,yI m9]<|gU 76 ((↑k:Int)≥0)<|zX ({hs:=[(3,{k:=k}),(5,yV (aw ((U.getD k default).used))),(9,yV (aw (gC (e.ak.getD i default).leaf))),(10,yV (aw ((U.getD k default).used|||gC (e.ak.getD i default).leaf))),(11,{k:=k})],T:=10}) [yR (↑k:Int),yO (k*4<(ae aF U).length),yB ((ae aF U)[k*4+3]?=some (aw ((U.getD k default).used))) (bc (f:=aF) (e:=4) (k:=k) (j:=3) (fun _=>rfl) aj rfl),yB (AV.val (Value.int .u64 (IntKind.u64.wrap ((1:Int)*(2:Int)^min (e.ak.getD i default).leaf.toNat IntKind.u64.bits)))=aw (gC (e.ak.getD i default).leaf)) (jB 1 _ y1 aj),yI y1,yI (pw ((U.getD k default).used) (gC (e.ak.getD i default).leaf)),yR (↑k:Int),yO (k*4<(ae aF U).length),yO (k*4+3+1≤(ae aF U).length)]<|aL<|aq<|zX (yH [(0,yV (ai ((↑i:Int)+1)))]) [yN ((↑i:Int)+1)] (aK (i+1) (by assumption) aj (eQ [.aa [66,65,52,7,9,42,41,8,34,19,6,5,4,3,2,0,1,67] [9,4,3,2,62]] [] [62] [yB ((ae aF U).set (k*4+3) (aw ((U.getD k default).used|||gC (e.ak.getD i default).leaf))=ae aF (j9 G.al (List.take (i+1) e.ak))) (by rw [dS];exact Rs)]))
 ·have ei:i=e.ak.length:=aj
  subst ei
  rw [List.take_length]
  refine zE 0<|ba<|aS<|br<|aq<|zP 1 [{}] [.aa [5,68,66,65,52,7,9,42,41,8,34,19,6,4,3,2,0,1,67] [4,9,3,2,62]] [yL 5 5]<|bf.sU [.gP 62] bk<|zR (bR)
def P6 (e:eP) (V:List gl):List AV:=[ai e.aB,aw e.prev,ai e.kind,cF e.name,ai e.kh,aw e.kr,ai e.bA,aw e.dep.bZ,aw e.dep.peer,.own 1 (ag e.dep.box),.own 1 (ae ay e.dep.af),.own 1 (ah e.dep.au),ai e.dep.need,aw e.dep.target,aw e.bZ,aw e.target,.own 4 (ae aP V)]
theorem vQ (e:eP) (W:UInt64) (name:List UInt8) (seed:UInt64) (h leaf:Int) (hv:e.ak= []) (hs:wi h leaf=0) (hw:bL Tryz.prog 50 [.agg (a7 e)] (.bt [aw W,ai 0])) (h1:e.dep.box.length≤1000000) (h2:e.dep.af.length≤1000000) (h3:e.dep.au.length≤1000000) :
  bL Tryz.prog 25 [.agg (a7 e),cF name,aw seed,ai h,ai leaf] (.bt [.agg (P6 e [⟨name,oU h leaf,ox seed h leaf W,ow seed h leaf⟩]),ai 0]):=by
 have xN:(ae aP e.ak).length=0:=by rw [hv];rfl
 have FG:=sj e.dep h1 h2 h3
 refine zO Tryz.func25 114<|zP 2 [{},yH [(1,yV (AV.bt [aw W,ai 0]))]] [.aa [13,12,11,10,5,0,1,2,3,4] [10,5]] [yI hw]<|zS<|zq<|zF 27<|a_<|zS<|zP 1 [yH [(2,{k:=e.ak.length})]] [.aa [33,32,31,27,13,12,11,10,5,0,1,2,3,4] [10,5]] [yB ((ae aP e.ak).length=e.ak.length*4) (by simp only [aG (f:=aP) (e:=4) (fun _=>rfl)])]<|zB 0 (zL (fun (i:Nat)=>(⟨[(32,ai (↑e.ak.length:Int)),(31,AV.sl 4 (ae aP e.ak)),(27,ao ((0:Int) != (0:Int))),(13,ai 0),(12,aw W),(10,AV.addr 10 0),(5,AV.addr 5 0),(0,AV.agg (a7 e)),(1,cF name),(2,aw seed),(3,ai h),(4,ai leaf),(33,ai i)],[(10,⟨1,false,true,[ai 0,cQ,ai 0,AV.val (Value.string (ByteArray.mk #[])),ai 0,cQ,ai 0,cQ,cQ,AV.nil,AV.nil,AV.nil,ai 0,cQ,cQ,cQ,AV.nil]⟩),(5,⟨1,false,true,List.map (aE 10) (List.map (aE 5) (a7 e))⟩)]⟩:AS)) (fun i=>(i=0)) (fun i=>0) (0) ?_ (zW [.aa [32,31,27,13,12,10,5,0,1,2,3,4,33] [10,5]]) ?_)
 ·rfl
 rintro i rfl
 refine zq<|zS<|bn 34 (decide ((↑(0:Nat):Int)<(↑e.ak.length:Int))) (by simp_all)<|zE 0<|ba<|aS<|br<|aq<|zP 1 [yH [(4,{av:=some (AV.bt [AV.agg [ai (oU h leaf),AV.sl 1 (ah (ox seed h leaf W)),AV.own 1 (ah (ow seed h leaf))],ai (wi h leaf)]),b:=false})]] [.aa [13,16,34,32,31,27,12,10,5,0,1,2,3,4,33] [16,301048,10,5]] [yI (G2 seed h leaf W),yL 3 3]<|zS<|zQ 1 [yH [(1,yV (ao false))]] [yB (ao (wi h leaf != (0:Int))=ao false) (by simp [hs])]<|zF 52<|a_<|zq<|zS<|zB 2 (zL (fun (i:Nat)=>(⟨[(52,ao false),(13,ai (wi h leaf)),(16,AV.addr 16 0),(34,ao (decide ((↑(0:Nat):Int)<(↑e.ak.length:Int)))),(32,ai (↑e.ak.length:Int)),(31,AV.sl 4 (ae aP e.ak)),(27,ao ((0:Int) != (0:Int))),(12,aw W),(10,AV.addr 10 0),(5,AV.addr 5 0),(0,AV.agg (a7 e)),(1,cF name),(2,aw seed),(3,ai h),(4,ai leaf),(33,ai (↑(0:Nat):Int)),(17,ai i)],[(16,⟨1,false,true,[ai (oU h leaf),AV.sl 1 (ah (ox seed h leaf W)),AV.ref 301048]⟩),(10,⟨1,false,true,[ai 0,cQ,ai 0,AV.val (Value.string (ByteArray.mk #[])),ai 0,cQ,ai 0,cQ,cQ,AV.nil,AV.nil,AV.nil,ai 0,cQ,cQ,cQ,AV.nil]⟩),(5,⟨1,false,true,List.map (aE 16) (List.map (aE 301048) (List.map (aE 10) (List.map (aE 5) (a7 e))))⟩),(301048,⟨1,true,false,ah (ow seed h leaf)⟩)]⟩:AS)) (fun i=>(i=0)) (fun i=>0) (0) ?_ (zW [.aa [52,13,16,34,32,31,27,12,10,5,0,1,2,3,4,33,17] [16,10,5,301048]]) ?_)
 ·rfl
 rintro i rfl
 have w1:IntKind.i64.wrap ((e.ak.length:Int)+1)=(1:Nat):=by rw [hv];rfl
 refine zS<|zP 1 [yH ([(3,{k:=e.ak.length}),(14,{b:=false})]++yg [6,7,8,9,10,11,12,13])] [.aa [69,52,13,16,34,32,31,27,12,10,5,0,1,2,3,4,33,17] [16,10,5,301048]] ([yB ((ae aP e.ak).length=e.ak.length*4) (by simp only [aG (f:=aP) (e:=4) (fun _=>rfl)])]++yM 9 (yB (decide ((↑(0:Nat):Int)<(↑e.ak.length:Int))=false) (by simp_all)))<|zF 69<|zE 2<|ba<|aS<|br<|aq<|zP 1 [yH [(2,{k:=e.ak.length}),(3,yV (ai (↑(1:Nat):Int))),(4,{k:=0,m:=1})]] [.aa [18,69,52,13,16,34,32,31,27,12,10,5,0,1,2,3,4,33,17] [76,16,10,5,301048]] [yB ((ae aP e.ak).length=e.ak.length*4) (by simp only [aG (f:=aP) (e:=4) (fun _=>rfl)]),yB (ai (IntKind.i64.wrap ((↑e.ak.length:Int)+1))=ai (↑(1:Nat):Int)) (congrArg (fun n=>AV.val (.int .i64 n)) w1),yR (0:Int),yR (↑(1:Nat):Int),yL 0 1,yL 72 281474976710656,yB (1≤maxLen) (by decide)]<|zS<|zQ 1 [yH [(2,{k:=e.ak.length})]] [yB ((ae aP e.ak).length=e.ak.length*4) (by simp only [aG (f:=aP) (e:=4) (fun _=>rfl)])]<|zB 4 (zL (fun (i:Nat)=>(⟨[(79,ai (↑e.ak.length:Int)),(78,AV.sl 4 (ae aP e.ak)),(69,ao false),(52,ao false),(13,ai (wi h leaf)),(16,AV.addr 16 0),(34,ao (decide ((↑(0:Nat):Int)<(↑e.ak.length:Int)))),(32,ai (↑e.ak.length:Int)),(31,AV.sl 4 (ae aP e.ak)),(27,ao ((0:Int) != (0:Int))),(12,aw W),(10,AV.addr 10 0),(5,AV.addr 5 0),(0,AV.agg (a7 e)),(1,cF name),(2,aw seed),(3,ai h),(4,ai leaf),(33,ai (↑(0:Nat):Int)),(17,ai (↑(0:Nat):Int)),(80,ai i),(18,AV.ref 76)],[(16,⟨1,false,true,[ai (oU h leaf),AV.sl 1 (ah (ox seed h leaf W)),AV.ref 301048]⟩),(10,⟨1,false,true,[ai 0,cQ,ai 0,AV.val (Value.string (ByteArray.mk #[])),ai 0,cQ,ai 0,cQ,cQ,AV.nil,AV.nil,AV.nil,ai 0,cQ,cQ,cQ,AV.nil]⟩),(5,⟨1,false,true,List.map (aE 76) (List.map (aE 16) (List.map (aE 301048) (List.map (aE 10) (List.map (aE 5) (a7 e)))))⟩),(301048,⟨1,true,false,ah (ow seed h leaf)⟩),(76,⟨4,true,false,ae aP []⟩)]⟩:AS)) (fun i=>(i=0)) (fun i=>0) (0) ?_ (zW [.aa [79,78,69,52,13,16,34,32,31,27,12,10,5,0,1,2,3,4,33,17,80,18] [16,10,5,301048,76]]) ?_)
 ·rfl
 rintro i rfl
 have hI:dh Tryz.prog 53 [.ref 5,ai 0,.sl 4 [cF name,ai (oU h leaf),.sl 1 (ah (ox seed h leaf W)),.sl 1 (ah (ow seed h leaf))]] [(5,⟨4,true,false,ae aP []⟩)] (.own 4 (ae aP [⟨name,oU h leaf,ox seed h leaf W,ow seed h leaf⟩])) [(5,⟨4,true,false,ae aP []⟩)]:=At [] ⟨name,oU h leaf,ox seed h leaf W,ow seed h leaf⟩ (by decide)
 refine zq<|zS<|bn 81 (decide ((↑(0:Nat):Int)<(↑e.ak.length:Int))) (by simp_all)<|zE 4<|ba<|aS<|br<|aq<|zP 3 [yH [(6,{av:=some (AV.own 4 (ae aP [gl.mk name (oU h leaf) (ox seed h leaf W) (ow seed h leaf)])),ln:=[(76,5)],ho:=[(5,Row.mk 4 true false (ae aP []))]})],yH [(2,{av:=some (AV.agg [aw e.dep.bZ,aw e.dep.peer,AV.own 1 (ag e.dep.box),AV.own 1 (ae ay e.dep.af),AV.own 1 (ah e.dep.au),ai e.dep.need,aw e.dep.target]),b:=false})],{}] [.aa [11,81,79,78,69,52,13,16,34,32,31,27,12,10,5,0,1,2,3,4,33,17,80] [10,5,500111,400111,300111,107,16]] [yI hI,yL 17 17,yI FG,yL 14 17,yL 17 17]<|zR (bR)
theorem Iw (q:Nat) (hq:q<16):(q%2=0->q^^^1=q+1∧q=2*(q/2))∧(q%2≠0->q^^^1=q-1∧q=2*(q/2)+1):=by
 have key:∀q:Fin 16,(q.val%2=0->q.val^^^1=q.val+1∧q.val=2*(q.val/2))∧(q.val%2≠0->q.val^^^1=q.val-1∧q.val=2*(q.val/2)+1):=by decide +kernel
 exact key ⟨q,hq⟩
theorem Dq (seed:UInt64) (leaf n:Nat) (x:UInt64) (hx:x=fU seed 0 leaf) (So:leaf<16) (k:Nat) (hk:k≤n):dA leaf (dp seed leaf n) x k=fU seed k (leaf/2^k):=by
 induction k with
 | zero=>simp [dA,hx]
 | succ k ih =>
  have ih:=ih aj
  have hg:(dp seed leaf n).getD k 0=fU seed k (leaf/2^k^^^1):=by simp [dp,show k<n by omega]
  have hd:leaf/2^(k+1)=leaf/2^k/2:=by rw [Nat.pow_succ,Nat.div_div_eq_div_mul]
  obtain ⟨h1,h2⟩:=Iw (leaf/2^k) (Nat.lt_of_le_of_lt (Nat.div_le_self ..) So)
  unfold dA
  rw [ih,hg,hd]
  generalize leaf/2^k=q at *
  by_cases hq:q%2=0
  ·obtain ⟨e1,e2⟩:=h1 hq
   rw [if_pos hq,e1]
   show gR _ _ _=gR _ _ _
   rw [←e2]
  ·obtain ⟨e1,e2⟩:=h2 hq
   rw [if_neg hq,e1]
   show gR _ _ _=gR _ _ _
   rw [show 2*(q/2)+1=q by omega,show 2*(q/2)=q-1 by omega]
theorem GK (seed:UInt64) (h leaf:Nat) (m:UInt64) (hh:h≤4) (hl:leaf<2^h):ky (h:Int) (fU seed h 0) m (leaf:Int) (bU seed leaf m 18) (dp seed leaf h)=0:=by
 have hb:¬i7 (h:Int) (leaf:Int):=by unfold i7 bB;rw [Int.toNat_natCast];omega
 have e:=Dq seed leaf h (combine leaf (cO leaf m (bU seed leaf m 18) 18)) (by rw [Hm];rfl) (Nat.lt_of_lt_of_le hl (Nat.pow_le_pow_right (by decide) hh)) h (Nat.le_refl h)
 rw [Nat.div_eq_of_lt hl] at e
 unfold ky
 rw [if_neg hb,if_neg (by rw [qM,qV];omega),Int.toNat_natCast,Int.toNat_natCast,if_pos e]
def I8:List (Nat×Nat):=[(9,1),(10,1),(11,1),(16,4)]
def Ny:na:=⟨0,0,[],[],[],0,0⟩
theorem Q5:eg [109,48]=0:=D7 (by decide) (by decide)
theorem OV:eg [109,49]=0:=D7 (by decide) (by decide)
theorem OP (s:UInt64):Km s 4=fU s 4 0:=if_neg (show ¬bB 4 by decide)
theorem Q_:dz 0=⟨[109,48],4,fU 300 4 0,0⟩:=by
 unfold dz
 rw [OP,show u8 (48+((0:Nat):Int))=48 by decide,show (300:UInt64)+u64 ((0:Nat):Int)=300 by decide]
theorem Q9:dz 1=⟨[109,49],4,fU 301 4 0,0⟩:=by
 unfold dz
 rw [OP,show u8 (48+((1:Nat):Int))=49 by decide,show (300:UInt64)+u64 ((1:Nat):Int)=301 by decide]
def gI (hd P:UInt64) (V:List gl):eP:=⟨1,hd,1,[109,49],4,P,0,Ny,0,0,V⟩
def iX (W:UInt64) (V:List gl):eP:=⟨2,W,2,[109,49],0,0,0,Ny,0,0,V⟩
def Qc (hd P:UInt64):List AV:=[ai 1,aw hd,ai 1,cF [109,49],ai 4,aw P,ai 0,aw 0,aw 0,.nil,.nil,.nil,ai 0,aw 0,aw 0,aw 0,.nil]
def SA (W:UInt64):List AV:=[ai 2,aw W,ai 2,cF [109,49],ai 0,aw 0,ai 0,aw 0,aw 0,.nil,.nil,.nil,ai 0,aw 0,aw 0,aw 0,.nil]
theorem L5:yU Ny:=⟨Nat.zero_le _,Nat.zero_le _,Nat.zero_le _,fun i hi=>absurd hi (Nat.not_lt_zero i)⟩
theorem C7 (hd P:UInt64) (V:List gl):mO (gI hd P V):=⟨Nat.le_of_ble_eq_true rfl,L5⟩
theorem I_ (W:UInt64) (V:List gl):mO (iX W V):=⟨Nat.le_of_ble_eq_true rfl,L5⟩
theorem C8 (hd P:UInt64) (V:List gl):eu (gI hd P V)=0:=by
 have hs:fi (gI hd P V):=⟨.inl rfl,.inl rfl,.inr rfl,.inr ⟨rfl,rfl,rfl,rfl,rfl,rfl,rfl⟩,.inr ⟨rfl,rfl⟩,rfl⟩
 rw [ID (show (1:Int)≤1 by omega) (show (1:Int)≤5 by omega) hs (show (1:Int)≤1 by omega) (show (1:Int)≤2147483647 by omega)]
 unfold fa
 rw [if_pos (show (gI hd P V).kind=1 from rfl),if_neg (fun q=>q OV)]
 show eZ 4=0
 decide
theorem C6 (W:UInt64) (V:List gl):eu (iX W V)=0:=by
 have hs:fi (iX W V):=⟨.inr (.inl rfl),.inr ⟨rfl,rfl⟩,.inr rfl,.inr ⟨rfl,rfl,rfl,rfl,rfl,rfl,rfl⟩,.inr ⟨rfl,rfl⟩,rfl⟩
 rw [ID (show (1:Int)≤2 by omega) (show (2:Int)≤5 by omega) hs (show (1:Int)≤2 by omega) (show (2:Int)≤2147483647 by omega)]
 unfold fa
 rw [if_neg (show ¬(iX W V).kind=1 from (show ¬(2:Int)=1 by omega)),if_pos (show (iX W V).kind=2 from rfl)]
 exact OV
theorem xE (m:Mem) (l:List Mem) {h:List UInt8} (e:m.name=h):dJ (m::l) h=(0:Nat):=xF (i:=0) (Nat.zero_lt_succ _) aj e
theorem HG (m:Mem) {h:List UInt8} (e:m.name≠h):dJ [m] h= -1:=xD fun j hj=>by
 have:j=0:=by simp at hj;omega
 subst this;exact e
theorem zc (g:gX) (W:UInt64) (v:gl) (k:Nat) (h1:dJ g.al v.name=k) (h3:ky (g.al.getD k default).h (g.al.getD k default).r W v.leaf v.bI v.path=0) (h6:(g.al.getD k default).used&&&gC v.leaf=0):fA g W [v]=if (1:Int)<g.bA then 41 else 0:=by
 have h0:jW g W [v] 0=0:=by
  rw [w_ (l:=[v]) (i:=0) (fun q=>absurd q.1 (Nat.lt_irrefl 0)) h1 h3,if_neg (fun q=>q h6)]
 have hf:ff (jW g W [v]) [v].length=0:=h0
 unfold fA
 rw [if_neg (fun q=>q hf)];rfl
theorem Bm:bL Tryz.prog 12 [] (ao true):=by
 have LP:=gu 0 aj
 have FA:=gu 1 aj
 rw [Q_] at LP
 rw [Q9] at FA
 have Ej (l:Nat) (hl:l<16) (m:UInt64):=GK 300 4 l m aj aj
 generalize fU 300 4 0=P0 at *
 generalize fU 301 4 0=P1 at *
 have AD:eZ 4=0:=by decide
 have hn:=IE ⟨[109,48],4,P0,0⟩ (Nat.le_of_ble_eq_true rfl)
 have ne:iG ⟨[109,48],4,P0,0⟩=0:=by unfold iG;rw [if_neg (by simp [Q5]),if_neg (by simp [AD]),if_neg (by simp)]
 rw [ne,show dd ⟨[109,48],4,P0,0⟩=⟨0,hash 16 (dk 4 P0++ [109,48]),1,[⟨[109,48],4,P0,0⟩],[]⟩ from if_pos ne] at hn
 generalize hash 16 (dk 4 P0++ [109,48])=hd at hn
 have O6 (V:List gl):=tA _ (C7 hd P1 V)
 simp only [if_pos (C8 hd P1 _),C8] at O6
 have qx (V:List gl):df (gI hd P1 V)=df (gI hd P1 []):=rfl
 have aX (V:List gl):=Jz (g:=⟨0,hd,1,[⟨[109,48],4,P0,0⟩],[]⟩) (C8 hd P1 V) rfl rfl
 simp only [qx] at O6 aX
 obtain ⟨W,hW⟩:∃W,W=df (gI hd P1 []):=⟨_,rfl⟩
 rw [←hW] at O6 aX
 have O5 (V:List gl):=tA _ (I_ W V)
 simp only [if_pos (C6 W _),C6] at O5
 have qz (V:List gl):df (iX W V)=df (iX W []):=rfl
 have aZ (V:List gl):=Jz (g:=⟨1,W,2,[⟨[109,48],4,P0,1⟩,⟨[109,49],4,P1,0⟩],[]⟩) (C6 W V) rfl rfl
 simp only [qz] at O5 aZ
 obtain ⟨W2,U4⟩:∃W2,W2=df (iX W []):=⟨_,rfl⟩
 rw [←U4] at O5 aZ
 have b0:¬i7 4 0:=by decide
 have b1:¬i7 4 1:=by decide
 have hv:=vQ (gI hd P1 []) W [109,48] 300 4 0 rfl (if_neg b0) (O6 []) (Nat.le_of_ble_eq_true rfl) (Nat.le_of_ble_eq_true rfl) (Nat.le_of_ble_eq_true rfl)
 have MK:=vQ (iX W []) W2 [109,48] 300 4 1 rfl (if_neg b1) (O5 []) (Nat.le_of_ble_eq_true rfl) (Nat.le_of_ble_eq_true rfl) (Nat.le_of_ble_eq_true rfl)
 rw [show oU 4 0=0 from if_neg b0,show ox 300 4 0 W=bU 300 0 W 18 from if_neg b0,show ow 300 4 0=dp 300 0 4 from if_neg b0] at hv
 rw [show oU 4 1=1 from if_neg b1,show ox 300 4 1 W2=bU 300 1 W2 18 from if_neg b1,show ow 300 4 1=dp 300 1 4 from if_neg b1] at MK
 have lJ:=Ej 0 aj W
 have gV:=Ej 1 aj W2
 clear Ej
 have q0:bU 300 ((0:Nat):Int) W 18=bU 300 0 W 18:=rfl
 have q1:bU 300 ((1:Nat):Int) W2 18=bU 300 1 W2 18:=rfl
 rw [q0] at lJ
 rw [q1] at gV
 generalize bU 300 0 W 18=C0 at *
 generalize bU 300 1 W2 18=C1 at *
 generalize dp 300 0 4=A0 at *
 generalize dp 300 1 4=A1 at *
 have V0:=zc ⟨0,hd,1,[⟨[109,48],4,P0,0⟩],[]⟩ W ⟨[109,48],0,C0,A0⟩ 0 (xE _ _ rfl) lJ (show (0:UInt64)&&&((1:UInt64)<<<UInt64.ofNat (Int.toNat 0))=0 by decide)
 have V1:=zc ⟨1,W,2,[⟨[109,48],4,P0,1⟩,⟨[109,49],4,P1,0⟩],[]⟩ W2 ⟨[109,48],1,C1,A1⟩ 0 (xE _ _ rfl) gV (show (1:UInt64)&&&((1:UInt64)<<<UInt64.ofNat (Int.toNat 1))=0 by decide)
 have QR:fX ⟨0,hd,1,[⟨[109,48],4,P0,0⟩],[]⟩ (gI hd P1 [⟨[109,48],0,C0,A0⟩])=0:=by
  rw [aX,show fA _ W (gI hd P1 [⟨[109,48],0,C0,A0⟩]).ak=0 from V0.trans (if_neg (show ¬(1:Int)<1 by omega)),if_neg (fun q=>q rfl)]
  unfold gK
  rw [if_pos (show (gI hd P1 _).kind=1 from rfl),show dJ [⟨[109,48],4,P0,0⟩] (gI hd P1 [⟨[109,48],0,C0,A0⟩]).name= -1 from HG _ (show ([109,48]:List UInt8)≠ [109,49] by decide)]
  rfl
 have SG:fX ⟨0,hd,1,[⟨[109,48],4,P0,0⟩],[]⟩ (gI hd P1 [])=41:=by rw [aX];rfl
 have SF:fX ⟨1,W,2,[⟨[109,48],4,P0,1⟩,⟨[109,49],4,P1,0⟩],[]⟩ (iX W [⟨[109,48],1,C1,A1⟩])=41:=by
  rw [aZ,show fA _ W2 (iX W [⟨[109,48],1,C1,A1⟩]).ak=41 from V1.trans (if_pos (show (1:Int)<2 by omega)),if_pos aj]
 have eA:i_ ⟨0,hd,1,[⟨[109,48],4,P0,0⟩],[]⟩ (gI hd P1 [⟨[109,48],0,C0,A0⟩])=⟨1,W,2,[⟨[109,48],4,P0,1⟩,⟨[109,49],4,P1,0⟩],[]⟩:=by
  have hc:gK ⟨0,hd,1,[⟨[109,48],4,P0,0⟩],[]⟩ (gI hd P1 [⟨[109,48],0,C0,A0⟩])=0:=(wV QR).2.2.2.2
  rw [EL QR,qx,←hW]
  unfold cS
  rw [if_neg (fun q=>q hc),if_pos (show (gI hd P1 _).kind=1 from rfl)]
  have hu:pH [⟨[109,48],4,P0,0⟩,⟨[109,49],4,P1,0⟩] ⟨[109,48],0,C0,A0⟩= [⟨[109,48],4,P0,1⟩,⟨[109,49],4,P1,0⟩]:=by
   have hm:dJ [⟨[109,48],4,P0,0⟩,⟨[109,49],4,P1,0⟩] (⟨[109,48],0,C0,A0⟩:gl).name=(0:Nat):=xE _ _ rfl
   unfold pH
   rw [uj hm,hm,if_neg aj]
   show [(⟨[109,48],4,P0,(0:UInt64)|||gC 0⟩:Mem),⟨[109,49],4,P1,0⟩]=_
   rw [show (0:UInt64)|||gC 0=1 by decide]
  show (⟨1,W,if 2*(1:Int)≤((1:Nat):Int)+1 then 1+1 else 1,pH [⟨[109,48],4,P0,0⟩,⟨[109,49],4,P1,0⟩] ⟨[109,48],0,C0,A0⟩,[]⟩:gX)=_
  rw [if_pos aj,hu];rfl
 have hA:=rI ⟨0,hd,1,[⟨[109,48],4,P0,0⟩],[]⟩ (gI hd P1 [⟨[109,48],0,C0,A0⟩]) ⟨Int.le_refl 0,(show (0:Int)≤2147483647 by omega),(aj:1≤8),(show (0:Int)≤1 by omega),(show (1:Int)≤8 by omega),Nat.zero_le _⟩ (C7 _ _ _) (aj:1≤1000000)
 rw [QR,eA] at hA
 have hQ:=rI ⟨0,hd,1,[⟨[109,48],4,P0,0⟩],[]⟩ (gI hd P1 []) ⟨Int.le_refl 0,(show (0:Int)≤2147483647 by omega),(aj:1≤8),(show (0:Int)≤1 by omega),(show (1:Int)≤8 by omega),Nat.zero_le _⟩ (C7 _ _ _) (Nat.zero_le _)
 rw [SG,yE (by rw [SG];omega)] at hQ
 have TF:=rI ⟨1,W,2,[⟨[109,48],4,P0,1⟩,⟨[109,49],4,P1,0⟩],[]⟩ (iX W [⟨[109,48],1,C1,A1⟩]) ⟨(show (0:Int)≤1 by omega),(show (1:Int)≤2147483647 by omega),(aj:2≤8),(show (0:Int)≤2 by omega),(show (2:Int)≤8 by omega),Nat.zero_le _⟩ (I_ _ _) (aj:1≤1000000)
 rw [SF,yE (by rw [SF];omega)] at TF
 have H0:bL Tryz.prog 25 [.agg (Qc hd P1),cF [109,48],aw 300,ai 4,ai 0] _:=bL.HA I8 hv
 have Rn:bL Tryz.prog 25 [.agg (SA W),cF [109,48],aw 300,ai 4,ai 1] (.bt [.agg (P6 (iX W [⟨[109,48],1,C1,A1⟩]) [⟨[109,48],1,C1,A1⟩]),ai 0]):=bL.HA I8 MK
 have U6:bL Tryz.prog 30 [.agg (bQ ⟨0,hd,1,[⟨[109,48],4,P0,0⟩],[]⟩),.agg (Qc hd P1)] _:=bL.HA I8 hQ
 clear V0 V1 lJ gV eA O6 O5 hv MK hQ q0 q1 ne AD aX aZ QR SG SF qx qz
 refine zO Tryz.func12 100<|zP 2 [{},yH [(0,yV (AV.agg [AV.val (Value.string (ByteArray.mk #[109,48])),ai 4,aw P0,aw 0])),(1,{av:=some (AV.bt [AV.agg [ai 0,aw hd,ai 1,AV.own 4 (ae aF [Mem.mk [109,48] (4:Int) P0 0]),AV.own 7 (ae bg [])],ai 0]),b:=false})]] [.aa [2,1,0] [1,501016,401016]] [yI LP,yI hn,yL 5 5]<|zS<|y8 6 [5] [(2,yV (AV.agg [AV.val (Value.string (ByteArray.mk #[109,49])),ai 4,aw P1,aw 0]))] [yI FA,yR (AV.addr 1 1),yR (aw hd),yR (AV.agg [AV.val (Value.string (ByteArray.mk #[109,49])),ai 4,aw P1,aw 0]),yI FA,yR (AV.agg [ai 4,aw P1]),yR (AV.agg [ai 1,aw hd,ai 1,AV.val (Value.string (ByteArray.mk #[109,49])),ai 4,aw P1,ai 0,AV.val (Value.int .u64 0),AV.val (Value.int .u64 0),AV.nil,AV.nil,AV.nil,ai 0,AV.val (Value.int .u64 0),AV.val (Value.int .u64 0),AV.val (Value.int .u64 0),AV.nil]),yL 17 17]<|aq<|bf.sU [.aa [3,2,1,0] [3,1,501016,401016]] bk<|zP 6 [yH [(1,{av:=some (AV.bt [AV.agg [ai ((gI hd P1 []).aB),aw ((gI hd P1 []).prev),ai ((gI hd P1 []).kind),cF (gI hd P1 []).name,ai ((gI hd P1 []).kh),aw ((gI hd P1 []).kr),ai ((gI hd P1 []).bA),aw ((gI hd P1 []).dep.bZ),aw ((gI hd P1 []).dep.peer),AV.own 1 (ag (gI hd P1 []).dep.box),AV.own 1 (ae ay (gI hd P1 []).dep.af),AV.own 1 (ah (gI hd P1 []).dep.au),ai ((gI hd P1 []).dep.need),aw ((gI hd P1 []).dep.target),aw ((gI hd P1 []).bZ),aw ((gI hd P1 []).target),AV.own 4 (ae aP [gl.mk [109,48] (0:Int) C0 A0])],ai 0]),b:=false})],yH [(2,{av:=some (AV.bt [AV.agg [ai 1,aw W,ai 2,AV.sl 4 (ae aF [Mem.mk [109,48] (4:Int) P0 1,Mem.mk [109,49] (4:Int) P1 0]),AV.sl 7 (ae bg [])],ai 0]),b:=false})],yH [(2,{av:=some (AV.bt [AV.agg [ai 0,aw hd,ai 1,AV.sl 4 (ae aF [Mem.mk [109,48] (4:Int) P0 0]),AV.sl 7 (ae bg [])],ai 41]),b:=false})],yH [(3,{av:=some (AV.bt [AV.agg [ai ((iX W [gl.mk [109,48] (1:Int) C1 A1]).aB),aw ((iX W [gl.mk [109,48] (1:Int) C1 A1]).prev),ai ((iX W [gl.mk [109,48] (1:Int) C1 A1]).kind),cF (iX W [gl.mk [109,48] (1:Int) C1 A1]).name,ai ((iX W [gl.mk [109,48] (1:Int) C1 A1]).kh),aw ((iX W [gl.mk [109,48] (1:Int) C1 A1]).kr),ai ((iX W [gl.mk [109,48] (1:Int) C1 A1]).bA),aw ((iX W [gl.mk [109,48] (1:Int) C1 A1]).dep.bZ),aw ((iX W [gl.mk [109,48] (1:Int) C1 A1]).dep.peer),AV.own 1 (ag (iX W [gl.mk [109,48] (1:Int) C1 A1]).dep.box),AV.own 1 (ae ay (iX W [gl.mk [109,48] (1:Int) C1 A1]).dep.af),AV.own 1 (ah (iX W [gl.mk [109,48] (1:Int) C1 A1]).dep.au),ai ((iX W [gl.mk [109,48] (1:Int) C1 A1]).dep.need),aw ((iX W [gl.mk [109,48] (1:Int) C1 A1]).dep.target),aw ((iX W [gl.mk [109,48] (1:Int) C1 A1]).bZ),aw ((iX W [gl.mk [109,48] (1:Int) C1 A1]).target),AV.own 4 (ae aP [gl.mk [109,48] (1:Int) C1 A1])],ai 0]),b:=false})],yH [(2,{av:=some (AV.bt [AV.agg [ai 1,aw W,ai 2,AV.sl 4 (ae aF [Mem.mk [109,48] (4:Int) P0 1,Mem.mk [109,49] (4:Int) P1 0]),AV.sl 7 (ae bg [])],ai 41]),b:=false})],yH [(30,{k:=2}),(36,{k:=0}),(39,yV (ao (1 == 1)))]] [.aa [0,13,11,10,9,7,6,5,4,3,2,1] [10,6,4,3,1]] ([yI H0,yL 17 17,yI hA,yL 5 5,yI U6,yL 5 5,yI Rn,yL 17 17,yI TF,yL 5 5]++yM 22 (yR true)++ [yR (2*4)]++yM 5 (yR true)++ [yR (0:Int),yO (0<8)]++yM 3 (yR true)++ [yR (ao (1 == 1))]++yM 5 (yR true))<|zR (bR)
end Go.Proofs.YtjgbhhnghedgdaaGreatDoor
