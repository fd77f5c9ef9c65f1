import Derived.Test.YtjgbhhnghedgdaaGreatDoorZbGrC2
import Derived.Test.YtjgbhhnghedgdaaGreatDoorZbGr3a
set_option linter.all false
namespace Go.Proofs.YtjgbhhnghedgdaaGreatDoor
open Go.RowKit
set_option maxRecDepth 100000
set_option maxHeartbeats 4000000
theorem FL (d:na) (p:UInt64):bL Tryz.prog 155 [.agg (bg d),.ptr [aw p] 0] (ao (d.bZ == p)):=by
 refine zO Tryz.func155 8<|zP 2 [{},yH [(3,yV (ao (d.bZ == p)))]] [.aa [3,2,0,1] [2]] [yI (fv d.bZ p)]<|zR (bR)
theorem AZ (l:List na) (p:UInt64) (y1:l.length≤1000000):bL Tryz.prog 154 [.sl 7 (ae bg l),.lK 155 [.ptr [aw p] 0]] (ai (Dd l p)):=by
 have hl:(ae bg l).length=l.length*7:=aG (e:=7) (fun _=>rfl) ..
 refine zO Tryz.func154 19<|zq<|zS<|zQ 1 [yH [(1,{k:=l.length})]] [yI hl]<|zB 0 (zL (fun (i:Nat)=>(⟨[(7,ai (↑l.length:Int)),(0,AV.sl 7 (ae bg l)),(1,AV.lK 155 [AV.ptr [aw p] 0]),(8,ai i)],[]⟩:AS)) (fun i=>(i≤l.length∧ ∀j,j<i->(l.getD j default).bZ≠p)) (fun i=>(l.length-i)) (0) ?_ (zW [.aa [7,0,1,8] []]) ?_)
 ·exact ⟨aj,aj⟩
 rintro i ⟨hi,gh⟩
 refine zq<|zS (zD 9 ((↑i:Int)<(↑l.length:Int)) (fun g=>?_) (fun g=>?_))
 ·have dM:i<l.length:=aj
  have hc:=FL (l.getD i default) p
  by_cases e:(l.getD i default).bZ=p
  ·have hf:=IK dM gh e
   refine a_<|zS<|zB 1<|zP 2 [{},yH [(3,{k:=i}),(4,yV (AV.agg (bg (l.getD i default)))),(5,yV (ao ((l.getD i default).bZ == p)))]] [.aa [16,5,9,7,0,1,8] []] [yR (↑i:Int),yO (i*7<(ae bg l).length),yB (List.take 7 (List.drop (i*7) (ae bg l))=(bg (l.getD i default))) (dr (f:=bg) (e:=7) (k:=i) (j:=0) (fun _=>rfl) aj (by decide) rfl),yR 7,yI hc]<|dB 16 ((l.getD i default).bZ == p) fg<|zq<|zR<|a6<|aI<|de<|a6<|aI (zV [yJ (↑i:Int) (Dd l p) (by unfold Dd;rw [hf,if_pos dM])])
  ·skip
   refine a_<|zS<|zB 1<|zP 2 [{},yH [(3,{k:=i}),(4,yV (AV.agg (bg (l.getD i default)))),(5,yV (ao ((l.getD i default).bZ == p)))]] [.aa [16,5,9,7,0,1,8] []] [yR (↑i:Int),yO (i*7<(ae bg l).length),yB (List.take 7 (List.drop (i*7) (ae bg l))=(bg (l.getD i default))) (dr (f:=bg) (e:=7) (k:=i) (j:=0) (fun _=>rfl) aj (by decide) rfl),yR 7,yI hc]<|bn 16 ((l.getD i default).bZ == p) bE<|zK<|aL<|aq<|zX (yH [(0,yV (ai ((↑i:Int)+1)))]) [yN ((↑i:Int)+1)] (aK (i+1) ⟨aj,fun j hj=>by by_cases e2:j=i;(subst e2;exact e);exact gh j aj⟩ aj (zW [.aa [7,0,1,8] []]))
 ·have hf:=IJ (l:=l) (p:=p) (fun j hj=>gh j aj)
  refine zE 0<|ba<|aS<|br<|aq<|zq<|zR (zV [yJ (-1:Int) (Dd l p) (by unfold Dd;rw [hf,if_neg (Nat.lt_irrefl _)])])
theorem A2 (g:gX) (p:UInt64) (y1:g.aO.length≤1000000):bL Tryz.prog 108 [.agg (bQ g),aw p] (ai (Dd g.aO p)):=by
 refine zO Tryz.func108 9<|zP 2 [{},yH [(3,yV (ai (Dd g.aO p)))]] [.aa [4,3,2,0,1] [2]] [yI (AZ g.aO p y1)]<|zR (bR)
theorem Di (l:List na) (hl:l.length≤1000000):bL Tryz.prog 109 [.sl 7 (ae bg l)] (.own 7 (ae bg l)):=by
 have uG:(ae bg l).length=l.length*7:=aG (e:=7) (fun _=>rfl) ..
 refine zO Tryz.func109 8<|zq<|zS<|zS<|bf.isNil (t:=39) (el:=29) (x:=.tmp 0) (d1:=3) (d2:=4) (e:=7) (row:=ae bg l) bk bk bk bk bk bk bk Tryz.underlying39 bk bk bk fun b hb=>aq ?_
 cases b with
 | true =>
  have e:=hb rfl
  refine zT 4<|zq<|dn (zV [yI e])
 | false =>
  refine zF 4<|a_<|zP 1 [yH [(2,{b:=false})]] [.aa [2,4,0] [7]] [yB (cI (ae bg l)) (dG (fun x=>dN rfl) _),yO ((0+(ae bg l).length)*104≤985162418487296)]<|zR (bR)
def Gj (g:gX) (e:eP):gX:=⟨g.aB,g.head,if 2*g.bA≤g.al.length+1 then g.bA+1 else g.bA,g.al++ [⟨e.name,e.kh,e.kr,0⟩],g.aO⟩
def Br (g:gX) (e:eP):Int:=if 0≤dJ g.al e.name then 10 else if 8≤g.al.length then 12 else 0
theorem IG (g:gX) (e:eP) (hG:qD g):bL Tryz.prog 105 [.agg (bQ g),.agg (a7 e)] (.bt [.agg (bQ (if Br g e=0 then Gj g e else g)),ai (Br g e)]):=by
 obtain ⟨-,-,g3,g4,g5,-⟩:=hG
 have m7:(ae aF g.al).length=g.al.length*4:=aG (e:=4) (fun _=>rfl) ..
 have m9:=nJ g e.name aj
 have gm:=Jq (ae aF g.al)
 rcases gH g.al e.name with hk|⟨k,hk,iH,PC⟩
 case inr =>
  have ce:Br g e=10:=if_pos aj
  rw [ce,if_neg aj]
  rw [hk] at m9
  refine zO Tryz.func105 41<|zP 2 [{},yH [(2,{k:=g.al.length})]] [.aa [6,5,4,3,2,0,1] [4,3,2]] [yI m7]<|zS<|zP 1 [yH [(3,yV (ai ↑k))]] [.aa [14,6,5,4,3,2,0,1] [4,3,2]] [yI m9]<|gU 14 ((↑k:Int)≥0)<|zP 1 [{}] [.aa [5,14,6,4,3,2,0,1] [4,3,2]] [yL 5 5]<|dn (bR)
 have c1:¬0≤dJ g.al e.name:=aj
 rw [hk] at m9
 by_cases c2:8≤g.al.length
 ·have ce:Br g e=12:=(if_neg c1).trans (if_pos c2)
  rw [ce,if_neg aj]
  refine zO Tryz.func105 41<|zP 2 [{},yH [(2,{k:=g.al.length})]] [.aa [6,5,4,3,2,0,1] [4,3,2]] [yI m7]<|zS<|zP 1 [yH [(3,yV (ai (-1:Int)))]] [.aa [14,6,5,4,3,2,0,1] [4,3,2]] [yI m9]<|dt 14 ((-1:Int)≥0)<|a_<|zS<|zq<|gU 17 ((↑g.al.length:Int)≥8)<|zP 1 [{}] [.aa [5,17,14,6,4,3,2,0,1] [4,3,2]] [yL 5 5]<|dn (bR)
 have ce:Br g e=0:=(if_neg c1).trans (if_neg c2)
 rw [ce,if_pos rfl]
 have s1:ae aF g.al++aF ⟨e.name,e.kh,e.kr,0⟩=ae aF (g.al++ [⟨e.name,e.kh,e.kr,0⟩]):=fZ _ _
 by_cases c:2*g.bA≤g.al.length+1
 ·have cg:Gj g e=⟨g.aB,g.head,g.bA+1,g.al++ [⟨e.name,e.kh,e.kr,0⟩],g.aO⟩:=by unfold Gj;rw [if_pos c]
  rw [cg]
  refine zO Tryz.func105 41<|zP 2 [{},yH [(2,{k:=g.al.length})]] [.aa [6,5,4,3,2,0,1] [4,3,2]] [yI m7]<|zS<|zP 1 [yH [(3,yV (ai (-1:Int)))]] [.aa [14,6,5,4,3,2,0,1] [4,3,2]] [yI m9]<|dt 14 ((-1:Int)≥0)<|a_<|zS<|zq<|dt 17 ((↑g.al.length:Int)≥8)<|a_<|zP 1 [{hs:=[(2,{av:=some (AV.pf 4 (ae aF g.al)),b:=false}),(9,yV (AV.arr (ae aF (g.al++ [Mem.mk e.name e.kh e.kr 0]))))],T:=9}] [.aa [17,14,6,5,4,3,2,0,1] [2,28,4,3]] [yI gm,yI s1,yO (((ae aF g.al).length+4)*40≤562949953421312),yB (0<4) (Nat.le_of_ble_eq_true rfl),yL 4 5]<|zS<|zP 1 [yH [(2,yV (ai ((2:Int)*g.bA))),(4,yV (ai ((↑g.al.length:Int)+1)))]] [.aa [35,17,14,6,5,4,3,2,0,1] [2,28,4,3]] [yN ((2:Int)*g.bA),yN ((↑g.al.length:Int)+1)]<|gU 35 ((2:Int)*g.bA≤(↑g.al.length:Int)+1)<|zX (yH [(2,yV (ai (g.bA+1)))]) [yN (g.bA+1),yL 3 5]<|aq<|zP 1 [{}] [.aa [5,35,17,14,6,4,3,2,0,1] [4,2,28,3]] [yL 5 5]<|bf.sU [.gP 28] bk<|zR (bR)
 ·have cg:Gj g e=⟨g.aB,g.head,g.bA,g.al++ [⟨e.name,e.kh,e.kr,0⟩],g.aO⟩:=by unfold Gj;rw [if_neg c]
  rw [cg]
  refine zO Tryz.func105 41<|zP 2 [{},yH [(2,{k:=g.al.length})]] [.aa [6,5,4,3,2,0,1] [4,3,2]] [yI m7]<|zS<|zP 1 [yH [(3,yV (ai (-1:Int)))]] [.aa [14,6,5,4,3,2,0,1] [4,3,2]] [yI m9]<|dt 14 ((-1:Int)≥0)<|a_<|zS<|zq<|dt 17 ((↑g.al.length:Int)≥8)<|a_<|zP 1 [{hs:=[(2,{av:=some (AV.pf 4 (ae aF g.al)),b:=false}),(9,yV (AV.arr (ae aF (g.al++ [Mem.mk e.name e.kh e.kr 0]))))],T:=9}] [.aa [17,14,6,5,4,3,2,0,1] [2,28,4,3]] [yI gm,yI s1,yO (((ae aF g.al).length+4)*40≤562949953421312),yB (0<4) (Nat.le_of_ble_eq_true rfl),yL 4 5]<|zS<|bf.jX 1 [{hs:=[(2,{av:=some (ai ((2:Int)*g.bA))}),(4,{av:=some (ai ((↑g.al.length:Int)+1))})]}] [.aa [35,17,14,6,5,4,3,2,0,1] [2,28,4,3]] bk (s':=AS.mk [(35,ao (decide ((2:Int)*g.bA≤(↑g.al.length:Int)+1))),(17,ao (decide ((↑g.al.length:Int)≥8))),(14,ao (decide ((-1:Int)≥0))),(6,ai (↑g.al.length:Int)),(5,ai 0),(4,AV.addr 4 0),(3,AV.addr 3 0),(2,AV.addr 2 0),(0,AV.agg (bQ g)),(1,AV.agg (a7 e))] [(2,Row.mk 1 false true ((List.map (aE 28) (List.map (aE 4) (List.map (aE 3) (List.map (aE 2) (bQ g))))).set 3 (bq (AS.mk [(29,AV.addr 2 3),(28,AV.ref 28),(19,AV.addr 2 3),(20,AV.sl 4 (ae aF g.al)),(21,AV.pf 4 (ae aF g.al)),(22,AV.addr 3 3),(23,cF e.name),(24,AV.addr 3 4),(25,AV.agg [ai e.kh,aw e.kr]),(26,AV.agg [cF e.name,ai e.kh,aw e.kr,cQ]),(27,AV.sl 4 [cF e.name,ai e.kh,aw e.kr,cQ]),(17,ao (decide ((↑g.al.length:Int)≥8))),(16,ai (↑g.al.length:Int)),(14,ao (decide ((-1:Int)≥0))),(6,ai (↑g.al.length:Int)),(5,ai 0),(4,AV.addr 4 0),(3,AV.addr 3 0),(2,AV.addr 2 0),(0,AV.agg (bQ g)),(1,AV.agg (a7 e))] [(28,Row.mk 4 true false (ae aF (g.al++ [Mem.mk e.name e.kh e.kr 0]))),(4,Row.mk 1 false true [ai 0,cQ,ai 0,AV.nil,AV.nil]),(3,Row.mk 1 false true (a7 e)),(2,Row.mk 1 false true (List.map (aE 28) (List.map (aE 4) (List.map (aE 3) (List.map (aE 2) (bQ g))))))]) (Operand.tmp 28)))),(28,Row.mk 4 true false (ae aF (g.al++ [Mem.mk e.name e.kh e.kr 0]))),(4,Row.mk 1 false true [ai 0,cQ,ai 0,AV.nil,AV.nil]),(3,Row.mk 1 false true (a7 e))]) (C:=[ai (IntKind.i64.wrap ((2:Int)*g.bA))=ai ((2:Int)*g.bA),ai (IntKind.i64.wrap ((↑g.al.length:Int)+1))=ai ((↑g.al.length:Int)+1)]) bk ⟨(dK aj aj),(dK aj aj),trivial⟩<|dt 35 ((2:Int)*g.bA≤(↑g.al.length:Int)+1)<|a_<|zP 1 [{}] [.aa [5,35,17,14,6,4,3,2,0,1] [4,2,28,3]] [yL 5 5]<|bf.sU [.gP 28] bk<|zR (bR)
def zU (g:gX) (e:eP):Int:=if dJ g.al e.name<0 then 11 else if (g.al.length:Int)-1<g.bA then 41 else 0
theorem AQ (g:gX) (e:eP) (hG:qD g):bL Tryz.prog 106 [.agg (bQ g),.agg (a7 e)] (.bt [.agg (bQ (if zU g e=0 then {g with al:=pn g.al (dJ g.al e.name).toNat} else g)),ai (zU g e)]):=by
 obtain ⟨-,-,g3,g4,g5,-⟩:=hG
 have m7:(ae aF g.al).length=g.al.length*4:=aG (e:=4) (fun _=>rfl) ..
 have m9:=nJ g e.name aj
 rcases gH g.al e.name with hk|⟨k,hk,iH,PC⟩
 ·have ce:zU g e=11:=if_pos aj
  rw [ce,if_neg aj]
  rw [hk] at m9
  refine zO Tryz.func106 31<|zP 2 [{},yH [(3,yV (ai (-1:Int)))]] [.aa [6,5,4,3,2,0,1] [4,3,2]] [yI m9]<|zS<|zq<|gU 12 ((-1:Int)<0)<|zP 1 [{}] [.aa [5,12,6,4,3,2,0,1] [4,3,2]] [yL 5 5]<|dn (bR)
 have c1:¬dJ g.al e.name<0:=aj
 by_cases c2:(g.al.length:Int)-1<g.bA
 ·have ce:zU g e=41:=(if_neg c1).trans (if_pos c2)
  rw [ce,if_neg aj]
  rw [hk] at m9
  refine zO Tryz.func106 31<|zP 2 [{},yH [(3,yV (ai ↑k))]] [.aa [6,5,4,3,2,0,1] [4,3,2]] [yI m9]<|zS<|zq<|dt 12 ((↑k:Int)<0)<|a_<|zS<|zP 1 [yH [(4,{k:=g.al.length}),(5,yV (ai ((↑g.al.length:Int)-1)))]] [.aa [20,12,6,5,4,3,2,0,1] [4,3,2]] [yI m7,yN ((↑g.al.length:Int)-1)]<|gU 20 (g.bA>(↑g.al.length:Int)-1)<|zP 1 [{}] [.aa [5,20,12,6,4,3,2,0,1] [4,3,2]] [yL 5 5]<|dn (bR)
 have ce:zU g e=0:=(if_neg c1).trans (if_neg c2)
 have hc:=um g.al aj
 have hd:=Bf g.al k iH
 rw [ce,if_pos rfl,hk,Int.toNat_natCast]
 rw [hk] at m9
 refine zO Tryz.func106 31<|zP 2 [{},yH [(3,yV (ai ↑k))]] [.aa [6,5,4,3,2,0,1] [4,3,2]] [yI m9]<|zS<|zq<|dt 12 ((↑k:Int)<0)<|a_<|zS<|zP 1 [yH [(4,{k:=g.al.length}),(5,yV (ai ((↑g.al.length:Int)-1)))]] [.aa [20,12,6,5,4,3,2,0,1] [4,3,2]] [yI m7,yN ((↑g.al.length:Int)-1)]<|dt 20 (g.bA>(↑g.al.length:Int)-1)<|a_<|zP 2 [yH [(2,{av:=some (AV.own 4 (ae aF g.al)),b:=false}),(5,yV (ai (↑(k+1):Int))),(6,{av:=some (AV.own 4 (ae aF (pn g.al k))),ln:=[(24,5)],ho:=[(5,Row.mk 4 true false (ae aF []))]})],{}] [.aa [5,20,12,6,4,3,2,0,1] [4,2,28,3]] [yI hc,yB (ai (IntKind.i64.wrap ((↑k:Int)+1))=ai (↑(k+1):Int)) (dK aj aj),yI hd,yL 4 5,yL 5 5]<|bf.sU [.gP 28] bk<|zR (bR)
def xb (g:gX) (e:eP):Int:=if 8≤g.aO.length then 12 else if vt g.aO e.dep.bZ<g.aO.length then 10 else ff (sH g e.dep.af) e.dep.af.length
theorem Cx (g:gX) (e:eP) (hG:qD g) (hB:yU e.dep):bL Tryz.prog 107 [.agg (bQ g),.agg (a7 e)] (.bt [.agg (bQ (if xb g e=0 then {g with aO:=g.aO++ [e.dep]} else g)),ai (xb g e)]):=by
 obtain ⟨-,-,g3,-,-,g6⟩:=hG
 have s9:(ae bg g.aO).length=g.aO.length*7:=aG (e:=7) (fun _=>rfl) ..
 have m7:(ae aF g.al).length=g.al.length*4:=aG (e:=4) (fun _=>rfl) ..
 have Cu:=A2 g e.dep.bZ aj
 have gm:=Gd (ae bg g.aO)
 have FG:=sj e.dep hB.box hB.AB hB.Nx
 have PF:(ae ay e.dep.af).length=e.dep.af.length:=by rw [aG (e:=1) (fun _=>rfl)];omega
 have hh:=hB.AB
 by_cases c1:8≤g.aO.length
 ·have ce:xb g e=12:=if_pos c1
  rw [ce,if_neg aj]
  refine zO Tryz.func107 44<|zq<|zS<|zP 1 [yH [(2,{k:=g.aO.length})]] [.aa [11,5,4,3,2,0,1] [4,3,2]] [yI s9]<|gU 11 ((↑g.aO.length:Int)≥8)<|zP 1 [{}] [.aa [5,11,4,3,2,0,1] [4,3,2]] [yL 5 5]<|dn (bR)
 rcases ob g.aO e.dep.bZ with ⟨hf,hk⟩|⟨k,hf,hk,iH⟩
 case inr =>
  have ce:xb g e=10:=(if_neg c1).trans (if_pos aj)
  rw [ce,if_neg aj]
  rw [hk] at Cu
  refine zO Tryz.func107 44<|zq<|zS<|zP 1 [yH [(2,{k:=g.aO.length})]] [.aa [11,5,4,3,2,0,1] [4,3,2]] [yI s9]<|dt 11 ((↑g.aO.length:Int)≥8)<|a_<|zS<|zP 1 [yH [(4,yV (ai ↑k))]] [.aa [18,11,5,4,3,2,0,1] [4,3,2]] [yI Cu]<|gU 18 ((↑k:Int)≥0)<|zP 1 [{}] [.aa [5,18,11,4,3,2,0,1] [4,3,2]] [yL 5 5]<|dn (bR)
 have ce:xb g e=ff (sH g e.dep.af) e.dep.af.length:=(if_neg c1).trans (if_neg aj)
 rw [hk] at Cu
 generalize hE:xb g e=E at *
 generalize ta:(if E=0 then {g with aO:=g.aO++ [e.dep]} else g)=G
 refine zO Tryz.func107 44<|zq<|zS<|zP 1 [yH [(2,{k:=g.aO.length})]] [.aa [11,5,4,3,2,0,1] [4,3,2]] [yI s9]<|dt 11 ((↑g.aO.length:Int)≥8)<|a_<|zS<|zP 1 [yH [(4,yV (ai (-1:Int)))]] [.aa [18,11,5,4,3,2,0,1] [4,3,2]] [yI Cu]<|dt 18 ((-1:Int)≥0)<|a_<|zS<|zQ 1 [yH [(3,{k:=(ae ay e.dep.af).length})]] [yR ((ae ay e.dep.af).length)]<|zB 0 (zL (fun (i:Nat)=>(⟨[(23,ai (↑(ae ay e.dep.af).length:Int)),(22,AV.sl 1 (ae ay e.dep.af)),(18,ao (decide ((-1:Int)≥0))),(11,ao (decide ((↑g.aO.length:Int)≥8))),(4,AV.addr 4 0),(3,AV.addr 3 0),(2,AV.addr 2 0),(0,AV.agg (bQ g)),(1,AV.agg (a7 e)),(24,ai i)],[(4,⟨1,false,true,[ai 0,cQ,ai 0,AV.nil,AV.nil]⟩),(3,⟨1,false,true,(a7 e)⟩),(2,⟨1,false,true,List.map (aE 4) (List.map (aE 3) (List.map (aE 2) (bQ g)))⟩)]⟩:AS)) (fun i=>(i≤e.dep.af.length∧ff (sH g e.dep.af) i=0)) (fun i=>(e.dep.af.length-i)) (0) ?_ (zW [.aa [23,22,18,11,4,3,2,0,1,24] [4,3,2]]) ?_)
 ·exact ⟨aj,rfl⟩
 rintro i ⟨hi,h0⟩
 refine zq<|zS (zD 25 ((↑i:Int)<(↑(ae ay e.dep.af).length:Int)) (fun q=>?_) (fun q=>?_))
 ·have dM:i<e.dep.af.length:=aj
  have gN:=js dM
  have Em:=nJ g (e.dep.af.getD i default) aj
  rcases gH g.al (e.dep.af.getD i default) with hm|⟨k,hm,RG,-⟩
  ·have hs:sH g e.dep.af i=11:=if_pos aj
   have Qr:ff (sH g e.dep.af) (i+1)=11:=by show (if _ then _ else _)=_;rw [if_neg aj,hs]
   rw [lg aj Qr _ dM] at ce
   subst ce
   have ta:g=G:=by rw [←ta,if_neg aj]
   subst ta
   rw [hm] at Em
   refine a_<|zS<|zB 1<|zP 2 [yH [(0,{k:=i}),(1,yV (cF (e.dep.af.getD i default)))],yH [(2,yV (ai (-1:Int)))]] [.aa [31,7,25,23,22,18,11,4,3,2,0,1,24] [4,3,2]] [yR (↑i:Int),yO (i<(ae ay e.dep.af).length),yI gN,yI Em]<|gU 31 ((-1:Int)<0)<|zP 1 [{}] [.aa [5,31,7,25,23,22,18,11,4,3,2,0,1,24] [4,3,2]] [yL 5 5]<|zR<|a6<|aI<|de<|a6<|aI (bR)
  ·have hs:sH g e.dep.af i=0:=if_neg aj
   rw [hm] at Em
   refine a_<|zS<|zB 1<|zP 2 [yH [(0,{k:=i}),(1,yV (cF (e.dep.af.getD i default)))],yH [(2,yV (ai ↑k))]] [.aa [31,7,25,23,22,18,11,4,3,2,0,1,24] [4,3,2]] [yR (↑i:Int),yO (i<(ae ay e.dep.af).length),yI gN,yI Em]<|dt 31 ((↑k:Int)<0)<|zK<|aL<|aq<|zX (yH [(0,yV (ai ((↑i:Int)+1)))]) [yN ((↑i:Int)+1)] (aK (i+1) ⟨aj,by show (if _ then _ else _)=_;rw [if_neg aj,hs]⟩ aj (zW [.aa [23,22,18,11,4,3,2,0,1,24] [4,3,2]]))
 ·have ei:i=e.dep.af.length:=aj
  subst ei
  rw [h0] at ce
  subst ce
  have ta:(⟨g.aB,g.head,g.bA,g.al,g.aO++ [e.dep]⟩:gX)=G:=by rw [←ta,if_pos rfl]
  subst ta
  have s1:ae bg g.aO++bg e.dep=ae bg (g.aO++ [e.dep]):=fZ _ _
  refine zE 0<|ba<|aS<|br<|aq<|zP 2 [{hs:=[(2,{av:=some (AV.pf 7 (ae bg g.aO)),b:=false}),(5,{av:=some (AV.agg [aw e.dep.bZ,aw e.dep.peer,AV.own 1 (ag e.dep.box),AV.own 1 (ae ay e.dep.af),AV.own 1 (ah e.dep.au),ai e.dep.need,aw e.dep.target]),b:=false}),(7,yV (AV.arr (ae bg (g.aO++ [e.dep]))))],T:=5},{}] [.aa [5,41,25,23,22,18,11,4,3,2,0,1,24] [4,2,41,40,3]] [yI gm,yI FG,yI s1,yO (((ae bg g.aO).length+7)*104≤985162418487296),yB (0<7) (Nat.le_of_ble_eq_true rfl),yL 5 5,yL 5 5]<|bf.sU [.gP 41] bk<|zR (bR)
end Go.Proofs.YtjgbhhnghedgdaaGreatDoor
