import Derived.Test.YtjgbhhnghedgdaaGreatDoorZvGrC2
import Derived.Test.YtjgbhhnghedgdaaGreatDoorZvGr3a
set_option linter.all false
namespace Go.Proofs.YtjgbhhnghedgdaaGreatDoor
open Go.RowKit
set_option maxRecDepth 100000
set_option maxHeartbeats 4000000
theorem Gz (d:nH) (p:UInt64):bG Tryz.prog 155 [.agg (bj d),.ptr [aw p] 0] (ao (d.bV == p)):=by
 refine zO Tryz.func155 8<|zP 2 [{},yH [(3,yV (ao (d.bV == p)))]] [.aa [3,2,0,1] [2]] [yI (fe d.bV p)]<|zR (bP)
theorem B0 (l:List nH) (p:UInt64) (Au:l.length≤1000000):bG Tryz.prog 154 [.sl 7 (af bj l),.mI 155 [.ptr [aw p] 0]] (ai (D0 l p)):=by
 have hl:(af bj l).length=l.length*7:=aE (e:=7) (fun _=>rfl) ..
 refine zO Tryz.func154 19<|zq<|zS<|zQ 1 [yH [(1,{k:=l.length})]] [yI hl]<|zB 0 (zL (fun (i:Nat)=>(⟨[(7,ai (↑l.length:Int)),(0,AV.sl 7 (af bj l)),(1,AV.mI 155 [AV.ptr [aw p] 0]),(8,ai i)],[]⟩:AS)) (fun i=>(i≤l.length∧ ∀j,j<i->(l.getD j default).bV≠p)) (fun i=>(l.length-i)) (0) ?_ (zW [.aa [7,0,1,8] []]) ?_)
 ·exact ⟨ag,ag⟩
 rintro i ⟨hi,gr⟩
 refine zq<|zS (zD 9 ((↑i:Int)<(↑l.length:Int)) (fun g=>?_) (fun g=>?_))
 ·have dI:i<l.length:=ag
  have hc:=Gz (l.getD i default) p
  by_cases e:(l.getD i default).bV=p
  ·have hf:=Jz dI gr e
   refine a_<|zS<|zB 1<|zP 2 [{},yH [(3,{k:=i}),(4,yV (AV.agg (bj (l.getD i default)))),(5,yC hc)]] [.aa [16,5,9,7,0,1,8] []] [yR (↑i:Int),yO (i*7<(af bj l).length),yu bj l i 0 7,yR 7,yI hc]<|dB 16 ((l.getD i default).bV == p) eJ<|zq<|zR<|bc<|aK<|dN<|bc<|aK (zV [yJ (↑i:Int) (D0 l p) (by unfold D0;rw [hf,if_pos dI])])
  ·skip
   refine a_<|zS<|zB 1<|zP 2 [{},yH [(3,{k:=i}),(4,yV (AV.agg (bj (l.getD i default)))),(5,yC hc)]] [.aa [16,5,9,7,0,1,8] []] [yR (↑i:Int),yO (i*7<(af bj l).length),yu bj l i 0 7,yR 7,yI hc]<|bk 16 ((l.getD i default).bV == p) bD<|zK<|aJ<|al<|zX (yH [(0,yV (ai ((↑i:Int)+1)))]) [yN ((↑i:Int)+1)] (aH (i+1) ⟨ag,fun j hj=>by by_cases e2:j=i;(subst e2;exact e);exact gr j ag⟩ ag (zW [.aa [7,0,1,8] []]))
 ·have hf:=Jy (l:=l) (p:=p) (fun j hj=>gr j ag)
  refine zE 0<|a6<|aM<|bm<|al<|zq<|zR (zV [yJ (-1:Int) (D0 l p) (by unfold D0;rw [hf,if_neg (Nat.lt_irrefl _)])])
theorem B1 (g:ig) (p:UInt64) (Au:g.aU.length≤1000000):bG Tryz.prog 108 [.agg (dA g),aw p] (ai (D0 g.aU p)):=by
 refine zO Tryz.func108 9<|zP 2 [{},yH [(3,yV (ai (D0 g.aU p)))]] [.aa [4,3,2,0,1] [2]] [yI (B0 g.aU p Au)]<|zR (bP)
theorem D9 (l:List nH) (hl:l.length≤1000000):bG Tryz.prog 109 [.sl 7 (af bj l)] (.own 7 (af bj l)):=by
 have ud:(af bj l).length=l.length*7:=aE (e:=7) (fun _=>rfl) ..
 refine zO Tryz.func109 8<|zq<|zS<|zS<|bg.isNil (t:=39) (el:=29) (x:=.tmp 0) (d1:=3) (d2:=4) (e:=7) (row:=af bj l) bu bu bu bu bu bu bu Tryz.underlying39 bu bu bu fun b hb=>al ?_
 cases b with
 | true =>
  have e:=hb rfl
  refine zT 4<|zq<|dC (zV [yI e])
 | false =>
  refine zF 4<|a_<|zP 1 [yH [(2,{b:=false})]] [.aa [2,4,0] [7]] [yB (cp (af bj l)) (dm (fun x=>dr rfl) _),yO ((0+(af bj l).length)*104≤985162418487296)]<|zR (bP)
def G9 (g:ig) (e:fC):ig:=⟨g.aC,g.head,if 2*g.bA≤g.aq.length+1 then g.bA+1 else g.bA,g.aq++ [⟨e.name,e.kh,e.kr,0⟩],g.aU⟩
def Cq (g:ig) (e:fC):Int:=if 0≤dZ g.aq e.name then 10 else if 8≤g.aq.length then 12 else 0
theorem Jv (g:ig) (e:fC) (hG:ry g):bG Tryz.prog 105 [.agg (dA g),.agg (bf e)] (.cw [.agg (dA (if Cq g e=0 then G9 g e else g)),ai (Cq g e)]):=by
 obtain ⟨-,-,g3,g4,g5,-⟩:=hG
 have nG:(af aT g.aq).length=g.aq.length*4:=aE (e:=4) (fun _=>rfl) ..
 have jL:=oq g e.name ag
 have fi:=Kd (af aT g.aq)
 rcases gU g.aq e.name with hk|⟨k,hk,iY,QD⟩
 case inr =>
  have ce:Cq g e=10:=if_pos ag
  rw [ce,if_neg ag]
  rw [hk] at jL
  refine zO Tryz.func105 41<|zP 2 [{},yH [(2,{k:=g.aq.length})]] [.aa [6,5,4,3,2,0,1] [4,3,2]] [yI nG]<|zS<|zP 1 [yH [(3,yC jL)]] [.aa [14,6,5,4,3,2,0,1] [4,3,2]] [yI jL]<|iw 14 ((↑k:Int)≥0)<|zP 1 [{}] [.aa [5,14,6,4,3,2,0,1] [4,3,2]] [yL 5 5]<|dC (bP)
 have c1:¬0≤dZ g.aq e.name:=ag
 rw [hk] at jL
 by_cases c2:8≤g.aq.length
 ·have ce:Cq g e=12:=(if_neg c1).trans (if_pos c2)
  rw [ce,if_neg ag]
  refine zO Tryz.func105 41<|zP 2 [{},yH [(2,{k:=g.aq.length})]] [.aa [6,5,4,3,2,0,1] [4,3,2]] [yI nG]<|zS<|zP 1 [yH [(3,yC jL)]] [.aa [14,6,5,4,3,2,0,1] [4,3,2]] [yI jL]<|dF 14 ((-1:Int)≥0)<|a_<|zS<|zq<|iw 17 ((↑g.aq.length:Int)≥8)<|zP 1 [{}] [.aa [5,17,14,6,4,3,2,0,1] [4,3,2]] [yL 5 5]<|dC (bP)
 have ce:Cq g e=0:=(if_neg c1).trans (if_neg c2)
 rw [ce,if_pos rfl]
 have s1:af aT g.aq++aT ⟨e.name,e.kh,e.kr,0⟩=af aT (g.aq++ [⟨e.name,e.kh,e.kr,0⟩]):=fR _ _
 by_cases c:2*g.bA≤g.aq.length+1
 ·have cg:G9 g e=⟨g.aC,g.head,g.bA+1,g.aq++ [⟨e.name,e.kh,e.kr,0⟩],g.aU⟩:=by unfold G9;rw [if_pos c]
  rw [cg]
  refine zO Tryz.func105 41<|zP 2 [{},yH [(2,{k:=g.aq.length})]] [.aa [6,5,4,3,2,0,1] [4,3,2]] [yI nG]<|zS<|zP 1 [yH [(3,yC jL)]] [.aa [14,6,5,4,3,2,0,1] [4,3,2]] [yI jL]<|dF 14 ((-1:Int)≥0)<|a_<|zS<|zq<|dF 17 ((↑g.aq.length:Int)≥8)<|a_<|zP 1 [{hs:=[(2,yD fi),(9,yV (AV.arr (af aT (g.aq++ [Mem.mk e.name e.kh e.kr 0]))))],T:=9}] [.aa [17,14,6,5,4,3,2,0,1] [2,28,4,3]] [yI fi,yI s1,yO (((af aT g.aq).length+4)*40≤562949953421312),yB (0<4) (Nat.le_of_ble_eq_true rfl),yL 4 5]<|zS<|zP 1 [yH [(2,yV (ai ((2:Int)*g.bA))),(4,yV (ai ((↑g.aq.length:Int)+1)))]] [.aa [35,17,14,6,5,4,3,2,0,1] [2,28,4,3]] [yN ((2:Int)*g.bA),yN ((↑g.aq.length:Int)+1)]<|iw 35 ((2:Int)*g.bA≤(↑g.aq.length:Int)+1)<|zX (yH [(2,yV (ai (g.bA+1)))]) [yN (g.bA+1),yL 3 5]<|al<|zP 1 [{}] [.aa [5,35,17,14,6,4,3,2,0,1] [4,2,28,3]] [yL 5 5]<|bg.rz [.gR 28] bu<|zR (bP)
 ·have cg:G9 g e=⟨g.aC,g.head,g.bA,g.aq++ [⟨e.name,e.kh,e.kr,0⟩],g.aU⟩:=by unfold G9;rw [if_neg c]
  rw [cg]
  refine zO Tryz.func105 41<|zP 2 [{},yH [(2,{k:=g.aq.length})]] [.aa [6,5,4,3,2,0,1] [4,3,2]] [yI nG]<|zS<|zP 1 [yH [(3,yC jL)]] [.aa [14,6,5,4,3,2,0,1] [4,3,2]] [yI jL]<|dF 14 ((-1:Int)≥0)<|a_<|zS<|zq<|dF 17 ((↑g.aq.length:Int)≥8)<|a_<|zP 1 [{hs:=[(2,yD fi),(9,yV (AV.arr (af aT (g.aq++ [Mem.mk e.name e.kh e.kr 0]))))],T:=9}] [.aa [17,14,6,5,4,3,2,0,1] [2,28,4,3]] [yI fi,yI s1,yO (((af aT g.aq).length+4)*40≤562949953421312),yB (0<4) (Nat.le_of_ble_eq_true rfl),yL 4 5]<|zS<|zP 1 [yH [(2,yV (ai ((2:Int)*g.bA))),(4,yV (ai ((↑g.aq.length:Int)+1)))]] [.aa [35,17,14,6,5,4,3,2,0,1] [2,28,4,3]] [yN ((2:Int)*g.bA),yN ((↑g.aq.length:Int)+1)]<|dF 35 ((2:Int)*g.bA≤(↑g.aq.length:Int)+1)<|a_<|zP 1 [{}] [.aa [5,35,17,14,6,4,3,2,0,1] [4,2,28,3]] [yL 5 5]<|bg.rz [.gR 28] bu<|zR (bP)
def Bb (g:ig) (e:fC):Int:=if dZ g.aq e.name<0 then 11 else if (g.aq.length:Int)-1<g.bA then 41 else 0
theorem BT (g:ig) (e:fC) (hG:ry g):bG Tryz.prog 106 [.agg (dA g),.agg (bf e)] (.cw [.agg (dA (if Bb g e=0 then {g with aq:=q8 g.aq (dZ g.aq e.name).toNat} else g)),ai (Bb g e)]):=by
 obtain ⟨-,-,g3,g4,g5,-⟩:=hG
 have nG:(af aT g.aq).length=g.aq.length*4:=aE (e:=4) (fun _=>rfl) ..
 have jL:=oq g e.name ag
 rcases gU g.aq e.name with hk|⟨k,hk,iY,QD⟩
 ·have ce:Bb g e=11:=if_pos ag
  rw [ce,if_neg ag]
  rw [hk] at jL
  refine zO Tryz.func106 31<|zP 2 [{},yH [(3,yC jL)]] [.aa [6,5,4,3,2,0,1] [4,3,2]] [yI jL]<|zS<|zq<|iw 12 ((-1:Int)<0)<|zP 1 [{}] [.aa [5,12,6,4,3,2,0,1] [4,3,2]] [yL 5 5]<|dC (bP)
 have c1:¬dZ g.aq e.name<0:=ag
 by_cases c2:(g.aq.length:Int)-1<g.bA
 ·have ce:Bb g e=41:=(if_neg c1).trans (if_pos c2)
  rw [ce,if_neg ag]
  rw [hk] at jL
  refine zO Tryz.func106 31<|zP 2 [{},yH [(3,yC jL)]] [.aa [6,5,4,3,2,0,1] [4,3,2]] [yI jL]<|zS<|zq<|dF 12 ((↑k:Int)<0)<|a_<|zS<|zP 1 [yH [(4,{k:=g.aq.length}),(5,yV (ai ((↑g.aq.length:Int)-1)))]] [.aa [20,12,6,5,4,3,2,0,1] [4,3,2]] [yI nG,yN ((↑g.aq.length:Int)-1)]<|iw 20 (g.bA>(↑g.aq.length:Int)-1)<|zP 1 [{}] [.aa [5,20,12,6,4,3,2,0,1] [4,3,2]] [yL 5 5]<|dC (bP)
 have ce:Bb g e=0:=(if_neg c1).trans (if_neg c2)
 have hc:=vo g.aq ag
 have hd:=Cg g.aq k iY
 rw [ce,if_pos rfl,hk,Int.toNat_natCast]
 rw [hk] at jL
 refine zO Tryz.func106 31<|zP 2 [{},yH [(3,yC jL)]] [.aa [6,5,4,3,2,0,1] [4,3,2]] [yI jL]<|zS<|zq<|dF 12 ((↑k:Int)<0)<|a_<|zS<|zP 1 [yH [(4,{k:=g.aq.length}),(5,yV (ai ((↑g.aq.length:Int)-1)))]] [.aa [20,12,6,5,4,3,2,0,1] [4,3,2]] [yI nG,yN ((↑g.aq.length:Int)-1)]<|dF 20 (g.bA>(↑g.aq.length:Int)-1)<|a_<|zP 2 [yH [(2,yD hc),(5,yV (ai (↑(k+1):Int))),(6,yE [(24,5)] hd)],{}] [.aa [5,20,12,6,4,3,2,0,1] [4,2,28,3]] [yI hc,yB (ai (IntKind.i64.wrap ((↑k:Int)+1))=ai (↑(k+1):Int)) (eN ag ag),yI hd,yL 4 5,yL 5 5]<|bg.rz [.gR 28] bu<|zR (bP)
def yl (g:ig) (e:fC):Int:=if 8≤g.aU.length then 12 else if wP g.aU e.dep.bV<g.aU.length then 10 else ff (tK g e.dep.ae) e.dep.ae.length
theorem Dq (g:ig) (e:fC) (hG:ry g) (hB:Aq e.dep):bG Tryz.prog 107 [.agg (dA g),.agg (bf e)] (.cw [.agg (dA (if yl g e=0 then {g with aU:=g.aU++ [e.dep]} else g)),ai (yl g e)]):=by
 obtain ⟨-,-,g3,-,-,g6⟩:=hG
 have ue:(af bj g.aU).length=g.aU.length*7:=aE (e:=7) (fun _=>rfl) ..
 have nG:(af aT g.aq).length=g.aq.length*4:=aE (e:=4) (fun _=>rfl) ..
 have wO:=B1 g e.dep.bV ag
 have fi:=G3 (af bj g.aU)
 have xR:=oz e.dep hB.box hB.Cu hB.Q_
 have RM:(af ay e.dep.ae).length=e.dep.ae.length:=by rw [aE (e:=1) (fun _=>rfl)];omega
 have hh:=hB.Cu
 by_cases c1:8≤g.aU.length
 ·have ce:yl g e=12:=if_pos c1
  rw [ce,if_neg ag]
  refine zO Tryz.func107 44<|zq<|zS<|zP 1 [yH [(2,{k:=g.aU.length})]] [.aa [11,5,4,3,2,0,1] [4,3,2]] [yI ue]<|iw 11 ((↑g.aU.length:Int)≥8)<|zP 1 [{}] [.aa [5,11,4,3,2,0,1] [4,3,2]] [yL 5 5]<|dC (bP)
 rcases oV g.aU e.dep.bV with ⟨hf,hk⟩|⟨k,hf,hk,iY⟩
 case inr =>
  have ce:yl g e=10:=(if_neg c1).trans (if_pos ag)
  rw [ce,if_neg ag]
  rw [hk] at wO
  refine zO Tryz.func107 44<|zq<|zS<|zP 1 [yH [(2,{k:=g.aU.length})]] [.aa [11,5,4,3,2,0,1] [4,3,2]] [yI ue]<|dF 11 ((↑g.aU.length:Int)≥8)<|a_<|zS<|zP 1 [yH [(4,yC wO)]] [.aa [18,11,5,4,3,2,0,1] [4,3,2]] [yI wO]<|iw 18 ((↑k:Int)≥0)<|zP 1 [{}] [.aa [5,18,11,4,3,2,0,1] [4,3,2]] [yL 5 5]<|dC (bP)
 have ce:yl g e=ff (tK g e.dep.ae) e.dep.ae.length:=(if_neg c1).trans (if_neg ag)
 rw [hk] at wO
 generalize hE:yl g e=E at *
 generalize th:(if E=0 then {g with aU:=g.aU++ [e.dep]} else g)=G
 refine zO Tryz.func107 44<|zq<|zS<|zP 1 [yH [(2,{k:=g.aU.length})]] [.aa [11,5,4,3,2,0,1] [4,3,2]] [yI ue]<|dF 11 ((↑g.aU.length:Int)≥8)<|a_<|zS<|zP 1 [yH [(4,yC wO)]] [.aa [18,11,5,4,3,2,0,1] [4,3,2]] [yI wO]<|dF 18 ((-1:Int)≥0)<|a_<|zS<|zQ 1 [yH [(3,{k:=(af ay e.dep.ae).length})]] [yR ((af ay e.dep.ae).length)]<|zB 0 (zL (fun (i:Nat)=>(⟨[(23,ai (↑(af ay e.dep.ae).length:Int)),(22,AV.sl 1 (af ay e.dep.ae)),(18,ao (decide ((-1:Int)≥0))),(11,ao (decide ((↑g.aU.length:Int)≥8))),(4,AV.addr 4 0),(3,AV.addr 3 0),(2,AV.addr 2 0),(0,AV.agg (dA g)),(1,AV.agg (bf e)),(24,ai i)],[(4,⟨1,false,true,[ai 0,ez,ai 0,AV.nil,AV.nil]⟩),(3,⟨1,false,true,(bf e)⟩),(2,⟨1,false,true,List.map (aF 4) (List.map (aF 3) (List.map (aF 2) (dA g)))⟩)]⟩:AS)) (fun i=>(i≤e.dep.ae.length∧ff (tK g e.dep.ae) i=0)) (fun i=>(e.dep.ae.length-i)) (0) ?_ (zW [.aa [23,22,18,11,4,3,2,0,1,24] [4,3,2]]) ?_)
 ·exact ⟨ag,rfl⟩
 rintro i ⟨hi,h0⟩
 refine zq<|zS (zD 25 ((↑i:Int)<(↑(af ay e.dep.ae).length:Int)) (fun q=>?_) (fun q=>?_))
 ·have dI:i<e.dep.ae.length:=ag
  have gM:=i6 dI
  have xO:=oq g (e.dep.ae.getD i default) ag
  rcases gU g.aq (e.dep.ae.getD i default) with hm|⟨k,hm,S6,-⟩
  ·have hs:tK g e.dep.ae i=11:=if_pos ag
   have Rx:ff (tK g e.dep.ae) (i+1)=11:=by show (if _ then _ else _)=_;rw [if_neg ag,hs]
   rw [lN ag Rx _ dI] at ce
   subst ce
   have th:g=G:=by rw [←th,if_neg ag]
   subst th
   rw [hm] at xO
   refine a_<|zS<|zB 1<|zP 2 [yH [(0,{k:=i}),(1,yV (cV (e.dep.ae.getD i default)))],yH [(2,yC xO)]] [.aa [31,7,25,23,22,18,11,4,3,2,0,1,24] [4,3,2]] [yR (↑i:Int),yO (i<(af ay e.dep.ae).length),yI gM,yI xO]<|iw 31 ((-1:Int)<0)<|zP 1 [{}] [.aa [5,31,7,25,23,22,18,11,4,3,2,0,1,24] [4,3,2]] [yL 5 5]<|zR<|bc<|aK<|dN<|bc<|aK (bP)
  ·have hs:tK g e.dep.ae i=0:=if_neg ag
   rw [hm] at xO
   refine a_<|zS<|zB 1<|zP 2 [yH [(0,{k:=i}),(1,yV (cV (e.dep.ae.getD i default)))],yH [(2,yC xO)]] [.aa [31,7,25,23,22,18,11,4,3,2,0,1,24] [4,3,2]] [yR (↑i:Int),yO (i<(af ay e.dep.ae).length),yI gM,yI xO]<|dF 31 ((↑k:Int)<0)<|zK<|aJ<|al<|zX (yH [(0,yV (ai ((↑i:Int)+1)))]) [yN ((↑i:Int)+1)] (aH (i+1) ⟨ag,by show (if _ then _ else _)=_;rw [if_neg ag,hs]⟩ ag (zW [.aa [23,22,18,11,4,3,2,0,1,24] [4,3,2]]))
 ·have ei:i=e.dep.ae.length:=ag
  subst ei
  rw [h0] at ce
  subst ce
  have th:(⟨g.aC,g.head,g.bA,g.aq,g.aU++ [e.dep]⟩:ig)=G:=by rw [←th,if_pos rfl]
  subst th
  have s1:af bj g.aU++bj e.dep=af bj (g.aU++ [e.dep]):=fR _ _
  refine zE 0<|a6<|aM<|bm<|al<|zP 2 [{hs:=[(2,yD fi),(5,yD xR),(7,yV (AV.arr (af bj (g.aU++ [e.dep]))))],T:=5},{}] [.aa [5,41,25,23,22,18,11,4,3,2,0,1,24] [4,2,41,40,3]] [yI fi,yI xR,yI s1,yO (((af bj g.aU).length+7)*104≤985162418487296),yB (0<7) (Nat.le_of_ble_eq_true rfl),yL 5 5,yL 5 5]<|bg.rz [.gR 41] bu<|zR (bP)
end Go.Proofs.YtjgbhhnghedgdaaGreatDoor
