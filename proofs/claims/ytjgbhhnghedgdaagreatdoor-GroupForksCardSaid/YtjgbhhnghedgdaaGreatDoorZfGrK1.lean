import Derived.Test.YtjgbhhnghedgdaaGreatDoorZfGrC2
import Derived.Test.YtjgbhhnghedgdaaGreatDoorZfGr3a
set_option linter.all false
namespace Go.Proofs.YtjgbhhnghedgdaaGreatDoor
open Go.RowKit
set_option maxRecDepth 100000
set_option maxHeartbeats 4000000
theorem Hi (d:oD) (p:UInt64):bA Tryz.prog 155 [.agg (bk d),.ptr [aw p] 0] (ao (d.cm == p)):=by
 refine zO Tryz.func155 8<|zP 2 [{},yH [(3,yV (ao (d.cm == p)))]] [.aa [3,2,0,1] [2]] [yI (fK d.cm p)]<|zR (bL)
theorem Cn (l:List oD) (p:UInt64) (xc:l.length≤1000000):bA Tryz.prog 154 [.sl 7 (ae bk l),.lu 155 [.ptr [aw p] 0]] (ai (EB l p)):=by
 have hl:(ae bk l).length=l.length*7:=aA (e:=7) (fun _=>rfl) ..
 refine zO Tryz.func154 19<|zq<|zS<|zQ 1 [yH [(1,{k:=l.length})]] [yI hl]<|zB 0 (zL (fun (i:Nat)=>(⟨[(7,ai (↑l.length:Int)),(0,AV.sl 7 (ae bk l)),(1,AV.lu 155 [AV.ptr [aw p] 0]),(8,ai i)],[]⟩:AS)) (fun i=>(i≤l.length∧ ∀j,j<i->(l.getD j default).cm≠p)) (fun i=>(l.length-i)) (0) ?_ (zW [.aa [7,0,1,8] []]) ?_)
 ·exact ⟨ag,ag⟩
 rintro i ⟨hi,fO⟩
 refine zq<|zS (zD 9 ((↑i:Int)<(↑l.length:Int)) (fun g=>?_) (fun g=>?_))
 ·have dc:i<l.length:=ag
  have hc:=Hi (l.getD i default) p
  by_cases e:(l.getD i default).cm=p
  ·have hf:=Kg dc fO e
   refine a6<|zS<|zB 1<|zP 2 [{},yH [(3,{k:=i}),(4,yV (AV.agg (bk (l.getD i default)))),(5,yC hc)]] [.aa [16,5,9,7,0,1,8] []] [yR (↑i:Int),yO (i*7<(ae bk l).length),yu bk l i 0 7,yR 7,yI hc]<|du 16 ((l.getD i default).cm == p) fh<|zq<|zR<|ba<|aI<|dh<|ba<|aI (zV [yJ (↑i:Int) (EB l p) (by unfold EB;rw [hf,if_pos dc])])
  ·skip
   refine a6<|zS<|zB 1<|zP 2 [{},yH [(3,{k:=i}),(4,yV (AV.agg (bk (l.getD i default)))),(5,yC hc)]] [.aa [16,5,9,7,0,1,8] []] [yR (↑i:Int),yO (i*7<(ae bk l).length),yu bk l i 0 7,yR 7,yI hc]<|bj 16 ((l.getD i default).cm == p) bx<|zK<|aK<|al<|zX (yH [(0,yV (ai ((↑i:Int)+1)))]) [yN ((↑i:Int)+1)] (aF (i+1) ⟨ag,fun j hj=>by by_cases e2:j=i;(subst e2;exact e);exact fO j ag⟩ ag (zW [.aa [7,0,1,8] []]))
 ·have hf:=Kf (l:=l) (p:=p) (fun j hj=>fO j ag)
  refine zE 0<|a7<|aP<|bp<|al<|zq<|zR (zV [yJ (-1:Int) (EB l p) (by unfold EB;rw [hf,if_neg (Nat.lt_irrefl _)])])
theorem Co (g:fG) (p:UInt64) (xc:g.aR.length≤1000000):bA Tryz.prog 108 [.agg (de g),aw p] (ai (EB g.aR p)):=by
 refine zO Tryz.func108 9<|zP 2 [{},yH [(3,yV (ai (EB g.aR p)))]] [.aa [4,3,2,0,1] [2]] [yI (Cn g.aR p xc)]<|zR (bL)
theorem EG (l:List oD) (hl:l.length≤1000000):bA Tryz.prog 109 [.sl 7 (ae bk l)] (.own 7 (ae bk l)):=by
 have tK:(ae bk l).length=l.length*7:=aA (e:=7) (fun _=>rfl) ..
 refine zO Tryz.func109 8<|zq<|zS<|zS<|bf.isNil (t:=39) (el:=29) (x:=.tmp 0) (d1:=3) (d2:=4) (e:=7) (row:=ae bk l) bC bC bC bC bC bC bC Tryz.underlying39 bC bC bC fun b hb=>al ?_
 cases b with
 | true =>
  have e:=hb rfl
  refine zT 4<|zq<|dk (zV [yI e])
 | false =>
  refine zF 4<|a6<|zP 1 [yH [(2,{b:=false})]] [.aa [2,4,0] [7]] [yB (cC (ae bk l)) (dJ (fun x=>dQ rfl) _),yO ((0+(ae bk l).length)*104≤985162418487296)]<|zR (bL)
def HP (g:fG) (e:dj):fG:=⟨g.aC,g.head,if 2*g.bm≤g.aq.length+1 then g.bm+1 else g.bm,g.aq++ [⟨e.name,e.kh,e.kr,0⟩],g.aR⟩
def CR (g:fG) (e:dj):Int:=if 0≤cT g.aq e.name then 10 else if 8≤g.aq.length then 12 else 0
theorem Kb (g:fG) (e:dj) (hG:ni g):bA Tryz.prog 105 [.agg (de g),.agg (aG e)] (.b_ [.agg (de (if CR g e=0 then HP g e else g)),ai (CR g e)]):=by
 obtain ⟨-,-,g3,g4,g5,-⟩:=hG
 have nF:(ae aN g.aq).length=g.aq.length*4:=aA (e:=4) (fun _=>rfl) ..
 have jL:=oi g e.name ag
 have gC:=KU (ae aN g.aq)
 rcases eN g.aq e.name with hk|⟨k,hk,gV,JT⟩
 case inr =>
  have ce:CR g e=10:=if_pos ag
  rw [ce,if_neg ag]
  rw [hk] at jL
  refine zO Tryz.func105 41<|zP 2 [{},yH [(2,{k:=g.aq.length})]] [.aa [6,5,4,3,2,0,1] [4,3,2]] [yI nF]<|zS<|zP 1 [yH [(3,yC jL)]] [.aa [14,6,5,4,3,2,0,1] [4,3,2]] [yI jL]<|gX 14 ((↑k:Int)≥0)<|zP 1 [{}] [.aa [5,14,6,4,3,2,0,1] [4,3,2]] [yL 5 5]<|dk (bL)
 have c1:¬0≤cT g.aq e.name:=ag
 rw [hk] at jL
 by_cases c2:8≤g.aq.length
 ·have ce:CR g e=12:=(if_neg c1).trans (if_pos c2)
  rw [ce,if_neg ag]
  refine zO Tryz.func105 41<|zP 2 [{},yH [(2,{k:=g.aq.length})]] [.aa [6,5,4,3,2,0,1] [4,3,2]] [yI nF]<|zS<|zP 1 [yH [(3,yC jL)]] [.aa [14,6,5,4,3,2,0,1] [4,3,2]] [yI jL]<|dm 14 ((-1:Int)≥0)<|a6<|zS<|zq<|gX 17 ((↑g.aq.length:Int)≥8)<|zP 1 [{}] [.aa [5,17,14,6,4,3,2,0,1] [4,3,2]] [yL 5 5]<|dk (bL)
 have ce:CR g e=0:=(if_neg c1).trans (if_neg c2)
 rw [ce,if_pos rfl]
 have s1:ae aN g.aq++aN ⟨e.name,e.kh,e.kr,0⟩=ae aN (g.aq++ [⟨e.name,e.kh,e.kr,0⟩]):=fS _ _
 by_cases c:2*g.bm≤g.aq.length+1
 ·have cg:HP g e=⟨g.aC,g.head,g.bm+1,g.aq++ [⟨e.name,e.kh,e.kr,0⟩],g.aR⟩:=by unfold HP;rw [if_pos c]
  rw [cg]
  refine zO Tryz.func105 41<|zP 2 [{},yH [(2,{k:=g.aq.length})]] [.aa [6,5,4,3,2,0,1] [4,3,2]] [yI nF]<|zS<|zP 1 [yH [(3,yC jL)]] [.aa [14,6,5,4,3,2,0,1] [4,3,2]] [yI jL]<|dm 14 ((-1:Int)≥0)<|a6<|zS<|zq<|dm 17 ((↑g.aq.length:Int)≥8)<|a6<|zP 1 [{hs:=[(2,yD gC),(9,yV (AV.arr (ae aN (g.aq++ [Mem.mk e.name e.kh e.kr 0]))))],T:=9}] [.aa [17,14,6,5,4,3,2,0,1] [2,28,4,3]] [yI gC,yI s1,yO (((ae aN g.aq).length+4)*40≤562949953421312),yB (0<4) (Nat.le_of_ble_eq_true rfl),yL 4 5]<|zS<|zP 1 [yH [(2,yV (ai ((2:Int)*g.bm))),(4,yV (ai ((↑g.aq.length:Int)+1)))]] [.aa [35,17,14,6,5,4,3,2,0,1] [2,28,4,3]] [yN ((2:Int)*g.bm),yN ((↑g.aq.length:Int)+1)]<|gX 35 ((2:Int)*g.bm≤(↑g.aq.length:Int)+1)<|zX (yH [(2,yV (ai (g.bm+1)))]) [yN (g.bm+1),yL 3 5]<|al<|zP 1 [{}] [.aa [5,35,17,14,6,4,3,2,0,1] [4,2,28,3]] [yL 5 5]<|bf.tD [.gM 28] bC<|zR (bL)
 ·have cg:HP g e=⟨g.aC,g.head,g.bm,g.aq++ [⟨e.name,e.kh,e.kr,0⟩],g.aR⟩:=by unfold HP;rw [if_neg c]
  rw [cg]
  refine zO Tryz.func105 41<|zP 2 [{},yH [(2,{k:=g.aq.length})]] [.aa [6,5,4,3,2,0,1] [4,3,2]] [yI nF]<|zS<|zP 1 [yH [(3,yC jL)]] [.aa [14,6,5,4,3,2,0,1] [4,3,2]] [yI jL]<|dm 14 ((-1:Int)≥0)<|a6<|zS<|zq<|dm 17 ((↑g.aq.length:Int)≥8)<|a6<|zP 1 [{hs:=[(2,yD gC),(9,yV (AV.arr (ae aN (g.aq++ [Mem.mk e.name e.kh e.kr 0]))))],T:=9}] [.aa [17,14,6,5,4,3,2,0,1] [2,28,4,3]] [yI gC,yI s1,yO (((ae aN g.aq).length+4)*40≤562949953421312),yB (0<4) (Nat.le_of_ble_eq_true rfl),yL 4 5]<|zS<|zP 1 [yH [(2,yV (ai ((2:Int)*g.bm))),(4,yV (ai ((↑g.aq.length:Int)+1)))]] [.aa [35,17,14,6,5,4,3,2,0,1] [2,28,4,3]] [yN ((2:Int)*g.bm),yN ((↑g.aq.length:Int)+1)]<|dm 35 ((2:Int)*g.bm≤(↑g.aq.length:Int)+1)<|a6<|zP 1 [{}] [.aa [5,35,17,14,6,4,3,2,0,1] [4,2,28,3]] [yL 5 5]<|bf.tD [.gM 28] bC<|zR (bL)
def Bp (g:fG) (e:dj):Int:=if cT g.aq e.name<0 then 11 else if (g.aq.length:Int)-1<g.bm then 41 else 0
theorem Cf (g:fG) (e:dj) (hG:ni g):bA Tryz.prog 106 [.agg (de g),.agg (aG e)] (.b_ [.agg (de (if Bp g e=0 then {g with aq:=ke g.aq (cT g.aq e.name).toNat} else g)),ai (Bp g e)]):=by
 obtain ⟨-,-,g3,g4,g5,-⟩:=hG
 have nF:(ae aN g.aq).length=g.aq.length*4:=aA (e:=4) (fun _=>rfl) ..
 have jL:=oi g e.name ag
 rcases eN g.aq e.name with hk|⟨k,hk,gV,JT⟩
 ·have ce:Bp g e=11:=if_pos ag
  rw [ce,if_neg ag]
  rw [hk] at jL
  refine zO Tryz.func106 31<|zP 2 [{},yH [(3,yC jL)]] [.aa [6,5,4,3,2,0,1] [4,3,2]] [yI jL]<|zS<|zq<|gX 12 ((-1:Int)<0)<|zP 1 [{}] [.aa [5,12,6,4,3,2,0,1] [4,3,2]] [yL 5 5]<|dk (bL)
 have c1:¬cT g.aq e.name<0:=ag
 by_cases c2:(g.aq.length:Int)-1<g.bm
 ·have ce:Bp g e=41:=(if_neg c1).trans (if_pos c2)
  rw [ce,if_neg ag]
  rw [hk] at jL
  refine zO Tryz.func106 31<|zP 2 [{},yH [(3,yC jL)]] [.aa [6,5,4,3,2,0,1] [4,3,2]] [yI jL]<|zS<|zq<|dm 12 ((↑k:Int)<0)<|a6<|zS<|zP 1 [yH [(4,{k:=g.aq.length}),(5,yV (ai ((↑g.aq.length:Int)-1)))]] [.aa [20,12,6,5,4,3,2,0,1] [4,3,2]] [yI nF,yN ((↑g.aq.length:Int)-1)]<|gX 20 (g.bm>(↑g.aq.length:Int)-1)<|zP 1 [{}] [.aa [5,20,12,6,4,3,2,0,1] [4,3,2]] [yL 5 5]<|dk (bL)
 have ce:Bp g e=0:=(if_neg c1).trans (if_neg c2)
 have hc:=vn g.aq ag
 have hd:=CF g.aq k gV
 rw [ce,if_pos rfl,hk,Int.toNat_natCast]
 rw [hk] at jL
 refine zO Tryz.func106 31<|zP 2 [{},yH [(3,yC jL)]] [.aa [6,5,4,3,2,0,1] [4,3,2]] [yI jL]<|zS<|zq<|dm 12 ((↑k:Int)<0)<|a6<|zS<|zP 1 [yH [(4,{k:=g.aq.length}),(5,yV (ai ((↑g.aq.length:Int)-1)))]] [.aa [20,12,6,5,4,3,2,0,1] [4,3,2]] [yI nF,yN ((↑g.aq.length:Int)-1)]<|dm 20 (g.bm>(↑g.aq.length:Int)-1)<|a6<|zP 2 [yH [(2,yD hc),(5,yV (ai (↑(k+1):Int))),(6,yE [(24,5)] hd)],{}] [.aa [5,20,12,6,4,3,2,0,1] [4,2,28,3]] [yI hc,yB (ai (IntKind.i64.wrap ((↑k:Int)+1))=ai (↑(k+1):Int)) (eG ag ag),yI hd,yL 4 5,yL 5 5]<|bf.tD [.gM 28] bC<|zR (bL)
def yG (g:fG) (e:dj):Int:=if 8≤g.aR.length then 12 else if ug g.aR e.dep.cm<g.aR.length then 10 else ff (tO g e.dep.af) e.dep.af.length
theorem DY (g:fG) (e:dj) (hG:ni g) (hB:AG e.dep):bA Tryz.prog 107 [.agg (de g),.agg (aG e)] (.b_ [.agg (de (if yG g e=0 then {g with aR:=g.aR++ [e.dep]} else g)),ai (yG g e)]):=by
 obtain ⟨-,-,g3,-,-,g6⟩:=hG
 have ud:(ae bk g.aR).length=g.aR.length*7:=aA (e:=7) (fun _=>rfl) ..
 have nF:(ae aN g.aq).length=g.aq.length*4:=aA (e:=4) (fun _=>rfl) ..
 have wX:=Co g e.dep.cm ag
 have gC:=HJ (ae bk g.aR)
 have DW:=tw e.dep hB.box hB.CW hB.SD
 have Ss:(ae au e.dep.af).length=e.dep.af.length:=by rw [aA (e:=1) (fun _=>rfl)];omega
 have hh:=hB.CW
 by_cases c1:8≤g.aR.length
 ·have ce:yG g e=12:=if_pos c1
  rw [ce,if_neg ag]
  refine zO Tryz.func107 44<|zq<|zS<|zP 1 [yH [(2,{k:=g.aR.length})]] [.aa [11,5,4,3,2,0,1] [4,3,2]] [yI ud]<|gX 11 ((↑g.aR.length:Int)≥8)<|zP 1 [{}] [.aa [5,11,4,3,2,0,1] [4,3,2]] [yL 5 5]<|dk (bL)
 rcases oO g.aR e.dep.cm with ⟨hf,hk⟩|⟨k,hf,hk,gV⟩
 case inr =>
  have ce:yG g e=10:=(if_neg c1).trans (if_pos ag)
  rw [ce,if_neg ag]
  rw [hk] at wX
  refine zO Tryz.func107 44<|zq<|zS<|zP 1 [yH [(2,{k:=g.aR.length})]] [.aa [11,5,4,3,2,0,1] [4,3,2]] [yI ud]<|dm 11 ((↑g.aR.length:Int)≥8)<|a6<|zS<|zP 1 [yH [(4,yC wX)]] [.aa [18,11,5,4,3,2,0,1] [4,3,2]] [yI wX]<|gX 18 ((↑k:Int)≥0)<|zP 1 [{}] [.aa [5,18,11,4,3,2,0,1] [4,3,2]] [yL 5 5]<|dk (bL)
 have ce:yG g e=ff (tO g e.dep.af) e.dep.af.length:=(if_neg c1).trans (if_neg ag)
 rw [hk] at wX
 generalize hE:yG g e=E at *
 generalize uf:(if E=0 then {g with aR:=g.aR++ [e.dep]} else g)=G
 refine zO Tryz.func107 44<|zq<|zS<|zP 1 [yH [(2,{k:=g.aR.length})]] [.aa [11,5,4,3,2,0,1] [4,3,2]] [yI ud]<|dm 11 ((↑g.aR.length:Int)≥8)<|a6<|zS<|zP 1 [yH [(4,yC wX)]] [.aa [18,11,5,4,3,2,0,1] [4,3,2]] [yI wX]<|dm 18 ((-1:Int)≥0)<|a6<|zS<|zQ 1 [yH [(3,{k:=(ae au e.dep.af).length})]] [yR ((ae au e.dep.af).length)]<|zB 0 (zL (fun (i:Nat)=>(⟨[(23,ai (↑(ae au e.dep.af).length:Int)),(22,AV.sl 1 (ae au e.dep.af)),(18,ao (decide ((-1:Int)≥0))),(11,ao (decide ((↑g.aR.length:Int)≥8))),(4,AV.addr 4 0),(3,AV.addr 3 0),(2,AV.addr 2 0),(0,AV.agg (de g)),(1,AV.agg (aG e)),(24,ai i)],[(4,⟨1,false,true,[ai 0,dY,ai 0,AV.nil,AV.nil]⟩),(3,⟨1,false,true,(aG e)⟩),(2,⟨1,false,true,List.map (aH 4) (List.map (aH 3) (List.map (aH 2) (de g)))⟩)]⟩:AS)) (fun i=>(i≤e.dep.af.length∧ff (tO g e.dep.af) i=0)) (fun i=>(e.dep.af.length-i)) (0) ?_ (zW [.aa [23,22,18,11,4,3,2,0,1,24] [4,3,2]]) ?_)
 ·exact ⟨ag,rfl⟩
 rintro i ⟨hi,h0⟩
 refine zq<|zS (zD 25 ((↑i:Int)<(↑(ae au e.dep.af).length:Int)) (fun q=>?_) (fun q=>?_))
 ·have dc:i<e.dep.af.length:=ag
  have ic:=iZ dc
  have xX:=oi g (e.dep.af.getD i default) ag
  rcases eN g.aq (e.dep.af.getD i default) with hm|⟨k,hm,Ty,-⟩
  ·have hs:tO g e.dep.af i=11:=if_pos ag
   have Sf:ff (tO g e.dep.af) (i+1)=11:=by show (if _ then _ else _)=_;rw [if_neg ag,hs]
   rw [kz ag Sf _ dc] at ce
   subst ce
   have uf:g=G:=by rw [←uf,if_neg ag]
   subst uf
   rw [hm] at xX
   refine a6<|zS<|zB 1<|zP 2 [yH [(0,{k:=i}),(1,yV (di (e.dep.af.getD i default)))],yH [(2,yC xX)]] [.aa [31,7,25,23,22,18,11,4,3,2,0,1,24] [4,3,2]] [yR (↑i:Int),yO (i<(ae au e.dep.af).length),yI ic,yI xX]<|gX 31 ((-1:Int)<0)<|zP 1 [{}] [.aa [5,31,7,25,23,22,18,11,4,3,2,0,1,24] [4,3,2]] [yL 5 5]<|zR<|ba<|aI<|dh<|ba<|aI (bL)
  ·have hs:tO g e.dep.af i=0:=if_neg ag
   rw [hm] at xX
   refine a6<|zS<|zB 1<|zP 2 [yH [(0,{k:=i}),(1,yV (di (e.dep.af.getD i default)))],yH [(2,yC xX)]] [.aa [31,7,25,23,22,18,11,4,3,2,0,1,24] [4,3,2]] [yR (↑i:Int),yO (i<(ae au e.dep.af).length),yI ic,yI xX]<|dm 31 ((↑k:Int)<0)<|zK<|aK<|al<|zX (yH [(0,yV (ai ((↑i:Int)+1)))]) [yN ((↑i:Int)+1)] (aF (i+1) ⟨ag,by show (if _ then _ else _)=_;rw [if_neg ag,hs]⟩ ag (zW [.aa [23,22,18,11,4,3,2,0,1,24] [4,3,2]]))
 ·have ei:i=e.dep.af.length:=ag
  subst ei
  rw [h0] at ce
  subst ce
  have uf:(⟨g.aC,g.head,g.bm,g.aq,g.aR++ [e.dep]⟩:fG)=G:=by rw [←uf,if_pos rfl]
  subst uf
  have s1:ae bk g.aR++bk e.dep=ae bk (g.aR++ [e.dep]):=fS _ _
  refine zE 0<|a7<|aP<|bp<|al<|zP 2 [{hs:=[(2,yD gC),(5,yD DW),(7,yV (AV.arr (ae bk (g.aR++ [e.dep]))))],T:=5},{}] [.aa [5,41,25,23,22,18,11,4,3,2,0,1,24] [4,2,41,40,3]] [yI gC,yI DW,yI s1,yO (((ae bk g.aR).length+7)*104≤985162418487296),yB (0<7) (Nat.le_of_ble_eq_true rfl),yL 5 5,yL 5 5]<|bf.tD [.gM 41] bC<|zR (bL)
end Go.Proofs.YtjgbhhnghedgdaaGreatDoor
