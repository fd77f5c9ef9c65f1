import Derived.Test.YtjgbhhnghedgdaaGreatDoorZmGrC2
import Derived.Test.YtjgbhhnghedgdaaGreatDoorZmGr3a
set_option linter.all false
namespace Go.Proofs.YtjgbhhnghedgdaaGreatDoor
open Go.RowKit
set_option maxRecDepth 100000
set_option maxHeartbeats 4000000
theorem Gr (d:np) (p:UInt64):bC Tryz.prog 155 [.agg (a_ d),.ptr [aw p] 0] (ao (d.bY == p)):=by
 refine zO Tryz.func155 8<|zP 2 [{},yH [(3,yV (ao (d.bY == p)))]] [.aa [3,2,0,1] [2]] [yI (fw d.bY p)]<|zR (bL)
theorem BL (l:List np) (p:UInt64) (vM:l.length≤1000000):bC Tryz.prog 154 [.sl 7 (ae a_ l),.kX 155 [.ptr [aw p] 0]] (ai (DR l p)):=by
 have hl:(ae a_ l).length=l.length*7:=aE (e:=7) (fun _=>rfl) ..
 refine zO Tryz.func154 19<|zq<|zS<|zQ 1 [yH [(1,{k:=l.length})]] [yI hl]<|zB 0 (zL (fun (i:Nat)=>(⟨[(7,ai (↑l.length:Int)),(0,AV.sl 7 (ae a_ l)),(1,AV.kX 155 [AV.ptr [aw p] 0]),(8,ai i)],[]⟩:AS)) (fun i=>(i≤l.length∧ ∀j,j<i->(l.getD j default).bY≠p)) (fun i=>(l.length-i)) (0) ?_ (zW [.aa [7,0,1,8] []]) ?_)
 ·exact ⟨ah,ah⟩
 rintro i ⟨hi,fM⟩
 refine zq<|zS (zD 9 ((↑i:Int)<(↑l.length:Int)) (fun g=>?_) (fun g=>?_))
 ·have cX:i<l.length:=ah
  have hc:=Gr (l.getD i default) p
  by_cases e:(l.getD i default).bY=p
  ·have hf:=Jm cX fM e
   refine aW<|zS<|zB 1<|zP 2 [{},yH [(3,{k:=i}),(4,yV (AV.agg (a_ (l.getD i default)))),(5,yV (ao ((l.getD i default).bY == p)))]] [.aa [16,5,9,7,0,1,8] []] [yR (↑i:Int),yO (i*7<(ae a_ l).length),yu a_ l i 0 7,yR 7,yI hc]<|dm 16 ((l.getD i default).bY == p) eg<|zq<|zR<|bc<|aN<|df<|bc<|aN (zV [yJ (↑i:Int) (DR l p) (by unfold DR;rw [hf,if_pos cX])])
  ·skip
   refine aW<|zS<|zB 1<|zP 2 [{},yH [(3,{k:=i}),(4,yV (AV.agg (a_ (l.getD i default)))),(5,yV (ao ((l.getD i default).bY == p)))]] [.aa [16,5,9,7,0,1,8] []] [yR (↑i:Int),yO (i*7<(ae a_ l).length),yu a_ l i 0 7,yR 7,yI hc]<|bj 16 ((l.getD i default).bY == p) bD<|zK<|aM<|ak<|zX (yH [(0,yV (ai ((↑i:Int)+1)))]) [yN ((↑i:Int)+1)] (aH (i+1) ⟨ah,fun j hj=>by by_cases e2:j=i;(subst e2;exact e);exact fM j ah⟩ ah (zW [.aa [7,0,1,8] []]))
 ·have hf:=Jl (l:=l) (p:=p) (fun j hj=>fM j ah)
  refine zE 0<|aS<|aK<|bg<|ak<|zq<|zR (zV [yJ (-1:Int) (DR l p) (by unfold DR;rw [hf,if_neg (Nat.lt_irrefl _)])])
theorem BM (g:gp) (p:UInt64) (vM:g.aL.length≤1000000):bC Tryz.prog 108 [.agg (bo g),aw p] (ai (DR g.aL p)):=by
 refine zO Tryz.func108 9<|zP 2 [{},yH [(3,yV (ai (DR g.aL p)))]] [.aa [4,3,2,0,1] [2]] [yI (BL g.aL p vM)]<|zR (bL)
theorem DW (l:List np) (hl:l.length≤1000000):bC Tryz.prog 109 [.sl 7 (ae a_ l)] (.own 7 (ae a_ l)):=by
 have oJ:(ae a_ l).length=l.length*7:=aE (e:=7) (fun _=>rfl) ..
 refine zO Tryz.func109 8<|zq<|zS<|zS<|bf.isNil (t:=39) (el:=29) (x:=.tmp 0) (d1:=3) (d2:=4) (e:=7) (row:=ae a_ l) bt bt bt bt bt bt bt Tryz.underlying39 bt bt bt fun b hb=>ak ?_
 cases b with
 | true =>
  have e:=hb rfl
  refine zT 4<|zq<|dd (zV [yI e])
 | false =>
  refine zF 4<|aW<|zP 1 [yH [(2,{b:=false})]] [.aa [2,4,0] [7]] [yB (cE (ae a_ l)) (dD (fun x=>dL rfl) _),yO ((0+(ae a_ l).length)*104≤985162418487296)]<|zR (bL)
def G3 (g:gp) (e:dP):gp:=⟨g.aA,g.head,if 2*g.br≤g.al.length+1 then g.br+1 else g.br,g.al++ [⟨e.name,e.kh,e.kr,0⟩],g.aL⟩
def Cb (g:gp) (e:dP):Int:=if 0≤dG g.al e.name then 10 else if 8≤g.al.length then 12 else 0
theorem Ji (g:gp) (e:dP) (hG:mj g):bC Tryz.prog 105 [.agg (bo g),.agg (aI e)] (.bk [.agg (bo (if Cb g e=0 then G3 g e else g)),ai (Cb g e)]):=by
 obtain ⟨-,-,g3,g4,g5,-⟩:=hG
 have ml:(ae aG g.al).length=g.al.length*4:=aE (e:=4) (fun _=>rfl) ..
 have nm:=nR g e.name ah
 have gF:=J0 (ae aG g.al)
 rcases gI g.al e.name with hk|⟨k,hk,iH,Qa⟩
 case inr =>
  have ce:Cb g e=10:=if_pos ah
  rw [ce,if_neg ah]
  rw [hk] at nm
  refine zO Tryz.func105 41<|zP 2 [{},yH [(2,{k:=g.al.length})]] [.aa [6,5,4,3,2,0,1] [4,3,2]] [yI ml]<|zS<|zP 1 [yH [(3,yV (ai ↑k))]] [.aa [14,6,5,4,3,2,0,1] [4,3,2]] [yI nm]<|gN 14 ((↑k:Int)≥0)<|zP 1 [{}] [.aa [5,14,6,4,3,2,0,1] [4,3,2]] [yL 5 5]<|dd (bL)
 have c1:¬0≤dG g.al e.name:=ah
 rw [hk] at nm
 by_cases c2:8≤g.al.length
 ·have ce:Cb g e=12:=(if_neg c1).trans (if_pos c2)
  rw [ce,if_neg ah]
  refine zO Tryz.func105 41<|zP 2 [{},yH [(2,{k:=g.al.length})]] [.aa [6,5,4,3,2,0,1] [4,3,2]] [yI ml]<|zS<|zP 1 [yH [(3,yV (ai (-1:Int)))]] [.aa [14,6,5,4,3,2,0,1] [4,3,2]] [yI nm]<|dq 14 ((-1:Int)≥0)<|aW<|zS<|zq<|gN 17 ((↑g.al.length:Int)≥8)<|zP 1 [{}] [.aa [5,17,14,6,4,3,2,0,1] [4,3,2]] [yL 5 5]<|dd (bL)
 have ce:Cb g e=0:=(if_neg c1).trans (if_neg c2)
 rw [ce,if_pos rfl]
 have s1:ae aG g.al++aG ⟨e.name,e.kh,e.kr,0⟩=ae aG (g.al++ [⟨e.name,e.kh,e.kr,0⟩]):=fh _ _
 by_cases c:2*g.br≤g.al.length+1
 ·have cg:G3 g e=⟨g.aA,g.head,g.br+1,g.al++ [⟨e.name,e.kh,e.kr,0⟩],g.aL⟩:=by unfold G3;rw [if_pos c]
  rw [cg]
  refine zO Tryz.func105 41<|zP 2 [{},yH [(2,{k:=g.al.length})]] [.aa [6,5,4,3,2,0,1] [4,3,2]] [yI ml]<|zS<|zP 1 [yH [(3,yV (ai (-1:Int)))]] [.aa [14,6,5,4,3,2,0,1] [4,3,2]] [yI nm]<|dq 14 ((-1:Int)≥0)<|aW<|zS<|zq<|dq 17 ((↑g.al.length:Int)≥8)<|aW<|zP 1 [{hs:=[(2,{av:=some (AV.pC 4 (ae aG g.al)),b:=false}),(9,yV (AV.arr (ae aG (g.al++ [Mem.mk e.name e.kh e.kr 0]))))],T:=9}] [.aa [17,14,6,5,4,3,2,0,1] [2,28,4,3]] [yI gF,yI s1,yO (((ae aG g.al).length+4)*40≤562949953421312),yB (0<4) (Nat.le_of_ble_eq_true rfl),yL 4 5]<|zS<|zP 1 [yH [(2,yV (ai ((2:Int)*g.br))),(4,yV (ai ((↑g.al.length:Int)+1)))]] [.aa [35,17,14,6,5,4,3,2,0,1] [2,28,4,3]] [yN ((2:Int)*g.br),yN ((↑g.al.length:Int)+1)]<|gN 35 ((2:Int)*g.br≤(↑g.al.length:Int)+1)<|zX (yH [(2,yV (ai (g.br+1)))]) [yN (g.br+1),yL 3 5]<|ak<|zP 1 [{}] [.aa [5,35,17,14,6,4,3,2,0,1] [4,2,28,3]] [yL 5 5]<|bf.r9 [.gq 28] bt<|zR (bL)
 ·have cg:G3 g e=⟨g.aA,g.head,g.br,g.al++ [⟨e.name,e.kh,e.kr,0⟩],g.aL⟩:=by unfold G3;rw [if_neg c]
  rw [cg]
  refine zO Tryz.func105 41<|zP 2 [{},yH [(2,{k:=g.al.length})]] [.aa [6,5,4,3,2,0,1] [4,3,2]] [yI ml]<|zS<|zP 1 [yH [(3,yV (ai (-1:Int)))]] [.aa [14,6,5,4,3,2,0,1] [4,3,2]] [yI nm]<|dq 14 ((-1:Int)≥0)<|aW<|zS<|zq<|dq 17 ((↑g.al.length:Int)≥8)<|aW<|zP 1 [{hs:=[(2,{av:=some (AV.pC 4 (ae aG g.al)),b:=false}),(9,yV (AV.arr (ae aG (g.al++ [Mem.mk e.name e.kh e.kr 0]))))],T:=9}] [.aa [17,14,6,5,4,3,2,0,1] [2,28,4,3]] [yI gF,yI s1,yO (((ae aG g.al).length+4)*40≤562949953421312),yB (0<4) (Nat.le_of_ble_eq_true rfl),yL 4 5]<|zS<|zP 1 [yH [(2,yV (ai ((2:Int)*g.br))),(4,yV (ai ((↑g.al.length:Int)+1)))]] [.aa [35,17,14,6,5,4,3,2,0,1] [2,28,4,3]] [yN ((2:Int)*g.br),yN ((↑g.al.length:Int)+1)]<|dq 35 ((2:Int)*g.br≤(↑g.al.length:Int)+1)<|aW<|zP 1 [{}] [.aa [5,35,17,14,6,4,3,2,0,1] [4,2,28,3]] [yL 5 5]<|bf.r9 [.gq 28] bt<|zR (bL)
def AL (g:gp) (e:dP):Int:=if dG g.al e.name<0 then 11 else if (g.al.length:Int)-1<g.br then 41 else 0
theorem BE (g:gp) (e:dP) (hG:mj g):bC Tryz.prog 106 [.agg (bo g),.agg (aI e)] (.bk [.agg (bo (if AL g e=0 then {g with al:=pG g.al (dG g.al e.name).toNat} else g)),ai (AL g e)]):=by
 obtain ⟨-,-,g3,g4,g5,-⟩:=hG
 have ml:(ae aG g.al).length=g.al.length*4:=aE (e:=4) (fun _=>rfl) ..
 have nm:=nR g e.name ah
 rcases gI g.al e.name with hk|⟨k,hk,iH,Qa⟩
 ·have ce:AL g e=11:=if_pos ah
  rw [ce,if_neg ah]
  rw [hk] at nm
  refine zO Tryz.func106 31<|zP 2 [{},yH [(3,yV (ai (-1:Int)))]] [.aa [6,5,4,3,2,0,1] [4,3,2]] [yI nm]<|zS<|zq<|gN 12 ((-1:Int)<0)<|zP 1 [{}] [.aa [5,12,6,4,3,2,0,1] [4,3,2]] [yL 5 5]<|dd (bL)
 have c1:¬dG g.al e.name<0:=ah
 by_cases c2:(g.al.length:Int)-1<g.br
 ·have ce:AL g e=41:=(if_neg c1).trans (if_pos c2)
  rw [ce,if_neg ah]
  rw [hk] at nm
  refine zO Tryz.func106 31<|zP 2 [{},yH [(3,yV (ai ↑k))]] [.aa [6,5,4,3,2,0,1] [4,3,2]] [yI nm]<|zS<|zq<|dq 12 ((↑k:Int)<0)<|aW<|zS<|zP 1 [yH [(4,{k:=g.al.length}),(5,yV (ai ((↑g.al.length:Int)-1)))]] [.aa [20,12,6,5,4,3,2,0,1] [4,3,2]] [yI ml,yN ((↑g.al.length:Int)-1)]<|gN 20 (g.br>(↑g.al.length:Int)-1)<|zP 1 [{}] [.aa [5,20,12,6,4,3,2,0,1] [4,3,2]] [yL 5 5]<|dd (bL)
 have ce:AL g e=0:=(if_neg c1).trans (if_neg c2)
 have hc:=uF g.al ah
 have hd:=B1 g.al k iH
 rw [ce,if_pos rfl,hk,Int.toNat_natCast]
 rw [hk] at nm
 refine zO Tryz.func106 31<|zP 2 [{},yH [(3,yV (ai ↑k))]] [.aa [6,5,4,3,2,0,1] [4,3,2]] [yI nm]<|zS<|zq<|dq 12 ((↑k:Int)<0)<|aW<|zS<|zP 1 [yH [(4,{k:=g.al.length}),(5,yV (ai ((↑g.al.length:Int)-1)))]] [.aa [20,12,6,5,4,3,2,0,1] [4,3,2]] [yI ml,yN ((↑g.al.length:Int)-1)]<|dq 20 (g.br>(↑g.al.length:Int)-1)<|aW<|zP 2 [yH [(2,{av:=some (AV.own 4 (ae aG g.al)),b:=false}),(5,yV (ai (↑(k+1):Int))),(6,{av:=some (AV.own 4 (ae aG (pG g.al k))),ln:=[(24,5)],ho:=[(5,Row.mk 4 true false (ae aG []))]})],{}] [.aa [5,20,12,6,4,3,2,0,1] [4,2,28,3]] [yI hc,yB (ai (IntKind.i64.wrap ((↑k:Int)+1))=ai (↑(k+1):Int)) (dE ah ah),yI hd,yL 4 5,yL 5 5]<|bf.r9 [.gq 28] bt<|zR (bL)
def xI (g:gp) (e:dP):Int:=if 8≤g.aL.length then 12 else if vP g.aL e.dep.bY<g.aL.length then 10 else ff (sX g e.dep.af) e.dep.af.length
theorem Df (g:gp) (e:dP) (hG:mj g) (hB:zZ e.dep):bC Tryz.prog 107 [.agg (bo g),.agg (aI e)] (.bk [.agg (bo (if xI g e=0 then {g with aL:=g.aL++ [e.dep]} else g)),ai (xI g e)]):=by
 obtain ⟨-,-,g3,-,-,g6⟩:=hG
 have qQ:(ae a_ g.aL).length=g.aL.length*7:=aE (e:=7) (fun _=>rfl) ..
 have ml:(ae aG g.al).length=g.al.length*4:=aE (e:=4) (fun _=>rfl) ..
 have Dc:=BM g e.dep.bY ah
 have gF:=GU (ae a_ g.aL)
 have Gm:=sH e.dep hB.box hB.Bp hB.Rr
 have Rg:(ae ax e.dep.af).length=e.dep.af.length:=by rw [aE (e:=1) (fun _=>rfl)];omega
 have hh:=hB.Bp
 by_cases c1:8≤g.aL.length
 ·have ce:xI g e=12:=if_pos c1
  rw [ce,if_neg ah]
  refine zO Tryz.func107 44<|zq<|zS<|zP 1 [yH [(2,{k:=g.aL.length})]] [.aa [11,5,4,3,2,0,1] [4,3,2]] [yI qQ]<|gN 11 ((↑g.aL.length:Int)≥8)<|zP 1 [{}] [.aa [5,11,4,3,2,0,1] [4,3,2]] [yL 5 5]<|dd (bL)
 rcases oq g.aL e.dep.bY with ⟨hf,hk⟩|⟨k,hf,hk,iH⟩
 case inr =>
  have ce:xI g e=10:=(if_neg c1).trans (if_pos ah)
  rw [ce,if_neg ah]
  rw [hk] at Dc
  refine zO Tryz.func107 44<|zq<|zS<|zP 1 [yH [(2,{k:=g.aL.length})]] [.aa [11,5,4,3,2,0,1] [4,3,2]] [yI qQ]<|dq 11 ((↑g.aL.length:Int)≥8)<|aW<|zS<|zP 1 [yH [(4,yV (ai ↑k))]] [.aa [18,11,5,4,3,2,0,1] [4,3,2]] [yI Dc]<|gN 18 ((↑k:Int)≥0)<|zP 1 [{}] [.aa [5,18,11,4,3,2,0,1] [4,3,2]] [yL 5 5]<|dd (bL)
 have ce:xI g e=ff (sX g e.dep.af) e.dep.af.length:=(if_neg c1).trans (if_neg ah)
 rw [hk] at Dc
 generalize hE:xI g e=E at *
 generalize tr:(if E=0 then {g with aL:=g.aL++ [e.dep]} else g)=G
 refine zO Tryz.func107 44<|zq<|zS<|zP 1 [yH [(2,{k:=g.aL.length})]] [.aa [11,5,4,3,2,0,1] [4,3,2]] [yI qQ]<|dq 11 ((↑g.aL.length:Int)≥8)<|aW<|zS<|zP 1 [yH [(4,yV (ai (-1:Int)))]] [.aa [18,11,5,4,3,2,0,1] [4,3,2]] [yI Dc]<|dq 18 ((-1:Int)≥0)<|aW<|zS<|zQ 1 [yH [(3,{k:=(ae ax e.dep.af).length})]] [yR ((ae ax e.dep.af).length)]<|zB 0 (zL (fun (i:Nat)=>(⟨[(23,ai (↑(ae ax e.dep.af).length:Int)),(22,AV.sl 1 (ae ax e.dep.af)),(18,ao (decide ((-1:Int)≥0))),(11,ao (decide ((↑g.aL.length:Int)≥8))),(4,AV.addr 4 0),(3,AV.addr 3 0),(2,AV.addr 2 0),(0,AV.agg (bo g)),(1,AV.agg (aI e)),(24,ai i)],[(4,⟨1,false,true,[ai 0,cN,ai 0,AV.nil,AV.nil]⟩),(3,⟨1,false,true,(aI e)⟩),(2,⟨1,false,true,List.map (aB 4) (List.map (aB 3) (List.map (aB 2) (bo g)))⟩)]⟩:AS)) (fun i=>(i≤e.dep.af.length∧ff (sX g e.dep.af) i=0)) (fun i=>(e.dep.af.length-i)) (0) ?_ (zW [.aa [23,22,18,11,4,3,2,0,1,24] [4,3,2]]) ?_)
 ·exact ⟨ah,rfl⟩
 rintro i ⟨hi,h0⟩
 refine zq<|zS (zD 25 ((↑i:Int)<(↑(ae ax e.dep.af).length:Int)) (fun q=>?_) (fun q=>?_))
 ·have cX:i<e.dep.af.length:=ah
  have gh:=ie cX
  have EY:=nR g (e.dep.af.getD i default) ah
  rcases gI g.al (e.dep.af.getD i default) with hm|⟨k,hm,Sj,-⟩
  ·have hs:sX g e.dep.af i=11:=if_pos ah
   have Q2:ff (sX g e.dep.af) (i+1)=11:=by show (if _ then _ else _)=_;rw [if_neg ah,hs]
   rw [jB ah Q2 _ cX] at ce
   subst ce
   have tr:g=G:=by rw [←tr,if_neg ah]
   subst tr
   rw [hm] at EY
   refine aW<|zS<|zB 1<|zP 2 [yH [(0,{k:=i}),(1,yV (cQ (e.dep.af.getD i default)))],yH [(2,yV (ai (-1:Int)))]] [.aa [31,7,25,23,22,18,11,4,3,2,0,1,24] [4,3,2]] [yR (↑i:Int),yO (i<(ae ax e.dep.af).length),yI gh,yI EY]<|gN 31 ((-1:Int)<0)<|zP 1 [{}] [.aa [5,31,7,25,23,22,18,11,4,3,2,0,1,24] [4,3,2]] [yL 5 5]<|zR<|bc<|aN<|df<|bc<|aN (bL)
  ·have hs:sX g e.dep.af i=0:=if_neg ah
   rw [hm] at EY
   refine aW<|zS<|zB 1<|zP 2 [yH [(0,{k:=i}),(1,yV (cQ (e.dep.af.getD i default)))],yH [(2,yV (ai ↑k))]] [.aa [31,7,25,23,22,18,11,4,3,2,0,1,24] [4,3,2]] [yR (↑i:Int),yO (i<(ae ax e.dep.af).length),yI gh,yI EY]<|dq 31 ((↑k:Int)<0)<|zK<|aM<|ak<|zX (yH [(0,yV (ai ((↑i:Int)+1)))]) [yN ((↑i:Int)+1)] (aH (i+1) ⟨ah,by show (if _ then _ else _)=_;rw [if_neg ah,hs]⟩ ah (zW [.aa [23,22,18,11,4,3,2,0,1,24] [4,3,2]]))
 ·have ei:i=e.dep.af.length:=ah
  subst ei
  rw [h0] at ce
  subst ce
  have tr:(⟨g.aA,g.head,g.br,g.al,g.aL++ [e.dep]⟩:gp)=G:=by rw [←tr,if_pos rfl]
  subst tr
  have s1:ae a_ g.aL++a_ e.dep=ae a_ (g.aL++ [e.dep]):=fh _ _
  refine zE 0<|aS<|aK<|bg<|ak<|zP 2 [{hs:=[(2,{av:=some (AV.pC 7 (ae a_ g.aL)),b:=false}),(5,{av:=some (AV.agg [aw e.dep.bY,aw e.dep.peer,AV.own 1 (ag e.dep.box),AV.own 1 (ae ax e.dep.af),AV.own 1 (aj e.dep.ay),ai e.dep.need,aw e.dep.target]),b:=false}),(7,yV (AV.arr (ae a_ (g.aL++ [e.dep]))))],T:=5},{}] [.aa [5,41,25,23,22,18,11,4,3,2,0,1,24] [4,2,41,40,3]] [yI gF,yI Gm,yI s1,yO (((ae a_ g.aL).length+7)*104≤985162418487296),yB (0<7) (Nat.le_of_ble_eq_true rfl),yL 5 5,yL 5 5]<|bf.r9 [.gq 41] bt<|zR (bL)
end Go.Proofs.YtjgbhhnghedgdaaGreatDoor
