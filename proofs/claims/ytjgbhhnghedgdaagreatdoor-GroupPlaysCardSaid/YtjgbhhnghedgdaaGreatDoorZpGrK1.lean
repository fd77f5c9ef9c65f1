import Derived.Test.YtjgbhhnghedgdaaGreatDoorZpGrC2
import Derived.Test.YtjgbhhnghedgdaaGreatDoorZpGr3a
set_option linter.all false
namespace Go.Proofs.YtjgbhhnghedgdaaGreatDoor
open Go.RowKit
set_option maxRecDepth 100000
set_option maxHeartbeats 4000000
theorem Fu (d:mU) (p:UInt64):bK Tryz.prog 155 [.agg (bg d),.ptr [aw p] 0] (ao (d.bF == p)):=by
 refine zO Tryz.func155 8<|zP 2 [{},yH [(3,yV (ao (d.bF == p)))]] [.aa [3,2,0,1] [2]] [yI (fm d.bF p)]<|zR (bU)
theorem AW (l:List mU) (p:UInt64) (yW:l.length≤1000000):bK Tryz.prog 154 [.sl 7 (af bg l),.lB 155 [.ptr [aw p] 0]] (ai (CZ l p)):=by
 have hl:(af bg l).length=l.length*7:=aE (e:=7) (fun _=>rfl) ..
 refine zO Tryz.func154 19<|zq<|zS<|zQ 1 [yH [(1,{k:=l.length})]] [yI hl]<|zB 0 (zL (fun (i:Nat)=>(⟨[(7,ai (↑l.length:Int)),(0,AV.sl 7 (af bg l)),(1,AV.lB 155 [AV.ptr [aw p] 0]),(8,ai i)],[]⟩:AS)) (fun i=>(i≤l.length∧ ∀j,j<i->(l.getD j default).bF≠p)) (fun i=>(l.length-i)) (0) ?_ (zW [.aa [7,0,1,8] []]) ?_)
 ·exact ⟨aj,aj⟩
 rintro i ⟨hi,gb⟩
 refine zq<|zS (zD 9 ((↑i:Int)<(↑l.length:Int)) (fun g=>?_) (fun g=>?_))
 ·have dD:i<l.length:=aj
  have hc:=Fu (l.getD i default) p
  by_cases e:(l.getD i default).bF=p
  ·have hf:=Iv dD gb e
   refine a7<|zS<|zB 1<|zP 2 [{},yH [(3,{k:=i}),(4,yV (AV.agg (bg (l.getD i default)))),(5,yV (ao ((l.getD i default).bF == p)))]] [.aa [16,5,9,7,0,1,8] []] [yR (↑i:Int),yO (i*7<(af bg l).length),yu bg l i 0 7,yR 7,yI hc]<|dr 16 ((l.getD i default).bF == p) fi<|zq<|zR<|bc<|aK<|dz<|bc<|aK (zV [yJ (↑i:Int) (CZ l p) (by unfold CZ;rw [hf,if_pos dD])])
  ·skip
   refine a7<|zS<|zB 1<|zP 2 [{},yH [(3,{k:=i}),(4,yV (AV.agg (bg (l.getD i default)))),(5,yV (ao ((l.getD i default).bF == p)))]] [.aa [16,5,9,7,0,1,8] []] [yR (↑i:Int),yO (i*7<(af bg l).length),yu bg l i 0 7,yR 7,yI hc]<|bj 16 ((l.getD i default).bF == p) bE<|zK<|aL<|ak<|zX (yH [(0,yV (ai ((↑i:Int)+1)))]) [yN ((↑i:Int)+1)] (aH (i+1) ⟨aj,fun j hj=>by by_cases e2:j=i;(subst e2;exact e);exact gb j aj⟩ aj (zW [.aa [7,0,1,8] []]))
 ·have hf:=Iu (l:=l) (p:=p) (fun j hj=>gb j aj)
  refine zE 0<|a_<|aP<|bo<|ak<|zq<|zR (zV [yJ (-1:Int) (CZ l p) (by unfold CZ;rw [hf,if_neg (Nat.lt_irrefl _)])])
theorem AX (g:gB) (p:UInt64) (yW:g.aJ.length≤1000000):bK Tryz.prog 108 [.agg (bV g),aw p] (ai (CZ g.aJ p)):=by
 refine zO Tryz.func108 9<|zP 2 [{},yH [(3,yV (ai (CZ g.aJ p)))]] [.aa [4,3,2,0,1] [2]] [yI (AW g.aJ p yW)]<|zR (bU)
theorem C7 (l:List mU) (hl:l.length≤1000000):bK Tryz.prog 109 [.sl 7 (af bg l)] (.own 7 (af bg l)):=by
 have sQ:(af bg l).length=l.length*7:=aE (e:=7) (fun _=>rfl) ..
 refine zO Tryz.func109 8<|zq<|zS<|zS<|bf.isNil (t:=39) (el:=29) (x:=.tmp 0) (d1:=3) (d2:=4) (e:=7) (row:=af bg l) bD bD bD bD bD bD bD Tryz.underlying39 bD bD bD fun b hb=>ak ?_
 cases b with
 | true =>
  have e:=hb rfl
  refine zT 4<|zq<|dt (zV [yI e])
 | false =>
  refine zF 4<|a7<|zP 1 [yH [(2,{b:=false})]] [.aa [2,4,0] [7]] [yB (cH (af bg l)) (dG (fun x=>dP rfl) _),yO ((0+(af bg l).length)*104≤985162418487296)]<|zR (bU)
def FX (g:gB) (e:fo):gB:=⟨g.aA,g.head,if 2*g.bt≤g.al.length+1 then g.bt+1 else g.bt,g.al++ [⟨e.name,e.kh,e.kr,0⟩],g.aJ⟩
def Bo (g:gB) (e:fo):Int:=if 0≤dC g.al e.name then 10 else if 8≤g.al.length then 12 else 0
theorem Iq (g:gB) (e:fo) (hG:nI g):bK Tryz.prog 105 [.agg (bV g),.agg (bX e)] (.br [.agg (bV (if Bo g e=0 then FX g e else g)),ai (Bo g e)]):=by
 obtain ⟨-,-,g3,g4,g5,-⟩:=hG
 have l0:(af aI g.al).length=g.al.length*4:=aE (e:=4) (fun _=>rfl) ..
 have mS:=nw g e.name aj
 have gC:=Jd (af aI g.al)
 rcases gG g.al e.name with hk|⟨k,hk,iF,Pr⟩
 case inr =>
  have ce:Bo g e=10:=if_pos aj
  rw [ce,if_neg aj]
  rw [hk] at mS
  refine zO Tryz.func105 41<|zP 2 [{},yH [(2,{k:=g.al.length})]] [.aa [6,5,4,3,2,0,1] [4,3,2]] [yI l0]<|zS<|zP 1 [yH [(3,yV (ai ↑k))]] [.aa [14,6,5,4,3,2,0,1] [4,3,2]] [yI mS]<|ib 14 ((↑k:Int)≥0)<|zP 1 [{}] [.aa [5,14,6,4,3,2,0,1] [4,3,2]] [yL 5 5]<|dt (bU)
 have c1:¬0≤dC g.al e.name:=aj
 rw [hk] at mS
 by_cases c2:8≤g.al.length
 ·have ce:Bo g e=12:=(if_neg c1).trans (if_pos c2)
  rw [ce,if_neg aj]
  refine zO Tryz.func105 41<|zP 2 [{},yH [(2,{k:=g.al.length})]] [.aa [6,5,4,3,2,0,1] [4,3,2]] [yI l0]<|zS<|zP 1 [yH [(3,yV (ai (-1:Int)))]] [.aa [14,6,5,4,3,2,0,1] [4,3,2]] [yI mS]<|dp 14 ((-1:Int)≥0)<|a7<|zS<|zq<|ib 17 ((↑g.al.length:Int)≥8)<|zP 1 [{}] [.aa [5,17,14,6,4,3,2,0,1] [4,3,2]] [yL 5 5]<|dt (bU)
 have ce:Bo g e=0:=(if_neg c1).trans (if_neg c2)
 rw [ce,if_pos rfl]
 have s1:af aI g.al++aI ⟨e.name,e.kh,e.kr,0⟩=af aI (g.al++ [⟨e.name,e.kh,e.kr,0⟩]):=gJ _ _
 by_cases c:2*g.bt≤g.al.length+1
 ·have cg:FX g e=⟨g.aA,g.head,g.bt+1,g.al++ [⟨e.name,e.kh,e.kr,0⟩],g.aJ⟩:=by unfold FX;rw [if_pos c]
  rw [cg]
  refine zO Tryz.func105 41<|zP 2 [{},yH [(2,{k:=g.al.length})]] [.aa [6,5,4,3,2,0,1] [4,3,2]] [yI l0]<|zS<|zP 1 [yH [(3,yV (ai (-1:Int)))]] [.aa [14,6,5,4,3,2,0,1] [4,3,2]] [yI mS]<|dp 14 ((-1:Int)≥0)<|a7<|zS<|zq<|dp 17 ((↑g.al.length:Int)≥8)<|a7<|zP 1 [{hs:=[(2,{av:=some (AV.pt 4 (af aI g.al)),b:=false}),(9,yV (AV.arr (af aI (g.al++ [Mem.mk e.name e.kh e.kr 0]))))],T:=9}] [.aa [17,14,6,5,4,3,2,0,1] [2,28,4,3]] [yI gC,yI s1,yO (((af aI g.al).length+4)*40≤562949953421312),yB (0<4) (Nat.le_of_ble_eq_true rfl),yL 4 5]<|zS<|zP 1 [yH [(2,yV (ai ((2:Int)*g.bt))),(4,yV (ai ((↑g.al.length:Int)+1)))]] [.aa [35,17,14,6,5,4,3,2,0,1] [2,28,4,3]] [yN ((2:Int)*g.bt),yN ((↑g.al.length:Int)+1)]<|ib 35 ((2:Int)*g.bt≤(↑g.al.length:Int)+1)<|zX (yH [(2,yV (ai (g.bt+1)))]) [yN (g.bt+1),yL 3 5]<|ak<|zP 1 [{}] [.aa [5,35,17,14,6,4,3,2,0,1] [4,2,28,3]] [yL 5 5]<|bf.rG [.gp 28] bD<|zR (bU)
 ·have cg:FX g e=⟨g.aA,g.head,g.bt,g.al++ [⟨e.name,e.kh,e.kr,0⟩],g.aJ⟩:=by unfold FX;rw [if_neg c]
  rw [cg]
  refine zO Tryz.func105 41<|zP 2 [{},yH [(2,{k:=g.al.length})]] [.aa [6,5,4,3,2,0,1] [4,3,2]] [yI l0]<|zS<|zP 1 [yH [(3,yV (ai (-1:Int)))]] [.aa [14,6,5,4,3,2,0,1] [4,3,2]] [yI mS]<|dp 14 ((-1:Int)≥0)<|a7<|zS<|zq<|dp 17 ((↑g.al.length:Int)≥8)<|a7<|zP 1 [{hs:=[(2,{av:=some (AV.pt 4 (af aI g.al)),b:=false}),(9,yV (AV.arr (af aI (g.al++ [Mem.mk e.name e.kh e.kr 0]))))],T:=9}] [.aa [17,14,6,5,4,3,2,0,1] [2,28,4,3]] [yI gC,yI s1,yO (((af aI g.al).length+4)*40≤562949953421312),yB (0<4) (Nat.le_of_ble_eq_true rfl),yL 4 5]<|zS<|zP 1 [yH [(2,yV (ai ((2:Int)*g.bt))),(4,yV (ai ((↑g.al.length:Int)+1)))]] [.aa [35,17,14,6,5,4,3,2,0,1] [2,28,4,3]] [yN ((2:Int)*g.bt),yN ((↑g.al.length:Int)+1)]<|dp 35 ((2:Int)*g.bt≤(↑g.al.length:Int)+1)<|a7<|zP 1 [{}] [.aa [5,35,17,14,6,4,3,2,0,1] [4,2,28,3]] [yL 5 5]<|bf.rG [.gp 28] bD<|zR (bU)
def zJ (g:gB) (e:fo):Int:=if dC g.al e.name<0 then 11 else if (g.al.length:Int)-1<g.bt then 41 else 0
theorem AL (g:gB) (e:fo) (hG:nI g):bK Tryz.prog 106 [.agg (bV g),.agg (bX e)] (.br [.agg (bV (if zJ g e=0 then {g with al:=pb g.al (dC g.al e.name).toNat} else g)),ai (zJ g e)]):=by
 obtain ⟨-,-,g3,g4,g5,-⟩:=hG
 have l0:(af aI g.al).length=g.al.length*4:=aE (e:=4) (fun _=>rfl) ..
 have mS:=nw g e.name aj
 rcases gG g.al e.name with hk|⟨k,hk,iF,Pr⟩
 ·have ce:zJ g e=11:=if_pos aj
  rw [ce,if_neg aj]
  rw [hk] at mS
  refine zO Tryz.func106 31<|zP 2 [{},yH [(3,yV (ai (-1:Int)))]] [.aa [6,5,4,3,2,0,1] [4,3,2]] [yI mS]<|zS<|zq<|ib 12 ((-1:Int)<0)<|zP 1 [{}] [.aa [5,12,6,4,3,2,0,1] [4,3,2]] [yL 5 5]<|dt (bU)
 have c1:¬dC g.al e.name<0:=aj
 by_cases c2:(g.al.length:Int)-1<g.bt
 ·have ce:zJ g e=41:=(if_neg c1).trans (if_pos c2)
  rw [ce,if_neg aj]
  rw [hk] at mS
  refine zO Tryz.func106 31<|zP 2 [{},yH [(3,yV (ai ↑k))]] [.aa [6,5,4,3,2,0,1] [4,3,2]] [yI mS]<|zS<|zq<|dp 12 ((↑k:Int)<0)<|a7<|zS<|zP 1 [yH [(4,{k:=g.al.length}),(5,yV (ai ((↑g.al.length:Int)-1)))]] [.aa [20,12,6,5,4,3,2,0,1] [4,3,2]] [yI l0,yN ((↑g.al.length:Int)-1)]<|ib 20 (g.bt>(↑g.al.length:Int)-1)<|zP 1 [{}] [.aa [5,20,12,6,4,3,2,0,1] [4,3,2]] [yL 5 5]<|dt (bU)
 have ce:zJ g e=0:=(if_neg c1).trans (if_neg c2)
 have hc:=uc g.al aj
 have hd:=Bd g.al k iF
 rw [ce,if_pos rfl,hk,Int.toNat_natCast]
 rw [hk] at mS
 refine zO Tryz.func106 31<|zP 2 [{},yH [(3,yV (ai ↑k))]] [.aa [6,5,4,3,2,0,1] [4,3,2]] [yI mS]<|zS<|zq<|dp 12 ((↑k:Int)<0)<|a7<|zS<|zP 1 [yH [(4,{k:=g.al.length}),(5,yV (ai ((↑g.al.length:Int)-1)))]] [.aa [20,12,6,5,4,3,2,0,1] [4,3,2]] [yI l0,yN ((↑g.al.length:Int)-1)]<|dp 20 (g.bt>(↑g.al.length:Int)-1)<|a7<|zP 2 [yH [(2,{av:=some (AV.own 4 (af aI g.al)),b:=false}),(5,yV (ai (↑(k+1):Int))),(6,{av:=some (AV.own 4 (af aI (pb g.al k))),ln:=[(24,5)],ho:=[(5,Row.mk 4 true false (af aI []))]})],{}] [.aa [5,20,12,6,4,3,2,0,1] [4,2,28,3]] [yI hc,yB (ai (IntKind.i64.wrap ((↑k:Int)+1))=ai (↑(k+1):Int)) (d_ aj aj),yI hd,yL 4 5,yL 5 5]<|bf.rG [.gp 28] bD<|zR (bU)
def wZ (g:gB) (e:fo):Int:=if 8≤g.aJ.length then 12 else if vi g.aJ e.dep.bF<g.aJ.length then 10 else ff (sv g e.dep.ae) e.dep.ae.length
theorem Cp (g:gB) (e:fo) (hG:nI g) (hB:yP e.dep):bK Tryz.prog 107 [.agg (bV g),.agg (bX e)] (.br [.agg (bV (if wZ g e=0 then {g with aJ:=g.aJ++ [e.dep]} else g)),ai (wZ g e)]):=by
 obtain ⟨-,-,g3,-,-,g6⟩:=hG
 have qt:(af bg g.aJ).length=g.aJ.length*7:=aE (e:=7) (fun _=>rfl) ..
 have l0:(af aI g.al).length=g.al.length*4:=aE (e:=4) (fun _=>rfl) ..
 have Cm:=AX g e.dep.bF aj
 have gC:=FQ (af bg g.aJ)
 have Fp:=r9 e.dep hB.box hB.F_ hB.QF
 have Qv:(af ay e.dep.ae).length=e.dep.ae.length:=by rw [aE (e:=1) (fun _=>rfl)];omega
 have hh:=hB.F_
 by_cases c1:8≤g.aJ.length
 ·have ce:wZ g e=12:=if_pos c1
  rw [ce,if_neg aj]
  refine zO Tryz.func107 44<|zq<|zS<|zP 1 [yH [(2,{k:=g.aJ.length})]] [.aa [11,5,4,3,2,0,1] [4,3,2]] [yI qt]<|ib 11 ((↑g.aJ.length:Int)≥8)<|zP 1 [{}] [.aa [5,11,4,3,2,0,1] [4,3,2]] [yL 5 5]<|dt (bU)
 rcases nS g.aJ e.dep.bF with ⟨hf,hk⟩|⟨k,hf,hk,iF⟩
 case inr =>
  have ce:wZ g e=10:=(if_neg c1).trans (if_pos aj)
  rw [ce,if_neg aj]
  rw [hk] at Cm
  refine zO Tryz.func107 44<|zq<|zS<|zP 1 [yH [(2,{k:=g.aJ.length})]] [.aa [11,5,4,3,2,0,1] [4,3,2]] [yI qt]<|dp 11 ((↑g.aJ.length:Int)≥8)<|a7<|zS<|zP 1 [yH [(4,yV (ai ↑k))]] [.aa [18,11,5,4,3,2,0,1] [4,3,2]] [yI Cm]<|ib 18 ((↑k:Int)≥0)<|zP 1 [{}] [.aa [5,18,11,4,3,2,0,1] [4,3,2]] [yL 5 5]<|dt (bU)
 have ce:wZ g e=ff (sv g e.dep.ae) e.dep.ae.length:=(if_neg c1).trans (if_neg aj)
 rw [hk] at Cm
 generalize hE:wZ g e=E at *
 generalize sS:(if E=0 then {g with aJ:=g.aJ++ [e.dep]} else g)=G
 refine zO Tryz.func107 44<|zq<|zS<|zP 1 [yH [(2,{k:=g.aJ.length})]] [.aa [11,5,4,3,2,0,1] [4,3,2]] [yI qt]<|dp 11 ((↑g.aJ.length:Int)≥8)<|a7<|zS<|zP 1 [yH [(4,yV (ai (-1:Int)))]] [.aa [18,11,5,4,3,2,0,1] [4,3,2]] [yI Cm]<|dp 18 ((-1:Int)≥0)<|a7<|zS<|zQ 1 [yH [(3,{k:=(af ay e.dep.ae).length})]] [yR ((af ay e.dep.ae).length)]<|zB 0 (zL (fun (i:Nat)=>(⟨[(23,ai (↑(af ay e.dep.ae).length:Int)),(22,AV.sl 1 (af ay e.dep.ae)),(18,ao (decide ((-1:Int)≥0))),(11,ao (decide ((↑g.aJ.length:Int)≥8))),(4,AV.addr 4 0),(3,AV.addr 3 0),(2,AV.addr 2 0),(0,AV.agg (bV g)),(1,AV.agg (bX e)),(24,ai i)],[(4,⟨1,false,true,[ai 0,dW,ai 0,AV.nil,AV.nil]⟩),(3,⟨1,false,true,(bX e)⟩),(2,⟨1,false,true,List.map (aR 4) (List.map (aR 3) (List.map (aR 2) (bV g)))⟩)]⟩:AS)) (fun i=>(i≤e.dep.ae.length∧ff (sv g e.dep.ae) i=0)) (fun i=>(e.dep.ae.length-i)) (0) ?_ (zW [.aa [23,22,18,11,4,3,2,0,1,24] [4,3,2]]) ?_)
 ·exact ⟨aj,rfl⟩
 rintro i ⟨hi,h0⟩
 refine zq<|zS (zD 25 ((↑i:Int)<(↑(af ay e.dep.ae).length:Int)) (fun q=>?_) (fun q=>?_))
 ·have dD:i<e.dep.ae.length:=aj
  have gT:=jn dD
  have D_:=nw g (e.dep.ae.getD i default) aj
  rcases gG g.al (e.dep.ae.getD i default) with hm|⟨k,hm,Rw,-⟩
  ·have hs:sv g e.dep.ae i=11:=if_pos aj
   have Qe:ff (sv g e.dep.ae) (i+1)=11:=by show (if _ then _ else _)=_;rw [if_neg aj,hs]
   rw [k9 aj Qe _ dD] at ce
   subst ce
   have sS:g=G:=by rw [←sS,if_neg aj]
   subst sS
   rw [hm] at D_
   refine a7<|zS<|zB 1<|zP 2 [yH [(0,{k:=i}),(1,yV (cZ (e.dep.ae.getD i default)))],yH [(2,yV (ai (-1:Int)))]] [.aa [31,7,25,23,22,18,11,4,3,2,0,1,24] [4,3,2]] [yR (↑i:Int),yO (i<(af ay e.dep.ae).length),yI gT,yI D_]<|ib 31 ((-1:Int)<0)<|zP 1 [{}] [.aa [5,31,7,25,23,22,18,11,4,3,2,0,1,24] [4,3,2]] [yL 5 5]<|zR<|bc<|aK<|dz<|bc<|aK (bU)
  ·have hs:sv g e.dep.ae i=0:=if_neg aj
   rw [hm] at D_
   refine a7<|zS<|zB 1<|zP 2 [yH [(0,{k:=i}),(1,yV (cZ (e.dep.ae.getD i default)))],yH [(2,yV (ai ↑k))]] [.aa [31,7,25,23,22,18,11,4,3,2,0,1,24] [4,3,2]] [yR (↑i:Int),yO (i<(af ay e.dep.ae).length),yI gT,yI D_]<|dp 31 ((↑k:Int)<0)<|zK<|aL<|ak<|zX (yH [(0,yV (ai ((↑i:Int)+1)))]) [yN ((↑i:Int)+1)] (aH (i+1) ⟨aj,by show (if _ then _ else _)=_;rw [if_neg aj,hs]⟩ aj (zW [.aa [23,22,18,11,4,3,2,0,1,24] [4,3,2]]))
 ·have ei:i=e.dep.ae.length:=aj
  subst ei
  rw [h0] at ce
  subst ce
  have sS:(⟨g.aA,g.head,g.bt,g.al,g.aJ++ [e.dep]⟩:gB)=G:=by rw [←sS,if_pos rfl]
  subst sS
  have s1:af bg g.aJ++bg e.dep=af bg (g.aJ++ [e.dep]):=gJ _ _
  refine zE 0<|a_<|aP<|bo<|ak<|zP 2 [{hs:=[(2,{av:=some (AV.pt 7 (af bg g.aJ)),b:=false}),(5,{av:=some (AV.agg [aw e.dep.bF,aw e.dep.peer,AV.own 1 (ag e.dep.box),AV.own 1 (af ay e.dep.ae),AV.own 1 (ah e.dep.au),ai e.dep.need,aw e.dep.target]),b:=false}),(7,yV (AV.arr (af bg (g.aJ++ [e.dep]))))],T:=5},{}] [.aa [5,41,25,23,22,18,11,4,3,2,0,1,24] [4,2,41,40,3]] [yI gC,yI Fp,yI s1,yO (((af bg g.aJ).length+7)*104≤985162418487296),yB (0<7) (Nat.le_of_ble_eq_true rfl),yL 5 5,yL 5 5]<|bf.rG [.gp 41] bD<|zR (bU)
end Go.Proofs.YtjgbhhnghedgdaaGreatDoor
