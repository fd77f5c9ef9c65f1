import Derived.Test.YtjgbhhnghedgdaaGreatDoorZsGrC2
import Derived.Test.YtjgbhhnghedgdaaGreatDoorZsGr3a
set_option linter.all false
namespace Go.Proofs.YtjgbhhnghedgdaaGreatDoor
open Go.RowKit
set_option maxRecDepth 100000
set_option maxHeartbeats 4000000
theorem Ff (d:nC) (p:UInt64):bK Tryz.prog 155 [.agg (bg d),.ptr [aw p] 0] (ao (d.cm == p)):=by
 refine zO Tryz.func155 8<|zP 2 [{},yH [(3,yV (ao (d.cm == p)))]] [.aa [3,2,0,1] [2]] [yI (fV d.cm p)]<|zR (cE)
theorem Ax (l:List nC) (p:UInt64) (A9:l.length≤1000000):bK Tryz.prog 154 [.sl 7 (af bg l),.lu 155 [.ptr [aw p] 0]] (ai (Jz l p)):=by
 have hl:(af bg l).length=l.length*7:=aG (e:=7) (fun _=>rfl) ..
 refine zO Tryz.func154 19<|zq<|zS<|zQ 1 [yH [(1,{k:=l.length})]] [yI hl]<|zB 0 (zL (fun (i:Nat)=>(⟨[(7,ai (↑l.length:Int)),(0,AV.sl 7 (af bg l)),(1,AV.lu 155 [AV.ptr [aw p] 0]),(8,ai i)],[]⟩:AS)) (fun i=>(i≤l.length∧ ∀j,j<i->(l.getD j default).cm≠p)) (fun i=>(l.length-i)) (0) ?_ (zW [.aa [7,0,1,8] []]) ?_)
 ·exact ⟨ah,ah⟩
 rintro i ⟨hi,gu⟩
 refine zq<|zS (zD 9 ((↑i:Int)<(↑l.length:Int)) (fun g=>?_) (fun g=>?_))
 ·have dM:i<l.length:=ah
  have hc:=Ff (l.getD i default) p
  by_cases e:(l.getD i default).cm=p
  ·have hf:=Nf dM gu e
   refine a8<|zS<|zB 1<|zP 2 [{},yH [(3,{k:=i}),(4,yV (AV.agg (bg (l.getD i default)))),(5,yV (ao ((l.getD i default).cm == p)))]] [.aa [16,5,9,7,0,1,8] []] [yR (↑i:Int),yO (i*7<(af bg l).length),yu bg l i 0 7,yR 7,yI hc]<|dQ 16 ((l.getD i default).cm == p) fX<|zq<|zR<|bl<|aW<|fD<|bl<|aW (zV [yJ (↑i:Int) (Jz l p) (by unfold Jz;rw [hf,if_pos dM])])
  ·skip
   refine a8<|zS<|zB 1<|zP 2 [{},yH [(3,{k:=i}),(4,yV (AV.agg (bg (l.getD i default)))),(5,yV (ao ((l.getD i default).cm == p)))]] [.aa [16,5,9,7,0,1,8] []] [yR (↑i:Int),yO (i*7<(af bg l).length),yu bg l i 0 7,yR 7,yI hc]<|bo 16 ((l.getD i default).cm == p) bR<|zK<|aM<|ak<|zX (yH [(0,yV (ai ((↑i:Int)+1)))]) [yN ((↑i:Int)+1)] (aI (i+1) ⟨ah,fun j hj=>by by_cases e2:j=i;(subst e2;exact e);exact gu j ah⟩ ah (zW [.aa [7,0,1,8] []]))
 ·have hf:=Nd (l:=l) (p:=p) (fun j hj=>gu j ah)
  refine zE 0<|aY<|aN<|bm<|ak<|zq<|zR (zV [yJ (-1:Int) (Jz l p) (by unfold Jz;rw [hf,if_neg (Nat.lt_irrefl _)])])
theorem Ay (g:fL) (p:UInt64) (A9:g.aF.length≤1000000):bK Tryz.prog 108 [.agg (bW g),aw p] (ai (Jz g.aF p)):=by
 refine zO Tryz.func108 9<|zP 2 [{},yH [(3,yV (ai (Jz g.aF p)))]] [.aa [4,3,2,0,1] [2]] [yI (Ax g.aF p A9)]<|zR (cE)
theorem CJ (l:List nC) (hl:l.length≤1000000):bK Tryz.prog 109 [.sl 7 (af bg l)] (.own 7 (af bg l)):=by
 have sI:(af bg l).length=l.length*7:=aG (e:=7) (fun _=>rfl) ..
 refine zO Tryz.func109 8<|zq<|zS<|zS<|a7.isNil (t:=39) (el:=29) (x:=.tmp 0) (d1:=3) (d2:=4) (e:=7) (row:=af bg l) bH bH bH bH bH bH bH Tryz.underlying39 bH bH bH fun b hb=>ak ?_
 cases b with
 | true =>
  have e:=hb rfl
  refine zT 4<|zq<|dW (zV [yI e])
 | false =>
  refine zF 4<|a8<|zP 1 [yH [(2,{b:=false})]] [.aa [2,4,0] [7]] [yB (dh (af bg l)) (hY (fun x=>ij rfl) _),yO ((0+(af bg l).length)*104≤985162418487296)]<|zR (cE)
def FJ (g:fL) (e:eK):fL:=⟨g.aC,g.head,if 2*g.bB≤g.al.length+1 then g.bB+1 else g.bB,g.al++ [⟨e.name,e.kh,e.kr,0⟩],g.aF⟩
def A4 (g:fL) (e:eK):Int:=if 0≤eS g.al e.name then 10 else if 8≤g.al.length then 12 else 0
theorem Ic (g:fL) (e:eK) (hG:oZ g):bK Tryz.prog 105 [.agg (bW g),.agg (bk e)] (.br [.agg (bW (if A4 g e=0 then FJ g e else g)),ai (A4 g e)]):=by
 obtain ⟨-,-,g3,g4,g5,-⟩:=hG
 have nj:(af aP g.al).length=g.al.length*4:=aG (e:=4) (fun _=>rfl) ..
 have si:=nq g e.name ah
 have gw:=I1 (af aP g.al)
 rcases fP g.al e.name with hk|⟨k,hk,iw,Jr⟩
 case inr =>
  have ce:A4 g e=10:=if_pos ah
  rw [ce,if_neg ah]
  rw [hk] at si
  refine zO Tryz.func105 41<|zP 2 [{},yH [(2,{k:=g.al.length})]] [.aa [6,5,4,3,2,0,1] [4,3,2]] [yI nj]<|zS<|zP 1 [yH [(3,yV (ai ↑k))]] [.aa [14,6,5,4,3,2,0,1] [4,3,2]] [yI si]<|jO 14 ((↑k:Int)≥0)<|zP 1 [{}] [.aa [5,14,6,4,3,2,0,1] [4,3,2]] [yL 5 5]<|dW (cE)
 have c1:¬0≤eS g.al e.name:=ah
 rw [hk] at si
 by_cases c2:8≤g.al.length
 ·have ce:A4 g e=12:=(if_neg c1).trans (if_pos c2)
  rw [ce,if_neg ah]
  refine zO Tryz.func105 41<|zP 2 [{},yH [(2,{k:=g.al.length})]] [.aa [6,5,4,3,2,0,1] [4,3,2]] [yI nj]<|zS<|zP 1 [yH [(3,yV (ai (-1:Int)))]] [.aa [14,6,5,4,3,2,0,1] [4,3,2]] [yI si]<|dK 14 ((-1:Int)≥0)<|a8<|zS<|zq<|jO 17 ((↑g.al.length:Int)≥8)<|zP 1 [{}] [.aa [5,17,14,6,4,3,2,0,1] [4,3,2]] [yL 5 5]<|dW (cE)
 have ce:A4 g e=0:=(if_neg c1).trans (if_neg c2)
 rw [ce,if_pos rfl]
 have s1:af aP g.al++aP ⟨e.name,e.kh,e.kr,0⟩=af aP (g.al++ [⟨e.name,e.kh,e.kr,0⟩]):=ja _ _
 by_cases c:2*g.bB≤g.al.length+1
 ·have cg:FJ g e=⟨g.aC,g.head,g.bB+1,g.al++ [⟨e.name,e.kh,e.kr,0⟩],g.aF⟩:=by unfold FJ;rw [if_pos c]
  rw [cg]
  refine zO Tryz.func105 41<|zP 2 [{},yH [(2,{k:=g.al.length})]] [.aa [6,5,4,3,2,0,1] [4,3,2]] [yI nj]<|zS<|zP 1 [yH [(3,yV (ai (-1:Int)))]] [.aa [14,6,5,4,3,2,0,1] [4,3,2]] [yI si]<|dK 14 ((-1:Int)≥0)<|a8<|zS<|zq<|dK 17 ((↑g.al.length:Int)≥8)<|a8<|zP 1 [{hs:=[(2,{av:=some (AV.o8 4 (af aP g.al)),b:=false}),(9,yV (AV.arr (af aP (g.al++ [Mem.mk e.name e.kh e.kr 0]))))],T:=9}] [.aa [17,14,6,5,4,3,2,0,1] [2,28,4,3]] [yI gw,yI s1,yO (((af aP g.al).length+4)*40≤562949953421312),yB (0<4) (Nat.le_of_ble_eq_true rfl),yL 4 5]<|zS<|zP 1 [yH [(2,yV (ai ((2:Int)*g.bB))),(4,yV (ai ((↑g.al.length:Int)+1)))]] [.aa [35,17,14,6,5,4,3,2,0,1] [2,28,4,3]] [yN ((2:Int)*g.bB),yN ((↑g.al.length:Int)+1)]<|jO 35 ((2:Int)*g.bB≤(↑g.al.length:Int)+1)<|zX (yH [(2,yV (ai (g.bB+1)))]) [yN (g.bB+1),yL 3 5]<|ak<|zP 1 [{}] [.aa [5,35,17,14,6,4,3,2,0,1] [4,2,28,3]] [yL 5 5]<|a7.su [.iR 28] bH<|zR (cE)
 ·have cg:FJ g e=⟨g.aC,g.head,g.bB,g.al++ [⟨e.name,e.kh,e.kr,0⟩],g.aF⟩:=by unfold FJ;rw [if_neg c]
  rw [cg]
  refine zO Tryz.func105 41<|zP 2 [{},yH [(2,{k:=g.al.length})]] [.aa [6,5,4,3,2,0,1] [4,3,2]] [yI nj]<|zS<|zP 1 [yH [(3,yV (ai (-1:Int)))]] [.aa [14,6,5,4,3,2,0,1] [4,3,2]] [yI si]<|dK 14 ((-1:Int)≥0)<|a8<|zS<|zq<|dK 17 ((↑g.al.length:Int)≥8)<|a8<|zP 1 [{hs:=[(2,{av:=some (AV.o8 4 (af aP g.al)),b:=false}),(9,yV (AV.arr (af aP (g.al++ [Mem.mk e.name e.kh e.kr 0]))))],T:=9}] [.aa [17,14,6,5,4,3,2,0,1] [2,28,4,3]] [yI gw,yI s1,yO (((af aP g.al).length+4)*40≤562949953421312),yB (0<4) (Nat.le_of_ble_eq_true rfl),yL 4 5]<|zS<|zP 1 [yH [(2,yV (ai ((2:Int)*g.bB))),(4,yV (ai ((↑g.al.length:Int)+1)))]] [.aa [35,17,14,6,5,4,3,2,0,1] [2,28,4,3]] [yN ((2:Int)*g.bB),yN ((↑g.al.length:Int)+1)]<|dK 35 ((2:Int)*g.bB≤(↑g.al.length:Int)+1)<|a8<|zP 1 [{}] [.aa [5,35,17,14,6,4,3,2,0,1] [4,2,28,3]] [yL 5 5]<|a7.su [.iR 28] bH<|zR (cE)
def zd (g:fL) (e:eK):Int:=if eS g.al e.name<0 then 11 else if (g.al.length:Int)-1<g.bB then 41 else 0
theorem Ao (g:fL) (e:eK) (hG:oZ g):bK Tryz.prog 106 [.agg (bW g),.agg (bk e)] (.br [.agg (bW (if zd g e=0 then {g with al:=mJ g.al (eS g.al e.name).toNat} else g)),ai (zd g e)]):=by
 obtain ⟨-,-,g3,g4,g5,-⟩:=hG
 have nj:(af aP g.al).length=g.al.length*4:=aG (e:=4) (fun _=>rfl) ..
 have si:=nq g e.name ah
 rcases fP g.al e.name with hk|⟨k,hk,iw,Jr⟩
 ·have ce:zd g e=11:=if_pos ah
  rw [ce,if_neg ah]
  rw [hk] at si
  refine zO Tryz.func106 31<|zP 2 [{},yH [(3,yV (ai (-1:Int)))]] [.aa [6,5,4,3,2,0,1] [4,3,2]] [yI si]<|zS<|zq<|jO 12 ((-1:Int)<0)<|zP 1 [{}] [.aa [5,12,6,4,3,2,0,1] [4,3,2]] [yL 5 5]<|dW (cE)
 have c1:¬eS g.al e.name<0:=ah
 by_cases c2:(g.al.length:Int)-1<g.bB
 ·have ce:zd g e=41:=(if_neg c1).trans (if_pos c2)
  rw [ce,if_neg ah]
  rw [hk] at si
  refine zO Tryz.func106 31<|zP 2 [{},yH [(3,yV (ai ↑k))]] [.aa [6,5,4,3,2,0,1] [4,3,2]] [yI si]<|zS<|zq<|dK 12 ((↑k:Int)<0)<|a8<|zS<|zP 1 [yH [(4,{k:=g.al.length}),(5,yV (ai ((↑g.al.length:Int)-1)))]] [.aa [20,12,6,5,4,3,2,0,1] [4,3,2]] [yI nj,yN ((↑g.al.length:Int)-1)]<|jO 20 (g.bB>(↑g.al.length:Int)-1)<|zP 1 [{}] [.aa [5,20,12,6,4,3,2,0,1] [4,3,2]] [yL 5 5]<|dW (cE)
 have ce:zd g e=0:=(if_neg c1).trans (if_neg c2)
 have hc:=tW g.al ah
 have hd:=AO g.al k iw
 rw [ce,if_pos rfl,hk,Int.toNat_natCast]
 rw [hk] at si
 refine zO Tryz.func106 31<|zP 2 [{},yH [(3,yV (ai ↑k))]] [.aa [6,5,4,3,2,0,1] [4,3,2]] [yI si]<|zS<|zq<|dK 12 ((↑k:Int)<0)<|a8<|zS<|zP 1 [yH [(4,{k:=g.al.length}),(5,yV (ai ((↑g.al.length:Int)-1)))]] [.aa [20,12,6,5,4,3,2,0,1] [4,3,2]] [yI nj,yN ((↑g.al.length:Int)-1)]<|dK 20 (g.bB>(↑g.al.length:Int)-1)<|a8<|zP 2 [yH [(2,{av:=some (AV.own 4 (af aP g.al)),b:=false}),(5,yV (ai (↑(k+1):Int))),(6,{av:=some (AV.own 4 (af aP (mJ g.al k))),ln:=[(24,5)],ho:=[(5,Row.mk 4 true false (af aP []))]})],{}] [.aa [5,20,12,6,4,3,2,0,1] [4,2,28,3]] [yI hc,yB (ai (IntKind.i64.wrap ((↑k:Int)+1))=ai (↑(k+1):Int)) (eZ ah ah),yI hd,yL 4 5,yL 5 5]<|a7.su [.iR 28] bH<|zR (cE)
def wO (g:fL) (e:eK):Int:=if 8≤g.aF.length then 12 else if uB g.aF e.dep.cm<g.aF.length then 10 else ff (B2 g e.dep.ae) e.dep.ae.length
theorem B4 (g:fL) (e:eK) (hG:oZ g) (hB:yh e.dep):bK Tryz.prog 107 [.agg (bW g),.agg (bk e)] (.br [.agg (bW (if wO g e=0 then {g with aF:=g.aF++ [e.dep]} else g)),ai (wO g e)]):=by
 obtain ⟨-,-,g3,-,-,g6⟩:=hG
 have sK:(af bg g.aF).length=g.aF.length*7:=aG (e:=7) (fun _=>rfl) ..
 have nj:(af aP g.al).length=g.al.length*4:=aG (e:=4) (fun _=>rfl) ..
 have Js:=Ay g e.dep.cm ah
 have gw:=FE (af bg g.aF)
 have Fb:=rW e.dep hB.box hB.HP hB.QI
 have LI:(af ay e.dep.ae).length=e.dep.ae.length:=by rw [aG (e:=1) (fun _=>rfl)];omega
 have hh:=hB.HP
 by_cases c1:8≤g.aF.length
 ·have ce:wO g e=12:=if_pos c1
  rw [ce,if_neg ah]
  refine zO Tryz.func107 44<|zq<|zS<|zP 1 [yH [(2,{k:=g.aF.length})]] [.aa [11,5,4,3,2,0,1] [4,3,2]] [yI sK]<|jO 11 ((↑g.aF.length:Int)≥8)<|zP 1 [{}] [.aa [5,11,4,3,2,0,1] [4,3,2]] [yL 5 5]<|dW (cE)
 rcases wx g.aF e.dep.cm with ⟨hf,hk⟩|⟨k,hf,hk,iw⟩
 case inr =>
  have ce:wO g e=10:=(if_neg c1).trans (if_pos ah)
  rw [ce,if_neg ah]
  rw [hk] at Js
  refine zO Tryz.func107 44<|zq<|zS<|zP 1 [yH [(2,{k:=g.aF.length})]] [.aa [11,5,4,3,2,0,1] [4,3,2]] [yI sK]<|dK 11 ((↑g.aF.length:Int)≥8)<|a8<|zS<|zP 1 [yH [(4,yV (ai ↑k))]] [.aa [18,11,5,4,3,2,0,1] [4,3,2]] [yI Js]<|jO 18 ((↑k:Int)≥0)<|zP 1 [{}] [.aa [5,18,11,4,3,2,0,1] [4,3,2]] [yL 5 5]<|dW (cE)
 have ce:wO g e=ff (B2 g e.dep.ae) e.dep.ae.length:=(if_neg c1).trans (if_neg ah)
 rw [hk] at Js
 generalize hE:wO g e=E at *
 generalize Of:(if E=0 then {g with aF:=g.aF++ [e.dep]} else g)=G
 refine zO Tryz.func107 44<|zq<|zS<|zP 1 [yH [(2,{k:=g.aF.length})]] [.aa [11,5,4,3,2,0,1] [4,3,2]] [yI sK]<|dK 11 ((↑g.aF.length:Int)≥8)<|a8<|zS<|zP 1 [yH [(4,yV (ai (-1:Int)))]] [.aa [18,11,5,4,3,2,0,1] [4,3,2]] [yI Js]<|dK 18 ((-1:Int)≥0)<|a8<|zS<|zQ 1 [yH [(3,{k:=(af ay e.dep.ae).length})]] [yR ((af ay e.dep.ae).length)]<|zB 0 (zL (fun (i:Nat)=>(⟨[(23,ai (↑(af ay e.dep.ae).length:Int)),(22,AV.sl 1 (af ay e.dep.ae)),(18,ao (decide ((-1:Int)≥0))),(11,ao (decide ((↑g.aF.length:Int)≥8))),(4,AV.addr 4 0),(3,AV.addr 3 0),(2,AV.addr 2 0),(0,AV.agg (bW g)),(1,AV.agg (bk e)),(24,ai i)],[(4,⟨1,false,true,[ai 0,eh,ai 0,AV.nil,AV.nil]⟩),(3,⟨1,false,true,(bk e)⟩),(2,⟨1,false,true,List.map (aQ 4) (List.map (aQ 3) (List.map (aQ 2) (bW g)))⟩)]⟩:AS)) (fun i=>(i≤e.dep.ae.length∧ff (B2 g e.dep.ae) i=0)) (fun i=>(e.dep.ae.length-i)) (0) ?_ (zW [.aa [23,22,18,11,4,3,2,0,1,24] [4,3,2]]) ?_)
 ·exact ⟨ah,rfl⟩
 rintro i ⟨hi,h0⟩
 refine zq<|zS (zD 25 ((↑i:Int)<(↑(af ay e.dep.ae).length:Int)) (fun q=>?_) (fun q=>?_))
 ·have dM:i<e.dep.ae.length:=ah
  have ix:=jV dM
  have Qp:=nq g (e.dep.ae.getD i default) ah
  rcases fP g.al (e.dep.ae.getD i default) with hm|⟨k,hm,Uw,-⟩
  ·have hs:B2 g e.dep.ae i=11:=if_pos ah
   have SR:ff (B2 g e.dep.ae) (i+1)=11:=by show (if _ then _ else _)=_;rw [if_neg ah,hs]
   rw [mn ah SR _ dM] at ce
   subst ce
   have Of:g=G:=by rw [←Of,if_neg ah]
   subst Of
   rw [hm] at Qp
   refine a8<|zS<|zB 1<|zP 2 [yH [(0,{k:=i}),(1,yV (dw (e.dep.ae.getD i default)))],yH [(2,yV (ai (-1:Int)))]] [.aa [31,7,25,23,22,18,11,4,3,2,0,1,24] [4,3,2]] [yR (↑i:Int),yO (i<(af ay e.dep.ae).length),yI ix,yI Qp]<|jO 31 ((-1:Int)<0)<|zP 1 [{}] [.aa [5,31,7,25,23,22,18,11,4,3,2,0,1,24] [4,3,2]] [yL 5 5]<|zR<|bl<|aW<|fD<|bl<|aW (cE)
  ·have hs:B2 g e.dep.ae i=0:=if_neg ah
   rw [hm] at Qp
   refine a8<|zS<|zB 1<|zP 2 [yH [(0,{k:=i}),(1,yV (dw (e.dep.ae.getD i default)))],yH [(2,yV (ai ↑k))]] [.aa [31,7,25,23,22,18,11,4,3,2,0,1,24] [4,3,2]] [yR (↑i:Int),yO (i<(af ay e.dep.ae).length),yI ix,yI Qp]<|dK 31 ((↑k:Int)<0)<|zK<|aM<|ak<|zX (yH [(0,yV (ai ((↑i:Int)+1)))]) [yN ((↑i:Int)+1)] (aI (i+1) ⟨ah,by show (if _ then _ else _)=_;rw [if_neg ah,hs]⟩ ah (zW [.aa [23,22,18,11,4,3,2,0,1,24] [4,3,2]]))
 ·have ei:i=e.dep.ae.length:=ah
  subst ei
  rw [h0] at ce
  subst ce
  have Of:(⟨g.aC,g.head,g.bB,g.al,g.aF++ [e.dep]⟩:fL)=G:=by rw [←Of,if_pos rfl]
  subst Of
  have s1:af bg g.aF++bg e.dep=af bg (g.aF++ [e.dep]):=ja _ _
  refine zE 0<|aY<|aN<|bm<|ak<|zP 2 [{hs:=[(2,{av:=some (AV.o8 7 (af bg g.aF)),b:=false}),(5,{av:=some (AV.agg [aw e.dep.cm,aw e.dep.peer,AV.own 1 (ag e.dep.box),AV.own 1 (af ay e.dep.ae),AV.own 1 (aj e.dep.au),ai e.dep.need,aw e.dep.target]),b:=false}),(7,yV (AV.arr (af bg (g.aF++ [e.dep]))))],T:=5},{}] [.aa [5,41,25,23,22,18,11,4,3,2,0,1,24] [4,2,41,40,3]] [yI gw,yI Fb,yI s1,yO (((af bg g.aF).length+7)*104≤985162418487296),yB (0<7) (Nat.le_of_ble_eq_true rfl),yL 5 5,yL 5 5]<|a7.su [.iR 41] bH<|zR (cE)
end Go.Proofs.YtjgbhhnghedgdaaGreatDoor
