import Derived.Test.YtjgbhhnghedgdaaGreatDoorZaGrC2
import Derived.Test.YtjgbhhnghedgdaaGreatDoorZaGr3a
set_option linter.all false
namespace Go.Proofs.YtjgbhhnghedgdaaGreatDoor
open Go.RowKit
set_option maxRecDepth 100000
set_option maxHeartbeats 4000000
theorem FU (d:m0) (p:UInt64):bK Tryz.prog 155 [.agg (bc d),.ptr [aw p] 0] (ao (d.bR == p)):=by
 refine zO Tryz.func155 8<|zP 2 [{},yH [(3,yV (ao (d.bR == p)))]] [.ae [3,2,0,1] [2]] [yI (fo d.bR p)]<|zR (bV)
theorem A_ (l:List m0) (p:UInt64) (ze:l.length≤1000000):bK Tryz.prog 154 [.sl 7 (af bc l),.lI 155 [.ptr [aw p] 0]] (ai (Dl l p)):=by
 have hl:(af bc l).length=l.length*7:=aF (e:=7) (fun _=>rfl) ..
 refine zO Tryz.func154 19<|zq<|zS<|zQ 1 [yH [(1,{k:=l.length})]] [yI hl]<|zB 0 (zL (fun (i:Nat)=>(⟨[(7,ai (↑l.length:Int)),(0,AV.sl 7 (af bc l)),(1,AV.lI 155 [AV.ptr [aw p] 0]),(8,ai i)],[]⟩:AS)) (fun i=>(i≤l.length∧ ∀j,j<i->(l.getD j default).bR≠p)) (fun i=>(l.length-i)) (0) ?_ (zW [.ae [7,0,1,8] []]) ?_)
 ·exact ⟨ah,ah⟩
 rintro i ⟨hi,gf⟩
 refine zq<|zS (zD 9 ((↑i:Int)<(↑l.length:Int)) (fun g=>?_) (fun g=>?_))
 ·have dz:i<l.length:=ah
  have hc:=FU (l.getD i default) p
  by_cases e:(l.getD i default).bR=p
  ·have hf:=IW dz gf e
   refine a_<|zS<|zB 1<|zP 2 [{},yH [(3,{k:=i}),(4,yV (AV.agg (bc (l.getD i default)))),(5,yV (ao ((l.getD i default).bR == p)))]] [.ae [16,5,9,7,0,1,8] []] [yR (↑i:Int),yO (i*7<(af bc l).length),yu bc l i 0 7,yR 7,yI hc]<|du 16 ((l.getD i default).bR == p) fb<|zq<|zR<|aY<|aI<|c_<|aY<|aI (zV [yJ (↑i:Int) (Dl l p) (by unfold Dl;rw [hf,if_pos dz])])
  ·skip
   refine a_<|zS<|zB 1<|zP 2 [{},yH [(3,{k:=i}),(4,yV (AV.agg (bc (l.getD i default)))),(5,yV (ao ((l.getD i default).bR == p)))]] [.ae [16,5,9,7,0,1,8] []] [yR (↑i:Int),yO (i*7<(af bc l).length),yu bc l i 0 7,yR 7,yI hc]<|bj 16 ((l.getD i default).bR == p) bE<|zK<|aM<|ak<|zX (yH [(0,yV (ai ((↑i:Int)+1)))]) [yN ((↑i:Int)+1)] (aJ (i+1) ⟨ah,fun j hj=>by by_cases e2:j=i;(subst e2;exact e);exact gf j ah⟩ ah (zW [.ae [7,0,1,8] []]))
 ·have hf:=IV (l:=l) (p:=p) (fun j hj=>gf j ah)
  refine zE 0<|a7<|aO<|bn<|ak<|zq<|zR (zV [yJ (-1:Int) (Dl l p) (by unfold Dl;rw [hf,if_neg (Nat.lt_irrefl _)])])
theorem Ba (g:gK) (p:UInt64) (ze:g.aK.length≤1000000):bK Tryz.prog 108 [.agg (bB g),aw p] (ai (Dl g.aK p)):=by
 refine zO Tryz.func108 9<|zP 2 [{},yH [(3,yV (ai (Dl g.aK p)))]] [.ae [4,3,2,0,1] [2]] [yI (A_ g.aK p ze)]<|zR (bV)
theorem Dr (l:List m0) (hl:l.length≤1000000):bK Tryz.prog 109 [.sl 7 (af bc l)] (.own 7 (af bc l)):=by
 have s6:(af bc l).length=l.length*7:=aF (e:=7) (fun _=>rfl) ..
 refine zO Tryz.func109 8<|zq<|zS<|zS<|bf.isNil (t:=39) (el:=29) (x:=.tmp 0) (d1:=3) (d2:=4) (e:=7) (row:=af bc l) bh bh bh bh bh bh bh Tryz.underlying39 bh bh bh fun b hb=>ak ?_
 cases b with
 | true =>
  have e:=hb rfl
  refine zT 4<|zq<|dk (zV [yI e])
 | false =>
  refine zF 4<|a_<|zP 1 [yH [(2,{b:=false})]] [.ae [2,4,0] [7]] [yB (cE (af bc l)) (dD (fun x=>dJ rfl) _),yO ((0+(af bc l).length)*104≤985162418487296)]<|zR (bV)
def Gs (g:gK) (e:eF):gK:=⟨g.aB,g.head,if 2*g.bt≤g.al.length+1 then g.bt+1 else g.bt,g.al++ [⟨e.name,e.kh,e.kr,0⟩],g.aK⟩
def BA (g:gK) (e:eF):Int:=if 0≤dF g.al e.name then 10 else if 8≤g.al.length then 12 else 0
theorem IP (g:gK) (e:eF) (hG:nT g):bK Tryz.prog 105 [.agg (bB g),.agg (aT e)] (.bq [.agg (bB (if BA g e=0 then Gs g e else g)),ai (BA g e)]):=by
 obtain ⟨-,-,g3,g4,g5,-⟩:=hG
 have mb:(af aH g.al).length=g.al.length*4:=aF (e:=4) (fun _=>rfl) ..
 have m7:=nI g e.name ah
 have gl:=Jz (af aH g.al)
 rcases gF g.al e.name with hk|⟨k,hk,iG,PQ⟩
 case inr =>
  have ce:BA g e=10:=if_pos ah
  rw [ce,if_neg ah]
  rw [hk] at m7
  refine zO Tryz.func105 41<|zP 2 [{},yH [(2,{k:=g.al.length})]] [.ae [6,5,4,3,2,0,1] [4,3,2]] [yI mb]<|zS<|zP 1 [yH [(3,yV (ai ↑k))]] [.ae [14,6,5,4,3,2,0,1] [4,3,2]] [yI m7]<|gT 14 ((↑k:Int)≥0)<|zP 1 [{}] [.ae [5,14,6,4,3,2,0,1] [4,3,2]] [yL 5 5]<|dk (bV)
 have c1:¬0≤dF g.al e.name:=ah
 rw [hk] at m7
 by_cases c2:8≤g.al.length
 ·have ce:BA g e=12:=(if_neg c1).trans (if_pos c2)
  rw [ce,if_neg ah]
  refine zO Tryz.func105 41<|zP 2 [{},yH [(2,{k:=g.al.length})]] [.ae [6,5,4,3,2,0,1] [4,3,2]] [yI mb]<|zS<|zP 1 [yH [(3,yV (ai (-1:Int)))]] [.ae [14,6,5,4,3,2,0,1] [4,3,2]] [yI m7]<|dp 14 ((-1:Int)≥0)<|a_<|zS<|zq<|gT 17 ((↑g.al.length:Int)≥8)<|zP 1 [{}] [.ae [5,17,14,6,4,3,2,0,1] [4,3,2]] [yL 5 5]<|dk (bV)
 have ce:BA g e=0:=(if_neg c1).trans (if_neg c2)
 rw [ce,if_pos rfl]
 have s1:af aH g.al++aH ⟨e.name,e.kh,e.kr,0⟩=af aH (g.al++ [⟨e.name,e.kh,e.kr,0⟩]):=fV _ _
 by_cases c:2*g.bt≤g.al.length+1
 ·have cg:Gs g e=⟨g.aB,g.head,g.bt+1,g.al++ [⟨e.name,e.kh,e.kr,0⟩],g.aK⟩:=by unfold Gs;rw [if_pos c]
  rw [cg]
  refine zO Tryz.func105 41<|zP 2 [{},yH [(2,{k:=g.al.length})]] [.ae [6,5,4,3,2,0,1] [4,3,2]] [yI mb]<|zS<|zP 1 [yH [(3,yV (ai (-1:Int)))]] [.ae [14,6,5,4,3,2,0,1] [4,3,2]] [yI m7]<|dp 14 ((-1:Int)≥0)<|a_<|zS<|zq<|dp 17 ((↑g.al.length:Int)≥8)<|a_<|zP 1 [{hs:=[(2,{av:=some (AV.pg 4 (af aH g.al)),b:=false}),(9,yV (AV.arr (af aH (g.al++ [Mem.mk e.name e.kh e.kr 0]))))],T:=9}] [.ae [17,14,6,5,4,3,2,0,1] [2,28,4,3]] [yI gl,yI s1,yO (((af aH g.al).length+4)*40≤562949953421312),yB (0<4) (Nat.le_of_ble_eq_true rfl),yL 4 5]<|zS<|zP 1 [yH [(2,yV (ai ((2:Int)*g.bt))),(4,yV (ai ((↑g.al.length:Int)+1)))]] [.ae [35,17,14,6,5,4,3,2,0,1] [2,28,4,3]] [yN ((2:Int)*g.bt),yN ((↑g.al.length:Int)+1)]<|gT 35 ((2:Int)*g.bt≤(↑g.al.length:Int)+1)<|zX (yH [(2,yV (ai (g.bt+1)))]) [yN (g.bt+1),yL 3 5]<|ak<|zP 1 [{}] [.ae [5,35,17,14,6,4,3,2,0,1] [4,2,28,3]] [yL 5 5]<|bf.sv [.gN 28] bh<|zR (bV)
 ·have cg:Gs g e=⟨g.aB,g.head,g.bt,g.al++ [⟨e.name,e.kh,e.kr,0⟩],g.aK⟩:=by unfold Gs;rw [if_neg c]
  rw [cg]
  refine zO Tryz.func105 41<|zP 2 [{},yH [(2,{k:=g.al.length})]] [.ae [6,5,4,3,2,0,1] [4,3,2]] [yI mb]<|zS<|zP 1 [yH [(3,yV (ai (-1:Int)))]] [.ae [14,6,5,4,3,2,0,1] [4,3,2]] [yI m7]<|dp 14 ((-1:Int)≥0)<|a_<|zS<|zq<|dp 17 ((↑g.al.length:Int)≥8)<|a_<|zP 1 [{hs:=[(2,{av:=some (AV.pg 4 (af aH g.al)),b:=false}),(9,yV (AV.arr (af aH (g.al++ [Mem.mk e.name e.kh e.kr 0]))))],T:=9}] [.ae [17,14,6,5,4,3,2,0,1] [2,28,4,3]] [yI gl,yI s1,yO (((af aH g.al).length+4)*40≤562949953421312),yB (0<4) (Nat.le_of_ble_eq_true rfl),yL 4 5]<|zS<|bf.jW 1 [{hs:=[(2,{av:=some (ai ((2:Int)*g.bt))}),(4,{av:=some (ai ((↑g.al.length:Int)+1))})]}] [.ae [35,17,14,6,5,4,3,2,0,1] [2,28,4,3]] bh (s':=AS.mk [(35,ao (decide ((2:Int)*g.bt≤(↑g.al.length:Int)+1))),(17,ao (decide ((↑g.al.length:Int)≥8))),(14,ao (decide ((-1:Int)≥0))),(6,ai (↑g.al.length:Int)),(5,ai 0),(4,AV.addr 4 0),(3,AV.addr 3 0),(2,AV.addr 2 0),(0,AV.agg (bB g)),(1,AV.agg (aT e))] [(2,Row.mk 1 false true ((List.map (aD 28) (List.map (aD 4) (List.map (aD 3) (List.map (aD 2) (bB g))))).set 3 (bp (AS.mk [(29,AV.addr 2 3),(28,AV.ref 28),(19,AV.addr 2 3),(20,AV.sl 4 (af aH g.al)),(21,AV.pg 4 (af aH g.al)),(22,AV.addr 3 3),(23,db e.name),(24,AV.addr 3 4),(25,AV.agg [ai e.kh,aw e.kr]),(26,AV.agg [db e.name,ai e.kh,aw e.kr,cO]),(27,AV.sl 4 [db e.name,ai e.kh,aw e.kr,cO]),(17,ao (decide ((↑g.al.length:Int)≥8))),(16,ai (↑g.al.length:Int)),(14,ao (decide ((-1:Int)≥0))),(6,ai (↑g.al.length:Int)),(5,ai 0),(4,AV.addr 4 0),(3,AV.addr 3 0),(2,AV.addr 2 0),(0,AV.agg (bB g)),(1,AV.agg (aT e))] [(28,Row.mk 4 true false (af aH (g.al++ [Mem.mk e.name e.kh e.kr 0]))),(4,Row.mk 1 false true [ai 0,cO,ai 0,AV.nil,AV.nil]),(3,Row.mk 1 false true (aT e)),(2,Row.mk 1 false true (List.map (aD 28) (List.map (aD 4) (List.map (aD 3) (List.map (aD 2) (bB g))))))]) (Operand.tmp 28)))),(28,Row.mk 4 true false (af aH (g.al++ [Mem.mk e.name e.kh e.kr 0]))),(4,Row.mk 1 false true [ai 0,cO,ai 0,AV.nil,AV.nil]),(3,Row.mk 1 false true (aT e))]) (C:=[ai (IntKind.i64.wrap ((2:Int)*g.bt))=ai ((2:Int)*g.bt),ai (IntKind.i64.wrap ((↑g.al.length:Int)+1))=ai ((↑g.al.length:Int)+1)]) bh ⟨(dG ah ah),(dG ah ah),trivial⟩<|dp 35 ((2:Int)*g.bt≤(↑g.al.length:Int)+1)<|a_<|zP 1 [{}] [.ae [5,35,17,14,6,4,3,2,0,1] [4,2,28,3]] [yL 5 5]<|bf.sv [.gN 28] bh<|zR (bV)
def Ad (g:gK) (e:eF):Int:=if dF g.al e.name<0 then 11 else if (g.al.length:Int)-1<g.bt then 41 else 0
theorem A4 (g:gK) (e:eF) (hG:nT g):bK Tryz.prog 106 [.agg (bB g),.agg (aT e)] (.bq [.agg (bB (if Ad g e=0 then {g with al:=po g.al (dF g.al e.name).toNat} else g)),ai (Ad g e)]):=by
 obtain ⟨-,-,g3,g4,g5,-⟩:=hG
 have mb:(af aH g.al).length=g.al.length*4:=aF (e:=4) (fun _=>rfl) ..
 have m7:=nI g e.name ah
 rcases gF g.al e.name with hk|⟨k,hk,iG,PQ⟩
 ·have ce:Ad g e=11:=if_pos ah
  rw [ce,if_neg ah]
  rw [hk] at m7
  refine zO Tryz.func106 31<|zP 2 [{},yH [(3,yV (ai (-1:Int)))]] [.ae [6,5,4,3,2,0,1] [4,3,2]] [yI m7]<|zS<|zq<|gT 12 ((-1:Int)<0)<|zP 1 [{}] [.ae [5,12,6,4,3,2,0,1] [4,3,2]] [yL 5 5]<|dk (bV)
 have c1:¬dF g.al e.name<0:=ah
 by_cases c2:(g.al.length:Int)-1<g.bt
 ·have ce:Ad g e=41:=(if_neg c1).trans (if_pos c2)
  rw [ce,if_neg ah]
  rw [hk] at m7
  refine zO Tryz.func106 31<|zP 2 [{},yH [(3,yV (ai ↑k))]] [.ae [6,5,4,3,2,0,1] [4,3,2]] [yI m7]<|zS<|zq<|dp 12 ((↑k:Int)<0)<|a_<|zS<|zP 1 [yH [(4,{k:=g.al.length}),(5,yV (ai ((↑g.al.length:Int)-1)))]] [.ae [20,12,6,5,4,3,2,0,1] [4,3,2]] [yI mb,yN ((↑g.al.length:Int)-1)]<|gT 20 (g.bt>(↑g.al.length:Int)-1)<|zP 1 [{}] [.ae [5,20,12,6,4,3,2,0,1] [4,3,2]] [yL 5 5]<|dk (bV)
 have ce:Ad g e=0:=(if_neg c1).trans (if_neg c2)
 have hc:=uk g.al ah
 have hd:=Bo g.al k iG
 rw [ce,if_pos rfl,hk,Int.toNat_natCast]
 rw [hk] at m7
 refine zO Tryz.func106 31<|zP 2 [{},yH [(3,yV (ai ↑k))]] [.ae [6,5,4,3,2,0,1] [4,3,2]] [yI m7]<|zS<|zq<|dp 12 ((↑k:Int)<0)<|a_<|zS<|zP 1 [yH [(4,{k:=g.al.length}),(5,yV (ai ((↑g.al.length:Int)-1)))]] [.ae [20,12,6,5,4,3,2,0,1] [4,3,2]] [yI mb,yN ((↑g.al.length:Int)-1)]<|dp 20 (g.bt>(↑g.al.length:Int)-1)<|a_<|zP 2 [yH [(2,{av:=some (AV.own 4 (af aH g.al)),b:=false}),(5,yV (ai (↑(k+1):Int))),(6,{av:=some (AV.own 4 (af aH (po g.al k))),ln:=[(24,5)],ho:=[(5,Row.mk 4 true false (af aH []))]})],{}] [.ae [5,20,12,6,4,3,2,0,1] [4,2,28,3]] [yI hc,yB (ai (IntKind.i64.wrap ((↑k:Int)+1))=ai (↑(k+1):Int)) (dG ah ah),yI hd,yL 4 5,yL 5 5]<|bf.sv [.gN 28] bh<|zR (bV)
def xd (g:gK) (e:eF):Int:=if 8≤g.aK.length then 12 else if vr g.aK e.dep.bR<g.aK.length then 10 else ff (sI g e.dep.aa) e.dep.aa.length
theorem CF (g:gK) (e:eF) (hG:nT g) (hB:y8 e.dep):bK Tryz.prog 107 [.agg (bB g),.agg (aT e)] (.bq [.agg (bB (if xd g e=0 then {g with aK:=g.aK++ [e.dep]} else g)),ai (xd g e)]):=by
 obtain ⟨-,-,g3,-,-,g6⟩:=hG
 have qD:(af bc g.aK).length=g.aK.length*7:=aF (e:=7) (fun _=>rfl) ..
 have mb:(af aH g.al).length=g.al.length*4:=aF (e:=4) (fun _=>rfl) ..
 have CB:=Ba g e.dep.bR ah
 have gl:=Gl (af bc g.aK)
 have FO:=sj e.dep hB.box hB.zb hB.NL
 have PS:(af ay e.dep.aa).length=e.dep.aa.length:=by rw [aF (e:=1) (fun _=>rfl)];omega
 have hh:=hB.zb
 by_cases c1:8≤g.aK.length
 ·have ce:xd g e=12:=if_pos c1
  rw [ce,if_neg ah]
  refine zO Tryz.func107 44<|zq<|zS<|zP 1 [yH [(2,{k:=g.aK.length})]] [.ae [11,5,4,3,2,0,1] [4,3,2]] [yI qD]<|gT 11 ((↑g.aK.length:Int)≥8)<|zP 1 [{}] [.ae [5,11,4,3,2,0,1] [4,3,2]] [yL 5 5]<|dk (bV)
 rcases oa g.aK e.dep.bR with ⟨hf,hk⟩|⟨k,hf,hk,iG⟩
 case inr =>
  have ce:xd g e=10:=(if_neg c1).trans (if_pos ah)
  rw [ce,if_neg ah]
  rw [hk] at CB
  refine zO Tryz.func107 44<|zq<|zS<|zP 1 [yH [(2,{k:=g.aK.length})]] [.ae [11,5,4,3,2,0,1] [4,3,2]] [yI qD]<|dp 11 ((↑g.aK.length:Int)≥8)<|a_<|zS<|zP 1 [yH [(4,yV (ai ↑k))]] [.ae [18,11,5,4,3,2,0,1] [4,3,2]] [yI CB]<|gT 18 ((↑k:Int)≥0)<|zP 1 [{}] [.ae [5,18,11,4,3,2,0,1] [4,3,2]] [yL 5 5]<|dk (bV)
 have ce:xd g e=ff (sI g e.dep.aa) e.dep.aa.length:=(if_neg c1).trans (if_neg ah)
 rw [hk] at CB
 generalize hE:xd g e=E at *
 generalize s9:(if E=0 then {g with aK:=g.aK++ [e.dep]} else g)=G
 refine zO Tryz.func107 44<|zq<|zS<|zP 1 [yH [(2,{k:=g.aK.length})]] [.ae [11,5,4,3,2,0,1] [4,3,2]] [yI qD]<|dp 11 ((↑g.aK.length:Int)≥8)<|a_<|zS<|zP 1 [yH [(4,yV (ai (-1:Int)))]] [.ae [18,11,5,4,3,2,0,1] [4,3,2]] [yI CB]<|dp 18 ((-1:Int)≥0)<|a_<|zS<|zQ 1 [yH [(3,{k:=(af ay e.dep.aa).length})]] [yR ((af ay e.dep.aa).length)]<|zB 0 (zL (fun (i:Nat)=>(⟨[(23,ai (↑(af ay e.dep.aa).length:Int)),(22,AV.sl 1 (af ay e.dep.aa)),(18,ao (decide ((-1:Int)≥0))),(11,ao (decide ((↑g.aK.length:Int)≥8))),(4,AV.addr 4 0),(3,AV.addr 3 0),(2,AV.addr 2 0),(0,AV.agg (bB g)),(1,AV.agg (aT e)),(24,ai i)],[(4,⟨1,false,true,[ai 0,cO,ai 0,AV.nil,AV.nil]⟩),(3,⟨1,false,true,(aT e)⟩),(2,⟨1,false,true,List.map (aD 4) (List.map (aD 3) (List.map (aD 2) (bB g)))⟩)]⟩:AS)) (fun i=>(i≤e.dep.aa.length∧ff (sI g e.dep.aa) i=0)) (fun i=>(e.dep.aa.length-i)) (0) ?_ (zW [.ae [23,22,18,11,4,3,2,0,1,24] [4,3,2]]) ?_)
 ·exact ⟨ah,rfl⟩
 rintro i ⟨hi,h0⟩
 refine zq<|zS (zD 25 ((↑i:Int)<(↑(af ay e.dep.aa).length:Int)) (fun q=>?_) (fun q=>?_))
 ·have dz:i<e.dep.aa.length:=ah
  have gh:=iK dz
  have Ev:=nI g (e.dep.aa.getD i default) ah
  rcases gF g.al (e.dep.aa.getD i default) with hm|⟨k,hm,RV,-⟩
  ·have hs:sI g e.dep.aa i=11:=if_pos ah
   have QF:ff (sI g e.dep.aa) (i+1)=11:=by show (if _ then _ else _)=_;rw [if_neg ah,hs]
   rw [ld ah QF _ dz] at ce
   subst ce
   have s9:g=G:=by rw [←s9,if_neg ah]
   subst s9
   rw [hm] at Ev
   refine a_<|zS<|zB 1<|zP 2 [yH [(0,{k:=i}),(1,yV (db (e.dep.aa.getD i default)))],yH [(2,yV (ai (-1:Int)))]] [.ae [31,7,25,23,22,18,11,4,3,2,0,1,24] [4,3,2]] [yR (↑i:Int),yO (i<(af ay e.dep.aa).length),yI gh,yI Ev]<|gT 31 ((-1:Int)<0)<|zP 1 [{}] [.ae [5,31,7,25,23,22,18,11,4,3,2,0,1,24] [4,3,2]] [yL 5 5]<|zR<|aY<|aI<|c_<|aY<|aI (bV)
  ·have hs:sI g e.dep.aa i=0:=if_neg ah
   rw [hm] at Ev
   refine a_<|zS<|zB 1<|zP 2 [yH [(0,{k:=i}),(1,yV (db (e.dep.aa.getD i default)))],yH [(2,yV (ai ↑k))]] [.ae [31,7,25,23,22,18,11,4,3,2,0,1,24] [4,3,2]] [yR (↑i:Int),yO (i<(af ay e.dep.aa).length),yI gh,yI Ev]<|dp 31 ((↑k:Int)<0)<|zK<|aM<|ak<|zX (yH [(0,yV (ai ((↑i:Int)+1)))]) [yN ((↑i:Int)+1)] (aJ (i+1) ⟨ah,by show (if _ then _ else _)=_;rw [if_neg ah,hs]⟩ ah (zW [.ae [23,22,18,11,4,3,2,0,1,24] [4,3,2]]))
 ·have ei:i=e.dep.aa.length:=ah
  subst ei
  rw [h0] at ce
  subst ce
  have s9:(⟨g.aB,g.head,g.bt,g.al,g.aK++ [e.dep]⟩:gK)=G:=by rw [←s9,if_pos rfl]
  subst s9
  have s1:af bc g.aK++bc e.dep=af bc (g.aK++ [e.dep]):=fV _ _
  refine zE 0<|a7<|aO<|bn<|ak<|zP 2 [{hs:=[(2,{av:=some (AV.pg 7 (af bc g.aK)),b:=false}),(5,{av:=some (AV.agg [aw e.dep.bR,aw e.dep.peer,AV.own 1 (ag e.dep.box),AV.own 1 (af ay e.dep.aa),AV.own 1 (aj e.dep.au),ai e.dep.need,aw e.dep.target]),b:=false}),(7,yV (AV.arr (af bc (g.aK++ [e.dep]))))],T:=5},{}] [.ae [5,41,25,23,22,18,11,4,3,2,0,1,24] [4,2,41,40,3]] [yI gl,yI FO,yI s1,yO (((af bc g.aK).length+7)*104≤985162418487296),yB (0<7) (Nat.le_of_ble_eq_true rfl),yL 5 5,yL 5 5]<|bf.sv [.gN 41] bh<|zR (bV)
end Go.Proofs.YtjgbhhnghedgdaaGreatDoor
