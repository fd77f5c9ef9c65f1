import Derived.Test.YtjgbhhnghedgdaaGreatDoorZpGrE4n
import Derived.Test.YtjgbhhnghedgdaaGreatDoorZpGrK2
set_option linter.all false
namespace Go.Proofs.YtjgbhhnghedgdaaGreatDoor
open Go.RowKit
set_option maxRecDepth 100000
set_option maxHeartbeats 4000000
theorem zi (mT:∀e,mQ e->bK Tryz.prog 40 [.agg (bX e)] (.br [.own 1 (ag (fA e)),ai (eh e)])) (c:Dr) (e:fo) (bO:Nat) (hw:bO<1024) (hB:mQ e) (hv:e.aq= []):bK Tryz.prog 22 [.agg (pf c),.agg (FI e),ai bO] (.br [.agg (K2 (ba e c.nx bO 10).1),.arr (vu (ba e c.nx bO 10).2)]):=by
 refine zO Tryz.func22 48<|zP 2 [yH [(3,yV (AV.arr (ax (List.replicate 10 (0:Int)))))],yH [(1,yV (AV.agg [ai (c.nx 0),ai (c.nx 1),ai (c.nx 2),ai (c.nx 3),ai (c.nx 4),ai (c.nx 5),ai (c.nx 6),ai (c.nx 7),ai (c.nx 8),ai (c.nx 9)])),(2,yV (AV.arr (ax (List.replicate 10 (0:Int)))))]] [.aa [8,7,6,4,3,0,1,2] [8,7,6,4,3]] [yR (ax (List.replicate 10 (0:Int))),yR (List.take 10 (List.drop 6 (List.map (aR 7) (List.map (aR 6) (List.map (aR 4) (List.map (aR 3) (pf c))))))),yR 10,yR (ax (List.replicate 10 (0:Int))),yL 10 10]<|zS<|zq<|zB 0<|bf.oe (bR.Jc 4 16 99 4 (r:=⟨1,false,true,FI e⟩) bD rfl rfl bD) (zL (fun (i:Nat)=>(⟨[(8,AV.addr 8 0),(7,AV.addr 7 0),(6,AV.addr 6 0),(4,AV.addr 4 0),(3,AV.addr 3 0),(0,AV.agg [ai c.gl.aA,aw c.gl.head,ai c.gl.bt,AV.sl 4 (af aI c.gl.al),AV.sl 7 (af bg c.gl.aJ),AV.sl 17 (af bX c.log),ai (c.nx 0),ai (c.nx 1),ai (c.nx 2),ai (c.nx 3),ai (c.nx 4),ai (c.nx 5),ai (c.nx 6),ai (c.nx 7),ai (c.nx 8),ai (c.nx 9)]),(1,AV.agg [ai e.aA,aw e.prev,ai e.kind,cZ e.name,ai e.kh,aw e.kr,ai e.bt,aw e.dep.bF,aw e.dep.peer,AV.sl 1 (ag e.dep.box),AV.sl 1 (af ay e.dep.ae),AV.sl 1 (ah e.dep.au),ai e.dep.need,aw e.dep.target,aw e.bF,aw e.target,AV.nil]),(2,ai ↑bO),(9,ai i)],[(7,⟨1,true,true,ax (List.replicate 10 (0:Int))⟩),(6,⟨1,false,true,[ai 0,dW,ai 0,AV.val (Value.string (ByteArray.mk #[])),ai 0,dW,ai 0,dW,dW,AV.nil,AV.nil,AV.nil,ai 0,dW,dW,dW,AV.nil]⟩),(3,⟨1,false,true,pf c⟩),(4,⟨1,false,true,[ai (ba e c.nx bO i).1.aA,aw (ba e c.nx bO i).1.prev,ai (ba e c.nx bO i).1.kind,cZ (ba e c.nx bO i).1.name,ai (ba e c.nx bO i).1.kh,aw (ba e c.nx bO i).1.kr,ai (ba e c.nx bO i).1.bt,aw (ba e c.nx bO i).1.dep.bF,aw (ba e c.nx bO i).1.dep.peer,.sl 1 (ag (ba e c.nx bO i).1.dep.box),.sl 1 (af ay (ba e c.nx bO i).1.dep.ae),.sl 1 (ah (ba e c.nx bO i).1.dep.au),ai (ba e c.nx bO i).1.dep.need,aw (ba e c.nx bO i).1.dep.target,aw (ba e c.nx bO i).1.bF,aw (ba e c.nx bO i).1.target,.ref 99]⟩),(99,⟨4,true,false,af aU (ba e c.nx bO i).1.aq⟩),(8,⟨1,true,true,vu (ba e c.nx bO i).2⟩)]⟩:AS)) (fun i=>(i≤10)) (fun i=>(10-i)) (0) ?_ (eJ [.aa [8,7,6,4,3,0,1,2,9] [7,6,3,4,99,8]] [] [99] [yB ([]=af aU (ba e c.nx bO 0).fst.aq) (by show []=af aU e.aq;rw [hv];rfl)]) ?_)
 ·omega
 intro i hi
 obtain ⟨b1,b2⟩:=BH hB c.nx bO i
 rw [show e.aq.length=0 by rw [hv];rfl] at b2
 refine zS<|bf.na 1 [{}] bD (s':=AS.mk [(15,ao (decide ((↑i:Int)<10))),(14,ai ↑i),(8,AV.addr 8 0),(7,AV.addr 7 0),(6,AV.addr 6 0),(4,AV.addr 4 0),(3,AV.addr 3 0),(0,AV.agg [ai c.gl.aA,aw c.gl.head,ai c.gl.bt,AV.sl 4 (af aI c.gl.al),AV.sl 7 (af bg c.gl.aJ),AV.sl 17 (af bX c.log),ai (c.nx 0),ai (c.nx 1),ai (c.nx 2),ai (c.nx 3),ai (c.nx 4),ai (c.nx 5),ai (c.nx 6),ai (c.nx 7),ai (c.nx 8),ai (c.nx 9)]),(1,AV.agg [ai e.aA,aw e.prev,ai e.kind,cZ e.name,ai e.kh,aw e.kr,ai e.bt,aw e.dep.bF,aw e.dep.peer,AV.sl 1 (ag e.dep.box),AV.sl 1 (af ay e.dep.ae),AV.sl 1 (ah e.dep.au),ai e.dep.need,aw e.dep.target,aw e.bF,aw e.target,AV.nil]),(2,ai ↑bO),(9,ai ↑i)] [(7,Row.mk 1 true true (ax (List.replicate 10 (0:Int)))),(6,Row.mk 1 false true [ai 0,dW,ai 0,AV.val (Value.string (ByteArray.mk #[])),ai 0,dW,ai 0,dW,dW,AV.nil,AV.nil,AV.nil,ai 0,dW,dW,dW,AV.nil]),(3,Row.mk 1 false true (pf c)),(4,Row.mk 1 false true [ai ((ba e c.nx bO i).fst.aA),aw ((ba e c.nx bO i).fst.prev),ai ((ba e c.nx bO i).fst.kind),cZ (ba e c.nx bO i).fst.name,ai ((ba e c.nx bO i).fst.kh),aw ((ba e c.nx bO i).fst.kr),ai ((ba e c.nx bO i).fst.bt),aw ((ba e c.nx bO i).fst.dep.bF),aw ((ba e c.nx bO i).fst.dep.peer),AV.sl 1 (ag (ba e c.nx bO i).fst.dep.box),AV.sl 1 (af ay (ba e c.nx bO i).fst.dep.ae),AV.sl 1 (ah (ba e c.nx bO i).fst.dep.au),ai ((ba e c.nx bO i).fst.dep.need),aw ((ba e c.nx bO i).fst.dep.target),aw ((ba e c.nx bO i).fst.bF),aw ((ba e c.nx bO i).fst.target),AV.ref 99]),(99,Row.mk 4 true false (af aU (ba e c.nx bO i).fst.aq)),(8,Row.mk 1 true true (vu (ba e c.nx bO i).snd))]) (C:=[]) bD trivial (zD 15 ((↑i:Int)<10) (fun q=>?_) (fun q=>?_))
 ·have dD:i<10:=aj
  have PH:=mT _ b1
  have Bs:=fK i dD
  have D7:=xe (ba e c.nx bO i).1 (dY i).name (300+u64 i) 4 ((ba e c.nx bO i).2 i) aj PH
  have NS:=OH (ba e c.nx bO i).2 dD
  have T8:=Mo (ba e c.nx bO i).2 dD ((ba e c.nx bO i).2 i+1)
  have Mv:IntKind.u64.wrap ((i:Nat):Int)=(i:Int):=by rw [IntKind.wrap_u64];omega
  have Fh:=JX bO dD
  have O3:=Ma hw dD
  have dL:ba e c.nx bO (i+1)=if bO.testBit i=true∧og (ba e c.nx bO i).1 (dY i).name 4 ((ba e c.nx bO i).2 i)=0 then (tn (ba e c.nx bO i).1 (dY i).name (300+u64 i) 4 ((ba e c.nx bO i).2 i),Gu (ba e c.nx bO i).2 i ((ba e c.nx bO i).2 i+1)) else ba e c.nx bO i:=rfl
  generalize ba e c.nx bO i=S at *
  clear mT PH
  by_cases tb:bO.testBit i=true
  case neg =>
   rw [if_neg tb] at O3
   rw [if_neg (fun q=>tb q.1)] at dL
   refine a7<|zS<|zB 1<|zS<|zP 1 [yH [(2,yV (AV.val (Value.int .u64 (↑i:Int)))),(3,yV (ai (↑(bO/(2:Nat)^i):Int))),(4,yV (ai 0))]] [.aa [23,15,8,7,6,4,3,0,1,2,9] [7,6,3,4,99,8]] [yI (yd Mv),yI (yc Fh),yO ((0:Int)≤(↑i:Int)),yI (yc O3)]<|dr 23 ((0:Int) == (0:Int)) fi<|zE 1<|a_<|bo<|ak<|zX (yH [(1,yV (ai ((↑i:Int)+1)))]) [yN ((↑i:Int)+1)] (aH (i+1) (by assumption) aj (eJ [.aa [8,7,6,4,3,0,1,2,9] [7,6,3,4,99,8]] [] [4,99,8] [yB ([ai S.fst.aA,aw S.fst.prev,ai S.fst.kind,cZ S.fst.name,ai S.fst.kh,aw S.fst.kr,ai S.fst.bt,aw S.fst.dep.bF,aw S.fst.dep.peer,AV.sl 1 (ag S.fst.dep.box),AV.sl 1 (af ay S.fst.dep.ae),AV.sl 1 (ah S.fst.dep.au),ai S.fst.dep.need,aw S.fst.dep.target,aw S.fst.bF,aw S.fst.target,AV.ref 99]= [ai ((ba e c.nx bO (i+1)).fst.aA),aw ((ba e c.nx bO (i+1)).fst.prev),ai ((ba e c.nx bO (i+1)).fst.kind),cZ (ba e c.nx bO (i+1)).fst.name,ai ((ba e c.nx bO (i+1)).fst.kh),aw ((ba e c.nx bO (i+1)).fst.kr),ai ((ba e c.nx bO (i+1)).fst.bt),aw ((ba e c.nx bO (i+1)).fst.dep.bF),aw ((ba e c.nx bO (i+1)).fst.dep.peer),AV.sl 1 (ag (ba e c.nx bO (i+1)).fst.dep.box),AV.sl 1 (af ay (ba e c.nx bO (i+1)).fst.dep.ae),AV.sl 1 (ah (ba e c.nx bO (i+1)).fst.dep.au),ai ((ba e c.nx bO (i+1)).fst.dep.need),aw ((ba e c.nx bO (i+1)).fst.dep.target),aw ((ba e c.nx bO (i+1)).fst.bF),aw ((ba e c.nx bO (i+1)).fst.target),AV.ref 99]) (by rw [dL]),yB (af aU S.fst.aq=af aU (ba e c.nx bO (i+1)).fst.aq) (by rw [dL]),yB (vu S.snd=vu (ba e c.nx bO (i+1)).snd) (by rw [dL])]))
  rw [if_pos tb] at O3
  by_cases cq:og S.1 (dY i).name 4 (S.2 i)=0
  case neg =>
   rw [if_neg (fun q=>cq q.2)] at dL
   have Rb:tl S.1 (dY i).name (300+u64 i) 4 (S.2 i)=yY:=if_neg cq
   rw [Rb] at D7
   refine a7<|zS<|zB 1<|zS<|zP 1 [yH [(2,yV (AV.val (Value.int .u64 (↑i:Int)))),(3,yV (ai (↑(bO/(2:Nat)^i):Int))),(4,yV (ai 1)),(5,yV (ao false))]] [.aa [23,15,8,7,6,4,3,0,1,2,9] [7,6,3,4,99,8]] [yI (yd Mv),yI (yc Fh),yB ((0:Int)≤(↑i:Int)) (by simp [cq]),yI (yc O3),yR (ao false)]<|zF 23<|a7<|zS<|QL 15 13 [] [14] [(2,yV (AV.agg (aI (dY i)))),(5,yV (aw (u64 (↑i:Int)))),(6,yV (aw (300+u64 (↑i:Int)))),(8,{k:=i}),(9,yV (ai (S.snd i))),(10,yV (AV.br [AV.agg [ai 0,aw 0,ai 0,AV.val (Value.string (ByteArray.mk #[])),ai 0,aw 0,ai 0,aw 0,aw 0,AV.nil,AV.nil,AV.nil,ai 0,aw 0,aw 0,aw 0,AV.nil],ai (og S.fst (dY i).name (4:Int) (S.snd i))]))] [yI Bs,yI (a8 ((↑i:Int))),yR (aw (300+u64 (↑i:Int))),yR (↑i:Int),yI dD,yI NS,yI D7,yL 17 17,yL 17 17]<|ak<|bf.rG [.aa [11,10,32,23,15,8,7,6,4,3,0,1,2,9] [10,7,6,3,4,99,8]] bD<|zP 1 [yH [(1,yV (ao false))]] [.aa [39,11,10,32,23,15,8,7,6,4,3,0,1,2,9] [10,7,6,3,4,99,8]] [yB (ao (og S.fst (dY i).name (4:Int) (S.snd i) == (0:Int))=ao false) (by simp [cq])]<|zF 39<|zK<|aL<|ak<|zX (yH [(1,yV (ai ((↑i:Int)+1)))]) [yN ((↑i:Int)+1)] (aH (i+1) (by assumption) aj (eJ [.aa [8,7,6,4,3,0,1,2,9] [7,6,3,4,99,8]] [] [4,99,8] [yB ([ai S.fst.aA,aw S.fst.prev,ai S.fst.kind,cZ S.fst.name,ai S.fst.kh,aw S.fst.kr,ai S.fst.bt,aw S.fst.dep.bF,aw S.fst.dep.peer,AV.sl 1 (ag S.fst.dep.box),AV.sl 1 (af ay S.fst.dep.ae),AV.sl 1 (ah S.fst.dep.au),ai S.fst.dep.need,aw S.fst.dep.target,aw S.fst.bF,aw S.fst.target,AV.ref 99]= [ai ((ba e c.nx bO (i+1)).fst.aA),aw ((ba e c.nx bO (i+1)).fst.prev),ai ((ba e c.nx bO (i+1)).fst.kind),cZ (ba e c.nx bO (i+1)).fst.name,ai ((ba e c.nx bO (i+1)).fst.kh),aw ((ba e c.nx bO (i+1)).fst.kr),ai ((ba e c.nx bO (i+1)).fst.bt),aw ((ba e c.nx bO (i+1)).fst.dep.bF),aw ((ba e c.nx bO (i+1)).fst.dep.peer),AV.sl 1 (ag (ba e c.nx bO (i+1)).fst.dep.box),AV.sl 1 (af ay (ba e c.nx bO (i+1)).fst.dep.ae),AV.sl 1 (ah (ba e c.nx bO (i+1)).fst.dep.au),ai ((ba e c.nx bO (i+1)).fst.dep.need),aw ((ba e c.nx bO (i+1)).fst.dep.target),aw ((ba e c.nx bO (i+1)).fst.bF),aw ((ba e c.nx bO (i+1)).fst.target),AV.ref 99]) (by rw [dL]),yB (af aU S.fst.aq=af aU (ba e c.nx bO (i+1)).fst.aq) (by rw [dL]),yB (vu S.snd=vu (ba e c.nx bO (i+1)).snd) (by rw [dL])]))
  rw [if_pos ⟨tb,cq⟩] at dL
  have hl:=Gn cq
  have Rb:tl S.1 (dY i).name (300+u64 i) 4 (S.2 i)=K2 (tn S.1 (dY i).name (300+u64 i) 4 (S.2 i)):=if_pos cq
  rw [Rb,cq] at D7
  have T4:IntKind.i64.wrap (S.2 i+1)=S.2 i+1:=by rw [IntKind.wrap_i64];omega
  generalize tn S.1 (dY i).name (300+u64 i) 4 (S.2 i)=F at *
  refine bf.rG [.gp 99] bD<|a7<|zS<|zB 1<|zS<|zP 1 [yH [(2,yV (AV.val (Value.int .u64 (↑i:Int)))),(3,yV (ai (↑(bO/(2:Nat)^i):Int))),(4,yV (ai 1))]] [.aa [23,15,8,7,6,4,3,0,1,2,9] [7,6,3,4,8]] [yI (yd Mv),yI (yc Fh),yO ((0:Int)≤(↑i:Int)),yI (yc O3)]<|bj 23 ((1:Int) == (0:Int)) bE<|a7<|zS<|QL 15 13 [10] [14] [(2,yV (AV.agg (aI (dY i)))),(5,yV (aw (u64 (↑i:Int)))),(6,yV (aw (300+u64 (↑i:Int)))),(8,{k:=i}),(9,yV (ai (S.snd i))),(10,{av:=some (AV.br [AV.agg [ai F.aA,aw F.prev,ai F.kind,cZ F.name,ai F.kh,aw F.kr,ai F.bt,aw F.dep.bF,aw F.dep.peer,AV.sl 1 (ag F.dep.box),AV.sl 1 (af ay F.dep.ae),AV.sl 1 (ah F.dep.au),ai F.dep.need,aw F.dep.target,aw F.bF,aw F.target,AV.own 4 (af aU F.aq)],ai 0]),b:=false})] [yI Bs,yI (a8 ((↑i:Int))),yR (aw (300+u64 (↑i:Int))),yR (↑i:Int),yI dD,yI NS,yI D7,yL 17 17,yL 17 17]<|ak<|bf.rG [.aa [11,10,32,23,15,8,7,6,4,3,0,1,2,9] [10,1701035,7,6,3,4,8]] bD<|zq<|dr 39 ((0:Int) == (0:Int)) fi<|zP 1 [{}] [.aa [39,11,10,32,23,15,8,7,6,4,3,0,1,2,9] [4,10,1701035,7,6,3,8]] [yL 17 17]<|zX (yH [(1,{k:=i}),(2,yV (ai (S.snd i))),(3,yV (ai (S.snd i+1))),(4,{k:=i}),(5,yV (AV.arr (vu (Gu S.snd i (S.snd i+1)))))]) [yR (↑i:Int),yI dD,yI NS,yN (S.snd i+1),yR (↑i:Int),yI dD,yI T8,yB (i+1≤10) (by assumption)]<|aL<|ak<|zX (yH [(1,yV (ai ((↑i:Int)+1)))]) [yN ((↑i:Int)+1)] (aH (i+1) (by assumption) aj (eJ [.sm 1701035 99,.aa [8,7,6,4,3,0,1,2,9] [7,6,3,4,99,8]] [] [4,99,8] [yB ([ai F.aA,aw F.prev,ai F.kind,cZ F.name,ai F.kh,aw F.kr,ai F.bt,aw F.dep.bF,aw F.dep.peer,AV.sl 1 (ag F.dep.box),AV.sl 1 (af ay F.dep.ae),AV.sl 1 (ah F.dep.au),ai F.dep.need,aw F.dep.target,aw F.bF,aw F.target,AV.ref 99]= [ai ((ba e c.nx bO (i+1)).fst.aA),aw ((ba e c.nx bO (i+1)).fst.prev),ai ((ba e c.nx bO (i+1)).fst.kind),cZ (ba e c.nx bO (i+1)).fst.name,ai ((ba e c.nx bO (i+1)).fst.kh),aw ((ba e c.nx bO (i+1)).fst.kr),ai ((ba e c.nx bO (i+1)).fst.bt),aw ((ba e c.nx bO (i+1)).fst.dep.bF),aw ((ba e c.nx bO (i+1)).fst.dep.peer),AV.sl 1 (ag (ba e c.nx bO (i+1)).fst.dep.box),AV.sl 1 (af ay (ba e c.nx bO (i+1)).fst.dep.ae),AV.sl 1 (ah (ba e c.nx bO (i+1)).fst.dep.au),ai ((ba e c.nx bO (i+1)).fst.dep.need),aw ((ba e c.nx bO (i+1)).fst.dep.target),aw ((ba e c.nx bO (i+1)).fst.bF),aw ((ba e c.nx bO (i+1)).fst.target),AV.ref 99]) (by rw [dL]),yB (af aU F.aq=af aU (ba e c.nx bO (i+1)).fst.aq) (by rw [dL]),yB (vu (Gu S.snd i (S.snd i+1))=vu (ba e c.nx bO (i+1)).snd) (by rw [dL])]))
 ·have ei:i=10:=aj
  subst ei
  refine zE 0<|a_<|aP<|bo<|ak<|zS<|Bu 3 [2] [(1,yV (AV.agg [ai ((ba e c.nx bO 10).snd 0),ai ((ba e c.nx bO 10).snd 1),ai ((ba e c.nx bO 10).snd 2),ai ((ba e c.nx bO 10).snd 3),ai ((ba e c.nx bO 10).snd 4),ai ((ba e c.nx bO 10).snd 5),ai ((ba e c.nx bO 10).snd 6),ai ((ba e c.nx bO 10).snd 7),ai ((ba e c.nx bO 10).snd 8),ai ((ba e c.nx bO 10).snd 9)]))] [yR (List.take 10 (List.drop 0 (vu (ba e c.nx bO 10).snd))),yR 10,yL 17 17,yR (AV.agg [ai ((ba e c.nx bO 10).snd 0),ai ((ba e c.nx bO 10).snd 1),ai ((ba e c.nx bO 10).snd 2),ai ((ba e c.nx bO 10).snd 3),ai ((ba e c.nx bO 10).snd 4),ai ((ba e c.nx bO 10).snd 5),ai ((ba e c.nx bO 10).snd 6),ai ((ba e c.nx bO 10).snd 7),ai ((ba e c.nx bO 10).snd 8),ai ((ba e c.nx bO 10).snd 9)]),yR (List.take 10 (List.drop 0 (vu (ba e c.nx bO 10).snd))),yR 10,yL 10 10]<|ak<|bf.rG [.aa [15,8,7,6,4,3,0,1,2,9] [7,6,3,4,99,8]] bD<|zR (zV [yR 10,yR (Value.int .i64 (ba e c.nx bO 10).fst.aA),yR (Value.int .u64 (wv (ba e c.nx bO 10).fst.prev)),yR (Value.int .i64 (ba e c.nx bO 10).fst.kind),yR (Value.string (ByteArray.mk (ba e c.nx bO 10).fst.name.toArray)),yR (Value.int .i64 (ba e c.nx bO 10).fst.kh),yR (Value.int .u64 (wv (ba e c.nx bO 10).fst.kr)),yR (Value.int .i64 (ba e c.nx bO 10).fst.bt),yR (Value.int .u64 (wv (ba e c.nx bO 10).fst.dep.bF)),yR (Value.int .u64 (wv (ba e c.nx bO 10).fst.dep.peer)),yR (ag (ba e c.nx bO 10).fst.dep.box),yR (af ay (ba e c.nx bO 10).fst.dep.ae),yR (ah (ba e c.nx bO 10).fst.dep.au),yR (Value.int .i64 (ba e c.nx bO 10).fst.dep.need),yR (Value.int .u64 (wv (ba e c.nx bO 10).fst.dep.target)),yR (Value.int .u64 (wv (ba e c.nx bO 10).fst.bF)),yR (Value.int .u64 (wv (ba e c.nx bO 10).fst.target)),yR (af aU (ba e c.nx bO 10).fst.aq),yR (vu (ba e c.nx bO 10).snd)])
instance:Inhabited fo:=⟨⟨0,0,0,[],0,0,0,⟨0,0,[],[],[],0,0⟩,0,0,[]⟩⟩
theorem Lj {g:gB} (e:fo) (hG:nI g):nI (kQ g e):=by
 by_cases c:fI g e=0
 ·exact Nz hG c
 ·rw [s6 c];exact hG
theorem zo (g:gB) (hG:nI g) (hH:Dn g):bK Tryz.prog 21 [.agg (bV g),.agg (bV g)] (ao true):=zm g (by have:=hG.m8;omega) (by have:=hG.d8;omega) hH
theorem Mr {m:Mem} (h:ie m=0):nI (da m)∧Dn (da m):=by
 rw [show da m=⟨0,hash 16 (dc m.h m.r++m.name),1,[m],[]⟩ from if_pos h]
 exact ⟨⟨Int.le_refl 0,(show (0:Int)≤2147483647 by omega),(aj:1≤8),(show (0:Int)≤1 by omega),(show (1:Int)≤8 by omega),Nat.zero_le _⟩,fun d hd=>by cases hd⟩
theorem PT (l:List Int) (g:gB) (k:Nat) (hk:k≤l.length) (hm:g.al.length≤8):yP (Nh l g k):=by
 have ho:=qi g hk 10
 have hD:Nh l g k= {fF (u64 (gi l (fH l g k 10).2 5)) (gi l (dI l (fH l g k 10).2) 9) (fH l g k 10).1 (1+gi l (dI l (dI l (fH l g k 10).2)) ((fH l g k 10).1.length+1)) with peer:=5,box:=stream (u64 (gi l (dI l (dI l (dI l (fH l g k 10).2))) 3)+1) 7 (20+gi l (dI l (dI l (dI l (dI l (fH l g k 10).2)))) 3)}:=rfl
 rw [hD]
 obtain ⟨o1,o2,o3⟩:=ho
 generalize fH l g k 10=s at *
 have hL:s.1.length≤80:=Nat.le_trans o1 (Nat.mul_le_mul (Nat.le_refl _) hm)
 have hb:∀a b n,(stream a b n).length≤1000000:=fun a b n=>by rw [tw];unfold iJ;omega
 unfold fF
 split
 ·refine ⟨hb _ _ _,by show s.1.length≤_;omega,?_,fun i hi=>?_⟩
  ·show ((List.range s.1.length).map _).length≤_
   rw [List.length_map,List.length_range];omega
  ·have hi:i<s.1.length:=hi
   show (s.1.getD i default).length≤1000
   rw [List.getD_eq_getElem?_getD,List.getElem?_eq_getElem hi]
   exact o2 _ (List.getElem_mem hi)
 ·exact ⟨hb _ _ _,Nat.zero_le _,Nat.zero_le _,fun i hi=>absurd hi (Nat.not_lt_zero i)⟩
structure Lk (l:List Int) (g:gB) (s:fo×Nat):Prop where
 b:mQ s.1
 v:s.1.aq= []
 k:s.2≤l.length
theorem rn:yP PV:=⟨Nat.zero_le _,Nat.zero_le _,Nat.zero_le _,fun i hi=>absurd hi (Nat.not_lt_zero i)⟩
theorem Ng (l:List Int) (g:gB) (k:Nat) (hk:k≤l.length) (hm:g.al.length≤8):Lk l g (K3 l g k):=by
 have h1:∀kd n k,k≤l.length->Lk l g (ym l g kd n k):=fun kd n k hk=>by
  have a:=db hk
  unfold ym
  split
  ·exact ⟨⟨mh n,rn⟩,rfl,hk⟩
  split
  ·exact ⟨⟨mh n,rn⟩,rfl,hk⟩
  split
  ·exact ⟨⟨Nat.zero_le _,rn⟩,rfl,a⟩
  split
  ·exact ⟨⟨Nat.zero_le _,PT l g k hk hm⟩,rfl,I0 g hk⟩
  split
  ·split
   ·exact ⟨⟨Nat.zero_le _,rn⟩,rfl,a⟩
   ·exact ⟨⟨Nat.zero_le _,rn⟩,rfl,db a⟩
  ·exact ⟨⟨Nat.zero_le _,rn⟩,rfl,hk⟩
 have h2:∀s,Lk l g s->Lk l g (A_ l s):=fun s hs=>by
  obtain ⟨⟨b1,b2⟩,b3,b4⟩:=hs
  have a:=db b4
  unfold A_
  split
  ·exact ⟨⟨b1,b2⟩,b3,db a⟩
  split
  ·exact ⟨⟨b1,b2⟩,b3,a⟩
  split
  ·refine ⟨⟨?_,b2⟩,b3,db a⟩
   show (qR.getD _ []).length≤1000
   generalize gi l (dI l s.2) 3=i
   rcases i with _|_|_|i<;>exact Nat.le_of_ble_eq_true rfl
  split
  ·exact ⟨⟨b1,b2⟩,b3,a⟩
  split
  ·exact ⟨⟨b1,⟨b2.box,b2.F_,b2.QF,b2.NI⟩⟩,b3,db a⟩
  ·exact ⟨⟨b1,b2⟩,b3,a⟩
 exact h2 _ (h1 _ _ _ (db (db hk)))
end Go.Proofs.YtjgbhhnghedgdaaGreatDoor
