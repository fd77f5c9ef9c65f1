import Derived.Test.YtjgbhhnghedgdaaGreatDoorZaOt1
set_option linter.all false
namespace Go.Proofs.YtjgbhhnghedgdaaGreatDoor
open Go.RowKit
set_option maxRecDepth 100000
set_option maxHeartbeats 4000000
theorem bo (n lo hi:Int):bK Tryz.prog 78 [ai n,ai lo,ai hi] (ao (decide (lo≤n∧n≤hi))):=by
 by_cases h1:lo≤n
 ·by_cases h2:n≤hi
  ·refine zO Tryz.func78 15<|zP 2 [{},{}] [.ae [6,0,1,2] []] (yM 4 (yT (n≥lo)))<|zR (zV [yB (Value.bool (decide (n≤hi))=Value.bool (decide (lo≤n∧n≤hi))) (by simp [h1,h2])])
  ·refine zO Tryz.func78 15<|zP 2 [{},{}] [.ae [6,0,1,2] []] (yM 4 (yT (n≥lo)))<|zR (zV [yB (Value.bool (decide (n≤hi))=Value.bool (decide (lo≤n∧n≤hi))) (by simp [h1,h2])])
 ·refine zO Tryz.func78 15<|zP 2 [{},yH ([(7,{b:=false})]++yg [4,5,6])] [.ae [6,0,1,2] []] (yM 4 (yF (n≥lo)))<|zR (zV [yB (Value.bool false=Value.bool (decide (lo≤n∧n≤hi))) (by simp [h1])])
theorem fz (x:List UInt8) (hx:x.length≤1000):bK Tryz.prog 46 [db x] (ai (d_ x)):=by
 by_cases c1:x.length<1∨32<x.length
 ·have e:=pX c1
  refine zO Tryz.func46 10<|zq<|zS<|zP 1 [yH [(1,yV (ai (↑x.length:Int))),(2,yV (ao (decide ((1:Int)≤(↑x.length:Int)∧(↑x.length:Int)≤32)))),(3,yV (ao true))]] [.ae [6,2,0] []] [yR (ai (↑x.length:Int)),yI (bo ((↑x.length:Int)) ((1:Int)) ((32:Int))),yB (ao (!decide ((1:Int)≤(↑x.length:Int)∧(↑x.length:Int)≤32))=ao true) (by simp;omega)]<|zT 6<|zq<|dk (zV [yJ 9 (d_ x) (by rw [e])])
 by_cases c2:Lib.validD x=false
 ·have e:=xD c1 c2
  refine zO Tryz.func46 10<|zq<|zS<|zP 1 [yH [(1,yV (ai (↑x.length:Int))),(2,yV (ao (decide ((1:Int)≤(↑x.length:Int)∧(↑x.length:Int)≤32)))),(3,yV (ao false))]] [.ae [6,2,0] []] [yR (ai (↑x.length:Int)),yI (bo ((↑x.length:Int)) ((1:Int)) ((32:Int))),yB (ao (!decide ((1:Int)≤(↑x.length:Int)∧(↑x.length:Int)≤32))=ao false) (by simp;omega)]<|zF 6<|a_<|zS<|zP 1 [yH [(1,yV (ao (Lib.validD x))),(2,yV (ao true))]] [.ae [9,6,2,0] []] [yI (kj x ah),yB (ao (!Lib.validD x)=ao true) (by simp;omega)]<|zT 9<|zq<|dk (zV [yJ 6 (d_ x) (by rw [e])])
 have c3:Lib.validD x=true:=by simpa using c2
 have e:=Ee c1 c3
 refine zO Tryz.func46 10<|zq<|zS<|zP 1 [yH [(1,yV (ai (↑x.length:Int))),(2,yV (ao (decide ((1:Int)≤(↑x.length:Int)∧(↑x.length:Int)≤32)))),(3,yV (ao false))]] [.ae [6,2,0] []] [yR (ai (↑x.length:Int)),yI (bo ((↑x.length:Int)) ((1:Int)) ((32:Int))),yB (ao (!decide ((1:Int)≤(↑x.length:Int)∧(↑x.length:Int)≤32))=ao false) (by simp;omega)]<|zF 6<|a_<|zS<|zP 1 [yH [(1,yV (ao (Lib.validD x))),(2,yV (ao false))]] [.ae [9,6,2,0] []] [yI (kj x ah),yB (ao (!Lib.validD x)=ao false) (by simp;omega)]<|zF 9<|a_<|zq<|zR (zV [yJ 0 (d_ x) (by rw [e])])
theorem mh (l:List (List UInt8)) (hl:l.length≤1000000) (hh:∀i,i<l.length->(l.getD i default).length≤1000):bK Tryz.prog 116 [.sl 1 (af ay l)] (ai (ff (mE l) l.length)):=by
 have s6:(af ay l).length=l.length:=by rw [aF (e:=1) (fun _=>rfl)];omega
 refine zO Tryz.func116 33<|zq<|zS<|zq<|zB 0 (zL (fun (i:Nat)=>(⟨[(0,AV.sl 1 (af ay l)),(3,ai i)],[]⟩:AS)) (fun i=>(i≤l.length∧ff (mE l) i=0)) (fun i=>(l.length-i)) (0) ?_ (zW [.ae [0,3] []]) ?_)
 ·exact ⟨ah,rfl⟩
 rintro i ⟨hi,h0⟩
 refine zS<|zP 1 [yH [(2,{k:=(af ay l).length})]] [.ae [8,0,3] []] [yR ((af ay l).length)] (zD 8 ((↑i:Int)<(↑(af ay l).length:Int)) (fun g=>?_) (fun g=>?_))
 ·have dz:i<l.length:=ah
  have gh:=iK dz
  have hA:=hh i dz
  have stop:∀e:Int,e≠0->mE l i=e->ff (mE l) l.length=e:=fun e he h1=>by
   have k2:ff (mE l) (i+1)=mE l i:=by show (if _ then _ else _)=_;rw [if_neg ah]
   rw [ld ah k2 l.length ah,h1]
  by_cases c5:d_ (l.getD i default)=0
  case neg =>
   have k1:=stop _ c5 (Iv rfl c5)
   refine a_<|zS<|zB 1<|zS<|zP 2 [yH [(2,{k:=i}),(3,yV (db (l.getD i default))),(4,yV (ai (d_ (l.getD i default))))],{}] [.ae [17,4,8,0,3] []] [yR (↑i:Int),yO (i<(af ay l).length),yI gh,yI (fz (l.getD i default) hA)]<|du 17 (d_ (l.getD i default) != (0:Int)) (by simp_all)<|zq<|dk<|aY<|aI<|c_<|aY<|aI (zV [yJ (d_ (l.getD i default)) (ff (mE l) l.length) (by rw [k1])])
  by_cases c6:0<i
  ·obtain ⟨k,hk⟩:∃k,k+1=i:=⟨i-1,ah⟩
   have xZ:=iK (l:=l) (i:=k) ah
   have c8:=Iu c5 hk
   by_cases c7:FA (l.getD i default) (l.getD k default)=true
   ·have k1:=stop 7 ah (by rw [c8,if_pos c7])
    refine a_<|zS<|zB 1<|zS<|zP 2 [yH [(2,{k:=i}),(3,yV (db (l.getD i default))),(4,yV (ai (d_ (l.getD i default))))],{}] [.ae [17,4,8,0,3] []] [yR (↑i:Int),yO (i<(af ay l).length),yI gh,yI (fz (l.getD i default) hA)]<|bj 17 (d_ (l.getD i default) != (0:Int)) (by simp_all)<|a_<|zP 1 [{hs:=[(5,{k:=i}),(6,yV (db (l.getD i default))),(9,yV (ai ↑k)),(10,{k:=k}),(11,yV (db (l.getD k default)))],T:=12}] [.ae [32,17,4,8,0,3] []] (yM 3 (yT ((↑i:Int)>0))++ [yR (↑i:Int),yO (i<(af ay l).length),yT ((↑i:Int)>0),yI gh]++yM 3 (yT ((↑i:Int)>0))++ [yB (ai (IntKind.i64.wrap ((↑i:Int)-1))=ai ↑k) (congrArg (fun n=>AV.val (.int .i64 n)) (by rw [IntKind.wrap_i64];omega)),yT ((↑i:Int)>0),yR (↑k:Int),yO (k<(af ay l).length),yT ((↑i:Int)>0),yI xZ]++yM 2 (yT ((↑i:Int)>0)))<|du 32 (Op.bytesLess (ByteArray.mk (l.getD i default).toArray).toList (ByteArray.mk (l.getD k default).toArray).toList || (ByteArray.mk (l.getD i default).toArray).toList == (ByteArray.mk (l.getD k default).toArray).toList) (by assumption)<|zq<|zR<|aY<|aI<|c_<|aY<|aI (zV [yJ 7 (ff (mE l) l.length) (by rw [k1])])
   ·have c9:FA (l.getD i default) (l.getD k default)=false:=by simpa using c7
    rw [if_neg c7] at c8
    refine a_<|zS<|zB 1<|zS<|zP 2 [yH [(2,{k:=i}),(3,yV (db (l.getD i default))),(4,yV (ai (d_ (l.getD i default))))],{}] [.ae [17,4,8,0,3] []] [yR (↑i:Int),yO (i<(af ay l).length),yI gh,yI (fz (l.getD i default) hA)]<|bj 17 (d_ (l.getD i default) != (0:Int)) (by simp_all)<|a_<|zP 1 [{hs:=[(5,{k:=i}),(6,yV (db (l.getD i default))),(9,yV (ai ↑k)),(10,{k:=k}),(11,yV (db (l.getD k default)))],T:=12}] [.ae [32,17,4,8,0,3] []] (yM 3 (yT ((↑i:Int)>0))++ [yR (↑i:Int),yO (i<(af ay l).length),yT ((↑i:Int)>0),yI gh]++yM 3 (yT ((↑i:Int)>0))++ [yB (ai (IntKind.i64.wrap ((↑i:Int)-1))=ai ↑k) (congrArg (fun n=>AV.val (.int .i64 n)) (by rw [IntKind.wrap_i64];omega)),yT ((↑i:Int)>0),yR (↑k:Int),yO (k<(af ay l).length),yT ((↑i:Int)>0),yI xZ]++yM 2 (yT ((↑i:Int)>0)))<|bj 32 (Op.bytesLess (ByteArray.mk (l.getD i default).toArray).toList (ByteArray.mk (l.getD k default).toArray).toList || (ByteArray.mk (l.getD i default).toArray).toList == (ByteArray.mk (l.getD k default).toArray).toList) (by assumption)<|zK<|aM<|ak<|zX (yH [(1,yV (ai ((↑i:Int)+1)))]) [yN ((↑i:Int)+1)] (aJ (i+1) ⟨ah,by show (if _ then _ else _)=_;rw [if_neg ah,c8]⟩ ah (zW [.ae [0,3] []]))
  ·have e:i=0:=ah
   have h1:mE l i=0:=by subst e;exact Ez c5
   refine a_<|zS<|zB 1<|zS<|zP 2 [yH [(2,{k:=i}),(3,yV (db (l.getD i default))),(4,yV (ai (d_ (l.getD i default))))],{}] [.ae [17,4,8,0,3] []] [yR (↑i:Int),yO (i<(af ay l).length),yI gh,yI (fz (l.getD i default) hA)]<|bj 17 (d_ (l.getD i default) != (0:Int)) (by simp_all)<|a_<|zP 1 [{hs:=[(3,{g:=false}),(4,{g:=false}),(5,{g:=false}),(6,{g:=false}),(7,{g:=false}),(8,{g:=false}),(9,{g:=false}),(10,{g:=false}),(11,{g:=false}),(12,{g:=false}),(13,{b:=false})],T:=12}] [.ae [32,17,4,8,0,3] []] (yM 11 (yF ((↑i:Int)>0)))<|zF 32<|zK<|aM<|ak<|zX (yH [(1,yV (ai ((↑i:Int)+1)))]) [yN ((↑i:Int)+1)] (aJ (i+1) ⟨ah,by show (if _ then _ else _)=_;rw [if_neg ah,h1]⟩ ah (zW [.ae [0,3] []]))
 ·have e:i=l.length:=ah
  subst e
  refine zE 0<|a7<|aO<|bn<|ak<|zq<|zR (zV [yJ 0 (ff (mE l) l.length) (by rw [h0])])
theorem zI (d:m0) (hl:d.aa.length≤1000000):bK Tryz.prog 49 [.agg (bc d),.agg (bc d)] (ao true):=by
 have s6:(af ay d.aa).length=d.aa.length:=by rw [aF (e:=1) (fun _=>rfl)];omega
 refine zO Tryz.func49 73<|zq<|zS<|zP 1 [yH [(2,{k:=(af ay d.aa).length}),(5,{k:=(af ay d.aa).length})]] [.ae [12,4,3,2,0,1] [3,2]] (yM 2 (yR ((af ay d.aa).length)))<|bj 12 ((↑(af ay d.aa).length:Int) != (↑(af ay d.aa).length:Int)) (by simp_all)<|a_<|zS<|zq<|zB 0 (zL (fun (i:Nat)=>(⟨[(12,ao ((↑(af ay d.aa).length:Int) != (↑(af ay d.aa).length:Int))),(3,AV.addr 3 0),(2,AV.addr 2 0),(0,AV.agg (bc d)),(1,AV.agg (bc d)),(5,ai i)],[(3,⟨1,false,true,(bc d)⟩),(2,⟨1,false,true,List.map (aD 3) (List.map (aD 2) (bc d))⟩)]⟩:AS)) (fun i=>(i≤d.aa.length)) (fun i=>(d.aa.length-i)) (0) ?_ (zW [.ae [12,3,2,0,1,5] [3,2]]) ?_)
 ·omega
 intro i hi
 refine zS<|zP 1 [yH [(3,{k:=(af ay d.aa).length})]] [.ae [17,12,3,2,0,1,5] [3,2]] [yR ((af ay d.aa).length)] (zD 17 ((↑i:Int)<(↑(af ay d.aa).length:Int)) (fun g=>?_) (fun g=>?_))
 ·have dz:i<d.aa.length:=ah
  have gh:=iK dz
  refine a_<|zS<|zB 1<|zP 1 [{hs:=[(3,{k:=i}),(4,yV (db (d.aa.getD i default))),(8,{k:=i}),(9,yV (db (d.aa.getD i default))),(10,yV (ao false))],T:=10}] [.ae [30,17,12,3,2,0,1,5] [3,2]] [yR (↑i:Int),yO (i<(af ay d.aa).length),yI gh,yR (↑i:Int),yO (i<(af ay d.aa).length),yI gh,yB (ao (!(ByteArray.mk (d.aa.getD i default).toArray).toList == (ByteArray.mk (d.aa.getD i default).toArray).toList)=ao false) (by simp)]<|zF 30<|zK<|aM<|ak<|zX (yH [(1,yV (ai ((↑i:Int)+1)))]) [yN ((↑i:Int)+1)] (aJ (i+1) (by assumption) ah (zW [.ae [12,3,2,0,1,5] [3,2]]))
 ·skip
  refine zE 0<|a7<|aO<|bn<|ak<|zP 1 [yH [(4,yV (ao true)),(10,yV (ao true)),(15,yV (db d.box)),(18,yV (db d.box)),(19,yV (ao true)),(26,yV (ao (d.au == d.au))),(33,yV (ao true)),(40,yV (ao true))]] [.ae [4,17,12,3,2,0,1,5] [3,2]] ([yB (ao (wv d.bR == wv d.bR)=ao true) (by simp)]++yM 5 (yR true)++ [yB (ao (wv d.peer == wv d.peer)=ao true) (by simp)]++yM 4 (yR true)++ [yR (ag d.box)]++yM 3 (yR true)++ [yR (ag d.box),yR true,yB (ao ((ByteArray.mk d.box.toArray).toList == (ByteArray.mk d.box.toArray).toList)=ao true) (by simp)]++yM 6 (yR true)++ [yI (vv d.au d.au),yR true]++yM 5 (yS ((d.au == d.au)=true))++ [yS (ao (d.need == d.need)=ao true),yS ((d.au == d.au)=true)]++yM 5 (yR true)++ [yB (ao (wv d.target == wv d.target)=ao true) (by simp),yR true])<|zR (bV)
theorem BN (l:List (List UInt8)):cE (af ay l):=by
 intro x hx
 unfold af at hx
 obtain ⟨s,_,hs⟩:=List.mem_flatMap.1 hx
 simp [ay] at hs
 subst hs;rfl
theorem LR {T:Type} (f:Nat->T) (i:Nat):(List.range i).map f++ [f i]=(List.range (i+1)).map f:=by simp [List.range_succ]
theorem tT (seed:UInt64) (aW:Int) (l:List (List UInt8)) (need:Int) (hl:l.length≤1000000) (hh:∀i,i<l.length->(l.getD i default).length≤1000):bK Tryz.prog 71 [aw seed,ai aW,.sl 1 (af ay l),ai need] (.bq [.agg (Ql (fF seed aW l need)),.own 1 (af sM (sD seed aW l need)),ai (qT l need)]):=by
 have s6:(af ay l).length=l.length:=by rw [aF (e:=1) (fun _=>rfl)];omega
 by_cases hb:nO l.length need
 ·have e1:qT l need=9:=by unfold qT;rw [if_pos hb]
  have e2:fF seed aW l need=default:=by unfold fF;rw [if_neg ah]
  have e3:sD seed aW l need= []:=by unfold sD;rw [if_neg ah]
  by_cases c1:1≤l.length∧l.length≤8
  ·have c4:¬(1≤need∧need≤l.length):=by unfold nO at hb;omega
   refine zO Tryz.func71 99<|zq<|zS<|zP 1 [yH ([(1,{k:=(af ay l).length}),(2,yV (ao (decide ((1:Int)≤(↑(af ay l).length:Int)∧(↑(af ay l).length:Int)≤8)))),(3,yV (ao false)),(7,{k:=(af ay l).length,g:=false}),(8,{av:=some (ao (decide ((1:Int)≤need∧need≤(↑(af ay l).length:Int)))),g:=false}),(9,{av:=some (ao true),g:=false}),(10,{b:=false})]++yg [5,6])] [.ae [29,10,9,8,0,1,2,3] [8]] ([yR ((af ay l).length),yI (bo (↑(af ay l).length:Int) ((1:Int)) ((8:Int))),yB (ao (!decide ((1:Int)≤(↑(af ay l).length:Int)∧(↑(af ay l).length:Int)≤8))=ao false) (by simp;omega)]++yM 3 (yR false)++ [yR ((af ay l).length),yR false,yI (bo need ((1:Int)) (↑(af ay l).length:Int)),yR false,yB (ao (!decide ((1:Int)≤need∧need≤(↑(af ay l).length:Int)))=ao true) (by simp;omega),yR false])<|zT 29<|zP 1 [{}] [.ae [10,9,29,8,0,1,2,3] [8]] [yL 7 7]<|dk (zV [yK 0 (wv (fF seed aW l need).bR) (by rw [e2];rfl),yK 0 (wv (fF seed aW l need).peer) (by rw [e2];rfl),yB (ag (fF seed aW l need).box= []) (by rw [e2];rfl),yB (af ay (fF seed aW l need).aa= []) (by rw [e2];rfl),yB (aj (fF seed aW l need).au= []) (by rw [e2];rfl),yJ 0 ((fF seed aW l need).need) (by rw [e2];rfl),yK 0 (wv (fF seed aW l need).target) (by rw [e2];rfl),yB (af sM (sD seed aW l need)= []) (by rw [e3];rfl),yJ 9 (qT l need) (by rw [e1])])
  ·refine zO Tryz.func71 99<|zq<|zS<|zP 1 [yH [(1,{k:=(af ay l).length}),(2,yV (ao (decide ((1:Int)≤(↑(af ay l).length:Int)∧(↑(af ay l).length:Int)≤8)))),(3,yV (ao true))]] [.ae [29,10,9,8,0,1,2,3] [8]] ([yR ((af ay l).length),yI (bo (↑(af ay l).length:Int) ((1:Int)) ((8:Int))),yB (ao (!decide ((1:Int)≤(↑(af ay l).length:Int)∧(↑(af ay l).length:Int)≤8))=ao true) (by simp;omega)]++yM 6 (yR true))<|zT 29<|zP 1 [{}] [.ae [10,9,29,8,0,1,2,3] [8]] [yL 7 7]<|dk (zV [yK 0 (wv (fF seed aW l need).bR) (by rw [e2];rfl),yK 0 (wv (fF seed aW l need).peer) (by rw [e2];rfl),yB (ag (fF seed aW l need).box= []) (by rw [e2];rfl),yB (af ay (fF seed aW l need).aa= []) (by rw [e2];rfl),yB (aj (fF seed aW l need).au= []) (by rw [e2];rfl),yJ 0 ((fF seed aW l need).need) (by rw [e2];rfl),yK 0 (wv (fF seed aW l need).target) (by rw [e2];rfl),yB (af sM (sD seed aW l need)= []) (by rw [e3];rfl),yJ 9 (qT l need) (by rw [e1])])
 have e0:qT l need=ff (mE l) l.length:=by unfold qT;rw [if_neg hb]
 have J4:1≤l.length∧l.length≤8∧1≤need∧need≤l.length:=by unfold nO at hb;omega
 by_cases h0:ff (mE l) l.length=0
 case neg =>
  have e2:fF seed aW l need=default:=by unfold fF;rw [if_neg ah]
  have e3:sD seed aW l need= []:=by unfold sD;rw [if_neg ah]
  refine zO Tryz.func71 99<|zq<|zS<|zP 1 [yH ([(1,{k:=(af ay l).length}),(2,yV (ao (decide ((1:Int)≤(↑(af ay l).length:Int)∧(↑(af ay l).length:Int)≤8)))),(3,yV (ao false)),(7,{k:=(af ay l).length,g:=false}),(8,{av:=some (ao (decide ((1:Int)≤need∧need≤(↑(af ay l).length:Int)))),g:=false}),(9,{av:=some (ao false),g:=false}),(10,{b:=false})]++yg [5,6])] [.ae [29,10,9,8,0,1,2,3] [8]] ([yR ((af ay l).length),yI (bo (↑(af ay l).length:Int) ((1:Int)) ((8:Int))),yB (ao (!decide ((1:Int)≤(↑(af ay l).length:Int)∧(↑(af ay l).length:Int)≤8))=ao false) (by simp;omega)]++yM 3 (yR false)++ [yR ((af ay l).length),yR false,yI (bo need ((1:Int)) (↑(af ay l).length:Int)),yR false,yB (ao (!decide ((1:Int)≤need∧need≤(↑(af ay l).length:Int)))=ao false) (by simp;omega),yR false])<|zF 29<|a_<|zS<|zP 2 [yH [(1,yV (ai (ff (mE l) l.length)))],yH [(1,yV (ao true))]] [.ae [34,11,29,10,9,8,0,1,2,3] [8]] [yI (mh l hl hh),yB (ao (ff (mE l) l.length != (0:Int))=ao true) (by simp;omega)]<|zT 34<|zP 1 [{}] [.ae [10,9,34,11,29,8,0,1,2,3] [8]] [yL 7 7]<|dk (zV [yK 0 (wv (fF seed aW l need).bR) (by rw [e2];rfl),yK 0 (wv (fF seed aW l need).peer) (by rw [e2];rfl),yB (ag (fF seed aW l need).box= []) (by rw [e2];rfl),yB (af ay (fF seed aW l need).aa= []) (by rw [e2];rfl),yB (aj (fF seed aW l need).au= []) (by rw [e2];rfl),yJ 0 ((fF seed aW l need).need) (by rw [e2];rfl),yK 0 (wv (fF seed aW l need).target) (by rw [e2];rfl),yB (af sM (sD seed aW l need)= []) (by rw [e3];rfl),yJ (ff (mE l) l.length) (qT l need) (by rw [e0])])
 have e1:qT l need=0:=by rw [e0,h0]
 have Pu:(stream (derive seed [115,104,97,114,101,115] aW) 0 (8*(need-1))).length=(8*(need-1)).toNat:=by
  rw [tG];unfold iL;omega
 have Tj:(words [Kn seed aW]).length=8:=by rw [dV];rfl
 have QJ:dq (words [Kn seed aW]) (stream (derive seed [115,104,97,114,101,115] aW) 0 (8*(need-1))) need l.length=0:=by
  unfold dq
  rw [if_neg ah,if_neg ah,if_neg (by rw [Pu,Tj];omega)]
 have Ux:(Hd seed aW l.length need).length=l.length:=by unfold Hd iM;rw [if_pos QJ];simp
 have Pv:dq (words [derive seed [100,101,112,111,115,105,116] aW]) (stream (derive seed [115,104,97,114,101,115] aW) 0 (8*(need-1))) need l.length=0:=QJ
 have RE:(iM (words [derive seed [100,101,112,111,115,105,116] aW]) (stream (derive seed [115,104,97,114,101,115] aW) 0 (8*(need-1))) need l.length).length=l.length:=Ux
 have Sd:∀i,i<l.length->((iM (words [derive seed [100,101,112,111,115,105,116] aW]) (stream (derive seed [115,104,97,114,101,115] aW) 0 (8*(need-1))) need l.length).getD i default).2.length=8:=fun i hi=>by
  rw [iM,if_pos Pv,Int.toNat_natCast,B8 _ _ hi]
  show (xe _ _ _ _).length=8
  unfold xe
  rw [List.length_map,List.length_range]
  exact Tj
 have oP:=BN l
 refine zO Tryz.func71 99 ?_
 have Uy:dq (words [derive seed [100,101,112,111,115,105,116] aW]) (stream (derive seed [115,104,97,114,101,115] aW) 0 (8*(need-1))) need (af ay l).length=0:=by rw [s6];exact Pv
 have Uw:(iM (words [derive seed [100,101,112,111,115,105,116] aW]) (stream (derive seed [115,104,97,114,101,115] aW) 0 (8*(need-1))) need (af ay l).length).length=l.length:=by rw [s6];exact RE
 have P3:∀i,i<l.length->((iM (words [derive seed [100,101,112,111,115,105,116] aW]) (stream (derive seed [115,104,97,114,101,115] aW) 0 (8*(need-1))) need (af ay l).length).getD i default).2.length=8:=by rw [s6];exact Sd
 refine zq<|zS<|zP 1 [yH ([(1,{k:=(af ay l).length}),(2,yV (ao (decide ((1:Int)≤(↑(af ay l).length:Int)∧(↑(af ay l).length:Int)≤8)))),(3,yV (ao false)),(7,{k:=(af ay l).length,g:=false}),(8,{av:=some (ao (decide ((1:Int)≤need∧need≤(↑(af ay l).length:Int)))),g:=false}),(9,{av:=some (ao false),g:=false}),(10,{b:=false})]++yg [5,6])] [.ae [29,10,9,8,0,1,2,3] [8]] ([yR ((af ay l).length),yI (bo (↑(af ay l).length:Int) ((1:Int)) ((8:Int))),yB (ao (!decide ((1:Int)≤(↑(af ay l).length:Int)∧(↑(af ay l).length:Int)≤8))=ao false) (by simp;omega)]++yM 3 (yR false)++ [yR ((af ay l).length),yR false,yI (bo need ((1:Int)) (↑(af ay l).length:Int)),yR false,yB (ao (!decide ((1:Int)≤need∧need≤(↑(af ay l).length:Int)))=ao false) (by simp;omega),yR false])<|zF 29<|a_<|zS<|zP 2 [yH [(1,yV (ai (ff (mE l) l.length)))],yH [(1,yV (ao false))]] [.ae [34,11,29,10,9,8,0,1,2,3] [8]] [yI (mh l hl hh),yB (ao (ff (mE l) l.length != (0:Int))=ao false) (by simp;omega)]<|zF 34<|a_<|zP 3 [yH [(2,yV (aw (derive seed [100,101,112,111,115,105,116] aW)))],yH [(2,yV (aw (derive seed [115,104,97,114,101,115] aW))),(4,yV (ai (need-1))),(5,yV (ai ((8:Int)*(need-1)))),(6,yV (AV.own 1 (ag (stream (derive seed [115,104,97,114,101,115] aW) 0 ((8:Int)*(need-1))))))],yH [(1,yV (AV.arr (aj [derive seed [100,101,112,111,115,105,116] aW]))),(2,yV (AV.own 1 (ag (words [derive seed [100,101,112,111,115,105,116] aW])))),(6,{k:=(af ay l).length}),(7,{av:=some (AV.bq [AV.own 2 (af dR (iM (words [derive seed [100,101,112,111,115,105,116] aW]) (stream (derive seed [115,104,97,114,101,115] aW) 0 ((8:Int)*(need-1))) need (↑(af ay l).length:Int))),ai (dq (words [derive seed [100,101,112,111,115,105,116] aW]) (stream (derive seed [115,104,97,114,101,115] aW) 0 ((8:Int)*(need-1))) need (↑(af ay l).length:Int))]),b:=false})]] [.ae [15,14,13,12,34,11,29,10,9,8,0,1,2,3] [1055,8]] [yI (oK seed [100,101,112,111,115,105,116] aW (by simp [h0])),yI (oK seed [115,104,97,114,101,115] aW (by simp [h0])),yN (need-1),yN ((8:Int)*(need-1)),yI (oI (derive seed [115,104,97,114,101,115] aW) 0 ((8:Int)*(need-1))),yI (aR (stream (derive seed [115,104,97,114,101,115] aW) 0 ((8:Int)*(need-1)))),yR [aw (derive seed [100,101,112,111,115,105,116] aW)],yI (dB [derive seed [100,101,112,111,115,105,116] aW] (by simp [h0])),yI (aR (words [derive seed [100,101,112,111,115,105,116] aW])),yR ((af ay l).length),yI (xo (words [derive seed [100,101,112,111,115,105,116] aW]) (stream (derive seed [115,104,97,114,101,115] aW) 0 ((8:Int)*(need-1))) need (↑(af ay l).length:Int))]<|zS<|zP 1 [yH [(1,yV (ao false))]] [.ae [59,15,14,13,12,34,11,29,10,9,8,0,1,2,3] [1055,8]] [yB (ao (dq (words [derive seed [100,101,112,111,115,105,116] aW]) (stream (derive seed [115,104,97,114,101,115] aW) 0 ((8:Int)*(need-1))) need (↑(af ay l).length:Int) != (0:Int))=ao false) (by simp;omega)]<|zF 59<|a_<|zP 2 [yH [(1,yV (aw (Ap (derive seed [100,101,112,111,115,105,116] aW)))),(3,{b:=false})],{}] [.ae [17,16,59,15,14,13,12,34,11,29,10,9,8,0,1,2,3] [16,65,1055,8]] [yI (Af (derive seed [100,101,112,111,115,105,116] aW)),yI oP,yB ((0+(af ay l).length)*16≤140737488355328) (by simp;omega),yL 7 7]<|zS<|bf.i9 1 [{}] bh (s':=AS.mk [(18,ai 0),(17,AV.nil),(16,AV.addr 16 0),(59,ao false),(15,ai (dq (words [derive seed [100,101,112,111,115,105,116] aW]) (stream (derive seed [115,104,97,114,101,115] aW) 0 ((8:Int)*(need-1))) need (↑(af ay l).length:Int))),(14,AV.ref 1055),(13,AV.sl 1 (ag (stream (derive seed [115,104,97,114,101,115] aW) 0 ((8:Int)*(need-1))))),(12,aw (derive seed [100,101,112,111,115,105,116] aW)),(34,ao false),(11,ai (ff (mE l) l.length)),(29,ao false),(10,ai 0),(9,AV.nil),(8,AV.addr 8 0),(0,aw seed),(1,ai aW),(2,AV.sl 1 (af ay l)),(3,ai need)] [(16,Row.mk 1 false true [aw (Ap (derive seed [100,101,112,111,115,105,116] aW)),cO,AV.nil,AV.ref 65,AV.nil,ai need,cO]),(65,Row.mk 1 true false (af ay l)),(1055,Row.mk 2 true false (af dR (iM (words [derive seed [100,101,112,111,115,105,116] aW]) (stream (derive seed [115,104,97,114,101,115] aW) 0 ((8:Int)*(need-1))) need (↑(af ay l).length:Int)))),(8,Row.mk 1 false true [cO,cO,AV.nil,AV.nil,AV.nil,ai 0,cO])]) (C:=[]) bh trivial<|zB 0 ?_
 have TU:Hd seed aW l.length need=iM (words [derive seed [100,101,112,111,115,105,116] aW]) (stream (derive seed [115,104,97,114,101,115] aW) 0 (8*(need-1))) need (af ay l).length:=by rw [s6];rfl
 generalize hL:iM (words [derive seed [100,101,112,111,115,105,116] aW]) (stream (derive seed [115,104,97,114,101,115] aW) 0 (8*(need-1))) need (af ay l).length=L at *
 refine bf.oR (bS.Lz 16 4 87 1 (r:=⟨1,false,true,[aw (Ap (derive seed [100,101,112,111,115,105,116] aW)),cO,.nil,.ref 65,.nil,ai need,cO]⟩) bh rfl rfl bh) (zL (fun (i:Nat)=>(⟨[(16,AV.addr 16 0),(59,ao false),(15,ai (dq (words [derive seed [100,101,112,111,115,105,116] aW]) (stream (derive seed [115,104,97,114,101,115] aW) 0 ((8:Int)*(need-1))) need (↑(af ay l).length:Int))),(14,AV.ref 1055),(13,AV.sl 1 (ag (stream (derive seed [115,104,97,114,101,115] aW) 0 ((8:Int)*(need-1))))),(12,aw (derive seed [100,101,112,111,115,105,116] aW)),(34,ao false),(11,ai (ff (mE l) l.length)),(29,ao false),(10,ai 0),(9,AV.nil),(8,AV.addr 8 0),(0,aw seed),(1,ai aW),(2,AV.sl 1 (af ay l)),(3,ai need),(18,ai i),(17,AV.ref 96)],[(1055,⟨2,true,false,af dR L⟩),(8,⟨1,false,true,[cO,cO,AV.nil,AV.nil,AV.nil,ai 0,cO]⟩),(16,⟨1,false,true,[aw (Ap (derive seed [100,101,112,111,115,105,116] aW)),cO,.nil,.ref 65,.ref 87,ai need,cO]⟩),(65,⟨1,true,false,af ay l⟩),(87,⟨1,true,false,aj ((List.range i).map fun k=>oC (l.getD k default) (L.getD k default).2)⟩),(96,⟨1,true,false,af sM ((List.range i).map fun k=>(L.getD k default).2)⟩)]⟩:AS)) (fun i=>(i≤l.length)) (fun i=>(l.length-i)) (0) ?_ (zW [.nil 17 96 1,.ae [16,59,15,14,13,12,34,11,29,10,9,8,0,1,2,3,18,17] [1055,8,16,65,87,96]]) ?_)
 ·omega
 intro i hi
 refine zS<|zP 1 [yH [(2,{k:=(af ay l).length})]] [.ae [71,16,59,15,14,13,12,34,11,29,10,9,8,0,1,2,3,18,17] [1055,8,16,65,87,96]] [yR ((af ay l).length)] (zD 71 ((↑i:Int)<(↑(af ay l).length:Int)) (fun g=>?_) (fun g=>?_))
 ·have dz:i<l.length:=ah
  have gh:=iK dz
  have hA:=hh i dz
  have Wh:=P3 i dz
  have q1:=congrArg aj (LR (fun k=>oC (l.getD k default) (L.getD k default).2) i)
  have q2:af sM ((List.range i).map fun k=>(L.getD k default).2)++ [AV.sl 1 (ag (L.getD i default).2)]=af sM ((List.range (i+1)).map fun k=>(L.getD k default).2):=by
   rw [←LR,←fB];rfl
  refine a_<|zS<|zB 1<|zP 1 [{hs:=[(4,{k:=i}),(5,yV (db (l.getD i default))),(8,{k:=i}),(10,yV (AV.sl 1 (ag (L.getD i default).snd))),(11,yV (aw (oC (l.getD i default) (L.getD i default).snd))),(12,yV (AV.arr (aj [oC (l.getD i default) (L.getD i default).snd]))),(13,yV (AV.arr (aj (List.map (fun k↦oC (l.getD k default) (L.getD k default).snd) (List.range i)++ [oC (l.getD i default) (L.getD i default).snd]))))],T:=13}] [.ae [71,16,59,15,14,13,12,34,11,29,10,9,8,0,1,2,3,18,17] [16,87,1055,8,65,96]] [yR (↑i:Int),yO (i<(af ay l).length),yI gh,yR (↑i:Int),yB (i*2<(af dR L).length) (by simp only [aF (f:=dR) (e:=2) (fun _=>rfl)];omega),yA dR L i 1,yI (vA (l.getD i default) ((L.getD i default).snd) hA ah),yR [aw (oC (l.getD i default) (L.getD i default).snd)],yB (aj (List.map (fun k↦oC (l.getD k default) (L.getD k default).snd) (List.range i))++aj [oC (l.getD i default) (L.getD i default).snd]=aj (List.map (fun k↦oC (l.getD k default) (L.getD k default).snd) (List.range i)++ [oC (l.getD i default) (L.getD i default).snd])) (je _ _),yB (((aj (List.map (fun k↦oC (l.getD k default) (L.getD k default).snd) (List.range i))).length+1)*8≤140737488355328) (by simp only [aA,List.length_map,List.length_range];omega),yL 5 7]<|zX (yH [(3,{k:=i}),(5,yV (AV.sl 1 (ag (L.getD i default).snd)))]) [yR (↑i:Int),yB (i*2<(af dR L).length) (by simp only [aF (f:=dR) (e:=2) (fun _=>rfl)];omega),yA dR L i 1,yB (((af sM (List.map (fun k↦(L.getD k default).snd) (List.range i))).length+1)*24≤140737488355328) (by simp only [List.length_map,List.length_range,aF (f:=sM) (e:=1) (fun _=>rfl)];omega)]<|aM<|ak<|zX (yH [(1,yV (ai ((↑i:Int)+1)))]) [yN ((↑i:Int)+1)] (aJ (i+1) (by assumption) ah (eK [.ae [16,59,15,14,13,12,34,11,29,10,9,8,0,1,2,3,18,17] [1055,8,16,65,87,96]] [] [87,96] [yI q1,yI q2]))
 ·have e:i=l.length:=ah
  subst e
  have e2:fF seed aW l need=⟨Ap (derive seed [100,101,112,111,115,105,116] aW),0,[],l,(List.range l.length).map (fun k=>oC (l.getD k default) (L.getD k default).2),need,0⟩:=by
   unfold fF;rw [if_pos e1,TU];rfl
  have e3:sD seed aW l need=(List.range l.length).map fun k=>(L.getD k default).2:=by
   unfold sD;rw [if_pos e1,TU]
  refine zE 0<|a7<|aO<|bn<|ak<|zP 1 [{}] [.ae [10,9,71,16,59,15,14,13,12,34,11,29,8,0,1,2,3,18,17] [8,1055,16,65,87,96]] [yL 7 7]<|zR (zV [yK (wv (Ap (derive seed [100,101,112,111,115,105,116] aW))) (wv (fF seed aW l need).bR) (by rw [e2]),yK 0 (wv (fF seed aW l need).peer) (by rw [e2];rfl),yB (ag (fF seed aW l need).box= []) (by rw [e2];rfl),yB (af ay l=af ay (fF seed aW l need).aa) (by rw [e2]),yB (aj (List.map (fun k↦oC (l.getD k default) (L.getD k default).snd) (List.range l.length))=aj (fF seed aW l need).au) (by rw [e2]),yJ need ((fF seed aW l need).need) (by rw [e2]),yK 0 (wv (fF seed aW l need).target) (by rw [e2];rfl),yB (af sM (List.map (fun k↦(L.getD k default).snd) (List.range l.length))=af sM (sD seed aW l need)) (by rw [e3]),yJ 0 (qT l need) (by rw [e1])])
end Go.Proofs.YtjgbhhnghedgdaaGreatDoor
