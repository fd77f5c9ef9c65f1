import Derived.Test.YtjgbhhnghedgdaaGreatDoorZpOt1
set_option linter.all false
namespace Go.Proofs.YtjgbhhnghedgdaaGreatDoor
open Go.RowKit
set_option maxRecDepth 100000
set_option maxHeartbeats 4000000
theorem bn (n lo hi:Int):bK Tryz.prog 78 [ai n,ai lo,ai hi] (ao (decide (lo≤n∧n≤hi))):=by
 by_cases h1:lo≤n
 ·by_cases h2:n≤hi
  ·refine zO Tryz.func78 15<|zP 2 [{},{}] [.aa [6,0,1,2] []] (yM 4 (yT (n≥lo)))<|zR (zV [yB (Value.bool (decide (n≤hi))=Value.bool (decide (lo≤n∧n≤hi))) (by simp [h1,h2])])
  ·refine zO Tryz.func78 15<|zP 2 [{},{}] [.aa [6,0,1,2] []] (yM 4 (yT (n≥lo)))<|zR (zV [yB (Value.bool (decide (n≤hi))=Value.bool (decide (lo≤n∧n≤hi))) (by simp [h1,h2])])
 ·refine zO Tryz.func78 15<|zP 2 [{},yH ([(7,{b:=false})]++yg [4,5,6])] [.aa [6,0,1,2] []] (yM 4 (yF (n≥lo)))<|zR (zV [yB (Value.bool false=Value.bool (decide (lo≤n∧n≤hi))) (by simp [h1])])
theorem fz (x:List UInt8) (hx:x.length≤1000):bK Tryz.prog 46 [cZ x] (ai (dV x)):=by
 by_cases c1:x.length<1∨32<x.length
 ·have e:=pQ c1
  refine zO Tryz.func46 10<|zq<|zS<|zP 1 [yH [(1,yV (ai (↑x.length:Int))),(2,yV (ao (decide ((1:Int)≤(↑x.length:Int)∧(↑x.length:Int)≤32)))),(3,yV (ao true))]] [.aa [6,2,0] []] [yR (ai (↑x.length:Int)),yI (bn ((↑x.length:Int)) ((1:Int)) ((32:Int))),yB (ao (!decide ((1:Int)≤(↑x.length:Int)∧(↑x.length:Int)≤32))=ao true) (by simp;omega)]<|zT 6<|zq<|dt (zV [yJ 9 (dV x) (by rw [e])])
 by_cases c2:Lib.validD x=false
 ·have e:=xq c1 c2
  refine zO Tryz.func46 10<|zq<|zS<|zP 1 [yH [(1,yV (ai (↑x.length:Int))),(2,yV (ao (decide ((1:Int)≤(↑x.length:Int)∧(↑x.length:Int)≤32)))),(3,yV (ao false))]] [.aa [6,2,0] []] [yR (ai (↑x.length:Int)),yI (bn ((↑x.length:Int)) ((1:Int)) ((32:Int))),yB (ao (!decide ((1:Int)≤(↑x.length:Int)∧(↑x.length:Int)≤32))=ao false) (by simp;omega)]<|zF 6<|a7<|zS<|zP 1 [yH [(1,yV (ao (Lib.validD x))),(2,yV (ao true))]] [.aa [9,6,2,0] []] [yI (kb x aj),yB (ao (!Lib.validD x)=ao true) (by simp;omega)]<|zT 9<|zq<|dt (zV [yJ 6 (dV x) (by rw [e])])
 have c3:Lib.validD x=true:=by simpa using c2
 have e:=DR c1 c3
 refine zO Tryz.func46 10<|zq<|zS<|zP 1 [yH [(1,yV (ai (↑x.length:Int))),(2,yV (ao (decide ((1:Int)≤(↑x.length:Int)∧(↑x.length:Int)≤32)))),(3,yV (ao false))]] [.aa [6,2,0] []] [yR (ai (↑x.length:Int)),yI (bn ((↑x.length:Int)) ((1:Int)) ((32:Int))),yB (ao (!decide ((1:Int)≤(↑x.length:Int)∧(↑x.length:Int)≤32))=ao false) (by simp;omega)]<|zF 6<|a7<|zS<|zP 1 [yH [(1,yV (ao (Lib.validD x))),(2,yV (ao false))]] [.aa [9,6,2,0] []] [yI (kb x aj),yB (ao (!Lib.validD x)=ao false) (by simp;omega)]<|zF 9<|a7<|zq<|zR (zV [yJ 0 (dV x) (by rw [e])])
theorem l8 (l:List (List UInt8)) (hl:l.length≤1000000) (hh:∀i,i<l.length->(l.getD i default).length≤1000):bK Tryz.prog 116 [.sl 1 (af ay l)] (ai (ff (mu l) l.length)):=by
 have sQ:(af ay l).length=l.length:=by rw [aE (e:=1) (fun _=>rfl)];omega
 refine zO Tryz.func116 33<|zq<|zS<|zq<|zB 0 (zL (fun (i:Nat)=>(⟨[(0,AV.sl 1 (af ay l)),(3,ai i)],[]⟩:AS)) (fun i=>(i≤l.length∧ff (mu l) i=0)) (fun i=>(l.length-i)) (0) ?_ (zW [.aa [0,3] []]) ?_)
 ·exact ⟨aj,rfl⟩
 rintro i ⟨hi,h0⟩
 refine zS<|zP 1 [yH [(2,{k:=(af ay l).length})]] [.aa [8,0,3] []] [yR ((af ay l).length)] (zD 8 ((↑i:Int)<(↑(af ay l).length:Int)) (fun g=>?_) (fun g=>?_))
 ·have dD:i<l.length:=aj
  have gT:=jn dD
  have hA:=hh i dD
  have stop:∀e:Int,e≠0->mu l i=e->ff (mu l) l.length=e:=fun e he h1=>by
   have k2:ff (mu l) (i+1)=mu l i:=by show (if _ then _ else _)=_;rw [if_neg aj]
   rw [k9 aj k2 l.length aj,h1]
  by_cases c5:dV (l.getD i default)=0
  case neg =>
   have k1:=stop _ c5 (H7 rfl c5)
   refine a7<|zS<|zB 1<|zS<|zP 2 [yH [(2,{k:=i}),(3,yV (cZ (l.getD i default))),(4,yV (ai (dV (l.getD i default))))],{}] [.aa [17,4,8,0,3] []] [yR (↑i:Int),yO (i<(af ay l).length),yI gT,yI (fz (l.getD i default) hA)]<|dr 17 (dV (l.getD i default) != (0:Int)) (by simp_all)<|zq<|dt<|bc<|aK<|dz<|bc<|aK (zV [yJ (dV (l.getD i default)) (ff (mu l) l.length) (by rw [k1])])
  by_cases c6:0<i
  ·obtain ⟨k,hk⟩:∃k,k+1=i:=⟨i-1,aj⟩
   have xO:=jn (l:=l) (i:=k) aj
   have c8:=H6 c5 hk
   by_cases c7:Fa (l.getD i default) (l.getD k default)=true
   ·have k1:=stop 7 aj (by rw [c8,if_pos c7])
    refine a7<|zS<|zB 1<|zS<|zP 2 [yH [(2,{k:=i}),(3,yV (cZ (l.getD i default))),(4,yV (ai (dV (l.getD i default))))],{}] [.aa [17,4,8,0,3] []] [yR (↑i:Int),yO (i<(af ay l).length),yI gT,yI (fz (l.getD i default) hA)]<|bj 17 (dV (l.getD i default) != (0:Int)) (by simp_all)<|a7<|zP 1 [{hs:=[(5,{k:=i}),(6,yV (cZ (l.getD i default))),(9,yV (ai ↑k)),(10,{k:=k}),(11,yV (cZ (l.getD k default)))],T:=12}] [.aa [32,17,4,8,0,3] []] (yM 3 (yT ((↑i:Int)>0))++ [yR (↑i:Int),yO (i<(af ay l).length),yT ((↑i:Int)>0),yI gT]++yM 3 (yT ((↑i:Int)>0))++ [yB (ai (IntKind.i64.wrap ((↑i:Int)-1))=ai ↑k) (congrArg (fun n=>AV.val (.int .i64 n)) (by rw [IntKind.wrap_i64];omega)),yT ((↑i:Int)>0),yR (↑k:Int),yO (k<(af ay l).length),yT ((↑i:Int)>0),yI xO]++yM 2 (yT ((↑i:Int)>0)))<|dr 32 (Op.bytesLess (ByteArray.mk (l.getD i default).toArray).toList (ByteArray.mk (l.getD k default).toArray).toList || (ByteArray.mk (l.getD i default).toArray).toList == (ByteArray.mk (l.getD k default).toArray).toList) (by assumption)<|zq<|zR<|bc<|aK<|dz<|bc<|aK (zV [yJ 7 (ff (mu l) l.length) (by rw [k1])])
   ·have c9:Fa (l.getD i default) (l.getD k default)=false:=by simpa using c7
    rw [if_neg c7] at c8
    refine a7<|zS<|zB 1<|zS<|zP 2 [yH [(2,{k:=i}),(3,yV (cZ (l.getD i default))),(4,yV (ai (dV (l.getD i default))))],{}] [.aa [17,4,8,0,3] []] [yR (↑i:Int),yO (i<(af ay l).length),yI gT,yI (fz (l.getD i default) hA)]<|bj 17 (dV (l.getD i default) != (0:Int)) (by simp_all)<|a7<|zP 1 [{hs:=[(5,{k:=i}),(6,yV (cZ (l.getD i default))),(9,yV (ai ↑k)),(10,{k:=k}),(11,yV (cZ (l.getD k default)))],T:=12}] [.aa [32,17,4,8,0,3] []] (yM 3 (yT ((↑i:Int)>0))++ [yR (↑i:Int),yO (i<(af ay l).length),yT ((↑i:Int)>0),yI gT]++yM 3 (yT ((↑i:Int)>0))++ [yB (ai (IntKind.i64.wrap ((↑i:Int)-1))=ai ↑k) (congrArg (fun n=>AV.val (.int .i64 n)) (by rw [IntKind.wrap_i64];omega)),yT ((↑i:Int)>0),yR (↑k:Int),yO (k<(af ay l).length),yT ((↑i:Int)>0),yI xO]++yM 2 (yT ((↑i:Int)>0)))<|bj 32 (Op.bytesLess (ByteArray.mk (l.getD i default).toArray).toList (ByteArray.mk (l.getD k default).toArray).toList || (ByteArray.mk (l.getD i default).toArray).toList == (ByteArray.mk (l.getD k default).toArray).toList) (by assumption)<|zK<|aL<|ak<|zX (yH [(1,yV (ai ((↑i:Int)+1)))]) [yN ((↑i:Int)+1)] (aH (i+1) ⟨aj,by show (if _ then _ else _)=_;rw [if_neg aj,c8]⟩ aj (zW [.aa [0,3] []]))
  ·have e:i=0:=aj
   have h1:mu l i=0:=by subst e;exact Ed c5
   refine a7<|zS<|zB 1<|zS<|zP 2 [yH [(2,{k:=i}),(3,yV (cZ (l.getD i default))),(4,yV (ai (dV (l.getD i default))))],{}] [.aa [17,4,8,0,3] []] [yR (↑i:Int),yO (i<(af ay l).length),yI gT,yI (fz (l.getD i default) hA)]<|bj 17 (dV (l.getD i default) != (0:Int)) (by simp_all)<|a7<|zP 1 [{hs:=[(3,{g:=false}),(4,{g:=false}),(5,{g:=false}),(6,{g:=false}),(7,{g:=false}),(8,{g:=false}),(9,{g:=false}),(10,{g:=false}),(11,{g:=false}),(12,{g:=false}),(13,{b:=false})],T:=12}] [.aa [32,17,4,8,0,3] []] (yM 11 (yF ((↑i:Int)>0)))<|zF 32<|zK<|aL<|ak<|zX (yH [(1,yV (ai ((↑i:Int)+1)))]) [yN ((↑i:Int)+1)] (aH (i+1) ⟨aj,by show (if _ then _ else _)=_;rw [if_neg aj,h1]⟩ aj (zW [.aa [0,3] []]))
 ·have e:i=l.length:=aj
  subst e
  refine zE 0<|a_<|aP<|bo<|ak<|zq<|zR (zV [yJ 0 (ff (mu l) l.length) (by rw [h0])])
theorem zn (d:mU) (hl:d.ae.length≤1000000):bK Tryz.prog 49 [.agg (bg d),.agg (bg d)] (ao true):=by
 have sQ:(af ay d.ae).length=d.ae.length:=by rw [aE (e:=1) (fun _=>rfl)];omega
 refine zO Tryz.func49 73<|zq<|zS<|zP 1 [yH [(2,{k:=(af ay d.ae).length}),(5,{k:=(af ay d.ae).length})]] [.aa [12,4,3,2,0,1] [3,2]] (yM 2 (yR ((af ay d.ae).length)))<|bj 12 ((↑(af ay d.ae).length:Int) != (↑(af ay d.ae).length:Int)) (by simp_all)<|a7<|zS<|zq<|zB 0 (zL (fun (i:Nat)=>(⟨[(12,ao ((↑(af ay d.ae).length:Int) != (↑(af ay d.ae).length:Int))),(3,AV.addr 3 0),(2,AV.addr 2 0),(0,AV.agg (bg d)),(1,AV.agg (bg d)),(5,ai i)],[(3,⟨1,false,true,(bg d)⟩),(2,⟨1,false,true,List.map (aR 3) (List.map (aR 2) (bg d))⟩)]⟩:AS)) (fun i=>(i≤d.ae.length)) (fun i=>(d.ae.length-i)) (0) ?_ (zW [.aa [12,3,2,0,1,5] [3,2]]) ?_)
 ·omega
 intro i hi
 refine zS<|zP 1 [yH [(3,{k:=(af ay d.ae).length})]] [.aa [17,12,3,2,0,1,5] [3,2]] [yR ((af ay d.ae).length)] (zD 17 ((↑i:Int)<(↑(af ay d.ae).length:Int)) (fun g=>?_) (fun g=>?_))
 ·have dD:i<d.ae.length:=aj
  have gT:=jn dD
  refine a7<|zS<|zB 1<|zP 1 [{hs:=[(3,{k:=i}),(4,yV (cZ (d.ae.getD i default))),(8,{k:=i}),(9,yV (cZ (d.ae.getD i default))),(10,yV (ao false))],T:=10}] [.aa [30,17,12,3,2,0,1,5] [3,2]] [yR (↑i:Int),yO (i<(af ay d.ae).length),yI gT,yR (↑i:Int),yO (i<(af ay d.ae).length),yI gT,yB (ao (!(ByteArray.mk (d.ae.getD i default).toArray).toList == (ByteArray.mk (d.ae.getD i default).toArray).toList)=ao false) (by simp)]<|zF 30<|zK<|aL<|ak<|zX (yH [(1,yV (ai ((↑i:Int)+1)))]) [yN ((↑i:Int)+1)] (aH (i+1) (by assumption) aj (zW [.aa [12,3,2,0,1,5] [3,2]]))
 ·skip
  refine zE 0<|a_<|aP<|bo<|ak<|zP 1 [yH [(4,yV (ao true)),(10,yV (ao true)),(15,yV (cZ d.box)),(18,yV (cZ d.box)),(19,yV (ao true)),(26,yV (ao (d.au == d.au))),(33,yV (ao true)),(40,yV (ao true))]] [.aa [4,17,12,3,2,0,1,5] [3,2]] ([yB (ao (wv d.bF == wv d.bF)=ao true) (by simp)]++yM 5 (yR true)++ [yB (ao (wv d.peer == wv d.peer)=ao true) (by simp)]++yM 4 (yR true)++ [yR (ag d.box)]++yM 3 (yR true)++ [yR (ag d.box),yR true,yB (ao ((ByteArray.mk d.box.toArray).toList == (ByteArray.mk d.box.toArray).toList)=ao true) (by simp)]++yM 6 (yR true)++ [yI (vl d.au d.au),yR true]++yM 5 (yS ((d.au == d.au)=true))++ [yS (ao (d.need == d.need)=ao true),yS ((d.au == d.au)=true)]++yM 5 (yR true)++ [yB (ao (wv d.target == wv d.target)=ao true) (by simp),yR true])<|zR (bU)
theorem BC (l:List (List UInt8)):cH (af ay l):=by
 intro x hx
 unfold af at hx
 obtain ⟨s,_,hs⟩:=List.mem_flatMap.1 hx
 simp [ay] at hs
 subst hs;rfl
theorem Ls {T:Type} (f:Nat->T) (i:Nat):(List.range i).map f++ [f i]=(List.range (i+1)).map f:=by simp [List.range_succ]
theorem tL (seed:UInt64) (aW:Int) (l:List (List UInt8)) (need:Int) (hl:l.length≤1000000) (hh:∀i,i<l.length->(l.getD i default).length≤1000):bK Tryz.prog 71 [aw seed,ai aW,.sl 1 (af ay l),ai need] (.br [.agg (PU (fF seed aW l need)),.own 1 (af sD (sn seed aW l need)),ai (qK l need)]):=by
 have sQ:(af ay l).length=l.length:=by rw [aE (e:=1) (fun _=>rfl)];omega
 by_cases hb:nD l.length need
 ·have e1:qK l need=9:=by unfold qK;rw [if_pos hb]
  have e2:fF seed aW l need=default:=by unfold fF;rw [if_neg aj]
  have e3:sn seed aW l need= []:=by unfold sn;rw [if_neg aj]
  by_cases c1:1≤l.length∧l.length≤8
  ·have c4:¬(1≤need∧need≤l.length):=by unfold nD at hb;omega
   refine zO Tryz.func71 99<|zq<|zS<|zP 1 [yH ([(1,{k:=(af ay l).length}),(2,yV (ao (decide ((1:Int)≤(↑(af ay l).length:Int)∧(↑(af ay l).length:Int)≤8)))),(3,yV (ao false)),(7,{k:=(af ay l).length,g:=false}),(8,{av:=some (ao (decide ((1:Int)≤need∧need≤(↑(af ay l).length:Int)))),g:=false}),(9,{av:=some (ao true),g:=false}),(10,{b:=false})]++yg [5,6])] [.aa [29,10,9,8,0,1,2,3] [8]] ([yR ((af ay l).length),yI (bn (↑(af ay l).length:Int) ((1:Int)) ((8:Int))),yB (ao (!decide ((1:Int)≤(↑(af ay l).length:Int)∧(↑(af ay l).length:Int)≤8))=ao false) (by simp;omega)]++yM 3 (yR false)++ [yR ((af ay l).length),yR false,yI (bn need ((1:Int)) (↑(af ay l).length:Int)),yR false,yB (ao (!decide ((1:Int)≤need∧need≤(↑(af ay l).length:Int)))=ao true) (by simp;omega),yR false])<|zT 29<|zP 1 [{}] [.aa [10,9,29,8,0,1,2,3] [8]] [yL 7 7]<|dt (zV [yK 0 (wv (fF seed aW l need).bF) (by rw [e2];rfl),yK 0 (wv (fF seed aW l need).peer) (by rw [e2];rfl),yB (ag (fF seed aW l need).box= []) (by rw [e2];rfl),yB (af ay (fF seed aW l need).ae= []) (by rw [e2];rfl),yB (ah (fF seed aW l need).au= []) (by rw [e2];rfl),yJ 0 ((fF seed aW l need).need) (by rw [e2];rfl),yK 0 (wv (fF seed aW l need).target) (by rw [e2];rfl),yB (af sD (sn seed aW l need)= []) (by rw [e3];rfl),yJ 9 (qK l need) (by rw [e1])])
  ·refine zO Tryz.func71 99<|zq<|zS<|zP 1 [yH [(1,{k:=(af ay l).length}),(2,yV (ao (decide ((1:Int)≤(↑(af ay l).length:Int)∧(↑(af ay l).length:Int)≤8)))),(3,yV (ao true))]] [.aa [29,10,9,8,0,1,2,3] [8]] ([yR ((af ay l).length),yI (bn (↑(af ay l).length:Int) ((1:Int)) ((8:Int))),yB (ao (!decide ((1:Int)≤(↑(af ay l).length:Int)∧(↑(af ay l).length:Int)≤8))=ao true) (by simp;omega)]++yM 6 (yR true))<|zT 29<|zP 1 [{}] [.aa [10,9,29,8,0,1,2,3] [8]] [yL 7 7]<|dt (zV [yK 0 (wv (fF seed aW l need).bF) (by rw [e2];rfl),yK 0 (wv (fF seed aW l need).peer) (by rw [e2];rfl),yB (ag (fF seed aW l need).box= []) (by rw [e2];rfl),yB (af ay (fF seed aW l need).ae= []) (by rw [e2];rfl),yB (ah (fF seed aW l need).au= []) (by rw [e2];rfl),yJ 0 ((fF seed aW l need).need) (by rw [e2];rfl),yK 0 (wv (fF seed aW l need).target) (by rw [e2];rfl),yB (af sD (sn seed aW l need)= []) (by rw [e3];rfl),yJ 9 (qK l need) (by rw [e1])])
 have e0:qK l need=ff (mu l) l.length:=by unfold qK;rw [if_neg hb]
 have JE:1≤l.length∧l.length≤8∧1≤need∧need≤l.length:=by unfold nD at hb;omega
 by_cases h0:ff (mu l) l.length=0
 case neg =>
  have e2:fF seed aW l need=default:=by unfold fF;rw [if_neg aj]
  have e3:sn seed aW l need= []:=by unfold sn;rw [if_neg aj]
  refine zO Tryz.func71 99<|zq<|zS<|zP 1 [yH ([(1,{k:=(af ay l).length}),(2,yV (ao (decide ((1:Int)≤(↑(af ay l).length:Int)∧(↑(af ay l).length:Int)≤8)))),(3,yV (ao false)),(7,{k:=(af ay l).length,g:=false}),(8,{av:=some (ao (decide ((1:Int)≤need∧need≤(↑(af ay l).length:Int)))),g:=false}),(9,{av:=some (ao false),g:=false}),(10,{b:=false})]++yg [5,6])] [.aa [29,10,9,8,0,1,2,3] [8]] ([yR ((af ay l).length),yI (bn (↑(af ay l).length:Int) ((1:Int)) ((8:Int))),yB (ao (!decide ((1:Int)≤(↑(af ay l).length:Int)∧(↑(af ay l).length:Int)≤8))=ao false) (by simp;omega)]++yM 3 (yR false)++ [yR ((af ay l).length),yR false,yI (bn need ((1:Int)) (↑(af ay l).length:Int)),yR false,yB (ao (!decide ((1:Int)≤need∧need≤(↑(af ay l).length:Int)))=ao false) (by simp;omega),yR false])<|zF 29<|a7<|zS<|zP 2 [yH [(1,yV (ai (ff (mu l) l.length)))],yH [(1,yV (ao true))]] [.aa [34,11,29,10,9,8,0,1,2,3] [8]] [yI (l8 l hl hh),yB (ao (ff (mu l) l.length != (0:Int))=ao true) (by simp;omega)]<|zT 34<|zP 1 [{}] [.aa [10,9,34,11,29,8,0,1,2,3] [8]] [yL 7 7]<|dt (zV [yK 0 (wv (fF seed aW l need).bF) (by rw [e2];rfl),yK 0 (wv (fF seed aW l need).peer) (by rw [e2];rfl),yB (ag (fF seed aW l need).box= []) (by rw [e2];rfl),yB (af ay (fF seed aW l need).ae= []) (by rw [e2];rfl),yB (ah (fF seed aW l need).au= []) (by rw [e2];rfl),yJ 0 ((fF seed aW l need).need) (by rw [e2];rfl),yK 0 (wv (fF seed aW l need).target) (by rw [e2];rfl),yB (af sD (sn seed aW l need)= []) (by rw [e3];rfl),yJ (ff (mu l) l.length) (qK l need) (by rw [e0])])
 have e1:qK l need=0:=by rw [e0,h0]
 have O6:(stream (derive seed [115,104,97,114,101,115] aW) 0 (8*(need-1))).length=(8*(need-1)).toNat:=by
  rw [tw];unfold iJ;omega
 have SW:(words [JZ seed aW]).length=8:=by rw [dN];rfl
 have Qi:dj (words [JZ seed aW]) (stream (derive seed [115,104,97,114,101,115] aW) 0 (8*(need-1))) need l.length=0:=by
  unfold dj
  rw [if_neg aj,if_neg aj,if_neg (by rw [O6,SW];omega)]
 have Ua:(GK seed aW l.length need).length=l.length:=by unfold GK iK;rw [if_pos Qi];simp
 have O7:dj (words [derive seed [100,101,112,111,115,105,116] aW]) (stream (derive seed [115,104,97,114,101,115] aW) 0 (8*(need-1))) need l.length=0:=Qi
 have Rg:(iK (words [derive seed [100,101,112,111,115,105,116] aW]) (stream (derive seed [115,104,97,114,101,115] aW) 0 (8*(need-1))) need l.length).length=l.length:=Ua
 have RR:∀i,i<l.length->((iK (words [derive seed [100,101,112,111,115,105,116] aW]) (stream (derive seed [115,104,97,114,101,115] aW) 0 (8*(need-1))) need l.length).getD i default).2.length=8:=fun i hi=>by
  rw [iK,if_pos O7,Int.toNat_natCast,BT _ _ hi]
  show (w6 _ _ _ _).length=8
  unfold w6
  rw [List.length_map,List.length_range]
  exact SW
 have oG:=BC l
 refine zO Tryz.func71 99 ?_
 have Ub:dj (words [derive seed [100,101,112,111,115,105,116] aW]) (stream (derive seed [115,104,97,114,101,115] aW) 0 (8*(need-1))) need (af ay l).length=0:=by rw [sQ];exact O7
 have T_:(iK (words [derive seed [100,101,112,111,115,105,116] aW]) (stream (derive seed [115,104,97,114,101,115] aW) 0 (8*(need-1))) need (af ay l).length).length=l.length:=by rw [sQ];exact Rg
 have PB:∀i,i<l.length->((iK (words [derive seed [100,101,112,111,115,105,116] aW]) (stream (derive seed [115,104,97,114,101,115] aW) 0 (8*(need-1))) need (af ay l).length).getD i default).2.length=8:=by rw [sQ];exact RR
 refine zq<|zS<|zP 1 [yH ([(1,{k:=(af ay l).length}),(2,yV (ao (decide ((1:Int)≤(↑(af ay l).length:Int)∧(↑(af ay l).length:Int)≤8)))),(3,yV (ao false)),(7,{k:=(af ay l).length,g:=false}),(8,{av:=some (ao (decide ((1:Int)≤need∧need≤(↑(af ay l).length:Int)))),g:=false}),(9,{av:=some (ao false),g:=false}),(10,{b:=false})]++yg [5,6])] [.aa [29,10,9,8,0,1,2,3] [8]] ([yR ((af ay l).length),yI (bn (↑(af ay l).length:Int) ((1:Int)) ((8:Int))),yB (ao (!decide ((1:Int)≤(↑(af ay l).length:Int)∧(↑(af ay l).length:Int)≤8))=ao false) (by simp;omega)]++yM 3 (yR false)++ [yR ((af ay l).length),yR false,yI (bn need ((1:Int)) (↑(af ay l).length:Int)),yR false,yB (ao (!decide ((1:Int)≤need∧need≤(↑(af ay l).length:Int)))=ao false) (by simp;omega),yR false])<|zF 29<|a7<|zS<|zP 2 [yH [(1,yV (ai (ff (mu l) l.length)))],yH [(1,yV (ao false))]] [.aa [34,11,29,10,9,8,0,1,2,3] [8]] [yI (l8 l hl hh),yB (ao (ff (mu l) l.length != (0:Int))=ao false) (by simp;omega)]<|zF 34<|a7<|zP 3 [yH [(2,yV (aw (derive seed [100,101,112,111,115,105,116] aW)))],yH [(2,yV (aw (derive seed [115,104,97,114,101,115] aW))),(4,yV (ai (need-1))),(5,yV (ai ((8:Int)*(need-1)))),(6,yV (AV.own 1 (ag (stream (derive seed [115,104,97,114,101,115] aW) 0 ((8:Int)*(need-1))))))],yH [(1,yV (AV.arr (ah [derive seed [100,101,112,111,115,105,116] aW]))),(2,yV (AV.own 1 (ag (words [derive seed [100,101,112,111,115,105,116] aW])))),(6,{k:=(af ay l).length}),(7,{av:=some (AV.br [AV.own 2 (af dK (iK (words [derive seed [100,101,112,111,115,105,116] aW]) (stream (derive seed [115,104,97,114,101,115] aW) 0 ((8:Int)*(need-1))) need (↑(af ay l).length:Int))),ai (dj (words [derive seed [100,101,112,111,115,105,116] aW]) (stream (derive seed [115,104,97,114,101,115] aW) 0 ((8:Int)*(need-1))) need (↑(af ay l).length:Int))]),b:=false})]] [.aa [15,14,13,12,34,11,29,10,9,8,0,1,2,3] [1055,8]] [yI (oC seed [100,101,112,111,115,105,116] aW (by simp [h0])),yI (oC seed [115,104,97,114,101,115] aW (by simp [h0])),yN (need-1),yN ((8:Int)*(need-1)),yI (oA (derive seed [115,104,97,114,101,115] aW) 0 ((8:Int)*(need-1))),yI (aQ (stream (derive seed [115,104,97,114,101,115] aW) 0 ((8:Int)*(need-1)))),yR [aw (derive seed [100,101,112,111,115,105,116] aW)],yI (dv [derive seed [100,101,112,111,115,105,116] aW] (by simp [h0])),yI (aQ (words [derive seed [100,101,112,111,115,105,116] aW])),yR ((af ay l).length),yI (xf (words [derive seed [100,101,112,111,115,105,116] aW]) (stream (derive seed [115,104,97,114,101,115] aW) 0 ((8:Int)*(need-1))) need (↑(af ay l).length:Int))]<|zS<|zP 1 [yH [(1,yV (ao false))]] [.aa [59,15,14,13,12,34,11,29,10,9,8,0,1,2,3] [1055,8]] [yB (ao (dj (words [derive seed [100,101,112,111,115,105,116] aW]) (stream (derive seed [115,104,97,114,101,115] aW) 0 ((8:Int)*(need-1))) need (↑(af ay l).length:Int) != (0:Int))=ao false) (by simp;omega)]<|zF 59<|a7<|zP 2 [yH [(1,yV (aw (Aa (derive seed [100,101,112,111,115,105,116] aW)))),(3,{b:=false})],{}] [.aa [17,16,59,15,14,13,12,34,11,29,10,9,8,0,1,2,3] [16,65,1055,8]] [yI (zM (derive seed [100,101,112,111,115,105,116] aW)),yI oG,yB ((0+(af ay l).length)*16≤140737488355328) (by simp;omega),yL 7 7]<|zS<|bf.na 1 [{}] bD (s':=AS.mk [(18,ai 0),(17,AV.nil),(16,AV.addr 16 0),(59,ao false),(15,ai (dj (words [derive seed [100,101,112,111,115,105,116] aW]) (stream (derive seed [115,104,97,114,101,115] aW) 0 ((8:Int)*(need-1))) need (↑(af ay l).length:Int))),(14,AV.ref 1055),(13,AV.sl 1 (ag (stream (derive seed [115,104,97,114,101,115] aW) 0 ((8:Int)*(need-1))))),(12,aw (derive seed [100,101,112,111,115,105,116] aW)),(34,ao false),(11,ai (ff (mu l) l.length)),(29,ao false),(10,ai 0),(9,AV.nil),(8,AV.addr 8 0),(0,aw seed),(1,ai aW),(2,AV.sl 1 (af ay l)),(3,ai need)] [(16,Row.mk 1 false true [aw (Aa (derive seed [100,101,112,111,115,105,116] aW)),dW,AV.nil,AV.ref 65,AV.nil,ai need,dW]),(65,Row.mk 1 true false (af ay l)),(1055,Row.mk 2 true false (af dK (iK (words [derive seed [100,101,112,111,115,105,116] aW]) (stream (derive seed [115,104,97,114,101,115] aW) 0 ((8:Int)*(need-1))) need (↑(af ay l).length:Int)))),(8,Row.mk 1 false true [dW,dW,AV.nil,AV.nil,AV.nil,ai 0,dW])]) (C:=[]) bD trivial<|zB 0 ?_
 have Tx:GK seed aW l.length need=iK (words [derive seed [100,101,112,111,115,105,116] aW]) (stream (derive seed [115,104,97,114,101,115] aW) 0 (8*(need-1))) need (af ay l).length:=by rw [sQ];rfl
 generalize hL:iK (words [derive seed [100,101,112,111,115,105,116] aW]) (stream (derive seed [115,104,97,114,101,115] aW) 0 (8*(need-1))) need (af ay l).length=L at *
 refine bf.oe (bR.Jc 16 4 87 1 (r:=⟨1,false,true,[aw (Aa (derive seed [100,101,112,111,115,105,116] aW)),dW,.nil,.ref 65,.nil,ai need,dW]⟩) bD rfl rfl bD) (zL (fun (i:Nat)=>(⟨[(16,AV.addr 16 0),(59,ao false),(15,ai (dj (words [derive seed [100,101,112,111,115,105,116] aW]) (stream (derive seed [115,104,97,114,101,115] aW) 0 ((8:Int)*(need-1))) need (↑(af ay l).length:Int))),(14,AV.ref 1055),(13,AV.sl 1 (ag (stream (derive seed [115,104,97,114,101,115] aW) 0 ((8:Int)*(need-1))))),(12,aw (derive seed [100,101,112,111,115,105,116] aW)),(34,ao false),(11,ai (ff (mu l) l.length)),(29,ao false),(10,ai 0),(9,AV.nil),(8,AV.addr 8 0),(0,aw seed),(1,ai aW),(2,AV.sl 1 (af ay l)),(3,ai need),(18,ai i),(17,AV.ref 96)],[(1055,⟨2,true,false,af dK L⟩),(8,⟨1,false,true,[dW,dW,AV.nil,AV.nil,AV.nil,ai 0,dW]⟩),(16,⟨1,false,true,[aw (Aa (derive seed [100,101,112,111,115,105,116] aW)),dW,.nil,.ref 65,.ref 87,ai need,dW]⟩),(65,⟨1,true,false,af ay l⟩),(87,⟨1,true,false,ah ((List.range i).map fun k=>ou (l.getD k default) (L.getD k default).2)⟩),(96,⟨1,true,false,af sD ((List.range i).map fun k=>(L.getD k default).2)⟩)]⟩:AS)) (fun i=>(i≤l.length)) (fun i=>(l.length-i)) (0) ?_ (zW [.nil 17 96 1,.aa [16,59,15,14,13,12,34,11,29,10,9,8,0,1,2,3,18,17] [1055,8,16,65,87,96]]) ?_)
 ·omega
 intro i hi
 refine zS<|zP 1 [yH [(2,{k:=(af ay l).length})]] [.aa [71,16,59,15,14,13,12,34,11,29,10,9,8,0,1,2,3,18,17] [1055,8,16,65,87,96]] [yR ((af ay l).length)] (zD 71 ((↑i:Int)<(↑(af ay l).length:Int)) (fun g=>?_) (fun g=>?_))
 ·have dD:i<l.length:=aj
  have gT:=jn dD
  have hA:=hh i dD
  have VV:=PB i dD
  have q1:=congrArg ah (Ls (fun k=>ou (l.getD k default) (L.getD k default).2) i)
  have q2:af sD ((List.range i).map fun k=>(L.getD k default).2)++ [AV.sl 1 (ag (L.getD i default).2)]=af sD ((List.range (i+1)).map fun k=>(L.getD k default).2):=by
   rw [←Ls,←fB];rfl
  refine a7<|zS<|zB 1<|zP 1 [{hs:=[(4,{k:=i}),(5,yV (cZ (l.getD i default))),(8,{k:=i}),(10,yV (AV.sl 1 (ag (L.getD i default).snd))),(11,yV (aw (ou (l.getD i default) (L.getD i default).snd))),(12,yV (AV.arr (ah [ou (l.getD i default) (L.getD i default).snd]))),(13,yV (AV.arr (ah (List.map (fun k↦ou (l.getD k default) (L.getD k default).snd) (List.range i)++ [ou (l.getD i default) (L.getD i default).snd]))))],T:=13}] [.aa [71,16,59,15,14,13,12,34,11,29,10,9,8,0,1,2,3,18,17] [16,87,1055,8,65,96]] [yR (↑i:Int),yO (i<(af ay l).length),yI gT,yR (↑i:Int),yB (i*2<(af dK L).length) (by simp only [aE (f:=dK) (e:=2) (fun _=>rfl)];omega),yA dK L i 1,yI (vq (l.getD i default) ((L.getD i default).snd) hA aj),yR [aw (ou (l.getD i default) (L.getD i default).snd)],yB (ah (List.map (fun k↦ou (l.getD k default) (L.getD k default).snd) (List.range i))++ah [ou (l.getD i default) (L.getD i default).snd]=ah (List.map (fun k↦ou (l.getD k default) (L.getD k default).snd) (List.range i)++ [ou (l.getD i default) (L.getD i default).snd])) (ja _ _),yB (((ah (List.map (fun k↦ou (l.getD k default) (L.getD k default).snd) (List.range i))).length+1)*8≤140737488355328) (by simp only [aB,List.length_map,List.length_range];omega),yL 5 7]<|zX (yH [(3,{k:=i}),(5,yV (AV.sl 1 (ag (L.getD i default).snd)))]) [yR (↑i:Int),yB (i*2<(af dK L).length) (by simp only [aE (f:=dK) (e:=2) (fun _=>rfl)];omega),yA dK L i 1,yB (((af sD (List.map (fun k↦(L.getD k default).snd) (List.range i))).length+1)*24≤140737488355328) (by simp only [List.length_map,List.length_range,aE (f:=sD) (e:=1) (fun _=>rfl)];omega)]<|aL<|ak<|zX (yH [(1,yV (ai ((↑i:Int)+1)))]) [yN ((↑i:Int)+1)] (aH (i+1) (by assumption) aj (eJ [.aa [16,59,15,14,13,12,34,11,29,10,9,8,0,1,2,3,18,17] [1055,8,16,65,87,96]] [] [87,96] [yI q1,yI q2]))
 ·have e:i=l.length:=aj
  subst e
  have e2:fF seed aW l need=⟨Aa (derive seed [100,101,112,111,115,105,116] aW),0,[],l,(List.range l.length).map (fun k=>ou (l.getD k default) (L.getD k default).2),need,0⟩:=by
   unfold fF;rw [if_pos e1,Tx];rfl
  have e3:sn seed aW l need=(List.range l.length).map fun k=>(L.getD k default).2:=by
   unfold sn;rw [if_pos e1,Tx]
  refine zE 0<|a_<|aP<|bo<|ak<|zP 1 [{}] [.aa [10,9,71,16,59,15,14,13,12,34,11,29,8,0,1,2,3,18,17] [8,1055,16,65,87,96]] [yL 7 7]<|zR (zV [yK (wv (Aa (derive seed [100,101,112,111,115,105,116] aW))) (wv (fF seed aW l need).bF) (by rw [e2]),yK 0 (wv (fF seed aW l need).peer) (by rw [e2];rfl),yB (ag (fF seed aW l need).box= []) (by rw [e2];rfl),yB (af ay l=af ay (fF seed aW l need).ae) (by rw [e2]),yB (ah (List.map (fun k↦ou (l.getD k default) (L.getD k default).snd) (List.range l.length))=ah (fF seed aW l need).au) (by rw [e2]),yJ need ((fF seed aW l need).need) (by rw [e2]),yK 0 (wv (fF seed aW l need).target) (by rw [e2];rfl),yB (af sD (List.map (fun k↦(L.getD k default).snd) (List.range l.length))=af sD (sn seed aW l need)) (by rw [e3]),yJ 0 (qK l need) (by rw [e1])])
end Go.Proofs.YtjgbhhnghedgdaaGreatDoor
