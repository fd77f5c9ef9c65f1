import Derived.Test.YtjgbhhnghedgdaaGreatDoorZbOt1
set_option linter.all false
namespace Go.Proofs.YtjgbhhnghedgdaaGreatDoor
open Go.RowKit
set_option maxRecDepth 100000
set_option maxHeartbeats 4000000
theorem bp (n lo hi:Int):bL Tryz.prog 78 [ai n,ai lo,ai hi] (ao (decide (lo≤n∧n≤hi))):=by
 by_cases h1:lo≤n
 ·by_cases h2:n≤hi
  ·refine zO Tryz.func78 15<|zP 2 [{},{}] [.aa [6,0,1,2] []] (yM 4 (yT (n≥lo)))<|zR (zV [yB (Value.bool (decide (n≤hi))=Value.bool (decide (lo≤n∧n≤hi))) (by simp [h1,h2])])
  ·refine zO Tryz.func78 15<|zP 2 [{},{}] [.aa [6,0,1,2] []] (yM 4 (yT (n≥lo)))<|zR (zV [yB (Value.bool (decide (n≤hi))=Value.bool (decide (lo≤n∧n≤hi))) (by simp [h1,h2])])
 ·refine zO Tryz.func78 15<|zP 2 [{},yH ([(7,{b:=false})]++yg [4,5,6])] [.aa [6,0,1,2] []] (yM 4 (yF (n≥lo)))<|zR (zV [yB (Value.bool false=Value.bool (decide (lo≤n∧n≤hi))) (by simp [h1])])
theorem fD (x:List UInt8) (hx:x.length≤1000):bL Tryz.prog 46 [cF x] (ai (eg x)):=by
 by_cases c1:x.length<1∨32<x.length
 ·have e:=pW c1
  refine zO Tryz.func46 10<|zq<|zS<|zP 1 [yH [(1,yV (ai (↑x.length:Int))),(2,yV (ao (decide ((1:Int)≤(↑x.length:Int)∧(↑x.length:Int)≤32)))),(3,yV (ao true))]] [.aa [6,2,0] []] [yR (ai (↑x.length:Int)),yI (bp ((↑x.length:Int)) ((1:Int)) ((32:Int))),yB (ao (!decide ((1:Int)≤(↑x.length:Int)∧(↑x.length:Int)≤32))=ao true) (by simp;omega)]<|zT 6<|zq<|dn (zV [yJ 9 (eg x) (by rw [e])])
 by_cases c2:Lib.validD x=false
 ·have e:=xz c1 c2
  refine zO Tryz.func46 10<|zq<|zS<|zP 1 [yH [(1,yV (ai (↑x.length:Int))),(2,yV (ao (decide ((1:Int)≤(↑x.length:Int)∧(↑x.length:Int)≤32)))),(3,yV (ao false))]] [.aa [6,2,0] []] [yR (ai (↑x.length:Int)),yI (bp ((↑x.length:Int)) ((1:Int)) ((32:Int))),yB (ao (!decide ((1:Int)≤(↑x.length:Int)∧(↑x.length:Int)≤32))=ao false) (by simp;omega)]<|zF 6<|a_<|zS<|zP 1 [yH [(1,yV (ao (Lib.validD x))),(2,yV (ao true))]] [.aa [9,6,2,0] []] [yI (km x aj),yB (ao (!Lib.validD x)=ao true) (by simp;omega)]<|zT 9<|zq<|dn (zV [yJ 6 (eg x) (by rw [e])])
 have c3:Lib.validD x=true:=by simpa using c2
 have e:=D7 c1 c3
 refine zO Tryz.func46 10<|zq<|zS<|zP 1 [yH [(1,yV (ai (↑x.length:Int))),(2,yV (ao (decide ((1:Int)≤(↑x.length:Int)∧(↑x.length:Int)≤32)))),(3,yV (ao false))]] [.aa [6,2,0] []] [yR (ai (↑x.length:Int)),yI (bp ((↑x.length:Int)) ((1:Int)) ((32:Int))),yB (ao (!decide ((1:Int)≤(↑x.length:Int)∧(↑x.length:Int)≤32))=ao false) (by simp;omega)]<|zF 6<|a_<|zS<|zP 1 [yH [(1,yV (ao (Lib.validD x))),(2,yV (ao false))]] [.aa [9,6,2,0] []] [yI (km x aj),yB (ao (!Lib.validD x)=ao false) (by simp;omega)]<|zF 9<|a_<|zq<|zR (zV [yJ 0 (eg x) (by rw [e])])
theorem mi (l:List (List UInt8)) (hl:l.length≤1000000) (hh:∀i,i<l.length->(l.getD i default).length≤1000):bL Tryz.prog 116 [.sl 1 (ae ay l)] (ai (ff (mF l) l.length)):=by
 have uG:(ae ay l).length=l.length:=by rw [aG (e:=1) (fun _=>rfl)];omega
 refine zO Tryz.func116 33<|zq<|zS<|zq<|zB 0 (zL (fun (i:Nat)=>(⟨[(0,AV.sl 1 (ae ay l)),(3,ai i)],[]⟩:AS)) (fun i=>(i≤l.length∧ff (mF l) i=0)) (fun i=>(l.length-i)) (0) ?_ (zW [.aa [0,3] []]) ?_)
 ·exact ⟨aj,rfl⟩
 rintro i ⟨hi,h0⟩
 refine zS<|zP 1 [yH [(2,{k:=(ae ay l).length})]] [.aa [8,0,3] []] [yR ((ae ay l).length)] (zD 8 ((↑i:Int)<(↑(ae ay l).length:Int)) (fun g=>?_) (fun g=>?_))
 ·have dM:i<l.length:=aj
  have gN:=js dM
  have hA:=hh i dM
  have stop:∀e:Int,e≠0->mF l i=e->ff (mF l) l.length=e:=fun e he h1=>by
   have k2:ff (mF l) (i+1)=mF l i:=by show (if _ then _ else _)=_;rw [if_neg aj]
   rw [lg aj k2 l.length aj,h1]
  by_cases c5:eg (l.getD i default)=0
  case neg =>
   have k1:=stop _ c5 (Im rfl c5)
   refine a_<|zS<|zB 1<|zS<|zP 2 [yH [(2,{k:=i}),(3,yV (cF (l.getD i default))),(4,yV (ai (eg (l.getD i default))))],{}] [.aa [17,4,8,0,3] []] [yR (↑i:Int),yO (i<(ae ay l).length),yI gN,yI (fD (l.getD i default) hA)]<|dB 17 (eg (l.getD i default) != (0:Int)) (by simp_all)<|zq<|dn<|a6<|aI<|de<|a6<|aI (zV [yJ (eg (l.getD i default)) (ff (mF l) l.length) (by rw [k1])])
  by_cases c6:0<i
  ·obtain ⟨k,hk⟩:∃k,k+1=i:=⟨i-1,aj⟩
   have xU:=js (l:=l) (i:=k) aj
   have c8:=Il c5 hk
   by_cases c7:Fq (l.getD i default) (l.getD k default)=true
   ·have k1:=stop 7 aj (by rw [c8,if_pos c7])
    refine a_<|zS<|zB 1<|zS<|zP 2 [yH [(2,{k:=i}),(3,yV (cF (l.getD i default))),(4,yV (ai (eg (l.getD i default))))],{}] [.aa [17,4,8,0,3] []] [yR (↑i:Int),yO (i<(ae ay l).length),yI gN,yI (fD (l.getD i default) hA)]<|bn 17 (eg (l.getD i default) != (0:Int)) (by simp_all)<|a_<|zP 1 [{hs:=[(5,{k:=i}),(6,yV (cF (l.getD i default))),(9,yV (ai ↑k)),(10,{k:=k}),(11,yV (cF (l.getD k default)))],T:=12}] [.aa [32,17,4,8,0,3] []] (yM 3 (yT ((↑i:Int)>0))++ [yR (↑i:Int),yO (i<(ae ay l).length),yT ((↑i:Int)>0),yI gN]++yM 3 (yT ((↑i:Int)>0))++ [yB (ai (IntKind.i64.wrap ((↑i:Int)-1))=ai ↑k) (congrArg (fun n=>AV.val (.int .i64 n)) (by rw [IntKind.wrap_i64];omega)),yT ((↑i:Int)>0),yR (↑k:Int),yO (k<(ae ay l).length),yT ((↑i:Int)>0),yI xU]++yM 2 (yT ((↑i:Int)>0)))<|dB 32 (Op.bytesLess (ByteArray.mk (l.getD i default).toArray).toList (ByteArray.mk (l.getD k default).toArray).toList || (ByteArray.mk (l.getD i default).toArray).toList == (ByteArray.mk (l.getD k default).toArray).toList) (by assumption)<|zq<|zR<|a6<|aI<|de<|a6<|aI (zV [yJ 7 (ff (mF l) l.length) (by rw [k1])])
   ·have c9:Fq (l.getD i default) (l.getD k default)=false:=by simpa using c7
    rw [if_neg c7] at c8
    refine a_<|zS<|zB 1<|zS<|zP 2 [yH [(2,{k:=i}),(3,yV (cF (l.getD i default))),(4,yV (ai (eg (l.getD i default))))],{}] [.aa [17,4,8,0,3] []] [yR (↑i:Int),yO (i<(ae ay l).length),yI gN,yI (fD (l.getD i default) hA)]<|bn 17 (eg (l.getD i default) != (0:Int)) (by simp_all)<|a_<|zP 1 [{hs:=[(5,{k:=i}),(6,yV (cF (l.getD i default))),(9,yV (ai ↑k)),(10,{k:=k}),(11,yV (cF (l.getD k default)))],T:=12}] [.aa [32,17,4,8,0,3] []] (yM 3 (yT ((↑i:Int)>0))++ [yR (↑i:Int),yO (i<(ae ay l).length),yT ((↑i:Int)>0),yI gN]++yM 3 (yT ((↑i:Int)>0))++ [yB (ai (IntKind.i64.wrap ((↑i:Int)-1))=ai ↑k) (congrArg (fun n=>AV.val (.int .i64 n)) (by rw [IntKind.wrap_i64];omega)),yT ((↑i:Int)>0),yR (↑k:Int),yO (k<(ae ay l).length),yT ((↑i:Int)>0),yI xU]++yM 2 (yT ((↑i:Int)>0)))<|bn 32 (Op.bytesLess (ByteArray.mk (l.getD i default).toArray).toList (ByteArray.mk (l.getD k default).toArray).toList || (ByteArray.mk (l.getD i default).toArray).toList == (ByteArray.mk (l.getD k default).toArray).toList) (by assumption)<|zK<|aL<|aq<|zX (yH [(1,yV (ai ((↑i:Int)+1)))]) [yN ((↑i:Int)+1)] (aK (i+1) ⟨aj,by show (if _ then _ else _)=_;rw [if_neg aj,c8]⟩ aj (zW [.aa [0,3] []]))
  ·have e:i=0:=aj
   have h1:mF l i=0:=by subst e;exact Er c5
   refine a_<|zS<|zB 1<|zS<|zP 2 [yH [(2,{k:=i}),(3,yV (cF (l.getD i default))),(4,yV (ai (eg (l.getD i default))))],{}] [.aa [17,4,8,0,3] []] [yR (↑i:Int),yO (i<(ae ay l).length),yI gN,yI (fD (l.getD i default) hA)]<|bn 17 (eg (l.getD i default) != (0:Int)) (by simp_all)<|a_<|zP 1 [{hs:=[(3,{g:=false}),(4,{g:=false}),(5,{g:=false}),(6,{g:=false}),(7,{g:=false}),(8,{g:=false}),(9,{g:=false}),(10,{g:=false}),(11,{g:=false}),(12,{g:=false}),(13,{b:=false})],T:=12}] [.aa [32,17,4,8,0,3] []] (yM 11 (yF ((↑i:Int)>0)))<|zF 32<|zK<|aL<|aq<|zX (yH [(1,yV (ai ((↑i:Int)+1)))]) [yN ((↑i:Int)+1)] (aK (i+1) ⟨aj,by show (if _ then _ else _)=_;rw [if_neg aj,h1]⟩ aj (zW [.aa [0,3] []]))
 ·have e:i=l.length:=aj
  subst e
  refine zE 0<|ba<|aS<|br<|aq<|zq<|zR (zV [yJ 0 (ff (mF l) l.length) (by rw [h0])])
theorem BG (l:List (List UInt8)):cI (ae ay l):=by
 intro x hx
 unfold ae at hx
 obtain ⟨s,_,hs⟩:=List.mem_flatMap.1 hx
 simp [ay] at hs
 subst hs;rfl
theorem LC {T:Type} (f:Nat->T) (i:Nat):(List.range i).map f++ [f i]=(List.range (i+1)).map f:=by simp [List.range_succ]
theorem tU (seed:UInt64) (aW:Int) (l:List (List UInt8)) (need:Int) (hl:l.length≤1000000) (hh:∀i,i<l.length->(l.getD i default).length≤1000):bL Tryz.prog 71 [aw seed,ai aW,.sl 1 (ae ay l),ai need] (.bt [.agg (P9 (fI seed aW l need)),.own 1 (ae sO (sy seed aW l need)),ai (qT l need)]):=by
 have uG:(ae ay l).length=l.length:=by rw [aG (e:=1) (fun _=>rfl)];omega
 by_cases hb:nP l.length need
 ·have e1:qT l need=9:=by unfold qT;rw [if_pos hb]
  have e2:fI seed aW l need=default:=by unfold fI;rw [if_neg aj]
  have e3:sy seed aW l need= []:=by unfold sy;rw [if_neg aj]
  by_cases c1:1≤l.length∧l.length≤8
  ·have c4:¬(1≤need∧need≤l.length):=by unfold nP at hb;omega
   refine zO Tryz.func71 99<|zq<|zS<|zP 1 [yH ([(1,{k:=(ae ay l).length}),(2,yV (ao (decide ((1:Int)≤(↑(ae ay l).length:Int)∧(↑(ae ay l).length:Int)≤8)))),(3,yV (ao false)),(7,{k:=(ae ay l).length,g:=false}),(8,{av:=some (ao (decide ((1:Int)≤need∧need≤(↑(ae ay l).length:Int)))),g:=false}),(9,{av:=some (ao true),g:=false}),(10,{b:=false})]++yg [5,6])] [.aa [29,10,9,8,0,1,2,3] [8]] ([yR ((ae ay l).length),yI (bp (↑(ae ay l).length:Int) ((1:Int)) ((8:Int))),yB (ao (!decide ((1:Int)≤(↑(ae ay l).length:Int)∧(↑(ae ay l).length:Int)≤8))=ao false) (by simp;omega)]++yM 3 (yR false)++ [yR ((ae ay l).length),yR false,yI (bp need ((1:Int)) (↑(ae ay l).length:Int)),yR false,yB (ao (!decide ((1:Int)≤need∧need≤(↑(ae ay l).length:Int)))=ao true) (by simp;omega),yR false])<|zT 29<|zP 1 [{}] [.aa [10,9,29,8,0,1,2,3] [8]] [yL 7 7]<|dn (zV [yK 0 (wv (fI seed aW l need).bZ) (by rw [e2];rfl),yK 0 (wv (fI seed aW l need).peer) (by rw [e2];rfl),yB (ag (fI seed aW l need).box= []) (by rw [e2];rfl),yB (ae ay (fI seed aW l need).af= []) (by rw [e2];rfl),yB (ah (fI seed aW l need).au= []) (by rw [e2];rfl),yJ 0 ((fI seed aW l need).need) (by rw [e2];rfl),yK 0 (wv (fI seed aW l need).target) (by rw [e2];rfl),yB (ae sO (sy seed aW l need)= []) (by rw [e3];rfl),yJ 9 (qT l need) (by rw [e1])])
  ·refine zO Tryz.func71 99<|zq<|zS<|zP 1 [yH [(1,{k:=(ae ay l).length}),(2,yV (ao (decide ((1:Int)≤(↑(ae ay l).length:Int)∧(↑(ae ay l).length:Int)≤8)))),(3,yV (ao true))]] [.aa [29,10,9,8,0,1,2,3] [8]] ([yR ((ae ay l).length),yI (bp (↑(ae ay l).length:Int) ((1:Int)) ((8:Int))),yB (ao (!decide ((1:Int)≤(↑(ae ay l).length:Int)∧(↑(ae ay l).length:Int)≤8))=ao true) (by simp;omega)]++yM 6 (yR true))<|zT 29<|zP 1 [{}] [.aa [10,9,29,8,0,1,2,3] [8]] [yL 7 7]<|dn (zV [yK 0 (wv (fI seed aW l need).bZ) (by rw [e2];rfl),yK 0 (wv (fI seed aW l need).peer) (by rw [e2];rfl),yB (ag (fI seed aW l need).box= []) (by rw [e2];rfl),yB (ae ay (fI seed aW l need).af= []) (by rw [e2];rfl),yB (ah (fI seed aW l need).au= []) (by rw [e2];rfl),yJ 0 ((fI seed aW l need).need) (by rw [e2];rfl),yK 0 (wv (fI seed aW l need).target) (by rw [e2];rfl),yB (ae sO (sy seed aW l need)= []) (by rw [e3];rfl),yJ 9 (qT l need) (by rw [e1])])
 have e0:qT l need=ff (mF l) l.length:=by unfold qT;rw [if_neg hb]
 have JR:1≤l.length∧l.length≤8∧1≤need∧need≤l.length:=by unfold nP at hb;omega
 by_cases h0:ff (mF l) l.length=0
 case neg =>
  have e2:fI seed aW l need=default:=by unfold fI;rw [if_neg aj]
  have e3:sy seed aW l need= []:=by unfold sy;rw [if_neg aj]
  refine zO Tryz.func71 99<|zq<|zS<|zP 1 [yH ([(1,{k:=(ae ay l).length}),(2,yV (ao (decide ((1:Int)≤(↑(ae ay l).length:Int)∧(↑(ae ay l).length:Int)≤8)))),(3,yV (ao false)),(7,{k:=(ae ay l).length,g:=false}),(8,{av:=some (ao (decide ((1:Int)≤need∧need≤(↑(ae ay l).length:Int)))),g:=false}),(9,{av:=some (ao false),g:=false}),(10,{b:=false})]++yg [5,6])] [.aa [29,10,9,8,0,1,2,3] [8]] ([yR ((ae ay l).length),yI (bp (↑(ae ay l).length:Int) ((1:Int)) ((8:Int))),yB (ao (!decide ((1:Int)≤(↑(ae ay l).length:Int)∧(↑(ae ay l).length:Int)≤8))=ao false) (by simp;omega)]++yM 3 (yR false)++ [yR ((ae ay l).length),yR false,yI (bp need ((1:Int)) (↑(ae ay l).length:Int)),yR false,yB (ao (!decide ((1:Int)≤need∧need≤(↑(ae ay l).length:Int)))=ao false) (by simp;omega),yR false])<|zF 29<|a_<|zS<|zP 2 [yH [(1,yV (ai (ff (mF l) l.length)))],yH [(1,yV (ao true))]] [.aa [34,11,29,10,9,8,0,1,2,3] [8]] [yI (mi l hl hh),yB (ao (ff (mF l) l.length != (0:Int))=ao true) (by simp;omega)]<|zT 34<|zP 1 [{}] [.aa [10,9,34,11,29,8,0,1,2,3] [8]] [yL 7 7]<|dn (zV [yK 0 (wv (fI seed aW l need).bZ) (by rw [e2];rfl),yK 0 (wv (fI seed aW l need).peer) (by rw [e2];rfl),yB (ag (fI seed aW l need).box= []) (by rw [e2];rfl),yB (ae ay (fI seed aW l need).af= []) (by rw [e2];rfl),yB (ah (fI seed aW l need).au= []) (by rw [e2];rfl),yJ 0 ((fI seed aW l need).need) (by rw [e2];rfl),yK 0 (wv (fI seed aW l need).target) (by rw [e2];rfl),yB (ae sO (sy seed aW l need)= []) (by rw [e3];rfl),yJ (ff (mF l) l.length) (qT l need) (by rw [e0])])
 have e1:qT l need=0:=by rw [e0,h0]
 have Ph:(stream (derive seed [115,104,97,114,101,115] aW) 0 (8*(need-1))).length=(8*(need-1)).toNat:=by
  rw [tH];unfold iL;omega
 have S7:(words [J_ seed aW]).length=8:=by rw [dX];rfl
 have Qw:du (words [J_ seed aW]) (stream (derive seed [115,104,97,114,101,115] aW) 0 (8*(need-1))) need l.length=0:=by
  unfold du
  rw [if_neg aj,if_neg aj,if_neg (by rw [Ph,S7];omega)]
 have Uj:(G7 seed aW l.length need).length=l.length:=by unfold G7 iM;rw [if_pos Qw];simp
 have Pj:du (words [derive seed [100,101,112,111,115,105,116] aW]) (stream (derive seed [115,104,97,114,101,115] aW) 0 (8*(need-1))) need l.length=0:=Qw
 have Rr:(iM (words [derive seed [100,101,112,111,115,105,116] aW]) (stream (derive seed [115,104,97,114,101,115] aW) 0 (8*(need-1))) need l.length).length=l.length:=Uj
 have R1:∀i,i<l.length->((iM (words [derive seed [100,101,112,111,115,105,116] aW]) (stream (derive seed [115,104,97,114,101,115] aW) 0 (8*(need-1))) need l.length).getD i default).2.length=8:=fun i hi=>by
  rw [iM,if_pos Pj,Int.toNat_natCast,B1 _ _ hi]
  show (xc _ _ _ _).length=8
  unfold xc
  rw [List.length_map,List.length_range]
  exact S7
 have oO:=BG l
 refine zO Tryz.func71 99 ?_
 have Uk:du (words [derive seed [100,101,112,111,115,105,116] aW]) (stream (derive seed [115,104,97,114,101,115] aW) 0 (8*(need-1))) need (ae ay l).length=0:=by rw [uG];exact Pj
 have Ui:(iM (words [derive seed [100,101,112,111,115,105,116] aW]) (stream (derive seed [115,104,97,114,101,115] aW) 0 (8*(need-1))) need (ae ay l).length).length=l.length:=by rw [uG];exact Rr
 have PO:∀i,i<l.length->((iM (words [derive seed [100,101,112,111,115,105,116] aW]) (stream (derive seed [115,104,97,114,101,115] aW) 0 (8*(need-1))) need (ae ay l).length).getD i default).2.length=8:=by rw [uG];exact R1
 refine zq<|zS<|zP 1 [yH ([(1,{k:=(ae ay l).length}),(2,yV (ao (decide ((1:Int)≤(↑(ae ay l).length:Int)∧(↑(ae ay l).length:Int)≤8)))),(3,yV (ao false)),(7,{k:=(ae ay l).length,g:=false}),(8,{av:=some (ao (decide ((1:Int)≤need∧need≤(↑(ae ay l).length:Int)))),g:=false}),(9,{av:=some (ao false),g:=false}),(10,{b:=false})]++yg [5,6])] [.aa [29,10,9,8,0,1,2,3] [8]] ([yR ((ae ay l).length),yI (bp (↑(ae ay l).length:Int) ((1:Int)) ((8:Int))),yB (ao (!decide ((1:Int)≤(↑(ae ay l).length:Int)∧(↑(ae ay l).length:Int)≤8))=ao false) (by simp;omega)]++yM 3 (yR false)++ [yR ((ae ay l).length),yR false,yI (bp need ((1:Int)) (↑(ae ay l).length:Int)),yR false,yB (ao (!decide ((1:Int)≤need∧need≤(↑(ae ay l).length:Int)))=ao false) (by simp;omega),yR false])<|zF 29<|a_<|zS<|zP 2 [yH [(1,yV (ai (ff (mF l) l.length)))],yH [(1,yV (ao false))]] [.aa [34,11,29,10,9,8,0,1,2,3] [8]] [yI (mi l hl hh),yB (ao (ff (mF l) l.length != (0:Int))=ao false) (by simp;omega)]<|zF 34<|a_<|zP 3 [yH [(2,yV (aw (derive seed [100,101,112,111,115,105,116] aW)))],yH [(2,yV (aw (derive seed [115,104,97,114,101,115] aW))),(4,yV (ai (need-1))),(5,yV (ai ((8:Int)*(need-1)))),(6,yV (AV.own 1 (ag (stream (derive seed [115,104,97,114,101,115] aW) 0 ((8:Int)*(need-1))))))],yH [(1,yV (AV.arr (ah [derive seed [100,101,112,111,115,105,116] aW]))),(2,yV (AV.own 1 (ag (words [derive seed [100,101,112,111,115,105,116] aW])))),(6,{k:=(ae ay l).length}),(7,{av:=some (AV.bt [AV.own 2 (ae dI (iM (words [derive seed [100,101,112,111,115,105,116] aW]) (stream (derive seed [115,104,97,114,101,115] aW) 0 ((8:Int)*(need-1))) need (↑(ae ay l).length:Int))),ai (du (words [derive seed [100,101,112,111,115,105,116] aW]) (stream (derive seed [115,104,97,114,101,115] aW) 0 ((8:Int)*(need-1))) need (↑(ae ay l).length:Int))]),b:=false})]] [.aa [15,14,13,12,34,11,29,10,9,8,0,1,2,3] [1055,8]] [yI (oJ seed [100,101,112,111,115,105,116] aW (by simp [h0])),yI (oJ seed [115,104,97,114,101,115] aW (by simp [h0])),yN (need-1),yN ((8:Int)*(need-1)),yI (oH (derive seed [115,104,97,114,101,115] aW) 0 ((8:Int)*(need-1))),yI (aR (stream (derive seed [115,104,97,114,101,115] aW) 0 ((8:Int)*(need-1)))),yR [aw (derive seed [100,101,112,111,115,105,116] aW)],yI (dE [derive seed [100,101,112,111,115,105,116] aW] (by simp [h0])),yI (aR (words [derive seed [100,101,112,111,115,105,116] aW])),yR ((ae ay l).length),yI (xk (words [derive seed [100,101,112,111,115,105,116] aW]) (stream (derive seed [115,104,97,114,101,115] aW) 0 ((8:Int)*(need-1))) need (↑(ae ay l).length:Int))]<|zS<|zP 1 [yH [(1,yV (ao false))]] [.aa [59,15,14,13,12,34,11,29,10,9,8,0,1,2,3] [1055,8]] [yB (ao (du (words [derive seed [100,101,112,111,115,105,116] aW]) (stream (derive seed [115,104,97,114,101,115] aW) 0 ((8:Int)*(need-1))) need (↑(ae ay l).length:Int) != (0:Int))=ao false) (by simp;omega)]<|zF 59<|a_<|zP 2 [yH [(1,yV (aw (Ae (derive seed [100,101,112,111,115,105,116] aW)))),(3,{b:=false})],{}] [.aa [17,16,59,15,14,13,12,34,11,29,10,9,8,0,1,2,3] [16,65,1055,8]] [yI (zZ (derive seed [100,101,112,111,115,105,116] aW)),yI oO,yB ((0+(ae ay l).length)*16≤140737488355328) (by simp;omega),yL 7 7]<|zS<|bf.jH 1 [{}] bk (s':=AS.mk [(18,ai 0),(17,AV.nil),(16,AV.addr 16 0),(59,ao false),(15,ai (du (words [derive seed [100,101,112,111,115,105,116] aW]) (stream (derive seed [115,104,97,114,101,115] aW) 0 ((8:Int)*(need-1))) need (↑(ae ay l).length:Int))),(14,AV.ref 1055),(13,AV.sl 1 (ag (stream (derive seed [115,104,97,114,101,115] aW) 0 ((8:Int)*(need-1))))),(12,aw (derive seed [100,101,112,111,115,105,116] aW)),(34,ao false),(11,ai (ff (mF l) l.length)),(29,ao false),(10,ai 0),(9,AV.nil),(8,AV.addr 8 0),(0,aw seed),(1,ai aW),(2,AV.sl 1 (ae ay l)),(3,ai need)] [(16,Row.mk 1 false true [aw (Ae (derive seed [100,101,112,111,115,105,116] aW)),cQ,AV.nil,AV.ref 65,AV.nil,ai need,cQ]),(65,Row.mk 1 true false (ae ay l)),(1055,Row.mk 2 true false (ae dI (iM (words [derive seed [100,101,112,111,115,105,116] aW]) (stream (derive seed [115,104,97,114,101,115] aW) 0 ((8:Int)*(need-1))) need (↑(ae ay l).length:Int)))),(8,Row.mk 1 false true [cQ,cQ,AV.nil,AV.nil,AV.nil,ai 0,cQ])]) (C:=[]) bk trivial<|zB 0 ?_
 have TG:G7 seed aW l.length need=iM (words [derive seed [100,101,112,111,115,105,116] aW]) (stream (derive seed [115,104,97,114,101,115] aW) 0 (8*(need-1))) need (ae ay l).length:=by rw [uG];rfl
 generalize hL:iM (words [derive seed [100,101,112,111,115,105,116] aW]) (stream (derive seed [115,104,97,114,101,115] aW) 0 (8*(need-1))) need (ae ay l).length=L at *
 refine bf.oQ (bS.Lm 16 4 87 1 (r:=⟨1,false,true,[aw (Ae (derive seed [100,101,112,111,115,105,116] aW)),cQ,.nil,.ref 65,.nil,ai need,cQ]⟩) bk rfl rfl bk) (zL (fun (i:Nat)=>(⟨[(16,AV.addr 16 0),(59,ao false),(15,ai (du (words [derive seed [100,101,112,111,115,105,116] aW]) (stream (derive seed [115,104,97,114,101,115] aW) 0 ((8:Int)*(need-1))) need (↑(ae ay l).length:Int))),(14,AV.ref 1055),(13,AV.sl 1 (ag (stream (derive seed [115,104,97,114,101,115] aW) 0 ((8:Int)*(need-1))))),(12,aw (derive seed [100,101,112,111,115,105,116] aW)),(34,ao false),(11,ai (ff (mF l) l.length)),(29,ao false),(10,ai 0),(9,AV.nil),(8,AV.addr 8 0),(0,aw seed),(1,ai aW),(2,AV.sl 1 (ae ay l)),(3,ai need),(18,ai i),(17,AV.ref 96)],[(1055,⟨2,true,false,ae dI L⟩),(8,⟨1,false,true,[cQ,cQ,AV.nil,AV.nil,AV.nil,ai 0,cQ]⟩),(16,⟨1,false,true,[aw (Ae (derive seed [100,101,112,111,115,105,116] aW)),cQ,.nil,.ref 65,.ref 87,ai need,cQ]⟩),(65,⟨1,true,false,ae ay l⟩),(87,⟨1,true,false,ah ((List.range i).map fun k=>oB (l.getD k default) (L.getD k default).2)⟩),(96,⟨1,true,false,ae sO ((List.range i).map fun k=>(L.getD k default).2)⟩)]⟩:AS)) (fun i=>(i≤l.length)) (fun i=>(l.length-i)) (0) ?_ (zW [.nil 17 96 1,.aa [16,59,15,14,13,12,34,11,29,10,9,8,0,1,2,3,18,17] [1055,8,16,65,87,96]]) ?_)
 ·omega
 intro i hi
 refine zS<|zP 1 [yH [(2,{k:=(ae ay l).length})]] [.aa [71,16,59,15,14,13,12,34,11,29,10,9,8,0,1,2,3,18,17] [1055,8,16,65,87,96]] [yR ((ae ay l).length)] (zD 71 ((↑i:Int)<(↑(ae ay l).length:Int)) (fun g=>?_) (fun g=>?_))
 ·have dM:i<l.length:=aj
  have gN:=js dM
  have hA:=hh i dM
  have V2:=PO i dM
  have q1:=congrArg ah (LC (fun k=>oB (l.getD k default) (L.getD k default).2) i)
  have q2:ae sO ((List.range i).map fun k=>(L.getD k default).2)++ [AV.sl 1 (ag (L.getD i default).2)]=ae sO ((List.range (i+1)).map fun k=>(L.getD k default).2):=by
   rw [←LC,←fE];rfl
  refine a_<|zS<|zB 1<|zP 1 [{hs:=[(4,{k:=i}),(5,yV (cF (l.getD i default))),(8,{k:=i}),(10,yV (AV.sl 1 (ag (L.getD i default).snd))),(11,yV (aw (oB (l.getD i default) (L.getD i default).snd))),(12,yV (AV.arr (ah [oB (l.getD i default) (L.getD i default).snd]))),(13,yV (AV.arr (ah (List.map (fun k↦oB (l.getD k default) (L.getD k default).snd) (List.range i)++ [oB (l.getD i default) (L.getD i default).snd]))))],T:=13}] [.aa [71,16,59,15,14,13,12,34,11,29,10,9,8,0,1,2,3,18,17] [16,87,1055,8,65,96]] [yR (↑i:Int),yO (i<(ae ay l).length),yI gN,yR (↑i:Int),yB (i*2<(ae dI L).length) (by simp only [aG (f:=dI) (e:=2) (fun _=>rfl)];omega),yB ((ae dI L)[i*2+1]?=some (AV.sl 1 (ag (L.getD i default).snd))) (bc (f:=dI) (e:=2) (k:=i) (j:=1) (fun _=>rfl) aj rfl),yI (vA (l.getD i default) ((L.getD i default).snd) hA aj),yR [aw (oB (l.getD i default) (L.getD i default).snd)],yB (ah (List.map (fun k↦oB (l.getD k default) (L.getD k default).snd) (List.range i))++ah [oB (l.getD i default) (L.getD i default).snd]=ah (List.map (fun k↦oB (l.getD k default) (L.getD k default).snd) (List.range i)++ [oB (l.getD i default) (L.getD i default).snd])) (jf _ _),yB (((ah (List.map (fun k↦oB (l.getD k default) (L.getD k default).snd) (List.range i))).length+1)*8≤140737488355328) (by simp only [aC,List.length_map,List.length_range];omega),yL 5 7]<|zX (yH [(3,{k:=i}),(5,yV (AV.sl 1 (ag (L.getD i default).snd)))]) [yR (↑i:Int),yB (i*2<(ae dI L).length) (by simp only [aG (f:=dI) (e:=2) (fun _=>rfl)];omega),yB ((ae dI L)[i*2+1]?=some (AV.sl 1 (ag (L.getD i default).snd))) (bc (f:=dI) (e:=2) (k:=i) (j:=1) (fun _=>rfl) aj rfl),yB (((ae sO (List.map (fun k↦(L.getD k default).snd) (List.range i))).length+1)*24≤140737488355328) (by simp only [List.length_map,List.length_range,aG (f:=sO) (e:=1) (fun _=>rfl)];omega)]<|aL<|aq<|zX (yH [(1,yV (ai ((↑i:Int)+1)))]) [yN ((↑i:Int)+1)] (aK (i+1) (by assumption) aj (eQ [.aa [16,59,15,14,13,12,34,11,29,10,9,8,0,1,2,3,18,17] [1055,8,16,65,87,96]] [] [87,96] [yI q1,yI q2]))
 ·have e:i=l.length:=aj
  subst e
  have e2:fI seed aW l need=⟨Ae (derive seed [100,101,112,111,115,105,116] aW),0,[],l,(List.range l.length).map (fun k=>oB (l.getD k default) (L.getD k default).2),need,0⟩:=by
   unfold fI;rw [if_pos e1,TG];rfl
  have e3:sy seed aW l need=(List.range l.length).map fun k=>(L.getD k default).2:=by
   unfold sy;rw [if_pos e1,TG]
  refine zE 0<|ba<|aS<|br<|aq<|zP 1 [{}] [.aa [10,9,71,16,59,15,14,13,12,34,11,29,8,0,1,2,3,18,17] [8,1055,16,65,87,96]] [yL 7 7]<|zR (zV [yK (wv (Ae (derive seed [100,101,112,111,115,105,116] aW))) (wv (fI seed aW l need).bZ) (by rw [e2]),yK 0 (wv (fI seed aW l need).peer) (by rw [e2];rfl),yB (ag (fI seed aW l need).box= []) (by rw [e2];rfl),yB (ae ay l=ae ay (fI seed aW l need).af) (by rw [e2]),yB (ah (List.map (fun k↦oB (l.getD k default) (L.getD k default).snd) (List.range l.length))=ah (fI seed aW l need).au) (by rw [e2]),yJ need ((fI seed aW l need).need) (by rw [e2]),yK 0 (wv (fI seed aW l need).target) (by rw [e2];rfl),yB (ae sO (List.map (fun k↦(L.getD k default).snd) (List.range l.length))=ae sO (sy seed aW l need)) (by rw [e3]),yJ 0 (qT l need) (by rw [e1])])
end Go.Proofs.YtjgbhhnghedgdaaGreatDoor
