import Derived.Test.YtjgbhhnghedgdaaGreatDoorZfOt1
set_option linter.all false
namespace Go.Proofs.YtjgbhhnghedgdaaGreatDoor
open Go.RowKit
set_option maxRecDepth 100000
set_option maxHeartbeats 4000000
theorem aM (n lo hi:Int):bA Tryz.prog 78 [ai n,ai lo,ai hi] (ao (decide (lo≤n∧n≤hi))):=by
 by_cases h1:lo≤n
 ·by_cases h2:n≤hi
  ·refine zO Tryz.func78 15<|zP 2 [{},{}] [.aa [6,0,1,2] []] (yM 4 (yT (n≥lo)))<|zR (zV [yB (Value.bool (decide (n≤hi))=Value.bool (decide (lo≤n∧n≤hi))) (by simp [h1,h2])])
  ·refine zO Tryz.func78 15<|zP 2 [{},{}] [.aa [6,0,1,2] []] (yM 4 (yT (n≥lo)))<|zR (zV [yB (Value.bool (decide (n≤hi))=Value.bool (decide (lo≤n∧n≤hi))) (by simp [h1,h2])])
 ·refine zO Tryz.func78 15<|zP 2 [{},yH ([(7,{b:=false})]++yg [4,5,6])] [.aa [6,0,1,2] []] (yM 4 (yF (n≥lo)))<|zR (zV [yB (Value.bool false=Value.bool (decide (lo≤n∧n≤hi))) (by simp [h1])])
theorem fR (x:List UInt8) (hx:x.length≤1000):bA Tryz.prog 46 [di x] (ai (eg x)):=by
 by_cases c1:x.length<1∨32<x.length
 ·have e:=qG c1
  refine zO Tryz.func46 10<|zq<|zS<|zP 1 [yH [(1,yV (ai (↑x.length:Int))),(2,yC (aM ((↑x.length:Int)) ((1:Int)) ((32:Int)))),(3,yV (ao true))]] [.aa [6,2,0] []] [yR (ai (↑x.length:Int)),yI (aM ((↑x.length:Int)) ((1:Int)) ((32:Int))),yB (ao (!decide ((1:Int)≤(↑x.length:Int)∧(↑x.length:Int)≤32))=ao true) (by simp;omega)]<|zT 6<|zq<|dk (zV [yJ 9 (eg x) (by rw [e])])
 by_cases c2:Lib.validD x=false
 ·have e:=zf c1 c2
  refine zO Tryz.func46 10<|zq<|zS<|zP 1 [yH [(1,yV (ai (↑x.length:Int))),(2,yC (aM ((↑x.length:Int)) ((1:Int)) ((32:Int)))),(3,yV (ao false))]] [.aa [6,2,0] []] [yR (ai (↑x.length:Int)),yI (aM ((↑x.length:Int)) ((1:Int)) ((32:Int))),yB (ao (!decide ((1:Int)≤(↑x.length:Int)∧(↑x.length:Int)≤32))=ao false) (by simp;omega)]<|zF 6<|a6<|zS<|zP 1 [yH [(1,yV (ao (Lib.validD x))),(2,yV (ao true))]] [.aa [9,6,2,0] []] [yI (kC x ag),yB (ao (!Lib.validD x)=ao true) (by simp;omega)]<|zT 9<|zq<|dk (zV [yJ 6 (eg x) (by rw [e])])
 have c3:Lib.validD x=true:=by simpa using c2
 have e:=Fy c1 c3
 refine zO Tryz.func46 10<|zq<|zS<|zP 1 [yH [(1,yV (ai (↑x.length:Int))),(2,yC (aM ((↑x.length:Int)) ((1:Int)) ((32:Int)))),(3,yV (ao false))]] [.aa [6,2,0] []] [yR (ai (↑x.length:Int)),yI (aM ((↑x.length:Int)) ((1:Int)) ((32:Int))),yB (ao (!decide ((1:Int)≤(↑x.length:Int)∧(↑x.length:Int)≤32))=ao false) (by simp;omega)]<|zF 6<|a6<|zS<|zP 1 [yH [(1,yV (ao (Lib.validD x))),(2,yV (ao false))]] [.aa [9,6,2,0] []] [yI (kC x ag),yB (ao (!Lib.validD x)=ao false) (by simp;omega)]<|zF 9<|a6<|zq<|zR (zV [yJ 0 (eg x) (by rw [e])])
theorem i7 (l:List (List UInt8)) (hl:l.length≤1000000) (hh:∀i,i<l.length->(l.getD i default).length≤1000):bA Tryz.prog 116 [.sl 1 (ae au l)] (ai (ff (nt l) l.length)):=by
 have tK:(ae au l).length=l.length:=by rw [aA (e:=1) (fun _=>rfl)];omega
 refine zO Tryz.func116 33<|zq<|zS<|zq<|zB 0 (zL (fun (i:Nat)=>(⟨[(0,AV.sl 1 (ae au l)),(3,ai i)],[]⟩:AS)) (fun i=>(i≤l.length∧ff (nt l) i=0)) (fun i=>(l.length-i)) (0) ?_ (zW [.aa [0,3] []]) ?_)
 ·exact ⟨ag,rfl⟩
 rintro i ⟨hi,h0⟩
 refine zS<|zP 1 [yH [(2,{k:=(ae au l).length})]] [.aa [8,0,3] []] [yR ((ae au l).length)] (zD 8 ((↑i:Int)<(↑(ae au l).length:Int)) (fun g=>?_) (fun g=>?_))
 ·have dc:i<l.length:=ag
  have ic:=iZ dc
  have hA:=hh i dc
  have stop:∀e:Int,e≠0->nt l i=e->ff (nt l) l.length=e:=fun e he h1=>by
   have k2:ff (nt l) (i+1)=nt l i:=by show (if _ then _ else _)=_;rw [if_neg ag]
   rw [kz ag k2 l.length ag,h1]
  by_cases c5:eg (l.getD i default)=0
  case neg =>
   have k1:=stop _ c5 (JS rfl c5)
   refine a6<|zS<|zB 1<|zS<|zP 2 [yH [(2,{k:=i}),(3,yV (di (l.getD i default))),(4,yV (ai (eg (l.getD i default))))],{}] [.aa [17,4,8,0,3] []] [yR (↑i:Int),yO (i<(ae au l).length),yI ic,yI (fR (l.getD i default) hA)]<|du 17 (eg (l.getD i default) != (0:Int)) (by simp_all)<|zq<|dk<|ba<|aI<|dh<|ba<|aI (zV [yJ (eg (l.getD i default)) (ff (nt l) l.length) (by rw [k1])])
  by_cases c6:0<i
  ·obtain ⟨k,hk⟩:∃k,k+1=i:=⟨i-1,ag⟩
   have zH:=iZ (l:=l) (i:=k) ag
   have c8:=JR c5 hk
   by_cases c7:xT (l.getD i default) (l.getD k default)=true
   ·have k1:=stop 7 ag (by rw [c8,if_pos c7])
    refine a6<|zS<|zB 1<|zS<|zP 2 [yH [(2,{k:=i}),(3,yV (di (l.getD i default))),(4,yV (ai (eg (l.getD i default))))],{}] [.aa [17,4,8,0,3] []] [yR (↑i:Int),yO (i<(ae au l).length),yI ic,yI (fR (l.getD i default) hA)]<|bj 17 (eg (l.getD i default) != (0:Int)) (by simp_all)<|a6<|zP 1 [{hs:=[(5,{k:=i}),(6,yV (di (l.getD i default))),(9,yV (ai ↑k)),(10,{k:=k}),(11,yV (di (l.getD k default)))],T:=12}] [.aa [32,17,4,8,0,3] []] (yM 3 (yT ((↑i:Int)>0))++ [yR (↑i:Int),yO (i<(ae au l).length),yT ((↑i:Int)>0),yI ic]++yM 3 (yT ((↑i:Int)>0))++ [yB (ai (IntKind.i64.wrap ((↑i:Int)-1))=ai ↑k) (congrArg (fun n=>AV.val (.int .i64 n)) (by rw [IntKind.wrap_i64];omega)),yT ((↑i:Int)>0),yR (↑k:Int),yO (k<(ae au l).length),yT ((↑i:Int)>0),yI zH]++yM 2 (yT ((↑i:Int)>0)))<|du 32 (Op.bytesLess (ByteArray.mk (l.getD i default).toArray).toList (ByteArray.mk (l.getD k default).toArray).toList || (ByteArray.mk (l.getD i default).toArray).toList == (ByteArray.mk (l.getD k default).toArray).toList) (by assumption)<|zq<|zR<|ba<|aI<|dh<|ba<|aI (zV [yJ 7 (ff (nt l) l.length) (by rw [k1])])
   ·have c9:xT (l.getD i default) (l.getD k default)=false:=by simpa using c7
    rw [if_neg c7] at c8
    refine a6<|zS<|zB 1<|zS<|zP 2 [yH [(2,{k:=i}),(3,yV (di (l.getD i default))),(4,yV (ai (eg (l.getD i default))))],{}] [.aa [17,4,8,0,3] []] [yR (↑i:Int),yO (i<(ae au l).length),yI ic,yI (fR (l.getD i default) hA)]<|bj 17 (eg (l.getD i default) != (0:Int)) (by simp_all)<|a6<|zP 1 [{hs:=[(5,{k:=i}),(6,yV (di (l.getD i default))),(9,yV (ai ↑k)),(10,{k:=k}),(11,yV (di (l.getD k default)))],T:=12}] [.aa [32,17,4,8,0,3] []] (yM 3 (yT ((↑i:Int)>0))++ [yR (↑i:Int),yO (i<(ae au l).length),yT ((↑i:Int)>0),yI ic]++yM 3 (yT ((↑i:Int)>0))++ [yB (ai (IntKind.i64.wrap ((↑i:Int)-1))=ai ↑k) (congrArg (fun n=>AV.val (.int .i64 n)) (by rw [IntKind.wrap_i64];omega)),yT ((↑i:Int)>0),yR (↑k:Int),yO (k<(ae au l).length),yT ((↑i:Int)>0),yI zH]++yM 2 (yT ((↑i:Int)>0)))<|bj 32 (Op.bytesLess (ByteArray.mk (l.getD i default).toArray).toList (ByteArray.mk (l.getD k default).toArray).toList || (ByteArray.mk (l.getD i default).toArray).toList == (ByteArray.mk (l.getD k default).toArray).toList) (by assumption)<|zK<|aK<|al<|zX (yH [(1,yV (ai ((↑i:Int)+1)))]) [yN ((↑i:Int)+1)] (aF (i+1) ⟨ag,by show (if _ then _ else _)=_;rw [if_neg ag,c8]⟩ ag (zW [.aa [0,3] []]))
  ·have e:i=0:=ag
   have h1:nt l i=0:=by subst e;exact FR c5
   refine a6<|zS<|zB 1<|zS<|zP 2 [yH [(2,{k:=i}),(3,yV (di (l.getD i default))),(4,yV (ai (eg (l.getD i default))))],{}] [.aa [17,4,8,0,3] []] [yR (↑i:Int),yO (i<(ae au l).length),yI ic,yI (fR (l.getD i default) hA)]<|bj 17 (eg (l.getD i default) != (0:Int)) (by simp_all)<|a6<|zP 1 [{hs:=[(3,{g:=false}),(4,{g:=false}),(5,{g:=false}),(6,{g:=false}),(7,{g:=false}),(8,{g:=false}),(9,{g:=false}),(10,{g:=false}),(11,{g:=false}),(12,{g:=false}),(13,{b:=false})],T:=12}] [.aa [32,17,4,8,0,3] []] (yM 11 (yF ((↑i:Int)>0)))<|zF 32<|zK<|aK<|al<|zX (yH [(1,yV (ai ((↑i:Int)+1)))]) [yN ((↑i:Int)+1)] (aF (i+1) ⟨ag,by show (if _ then _ else _)=_;rw [if_neg ag,h1]⟩ ag (zW [.aa [0,3] []]))
 ·have e:i=l.length:=ag
  subst e
  refine zE 0<|a7<|aP<|bp<|al<|zq<|zR (zV [yJ 0 (ff (nt l) l.length) (by rw [h0])])
theorem C9 (l:List (List UInt8)):cC (ae au l):=by
 intro x hx
 unfold ae at hx
 obtain ⟨s,_,hs⟩:=List.mem_flatMap.1 hx
 simp [au] at hs
 subst hs;rfl
theorem Nd {T:Type} (f:Nat->T) (i:Nat):(List.range i).map f++ [f i]=(List.range (i+1)).map f:=by simp [List.range_succ]
theorem u0 (seed:UInt64) (a_:Int) (l:List (List UInt8)) (need:Int) (hl:l.length≤1000000) (hh:∀i,i<l.length->(l.getD i default).length≤1000):bA Tryz.prog 71 [aw seed,ai a_,.sl 1 (ae au l),ai need] (.b_ [.agg (RU (fX seed a_ l need)),.own 1 (ae wN (tH seed a_ l need)),ai (rT l need)]):=by
 have tK:(ae au l).length=l.length:=by rw [aA (e:=1) (fun _=>rfl)];omega
 by_cases hb:ow l.length need
 ·have e1:rT l need=9:=by unfold rT;rw [if_pos hb]
  have e2:fX seed a_ l need=default:=by unfold fX;rw [if_neg ag]
  have e3:tH seed a_ l need= []:=by unfold tH;rw [if_neg ag]
  by_cases c1:1≤l.length∧l.length≤8
  ·have c4:¬(1≤need∧need≤l.length):=by unfold ow at hb;omega
   refine zO Tryz.func71 99<|zq<|zS<|zP 1 [yH ([(1,{k:=(ae au l).length}),(2,yC (aM ((↑(ae au l).length:Int)) ((1:Int)) ((8:Int)))),(3,yV (ao false)),(7,{k:=(ae au l).length,g:=false}),(8,{av:=some (ao (decide ((1:Int)≤need∧need≤(↑(ae au l).length:Int)))),g:=false}),(9,{av:=some (ao true),g:=false}),(10,{b:=false})]++yg [5,6])] [.aa [29,10,9,8,0,1,2,3] [8]] ([yR ((ae au l).length),yI (aM (↑(ae au l).length:Int) ((1:Int)) ((8:Int))),yB (ao (!decide ((1:Int)≤(↑(ae au l).length:Int)∧(↑(ae au l).length:Int)≤8))=ao false) (by simp;omega)]++yM 3 (yR false)++ [yR ((ae au l).length),yR false,yI (aM need ((1:Int)) (↑(ae au l).length:Int)),yR false,yB (ao (!decide ((1:Int)≤need∧need≤(↑(ae au l).length:Int)))=ao true) (by simp;omega),yR false])<|zT 29<|zP 1 [{}] [.aa [10,9,29,8,0,1,2,3] [8]] [yL 7 7]<|dk (zV [yK 0 (wv (fX seed a_ l need).cm) (by rw [e2];rfl),yK 0 (wv (fX seed a_ l need).peer) (by rw [e2];rfl),yB (ah (fX seed a_ l need).box= []) (by rw [e2];rfl),yB (ae au (fX seed a_ l need).af= []) (by rw [e2];rfl),yB (aj (fX seed a_ l need).ay= []) (by rw [e2];rfl),yJ 0 ((fX seed a_ l need).need) (by rw [e2];rfl),yK 0 (wv (fX seed a_ l need).target) (by rw [e2];rfl),yB (ae wN (tH seed a_ l need)= []) (by rw [e3];rfl),yJ 9 (rT l need) (by rw [e1])])
  ·refine zO Tryz.func71 99<|zq<|zS<|zP 1 [yH [(1,{k:=(ae au l).length}),(2,yC (aM ((↑(ae au l).length:Int)) ((1:Int)) ((8:Int)))),(3,yV (ao true))]] [.aa [29,10,9,8,0,1,2,3] [8]] ([yR ((ae au l).length),yI (aM (↑(ae au l).length:Int) ((1:Int)) ((8:Int))),yB (ao (!decide ((1:Int)≤(↑(ae au l).length:Int)∧(↑(ae au l).length:Int)≤8))=ao true) (by simp;omega)]++yM 6 (yR true))<|zT 29<|zP 1 [{}] [.aa [10,9,29,8,0,1,2,3] [8]] [yL 7 7]<|dk (zV [yK 0 (wv (fX seed a_ l need).cm) (by rw [e2];rfl),yK 0 (wv (fX seed a_ l need).peer) (by rw [e2];rfl),yB (ah (fX seed a_ l need).box= []) (by rw [e2];rfl),yB (ae au (fX seed a_ l need).af= []) (by rw [e2];rfl),yB (aj (fX seed a_ l need).ay= []) (by rw [e2];rfl),yJ 0 ((fX seed a_ l need).need) (by rw [e2];rfl),yK 0 (wv (fX seed a_ l need).target) (by rw [e2];rfl),yB (ae wN (tH seed a_ l need)= []) (by rw [e3];rfl),yJ 9 (rT l need) (by rw [e1])])
 have e0:rT l need=ff (nt l) l.length:=by unfold rT;rw [if_neg hb]
 have Lj:1≤l.length∧l.length≤8∧1≤need∧need≤l.length:=by unfold ow at hb;omega
 by_cases h0:ff (nt l) l.length=0
 case neg =>
  have e2:fX seed a_ l need=default:=by unfold fX;rw [if_neg ag]
  have e3:tH seed a_ l need= []:=by unfold tH;rw [if_neg ag]
  refine zO Tryz.func71 99<|zq<|zS<|zP 1 [yH ([(1,{k:=(ae au l).length}),(2,yC (aM ((↑(ae au l).length:Int)) ((1:Int)) ((8:Int)))),(3,yV (ao false)),(7,{k:=(ae au l).length,g:=false}),(8,{av:=some (ao (decide ((1:Int)≤need∧need≤(↑(ae au l).length:Int)))),g:=false}),(9,{av:=some (ao false),g:=false}),(10,{b:=false})]++yg [5,6])] [.aa [29,10,9,8,0,1,2,3] [8]] ([yR ((ae au l).length),yI (aM (↑(ae au l).length:Int) ((1:Int)) ((8:Int))),yB (ao (!decide ((1:Int)≤(↑(ae au l).length:Int)∧(↑(ae au l).length:Int)≤8))=ao false) (by simp;omega)]++yM 3 (yR false)++ [yR ((ae au l).length),yR false,yI (aM need ((1:Int)) (↑(ae au l).length:Int)),yR false,yB (ao (!decide ((1:Int)≤need∧need≤(↑(ae au l).length:Int)))=ao false) (by simp;omega),yR false])<|zF 29<|a6<|zS<|zP 2 [yH [(1,yC (i7 (l) hl hh))],yH [(1,yV (ao true))]] [.aa [34,11,29,10,9,8,0,1,2,3] [8]] [yI (i7 l hl hh),yB (ao (ff (nt l) l.length != (0:Int))=ao true) (by simp;omega)]<|zT 34<|zP 1 [{}] [.aa [10,9,34,11,29,8,0,1,2,3] [8]] [yL 7 7]<|dk (zV [yK 0 (wv (fX seed a_ l need).cm) (by rw [e2];rfl),yK 0 (wv (fX seed a_ l need).peer) (by rw [e2];rfl),yB (ah (fX seed a_ l need).box= []) (by rw [e2];rfl),yB (ae au (fX seed a_ l need).af= []) (by rw [e2];rfl),yB (aj (fX seed a_ l need).ay= []) (by rw [e2];rfl),yJ 0 ((fX seed a_ l need).need) (by rw [e2];rfl),yK 0 (wv (fX seed a_ l need).target) (by rw [e2];rfl),yB (ae wN (tH seed a_ l need)= []) (by rw [e3];rfl),yJ (ff (nt l) l.length) (rT l need) (by rw [e0])])
 have e1:rT l need=0:=by rw [e0,h0]
 have Q2:(stream (derive seed [115,104,97,114,101,115] a_) 0 (8*(need-1))).length=(8*(need-1)).toNat:=by
  rw [uM];unfold i3;omega
 have UX:(words [LH seed a_]).length=8:=by rw [dZ];rfl
 have Sj:dF (words [LH seed a_]) (stream (derive seed [115,104,97,114,101,115] a_) 0 (8*(need-1))) need l.length=0:=by
  unfold dF
  rw [if_neg ag,if_neg ag,if_neg (by rw [Q2,UX];omega)]
 have V9:(Iw seed a_ l.length need).length=l.length:=by unfold Iw js;rw [if_pos Sj];simp
 have Q3:dF (words [derive seed [100,101,112,111,115,105,116] a_]) (stream (derive seed [115,104,97,114,101,115] a_) 0 (8*(need-1))) need l.length=0:=Sj
 have Tj:(js (words [derive seed [100,101,112,111,115,105,116] a_]) (stream (derive seed [115,104,97,114,101,115] a_) 0 (8*(need-1))) need l.length).length=l.length:=V9
 have TU:∀i,i<l.length->((js (words [derive seed [100,101,112,111,115,105,116] a_]) (stream (derive seed [115,104,97,114,101,115] a_) 0 (8*(need-1))) need l.length).getD i default).2.length=8:=fun i hi=>by
  rw [js,if_pos Q3,Int.toNat_natCast,Ds _ _ hi]
  show (yP _ _ _ _).length=8
  unfold yP
  rw [List.length_map,List.length_range]
  exact UX
 have pv:=C9 l
 refine zO Tryz.func71 99 ?_
 have V_:dF (words [derive seed [100,101,112,111,115,105,116] a_]) (stream (derive seed [115,104,97,114,101,115] a_) 0 (8*(need-1))) need (ae au l).length=0:=by rw [tK];exact Q3
 have V8:(js (words [derive seed [100,101,112,111,115,105,116] a_]) (stream (derive seed [115,104,97,114,101,115] a_) 0 (8*(need-1))) need (ae au l).length).length=l.length:=by rw [tK];exact Tj
 have Ry:∀i,i<l.length->((js (words [derive seed [100,101,112,111,115,105,116] a_]) (stream (derive seed [115,104,97,114,101,115] a_) 0 (8*(need-1))) need (ae au l).length).getD i default).2.length=8:=by rw [tK];exact TU
 refine zq<|zS<|zP 1 [yH ([(1,{k:=(ae au l).length}),(2,yC (aM ((↑(ae au l).length:Int)) ((1:Int)) ((8:Int)))),(3,yV (ao false)),(7,{k:=(ae au l).length,g:=false}),(8,{av:=some (ao (decide ((1:Int)≤need∧need≤(↑(ae au l).length:Int)))),g:=false}),(9,{av:=some (ao false),g:=false}),(10,{b:=false})]++yg [5,6])] [.aa [29,10,9,8,0,1,2,3] [8]] ([yR ((ae au l).length),yI (aM (↑(ae au l).length:Int) ((1:Int)) ((8:Int))),yB (ao (!decide ((1:Int)≤(↑(ae au l).length:Int)∧(↑(ae au l).length:Int)≤8))=ao false) (by simp;omega)]++yM 3 (yR false)++ [yR ((ae au l).length),yR false,yI (aM need ((1:Int)) (↑(ae au l).length:Int)),yR false,yB (ao (!decide ((1:Int)≤need∧need≤(↑(ae au l).length:Int)))=ao false) (by simp;omega),yR false])<|zF 29<|a6<|zS<|zP 2 [yH [(1,yC (i7 (l) hl hh))],yH [(1,yV (ao false))]] [.aa [34,11,29,10,9,8,0,1,2,3] [8]] [yI (i7 l hl hh),yB (ao (ff (nt l) l.length != (0:Int))=ao false) (by simp;omega)]<|zF 34<|a6<|zP 3 [yH [(2,yV (aw (derive seed [100,101,112,111,115,105,116] a_)))],yH [(2,yV (aw (derive seed [115,104,97,114,101,115] a_))),(4,yV (ai (need-1))),(5,yV (ai ((8:Int)*(need-1)))),(6,yC (jK (derive seed [115,104,97,114,101,115] a_) (0) ((8:Int)*(need-1))))],yH [(1,yV (AV.arr (aj [derive seed [100,101,112,111,115,105,116] a_]))),(2,yV (AV.own 1 (ah (words [derive seed [100,101,112,111,115,105,116] a_])))),(6,{k:=(ae au l).length}),(7,yD (qt (words [derive seed [100,101,112,111,115,105,116] a_]) (stream (derive seed [115,104,97,114,101,115] a_) 0 ((8:Int)*(need-1))) (need) ((↑(ae au l).length:Int))))]] [.aa [15,14,13,12,34,11,29,10,9,8,0,1,2,3] [1055,8]] [yI (pj seed [100,101,112,111,115,105,116] a_ (by simp [h0])),yI (pj seed [115,104,97,114,101,115] a_ (by simp [h0])),yN (need-1),yN ((8:Int)*(need-1)),yI (jK (derive seed [115,104,97,114,101,115] a_) 0 ((8:Int)*(need-1))),yI (aQ (stream (derive seed [115,104,97,114,101,115] a_) 0 ((8:Int)*(need-1)))),yR [aw (derive seed [100,101,112,111,115,105,116] a_)],yI (dG [derive seed [100,101,112,111,115,105,116] a_] (by simp [h0])),yI (aQ (words [derive seed [100,101,112,111,115,105,116] a_])),yR ((ae au l).length),yI (qt (words [derive seed [100,101,112,111,115,105,116] a_]) (stream (derive seed [115,104,97,114,101,115] a_) 0 ((8:Int)*(need-1))) need (↑(ae au l).length:Int))]<|zS<|zP 1 [yH [(1,yV (ao false))]] [.aa [59,15,14,13,12,34,11,29,10,9,8,0,1,2,3] [1055,8]] [yB (ao (dF (words [derive seed [100,101,112,111,115,105,116] a_]) (stream (derive seed [115,104,97,114,101,115] a_) 0 ((8:Int)*(need-1))) need (↑(ae au l).length:Int) != (0:Int))=ao false) (by simp;omega)]<|zF 59<|a6<|zP 2 [yH [(1,yV (aw (Bx (derive seed [100,101,112,111,115,105,116] a_)))),(3,{b:=false})],{}] [.aa [17,16,59,15,14,13,12,34,11,29,10,9,8,0,1,2,3] [16,65,1055,8]] [yI (Br (derive seed [100,101,112,111,115,105,116] a_)),yI pv,yB ((0+(ae au l).length)*16≤140737488355328) (by simp;omega),yL 7 7]<|zS<|bf.nQ 1 [{}] bC (s':=AS.mk [(18,ai 0),(17,AV.nil),(16,AV.addr 16 0),(59,ao false),(15,ai (dF (words [derive seed [100,101,112,111,115,105,116] a_]) (stream (derive seed [115,104,97,114,101,115] a_) 0 ((8:Int)*(need-1))) need (↑(ae au l).length:Int))),(14,AV.ref 1055),(13,AV.sl 1 (ah (stream (derive seed [115,104,97,114,101,115] a_) 0 ((8:Int)*(need-1))))),(12,aw (derive seed [100,101,112,111,115,105,116] a_)),(34,ao false),(11,ai (ff (nt l) l.length)),(29,ao false),(10,ai 0),(9,AV.nil),(8,AV.addr 8 0),(0,aw seed),(1,ai a_),(2,AV.sl 1 (ae au l)),(3,ai need)] [(16,Row.mk 1 false true [aw (Bx (derive seed [100,101,112,111,115,105,116] a_)),dY,AV.nil,AV.ref 65,AV.nil,ai need,dY]),(65,Row.mk 1 true false (ae au l)),(1055,Row.mk 2 true false (ae eh (js (words [derive seed [100,101,112,111,115,105,116] a_]) (stream (derive seed [115,104,97,114,101,115] a_) 0 ((8:Int)*(need-1))) need (↑(ae au l).length:Int)))),(8,Row.mk 1 false true [dY,dY,AV.nil,AV.nil,AV.nil,ai 0,dY])]) (C:=[]) bC trivial<|zB 0 ?_
 have Vt:Iw seed a_ l.length need=js (words [derive seed [100,101,112,111,115,105,116] a_]) (stream (derive seed [115,104,97,114,101,115] a_) 0 (8*(need-1))) need (ae au l).length:=by rw [tK];rfl
 generalize hL:js (words [derive seed [100,101,112,111,115,105,116] a_]) (stream (derive seed [115,104,97,114,101,115] a_) 0 (8*(need-1))) need (ae au l).length=L at *
 refine bf.pA (bO.MT 16 4 87 1 (r:=⟨1,false,true,[aw (Bx (derive seed [100,101,112,111,115,105,116] a_)),dY,.nil,.ref 65,.nil,ai need,dY]⟩) bC rfl rfl bC) (zL (fun (i:Nat)=>(⟨[(16,AV.addr 16 0),(59,ao false),(15,ai (dF (words [derive seed [100,101,112,111,115,105,116] a_]) (stream (derive seed [115,104,97,114,101,115] a_) 0 ((8:Int)*(need-1))) need (↑(ae au l).length:Int))),(14,AV.ref 1055),(13,AV.sl 1 (ah (stream (derive seed [115,104,97,114,101,115] a_) 0 ((8:Int)*(need-1))))),(12,aw (derive seed [100,101,112,111,115,105,116] a_)),(34,ao false),(11,ai (ff (nt l) l.length)),(29,ao false),(10,ai 0),(9,AV.nil),(8,AV.addr 8 0),(0,aw seed),(1,ai a_),(2,AV.sl 1 (ae au l)),(3,ai need),(18,ai i),(17,AV.ref 96)],[(1055,⟨2,true,false,ae eh L⟩),(8,⟨1,false,true,[dY,dY,AV.nil,AV.nil,AV.nil,ai 0,dY]⟩),(16,⟨1,false,true,[aw (Bx (derive seed [100,101,112,111,115,105,116] a_)),dY,.nil,.ref 65,.ref 87,ai need,dY]⟩),(65,⟨1,true,false,ae au l⟩),(87,⟨1,true,false,aj ((List.range i).map fun k=>o_ (l.getD k default) (L.getD k default).2)⟩),(96,⟨1,true,false,ae wN ((List.range i).map fun k=>(L.getD k default).2)⟩)]⟩:AS)) (fun i=>(i≤l.length)) (fun i=>(l.length-i)) (0) ?_ (zW [.nil 17 96 1,.aa [16,59,15,14,13,12,34,11,29,10,9,8,0,1,2,3,18,17] [1055,8,16,65,87,96]]) ?_)
 ·omega
 intro i hi
 refine zS<|zP 1 [yH [(2,{k:=(ae au l).length})]] [.aa [71,16,59,15,14,13,12,34,11,29,10,9,8,0,1,2,3,18,17] [1055,8,16,65,87,96]] [yR ((ae au l).length)] (zD 71 ((↑i:Int)<(↑(ae au l).length:Int)) (fun g=>?_) (fun g=>?_))
 ·have dc:i<l.length:=ag
  have ic:=iZ dc
  have hA:=hh i dc
  have XT:=Ry i dc
  have q1:=congrArg aj (Nd (fun k=>o_ (l.getD k default) (L.getD k default).2) i)
  have q2:ae wN ((List.range i).map fun k=>(L.getD k default).2)++ [AV.sl 1 (ah (L.getD i default).2)]=ae wN ((List.range (i+1)).map fun k=>(L.getD k default).2):=by
   rw [←Nd,←fT];rfl
  refine a6<|zS<|zB 1<|zP 1 [{hs:=[(4,{k:=i}),(5,yV (di (l.getD i default))),(8,{k:=i}),(10,yV (AV.sl 1 (ah (L.getD i default).snd))),(11,yV (aw (o_ (l.getD i default) (L.getD i default).snd))),(12,yV (AV.arr (aj [o_ (l.getD i default) (L.getD i default).snd]))),(13,yV (AV.arr (aj (List.map (fun k↦o_ (l.getD k default) (L.getD k default).snd) (List.range i)++ [o_ (l.getD i default) (L.getD i default).snd]))))],T:=13}] [.aa [71,16,59,15,14,13,12,34,11,29,10,9,8,0,1,2,3,18,17] [16,87,1055,8,65,96]] [yR (↑i:Int),yO (i<(ae au l).length),yI ic,yR (↑i:Int),yB (i*2<(ae eh L).length) (by simp only [aA (f:=eh) (e:=2) (fun _=>rfl)];omega),yA eh L i 1,yI (w8 (l.getD i default) ((L.getD i default).snd) hA ag),yR [aw (o_ (l.getD i default) (L.getD i default).snd)],yB (aj (List.map (fun k↦o_ (l.getD k default) (L.getD k default).snd) (List.range i))++aj [o_ (l.getD i default) (L.getD i default).snd]=aj (List.map (fun k↦o_ (l.getD k default) (L.getD k default).snd) (List.range i)++ [o_ (l.getD i default) (L.getD i default).snd])) (jr _ _),yB (((aj (List.map (fun k↦o_ (l.getD k default) (L.getD k default).snd) (List.range i))).length+1)*8≤140737488355328) (by simp only [aE,List.length_map,List.length_range];omega),yL 5 7]<|zX (yH [(3,{k:=i}),(5,yV (AV.sl 1 (ah (L.getD i default).snd)))]) [yR (↑i:Int),yB (i*2<(ae eh L).length) (by simp only [aA (f:=eh) (e:=2) (fun _=>rfl)];omega),yA eh L i 1,yB (((ae wN (List.map (fun k↦(L.getD k default).snd) (List.range i))).length+1)*24≤140737488355328) (by simp only [List.length_map,List.length_range,aA (f:=wN) (e:=1) (fun _=>rfl)];omega)]<|aK<|al<|zX (yH [(1,yV (ai ((↑i:Int)+1)))]) [yN ((↑i:Int)+1)] (aF (i+1) (by assumption) ag (eX [.aa [16,59,15,14,13,12,34,11,29,10,9,8,0,1,2,3,18,17] [1055,8,16,65,87,96]] [] [87,96] [yI q1,yI q2]))
 ·have e:i=l.length:=ag
  subst e
  have e2:fX seed a_ l need=⟨Bx (derive seed [100,101,112,111,115,105,116] a_),0,[],l,(List.range l.length).map (fun k=>o_ (l.getD k default) (L.getD k default).2),need,0⟩:=by
   unfold fX;rw [if_pos e1,Vt];rfl
  have e3:tH seed a_ l need=(List.range l.length).map fun k=>(L.getD k default).2:=by
   unfold tH;rw [if_pos e1,Vt]
  refine zE 0<|a7<|aP<|bp<|al<|zP 1 [{}] [.aa [10,9,71,16,59,15,14,13,12,34,11,29,8,0,1,2,3,18,17] [8,1055,16,65,87,96]] [yL 7 7]<|zR (zV [yK (wv (Bx (derive seed [100,101,112,111,115,105,116] a_))) (wv (fX seed a_ l need).cm) (by rw [e2]),yK 0 (wv (fX seed a_ l need).peer) (by rw [e2];rfl),yB (ah (fX seed a_ l need).box= []) (by rw [e2];rfl),yB (ae au l=ae au (fX seed a_ l need).af) (by rw [e2]),yB (aj (List.map (fun k↦o_ (l.getD k default) (L.getD k default).snd) (List.range l.length))=aj (fX seed a_ l need).ay) (by rw [e2]),yJ need ((fX seed a_ l need).need) (by rw [e2]),yK 0 (wv (fX seed a_ l need).target) (by rw [e2];rfl),yB (ae wN (List.map (fun k↦(L.getD k default).snd) (List.range l.length))=ae wN (tH seed a_ l need)) (by rw [e3]),yJ 0 (rT l need) (by rw [e1])])
end Go.Proofs.YtjgbhhnghedgdaaGreatDoor
