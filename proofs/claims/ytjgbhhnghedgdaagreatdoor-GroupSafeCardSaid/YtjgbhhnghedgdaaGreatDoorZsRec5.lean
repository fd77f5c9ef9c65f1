import Derived.Test.YtjgbhhnghedgdaaGreatDoorZsOt1
set_option linter.all false
namespace Go.Proofs.YtjgbhhnghedgdaaGreatDoor
open Go.RowKit
set_option maxRecDepth 100000
set_option maxHeartbeats 4000000
theorem bh (n lo hi:Int):bK Tryz.prog 78 [ai n,ai lo,ai hi] (ao (decide (lo≤n∧n≤hi))):=by
 by_cases h1:lo≤n
 ·by_cases h2:n≤hi
  ·refine zO Tryz.func78 15<|zP 2 [{},{}] [.aa [6,0,1,2] []] (yM 4 (yT (n≥lo)))<|zR (zV [yB (Value.bool (decide (n≤hi))=Value.bool (decide (lo≤n∧n≤hi))) (by simp [h1,h2])])
  ·refine zO Tryz.func78 15<|zP 2 [{},{}] [.aa [6,0,1,2] []] (yM 4 (yT (n≥lo)))<|zR (zV [yB (Value.bool (decide (n≤hi))=Value.bool (decide (lo≤n∧n≤hi))) (by simp [h1,h2])])
 ·refine zO Tryz.func78 15<|zP 2 [{},yH ([(7,{b:=false})]++yg [4,5,6])] [.aa [6,0,1,2] []] (yM 4 (yF (n≥lo)))<|zR (zV [yB (Value.bool false=Value.bool (decide (lo≤n∧n≤hi))) (by simp [h1])])
theorem fi (x:List UInt8) (hx:x.length≤1000):bK Tryz.prog 46 [dw x] (ai (dG x)):=by
 by_cases c1:x.length<1∨32<x.length
 ·have e:=pz c1
  refine zO Tryz.func46 10<|zq<|zS<|zP 1 [yH [(1,yV (ai (↑x.length:Int))),(2,yV (ao (decide ((1:Int)≤(↑x.length:Int)∧(↑x.length:Int)≤32)))),(3,yV (ao true))]] [.aa [6,2,0] []] [yR (ai (↑x.length:Int)),yI (bh ((↑x.length:Int)) ((1:Int)) ((32:Int))),yB (ao (!decide ((1:Int)≤(↑x.length:Int)∧(↑x.length:Int)≤32))=ao true) (by simp;omega)]<|zT 6<|zq<|dW (zV [yJ 9 (dG x) (by rw [e])])
 by_cases c2:Lib.validD x=false
 ·have e:=xc c1 c2
  refine zO Tryz.func46 10<|zq<|zS<|zP 1 [yH [(1,yV (ai (↑x.length:Int))),(2,yV (ao (decide ((1:Int)≤(↑x.length:Int)∧(↑x.length:Int)≤32)))),(3,yV (ao false))]] [.aa [6,2,0] []] [yR (ai (↑x.length:Int)),yI (bh ((↑x.length:Int)) ((1:Int)) ((32:Int))),yB (ao (!decide ((1:Int)≤(↑x.length:Int)∧(↑x.length:Int)≤32))=ao false) (by simp;omega)]<|zF 6<|a8<|zS<|zP 1 [yH [(1,yV (ao (Lib.validD x))),(2,yV (ao true))]] [.aa [9,6,2,0] []] [yI (j_ x ah),yB (ao (!Lib.validD x)=ao true) (by simp;omega)]<|zT 9<|zq<|dW (zV [yJ 6 (dG x) (by rw [e])])
 have c3:Lib.validD x=true:=by simpa using c2
 have e:=Dy c1 c3
 refine zO Tryz.func46 10<|zq<|zS<|zP 1 [yH [(1,yV (ai (↑x.length:Int))),(2,yV (ao (decide ((1:Int)≤(↑x.length:Int)∧(↑x.length:Int)≤32)))),(3,yV (ao false))]] [.aa [6,2,0] []] [yR (ai (↑x.length:Int)),yI (bh ((↑x.length:Int)) ((1:Int)) ((32:Int))),yB (ao (!decide ((1:Int)≤(↑x.length:Int)∧(↑x.length:Int)≤32))=ao false) (by simp;omega)]<|zF 6<|a8<|zS<|zP 1 [yH [(1,yV (ao (Lib.validD x))),(2,yV (ao false))]] [.aa [9,6,2,0] []] [yI (j_ x ah),yB (ao (!Lib.validD x)=ao false) (by simp;omega)]<|zF 9<|a8<|zq<|zR (zV [yJ 0 (dG x) (by rw [e])])
theorem l0 (l:List (List UInt8)) (hl:l.length≤1000000) (hh:∀i,i<l.length->(l.getD i default).length≤1000):bK Tryz.prog 116 [.sl 1 (af ay l)] (ai (ff (mj l) l.length)):=by
 have sI:(af ay l).length=l.length:=by rw [aG (e:=1) (fun _=>rfl)];omega
 refine zO Tryz.func116 33<|zq<|zS<|zq<|zB 0 (zL (fun (i:Nat)=>(⟨[(0,AV.sl 1 (af ay l)),(3,ai i)],[]⟩:AS)) (fun i=>(i≤l.length∧ff (mj l) i=0)) (fun i=>(l.length-i)) (0) ?_ (zW [.aa [0,3] []]) ?_)
 ·exact ⟨ah,rfl⟩
 rintro i ⟨hi,h0⟩
 refine zS<|zP 1 [yH [(2,{k:=(af ay l).length})]] [.aa [8,0,3] []] [yR ((af ay l).length)] (zD 8 ((↑i:Int)<(↑(af ay l).length:Int)) (fun g=>?_) (fun g=>?_))
 ·have dM:i<l.length:=ah
  have ix:=jV dM
  have hA:=hh i dM
  have stop:∀e:Int,e≠0->mj l i=e->ff (mj l) l.length=e:=fun e he h1=>by
   have k2:ff (mj l) (i+1)=mj l i:=by show (if _ then _ else _)=_;rw [if_neg ah]
   rw [mn ah k2 l.length ah,h1]
  by_cases c5:dG (l.getD i default)=0
  case neg =>
   have k1:=stop _ c5 (HV rfl c5)
   refine a8<|zS<|zB 1<|zS<|zP 2 [yH [(2,{k:=i}),(3,yV (dw (l.getD i default))),(4,yV (ai (dG (l.getD i default))))],{}] [.aa [17,4,8,0,3] []] [yR (↑i:Int),yO (i<(af ay l).length),yI ix,yI (fi (l.getD i default) hA)]<|dQ 17 (dG (l.getD i default) != (0:Int)) (by simp_all)<|zq<|dW<|bl<|aW<|fD<|bl<|aW (zV [yJ (dG (l.getD i default)) (ff (mj l) l.length) (by rw [k1])])
  by_cases c6:0<i
  ·obtain ⟨k,hk⟩:∃k,k+1=i:=⟨i-1,ah⟩
   have Am:=jV (l:=l) (i:=k) ah
   have c8:=HU c5 hk
   by_cases c7:Hn (l.getD i default) (l.getD k default)=true
   ·have k1:=stop 7 ah (by rw [c8,if_pos c7])
    refine a8<|zS<|zB 1<|zS<|zP 2 [yH [(2,{k:=i}),(3,yV (dw (l.getD i default))),(4,yV (ai (dG (l.getD i default))))],{}] [.aa [17,4,8,0,3] []] [yR (↑i:Int),yO (i<(af ay l).length),yI ix,yI (fi (l.getD i default) hA)]<|bo 17 (dG (l.getD i default) != (0:Int)) (by simp_all)<|a8<|zP 1 [{hs:=[(5,{k:=i}),(6,yV (dw (l.getD i default))),(9,yV (ai ↑k)),(10,{k:=k}),(11,yV (dw (l.getD k default)))],T:=12}] [.aa [32,17,4,8,0,3] []] (yM 3 (yT ((↑i:Int)>0))++ [yR (↑i:Int),yO (i<(af ay l).length),yT ((↑i:Int)>0),yI ix]++yM 3 (yT ((↑i:Int)>0))++ [yB (ai (IntKind.i64.wrap ((↑i:Int)-1))=ai ↑k) (congrArg (fun n=>AV.val (.int .i64 n)) (by rw [IntKind.wrap_i64];omega)),yT ((↑i:Int)>0),yR (↑k:Int),yO (k<(af ay l).length),yT ((↑i:Int)>0),yI Am]++yM 2 (yT ((↑i:Int)>0)))<|dQ 32 (Op.bytesLess (ByteArray.mk (l.getD i default).toArray).toList (ByteArray.mk (l.getD k default).toArray).toList || (ByteArray.mk (l.getD i default).toArray).toList == (ByteArray.mk (l.getD k default).toArray).toList) (by assumption)<|zq<|zR<|bl<|aW<|fD<|bl<|aW (zV [yJ 7 (ff (mj l) l.length) (by rw [k1])])
   ·have c9:Hn (l.getD i default) (l.getD k default)=false:=by simpa using c7
    rw [if_neg c7] at c8
    refine a8<|zS<|zB 1<|zS<|zP 2 [yH [(2,{k:=i}),(3,yV (dw (l.getD i default))),(4,yV (ai (dG (l.getD i default))))],{}] [.aa [17,4,8,0,3] []] [yR (↑i:Int),yO (i<(af ay l).length),yI ix,yI (fi (l.getD i default) hA)]<|bo 17 (dG (l.getD i default) != (0:Int)) (by simp_all)<|a8<|zP 1 [{hs:=[(5,{k:=i}),(6,yV (dw (l.getD i default))),(9,yV (ai ↑k)),(10,{k:=k}),(11,yV (dw (l.getD k default)))],T:=12}] [.aa [32,17,4,8,0,3] []] (yM 3 (yT ((↑i:Int)>0))++ [yR (↑i:Int),yO (i<(af ay l).length),yT ((↑i:Int)>0),yI ix]++yM 3 (yT ((↑i:Int)>0))++ [yB (ai (IntKind.i64.wrap ((↑i:Int)-1))=ai ↑k) (congrArg (fun n=>AV.val (.int .i64 n)) (by rw [IntKind.wrap_i64];omega)),yT ((↑i:Int)>0),yR (↑k:Int),yO (k<(af ay l).length),yT ((↑i:Int)>0),yI Am]++yM 2 (yT ((↑i:Int)>0)))<|bo 32 (Op.bytesLess (ByteArray.mk (l.getD i default).toArray).toList (ByteArray.mk (l.getD k default).toArray).toList || (ByteArray.mk (l.getD i default).toArray).toList == (ByteArray.mk (l.getD k default).toArray).toList) (by assumption)<|zK<|aM<|ak<|zX (yH [(1,yV (ai ((↑i:Int)+1)))]) [yN ((↑i:Int)+1)] (aI (i+1) ⟨ah,by show (if _ then _ else _)=_;rw [if_neg ah,c8]⟩ ah (zW [.aa [0,3] []]))
  ·have e:i=0:=ah
   have h1:mj l i=0:=by subst e;exact DT c5
   refine a8<|zS<|zB 1<|zS<|zP 2 [yH [(2,{k:=i}),(3,yV (dw (l.getD i default))),(4,yV (ai (dG (l.getD i default))))],{}] [.aa [17,4,8,0,3] []] [yR (↑i:Int),yO (i<(af ay l).length),yI ix,yI (fi (l.getD i default) hA)]<|bo 17 (dG (l.getD i default) != (0:Int)) (by simp_all)<|a8<|zP 1 [{hs:=[(3,{g:=false}),(4,{g:=false}),(5,{g:=false}),(6,{g:=false}),(7,{g:=false}),(8,{g:=false}),(9,{g:=false}),(10,{g:=false}),(11,{g:=false}),(12,{g:=false}),(13,{b:=false})],T:=12}] [.aa [32,17,4,8,0,3] []] (yM 11 (yF ((↑i:Int)>0)))<|zF 32<|zK<|aM<|ak<|zX (yH [(1,yV (ai ((↑i:Int)+1)))]) [yN ((↑i:Int)+1)] (aI (i+1) ⟨ah,by show (if _ then _ else _)=_;rw [if_neg ah,h1]⟩ ah (zW [.aa [0,3] []]))
 ·have e:i=l.length:=ah
  subst e
  refine zE 0<|aY<|aN<|bm<|ak<|zq<|zR (zV [yJ 0 (ff (mj l) l.length) (by rw [h0])])
theorem yW (d:nC) (hl:d.ae.length≤1000000):bK Tryz.prog 49 [.agg (bg d),.agg (bg d)] (ao true):=by
 have sI:(af ay d.ae).length=d.ae.length:=by rw [aG (e:=1) (fun _=>rfl)];omega
 refine zO Tryz.func49 73<|zq<|zS<|zP 1 [yH [(2,{k:=(af ay d.ae).length}),(5,{k:=(af ay d.ae).length})]] [.aa [12,4,3,2,0,1] [3,2]] (yM 2 (yR ((af ay d.ae).length)))<|bo 12 ((↑(af ay d.ae).length:Int) != (↑(af ay d.ae).length:Int)) (by simp_all)<|a8<|zS<|zq<|zB 0 (zL (fun (i:Nat)=>(⟨[(12,ao ((↑(af ay d.ae).length:Int) != (↑(af ay d.ae).length:Int))),(3,AV.addr 3 0),(2,AV.addr 2 0),(0,AV.agg (bg d)),(1,AV.agg (bg d)),(5,ai i)],[(3,⟨1,false,true,(bg d)⟩),(2,⟨1,false,true,List.map (aQ 3) (List.map (aQ 2) (bg d))⟩)]⟩:AS)) (fun i=>(i≤d.ae.length)) (fun i=>(d.ae.length-i)) (0) ?_ (zW [.aa [12,3,2,0,1,5] [3,2]]) ?_)
 ·omega
 intro i hi
 refine zS<|zP 1 [yH [(3,{k:=(af ay d.ae).length})]] [.aa [17,12,3,2,0,1,5] [3,2]] [yR ((af ay d.ae).length)] (zD 17 ((↑i:Int)<(↑(af ay d.ae).length:Int)) (fun g=>?_) (fun g=>?_))
 ·have dM:i<d.ae.length:=ah
  have ix:=jV dM
  refine a8<|zS<|zB 1<|zP 1 [{hs:=[(3,{k:=i}),(4,yV (dw (d.ae.getD i default))),(8,{k:=i}),(9,yV (dw (d.ae.getD i default))),(10,yV (ao false))],T:=10}] [.aa [30,17,12,3,2,0,1,5] [3,2]] [yR (↑i:Int),yO (i<(af ay d.ae).length),yI ix,yR (↑i:Int),yO (i<(af ay d.ae).length),yI ix,yB (ao (!(ByteArray.mk (d.ae.getD i default).toArray).toList == (ByteArray.mk (d.ae.getD i default).toArray).toList)=ao false) (by simp)]<|zF 30<|zK<|aM<|ak<|zX (yH [(1,yV (ai ((↑i:Int)+1)))]) [yN ((↑i:Int)+1)] (aI (i+1) (by assumption) ah (zW [.aa [12,3,2,0,1,5] [3,2]]))
 ·skip
  refine zE 0<|aY<|aN<|bm<|ak<|zP 1 [yH [(4,yV (ao true)),(10,yV (ao true)),(15,yV (dw d.box)),(18,yV (dw d.box)),(19,yV (ao true)),(26,yV (ao (d.au == d.au))),(33,yV (ao true)),(40,yV (ao true))]] [.aa [4,17,12,3,2,0,1,5] [3,2]] ([yB (ao (wv d.cm == wv d.cm)=ao true) (by simp)]++yM 5 (yR true)++ [yB (ao (wv d.peer == wv d.peer)=ao true) (by simp)]++yM 4 (yR true)++ [yR (ag d.box)]++yM 3 (yR true)++ [yR (ag d.box),yR true,yB (ao ((ByteArray.mk d.box.toArray).toList == (ByteArray.mk d.box.toArray).toList)=ao true) (by simp)]++yM 6 (yR true)++ [yI (vd d.au d.au),yR true]++yM 5 (yS ((d.au == d.au)=true))++ [yS (ao (d.need == d.need)=ao true),yS ((d.au == d.au)=true)]++yM 5 (yR true)++ [yB (ao (wv d.target == wv d.target)=ao true) (by simp),yR true])<|zR (cE)
theorem Bh (l:List (List UInt8)):dh (af ay l):=by
 intro x hx
 unfold af at hx
 obtain ⟨s,_,hs⟩:=List.mem_flatMap.1 hx
 simp [ay] at hs
 subst hs;rfl
theorem Lo {T:Type} (f:Nat->T) (i:Nat):(List.range i).map f++ [f i]=(List.range (i+1)).map f:=by simp [List.range_succ]
theorem tF (seed:UInt64) (aT:Int) (l:List (List UInt8)) (need:Int) (hl:l.length≤1000000) (hh:∀i,i<l.length->(l.getD i default).length≤1000):bK Tryz.prog 71 [aw seed,ai aT,.sl 1 (af ay l),ai need] (.br [.agg (PS (fq seed aT l need)),.own 1 (af sm (sd seed aT l need)),ai (qB l need)]):=by
 have sI:(af ay l).length=l.length:=by rw [aG (e:=1) (fun _=>rfl)];omega
 by_cases hb:nv l.length need
 ·have e1:qB l need=9:=by unfold qB;rw [if_pos hb]
  have e2:fq seed aT l need=default:=by unfold fq;rw [if_neg ah]
  have e3:sd seed aT l need= []:=by unfold sd;rw [if_neg ah]
  by_cases c1:1≤l.length∧l.length≤8
  ·have c4:¬(1≤need∧need≤l.length):=by unfold nv at hb;omega
   refine zO Tryz.func71 99<|zq<|zS<|zP 1 [yH ([(1,{k:=(af ay l).length}),(2,yV (ao (decide ((1:Int)≤(↑(af ay l).length:Int)∧(↑(af ay l).length:Int)≤8)))),(3,yV (ao false)),(7,{k:=(af ay l).length,g:=false}),(8,{av:=some (ao (decide ((1:Int)≤need∧need≤(↑(af ay l).length:Int)))),g:=false}),(9,{av:=some (ao true),g:=false}),(10,{b:=false})]++yg [5,6])] [.aa [29,10,9,8,0,1,2,3] [8]] ([yR ((af ay l).length),yI (bh (↑(af ay l).length:Int) ((1:Int)) ((8:Int))),yB (ao (!decide ((1:Int)≤(↑(af ay l).length:Int)∧(↑(af ay l).length:Int)≤8))=ao false) (by simp;omega)]++yM 3 (yR false)++ [yR ((af ay l).length),yR false,yI (bh need ((1:Int)) (↑(af ay l).length:Int)),yR false,yB (ao (!decide ((1:Int)≤need∧need≤(↑(af ay l).length:Int)))=ao true) (by simp;omega),yR false])<|zT 29<|zP 1 [{}] [.aa [10,9,29,8,0,1,2,3] [8]] [yL 7 7]<|dW (zV [yK 0 (wv (fq seed aT l need).cm) (by rw [e2];rfl),yK 0 (wv (fq seed aT l need).peer) (by rw [e2];rfl),yB (ag (fq seed aT l need).box= []) (by rw [e2];rfl),yB (af ay (fq seed aT l need).ae= []) (by rw [e2];rfl),yB (aj (fq seed aT l need).au= []) (by rw [e2];rfl),yJ 0 ((fq seed aT l need).need) (by rw [e2];rfl),yK 0 (wv (fq seed aT l need).target) (by rw [e2];rfl),yB (af sm (sd seed aT l need)= []) (by rw [e3];rfl),yJ 9 (qB l need) (by rw [e1])])
  ·refine zO Tryz.func71 99<|zq<|zS<|zP 1 [yH [(1,{k:=(af ay l).length}),(2,yV (ao (decide ((1:Int)≤(↑(af ay l).length:Int)∧(↑(af ay l).length:Int)≤8)))),(3,yV (ao true))]] [.aa [29,10,9,8,0,1,2,3] [8]] ([yR ((af ay l).length),yI (bh (↑(af ay l).length:Int) ((1:Int)) ((8:Int))),yB (ao (!decide ((1:Int)≤(↑(af ay l).length:Int)∧(↑(af ay l).length:Int)≤8))=ao true) (by simp;omega)]++yM 6 (yR true))<|zT 29<|zP 1 [{}] [.aa [10,9,29,8,0,1,2,3] [8]] [yL 7 7]<|dW (zV [yK 0 (wv (fq seed aT l need).cm) (by rw [e2];rfl),yK 0 (wv (fq seed aT l need).peer) (by rw [e2];rfl),yB (ag (fq seed aT l need).box= []) (by rw [e2];rfl),yB (af ay (fq seed aT l need).ae= []) (by rw [e2];rfl),yB (aj (fq seed aT l need).au= []) (by rw [e2];rfl),yJ 0 ((fq seed aT l need).need) (by rw [e2];rfl),yK 0 (wv (fq seed aT l need).target) (by rw [e2];rfl),yB (af sm (sd seed aT l need)= []) (by rw [e3];rfl),yJ 9 (qB l need) (by rw [e1])])
 have e0:qB l need=ff (mj l) l.length:=by unfold qB;rw [if_neg hb]
 have Ju:1≤l.length∧l.length≤8∧1≤need∧need≤l.length:=by unfold nv at hb;omega
 by_cases h0:ff (mj l) l.length=0
 case neg =>
  have e2:fq seed aT l need=default:=by unfold fq;rw [if_neg ah]
  have e3:sd seed aT l need= []:=by unfold sd;rw [if_neg ah]
  refine zO Tryz.func71 99<|zq<|zS<|zP 1 [yH ([(1,{k:=(af ay l).length}),(2,yV (ao (decide ((1:Int)≤(↑(af ay l).length:Int)∧(↑(af ay l).length:Int)≤8)))),(3,yV (ao false)),(7,{k:=(af ay l).length,g:=false}),(8,{av:=some (ao (decide ((1:Int)≤need∧need≤(↑(af ay l).length:Int)))),g:=false}),(9,{av:=some (ao false),g:=false}),(10,{b:=false})]++yg [5,6])] [.aa [29,10,9,8,0,1,2,3] [8]] ([yR ((af ay l).length),yI (bh (↑(af ay l).length:Int) ((1:Int)) ((8:Int))),yB (ao (!decide ((1:Int)≤(↑(af ay l).length:Int)∧(↑(af ay l).length:Int)≤8))=ao false) (by simp;omega)]++yM 3 (yR false)++ [yR ((af ay l).length),yR false,yI (bh need ((1:Int)) (↑(af ay l).length:Int)),yR false,yB (ao (!decide ((1:Int)≤need∧need≤(↑(af ay l).length:Int)))=ao false) (by simp;omega),yR false])<|zF 29<|a8<|zS<|zP 2 [yH [(1,yV (ai (ff (mj l) l.length)))],yH [(1,yV (ao true))]] [.aa [34,11,29,10,9,8,0,1,2,3] [8]] [yI (l0 l hl hh),yB (ao (ff (mj l) l.length != (0:Int))=ao true) (by simp;omega)]<|zT 34<|zP 1 [{}] [.aa [10,9,34,11,29,8,0,1,2,3] [8]] [yL 7 7]<|dW (zV [yK 0 (wv (fq seed aT l need).cm) (by rw [e2];rfl),yK 0 (wv (fq seed aT l need).peer) (by rw [e2];rfl),yB (ag (fq seed aT l need).box= []) (by rw [e2];rfl),yB (af ay (fq seed aT l need).ae= []) (by rw [e2];rfl),yB (aj (fq seed aT l need).au= []) (by rw [e2];rfl),yJ 0 ((fq seed aT l need).need) (by rw [e2];rfl),yK 0 (wv (fq seed aT l need).target) (by rw [e2];rfl),yB (af sm (sd seed aT l need)= []) (by rw [e3];rfl),yJ (ff (mj l) l.length) (qB l need) (by rw [e0])])
 have e1:qB l need=0:=by rw [e0,h0]
 have O7:(stream (derive seed [115,104,97,114,101,115] aT) 0 (8*(need-1))).length=(8*(need-1)).toNat:=by
  rw [tp];unfold iB;omega
 have S4:(words [JS seed aT]).length=8:=by rw [dA];rfl
 have Ql:c_ (words [JS seed aT]) (stream (derive seed [115,104,97,114,101,115] aT) 0 (8*(need-1))) need l.length=0:=by
  unfold c_
  rw [if_neg ah,if_neg ah,if_neg (by rw [O7,S4];omega)]
 have Uh:(Gv seed aT l.length need).length=l.length:=by unfold Gv iC;rw [if_pos Ql];simp
 have O8:c_ (words [derive seed [100,101,112,111,115,105,116] aT]) (stream (derive seed [115,104,97,114,101,115] aT) 0 (8*(need-1))) need l.length=0:=Ql
 have Rl:(iC (words [derive seed [100,101,112,111,115,105,116] aT]) (stream (derive seed [115,104,97,114,101,115] aT) 0 (8*(need-1))) need l.length).length=l.length:=Uh
 have RX:∀i,i<l.length->((iC (words [derive seed [100,101,112,111,115,105,116] aT]) (stream (derive seed [115,104,97,114,101,115] aT) 0 (8*(need-1))) need l.length).getD i default).2.length=8:=fun i hi=>by
  rw [iC,if_pos O8,Int.toNat_natCast,BA _ _ hi]
  show (wP _ _ _ _).length=8
  unfold wP
  rw [List.length_map,List.length_range]
  exact S4
 have pJ:=Bh l
 refine zO Tryz.func71 99 ?_
 have Ui:c_ (words [derive seed [100,101,112,111,115,105,116] aT]) (stream (derive seed [115,104,97,114,101,115] aT) 0 (8*(need-1))) need (af ay l).length=0:=by rw [sI];exact O8
 have Ug:(iC (words [derive seed [100,101,112,111,115,105,116] aT]) (stream (derive seed [115,104,97,114,101,115] aT) 0 (8*(need-1))) need (af ay l).length).length=l.length:=by rw [sI];exact Rl
 have Pz:∀i,i<l.length->((iC (words [derive seed [100,101,112,111,115,105,116] aT]) (stream (derive seed [115,104,97,114,101,115] aT) 0 (8*(need-1))) need (af ay l).length).getD i default).2.length=8:=by rw [sI];exact RX
 refine zq<|zS<|zP 1 [yH ([(1,{k:=(af ay l).length}),(2,yV (ao (decide ((1:Int)≤(↑(af ay l).length:Int)∧(↑(af ay l).length:Int)≤8)))),(3,yV (ao false)),(7,{k:=(af ay l).length,g:=false}),(8,{av:=some (ao (decide ((1:Int)≤need∧need≤(↑(af ay l).length:Int)))),g:=false}),(9,{av:=some (ao false),g:=false}),(10,{b:=false})]++yg [5,6])] [.aa [29,10,9,8,0,1,2,3] [8]] ([yR ((af ay l).length),yI (bh (↑(af ay l).length:Int) ((1:Int)) ((8:Int))),yB (ao (!decide ((1:Int)≤(↑(af ay l).length:Int)∧(↑(af ay l).length:Int)≤8))=ao false) (by simp;omega)]++yM 3 (yR false)++ [yR ((af ay l).length),yR false,yI (bh need ((1:Int)) (↑(af ay l).length:Int)),yR false,yB (ao (!decide ((1:Int)≤need∧need≤(↑(af ay l).length:Int)))=ao false) (by simp;omega),yR false])<|zF 29<|a8<|zS<|zP 2 [yH [(1,yV (ai (ff (mj l) l.length)))],yH [(1,yV (ao false))]] [.aa [34,11,29,10,9,8,0,1,2,3] [8]] [yI (l0 l hl hh),yB (ao (ff (mj l) l.length != (0:Int))=ao false) (by simp;omega)]<|zF 34<|a8<|zP 3 [yH [(2,yV (aw (derive seed [100,101,112,111,115,105,116] aT)))],yH [(2,yV (aw (derive seed [115,104,97,114,101,115] aT))),(4,yV (ai (need-1))),(5,yV (ai ((8:Int)*(need-1)))),(6,yV (AV.own 1 (ag (stream (derive seed [115,104,97,114,101,115] aT) 0 ((8:Int)*(need-1))))))],yH [(1,yV (AV.arr (aj [derive seed [100,101,112,111,115,105,116] aT]))),(2,yV (AV.own 1 (ag (words [derive seed [100,101,112,111,115,105,116] aT])))),(6,{k:=(af ay l).length}),(7,{av:=some (AV.br [AV.own 2 (af du (iC (words [derive seed [100,101,112,111,115,105,116] aT]) (stream (derive seed [115,104,97,114,101,115] aT) 0 ((8:Int)*(need-1))) need (↑(af ay l).length:Int))),ai (c_ (words [derive seed [100,101,112,111,115,105,116] aT]) (stream (derive seed [115,104,97,114,101,115] aT) 0 ((8:Int)*(need-1))) need (↑(af ay l).length:Int))]),b:=false})]] [.aa [15,14,13,12,34,11,29,10,9,8,0,1,2,3] [1055,8]] [yI (om seed [100,101,112,111,115,105,116] aT (by simp [h0])),yI (om seed [115,104,97,114,101,115] aT (by simp [h0])),yN (need-1),yN ((8:Int)*(need-1)),yI (oh (derive seed [115,104,97,114,101,115] aT) 0 ((8:Int)*(need-1))),yI (aV (stream (derive seed [115,104,97,114,101,115] aT) 0 ((8:Int)*(need-1)))),yR [aw (derive seed [100,101,112,111,115,105,116] aT)],yI (de [derive seed [100,101,112,111,115,105,116] aT] (by simp [h0])),yI (aV (words [derive seed [100,101,112,111,115,105,116] aT])),yR ((af ay l).length),yI (wW (words [derive seed [100,101,112,111,115,105,116] aT]) (stream (derive seed [115,104,97,114,101,115] aT) 0 ((8:Int)*(need-1))) need (↑(af ay l).length:Int))]<|zS<|zP 1 [yH [(1,yV (ao false))]] [.aa [59,15,14,13,12,34,11,29,10,9,8,0,1,2,3] [1055,8]] [yB (ao (c_ (words [derive seed [100,101,112,111,115,105,116] aT]) (stream (derive seed [115,104,97,114,101,115] aT) 0 ((8:Int)*(need-1))) need (↑(af ay l).length:Int) != (0:Int))=ao false) (by simp;omega)]<|zF 59<|a8<|zP 2 [yH [(1,yV (aw (zr (derive seed [100,101,112,111,115,105,116] aT)))),(3,{b:=false})],{}] [.aa [17,16,59,15,14,13,12,34,11,29,10,9,8,0,1,2,3] [16,65,1055,8]] [yI (zf (derive seed [100,101,112,111,115,105,116] aT)),yI pJ,yB ((0+(af ay l).length)*16≤140737488355328) (by simp;omega),yL 7 7]<|zS<|a7.mW 1 [{}] bH (s':=AS.mk [(18,ai 0),(17,AV.nil),(16,AV.addr 16 0),(59,ao false),(15,ai (c_ (words [derive seed [100,101,112,111,115,105,116] aT]) (stream (derive seed [115,104,97,114,101,115] aT) 0 ((8:Int)*(need-1))) need (↑(af ay l).length:Int))),(14,AV.ref 1055),(13,AV.sl 1 (ag (stream (derive seed [115,104,97,114,101,115] aT) 0 ((8:Int)*(need-1))))),(12,aw (derive seed [100,101,112,111,115,105,116] aT)),(34,ao false),(11,ai (ff (mj l) l.length)),(29,ao false),(10,ai 0),(9,AV.nil),(8,AV.addr 8 0),(0,aw seed),(1,ai aT),(2,AV.sl 1 (af ay l)),(3,ai need)] [(16,Row.mk 1 false true [aw (zr (derive seed [100,101,112,111,115,105,116] aT)),eh,AV.nil,AV.ref 65,AV.nil,ai need,eh]),(65,Row.mk 1 true false (af ay l)),(1055,Row.mk 2 true false (af du (iC (words [derive seed [100,101,112,111,115,105,116] aT]) (stream (derive seed [115,104,97,114,101,115] aT) 0 ((8:Int)*(need-1))) need (↑(af ay l).length:Int)))),(8,Row.mk 1 false true [eh,eh,AV.nil,AV.nil,AV.nil,ai 0,eh])]) (C:=[]) bH trivial<|zB 0 ?_
 have TA:Gv seed aT l.length need=iC (words [derive seed [100,101,112,111,115,105,116] aT]) (stream (derive seed [115,104,97,114,101,115] aT) 0 (8*(need-1))) need (af ay l).length:=by rw [sI];rfl
 generalize hL:iC (words [derive seed [100,101,112,111,115,105,116] aT]) (stream (derive seed [115,104,97,114,101,115] aT) 0 (8*(need-1))) need (af ay l).length=L at *
 refine a7.ow (bN.K7 16 4 87 1 (r:=⟨1,false,true,[aw (zr (derive seed [100,101,112,111,115,105,116] aT)),eh,.nil,.ref 65,.nil,ai need,eh]⟩) bH rfl rfl bH) (zL (fun (i:Nat)=>(⟨[(16,AV.addr 16 0),(59,ao false),(15,ai (c_ (words [derive seed [100,101,112,111,115,105,116] aT]) (stream (derive seed [115,104,97,114,101,115] aT) 0 ((8:Int)*(need-1))) need (↑(af ay l).length:Int))),(14,AV.ref 1055),(13,AV.sl 1 (ag (stream (derive seed [115,104,97,114,101,115] aT) 0 ((8:Int)*(need-1))))),(12,aw (derive seed [100,101,112,111,115,105,116] aT)),(34,ao false),(11,ai (ff (mj l) l.length)),(29,ao false),(10,ai 0),(9,AV.nil),(8,AV.addr 8 0),(0,aw seed),(1,ai aT),(2,AV.sl 1 (af ay l)),(3,ai need),(18,ai i),(17,AV.ref 96)],[(1055,⟨2,true,false,af du L⟩),(8,⟨1,false,true,[eh,eh,AV.nil,AV.nil,AV.nil,ai 0,eh]⟩),(16,⟨1,false,true,[aw (zr (derive seed [100,101,112,111,115,105,116] aT)),eh,.nil,.ref 65,.ref 87,ai need,eh]⟩),(65,⟨1,true,false,af ay l⟩),(87,⟨1,true,false,aj ((List.range i).map fun k=>n_ (l.getD k default) (L.getD k default).2)⟩),(96,⟨1,true,false,af sm ((List.range i).map fun k=>(L.getD k default).2)⟩)]⟩:AS)) (fun i=>(i≤l.length)) (fun i=>(l.length-i)) (0) ?_ (zW [.nil 17 96 1,.aa [16,59,15,14,13,12,34,11,29,10,9,8,0,1,2,3,18,17] [1055,8,16,65,87,96]]) ?_)
 ·omega
 intro i hi
 refine zS<|zP 1 [yH [(2,{k:=(af ay l).length})]] [.aa [71,16,59,15,14,13,12,34,11,29,10,9,8,0,1,2,3,18,17] [1055,8,16,65,87,96]] [yR ((af ay l).length)] (zD 71 ((↑i:Int)<(↑(af ay l).length:Int)) (fun g=>?_) (fun g=>?_))
 ·have dM:i<l.length:=ah
  have ix:=jV dM
  have hA:=hh i dM
  have V5:=Pz i dM
  have q1:=congrArg aj (Lo (fun k=>n_ (l.getD k default) (L.getD k default).2) i)
  have q2:af sm ((List.range i).map fun k=>(L.getD k default).2)++ [AV.sl 1 (ag (L.getD i default).2)]=af sm ((List.range (i+1)).map fun k=>(L.getD k default).2):=by
   rw [←Lo,←fO];rfl
  refine a8<|zS<|zB 1<|zP 1 [{hs:=[(4,{k:=i}),(5,yV (dw (l.getD i default))),(8,{k:=i}),(10,yV (AV.sl 1 (ag (L.getD i default).snd))),(11,yV (aw (n_ (l.getD i default) (L.getD i default).snd))),(12,yV (AV.arr (aj [n_ (l.getD i default) (L.getD i default).snd]))),(13,yV (AV.arr (aj (List.map (fun k↦n_ (l.getD k default) (L.getD k default).snd) (List.range i)++ [n_ (l.getD i default) (L.getD i default).snd]))))],T:=13}] [.aa [71,16,59,15,14,13,12,34,11,29,10,9,8,0,1,2,3,18,17] [16,87,1055,8,65,96]] [yR (↑i:Int),yO (i<(af ay l).length),yI ix,yR (↑i:Int),yB (i*2<(af du L).length) (by simp only [aG (f:=du) (e:=2) (fun _=>rfl)];omega),yA du L i 1,yI (vj (l.getD i default) ((L.getD i default).snd) hA ah),yR [aw (n_ (l.getD i default) (L.getD i default).snd)],yB (aj (List.map (fun k↦n_ (l.getD k default) (L.getD k default).snd) (List.range i))++aj [n_ (l.getD i default) (L.getD i default).snd]=aj (List.map (fun k↦n_ (l.getD k default) (L.getD k default).snd) (List.range i)++ [n_ (l.getD i default) (L.getD i default).snd])) (kn _ _),yB (((aj (List.map (fun k↦n_ (l.getD k default) (L.getD k default).snd) (List.range i))).length+1)*8≤140737488355328) (by simp only [aD,List.length_map,List.length_range];omega),yL 5 7]<|zX (yH [(3,{k:=i}),(5,yV (AV.sl 1 (ag (L.getD i default).snd)))]) [yR (↑i:Int),yB (i*2<(af du L).length) (by simp only [aG (f:=du) (e:=2) (fun _=>rfl)];omega),yA du L i 1,yB (((af sm (List.map (fun k↦(L.getD k default).snd) (List.range i))).length+1)*24≤140737488355328) (by simp only [List.length_map,List.length_range,aG (f:=sm) (e:=1) (fun _=>rfl)];omega)]<|aM<|ak<|zX (yH [(1,yV (ai ((↑i:Int)+1)))]) [yN ((↑i:Int)+1)] (aI (i+1) (by assumption) ah (e_ [.aa [16,59,15,14,13,12,34,11,29,10,9,8,0,1,2,3,18,17] [1055,8,16,65,87,96]] [] [87,96] [yI q1,yI q2]))
 ·have e:i=l.length:=ah
  subst e
  have e2:fq seed aT l need=⟨zr (derive seed [100,101,112,111,115,105,116] aT),0,[],l,(List.range l.length).map (fun k=>n_ (l.getD k default) (L.getD k default).2),need,0⟩:=by
   unfold fq;rw [if_pos e1,TA];rfl
  have e3:sd seed aT l need=(List.range l.length).map fun k=>(L.getD k default).2:=by
   unfold sd;rw [if_pos e1,TA]
  refine zE 0<|aY<|aN<|bm<|ak<|zP 1 [{}] [.aa [10,9,71,16,59,15,14,13,12,34,11,29,8,0,1,2,3,18,17] [8,1055,16,65,87,96]] [yL 7 7]<|zR (zV [yK (wv (zr (derive seed [100,101,112,111,115,105,116] aT))) (wv (fq seed aT l need).cm) (by rw [e2]),yK 0 (wv (fq seed aT l need).peer) (by rw [e2];rfl),yB (ag (fq seed aT l need).box= []) (by rw [e2];rfl),yB (af ay l=af ay (fq seed aT l need).ae) (by rw [e2]),yB (aj (List.map (fun k↦n_ (l.getD k default) (L.getD k default).snd) (List.range l.length))=aj (fq seed aT l need).au) (by rw [e2]),yJ need ((fq seed aT l need).need) (by rw [e2]),yK 0 (wv (fq seed aT l need).target) (by rw [e2];rfl),yB (af sm (List.map (fun k↦(L.getD k default).snd) (List.range l.length))=af sm (sd seed aT l need)) (by rw [e3]),yJ 0 (qB l need) (by rw [e1])])
end Go.Proofs.YtjgbhhnghedgdaaGreatDoor
