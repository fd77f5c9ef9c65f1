import Derived.Test.YtjgbhhnghedgdaaGreatDoorZmOt1
set_option linter.all false
namespace Go.Proofs.YtjgbhhnghedgdaaGreatDoor
open Go.RowKit
set_option maxRecDepth 100000
set_option maxHeartbeats 4000000
theorem bq (n lo hi:Int):bC Tryz.prog 78 [ai n,ai lo,ai hi] (ao (decide (lo≤n∧n≤hi))):=by
 by_cases h1:lo≤n
 ·by_cases h2:n≤hi
  ·refine zO Tryz.func78 15<|zP 2 [{},{}] [.aa [6,0,1,2] []] (yM 4 (yT (n≥lo)))<|zR (zV [yB (Value.bool (decide (n≤hi))=Value.bool (decide (lo≤n∧n≤hi))) (by simp [h1,h2])])
  ·refine zO Tryz.func78 15<|zP 2 [{},{}] [.aa [6,0,1,2] []] (yM 4 (yT (n≥lo)))<|zR (zV [yB (Value.bool (decide (n≤hi))=Value.bool (decide (lo≤n∧n≤hi))) (by simp [h1,h2])])
 ·refine zO Tryz.func78 15<|zP 2 [{},yH ([(7,{b:=false})]++yg [4,5,6])] [.aa [6,0,1,2] []] (yM 4 (yF (n≥lo)))<|zR (zV [yB (Value.bool false=Value.bool (decide (lo≤n∧n≤hi))) (by simp [h1])])
theorem fF (x:List UInt8) (hx:x.length≤1000):bC Tryz.prog 46 [cQ x] (ai (eh x)):=by
 by_cases c1:x.length<1∨32<x.length
 ·have e:=qg c1
  refine zO Tryz.func46 10<|zq<|zS<|zP 1 [yH [(1,yV (ai (↑x.length:Int))),(2,yV (ao (decide ((1:Int)≤(↑x.length:Int)∧(↑x.length:Int)≤32)))),(3,yV (ao true))]] [.aa [6,2,0] []] [yR (ai (↑x.length:Int)),yI (bq ((↑x.length:Int)) ((1:Int)) ((32:Int))),yB (ao (!decide ((1:Int)≤(↑x.length:Int)∧(↑x.length:Int)≤32))=ao true) (by simp;omega)]<|zT 6<|zq<|dd (zV [yJ 9 (eh x) (by rw [e])])
 by_cases c2:Lib.validD x=false
 ·have e:=ya c1 c2
  refine zO Tryz.func46 10<|zq<|zS<|zP 1 [yH [(1,yV (ai (↑x.length:Int))),(2,yV (ao (decide ((1:Int)≤(↑x.length:Int)∧(↑x.length:Int)≤32)))),(3,yV (ao false))]] [.aa [6,2,0] []] [yR (ai (↑x.length:Int)),yI (bq ((↑x.length:Int)) ((1:Int)) ((32:Int))),yB (ao (!decide ((1:Int)≤(↑x.length:Int)∧(↑x.length:Int)≤32))=ao false) (by simp;omega)]<|zF 6<|aW<|zS<|zP 1 [yH [(1,yV (ao (Lib.validD x))),(2,yV (ao true))]] [.aa [9,6,2,0] []] [yI (kp x ah),yB (ao (!Lib.validD x)=ao true) (by simp;omega)]<|zT 9<|zq<|dd (zV [yJ 6 (eh x) (by rw [e])])
 have c3:Lib.validD x=true:=by simpa using c2
 have e:=EI c1 c3
 refine zO Tryz.func46 10<|zq<|zS<|zP 1 [yH [(1,yV (ai (↑x.length:Int))),(2,yV (ao (decide ((1:Int)≤(↑x.length:Int)∧(↑x.length:Int)≤32)))),(3,yV (ao false))]] [.aa [6,2,0] []] [yR (ai (↑x.length:Int)),yI (bq ((↑x.length:Int)) ((1:Int)) ((32:Int))),yB (ao (!decide ((1:Int)≤(↑x.length:Int)∧(↑x.length:Int)≤32))=ao false) (by simp;omega)]<|zF 6<|aW<|zS<|zP 1 [yH [(1,yV (ao (Lib.validD x))),(2,yV (ao false))]] [.aa [9,6,2,0] []] [yI (kp x ah),yB (ao (!Lib.validD x)=ao false) (by simp;omega)]<|zF 9<|aW<|zq<|zR (zV [yJ 0 (eh x) (by rw [e])])
theorem mu (l:List (List UInt8)) (hl:l.length≤1000000) (hh:∀i,i<l.length->(l.getD i default).length≤1000):bC Tryz.prog 116 [.sl 1 (ae ax l)] (ai (ff (mN l) l.length)):=by
 have oJ:(ae ax l).length=l.length:=by rw [aE (e:=1) (fun _=>rfl)];omega
 refine zO Tryz.func116 33<|zq<|zS<|zq<|zB 0 (zL (fun (i:Nat)=>(⟨[(0,AV.sl 1 (ae ax l)),(3,ai i)],[]⟩:AS)) (fun i=>(i≤l.length∧ff (mN l) i=0)) (fun i=>(l.length-i)) (0) ?_ (zW [.aa [0,3] []]) ?_)
 ·exact ⟨ah,rfl⟩
 rintro i ⟨hi,h0⟩
 refine zS<|zP 1 [yH [(2,{k:=(ae ax l).length})]] [.aa [8,0,3] []] [yR ((ae ax l).length)] (zD 8 ((↑i:Int)<(↑(ae ax l).length:Int)) (fun g=>?_) (fun g=>?_))
 ·have cX:i<l.length:=ah
  have gh:=ie cX
  have hA:=hh i cX
  have stop:∀e:Int,e≠0->mN l i=e->ff (mN l) l.length=e:=fun e he h1=>by
   have k2:ff (mN l) (i+1)=mN l i:=by show (if _ then _ else _)=_;rw [if_neg ah]
   rw [jB ah k2 l.length ah,h1]
  by_cases c5:eh (l.getD i default)=0
  case neg =>
   have k1:=stop _ c5 (I2 rfl c5)
   refine aW<|zS<|zB 1<|zS<|zP 2 [yH [(2,{k:=i}),(3,yV (cQ (l.getD i default))),(4,yV (ai (eh (l.getD i default))))],{}] [.aa [17,4,8,0,3] []] [yR (↑i:Int),yO (i<(ae ax l).length),yI gh,yI (fF (l.getD i default) hA)]<|dm 17 (eh (l.getD i default) != (0:Int)) (by simp_all)<|zq<|dd<|bc<|aN<|df<|bc<|aN (zV [yJ (eh (l.getD i default)) (ff (mN l) l.length) (by rw [k1])])
  by_cases c6:0<i
  ·obtain ⟨k,hk⟩:∃k,k+1=i:=⟨i-1,ah⟩
   have yP:=ie (l:=l) (i:=k) ah
   have c8:=I1 c5 hk
   by_cases c7:F9 (l.getD i default) (l.getD k default)=true
   ·have k1:=stop 7 ah (by rw [c8,if_pos c7])
    refine aW<|zS<|zB 1<|zS<|zP 2 [yH [(2,{k:=i}),(3,yV (cQ (l.getD i default))),(4,yV (ai (eh (l.getD i default))))],{}] [.aa [17,4,8,0,3] []] [yR (↑i:Int),yO (i<(ae ax l).length),yI gh,yI (fF (l.getD i default) hA)]<|bj 17 (eh (l.getD i default) != (0:Int)) (by simp_all)<|aW<|zP 1 [{hs:=[(5,{k:=i}),(6,yV (cQ (l.getD i default))),(9,yV (ai ↑k)),(10,{k:=k}),(11,yV (cQ (l.getD k default)))],T:=12}] [.aa [32,17,4,8,0,3] []] (yM 3 (yT ((↑i:Int)>0))++ [yR (↑i:Int),yO (i<(ae ax l).length),yT ((↑i:Int)>0),yI gh]++yM 3 (yT ((↑i:Int)>0))++ [yB (ai (IntKind.i64.wrap ((↑i:Int)-1))=ai ↑k) (congrArg (fun n=>AV.val (.int .i64 n)) (by rw [IntKind.wrap_i64];omega)),yT ((↑i:Int)>0),yR (↑k:Int),yO (k<(ae ax l).length),yT ((↑i:Int)>0),yI yP]++yM 2 (yT ((↑i:Int)>0)))<|dm 32 (Op.bytesLess (ByteArray.mk (l.getD i default).toArray).toList (ByteArray.mk (l.getD k default).toArray).toList || (ByteArray.mk (l.getD i default).toArray).toList == (ByteArray.mk (l.getD k default).toArray).toList) (by assumption)<|zq<|zR<|bc<|aN<|df<|bc<|aN (zV [yJ 7 (ff (mN l) l.length) (by rw [k1])])
   ·have c9:F9 (l.getD i default) (l.getD k default)=false:=by simpa using c7
    rw [if_neg c7] at c8
    refine aW<|zS<|zB 1<|zS<|zP 2 [yH [(2,{k:=i}),(3,yV (cQ (l.getD i default))),(4,yV (ai (eh (l.getD i default))))],{}] [.aa [17,4,8,0,3] []] [yR (↑i:Int),yO (i<(ae ax l).length),yI gh,yI (fF (l.getD i default) hA)]<|bj 17 (eh (l.getD i default) != (0:Int)) (by simp_all)<|aW<|zP 1 [{hs:=[(5,{k:=i}),(6,yV (cQ (l.getD i default))),(9,yV (ai ↑k)),(10,{k:=k}),(11,yV (cQ (l.getD k default)))],T:=12}] [.aa [32,17,4,8,0,3] []] (yM 3 (yT ((↑i:Int)>0))++ [yR (↑i:Int),yO (i<(ae ax l).length),yT ((↑i:Int)>0),yI gh]++yM 3 (yT ((↑i:Int)>0))++ [yB (ai (IntKind.i64.wrap ((↑i:Int)-1))=ai ↑k) (congrArg (fun n=>AV.val (.int .i64 n)) (by rw [IntKind.wrap_i64];omega)),yT ((↑i:Int)>0),yR (↑k:Int),yO (k<(ae ax l).length),yT ((↑i:Int)>0),yI yP]++yM 2 (yT ((↑i:Int)>0)))<|bj 32 (Op.bytesLess (ByteArray.mk (l.getD i default).toArray).toList (ByteArray.mk (l.getD k default).toArray).toList || (ByteArray.mk (l.getD i default).toArray).toList == (ByteArray.mk (l.getD k default).toArray).toList) (by assumption)<|zK<|aM<|ak<|zX (yH [(1,yV (ai ((↑i:Int)+1)))]) [yN ((↑i:Int)+1)] (aH (i+1) ⟨ah,by show (if _ then _ else _)=_;rw [if_neg ah,c8]⟩ ah (zW [.aa [0,3] []]))
  ·have e:i=0:=ah
   have h1:mN l i=0:=by subst e;exact E2 c5
   refine aW<|zS<|zB 1<|zS<|zP 2 [yH [(2,{k:=i}),(3,yV (cQ (l.getD i default))),(4,yV (ai (eh (l.getD i default))))],{}] [.aa [17,4,8,0,3] []] [yR (↑i:Int),yO (i<(ae ax l).length),yI gh,yI (fF (l.getD i default) hA)]<|bj 17 (eh (l.getD i default) != (0:Int)) (by simp_all)<|aW<|zP 1 [{hs:=[(3,{g:=false}),(4,{g:=false}),(5,{g:=false}),(6,{g:=false}),(7,{g:=false}),(8,{g:=false}),(9,{g:=false}),(10,{g:=false}),(11,{g:=false}),(12,{g:=false}),(13,{b:=false})],T:=12}] [.aa [32,17,4,8,0,3] []] (yM 11 (yF ((↑i:Int)>0)))<|zF 32<|zK<|aM<|ak<|zX (yH [(1,yV (ai ((↑i:Int)+1)))]) [yN ((↑i:Int)+1)] (aH (i+1) ⟨ah,by show (if _ then _ else _)=_;rw [if_neg ah,h1]⟩ ah (zW [.aa [0,3] []]))
 ·have e:i=l.length:=ah
  subst e
  refine zE 0<|aS<|aK<|bg<|ak<|zq<|zR (zV [yJ 0 (ff (mN l) l.length) (by rw [h0])])
theorem Av (d:np) (hl:d.af.length≤1000000):bC Tryz.prog 49 [.agg (a_ d),.agg (a_ d)] (ao true):=by
 have oJ:(ae ax d.af).length=d.af.length:=by rw [aE (e:=1) (fun _=>rfl)];omega
 refine zO Tryz.func49 73<|zq<|zS<|zP 1 [yH [(2,{k:=(ae ax d.af).length}),(5,{k:=(ae ax d.af).length})]] [.aa [12,4,3,2,0,1] [3,2]] (yM 2 (yR ((ae ax d.af).length)))<|bj 12 ((↑(ae ax d.af).length:Int) != (↑(ae ax d.af).length:Int)) (by simp_all)<|aW<|zS<|zq<|zB 0 (zL (fun (i:Nat)=>(⟨[(12,ao ((↑(ae ax d.af).length:Int) != (↑(ae ax d.af).length:Int))),(3,AV.addr 3 0),(2,AV.addr 2 0),(0,AV.agg (a_ d)),(1,AV.agg (a_ d)),(5,ai i)],[(3,⟨1,false,true,(a_ d)⟩),(2,⟨1,false,true,List.map (aB 3) (List.map (aB 2) (a_ d))⟩)]⟩:AS)) (fun i=>(i≤d.af.length)) (fun i=>(d.af.length-i)) (0) ?_ (zW [.aa [12,3,2,0,1,5] [3,2]]) ?_)
 ·omega
 intro i hi
 refine zS<|zP 1 [yH [(3,{k:=(ae ax d.af).length})]] [.aa [17,12,3,2,0,1,5] [3,2]] [yR ((ae ax d.af).length)] (zD 17 ((↑i:Int)<(↑(ae ax d.af).length:Int)) (fun g=>?_) (fun g=>?_))
 ·have cX:i<d.af.length:=ah
  have gh:=ie cX
  refine aW<|zS<|zB 1<|zP 1 [{hs:=[(3,{k:=i}),(4,yV (cQ (d.af.getD i default))),(8,{k:=i}),(9,yV (cQ (d.af.getD i default))),(10,yV (ao false))],T:=10}] [.aa [30,17,12,3,2,0,1,5] [3,2]] [yR (↑i:Int),yO (i<(ae ax d.af).length),yI gh,yR (↑i:Int),yO (i<(ae ax d.af).length),yI gh,yB (ao (!(ByteArray.mk (d.af.getD i default).toArray).toList == (ByteArray.mk (d.af.getD i default).toArray).toList)=ao false) (by simp)]<|zF 30<|zK<|aM<|ak<|zX (yH [(1,yV (ai ((↑i:Int)+1)))]) [yN ((↑i:Int)+1)] (aH (i+1) (by assumption) ah (zW [.aa [12,3,2,0,1,5] [3,2]]))
 ·skip
  refine zE 0<|aS<|aK<|bg<|ak<|zP 1 [yH [(4,yV (ao true)),(10,yV (ao true)),(15,yV (cQ d.box)),(18,yV (cQ d.box)),(19,yV (ao true)),(26,yV (ao (d.ay == d.ay))),(33,yV (ao true)),(40,yV (ao true))]] [.aa [4,17,12,3,2,0,1,5] [3,2]] ([yB (ao (wv d.bY == wv d.bY)=ao true) (by simp)]++yM 5 (yR true)++ [yB (ao (wv d.peer == wv d.peer)=ao true) (by simp)]++yM 4 (yR true)++ [yR (ag d.box)]++yM 3 (yR true)++ [yR (ag d.box),yR true,yB (ao ((ByteArray.mk d.box.toArray).toList == (ByteArray.mk d.box.toArray).toList)=ao true) (by simp)]++yM 6 (yR true)++ [yI (vT d.ay d.ay),yR true]++yM 5 (yS ((d.ay == d.ay)=true))++ [yS (ao (d.need == d.need)=ao true),yS ((d.ay == d.ay)=true)]++yM 5 (yR true)++ [yB (ao (wv d.target == wv d.target)=ao true) (by simp),yR true])<|zR (bL)
theorem Cs (l:List (List UInt8)):cE (ae ax l):=by
 intro x hx
 unfold ae at hx
 obtain ⟨s,_,hs⟩:=List.mem_flatMap.1 hx
 simp [ax] at hs
 subst hs;rfl
theorem Mf {T:Type} (f:Nat->T) (i:Nat):(List.range i).map f++ [f i]=(List.range (i+1)).map f:=by simp [List.range_succ]
theorem uh (seed:UInt64) (a8:Int) (l:List (List UInt8)) (need:Int) (hl:l.length≤1000000) (hh:∀i,i<l.length->(l.getD i default).length≤1000):bC Tryz.prog 71 [aw seed,ai a8,.sl 1 (ae ax l),ai need] (.bk [.agg (QE (fK seed a8 l need)),.own 1 (ae s7 (sS seed a8 l need)),ai (rh l need)]):=by
 have oJ:(ae ax l).length=l.length:=by rw [aE (e:=1) (fun _=>rfl)];omega
 by_cases hb:nX l.length need
 ·have e1:rh l need=9:=by unfold rh;rw [if_pos hb]
  have e2:fK seed a8 l need=default:=by unfold fK;rw [if_neg ah]
  have e3:sS seed a8 l need= []:=by unfold sS;rw [if_neg ah]
  by_cases c1:1≤l.length∧l.length≤8
  ·have c4:¬(1≤need∧need≤l.length):=by unfold nX at hb;omega
   refine zO Tryz.func71 99<|zq<|zS<|zP 1 [yH ([(1,{k:=(ae ax l).length}),(2,yV (ao (decide ((1:Int)≤(↑(ae ax l).length:Int)∧(↑(ae ax l).length:Int)≤8)))),(3,yV (ao false)),(7,{k:=(ae ax l).length,g:=false}),(8,{av:=some (ao (decide ((1:Int)≤need∧need≤(↑(ae ax l).length:Int)))),g:=false}),(9,{av:=some (ao true),g:=false}),(10,{b:=false})]++yg [5,6])] [.aa [29,10,9,8,0,1,2,3] [8]] ([yR ((ae ax l).length),yI (bq (↑(ae ax l).length:Int) ((1:Int)) ((8:Int))),yB (ao (!decide ((1:Int)≤(↑(ae ax l).length:Int)∧(↑(ae ax l).length:Int)≤8))=ao false) (by simp;omega)]++yM 3 (yR false)++ [yR ((ae ax l).length),yR false,yI (bq need ((1:Int)) (↑(ae ax l).length:Int)),yR false,yB (ao (!decide ((1:Int)≤need∧need≤(↑(ae ax l).length:Int)))=ao true) (by simp;omega),yR false])<|zT 29<|zP 1 [{}] [.aa [10,9,29,8,0,1,2,3] [8]] [yL 7 7]<|dd (zV [yK 0 (wv (fK seed a8 l need).bY) (by rw [e2];rfl),yK 0 (wv (fK seed a8 l need).peer) (by rw [e2];rfl),yB (ag (fK seed a8 l need).box= []) (by rw [e2];rfl),yB (ae ax (fK seed a8 l need).af= []) (by rw [e2];rfl),yB (aj (fK seed a8 l need).ay= []) (by rw [e2];rfl),yJ 0 ((fK seed a8 l need).need) (by rw [e2];rfl),yK 0 (wv (fK seed a8 l need).target) (by rw [e2];rfl),yB (ae s7 (sS seed a8 l need)= []) (by rw [e3];rfl),yJ 9 (rh l need) (by rw [e1])])
  ·refine zO Tryz.func71 99<|zq<|zS<|zP 1 [yH [(1,{k:=(ae ax l).length}),(2,yV (ao (decide ((1:Int)≤(↑(ae ax l).length:Int)∧(↑(ae ax l).length:Int)≤8)))),(3,yV (ao true))]] [.aa [29,10,9,8,0,1,2,3] [8]] ([yR ((ae ax l).length),yI (bq (↑(ae ax l).length:Int) ((1:Int)) ((8:Int))),yB (ao (!decide ((1:Int)≤(↑(ae ax l).length:Int)∧(↑(ae ax l).length:Int)≤8))=ao true) (by simp;omega)]++yM 6 (yR true))<|zT 29<|zP 1 [{}] [.aa [10,9,29,8,0,1,2,3] [8]] [yL 7 7]<|dd (zV [yK 0 (wv (fK seed a8 l need).bY) (by rw [e2];rfl),yK 0 (wv (fK seed a8 l need).peer) (by rw [e2];rfl),yB (ag (fK seed a8 l need).box= []) (by rw [e2];rfl),yB (ae ax (fK seed a8 l need).af= []) (by rw [e2];rfl),yB (aj (fK seed a8 l need).ay= []) (by rw [e2];rfl),yJ 0 ((fK seed a8 l need).need) (by rw [e2];rfl),yK 0 (wv (fK seed a8 l need).target) (by rw [e2];rfl),yB (ae s7 (sS seed a8 l need)= []) (by rw [e3];rfl),yJ 9 (rh l need) (by rw [e1])])
 have e0:rh l need=ff (mN l) l.length:=by unfold rh;rw [if_neg hb]
 have Ku:1≤l.length∧l.length≤8∧1≤need∧need≤l.length:=by unfold nX at hb;omega
 by_cases h0:ff (mN l) l.length=0
 case neg =>
  have e2:fK seed a8 l need=default:=by unfold fK;rw [if_neg ah]
  have e3:sS seed a8 l need= []:=by unfold sS;rw [if_neg ah]
  refine zO Tryz.func71 99<|zq<|zS<|zP 1 [yH ([(1,{k:=(ae ax l).length}),(2,yV (ao (decide ((1:Int)≤(↑(ae ax l).length:Int)∧(↑(ae ax l).length:Int)≤8)))),(3,yV (ao false)),(7,{k:=(ae ax l).length,g:=false}),(8,{av:=some (ao (decide ((1:Int)≤need∧need≤(↑(ae ax l).length:Int)))),g:=false}),(9,{av:=some (ao false),g:=false}),(10,{b:=false})]++yg [5,6])] [.aa [29,10,9,8,0,1,2,3] [8]] ([yR ((ae ax l).length),yI (bq (↑(ae ax l).length:Int) ((1:Int)) ((8:Int))),yB (ao (!decide ((1:Int)≤(↑(ae ax l).length:Int)∧(↑(ae ax l).length:Int)≤8))=ao false) (by simp;omega)]++yM 3 (yR false)++ [yR ((ae ax l).length),yR false,yI (bq need ((1:Int)) (↑(ae ax l).length:Int)),yR false,yB (ao (!decide ((1:Int)≤need∧need≤(↑(ae ax l).length:Int)))=ao false) (by simp;omega),yR false])<|zF 29<|aW<|zS<|zP 2 [yH [(1,yV (ai (ff (mN l) l.length)))],yH [(1,yV (ao true))]] [.aa [34,11,29,10,9,8,0,1,2,3] [8]] [yI (mu l hl hh),yB (ao (ff (mN l) l.length != (0:Int))=ao true) (by simp;omega)]<|zT 34<|zP 1 [{}] [.aa [10,9,34,11,29,8,0,1,2,3] [8]] [yL 7 7]<|dd (zV [yK 0 (wv (fK seed a8 l need).bY) (by rw [e2];rfl),yK 0 (wv (fK seed a8 l need).peer) (by rw [e2];rfl),yB (ag (fK seed a8 l need).box= []) (by rw [e2];rfl),yB (ae ax (fK seed a8 l need).af= []) (by rw [e2];rfl),yB (aj (fK seed a8 l need).ay= []) (by rw [e2];rfl),yJ 0 ((fK seed a8 l need).need) (by rw [e2];rfl),yK 0 (wv (fK seed a8 l need).target) (by rw [e2];rfl),yB (ae s7 (sS seed a8 l need)= []) (by rw [e3];rfl),yJ (ff (mN l) l.length) (rh l need) (by rw [e0])])
 have e1:rh l need=0:=by rw [e0,h0]
 have PN:(stream (derive seed [115,104,97,114,101,115] a8) 0 (8*(need-1))).length=(8*(need-1)).toNat:=by
  rw [tU];unfold iL;omega
 have TL:(words [KM seed a8]).length=8:=by rw [dW];rfl
 have Q6:dr (words [KM seed a8]) (stream (derive seed [115,104,97,114,101,115] a8) 0 (8*(need-1))) need l.length=0:=by
  unfold dr
  rw [if_neg ah,if_neg ah,if_neg (by rw [PN,TL];omega)]
 have UZ:(HH seed a8 l.length need).length=l.length:=by unfold HH iM;rw [if_pos Q6];simp
 have PO:dr (words [derive seed [100,101,112,111,115,105,116] a8]) (stream (derive seed [115,104,97,114,101,115] a8) 0 (8*(need-1))) need l.length=0:=Q6
 have R5:(iM (words [derive seed [100,101,112,111,115,105,116] a8]) (stream (derive seed [115,104,97,114,101,115] a8) 0 (8*(need-1))) need l.length).length=l.length:=UZ
 have SD:∀i,i<l.length->((iM (words [derive seed [100,101,112,111,115,105,116] a8]) (stream (derive seed [115,104,97,114,101,115] a8) 0 (8*(need-1))) need l.length).getD i default).2.length=8:=fun i hi=>by
  rw [iM,if_pos PO,Int.toNat_natCast,CK _ _ hi]
  show (xJ _ _ _ _).length=8
  unfold xJ
  rw [List.length_map,List.length_range]
  exact TL
 have oY:=Cs l
 refine zO Tryz.func71 99 ?_
 have U0:dr (words [derive seed [100,101,112,111,115,105,116] a8]) (stream (derive seed [115,104,97,114,101,115] a8) 0 (8*(need-1))) need (ae ax l).length=0:=by rw [oJ];exact PO
 have UY:(iM (words [derive seed [100,101,112,111,115,105,116] a8]) (stream (derive seed [115,104,97,114,101,115] a8) 0 (8*(need-1))) need (ae ax l).length).length=l.length:=by rw [oJ];exact R5
 have Qk:∀i,i<l.length->((iM (words [derive seed [100,101,112,111,115,105,116] a8]) (stream (derive seed [115,104,97,114,101,115] a8) 0 (8*(need-1))) need (ae ax l).length).getD i default).2.length=8:=by rw [oJ];exact SD
 refine zq<|zS<|zP 1 [yH ([(1,{k:=(ae ax l).length}),(2,yV (ao (decide ((1:Int)≤(↑(ae ax l).length:Int)∧(↑(ae ax l).length:Int)≤8)))),(3,yV (ao false)),(7,{k:=(ae ax l).length,g:=false}),(8,{av:=some (ao (decide ((1:Int)≤need∧need≤(↑(ae ax l).length:Int)))),g:=false}),(9,{av:=some (ao false),g:=false}),(10,{b:=false})]++yg [5,6])] [.aa [29,10,9,8,0,1,2,3] [8]] ([yR ((ae ax l).length),yI (bq (↑(ae ax l).length:Int) ((1:Int)) ((8:Int))),yB (ao (!decide ((1:Int)≤(↑(ae ax l).length:Int)∧(↑(ae ax l).length:Int)≤8))=ao false) (by simp;omega)]++yM 3 (yR false)++ [yR ((ae ax l).length),yR false,yI (bq need ((1:Int)) (↑(ae ax l).length:Int)),yR false,yB (ao (!decide ((1:Int)≤need∧need≤(↑(ae ax l).length:Int)))=ao false) (by simp;omega),yR false])<|zF 29<|aW<|zS<|zP 2 [yH [(1,yV (ai (ff (mN l) l.length)))],yH [(1,yV (ao false))]] [.aa [34,11,29,10,9,8,0,1,2,3] [8]] [yI (mu l hl hh),yB (ao (ff (mN l) l.length != (0:Int))=ao false) (by simp;omega)]<|zF 34<|aW<|zP 3 [yH [(2,yV (aw (derive seed [100,101,112,111,115,105,116] a8)))],yH [(2,yV (aw (derive seed [115,104,97,114,101,115] a8))),(4,yV (ai (need-1))),(5,yV (ai ((8:Int)*(need-1)))),(6,yV (AV.own 1 (ag (stream (derive seed [115,104,97,114,101,115] a8) 0 ((8:Int)*(need-1))))))],yH [(1,yV (AV.arr (aj [derive seed [100,101,112,111,115,105,116] a8]))),(2,yV (AV.own 1 (ag (words [derive seed [100,101,112,111,115,105,116] a8])))),(6,{k:=(ae ax l).length}),(7,{av:=some (AV.bk [AV.own 2 (ae dS (iM (words [derive seed [100,101,112,111,115,105,116] a8]) (stream (derive seed [115,104,97,114,101,115] a8) 0 ((8:Int)*(need-1))) need (↑(ae ax l).length:Int))),ai (dr (words [derive seed [100,101,112,111,115,105,116] a8]) (stream (derive seed [115,104,97,114,101,115] a8) 0 ((8:Int)*(need-1))) need (↑(ae ax l).length:Int))]),b:=false})]] [.aa [15,14,13,12,34,11,29,10,9,8,0,1,2,3] [1055,8]] [yI (oU seed [100,101,112,111,115,105,116] a8 (by simp [h0])),yI (oU seed [115,104,97,114,101,115] a8 (by simp [h0])),yN (need-1),yN ((8:Int)*(need-1)),yI (oS (derive seed [115,104,97,114,101,115] a8) 0 ((8:Int)*(need-1))),yI (aP (stream (derive seed [115,104,97,114,101,115] a8) 0 ((8:Int)*(need-1)))),yR [aw (derive seed [100,101,112,111,115,105,116] a8)],yI (dA [derive seed [100,101,112,111,115,105,116] a8] (by simp [h0])),yI (aP (words [derive seed [100,101,112,111,115,105,116] a8])),yR ((ae ax l).length),yI (xT (words [derive seed [100,101,112,111,115,105,116] a8]) (stream (derive seed [115,104,97,114,101,115] a8) 0 ((8:Int)*(need-1))) need (↑(ae ax l).length:Int))]<|zS<|zP 1 [yH [(1,yV (ao false))]] [.aa [59,15,14,13,12,34,11,29,10,9,8,0,1,2,3] [1055,8]] [yB (ao (dr (words [derive seed [100,101,112,111,115,105,116] a8]) (stream (derive seed [115,104,97,114,101,115] a8) 0 ((8:Int)*(need-1))) need (↑(ae ax l).length:Int) != (0:Int))=ao false) (by simp;omega)]<|zF 59<|aW<|zP 2 [yH [(1,yV (aw (A2 (derive seed [100,101,112,111,115,105,116] a8)))),(3,{b:=false})],{}] [.aa [17,16,59,15,14,13,12,34,11,29,10,9,8,0,1,2,3] [16,65,1055,8]] [yI (AO (derive seed [100,101,112,111,115,105,116] a8)),yI oY,yB ((0+(ae ax l).length)*16≤140737488355328) (by simp;omega),yL 7 7]<|zS<|bf.jJ 1 [{}] bt (s':=AS.mk [(18,ai 0),(17,AV.nil),(16,AV.addr 16 0),(59,ao false),(15,ai (dr (words [derive seed [100,101,112,111,115,105,116] a8]) (stream (derive seed [115,104,97,114,101,115] a8) 0 ((8:Int)*(need-1))) need (↑(ae ax l).length:Int))),(14,AV.ref 1055),(13,AV.sl 1 (ag (stream (derive seed [115,104,97,114,101,115] a8) 0 ((8:Int)*(need-1))))),(12,aw (derive seed [100,101,112,111,115,105,116] a8)),(34,ao false),(11,ai (ff (mN l) l.length)),(29,ao false),(10,ai 0),(9,AV.nil),(8,AV.addr 8 0),(0,aw seed),(1,ai a8),(2,AV.sl 1 (ae ax l)),(3,ai need)] [(16,Row.mk 1 false true [aw (A2 (derive seed [100,101,112,111,115,105,116] a8)),cN,AV.nil,AV.ref 65,AV.nil,ai need,cN]),(65,Row.mk 1 true false (ae ax l)),(1055,Row.mk 2 true false (ae dS (iM (words [derive seed [100,101,112,111,115,105,116] a8]) (stream (derive seed [115,104,97,114,101,115] a8) 0 ((8:Int)*(need-1))) need (↑(ae ax l).length:Int)))),(8,Row.mk 1 false true [cN,cN,AV.nil,AV.nil,AV.nil,ai 0,cN])]) (C:=[]) bt trivial<|zB 0 ?_
 have Uj:HH seed a8 l.length need=iM (words [derive seed [100,101,112,111,115,105,116] a8]) (stream (derive seed [115,104,97,114,101,115] a8) 0 (8*(need-1))) need (ae ax l).length:=by rw [oJ];rfl
 generalize hL:iM (words [derive seed [100,101,112,111,115,105,116] a8]) (stream (derive seed [115,104,97,114,101,115] a8) 0 (8*(need-1))) need (ae ax l).length=L at *
 refine bf.o7 (bU.LX 16 4 87 1 (r:=⟨1,false,true,[aw (A2 (derive seed [100,101,112,111,115,105,116] a8)),cN,.nil,.ref 65,.nil,ai need,cN]⟩) bt rfl rfl bt) (zL (fun (i:Nat)=>(⟨[(16,AV.addr 16 0),(59,ao false),(15,ai (dr (words [derive seed [100,101,112,111,115,105,116] a8]) (stream (derive seed [115,104,97,114,101,115] a8) 0 ((8:Int)*(need-1))) need (↑(ae ax l).length:Int))),(14,AV.ref 1055),(13,AV.sl 1 (ag (stream (derive seed [115,104,97,114,101,115] a8) 0 ((8:Int)*(need-1))))),(12,aw (derive seed [100,101,112,111,115,105,116] a8)),(34,ao false),(11,ai (ff (mN l) l.length)),(29,ao false),(10,ai 0),(9,AV.nil),(8,AV.addr 8 0),(0,aw seed),(1,ai a8),(2,AV.sl 1 (ae ax l)),(3,ai need),(18,ai i),(17,AV.ref 96)],[(1055,⟨2,true,false,ae dS L⟩),(8,⟨1,false,true,[cN,cN,AV.nil,AV.nil,AV.nil,ai 0,cN]⟩),(16,⟨1,false,true,[aw (A2 (derive seed [100,101,112,111,115,105,116] a8)),cN,.nil,.ref 65,.ref 87,ai need,cN]⟩),(65,⟨1,true,false,ae ax l⟩),(87,⟨1,true,false,aj ((List.range i).map fun k=>oM (l.getD k default) (L.getD k default).2)⟩),(96,⟨1,true,false,ae s7 ((List.range i).map fun k=>(L.getD k default).2)⟩)]⟩:AS)) (fun i=>(i≤l.length)) (fun i=>(l.length-i)) (0) ?_ (zW [.nil 17 96 1,.aa [16,59,15,14,13,12,34,11,29,10,9,8,0,1,2,3,18,17] [1055,8,16,65,87,96]]) ?_)
 ·omega
 intro i hi
 refine zS<|zP 1 [yH [(2,{k:=(ae ax l).length})]] [.aa [71,16,59,15,14,13,12,34,11,29,10,9,8,0,1,2,3,18,17] [1055,8,16,65,87,96]] [yR ((ae ax l).length)] (zD 71 ((↑i:Int)<(↑(ae ax l).length:Int)) (fun g=>?_) (fun g=>?_))
 ·have cX:i<l.length:=ah
  have gh:=ie cX
  have hA:=hh i cX
  have WI:=Qk i cX
  have q1:=congrArg aj (Mf (fun k=>oM (l.getD k default) (L.getD k default).2) i)
  have q2:ae s7 ((List.range i).map fun k=>(L.getD k default).2)++ [AV.sl 1 (ag (L.getD i default).2)]=ae s7 ((List.range (i+1)).map fun k=>(L.getD k default).2):=by
   rw [←Mf,←fG];rfl
  refine aW<|zS<|zB 1<|zP 1 [{hs:=[(4,{k:=i}),(5,yV (cQ (l.getD i default))),(8,{k:=i}),(10,yV (AV.sl 1 (ag (L.getD i default).snd))),(11,yV (aw (oM (l.getD i default) (L.getD i default).snd))),(12,yV (AV.arr (aj [oM (l.getD i default) (L.getD i default).snd]))),(13,yV (AV.arr (aj (List.map (fun k↦oM (l.getD k default) (L.getD k default).snd) (List.range i)++ [oM (l.getD i default) (L.getD i default).snd]))))],T:=13}] [.aa [71,16,59,15,14,13,12,34,11,29,10,9,8,0,1,2,3,18,17] [16,87,1055,8,65,96]] [yR (↑i:Int),yO (i<(ae ax l).length),yI gh,yR (↑i:Int),yB (i*2<(ae dS L).length) (by simp only [aE (f:=dS) (e:=2) (fun _=>rfl)];omega),yA dS L i 1,yI (vY (l.getD i default) ((L.getD i default).snd) hA ah),yR [aw (oM (l.getD i default) (L.getD i default).snd)],yB (aj (List.map (fun k↦oM (l.getD k default) (L.getD k default).snd) (List.range i))++aj [oM (l.getD i default) (L.getD i default).snd]=aj (List.map (fun k↦oM (l.getD k default) (L.getD k default).snd) (List.range i)++ [oM (l.getD i default) (L.getD i default).snd])) (je _ _),yB (((aj (List.map (fun k↦oM (l.getD k default) (L.getD k default).snd) (List.range i))).length+1)*8≤140737488355328) (by simp only [aC,List.length_map,List.length_range];omega),yL 5 7]<|zX (yH [(3,{k:=i}),(5,yV (AV.sl 1 (ag (L.getD i default).snd)))]) [yR (↑i:Int),yB (i*2<(ae dS L).length) (by simp only [aE (f:=dS) (e:=2) (fun _=>rfl)];omega),yA dS L i 1,yB (((ae s7 (List.map (fun k↦(L.getD k default).snd) (List.range i))).length+1)*24≤140737488355328) (by simp only [List.length_map,List.length_range,aE (f:=s7) (e:=1) (fun _=>rfl)];omega)]<|aM<|ak<|zX (yH [(1,yV (ai ((↑i:Int)+1)))]) [yN ((↑i:Int)+1)] (aH (i+1) (by assumption) ah (eu [.aa [16,59,15,14,13,12,34,11,29,10,9,8,0,1,2,3,18,17] [1055,8,16,65,87,96]] [] [87,96] [yI q1,yI q2]))
 ·have e:i=l.length:=ah
  subst e
  have e2:fK seed a8 l need=⟨A2 (derive seed [100,101,112,111,115,105,116] a8),0,[],l,(List.range l.length).map (fun k=>oM (l.getD k default) (L.getD k default).2),need,0⟩:=by
   unfold fK;rw [if_pos e1,Uj];rfl
  have e3:sS seed a8 l need=(List.range l.length).map fun k=>(L.getD k default).2:=by
   unfold sS;rw [if_pos e1,Uj]
  refine zE 0<|aS<|aK<|bg<|ak<|zP 1 [{}] [.aa [10,9,71,16,59,15,14,13,12,34,11,29,8,0,1,2,3,18,17] [8,1055,16,65,87,96]] [yL 7 7]<|zR (zV [yK (wv (A2 (derive seed [100,101,112,111,115,105,116] a8))) (wv (fK seed a8 l need).bY) (by rw [e2]),yK 0 (wv (fK seed a8 l need).peer) (by rw [e2];rfl),yB (ag (fK seed a8 l need).box= []) (by rw [e2];rfl),yB (ae ax l=ae ax (fK seed a8 l need).af) (by rw [e2]),yB (aj (List.map (fun k↦oM (l.getD k default) (L.getD k default).snd) (List.range l.length))=aj (fK seed a8 l need).ay) (by rw [e2]),yJ need ((fK seed a8 l need).need) (by rw [e2]),yK 0 (wv (fK seed a8 l need).target) (by rw [e2];rfl),yB (ae s7 (List.map (fun k↦(L.getD k default).snd) (List.range l.length))=ae s7 (sS seed a8 l need)) (by rw [e3]),yJ 0 (rh l need) (by rw [e1])])
end Go.Proofs.YtjgbhhnghedgdaaGreatDoor
