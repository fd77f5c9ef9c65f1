import Derived.Test.YtjgbhhnghedgdaaGreatDoorZvOt1
set_option linter.all false
namespace Go.Proofs.YtjgbhhnghedgdaaGreatDoor
open Go.RowKit
set_option maxRecDepth 100000
set_option maxHeartbeats 4000000
theorem aO (n lo hi:Int):bG Tryz.prog 78 [ai n,ai lo,ai hi] (ao (decide (lo≤n∧n≤hi))):=by
 by_cases h1:lo≤n
 ·by_cases h2:n≤hi
  ·refine zO Tryz.func78 15<|zP 2 [{},{}] [.aa [6,0,1,2] []] (yM 4 (yT (n≥lo)))<|zR (zV [yB (Value.bool (decide (n≤hi))=Value.bool (decide (lo≤n∧n≤hi))) (by simp [h1,h2])])
  ·refine zO Tryz.func78 15<|zP 2 [{},{}] [.aa [6,0,1,2] []] (yM 4 (yT (n≥lo)))<|zR (zV [yB (Value.bool (decide (n≤hi))=Value.bool (decide (lo≤n∧n≤hi))) (by simp [h1,h2])])
 ·refine zO Tryz.func78 15<|zP 2 [{},yH ([(7,{b:=false})]++yg [4,5,6])] [.aa [6,0,1,2] []] (yM 4 (yF (n≥lo)))<|zR (zV [yB (Value.bool false=Value.bool (decide (lo≤n∧n≤hi))) (by simp [h1])])
theorem fQ (x:List UInt8) (hx:x.length≤1000):bG Tryz.prog 46 [cV x] (ai (eF x)):=by
 by_cases c1:x.length<1∨32<x.length
 ·have e:=qC c1
  refine zO Tryz.func46 10<|zq<|zS<|zP 1 [yH [(1,yV (ai (↑x.length:Int))),(2,yC (aO ((↑x.length:Int)) ((1:Int)) ((32:Int)))),(3,yV (ao true))]] [.aa [6,2,0] []] [yR (ai (↑x.length:Int)),yI (aO ((↑x.length:Int)) ((1:Int)) ((32:Int))),yB (ao (!decide ((1:Int)≤(↑x.length:Int)∧(↑x.length:Int)≤32))=ao true) (by simp;omega)]<|zT 6<|zq<|dC (zV [yJ 9 (eF x) (by rw [e])])
 by_cases c2:Lib.validD x=false
 ·have e:=y0 c1 c2
  refine zO Tryz.func46 10<|zq<|zS<|zP 1 [yH [(1,yV (ai (↑x.length:Int))),(2,yC (aO ((↑x.length:Int)) ((1:Int)) ((32:Int)))),(3,yV (ao false))]] [.aa [6,2,0] []] [yR (ai (↑x.length:Int)),yI (aO ((↑x.length:Int)) ((1:Int)) ((32:Int))),yB (ao (!decide ((1:Int)≤(↑x.length:Int)∧(↑x.length:Int)≤32))=ao false) (by simp;omega)]<|zF 6<|a_<|zS<|zP 1 [yH [(1,yV (ao (Lib.validD x))),(2,yV (ao true))]] [.aa [9,6,2,0] []] [yI (kF x ag),yB (ao (!Lib.validD x)=ao true) (by simp;omega)]<|zT 9<|zq<|dC (zV [yJ 6 (eF x) (by rw [e])])
 have c3:Lib.validD x=true:=by simpa using c2
 have e:=EP c1 c3
 refine zO Tryz.func46 10<|zq<|zS<|zP 1 [yH [(1,yV (ai (↑x.length:Int))),(2,yC (aO ((↑x.length:Int)) ((1:Int)) ((32:Int)))),(3,yV (ao false))]] [.aa [6,2,0] []] [yR (ai (↑x.length:Int)),yI (aO ((↑x.length:Int)) ((1:Int)) ((32:Int))),yB (ao (!decide ((1:Int)≤(↑x.length:Int)∧(↑x.length:Int)≤32))=ao false) (by simp;omega)]<|zF 6<|a_<|zS<|zP 1 [yH [(1,yV (ao (Lib.validD x))),(2,yV (ao false))]] [.aa [9,6,2,0] []] [yI (kF x ag),yB (ao (!Lib.validD x)=ao false) (by simp;omega)]<|zF 9<|a_<|zq<|zR (zV [yJ 0 (eF x) (by rw [e])])
theorem ja (l:List (List UInt8)) (hl:l.length≤1000000) (hh:∀i,i<l.length->(l.getD i default).length≤1000):bG Tryz.prog 116 [.sl 1 (af ay l)] (ai (ff (ny l) l.length)):=by
 have ud:(af ay l).length=l.length:=by rw [aE (e:=1) (fun _=>rfl)];omega
 refine zO Tryz.func116 33<|zq<|zS<|zq<|zB 0 (zL (fun (i:Nat)=>(⟨[(0,AV.sl 1 (af ay l)),(3,ai i)],[]⟩:AS)) (fun i=>(i≤l.length∧ff (ny l) i=0)) (fun i=>(l.length-i)) (0) ?_ (zW [.aa [0,3] []]) ?_)
 ·exact ⟨ag,rfl⟩
 rintro i ⟨hi,h0⟩
 refine zS<|zP 1 [yH [(2,{k:=(af ay l).length})]] [.aa [8,0,3] []] [yR ((af ay l).length)] (zD 8 ((↑i:Int)<(↑(af ay l).length:Int)) (fun g=>?_) (fun g=>?_))
 ·have dI:i<l.length:=ag
  have gM:=i6 dI
  have hA:=hh i dI
  have stop:∀e:Int,e≠0->ny l i=e->ff (ny l) l.length=e:=fun e he h1=>by
   have k2:ff (ny l) (i+1)=ny l i:=by show (if _ then _ else _)=_;rw [if_neg ag]
   rw [lN ag k2 l.length ag,h1]
  by_cases c5:eF (l.getD i default)=0
  case neg =>
   have k1:=stop _ c5 (Jf rfl c5)
   refine a_<|zS<|zB 1<|zS<|zP 2 [yH [(2,{k:=i}),(3,yV (cV (l.getD i default))),(4,yV (ai (eF (l.getD i default))))],{}] [.aa [17,4,8,0,3] []] [yR (↑i:Int),yO (i<(af ay l).length),yI gM,yI (fQ (l.getD i default) hA)]<|dB 17 (eF (l.getD i default) != (0:Int)) (by simp_all)<|zq<|dC<|bc<|aK<|dN<|bc<|aK (zV [yJ (eF (l.getD i default)) (ff (ny l) l.length) (by rw [k1])])
  by_cases c6:0<i
  ·obtain ⟨k,hk⟩:∃k,k+1=i:=⟨i-1,ag⟩
   have tJ:=i6 (l:=l) (i:=k) ag
   have c8:=Je c5 hk
   by_cases c7:Gi (l.getD i default) (l.getD k default)=true
   ·have k1:=stop 7 ag (by rw [c8,if_pos c7])
    refine a_<|zS<|zB 1<|zS<|zP 2 [yH [(2,{k:=i}),(3,yV (cV (l.getD i default))),(4,yV (ai (eF (l.getD i default))))],{}] [.aa [17,4,8,0,3] []] [yR (↑i:Int),yO (i<(af ay l).length),yI gM,yI (fQ (l.getD i default) hA)]<|bk 17 (eF (l.getD i default) != (0:Int)) (by simp_all)<|a_<|zP 1 [{hs:=[(5,{k:=i}),(6,yV (cV (l.getD i default))),(9,yV (ai ↑k)),(10,{k:=k}),(11,yV (cV (l.getD k default)))],T:=12}] [.aa [32,17,4,8,0,3] []] (yM 3 (yT ((↑i:Int)>0))++ [yR (↑i:Int),yO (i<(af ay l).length),yT ((↑i:Int)>0),yI gM]++yM 3 (yT ((↑i:Int)>0))++ [yB (ai (IntKind.i64.wrap ((↑i:Int)-1))=ai ↑k) (congrArg (fun n=>AV.val (.int .i64 n)) (by rw [IntKind.wrap_i64];omega)),yT ((↑i:Int)>0),yR (↑k:Int),yO (k<(af ay l).length),yT ((↑i:Int)>0),yI tJ]++yM 2 (yT ((↑i:Int)>0)))<|dB 32 (Op.bytesLess (ByteArray.mk (l.getD i default).toArray).toList (ByteArray.mk (l.getD k default).toArray).toList || (ByteArray.mk (l.getD i default).toArray).toList == (ByteArray.mk (l.getD k default).toArray).toList) (by assumption)<|zq<|zR<|bc<|aK<|dN<|bc<|aK (zV [yJ 7 (ff (ny l) l.length) (by rw [k1])])
   ·have c9:Gi (l.getD i default) (l.getD k default)=false:=by simpa using c7
    rw [if_neg c7] at c8
    refine a_<|zS<|zB 1<|zS<|zP 2 [yH [(2,{k:=i}),(3,yV (cV (l.getD i default))),(4,yV (ai (eF (l.getD i default))))],{}] [.aa [17,4,8,0,3] []] [yR (↑i:Int),yO (i<(af ay l).length),yI gM,yI (fQ (l.getD i default) hA)]<|bk 17 (eF (l.getD i default) != (0:Int)) (by simp_all)<|a_<|zP 1 [{hs:=[(5,{k:=i}),(6,yV (cV (l.getD i default))),(9,yV (ai ↑k)),(10,{k:=k}),(11,yV (cV (l.getD k default)))],T:=12}] [.aa [32,17,4,8,0,3] []] (yM 3 (yT ((↑i:Int)>0))++ [yR (↑i:Int),yO (i<(af ay l).length),yT ((↑i:Int)>0),yI gM]++yM 3 (yT ((↑i:Int)>0))++ [yB (ai (IntKind.i64.wrap ((↑i:Int)-1))=ai ↑k) (congrArg (fun n=>AV.val (.int .i64 n)) (by rw [IntKind.wrap_i64];omega)),yT ((↑i:Int)>0),yR (↑k:Int),yO (k<(af ay l).length),yT ((↑i:Int)>0),yI tJ]++yM 2 (yT ((↑i:Int)>0)))<|bk 32 (Op.bytesLess (ByteArray.mk (l.getD i default).toArray).toList (ByteArray.mk (l.getD k default).toArray).toList || (ByteArray.mk (l.getD i default).toArray).toList == (ByteArray.mk (l.getD k default).toArray).toList) (by assumption)<|zK<|aJ<|al<|zX (yH [(1,yV (ai ((↑i:Int)+1)))]) [yN ((↑i:Int)+1)] (aH (i+1) ⟨ag,by show (if _ then _ else _)=_;rw [if_neg ag,c8]⟩ ag (zW [.aa [0,3] []]))
  ·have e:i=0:=ag
   have h1:ny l i=0:=by subst e;exact Fe c5
   refine a_<|zS<|zB 1<|zS<|zP 2 [yH [(2,{k:=i}),(3,yV (cV (l.getD i default))),(4,yV (ai (eF (l.getD i default))))],{}] [.aa [17,4,8,0,3] []] [yR (↑i:Int),yO (i<(af ay l).length),yI gM,yI (fQ (l.getD i default) hA)]<|bk 17 (eF (l.getD i default) != (0:Int)) (by simp_all)<|a_<|zP 1 [{hs:=[(3,{g:=false}),(4,{g:=false}),(5,{g:=false}),(6,{g:=false}),(7,{g:=false}),(8,{g:=false}),(9,{g:=false}),(10,{g:=false}),(11,{g:=false}),(12,{g:=false}),(13,{b:=false})],T:=12}] [.aa [32,17,4,8,0,3] []] (yM 11 (yF ((↑i:Int)>0)))<|zF 32<|zK<|aJ<|al<|zX (yH [(1,yV (ai ((↑i:Int)+1)))]) [yN ((↑i:Int)+1)] (aH (i+1) ⟨ag,by show (if _ then _ else _)=_;rw [if_neg ag,h1]⟩ ag (zW [.aa [0,3] []]))
 ·have e:i=l.length:=ag
  subst e
  refine zE 0<|a6<|aM<|bm<|al<|zq<|zR (zV [yJ 0 (ff (ny l) l.length) (by rw [h0])])
theorem AX (d:nH) (hl:d.ae.length≤1000000):bG Tryz.prog 49 [.agg (bj d),.agg (bj d)] (ao true):=by
 have ud:(af ay d.ae).length=d.ae.length:=by rw [aE (e:=1) (fun _=>rfl)];omega
 refine zO Tryz.func49 73<|zq<|zS<|zP 1 [yH [(2,{k:=(af ay d.ae).length}),(5,{k:=(af ay d.ae).length})]] [.aa [12,4,3,2,0,1] [3,2]] (yM 2 (yR ((af ay d.ae).length)))<|bk 12 ((↑(af ay d.ae).length:Int) != (↑(af ay d.ae).length:Int)) (by simp_all)<|a_<|zS<|zq<|zB 0 (zL (fun (i:Nat)=>(⟨[(12,ao ((↑(af ay d.ae).length:Int) != (↑(af ay d.ae).length:Int))),(3,AV.addr 3 0),(2,AV.addr 2 0),(0,AV.agg (bj d)),(1,AV.agg (bj d)),(5,ai i)],[(3,⟨1,false,true,(bj d)⟩),(2,⟨1,false,true,List.map (aF 3) (List.map (aF 2) (bj d))⟩)]⟩:AS)) (fun i=>(i≤d.ae.length)) (fun i=>(d.ae.length-i)) (0) ?_ (zW [.aa [12,3,2,0,1,5] [3,2]]) ?_)
 ·omega
 intro i hi
 refine zS<|zP 1 [yH [(3,{k:=(af ay d.ae).length})]] [.aa [17,12,3,2,0,1,5] [3,2]] [yR ((af ay d.ae).length)] (zD 17 ((↑i:Int)<(↑(af ay d.ae).length:Int)) (fun g=>?_) (fun g=>?_))
 ·have dI:i<d.ae.length:=ag
  have gM:=i6 dI
  refine a_<|zS<|zB 1<|zP 1 [{hs:=[(3,{k:=i}),(4,yV (cV (d.ae.getD i default))),(8,{k:=i}),(9,yV (cV (d.ae.getD i default))),(10,yV (ao false))],T:=10}] [.aa [30,17,12,3,2,0,1,5] [3,2]] [yR (↑i:Int),yO (i<(af ay d.ae).length),yI gM,yR (↑i:Int),yO (i<(af ay d.ae).length),yI gM,yB (ao (!(ByteArray.mk (d.ae.getD i default).toArray).toList == (ByteArray.mk (d.ae.getD i default).toArray).toList)=ao false) (by simp)]<|zF 30<|zK<|aJ<|al<|zX (yH [(1,yV (ai ((↑i:Int)+1)))]) [yN ((↑i:Int)+1)] (aH (i+1) (by assumption) ag (zW [.aa [12,3,2,0,1,5] [3,2]]))
 ·skip
  refine zE 0<|a6<|aM<|bm<|al<|zP 1 [yH [(4,yV (ao true)),(10,yV (ao true)),(15,yV (cV d.box)),(18,yV (cV d.box)),(19,yV (ao true)),(26,yV (ao (d.ax == d.ax))),(33,yV (ao true)),(40,yV (ao true))]] [.aa [4,17,12,3,2,0,1,5] [3,2]] ([yB (ao (wv d.bV == wv d.bV)=ao true) (by simp)]++yM 5 (yR true)++ [yB (ao (wv d.peer == wv d.peer)=ao true) (by simp)]++yM 4 (yR true)++ [yR (aj d.box)]++yM 3 (yR true)++ [yR (aj d.box),yR true,yB (ao ((ByteArray.mk d.box.toArray).toList == (ByteArray.mk d.box.toArray).toList)=ao true) (by simp)]++yM 6 (yR true)++ [yI (jF d.ax d.ax),yR true]++yM 5 (yS ((d.ax == d.ax)=true))++ [yS (ao (d.need == d.need)=ao true),yS ((d.ax == d.ax)=true)]++yM 5 (yR true)++ [yB (ao (wv d.target == wv d.target)=ao true) (by simp),yR true])<|zR (bP)
theorem CE (l:List (List UInt8)):cp (af ay l):=by
 intro x hx
 unfold af at hx
 obtain ⟨s,_,hs⟩:=List.mem_flatMap.1 hx
 simp [ay] at hs
 subst hs;rfl
theorem Mp {T:Type} (f:Nat->T) (i:Nat):(List.range i).map f++ [f i]=(List.range (i+1)).map f:=by simp [List.range_succ]
theorem u0 (seed:UInt64) (a8:Int) (l:List (List UInt8)) (need:Int) (hl:l.length≤1000000) (hh:∀i,i<l.length->(l.getD i default).length≤1000):bG Tryz.prog 71 [aw seed,ai a8,.sl 1 (af ay l),ai need] (.cw [.agg (Ra (fW seed a8 l need)),.own 1 (af wJ (tC seed a8 l need)),ai (rP l need)]):=by
 have ud:(af ay l).length=l.length:=by rw [aE (e:=1) (fun _=>rfl)];omega
 by_cases hb:oB l.length need
 ·have e1:rP l need=9:=by unfold rP;rw [if_pos hb]
  have e2:fW seed a8 l need=default:=by unfold fW;rw [if_neg ag]
  have e3:tC seed a8 l need= []:=by unfold tC;rw [if_neg ag]
  by_cases c1:1≤l.length∧l.length≤8
  ·have c4:¬(1≤need∧need≤l.length):=by unfold oB at hb;omega
   refine zO Tryz.func71 99<|zq<|zS<|zP 1 [yH ([(1,{k:=(af ay l).length}),(2,yC (aO ((↑(af ay l).length:Int)) ((1:Int)) ((8:Int)))),(3,yV (ao false)),(7,{k:=(af ay l).length,g:=false}),(8,{av:=some (ao (decide ((1:Int)≤need∧need≤(↑(af ay l).length:Int)))),g:=false}),(9,{av:=some (ao true),g:=false}),(10,{b:=false})]++yg [5,6])] [.aa [29,10,9,8,0,1,2,3] [8]] ([yR ((af ay l).length),yI (aO (↑(af ay l).length:Int) ((1:Int)) ((8:Int))),yB (ao (!decide ((1:Int)≤(↑(af ay l).length:Int)∧(↑(af ay l).length:Int)≤8))=ao false) (by simp;omega)]++yM 3 (yR false)++ [yR ((af ay l).length),yR false,yI (aO need ((1:Int)) (↑(af ay l).length:Int)),yR false,yB (ao (!decide ((1:Int)≤need∧need≤(↑(af ay l).length:Int)))=ao true) (by simp;omega),yR false])<|zT 29<|zP 1 [{}] [.aa [10,9,29,8,0,1,2,3] [8]] [yL 7 7]<|dC (zV [yK 0 (wv (fW seed a8 l need).bV) (by rw [e2];rfl),yK 0 (wv (fW seed a8 l need).peer) (by rw [e2];rfl),yB (aj (fW seed a8 l need).box= []) (by rw [e2];rfl),yB (af ay (fW seed a8 l need).ae= []) (by rw [e2];rfl),yB (ah (fW seed a8 l need).ax= []) (by rw [e2];rfl),yJ 0 ((fW seed a8 l need).need) (by rw [e2];rfl),yK 0 (wv (fW seed a8 l need).target) (by rw [e2];rfl),yB (af wJ (tC seed a8 l need)= []) (by rw [e3];rfl),yJ 9 (rP l need) (by rw [e1])])
  ·refine zO Tryz.func71 99<|zq<|zS<|zP 1 [yH [(1,{k:=(af ay l).length}),(2,yC (aO ((↑(af ay l).length:Int)) ((1:Int)) ((8:Int)))),(3,yV (ao true))]] [.aa [29,10,9,8,0,1,2,3] [8]] ([yR ((af ay l).length),yI (aO (↑(af ay l).length:Int) ((1:Int)) ((8:Int))),yB (ao (!decide ((1:Int)≤(↑(af ay l).length:Int)∧(↑(af ay l).length:Int)≤8))=ao true) (by simp;omega)]++yM 6 (yR true))<|zT 29<|zP 1 [{}] [.aa [10,9,29,8,0,1,2,3] [8]] [yL 7 7]<|dC (zV [yK 0 (wv (fW seed a8 l need).bV) (by rw [e2];rfl),yK 0 (wv (fW seed a8 l need).peer) (by rw [e2];rfl),yB (aj (fW seed a8 l need).box= []) (by rw [e2];rfl),yB (af ay (fW seed a8 l need).ae= []) (by rw [e2];rfl),yB (ah (fW seed a8 l need).ax= []) (by rw [e2];rfl),yJ 0 ((fW seed a8 l need).need) (by rw [e2];rfl),yK 0 (wv (fW seed a8 l need).target) (by rw [e2];rfl),yB (af wJ (tC seed a8 l need)= []) (by rw [e3];rfl),yJ 9 (rP l need) (by rw [e1])])
 have e0:rP l need=ff (ny l) l.length:=by unfold rP;rw [if_neg hb]
 have Hp:1≤l.length∧l.length≤8∧1≤need∧need≤l.length:=by unfold oB at hb;omega
 by_cases h0:ff (ny l) l.length=0
 case neg =>
  have e2:fW seed a8 l need=default:=by unfold fW;rw [if_neg ag]
  have e3:tC seed a8 l need= []:=by unfold tC;rw [if_neg ag]
  refine zO Tryz.func71 99<|zq<|zS<|zP 1 [yH ([(1,{k:=(af ay l).length}),(2,yC (aO ((↑(af ay l).length:Int)) ((1:Int)) ((8:Int)))),(3,yV (ao false)),(7,{k:=(af ay l).length,g:=false}),(8,{av:=some (ao (decide ((1:Int)≤need∧need≤(↑(af ay l).length:Int)))),g:=false}),(9,{av:=some (ao false),g:=false}),(10,{b:=false})]++yg [5,6])] [.aa [29,10,9,8,0,1,2,3] [8]] ([yR ((af ay l).length),yI (aO (↑(af ay l).length:Int) ((1:Int)) ((8:Int))),yB (ao (!decide ((1:Int)≤(↑(af ay l).length:Int)∧(↑(af ay l).length:Int)≤8))=ao false) (by simp;omega)]++yM 3 (yR false)++ [yR ((af ay l).length),yR false,yI (aO need ((1:Int)) (↑(af ay l).length:Int)),yR false,yB (ao (!decide ((1:Int)≤need∧need≤(↑(af ay l).length:Int)))=ao false) (by simp;omega),yR false])<|zF 29<|a_<|zS<|zP 2 [yH [(1,yC (ja (l) hl hh))],yH [(1,yV (ao true))]] [.aa [34,11,29,10,9,8,0,1,2,3] [8]] [yI (ja l hl hh),yB (ao (ff (ny l) l.length != (0:Int))=ao true) (by simp;omega)]<|zT 34<|zP 1 [{}] [.aa [10,9,34,11,29,8,0,1,2,3] [8]] [yL 7 7]<|dC (zV [yK 0 (wv (fW seed a8 l need).bV) (by rw [e2];rfl),yK 0 (wv (fW seed a8 l need).peer) (by rw [e2];rfl),yB (aj (fW seed a8 l need).box= []) (by rw [e2];rfl),yB (af ay (fW seed a8 l need).ae= []) (by rw [e2];rfl),yB (ah (fW seed a8 l need).ax= []) (by rw [e2];rfl),yJ 0 ((fW seed a8 l need).need) (by rw [e2];rfl),yK 0 (wv (fW seed a8 l need).target) (by rw [e2];rfl),yB (af wJ (tC seed a8 l need)= []) (by rw [e3];rfl),yJ (ff (ny l) l.length) (rP l need) (by rw [e0])])
 have e1:rP l need=0:=by rw [e0,h0]
 have Qg:(stream (derive seed [115,104,97,114,101,115] a8) 0 (8*(need-1))).length=(8*(need-1)).toNat:=by
  rw [uI];unfold i7;omega
 have UA:(words [K2 seed a8]).length=8:=by rw [eu];rfl
 have MC:dM (words [K2 seed a8]) (stream (derive seed [115,104,97,114,101,115] a8) 0 (8*(need-1))) need l.length=0:=by
  unfold dM
  rw [if_neg ag,if_neg ag,if_neg (by rw [Qg,UA];omega)]
 have VM:(HU seed a8 l.length need).length=l.length:=by unfold HU ju;rw [if_pos MC];simp
 have Qh:dM (words [derive seed [100,101,112,111,115,105,116] a8]) (stream (derive seed [115,104,97,114,101,115] a8) 0 (8*(need-1))) need l.length=0:=MC
 have SG:(ju (words [derive seed [100,101,112,111,115,105,116] a8]) (stream (derive seed [115,104,97,114,101,115] a8) 0 (8*(need-1))) need l.length).length=l.length:=VM
 have Tu:∀i,i<l.length->((ju (words [derive seed [100,101,112,111,115,105,116] a8]) (stream (derive seed [115,104,97,114,101,115] a8) 0 (8*(need-1))) need l.length).getD i default).2.length=8:=fun i hi=>by
  rw [ju,if_pos Qh,Int.toNat_natCast,CU _ _ hi]
  show (ym _ _ _ _).length=8
  unfold ym
  rw [List.length_map,List.length_range]
  exact UA
 have nw:=CE l
 refine zO Tryz.func71 99 ?_
 have VN:dM (words [derive seed [100,101,112,111,115,105,116] a8]) (stream (derive seed [115,104,97,114,101,115] a8) 0 (8*(need-1))) need (af ay l).length=0:=by rw [ud];exact Qh
 have VL:(ju (words [derive seed [100,101,112,111,115,105,116] a8]) (stream (derive seed [115,104,97,114,101,115] a8) 0 (8*(need-1))) need (af ay l).length).length=l.length:=by rw [ud];exact SG
 have QO:∀i,i<l.length->((ju (words [derive seed [100,101,112,111,115,105,116] a8]) (stream (derive seed [115,104,97,114,101,115] a8) 0 (8*(need-1))) need (af ay l).length).getD i default).2.length=8:=by rw [ud];exact Tu
 refine zq<|zS<|zP 1 [yH ([(1,{k:=(af ay l).length}),(2,yC (aO ((↑(af ay l).length:Int)) ((1:Int)) ((8:Int)))),(3,yV (ao false)),(7,{k:=(af ay l).length,g:=false}),(8,{av:=some (ao (decide ((1:Int)≤need∧need≤(↑(af ay l).length:Int)))),g:=false}),(9,{av:=some (ao false),g:=false}),(10,{b:=false})]++yg [5,6])] [.aa [29,10,9,8,0,1,2,3] [8]] ([yR ((af ay l).length),yI (aO (↑(af ay l).length:Int) ((1:Int)) ((8:Int))),yB (ao (!decide ((1:Int)≤(↑(af ay l).length:Int)∧(↑(af ay l).length:Int)≤8))=ao false) (by simp;omega)]++yM 3 (yR false)++ [yR ((af ay l).length),yR false,yI (aO need ((1:Int)) (↑(af ay l).length:Int)),yR false,yB (ao (!decide ((1:Int)≤need∧need≤(↑(af ay l).length:Int)))=ao false) (by simp;omega),yR false])<|zF 29<|a_<|zS<|zP 2 [yH [(1,yC (ja (l) hl hh))],yH [(1,yV (ao false))]] [.aa [34,11,29,10,9,8,0,1,2,3] [8]] [yI (ja l hl hh),yB (ao (ff (ny l) l.length != (0:Int))=ao false) (by simp;omega)]<|zF 34<|a_<|zP 3 [yH [(2,yV (aw (derive seed [100,101,112,111,115,105,116] a8)))],yH [(2,yV (aw (derive seed [115,104,97,114,101,115] a8))),(4,yV (ai (need-1))),(5,yV (ai ((8:Int)*(need-1)))),(6,yC (jK (derive seed [115,104,97,114,101,115] a8) (0) ((8:Int)*(need-1))))],yH [(1,yV (AV.arr (ah [derive seed [100,101,112,111,115,105,116] a8]))),(2,yV (AV.own 1 (aj (words [derive seed [100,101,112,111,115,105,116] a8])))),(6,{k:=(af ay l).length}),(7,yD (qn (words [derive seed [100,101,112,111,115,105,116] a8]) (stream (derive seed [115,104,97,114,101,115] a8) 0 ((8:Int)*(need-1))) (need) ((↑(af ay l).length:Int))))]] [.aa [15,14,13,12,34,11,29,10,9,8,0,1,2,3] [1055,8]] [yI (pw seed [100,101,112,111,115,105,116] a8 (by simp [h0])),yI (pw seed [115,104,97,114,101,115] a8 (by simp [h0])),yN (need-1),yN ((8:Int)*(need-1)),yI (jK (derive seed [115,104,97,114,101,115] a8) 0 ((8:Int)*(need-1))),yI (aV (stream (derive seed [115,104,97,114,101,115] a8) 0 ((8:Int)*(need-1)))),yR [aw (derive seed [100,101,112,111,115,105,116] a8)],yI (dO [derive seed [100,101,112,111,115,105,116] a8] (by simp [h0])),yI (aV (words [derive seed [100,101,112,111,115,105,116] a8])),yR ((af ay l).length),yI (qn (words [derive seed [100,101,112,111,115,105,116] a8]) (stream (derive seed [115,104,97,114,101,115] a8) 0 ((8:Int)*(need-1))) need (↑(af ay l).length:Int))]<|zS<|zP 1 [yH [(1,yV (ao false))]] [.aa [59,15,14,13,12,34,11,29,10,9,8,0,1,2,3] [1055,8]] [yB (ao (dM (words [derive seed [100,101,112,111,115,105,116] a8]) (stream (derive seed [115,104,97,114,101,115] a8) 0 ((8:Int)*(need-1))) need (↑(af ay l).length:Int) != (0:Int))=ao false) (by simp;omega)]<|zF 59<|a_<|zP 2 [yH [(1,yV (aw (Bj (derive seed [100,101,112,111,115,105,116] a8)))),(3,{b:=false})],{}] [.aa [17,16,59,15,14,13,12,34,11,29,10,9,8,0,1,2,3] [16,65,1055,8]] [yI (Bc (derive seed [100,101,112,111,115,105,116] a8)),yI nw,yB ((0+(af ay l).length)*16≤140737488355328) (by simp;omega),yL 7 7]<|zS<|bg.mj 1 [{}] bu (s':=AS.mk [(18,ai 0),(17,AV.nil),(16,AV.addr 16 0),(59,ao false),(15,ai (dM (words [derive seed [100,101,112,111,115,105,116] a8]) (stream (derive seed [115,104,97,114,101,115] a8) 0 ((8:Int)*(need-1))) need (↑(af ay l).length:Int))),(14,AV.ref 1055),(13,AV.sl 1 (aj (stream (derive seed [115,104,97,114,101,115] a8) 0 ((8:Int)*(need-1))))),(12,aw (derive seed [100,101,112,111,115,105,116] a8)),(34,ao false),(11,ai (ff (ny l) l.length)),(29,ao false),(10,ai 0),(9,AV.nil),(8,AV.addr 8 0),(0,aw seed),(1,ai a8),(2,AV.sl 1 (af ay l)),(3,ai need)] [(16,Row.mk 1 false true [aw (Bj (derive seed [100,101,112,111,115,105,116] a8)),ez,AV.nil,AV.ref 65,AV.nil,ai need,ez]),(65,Row.mk 1 true false (af ay l)),(1055,Row.mk 2 true false (af eC (ju (words [derive seed [100,101,112,111,115,105,116] a8]) (stream (derive seed [115,104,97,114,101,115] a8) 0 ((8:Int)*(need-1))) need (↑(af ay l).length:Int)))),(8,Row.mk 1 false true [ez,ez,AV.nil,AV.nil,AV.nil,ai 0,ez])]) (C:=[]) bu trivial<|zB 0 ?_
 have U_:HU seed a8 l.length need=ju (words [derive seed [100,101,112,111,115,105,116] a8]) (stream (derive seed [115,104,97,114,101,115] a8) 0 (8*(need-1))) need (af ay l).length:=by rw [ud];rfl
 generalize hL:ju (words [derive seed [100,101,112,111,115,105,116] a8]) (stream (derive seed [115,104,97,114,101,115] a8) 0 (8*(need-1))) need (af ay l).length=L at *
 refine bg.nL (bQ.Ma 16 4 87 1 (r:=⟨1,false,true,[aw (Bj (derive seed [100,101,112,111,115,105,116] a8)),ez,.nil,.ref 65,.nil,ai need,ez]⟩) bu rfl rfl bu) (zL (fun (i:Nat)=>(⟨[(16,AV.addr 16 0),(59,ao false),(15,ai (dM (words [derive seed [100,101,112,111,115,105,116] a8]) (stream (derive seed [115,104,97,114,101,115] a8) 0 ((8:Int)*(need-1))) need (↑(af ay l).length:Int))),(14,AV.ref 1055),(13,AV.sl 1 (aj (stream (derive seed [115,104,97,114,101,115] a8) 0 ((8:Int)*(need-1))))),(12,aw (derive seed [100,101,112,111,115,105,116] a8)),(34,ao false),(11,ai (ff (ny l) l.length)),(29,ao false),(10,ai 0),(9,AV.nil),(8,AV.addr 8 0),(0,aw seed),(1,ai a8),(2,AV.sl 1 (af ay l)),(3,ai need),(18,ai i),(17,AV.ref 96)],[(1055,⟨2,true,false,af eC L⟩),(8,⟨1,false,true,[ez,ez,AV.nil,AV.nil,AV.nil,ai 0,ez]⟩),(16,⟨1,false,true,[aw (Bj (derive seed [100,101,112,111,115,105,116] a8)),ez,.nil,.ref 65,.ref 87,ai need,ez]⟩),(65,⟨1,true,false,af ay l⟩),(87,⟨1,true,false,ah ((List.range i).map fun k=>pg (l.getD k default) (L.getD k default).2)⟩),(96,⟨1,true,false,af wJ ((List.range i).map fun k=>(L.getD k default).2)⟩)]⟩:AS)) (fun i=>(i≤l.length)) (fun i=>(l.length-i)) (0) ?_ (zW [.nil 17 96 1,.aa [16,59,15,14,13,12,34,11,29,10,9,8,0,1,2,3,18,17] [1055,8,16,65,87,96]]) ?_)
 ·omega
 intro i hi
 refine zS<|zP 1 [yH [(2,{k:=(af ay l).length})]] [.aa [71,16,59,15,14,13,12,34,11,29,10,9,8,0,1,2,3,18,17] [1055,8,16,65,87,96]] [yR ((af ay l).length)] (zD 71 ((↑i:Int)<(↑(af ay l).length:Int)) (fun g=>?_) (fun g=>?_))
 ·have dI:i<l.length:=ag
  have gM:=i6 dI
  have hA:=hh i dI
  have XJ:=QO i dI
  have q1:=congrArg ah (Mp (fun k=>pg (l.getD k default) (L.getD k default).2) i)
  have q2:af wJ ((List.range i).map fun k=>(L.getD k default).2)++ [AV.sl 1 (aj (L.getD i default).2)]=af wJ ((List.range (i+1)).map fun k=>(L.getD k default).2):=by
   rw [←Mp,←fb];rfl
  refine a_<|zS<|zB 1<|zP 1 [{hs:=[(4,{k:=i}),(5,yV (cV (l.getD i default))),(8,{k:=i}),(10,yV (AV.sl 1 (aj (L.getD i default).snd))),(11,yV (aw (pg (l.getD i default) (L.getD i default).snd))),(12,yV (AV.arr (ah [pg (l.getD i default) (L.getD i default).snd]))),(13,yV (AV.arr (ah (List.map (fun k↦pg (l.getD k default) (L.getD k default).snd) (List.range i)++ [pg (l.getD i default) (L.getD i default).snd]))))],T:=13}] [.aa [71,16,59,15,14,13,12,34,11,29,10,9,8,0,1,2,3,18,17] [16,87,1055,8,65,96]] [yR (↑i:Int),yO (i<(af ay l).length),yI gM,yR (↑i:Int),yB (i*2<(af eC L).length) (by simp only [aE (f:=eC) (e:=2) (fun _=>rfl)];omega),yA eC L i 1,yI (wW (l.getD i default) ((L.getD i default).snd) hA ag),yR [aw (pg (l.getD i default) (L.getD i default).snd)],yB (ah (List.map (fun k↦pg (l.getD k default) (L.getD k default).snd) (List.range i))++ah [pg (l.getD i default) (L.getD i default).snd]=ah (List.map (fun k↦pg (l.getD k default) (L.getD k default).snd) (List.range i)++ [pg (l.getD i default) (L.getD i default).snd])) (jt _ _),yB (((ah (List.map (fun k↦pg (l.getD k default) (L.getD k default).snd) (List.range i))).length+1)*8≤140737488355328) (by simp only [aA,List.length_map,List.length_range];omega),yL 5 7]<|zX (yH [(3,{k:=i}),(5,yV (AV.sl 1 (aj (L.getD i default).snd)))]) [yR (↑i:Int),yB (i*2<(af eC L).length) (by simp only [aE (f:=eC) (e:=2) (fun _=>rfl)];omega),yA eC L i 1,yB (((af wJ (List.map (fun k↦(L.getD k default).snd) (List.range i))).length+1)*24≤140737488355328) (by simp only [List.length_map,List.length_range,aE (f:=wJ) (e:=1) (fun _=>rfl)];omega)]<|aJ<|al<|zX (yH [(1,yV (ai ((↑i:Int)+1)))]) [yN ((↑i:Int)+1)] (aH (i+1) (by assumption) ag (eS [.aa [16,59,15,14,13,12,34,11,29,10,9,8,0,1,2,3,18,17] [1055,8,16,65,87,96]] [] [87,96] [yI q1,yI q2]))
 ·have e:i=l.length:=ag
  subst e
  have e2:fW seed a8 l need=⟨Bj (derive seed [100,101,112,111,115,105,116] a8),0,[],l,(List.range l.length).map (fun k=>pg (l.getD k default) (L.getD k default).2),need,0⟩:=by
   unfold fW;rw [if_pos e1,U_];rfl
  have e3:tC seed a8 l need=(List.range l.length).map fun k=>(L.getD k default).2:=by
   unfold tC;rw [if_pos e1,U_]
  refine zE 0<|a6<|aM<|bm<|al<|zP 1 [{}] [.aa [10,9,71,16,59,15,14,13,12,34,11,29,8,0,1,2,3,18,17] [8,1055,16,65,87,96]] [yL 7 7]<|zR (zV [yK (wv (Bj (derive seed [100,101,112,111,115,105,116] a8))) (wv (fW seed a8 l need).bV) (by rw [e2]),yK 0 (wv (fW seed a8 l need).peer) (by rw [e2];rfl),yB (aj (fW seed a8 l need).box= []) (by rw [e2];rfl),yB (af ay l=af ay (fW seed a8 l need).ae) (by rw [e2]),yB (ah (List.map (fun k↦pg (l.getD k default) (L.getD k default).snd) (List.range l.length))=ah (fW seed a8 l need).ax) (by rw [e2]),yJ need ((fW seed a8 l need).need) (by rw [e2]),yK 0 (wv (fW seed a8 l need).target) (by rw [e2];rfl),yB (af wJ (List.map (fun k↦(L.getD k default).snd) (List.range l.length))=af wJ (tC seed a8 l need)) (by rw [e3]),yJ 0 (rP l need) (by rw [e1])])
end Go.Proofs.YtjgbhhnghedgdaaGreatDoor
