import Derived.Test.YtjgbhhnghedgdaaGreatDoorZsV8
import Derived.Test.YtjgbhhnghedgdaaGreatDoorZsGrow
import Derived.Test.YtjgbhhnghedgdaaGreatDoorZsOt1
set_option linter.all false
namespace Go.Proofs.YtjgbhhnghedgdaaGreatDoor
open Go.RowKit
set_option maxRecDepth 100000
set_option maxHeartbeats 4000000
set_option linter.unusedVariables false
theorem within_ret (n lo hi:Int):Ret Tryz.prog 78 [ai n,ai lo,ai hi] (ao (decide (lo≤n∧n≤hi))):=by
 by_cases h1:lo≤n
 ·by_cases h2:n≤hi
  ·refine zO Tryz.func78 15 ?_
   refine zP 2 [{},{}] [.keep [6,0,1,2] []] [yT (n≥lo),yT (n≥lo),yT (n≥lo),yT (n≥lo)] ?_
   refine zR ?_
   refine zV [yB (Value.bool (decide (n≤hi))=Value.bool (decide (lo≤n∧n≤hi))) (by simp [h1,h2])]
  ·refine zO Tryz.func78 15 ?_
   refine zP 2 [{},{}] [.keep [6,0,1,2] []] [yT (n≥lo),yT (n≥lo),yT (n≥lo),yT (n≥lo)] ?_
   refine zR ?_
   refine zV [yB (Value.bool (decide (n≤hi))=Value.bool (decide (lo≤n∧n≤hi))) (by simp [h1,h2])]
 ·refine zO Tryz.func78 15 ?_
  refine zP 2 [{},yH [(4,{g:=false}),(5,{g:=false}),(6,{g:=false}),(7,{b:=false})]] [.keep [6,0,1,2] []] [yF (n≥lo),yF (n≥lo),yF (n≥lo),yF (n≥lo)] ?_
  refine zR ?_
  refine zV [yB (Value.bool false=Value.bool (decide (lo≤n∧n≤hi))) (by simp [h1])]
theorem named_ret (x:List UInt8) (hx:x.length≤1000):Ret Tryz.prog 46 [as_ x] (ai (nmE x)):=by
 by_cases c1:x.length<1∨32<x.length
 ·have e:=nm_short c1
  refine zO Tryz.func46 10 ?_
  refine zQ 1 [{}] [] ?_
  refine zS ?_
  refine zP 1 [yH [(1,yV (ai (↑x.length:Int))),(2,yV (ao (decide ((1:Int)≤(↑x.length:Int)∧(↑x.length:Int)≤32)))),(3,yV (ao true))]] [.keep [6,2,0] []] [yR (ai (↑x.length:Int)),yI (within_ret ((↑x.length:Int)) ((1:Int)) ((32:Int))),yB (ao (!decide ((1:Int)≤(↑x.length:Int)∧(↑x.length:Int)≤32))=ao true) (by simp;omega)] ?_
  refine zT 6 ?_
  refine zQ 1 [{}] [] ?_
  refine zR ?_
  refine then_r ?_
  refine zV [yJ 9 (nmE x) (by rw [e])]
 by_cases c2:Lib.validD x=false
 ·have e:=nm_text c1 c2
  refine zO Tryz.func46 10 ?_
  refine zQ 1 [{}] [] ?_
  refine zS ?_
  refine zP 1 [yH [(1,yV (ai (↑x.length:Int))),(2,yV (ao (decide ((1:Int)≤(↑x.length:Int)∧(↑x.length:Int)≤32)))),(3,yV (ao false))]] [.keep [6,2,0] []] [yR (ai (↑x.length:Int)),yI (within_ret ((↑x.length:Int)) ((1:Int)) ((32:Int))),yB (ao (!decide ((1:Int)≤(↑x.length:Int)∧(↑x.length:Int)≤32))=ao false) (by simp;omega)] ?_
  refine zF 6 ?_
  refine zK ?_
  refine then_n ?_
  refine zS ?_
  refine zP 1 [yH [(1,yV (ao (Lib.validD x))),(2,yV (ao true))]] [.keep [9,6,2,0] []] [yI (valid_ret x (by omega)),yB (ao (!Lib.validD x)=ao true) (by simp;omega)] ?_
  refine zT 9 ?_
  refine zQ 1 [{}] [] ?_
  refine zR ?_
  refine then_r ?_
  refine zV [yJ 6 (nmE x) (by rw [e])]
 have c3:Lib.validD x=true:=by simpa using c2
 have e:=nm_ok c1 c3
 refine zO Tryz.func46 10 ?_
 refine zQ 1 [{}] [] ?_
 refine zS ?_
 refine zP 1 [yH [(1,yV (ai (↑x.length:Int))),(2,yV (ao (decide ((1:Int)≤(↑x.length:Int)∧(↑x.length:Int)≤32)))),(3,yV (ao false))]] [.keep [6,2,0] []] [yR (ai (↑x.length:Int)),yI (within_ret ((↑x.length:Int)) ((1:Int)) ((32:Int))),yB (ao (!decide ((1:Int)≤(↑x.length:Int)∧(↑x.length:Int)≤32))=ao false) (by simp;omega)] ?_
 refine zF 6 ?_
 refine zK ?_
 refine then_n ?_
 refine zS ?_
 refine zP 1 [yH [(1,yV (ao (Lib.validD x))),(2,yV (ao false))]] [.keep [9,6,2,0] []] [yI (valid_ret x (by omega)),yB (ao (!Lib.validD x)=ao false) (by simp;omega)] ?_
 refine zF 9 ?_
 refine zK ?_
 refine then_n ?_
 refine zQ 1 [{}] [] ?_
 refine zR ?_
 refine zV [yJ 0 (nmE x) (by rw [e])]
theorem samedep_ret (d:Dep) (hl:d.holders.length≤1000000):Ret Tryz.prog 49 [.agg (depC d),.agg (depC d)] (ao true):=by
 have hll:(encA strC d.holders).length=d.holders.length:=by rw [encA_len (e:=1) (fun _=>rfl)];omega
 refine zO Tryz.func49 73 ?_
 refine zQ 1 [{}] [] ?_
 refine zS ?_
 refine zP 1 [yH [(2,{k:=(encA strC d.holders).length}),(5,{k:=(encA strC d.holders).length})]] [.keep [12,4,3,2,0,1] [3,2]] [yR ((encA strC d.holders).length),yR ((encA strC d.holders).length)] ?_
 refine zFb 12 ((↑(encA strC d.holders).length:Int) != (↑(encA strC d.holders).length:Int)) (by simp_all) ?_
 refine zK ?_
 refine then_n ?_
 refine zS ?_
 refine zQ 1 [{}] [] ?_
 refine zB 0 ?_
 refine zL (fun (i:Nat)=>(⟨[(12,ao ((↑(encA strC d.holders).length:Int) != (↑(encA strC d.holders).length:Int))),(3,AV.addr 3 0),(2,AV.addr 2 0),(0,AV.agg [aw d.pub,aw d.peer,AV.sl 1 (bytesA d.box),AV.sl 1 (encA strC d.holders),AV.sl 1 (wordsA d.digests),ai d.need,aw d.target]),(1,AV.agg [aw d.pub,aw d.peer,AV.sl 1 (bytesA d.box),AV.sl 1 (encA strC d.holders),AV.sl 1 (wordsA d.digests),ai d.need,aw d.target]),(5,ai i)],[(3,⟨1,false,true,[aw d.pub,aw d.peer,AV.sl 1 (bytesA d.box),AV.sl 1 (encA strC d.holders),AV.sl 1 (wordsA d.digests),ai d.need,aw d.target]⟩),(2,⟨1,false,true,List.map (kill0 (3:Nat)) (List.map (kill0 (2:Nat)) (depC d))⟩)]⟩:AS)) (fun i=>(i≤d.holders.length)) (fun i=>(d.holders.length-i)) (0) ?_ (zW [.keep [12,3,2,0,1,5] [3,2]]) ?_
 ·omega
 intro i hi
 refine zS ?_
 refine zP 1 [yH [(3,{k:=(encA strC d.holders).length})]] [.keep [17,12,3,2,0,1,5] [3,2]] [yR ((encA strC d.holders).length)] ?_
 refine zD 17 ((↑i:Int)<(↑(encA strC d.holders).length:Int)) (fun g=>?_) (fun g=>?_)
 ·have hi2:i<d.holders.length:=by omega
  have hat:=strs_at hi2
  refine zK ?_
  refine then_n ?_
  refine zS ?_
  refine zB 1 ?_
  refine zP 1 [{hs:=[(3,{k:=i}),(4,yV (AV.val (Value.string (ByteArray.mk (d.holders.getD i default).toArray)))),(8,{k:=i}),(9,yV (AV.val (Value.string (ByteArray.mk (d.holders.getD i default).toArray)))),(10,yV (ao false))],T:=10}] [.keep [30,17,12,3,2,0,1,5] [3,2]] [yR (↑i:Int),yO (i<(encA strC d.holders).length),yB ((encA strC d.holders)[i]?=some (AV.val (Value.string (ByteArray.mk (d.holders.getD i default).toArray)))) (by assumption),yR (↑i:Int),yO (i<(encA strC d.holders).length),yB ((encA strC d.holders)[i]?=some (AV.val (Value.string (ByteArray.mk (d.holders.getD i default).toArray)))) (by assumption),yB (ao (!(ByteArray.mk (d.holders.getD i default).toArray).toList == (ByteArray.mk (d.holders.getD i default).toArray).toList)=ao false) (by simp)] ?_
  refine zF 30 ?_
  refine zK ?_
  refine inb_n ?_
  refine then_n ?_
  refine zX (yH [(1,yV (ai ((↑i:Int)+1)))]) [yN ((↑i:Int)+1)] ?_
  refine round_n (i+1) (by assumption) (by omega) (zW [.keep [12,3,2,0,1,5] [3,2]])
 ·skip
  refine zE 0 ?_
  refine then_e ?_
  refine round_e ?_
  refine inb_e ?_
  refine then_n ?_
  refine zP 1 [yH [(4,yV (ao true)),(10,yV (ao true)),(15,yV (AV.val (Value.string (ByteArray.mk d.box.toArray)))),(18,yV (AV.val (Value.string (ByteArray.mk d.box.toArray)))),(19,yV (ao true)),(26,yV (ao (d.digests == d.digests))),(33,yV (ao true)),(40,yV (ao true))]] [.keep [4,17,12,3,2,0,1,5] [3,2]] [yB (ao (wv d.pub == wv d.pub)=ao true) (by simp),yR true,yR true,yR true,yR true,yR true,yB (ao (wv d.peer == wv d.peer)=ao true) (by simp),yR true,yR true,yR true,yR true,yR (bytesA d.box),yR true,yR true,yR true,yR (bytesA d.box),yR true,yB (ao ((ByteArray.mk d.box.toArray).toList == (ByteArray.mk d.box.toArray).toList)=ao true) (by simp),yR true,yR true,yR true,yR true,yR true,yR true,yI (samewords_ret d.digests d.digests),yR true,yB ((d.digests == d.digests)=true) (by simp_all),yB ((d.digests == d.digests)=true) (by simp_all),yB ((d.digests == d.digests)=true) (by simp_all),yB ((d.digests == d.digests)=true) (by simp_all),yB ((d.digests == d.digests)=true) (by simp_all),yB (ao (d.need == d.need)=ao true) (by simp_all),yB ((d.digests == d.digests)=true) (by simp_all),yR true,yR true,yR true,yR true,yR true,yB (ao (wv d.target == wv d.target)=ao true) (by simp),yR true] ?_
  refine zR ?_
  refine zV [yR (Value.bool true)]
end Go.Proofs.YtjgbhhnghedgdaaGreatDoor
