import Derived.Test.YtejpabdmiagnnaaGreatDoorZrV8
import Derived.Test.YtejpabdmiagnnaaGreatDoorZrRec1
import Derived.Test.YtejpabdmiagnnaaGreatDoorZrCl
set_option linter.all false
namespace Go.Proofs.YtejpabdmiagnnaaGreatDoor
open Go.RowKit
set_option maxRecDepth 100000
set_option maxHeartbeats 4000000
set_option linter.unusedVariables false
theorem isname_ret (m:Mem) (h:List UInt8):Ret Tryz.prog 128 [.agg (memC m),.ptr [as_ h] 0] (ao (m.name == h)):=by
 refine zO Tryz.func128 8 ?_
 refine zP 2 [{},yH [(3,yV (ao (m.name == h)))]] [.keep [3,2,0,1] [2]] [yB (ao ((ByteArray.mk m.name.toArray).toList == (ByteArray.mk h.toArray).toList)=ao (m.name == h)) (str_eq (m.name) (h))] ?_
 refine zR ?_
 refine zV [yR (Value.bool (m.name == h))]
def memI (l:List Mem) (h:List UInt8):Int:=if (∃m∈l,m.name=h) then (l.findIdx (fun m=>m.name == h):Int) else -1
theorem memI_no {l:List Mem} {h:List UInt8} (hn:∀j,j<l.length->(l.getD j default).name≠h):memI l h= -1:=by
 unfold memI
 rw [if_neg]
 rintro ⟨m,hm,e⟩
 obtain ⟨j,hj,e2⟩:=List.getElem_of_mem hm
 exact hn j hj (by rw [List.getD_eq_getElem?_getD,List.getElem?_eq_getElem hj];show l[j].name=h;rw [e2];exact e)
theorem memI_at {l:List Mem} {h:List UInt8} {i:Nat} (hi:i<l.length) (hn:∀j,j<i->(l.getD j default).name≠h) (e:(l.getD i default).name=h):memI l h=i:=by
 rw [List.getD_eq_getElem?_getD,List.getElem?_eq_getElem hi] at e
 have e:l[i].name=h:=e
 unfold memI
 rw [if_pos ⟨l[i],List.getElem_mem hi,e⟩]
 have:l.findIdx (fun m=>m.name == h)=i:=(List.findIdx_eq hi).2 ⟨by simpa using e,fun j hj=>by
  have:=hn j hj
  rw [List.getD_eq_getElem?_getD,List.getElem?_eq_getElem (by omega)] at this
  simpa using this⟩
 rw [this]
theorem mindex_ret (l:List Mem) (h:List UInt8) (hl0:l.length≤1000000):Ret Tryz.prog 160 [.sl 4 (encA memC l),.clo 128 [.ptr [as_ h] 0]] (ai (memI l h)):=by
 have hl:(encA memC l).length=l.length*4:=encA_len (e:=4) (fun _=>rfl) ..
 refine zO Tryz.func160 19 ?_
 refine zQ 1 [{}] [] ?_
 refine zS ?_
 refine zQ 1 [yH [(1,{k:=l.length})]] [yB ((encA memC l).length=l.length*(4:Nat)) (by assumption)] ?_
 refine zB 0 ?_
 refine zL (fun (i:Nat)=>(⟨[(7,ai (↑l.length:Int)),(0,AV.sl 4 (encA memC l)),(1,AV.clo (128:Nat) [AV.ptr [as_ h] (0:Nat)]),(8,ai i)],[]⟩:AS)) (fun i=>(i≤l.length∧ ∀j,j<i->(l.getD j default).name≠h)) (fun i=>(l.length-i)) (0) ?_ (zW [.keep [7,0,1,8] []]) ?_
 ·exact ⟨by omega,by omega⟩
 rintro i ⟨hi,hno⟩
 refine zQ 1 [{}] [] ?_
 refine zS ?_
 refine zD 9 ((↑i:Int)<(↑l.length:Int)) (fun g=>?_) (fun g=>?_)
 ·have hi2:i<l.length:=by omega
  have hc:=isname_ret (l.getD i default) h
  by_cases e:(l.getD i default).name=h
  ·have hf:=memI_at hi2 hno e
   refine zK ?_
   refine then_n ?_
   refine zS ?_
   refine zB 1 ?_
   refine zP 2 [{},yH [(3,{k:=i}),(4,yV (AV.agg [AV.val (Value.string (ByteArray.mk (l.getD i default).name.toArray)),ai ((l.getD i default).h),aw ((l.getD i default).r),aw ((l.getD i default).used)])),(5,yV (ao ((l.getD i default).name == h)))]] [.keep [16,5,9,7,0,1,8] []] [yR (↑i:Int),yO (i*(4:Nat)<(encA memC l).length),yB (List.take 4 (List.drop (i*(4:Nat)) (encA memC l))= [AV.val (Value.string (ByteArray.mk (l.getD i default).name.toArray)),ai ((l.getD i default).h),aw ((l.getD i default).r),aw ((l.getD i default).used)]) (encA_sub (f:=memC) (e:=4) (k:=i) (j:=0) (fun _=>rfl) (by omega) (by decide) rfl),yB ([AV.val (Value.string (ByteArray.mk (l.getD i default).name.toArray)),ai ((l.getD i default).h),aw ((l.getD i default).r),aw ((l.getD i default).used)].length=(4:Nat)) (by simp [e]),yI (isname_ret (l.getD i default) h)] ?_
   refine zTb 16 ((l.getD i default).name == h) (by simp_all) ?_
   refine zQ 1 [{}] [] ?_
   refine zR ?_
   refine inb_r ?_
   refine then_r ?_
   refine round_r ?_
   refine inb_r ?_
   refine then_r ?_
   refine zV [yJ (↑i:Int) (memI l h) (by rw [hf])]
  ·skip
   refine zK ?_
   refine then_n ?_
   refine zS ?_
   refine zB 1 ?_
   refine zP 2 [{},yH [(3,{k:=i}),(4,yV (AV.agg [AV.val (Value.string (ByteArray.mk (l.getD i default).name.toArray)),ai ((l.getD i default).h),aw ((l.getD i default).r),aw ((l.getD i default).used)])),(5,yV (ao ((l.getD i default).name == h)))]] [.keep [16,5,9,7,0,1,8] []] [yR (↑i:Int),yO (i*(4:Nat)<(encA memC l).length),yB (List.take 4 (List.drop (i*(4:Nat)) (encA memC l))= [AV.val (Value.string (ByteArray.mk (l.getD i default).name.toArray)),ai ((l.getD i default).h),aw ((l.getD i default).r),aw ((l.getD i default).used)]) (encA_sub (f:=memC) (e:=4) (k:=i) (j:=0) (fun _=>rfl) (by omega) (by decide) rfl),yB ([AV.val (Value.string (ByteArray.mk (l.getD i default).name.toArray)),ai ((l.getD i default).h),aw ((l.getD i default).r),aw ((l.getD i default).used)].length=(4:Nat)) (by simp [e]),yI (isname_ret (l.getD i default) h)] ?_
   refine zFb 16 ((l.getD i default).name == h) (by simp_all) ?_
   refine zK ?_
   refine inb_n ?_
   refine then_n ?_
   refine zX (yH [(0,yV (ai ((↑i:Int)+1)))]) [yN ((↑i:Int)+1)] ?_
   refine round_n (i+1) ⟨by omega,fun j hj=>by by_cases e2:j=i;(subst e2;exact e);exact hno j (by omega)⟩ (by omega) (zW [.keep [7,0,1,8] []])
 ·have hf:=memI_no (l:=l) (h:=h) (fun j hj=>hno j (by omega))
  refine zE 0 ?_
  refine then_e ?_
  refine round_e ?_
  refine inb_e ?_
  refine then_n ?_
  refine zQ 1 [{}] [] ?_
  refine zR ?_
  refine zV [yJ (-1:Int) (memI l h) (by rw [hf])]
theorem mcontains_ret (l:List Mem) (h:List UInt8) (hl0:l.length≤1000000):Ret Tryz.prog 129 [.sl 4 (encA memC l),.clo 128 [.ptr [as_ h] 0]] (ao (decide (memI l h≥0))):=by
 refine zO Tryz.func129 9 ?_
 refine zP 2 [{},yH [(2,yV (ai (memI l h)))]] [.keep [4,0,1] []] [yI (mindex_ret l h (by assumption))] ?_
 refine zR ?_
 refine zV [yR (Value.bool (decide (memI l h≥0)))]
def relE (g:Grp) (p:UInt64) (h s:List UInt8):Int:=if retE g.deps p≠0 then retE g.deps p else if memI g.mems h<0 then 11 else chkD (retD g.deps p) h s
def relD (g:Grp) (p:UInt64) (h s:List UInt8):List UInt8:=if relE g p h s=0 then s else []
theorem release_ret (g:Grp) (p:UInt64) (h s:List UInt8) (hg:g.deps.length≤1000000) (hm:g.mems.length≤1000000) (hh:h.length≤1000) (hs:s.length≤1000):Ret Tryz.prog 66 [.agg (grpC g),aw p,as_ h,.sl 1 (bytesA s)] (.tup [.own 1 (bytesA (relD g p h s)),ai (relE g p h s)]):=by
 by_cases h1:retE g.deps p=0
 case neg =>
  have e1:relE g p h s=retE g.deps p:=by unfold relE;rw [if_pos h1]
  have e2:relD g p h s= []:=by unfold relD;rw [if_neg (by omega)]
  refine zO Tryz.func66 38 ?_
  refine zP 2 [{},yH [(2,{av:=some (AV.tup [AV.agg [aw ((retD g.deps p).pub),aw ((retD g.deps p).peer),AV.sl 1 (bytesA (retD g.deps p).box),AV.sl 1 (encA strC (retD g.deps p).holders),AV.sl 1 (wordsA (retD g.deps p).digests),ai ((retD g.deps p).need),aw ((retD g.deps p).target)],ai (retE g.deps p)]),b:=false})]] [.keep [11,10,9,8,6,4,0,1,2,3] [10,6,4]] [yI (returned_ret g p (by assumption)),yL 7 7] ?_
  refine zS ?_
  refine zQ 1 [yH [(1,yV (ao true))]] [yB (ao (retE g.deps p != (0:Int))=ao true) (by simp [h1])] ?_
  refine zT 21 ?_
  refine zP 1 [{}] [.keep [9,8,21,11,10,6,4,0,1,2,3] [10,6,4]] [] ?_
  refine zR ?_
  refine then_r ?_
  refine zV [yB (bytesA (relD g p h s)= []) (by rw [e2];rfl),yJ (retE g.deps p) (relE g p h s) (by rw [e1])]
 by_cases h2:memI g.mems h<0
 ·have e1:relE g p h s=11:=by unfold relE;rw [if_neg (by omega),if_pos h2]
  have e2:relD g p h s= []:=by unfold relD;rw [if_neg (by omega)]
  refine zO Tryz.func66 38 ?_
  refine zP 2 [{},yH [(2,{av:=some (AV.tup [AV.agg [aw ((retD g.deps p).pub),aw ((retD g.deps p).peer),AV.sl 1 (bytesA (retD g.deps p).box),AV.sl 1 (encA strC (retD g.deps p).holders),AV.sl 1 (wordsA (retD g.deps p).digests),ai ((retD g.deps p).need),aw ((retD g.deps p).target)],ai (retE g.deps p)]),b:=false})]] [.keep [11,10,9,8,6,4,0,1,2,3] [10,6,4]] [yI (returned_ret g p (by assumption)),yL 7 7] ?_
  refine zS ?_
  refine zQ 1 [yH [(1,yV (ao false))]] [yB (ao (retE g.deps p != (0:Int))=ao false) (by simp [h1])] ?_
  refine zF 21 ?_
  refine zK ?_
  refine then_n ?_
  refine zP 1 [{}] [.keep [12,21,11,10,9,8,6,4,0,1,2,3] [10,4]] [] ?_
  refine zS ?_
  refine zP 1 [yH [(3,yV (ao (decide (memI g.mems h≥0)))),(4,yV (ao true))]] [.keep [28,12,21,11,10,9,8,6,4,0,1,2,3] [10,4]] [yI (mcontains_ret g.mems h (by assumption)),yB (ao (!decide (memI g.mems h≥0))=ao true) (by simp;omega)] ?_
  refine zT 28 ?_
  refine zQ 1 [{}] [] ?_
  refine zR ?_
  refine then_r ?_
  refine zV [yB (bytesA (relD g p h s)= []) (by rw [e2];rfl),yJ 11 (relE g p h s) (by rw [e1])]
 have e0:relE g p h s=chkD (retD g.deps p) h s:=by unfold relE;rw [if_neg (by omega),if_neg h2]
 by_cases h3:chkD (retD g.deps p) h s=0
 ·have e2:relD g p h s=s:=by unfold relD;rw [if_pos (by omega)]
  refine zO Tryz.func66 38 ?_
  refine zP 2 [{},yH [(2,{av:=some (AV.tup [AV.agg [aw ((retD g.deps p).pub),aw ((retD g.deps p).peer),AV.sl 1 (bytesA (retD g.deps p).box),AV.sl 1 (encA strC (retD g.deps p).holders),AV.sl 1 (wordsA (retD g.deps p).digests),ai ((retD g.deps p).need),aw ((retD g.deps p).target)],ai (retE g.deps p)]),b:=false})]] [.keep [11,10,9,8,6,4,0,1,2,3] [10,6,4]] [yI (returned_ret g p (by assumption)),yL 7 7] ?_
  refine zS ?_
  refine zQ 1 [yH [(1,yV (ao false))]] [yB (ao (retE g.deps p != (0:Int))=ao false) (by simp [h1])] ?_
  refine zF 21 ?_
  refine zK ?_
  refine then_n ?_
  refine zP 1 [{}] [.keep [12,21,11,10,9,8,6,4,0,1,2,3] [10,4]] [] ?_
  refine zS ?_
  refine zP 1 [yH [(3,yV (ao (decide (memI g.mems h≥0)))),(4,yV (ao false))]] [.keep [28,12,21,11,10,9,8,6,4,0,1,2,3] [10,4]] [yI (mcontains_ret g.mems h (by assumption)),yB (ao (!decide (memI g.mems h≥0))=ao false) (by simp;omega)] ?_
  refine zF 28 ?_
  refine zK ?_
  refine then_n ?_
  refine zS ?_
  refine zP 2 [yH [(3,yV (ai (chkD (retD g.deps p) h s)))],yH [(1,yV (ao false))]] [.keep [34,13,28,12,21,11,10,9,8,6,4,0,1,2,3] [10,4]] [yI (rcheck_ret (retD g.deps p) h s (by assumption) (by assumption)),yB (ao (chkD (retD g.deps p) h s != (0:Int))=ao false) (by simp;omega)] ?_
  refine zF 34 ?_
  refine zK ?_
  refine then_n ?_
  refine zQ 1 [yH [(1,yV (AV.own 1 (bytesA s)))]] [yI (clone_ret s (by omega)),yI (valR_bytes s)] ?_
  refine zR ?_
  refine zV [yB (bytesA s=bytesA (relD g p h s)) (by rw [e2]),yJ 0 (relE g p h s) (by rw [e0,h3])]
 ·have e2:relD g p h s= []:=by unfold relD;rw [if_neg (by omega)]
  refine zO Tryz.func66 38 ?_
  refine zP 2 [{},yH [(2,{av:=some (AV.tup [AV.agg [aw ((retD g.deps p).pub),aw ((retD g.deps p).peer),AV.sl 1 (bytesA (retD g.deps p).box),AV.sl 1 (encA strC (retD g.deps p).holders),AV.sl 1 (wordsA (retD g.deps p).digests),ai ((retD g.deps p).need),aw ((retD g.deps p).target)],ai (retE g.deps p)]),b:=false})]] [.keep [11,10,9,8,6,4,0,1,2,3] [10,6,4]] [yI (returned_ret g p (by assumption)),yL 7 7] ?_
  refine zS ?_
  refine zQ 1 [yH [(1,yV (ao false))]] [yB (ao (retE g.deps p != (0:Int))=ao false) (by simp [h1])] ?_
  refine zF 21 ?_
  refine zK ?_
  refine then_n ?_
  refine zP 1 [{}] [.keep [12,21,11,10,9,8,6,4,0,1,2,3] [10,4]] [] ?_
  refine zS ?_
  refine zP 1 [yH [(3,yV (ao (decide (memI g.mems h≥0)))),(4,yV (ao false))]] [.keep [28,12,21,11,10,9,8,6,4,0,1,2,3] [10,4]] [yI (mcontains_ret g.mems h (by assumption)),yB (ao (!decide (memI g.mems h≥0))=ao false) (by simp;omega)] ?_
  refine zF 28 ?_
  refine zK ?_
  refine then_n ?_
  refine zS ?_
  refine zP 2 [yH [(3,yV (ai (chkD (retD g.deps p) h s)))],yH [(1,yV (ao true))]] [.keep [34,13,28,12,21,11,10,9,8,6,4,0,1,2,3] [10,4]] [yI (rcheck_ret (retD g.deps p) h s (by assumption) (by assumption)),yB (ao (chkD (retD g.deps p) h s != (0:Int))=ao true) (by simp;omega)] ?_
  refine zT 34 ?_
  refine AWP.regsK 1 [{}] (by kernel_rfl) (s':=AS.mk [(9,ai (chkD (retD g.deps p) h s)),(8,AV.nil),(35,ai (chkD (retD g.deps p) h s)),(34,ao true),(13,ai (chkD (retD g.deps p) h s)),(28,ao false),(12,AV.clo (128:Nat) (List.map (opd (thaw (6:Nat) (Row.mk 1 true true [AV.val (Value.string (ByteArray.mk h.toArray))]) (purifyAll (AS.mk [(21,ao false),(20,ai (retE g.deps p)),(11,ai (retE g.deps p)),(10,AV.addr 10 0),(9,ai 0),(8,AV.nil),(6,AV.addr 6 0),(4,AV.addr 4 0),(0,AV.agg [ai g.epoch,aw g.head,ai g.thr,AV.sl 4 (encA memC g.mems),AV.sl 7 (encA depC g.deps)]),(1,aw p),(2,AV.val (Value.string (ByteArray.mk h.toArray))),(3,AV.sl 1 (bytesA s))] [(10,Row.mk 1 false true [aw ((retD g.deps p).pub),aw ((retD g.deps p).peer),AV.sl 1 (bytesA (retD g.deps p).box),AV.sl 1 (encA strC (retD g.deps p).holders),AV.sl 1 (wordsA (retD g.deps p).digests),ai ((retD g.deps p).need),aw ((retD g.deps p).target)]),(6,Row.mk 1 false true [AV.val (Value.string (ByteArray.mk h.toArray))]),(4,Row.mk 1 false true (List.map (kill0 (10:Nat)) (List.map (kill0 (6:Nat)) (List.map (kill0 (4:Nat)) (grpC g)))))]) (List.flatMap ids1 (List.map (opd (AS.mk [(21,ao false),(20,ai (retE g.deps p)),(11,ai (retE g.deps p)),(10,AV.addr 10 0),(9,ai 0),(8,AV.nil),(6,AV.addr 6 0),(4,AV.addr 4 0),(0,AV.agg [ai g.epoch,aw g.head,ai g.thr,AV.sl 4 (encA memC g.mems),AV.sl 7 (encA depC g.deps)]),(1,aw p),(2,AV.val (Value.string (ByteArray.mk h.toArray))),(3,AV.sl 1 (bytesA s))] [(10,Row.mk 1 false true [aw ((retD g.deps p).pub),aw ((retD g.deps p).peer),AV.sl 1 (bytesA (retD g.deps p).box),AV.sl 1 (encA strC (retD g.deps p).holders),AV.sl 1 (wordsA (retD g.deps p).digests),ai ((retD g.deps p).need),aw ((retD g.deps p).target)]),(6,Row.mk 1 false true [AV.val (Value.string (ByteArray.mk h.toArray))]),(4,Row.mk 1 false true (List.map (kill0 (10:Nat)) (List.map (kill0 (6:Nat)) (List.map (kill0 (4:Nat)) (grpC g)))))])) [Operand.tmp (6:Nat)]))))) [Operand.tmp (6:Nat)])),(21,ao false),(11,ai (retE g.deps p)),(10,AV.addr 10 0),(6,AV.ptr [AV.val (Value.string (ByteArray.mk h.toArray))] (0:Nat)),(4,AV.addr 4 0),(0,AV.agg [ai g.epoch,aw g.head,ai g.thr,AV.sl 4 (encA memC g.mems),AV.sl 7 (encA depC g.deps)]),(1,aw p),(2,AV.val (Value.string (ByteArray.mk h.toArray))),(3,AV.sl 1 (bytesA s))] [(10,Row.mk 1 false true [aw ((retD g.deps p).pub),aw ((retD g.deps p).peer),AV.sl 1 (bytesA (retD g.deps p).box),AV.sl 1 (encA strC (retD g.deps p).holders),AV.sl 1 (wordsA (retD g.deps p).digests),ai ((retD g.deps p).need),aw ((retD g.deps p).target)]),(4,Row.mk 1 false true (List.map (thaw0 (6:Nat) (Row.mk 1 true true [AV.val (Value.string (ByteArray.mk h.toArray))])) (List.map (kill0 (10:Nat)) (List.map (kill0 (6:Nat)) (List.map (kill0 (4:Nat)) (grpC g))))))]) (C:=[]) (by kernel_rfl) trivial ?_
  refine zR ?_
  refine then_r ?_
  refine zV [yB (bytesA (relD g p h s)= []) (by rw [e2];rfl),yJ (chkD (retD g.deps p) h s) (relE g p h s) (by rw [e0])]
end Go.Proofs.YtejpabdmiagnnaaGreatDoor
