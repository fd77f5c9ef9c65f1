import Derived.Test.YtejpabdmiagnnaaGreatDoorZrV8
import Derived.Test.YtejpabdmiagnnaaGreatDoorZrSeal2
import Derived.Test.YtejpabdmiagnnaaGreatDoorZrSh4
import Derived.Test.YtejpabdmiagnnaaGreatDoorZrRJ
set_option linter.all false
namespace Go.Proofs.YtejpabdmiagnnaaGreatDoor
open Go.RowKit
set_option maxRecDepth 100000
set_option maxHeartbeats 4000000
set_option linter.unusedVariables false
def strC (s:List UInt8):List AV:=[as_ s]
structure Dep where
 pub:UInt64
 peer:UInt64
 box:List UInt8
 holders:List (List UInt8)
 digests:List UInt64
 need:Int
 target:UInt64
def depC (d:Dep):List AV:=[aw d.pub,aw d.peer,.sl 1 (bytesA d.box),.sl 1 (encA strC d.holders),.sl 1 (wordsA d.digests),ai d.need,aw d.target]
def digD (h s:List UInt8):UInt64:=hash 22 (h++ [0]++s)
theorem str_le (h:List UInt8) (hh:h.length≤1000):(⟨h.toArray⟩:ByteArray).size≤maxLen:=by
 show h.toArray.size≤_
 unfold maxLen
 simp;omega
theorem digest_ret (h s:List UInt8) (hh:h.length≤1000) (hs:s.length≤1000):Ret Tryz.prog 112 [as_ h,.sl 1 (bytesA s)] (aw (digD h s)):=by
 have hz:=str_le h hh
 refine zO Tryz.func112 14 ?_
 refine zP 3 [{},yH [(2,yV (AV.arr (bytesA [0]))),(3,yV (AV.arr (bytesA (h.toArray.toList++ [0]))))],yH [(2,{av:=some (AV.arr (bytesA (h.toArray.toList++ [0]++s))),b:=false}),(3,yV (aw (hash (22:Int) (h.toArray.toList++ [0]++s))))]] [.keep [4,0,1] []] [yB ((ByteArray.mk h.toArray).size≤maxLen) (by assumption),yR (bytesA [0]),yB (bytesA h.toArray.toList++bytesA [0]=bytesA (h.toArray.toList++ [0])) (bytesA_app _ _),yB (((bytesA h.toArray.toList).length+(bytesA [0]).length)*(1:Nat)≤(140737488355328:Nat)) (by simp only [bytesA_len,List.length_cons,List.length_nil];omega),yB (bytesA (h.toArray.toList++ [0])++bytesA s=bytesA (h.toArray.toList++ [0]++s)) (bytesA_app _ _),yB (plainR (bytesA s)) (plainR_bytes _),yB (((bytesA (h.toArray.toList++ [0])).length+(bytesA s).length)*(1:Nat)≤(140737488355328:Nat)) (by simp only [bytesA_len,List.length_append,List.length_cons,List.length_nil];omega),yI (hash_ret ((22:Int)) (h.toArray.toList++ [0]++s))] ?_
 refine zR ?_
 refine zV [yR (Value.int .u64 (wv (digD h s)))]
def idxS (l:List (List UInt8)) (x:List UInt8):Int:=if x∈l then (l.idxOf x:Int) else -1
theorem idx_no (l:List (List UInt8)) (x:List UInt8):∀i,i≤l.length->(∀j,j<i->l.getD j default≠x)->i=l.length->idxS l x= -1:=by
 intro i hi h e
 subst e
 unfold idxS
 rw [if_neg]
 intro hm
 obtain ⟨j,hj,e⟩:=List.getElem_of_mem hm
 exact h j hj (by rw [List.getD_eq_getElem?_getD,List.getElem?_eq_getElem hj];exact e)
theorem idx_at (l:List (List UInt8)) (x:List UInt8) {i:Nat} (hi:i<l.length) (h:∀j,j<i->l.getD j default≠x) (e:l.getD i default=x):idxS l x=i:=by
 have e2:l[i]=x:=by rw [←e,List.getD_eq_getElem?_getD,List.getElem?_eq_getElem hi];rfl
 have hm:x∈l:=e2 ▸ List.getElem_mem hi
 unfold idxS
 rw [if_pos hm]
 have h1:l.idxOf x≤i:=by
  apply Decidable.byContradiction
  intro hlt
  have:=List.not_of_lt_findIdx (p:=fun y=>y == x) (xs:=l) (i:=i) (by show i<l.idxOf x;omega)
  simp [e2] at this
 have h2:¬l.idxOf x<i:=fun hlt=>by
  have hx:=List.getElem_idxOf (List.idxOf_lt_length_of_mem hm)
  exact h (l.idxOf x) hlt (by rw [List.getD_eq_getElem?_getD,List.getElem?_eq_getElem (List.idxOf_lt_length_of_mem hm)];exact hx)
 omega
theorem strs_at {l:List (List UInt8)} {i:Nat} (h:i<l.length):(encA strC l)[i]?=some (as_ (l.getD i default)):=by
 have:=encA_at (f:=strC) (e:=1) (l:=l) (k:=i) (j:=0) (fun _=>rfl) h (c:=as_ (l.getD i default)) rfl
 simpa using this
theorem sidx_ret (l:List (List UInt8)) (x:List UInt8):Ret Tryz.prog 55 [.sl 1 (encA strC l),as_ x] (ai (idxS l x)):=by
 refine Ret.len 0 rfl fun hlen=>?_
 rw [encA_len (e:=1) (fun _=>rfl)] at hlen
 refine zO Tryz.func55 19 ?_
 refine zQ 1 [{}] [] ?_
 refine zS ?_
 refine zQ 1 [yH [(1,{k:=(encA strC l).length})]] [yR ((encA strC l).length)] ?_
 refine zB 0 ?_
 have hl:(encA strC l).length=l.length:=by rw [encA_len (e:=1) (fun _=>rfl)];omega
 refine zL (fun (i:Nat)=>(⟨[(7,ai (↑(encA strC l).length:Int)),(0,AV.sl 1 (encA strC l)),(1,AV.val (Value.string (ByteArray.mk x.toArray))),(8,ai i)],[]⟩:AS)) (fun i=>(i≤l.length∧ ∀j,j<i->l.getD j default≠x)) (fun i=>(l.length-i)) (0) ?_ (zW [.keep [7,0,1,8] []]) ?_
 ·exact ⟨by omega,by omega⟩
 rintro i ⟨hi,hno⟩
 refine zQ 1 [{}] [] ?_
 refine zS ?_
 refine zD 9 ((↑i:Int)<(↑(encA strC l).length:Int)) (fun h=>?_) (fun h=>?_)
 ·have hi2:i<l.length:=by omega
  have hat:=strs_at hi2
  by_cases e:l.getD i default=x
  ·have:=idx_at l x hi2 hno e
   refine zK ?_
   refine then_n ?_
   refine zS ?_
   refine zB 1 ?_
   refine zP 2 [{},yH [(3,{k:=i}),(4,yV (AV.val (Value.string (ByteArray.mk (l.getD i default).toArray)))),(5,yV (ao (x == l.getD i default)))]] [.keep [16,5,9,7,0,1,8] []] [yR (↑i:Int),yO (i<(encA strC l).length),yB ((encA strC l)[i]?=some (AV.val (Value.string (ByteArray.mk (l.getD i default).toArray)))) (by assumption),yB (ao ((ByteArray.mk x.toArray).toList == (ByteArray.mk (l.getD i default).toArray).toList)=ao (x == l.getD i default)) (str_eq (x) (l.getD i default))] ?_
   refine zTb 16 (x == l.getD i default) (by simp_all) ?_
   refine zQ 1 [{}] [] ?_
   refine zR ?_
   refine inb_r ?_
   refine then_r ?_
   refine round_r ?_
   refine inb_r ?_
   refine then_r ?_
   refine zV [yJ (↑i:Int) (idxS l x) (by rw [this])]
  ·have e2:(x == l.getD i default)=false:=beq_eq_false_iff_ne.2 (fun q=>e q.symm)
   refine zK ?_
   refine then_n ?_
   refine zS ?_
   refine zB 1 ?_
   refine zP 2 [{},yH [(3,{k:=i}),(4,yV (AV.val (Value.string (ByteArray.mk (l.getD i default).toArray)))),(5,yV (ao (x == l.getD i default)))]] [.keep [16,5,9,7,0,1,8] []] [yR (↑i:Int),yO (i<(encA strC l).length),yB ((encA strC l)[i]?=some (AV.val (Value.string (ByteArray.mk (l.getD i default).toArray)))) (by assumption),yB (ao ((ByteArray.mk x.toArray).toList == (ByteArray.mk (l.getD i default).toArray).toList)=ao (x == l.getD i default)) (str_eq (x) (l.getD i default))] ?_
   refine zFb 16 (x == l.getD i default) (by assumption) ?_
   refine zK ?_
   refine inb_n ?_
   refine then_n ?_
   refine zX (yH [(0,yV (ai ((↑i:Int)+1)))]) [yN ((↑i:Int)+1)] ?_
   refine round_n (i+1) ⟨by omega,fun j hj=>by by_cases e2:j=i;(subst e2;exact e);exact hno j (by omega)⟩ (by omega) (zW [.keep [7,0,1,8] []])
 ·have:=idx_no l x i hi hno (by omega)
  refine zE 0 ?_
  refine then_e ?_
  refine round_e ?_
  refine inb_e ?_
  refine then_n ?_
  refine zQ 1 [{}] [] ?_
  refine zR ?_
  refine zV [yJ (-1:Int) (idxS l x) (by rw [this])]
def chkD (d:Dep) (h s:List UInt8):Int:=if idxS d.holders h<0 then 11 else if d.digests.length≠d.holders.length then 4 else if digD h s≠d.digests.getD (idxS d.holders h).toNat 0 then 14 else 0
theorem idx_cases (l:List (List UInt8)) (x:List UInt8):idxS l x= -1∨ ∃i:Nat,idxS l x=i∧i<l.length∧l.getD i default=x:=by
 unfold idxS
 by_cases h:x∈l
 ·right
  have hlt:=List.idxOf_lt_length_of_mem h
  refine ⟨l.idxOf x,if_pos h,hlt,?_⟩
  rw [List.getD_eq_getElem?_getD,List.getElem?_eq_getElem hlt]
  exact List.getElem_idxOf hlt
 ·exact .inl (if_neg h)
theorem rcheck_ret (d:Dep) (h s:List UInt8) (hh:h.length≤1000) (hs:s.length≤1000):Ret Tryz.prog 54 [.agg (depC d),as_ h,.sl 1 (bytesA s)] (ai (chkD d h s)):=by
 have hz:=str_le h hh
 rcases idx_cases d.holders h with e|⟨i,e,hi,_⟩
 ·have e1:chkD d h s=11:=by unfold chkD;rw [if_pos (by omega)]
  refine zO Tryz.func54 30 ?_
  refine zP 2 [{},yH [(3,yV (ai (idxS d.holders h)))]] [.keep [7,6,3,0,1,2] [3]] [yI (sidx_ret d.holders h)] ?_
  refine zS ?_
  refine zQ 1 [{}] [] ?_
  refine zTd 13 (idxS d.holders h<0) ?_
  refine zQ 1 [{}] [] ?_
  refine zR ?_
  refine then_r ?_
  refine zV [yJ 11 (chkD d h s) (by rw [e1])]
 ·have hl:(encA strC d.holders).length=d.holders.length:=by rw [encA_len (e:=1) (fun _=>rfl)];omega
  by_cases h2:d.digests.length=d.holders.length
  case neg =>
   have e1:chkD d h s=4:=by unfold chkD;rw [if_neg (by omega),if_pos h2]
   refine zO Tryz.func54 30 ?_
   refine zP 2 [{},yH [(3,yV (ai (idxS d.holders h)))]] [.keep [7,6,3,0,1,2] [3]] [yI (sidx_ret d.holders h)] ?_
   refine zS ?_
   refine zQ 1 [yH [(1,yV (ao false))]] [yB (ao (decide (idxS d.holders h<0))=ao false) (by simp;omega)] ?_
   refine zF 13 ?_
   refine zK ?_
   refine then_n ?_
   refine zS ?_
   refine zP 1 [yH [(2,{k:=d.digests.length}),(5,{k:=(encA strC d.holders).length}),(6,yV (ao true))]] [.keep [20,13,7,6,3,0,1,2] [3]] [yB ((wordsA d.digests).length=d.digests.length) (wordsA_len _),yR ((encA strC d.holders).length),yB (ao ((↑d.digests.length:Int) != (↑(encA strC d.holders).length:Int))=ao true) (by simp;omega)] ?_
   refine zT 20 ?_
   refine zQ 1 [{}] [] ?_
   refine zR ?_
   refine then_r ?_
   refine zV [yJ 4 (chkD d h s) (by rw [e1])]
  by_cases h3:digD h s=d.digests.getD i 0
  ·have e1:chkD d h s=0:=by unfold chkD;rw [if_neg (by omega),if_neg (by omega),e];simpa using h3
   refine zO Tryz.func54 30 ?_
   refine zP 2 [{},yH [(3,yV (ai (idxS d.holders h))),(4,yV (ai (↑i:Int)))]] [.keep [7,6,3,0,1,2] [3]] [yI (sidx_ret d.holders h),yB (ai (idxS d.holders h)=ai (↑i:Int)) (by simp;omega)] ?_
   refine zS ?_
   refine zQ 1 [yH [(1,yV (ao false))]] [yB (ao (decide ((↑i:Int)<0))=ao false) (by simp [h3])] ?_
   refine zF 13 ?_
   refine zK ?_
   refine then_n ?_
   refine zS ?_
   refine zP 1 [yH [(2,{k:=d.digests.length}),(5,{k:=(encA strC d.holders).length}),(6,yV (ao false))]] [.keep [20,13,7,6,3,0,1,2] [3]] [yB ((wordsA d.digests).length=d.digests.length) (wordsA_len _),yR ((encA strC d.holders).length),yB (ao ((↑d.digests.length:Int) != (↑(encA strC d.holders).length:Int))=ao false) (by simp;omega)] ?_
   refine zF 20 ?_
   refine zK ?_
   refine then_n ?_
   refine zS ?_
   refine zP 1 [{hs:=[(2,yV (aw (digD h s))),(6,{k:=i}),(7,yV (aw (d.digests.getD i 0))),(8,yV (ao false))],T:=8}] [.keep [29,20,13,7,6,3,0,1,2] [3]] [yI (digest_ret h s (by assumption) (by assumption)),yR (↑i:Int),yB (i<(wordsA d.digests).length) (by simp only [wordsA_len];omega),yB ((wordsA d.digests)[i]?=some (aw (d.digests.getD i 0))) (wordsA_at (by omega)),yB (ao (wv (digD h s) != wv (d.digests.getD i 0))=ao false) (by simp [h3])] ?_
   refine zF 29 ?_
   refine zK ?_
   refine then_n ?_
   refine zQ 1 [{}] [] ?_
   refine zR ?_
   refine zV [yJ 0 (chkD d h s) (by rw [e1])]
  ·have e1:chkD d h s=14:=by unfold chkD;rw [if_neg (by omega),if_neg (by omega),e];simpa using h3
   refine zO Tryz.func54 30 ?_
   refine zP 2 [{},yH [(3,yV (ai (idxS d.holders h))),(4,yV (ai (↑i:Int)))]] [.keep [7,6,3,0,1,2] [3]] [yI (sidx_ret d.holders h),yB (ai (idxS d.holders h)=ai (↑i:Int)) (by simp;omega)] ?_
   refine zS ?_
   refine zQ 1 [yH [(1,yV (ao false))]] [yB (ao (decide ((↑i:Int)<0))=ao false) (by simp [h3])] ?_
   refine zF 13 ?_
   refine zK ?_
   refine then_n ?_
   refine zS ?_
   refine zP 1 [yH [(2,{k:=d.digests.length}),(5,{k:=(encA strC d.holders).length}),(6,yV (ao false))]] [.keep [20,13,7,6,3,0,1,2] [3]] [yB ((wordsA d.digests).length=d.digests.length) (wordsA_len _),yR ((encA strC d.holders).length),yB (ao ((↑d.digests.length:Int) != (↑(encA strC d.holders).length:Int))=ao false) (by simp;omega)] ?_
   refine zF 20 ?_
   refine zK ?_
   refine then_n ?_
   refine zS ?_
   refine AWP.regsP 1 [{hs:=[(2,{av:=some (aw (digD h s))}),(6,{k:=i}),(7,{av:=some (aw (d.digests.getD i 0))}),(8,{av:=some (ao (digD h s != d.digests.getD i 0))})],T:=8}] [.keep [29,20,13,7,6,3,0,1,2] [3]] (by kernel_rfl) (s':=AS.mk [(29,ao (digD h s != d.digests.getD i 0)),(20,ao false),(13,ao false),(7,ai (↑i:Int)),(6,ai 0),(3,AV.addr 3 0),(0,AV.agg [aw d.pub,aw d.peer,AV.sl 1 (bytesA d.box),AV.sl 1 (encA strC d.holders),AV.sl 1 (wordsA d.digests),ai d.need,aw d.target]),(1,AV.val (Value.string (ByteArray.mk h.toArray))),(2,AV.sl 1 (bytesA s))] [(3,Row.mk 1 false true (List.map (kill0 (3:Nat)) (depC d)))]) (C:=[Ret Tryz.prog (112:Nat) [AV.val (Value.string (ByteArray.mk h.toArray)),AV.sl 1 (bytesA s)] (aw (digD h s)),(↑i:Int)=(↑i:Int),i<(wordsA d.digests).length,(wordsA d.digests)[i]?=some (aw (d.digests.getD i 0)),ao (wv (digD h s) != wv (d.digests.getD i 0))=ao (digD h s != d.digests.getD i 0)]) (by kernel_rfl) ⟨(digest_ret (h) (s) (by assumption) (by assumption)),(by simp [h3]),(by simp only [wordsA_len];omega),(wordsA_at (by omega)),(avw_ne (digD h s) (d.digests.getD i 0)),trivial⟩ ?_
   refine zTb 29 (digD h s != d.digests.getD i 0) (by simp_all) ?_
   refine zQ 1 [{}] [] ?_
   refine zR ?_
   refine then_r ?_
   refine zV [yJ 14 (chkD d h s) (by rw [e1])]
theorem refdigest_ret (h s:List UInt8) (hh:h.length≤1000) (hs:s.length≤1000):Ret Tryz.prog 105 [as_ h,.sl 1 (bytesA s)] (aw (digD h s)):=by
 have hz:=str_le h hh
 refine zO Tryz.func105 12 ?_
 refine zP 2 [{},yH [(2,yV (AV.arr (bytesA [0]))),(3,yV (AV.arr (bytesA (h.toArray.toList++ [0])))),(5,{av:=some (AV.arr (bytesA (h.toArray.toList++ [0]++s))),b:=false}),(6,yV (aw (hash (22:Int) (h.toArray.toList++ [0]++s))))]] [.keep [4,0,1] []] [yB ((ByteArray.mk h.toArray).size≤maxLen) (by assumption),yR (bytesA [0]),yB (bytesA h.toArray.toList++bytesA [0]=bytesA (h.toArray.toList++ [0])) (bytesA_app _ _),yB (((bytesA h.toArray.toList).length+(bytesA [0]).length)*(1:Nat)≤(140737488355328:Nat)) (by simp only [bytesA_len,List.length_cons,List.length_nil];omega),yB (bytesA (h.toArray.toList++ [0])++bytesA s=bytesA (h.toArray.toList++ [0]++s)) (bytesA_app _ _),yB (plainR (bytesA s)) (plainR_bytes _),yB (((bytesA (h.toArray.toList++ [0])).length+(bytesA s).length)*(1:Nat)≤(140737488355328:Nat)) (by simp only [bytesA_len,List.length_append,List.length_cons,List.length_nil];omega),yI (refhash_ret ((22:Int)) (h.toArray.toList++ [0]++s) (by simp only [List.length_append,List.length_cons,List.length_nil];omega))] ?_
 refine zR ?_
 refine zV [yR (Value.int .u64 (wv (digD h s)))]
structure Mem where
 name:List UInt8
 h:Int
 r:UInt64
 used:UInt64
def memC (m:Mem):List AV:=[as_ m.name,ai m.h,aw m.r,aw m.used]
structure Grp where
 epoch:Int
 head:UInt64
 thr:Int
 mems:List Mem
 deps:List Dep
def grpC (g:Grp):List AV:=[ai g.epoch,aw g.head,ai g.thr,.sl 4 (encA memC g.mems),.sl 7 (encA depC g.deps)]
instance:Inhabited Dep:=⟨⟨0,0,[],[],[],0,0⟩⟩
instance:Inhabited Mem:=⟨⟨[],0,0,0⟩⟩
def fnd (l:List Dep) (p:UInt64):Nat:=l.findIdx (fun d=>d.pub == p)
def retE (l:List Dep) (p:UInt64):Int:=if fnd l p<l.length then (if (l.getD (fnd l p) default).target=0 then 18 else 0) else 11
def retD (l:List Dep) (p:UInt64):Dep:=if retE l p=0 then l.getD (fnd l p) default else default
theorem fnd_no {l:List Dep} {p:UInt64} (h:∀j,j<l.length->(l.getD j default).pub≠p):fnd l p=l.length:=by
 unfold fnd
 apply List.findIdx_eq_length.2
 intro d hd
 obtain ⟨j,hj,e⟩:=List.getElem_of_mem hd
 have:=h j hj
 rw [List.getD_eq_getElem?_getD,List.getElem?_eq_getElem hj] at this
 simpa [←e] using this
theorem fnd_at {l:List Dep} {p:UInt64} {i:Nat} (hi:i<l.length) (h:∀j,j<i->(l.getD j default).pub≠p) (e:(l.getD i default).pub=p):fnd l p=i:=by
 unfold fnd
 rw [List.getD_eq_getElem?_getD,List.getElem?_eq_getElem hi] at e
 refine (List.findIdx_eq hi).2 ⟨by simpa using e,fun j hj=>?_⟩
 have:=h j hj
 rw [List.getD_eq_getElem?_getD,List.getElem?_eq_getElem (by omega)] at this
 simpa using this
theorem returned_ret (g:Grp) (p:UInt64) (hg:g.deps.length≤1000000):Ret Tryz.prog 53 [.agg (grpC g),aw p] (.tup [.agg (depC (retD g.deps p)),ai (retE g.deps p)]):=by
 have hl:(encA depC g.deps).length=g.deps.length*7:=encA_len (e:=7) (fun _=>rfl) ..
 refine zO Tryz.func53 26 ?_
 refine zQ 1 [{}] [] ?_
 refine zS ?_
 refine zQ 1 [yH [(2,{k:=g.deps.length})]] [yB ((encA depC g.deps).length=g.deps.length*(7:Nat)) (by assumption)] ?_
 refine zB 0 ?_
 refine zL (fun (i:Nat)=>(⟨[(10,ai (↑g.deps.length:Int)),(9,AV.sl 7 (encA depC g.deps)),(4,AV.addr 4 0),(2,AV.addr 2 0),(0,AV.agg [ai g.epoch,aw g.head,ai g.thr,AV.sl 4 (encA memC g.mems),AV.sl 7 (encA depC g.deps)]),(1,aw p),(11,ai i)],[(4,⟨1,false,true,[au0,au0,AV.nil,AV.nil,AV.nil,ai 0,au0]⟩),(2,⟨1,false,true,List.map (kill0 (4:Nat)) (List.map (kill0 (2:Nat)) (grpC g))⟩)]⟩:AS)) (fun i=>(i≤g.deps.length∧ ∀j,j<i->(g.deps.getD j default).pub≠p)) (fun i=>(g.deps.length-i)) (0) ?_ (zW [.keep [10,9,4,2,0,1,11] [4,2]]) ?_
 ·exact ⟨by omega,by omega⟩
 rintro i ⟨hi,hno⟩
 refine zQ 1 [{}] [] ?_
 refine zS ?_
 refine zD 12 ((↑i:Int)<(↑g.deps.length:Int)) (fun h=>?_) (fun h=>?_)
 ·have hi2:i<g.deps.length:=by omega
  by_cases e:(g.deps.getD i default).pub=p
  ·have hf:=fnd_at hi2 hno e
   have k1:retE g.deps p=if (g.deps.getD i default).target=0 then 18 else 0:=by unfold retE;rw [if_pos (by omega),hf]
   by_cases ht:(g.deps.getD i default).target=0
   ·have k2:retE g.deps p=18:=by rw [k1,if_pos ht]
    have k3:retD g.deps p=default:=by unfold retD;rw [if_neg (by omega)]
    refine zK ?_
    refine then_n ?_
    refine zS ?_
    refine zB 1 ?_
    refine zP 2 [yH [(0,{k:=i}),(1,yV (AV.agg [aw ((g.deps.getD i default).pub),aw ((g.deps.getD i default).peer),AV.sl 1 (bytesA (g.deps.getD i default).box),AV.sl 1 (encA strC (g.deps.getD i default).holders),AV.sl 1 (wordsA (g.deps.getD i default).digests),ai ((g.deps.getD i default).need),aw ((g.deps.getD i default).target)]))],yH [(3,yV (ao ((g.deps.getD i default).pub == p)))]] [.keep [18,7,12,10,9,4,2,0,1,11] [7,4,2]] [yR (↑i:Int),yO (i*(7:Nat)<(encA depC g.deps).length),yB (List.take 7 (List.drop (i*(7:Nat)) (encA depC g.deps))= [aw ((g.deps.getD i default).pub),aw ((g.deps.getD i default).peer),AV.sl 1 (bytesA (g.deps.getD i default).box),AV.sl 1 (encA strC (g.deps.getD i default).holders),AV.sl 1 (wordsA (g.deps.getD i default).digests),ai ((g.deps.getD i default).need),aw ((g.deps.getD i default).target)]) (encA_sub (f:=depC) (e:=7) (k:=i) (j:=0) (fun _=>rfl) (by omega) (by decide) rfl),yB ([aw ((g.deps.getD i default).pub),aw ((g.deps.getD i default).peer),AV.sl 1 (bytesA (g.deps.getD i default).box),AV.sl 1 (encA strC (g.deps.getD i default).holders),AV.sl 1 (wordsA (g.deps.getD i default).digests),ai ((g.deps.getD i default).need),aw ((g.deps.getD i default).target)].length=(7:Nat)) (by simp [e]),yL 7 7,yI (avw_eq ((g.deps.getD i default).pub) p)] ?_
    refine zTb 18 ((g.deps.getD i default).pub == p) (decide_eq_true (by omega)) ?_
    refine zS ?_
    refine zP 1 [yH [(2,yV (ao ((g.deps.getD i default).target == 0)))]] [.keep [21,18,7,12,10,9,4,2,0,1,11] [7,4,2]] [yI (avw_eq ((g.deps.getD i default).target) 0)] ?_
    refine zTb 21 ((g.deps.getD i default).target == 0) (decide_eq_true (by omega)) ?_
    refine zP 1 [{}] [.keep [5,21,18,7,12,10,9,4,2,0,1,11] [4,7,2]] [yL 7 7] ?_
    refine zR ?_
    refine then_r ?_
    refine inb_r ?_
    refine then_r ?_
    refine round_r ?_
    refine inb_r ?_
    refine then_r ?_
    refine zV [yK 0 (wv (retD g.deps p).pub) (by rw [k3];rfl),yK 0 (wv (retD g.deps p).peer) (by rw [k3];rfl),yB (bytesA (retD g.deps p).box= []) (by rw [k3];rfl),yB (encA strC (retD g.deps p).holders= []) (by rw [k3];rfl),yB (wordsA (retD g.deps p).digests= []) (by rw [k3];rfl),yJ 0 ((retD g.deps p).need) (by rw [k3];rfl),yK 0 (wv (retD g.deps p).target) (by rw [k3];rfl),yJ 18 (retE g.deps p) (by rw [k2])]
   ·have k2:retE g.deps p=0:=by rw [k1,if_neg ht]
    have k3:retD g.deps p=g.deps.getD i default:=by unfold retD;rw [if_pos k2,hf]
    refine zK ?_
    refine then_n ?_
    refine zS ?_
    refine zB 1 ?_
    refine zP 2 [yH [(0,{k:=i}),(1,yV (AV.agg [aw ((g.deps.getD i default).pub),aw ((g.deps.getD i default).peer),AV.sl 1 (bytesA (g.deps.getD i default).box),AV.sl 1 (encA strC (g.deps.getD i default).holders),AV.sl 1 (wordsA (g.deps.getD i default).digests),ai ((g.deps.getD i default).need),aw ((g.deps.getD i default).target)]))],yH [(3,yV (ao ((g.deps.getD i default).pub == p)))]] [.keep [18,7,12,10,9,4,2,0,1,11] [7,4,2]] [yR (↑i:Int),yO (i*(7:Nat)<(encA depC g.deps).length),yB (List.take 7 (List.drop (i*(7:Nat)) (encA depC g.deps))= [aw ((g.deps.getD i default).pub),aw ((g.deps.getD i default).peer),AV.sl 1 (bytesA (g.deps.getD i default).box),AV.sl 1 (encA strC (g.deps.getD i default).holders),AV.sl 1 (wordsA (g.deps.getD i default).digests),ai ((g.deps.getD i default).need),aw ((g.deps.getD i default).target)]) (encA_sub (f:=depC) (e:=7) (k:=i) (j:=0) (fun _=>rfl) (by omega) (by decide) rfl),yB ([aw ((g.deps.getD i default).pub),aw ((g.deps.getD i default).peer),AV.sl 1 (bytesA (g.deps.getD i default).box),AV.sl 1 (encA strC (g.deps.getD i default).holders),AV.sl 1 (wordsA (g.deps.getD i default).digests),ai ((g.deps.getD i default).need),aw ((g.deps.getD i default).target)].length=(7:Nat)) (by simp [e]),yL 7 7,yI (avw_eq ((g.deps.getD i default).pub) p)] ?_
    refine zTb 18 ((g.deps.getD i default).pub == p) (decide_eq_true (by omega)) ?_
    refine zS ?_
    refine zP 1 [yH [(2,yV (ao ((g.deps.getD i default).target == 0)))]] [.keep [21,18,7,12,10,9,4,2,0,1,11] [7,4,2]] [yI (avw_eq ((g.deps.getD i default).target) 0)] ?_
    refine zFb 21 ((g.deps.getD i default).target == 0) (decide_eq_false (by omega)) ?_
    refine zK ?_
    refine then_n ?_
    refine zP 1 [{}] [.keep [5,21,18,7,12,10,9,4,2,0,1,11] [4,7,2]] [yL 7 7] ?_
    refine zR ?_
    refine inb_r ?_
    refine then_r ?_
    refine round_r ?_
    refine inb_r ?_
    refine then_r ?_
    refine zV [yK (wv (g.deps.getD i default).pub) (wv (retD g.deps p).pub) (by rw [k3]),yK (wv (g.deps.getD i default).peer) (wv (retD g.deps p).peer) (by rw [k3]),yB (bytesA (g.deps.getD i default).box=bytesA (retD g.deps p).box) (by rw [k3]),yB (encA strC (g.deps.getD i default).holders=encA strC (retD g.deps p).holders) (by rw [k3]),yB (wordsA (g.deps.getD i default).digests=wordsA (retD g.deps p).digests) (by rw [k3]),yJ ((g.deps.getD i default).need) ((retD g.deps p).need) (by rw [k3]),yK (wv (g.deps.getD i default).target) (wv (retD g.deps p).target) (by rw [k3]),yJ 0 (retE g.deps p) (by rw [k2])]
  ·skip
   refine zK ?_
   refine then_n ?_
   refine zS ?_
   refine zB 1 ?_
   refine zP 2 [yH [(0,{k:=i}),(1,yV (AV.agg [aw ((g.deps.getD i default).pub),aw ((g.deps.getD i default).peer),AV.sl 1 (bytesA (g.deps.getD i default).box),AV.sl 1 (encA strC (g.deps.getD i default).holders),AV.sl 1 (wordsA (g.deps.getD i default).digests),ai ((g.deps.getD i default).need),aw ((g.deps.getD i default).target)]))],yH [(3,yV (ao ((g.deps.getD i default).pub == p)))]] [.keep [18,7,12,10,9,4,2,0,1,11] [7,4,2]] [yR (↑i:Int),yO (i*(7:Nat)<(encA depC g.deps).length),yB (List.take 7 (List.drop (i*(7:Nat)) (encA depC g.deps))= [aw ((g.deps.getD i default).pub),aw ((g.deps.getD i default).peer),AV.sl 1 (bytesA (g.deps.getD i default).box),AV.sl 1 (encA strC (g.deps.getD i default).holders),AV.sl 1 (wordsA (g.deps.getD i default).digests),ai ((g.deps.getD i default).need),aw ((g.deps.getD i default).target)]) (encA_sub (f:=depC) (e:=7) (k:=i) (j:=0) (fun _=>rfl) (by omega) (by decide) rfl),yB ([aw ((g.deps.getD i default).pub),aw ((g.deps.getD i default).peer),AV.sl 1 (bytesA (g.deps.getD i default).box),AV.sl 1 (encA strC (g.deps.getD i default).holders),AV.sl 1 (wordsA (g.deps.getD i default).digests),ai ((g.deps.getD i default).need),aw ((g.deps.getD i default).target)].length=(7:Nat)) (by simp [e]),yL 7 7,yI (avw_eq ((g.deps.getD i default).pub) p)] ?_
   refine zFb 18 ((g.deps.getD i default).pub == p) (decide_eq_false (by omega)) ?_
   refine zK ?_
   refine inb_n ?_
   refine then_n ?_
   refine zX (yH [(0,yV (ai ((↑i:Int)+1)))]) [yN ((↑i:Int)+1)] ?_
   refine round_n (i+1) ⟨by omega,fun j hj=>by by_cases e2:j=i;(subst e2;exact e);exact hno j (by omega)⟩ (by omega) (zW [.keep [10,9,4,2,0,1,11] [4,2]])
 ·have hf:=fnd_no (l:=g.deps) (p:=p) (fun j hj=>hno j (by omega))
  have k2:retE g.deps p=11:=by unfold retE;rw [if_neg (by omega)]
  have k3:retD g.deps p=default:=by unfold retD;rw [if_neg (by omega)]
  refine zE 0 ?_
  refine then_e ?_
  refine round_e ?_
  refine inb_e ?_
  refine then_n ?_
  refine zP 1 [{}] [.keep [5,12,10,9,4,2,0,1,11] [4,2]] [yL 7 7] ?_
  refine zR ?_
  refine zV [yK 0 (wv (retD g.deps p).pub) (by rw [k3];rfl),yK 0 (wv (retD g.deps p).peer) (by rw [k3];rfl),yB (bytesA (retD g.deps p).box= []) (by rw [k3];rfl),yB (encA strC (retD g.deps p).holders= []) (by rw [k3];rfl),yB (wordsA (retD g.deps p).digests= []) (by rw [k3];rfl),yJ 0 ((retD g.deps p).need) (by rw [k3];rfl),yK 0 (wv (retD g.deps p).target) (by rw [k3];rfl),yJ 11 (retE g.deps p) (by rw [k2])]
end Go.Proofs.YtejpabdmiagnnaaGreatDoor
