import Derived.Test.YtejpabdmiagnnaaGreatDoorZrV8
import Derived.Test.YtejpabdmiagnnaaGreatDoorZrRec3
import Derived.Test.YtejpabdmiagnnaaGreatDoorZrShV2
set_option linter.all false
namespace Go.Proofs.YtejpabdmiagnnaaGreatDoor
open Go.RowKit
set_option maxRecDepth 100000
set_option maxHeartbeats 4000000
set_option linter.unusedVariables false
theorem holder_ret (l:List (List UInt8)) (x:List UInt8) (hl0:l.length≤1000000):Ret Tryz.prog 61 [.sl 1 (encA strC l),as_ x] (ai (idxS l x)):=by
 have hl:(encA strC l).length=l.length:=by rw [encA_len (e:=1) (fun _=>rfl)];omega
 refine zO Tryz.func61 19 ?_
 refine zQ 1 [{}] [] ?_
 refine zS ?_
 refine zQ 1 [{}] [] ?_
 refine zB 0 ?_
 refine zL (fun (i:Nat)=>(⟨[(0,AV.sl 1 (encA strC l)),(1,AV.val (Value.string (ByteArray.mk x.toArray))),(5,ai i)],[]⟩:AS)) (fun i=>(i≤l.length∧ ∀j,j<i->l.getD j default≠x)) (fun i=>(l.length-i)) (0) ?_ (zW [.keep [0,1,5] []]) ?_
 ·exact ⟨by omega,by omega⟩
 rintro i ⟨hi,hno⟩
 refine zS ?_
 refine zP 1 [yH [(2,{k:=(encA strC l).length})]] [.keep [9,0,1,5] []] [yR ((encA strC l).length)] ?_
 refine zD 9 ((↑i:Int)<(↑(encA strC l).length:Int)) (fun h=>?_) (fun h=>?_)
 ·have hi2:i<l.length:=by omega
  have hat:=strs_at hi2
  by_cases e:l.getD i default=x
  ·have:=idx_at l x hi2 hno e
   refine zK ?_
   refine then_n ?_
   refine zS ?_
   refine zB 1 ?_
   refine zP 1 [yH [(2,{k:=i}),(3,yV (AV.val (Value.string (ByteArray.mk (l.getD i default).toArray)))),(5,yV (ao (l.getD i default == x)))]] [.keep [17,9,0,1,5] []] [yR (↑i:Int),yO (i<(encA strC l).length),yB ((encA strC l)[i]?=some (AV.val (Value.string (ByteArray.mk (l.getD i default).toArray)))) (by assumption),yB (ao ((ByteArray.mk (l.getD i default).toArray).toList == (ByteArray.mk x.toArray).toList)=ao (l.getD i default == x)) (str_eq (l.getD i default) (x))] ?_
   refine zTb 17 (l.getD i default == x) (by simp_all) ?_
   refine zQ 1 [{}] [] ?_
   refine zR ?_
   refine inb_r ?_
   refine then_r ?_
   refine round_r ?_
   refine inb_r ?_
   refine then_r ?_
   refine zV [yJ (↑i:Int) (idxS l x) (by rw [this])]
  ·skip
   refine zK ?_
   refine then_n ?_
   refine zS ?_
   refine zB 1 ?_
   refine zP 1 [yH [(2,{k:=i}),(3,yV (AV.val (Value.string (ByteArray.mk (l.getD i default).toArray)))),(5,yV (ao (l.getD i default == x)))]] [.keep [17,9,0,1,5] []] [yR (↑i:Int),yO (i<(encA strC l).length),yB ((encA strC l)[i]?=some (AV.val (Value.string (ByteArray.mk (l.getD i default).toArray)))) (by assumption),yB (ao ((ByteArray.mk (l.getD i default).toArray).toList == (ByteArray.mk x.toArray).toList)=ao (l.getD i default == x)) (str_eq (l.getD i default) (x))] ?_
   refine zFb 17 (l.getD i default == x) (by simp_all) ?_
   refine zK ?_
   refine inb_n ?_
   refine then_n ?_
   refine zX (yH [(1,yV (ai ((↑i:Int)+1)))]) [yN ((↑i:Int)+1)] ?_
   refine round_n (i+1) ⟨by omega,fun j hj=>by by_cases e2:j=i;(subst e2;exact e);exact hno j (by omega)⟩ (by omega) (zW [.keep [0,1,5] []])
 ·have:=idx_no l x i hi hno (by omega)
  refine zE 0 ?_
  refine then_e ?_
  refine round_e ?_
  refine inb_e ?_
  refine then_n ?_
  refine zQ 1 [{}] [] ?_
  refine zR ?_
  refine zV [yJ (-1:Int) (idxS l x) (by rw [this])]
theorem refcheck_ret (d:Dep) (h s:List UInt8) (hH:d.holders.length≤1000000) (hh:h.length≤1000) (hs:s.length≤1000):Ret Tryz.prog 60 [.agg (depC d),as_ h,.sl 1 (bytesA s)] (ai (chkD d h s)):=by
 have hz:=str_le h hh
 have hl:(encA strC d.holders).length=d.holders.length:=by rw [encA_len (e:=1) (fun _=>rfl)];omega
 rcases idx_cases d.holders h with e|⟨i,e,hi,_⟩
 ·have e1:chkD d h s=11:=by unfold chkD;rw [if_pos (by omega)]
  refine zO Tryz.func60 33 ?_
  refine zP 2 [{},yH [(3,yV (ai (idxS d.holders h)))]] [.keep [7,6,3,0,1,2] [3]] [yI (holder_ret d.holders h (by assumption))] ?_
  refine zS ?_
  refine zB 0 ?_
  refine zP 1 [{}] [.keep [12,7,6,3,0,1,2] [3]] [] ?_
  refine zTd 12 (idxS d.holders h<0) ?_
  refine zQ 1 [{}] [] ?_
  refine zR ?_
  refine inb_r ?_
  refine then_r ?_
  refine zV [yJ 11 (chkD d h s) (by rw [e1])]
 ·by_cases h2:d.digests.length=d.holders.length
  case neg =>
   have e1:chkD d h s=4:=by unfold chkD;rw [if_neg (by omega),if_pos h2]
   refine zO Tryz.func60 33 ?_
   refine zP 2 [{},yH [(3,yV (ai (idxS d.holders h)))]] [.keep [7,6,3,0,1,2] [3]] [yI (holder_ret d.holders h (by assumption))] ?_
   refine zS ?_
   refine zB 0 ?_
   refine zP 1 [yH [(1,yV (ao false))]] [.keep [12,7,6,3,0,1,2] [3]] [yB (ao (decide (idxS d.holders h<0))=ao false) (by simp;omega)] ?_
   refine zF 12 ?_
   refine zP 1 [yH [(2,{k:=d.digests.length}),(5,{k:=(encA strC d.holders).length}),(6,yV (ao true))]] [.keep [15,12,7,6,3,0,1,2] [3]] [yB ((wordsA d.digests).length=d.digests.length) (wordsA_len _),yR ((encA strC d.holders).length),yB (ao ((↑d.digests.length:Int) != (↑(encA strC d.holders).length:Int))=ao true) (by simp;omega)] ?_
   refine zT 15 ?_
   refine zQ 1 [{}] [] ?_
   refine zR ?_
   refine inb_r ?_
   refine then_r ?_
   refine zV [yJ 4 (chkD d h s) (by rw [e1])]
  by_cases h3:digD h s=d.digests.getD i 0
  ·have e1:chkD d h s=0:=by unfold chkD;rw [if_neg (by omega),if_neg (by omega),e];simpa using h3
   refine zO Tryz.func60 33 ?_
   refine zP 2 [{},yH [(3,yV (ai (idxS d.holders h)))]] [.keep [7,6,3,0,1,2] [3]] [yI (holder_ret d.holders h (by assumption))] ?_
   refine zS ?_
   refine zB 0 ?_
   refine zP 1 [yH [(1,yV (ao false))]] [.keep [12,7,6,3,0,1,2] [3]] [yB (ao (decide (idxS d.holders h<0))=ao false) (by simp;omega)] ?_
   refine zF 12 ?_
   refine zP 1 [yH [(2,{k:=d.digests.length}),(5,{k:=(encA strC d.holders).length}),(6,yV (ao false))]] [.keep [15,12,7,6,3,0,1,2] [3]] [yB ((wordsA d.digests).length=d.digests.length) (wordsA_len _),yR ((encA strC d.holders).length),yB (ao ((↑d.digests.length:Int) != (↑(encA strC d.holders).length:Int))=ao false) (by simp;omega)] ?_
   refine zF 15 ?_
   refine zP 1 [{hs:=[(2,yV (aw (digD h s))),(6,{k:=(idxS d.holders h).toNat}),(7,yV (aw (d.digests.getD (idxS d.holders h).toNat 0))),(8,yV (ao (digD h s != d.digests.getD (idxS d.holders h).toNat 0)))],T:=8}] [.keep [23,15,12,7,6,3,0,1,2] [3]] [yI (refdigest_ret h s (by assumption) (by assumption)),yB (idxS d.holders h=(↑(idxS d.holders h).toNat:Int)) (by simp;omega),yB ((idxS d.holders h).toNat<(wordsA d.digests).length) (by simp only [wordsA_len];omega),yB ((wordsA d.digests)[(idxS d.holders h).toNat]?=some (aw (d.digests.getD (idxS d.holders h).toNat 0))) (wordsA_at (by omega)),yI (avw_ne (digD h s) (d.digests.getD (idxS d.holders h).toNat 0))] ?_
   refine zFb 23 (digD h s != d.digests.getD (idxS d.holders h).toNat 0) (by simp_all) ?_
   refine zK ?_
   refine inb_n ?_
   refine then_n ?_
   refine zQ 1 [{}] [] ?_
   refine zR ?_
   refine zV [yJ 0 (chkD d h s) (by rw [e1])]
  ·have e1:chkD d h s=14:=by unfold chkD;rw [if_neg (by omega),if_neg (by omega),e];simpa using h3
   refine zO Tryz.func60 33 ?_
   refine zP 2 [{},yH [(3,yV (ai (idxS d.holders h)))]] [.keep [7,6,3,0,1,2] [3]] [yI (holder_ret d.holders h (by assumption))] ?_
   refine zS ?_
   refine zB 0 ?_
   refine zP 1 [yH [(1,yV (ao false))]] [.keep [12,7,6,3,0,1,2] [3]] [yB (ao (decide (idxS d.holders h<0))=ao false) (by simp;omega)] ?_
   refine zF 12 ?_
   refine zP 1 [yH [(2,{k:=d.digests.length}),(5,{k:=(encA strC d.holders).length}),(6,yV (ao false))]] [.keep [15,12,7,6,3,0,1,2] [3]] [yB ((wordsA d.digests).length=d.digests.length) (wordsA_len _),yR ((encA strC d.holders).length),yB (ao ((↑d.digests.length:Int) != (↑(encA strC d.holders).length:Int))=ao false) (by simp;omega)] ?_
   refine zF 15 ?_
   refine AWP.regsP 1 [{hs:=[(2,{av:=some (aw (digD h s))}),(6,{k:=(idxS d.holders h).toNat}),(7,{av:=some (aw (d.digests.getD (idxS d.holders h).toNat 0))}),(8,{av:=some (ao (digD h s != d.digests.getD (idxS d.holders h).toNat 0))})],T:=8}] [.keep [23,15,12,7,6,3,0,1,2] [3]] (by kernel_rfl) (s':=AS.mk [(23,ao (digD h s != d.digests.getD (idxS d.holders h).toNat 0)),(15,ao false),(12,ao false),(7,ai (idxS d.holders h)),(6,ai 0),(3,AV.addr 3 0),(0,AV.agg [aw d.pub,aw d.peer,AV.sl 1 (bytesA d.box),AV.sl 1 (encA strC d.holders),AV.sl 1 (wordsA d.digests),ai d.need,aw d.target]),(1,AV.val (Value.string (ByteArray.mk h.toArray))),(2,AV.sl 1 (bytesA s))] [(3,Row.mk 1 false true (List.map (kill0 (3:Nat)) (depC d)))]) (C:=[Ret Tryz.prog (105:Nat) [AV.val (Value.string (ByteArray.mk h.toArray)),AV.sl 1 (bytesA s)] (aw (digD h s)),idxS d.holders h=(↑(idxS d.holders h).toNat:Int),(idxS d.holders h).toNat<(wordsA d.digests).length,(wordsA d.digests)[(idxS d.holders h).toNat]?=some (aw (d.digests.getD (idxS d.holders h).toNat 0)),ao (wv (digD h s) != wv (d.digests.getD (idxS d.holders h).toNat 0))=ao (digD h s != d.digests.getD (idxS d.holders h).toNat 0)]) (by kernel_rfl) ⟨(refdigest_ret (h) (s) (by assumption) (by assumption)),(by simp;omega),(by simp only [wordsA_len];omega),(wordsA_at (by omega)),(avw_ne (digD h s) (d.digests.getD (idxS d.holders h).toNat 0)),trivial⟩ ?_
   refine zTb 23 (digD h s != d.digests.getD (idxS d.holders h).toNat 0) (by simp_all) ?_
   refine zQ 1 [{}] [] ?_
   refine zR ?_
   refine inb_r ?_
   refine then_r ?_
   refine zV [yJ 14 (chkD d h s) (by rw [e1])]
def depI (l:List Dep) (p:UInt64):Int:=if fnd l p<l.length then (fnd l p:Int) else -1
theorem depat_ret (l:List Dep) (p:UInt64) (hg:l.length≤1000000):Ret Tryz.prog 119 [.sl 7 (encA depC l),aw p] (ai (depI l p)):=by
 have hl:(encA depC l).length=l.length*7:=encA_len (e:=7) (fun _=>rfl) ..
 refine zO Tryz.func119 20 ?_
 refine zQ 1 [{}] [] ?_
 refine zS ?_
 refine zQ 1 [{}] [] ?_
 refine zB 0 ?_
 refine zL (fun (i:Nat)=>(⟨[(0,AV.sl 7 (encA depC l)),(1,aw p),(5,ai i)],[]⟩:AS)) (fun i=>(i≤l.length∧ ∀j,j<i->(l.getD j default).pub≠p)) (fun i=>(l.length-i)) (0) ?_ (zW [.keep [0,1,5] []]) ?_
 ·exact ⟨by omega,by omega⟩
 rintro i ⟨hi,hno⟩
 refine zS ?_
 refine zP 1 [yH [(2,{k:=l.length})]] [.keep [9,0,1,5] []] [yB ((encA depC l).length=l.length*(7:Nat)) (by assumption)] ?_
 refine zD 9 ((↑i:Int)<(↑l.length:Int)) (fun h=>?_) (fun h=>?_)
 ·have hi2:i<l.length:=by omega
  by_cases e:(l.getD i default).pub=p
  ·have hf:=fnd_at hi2 hno e
   have k1:depI l p=i:=by unfold depI;rw [if_pos (by omega),hf]
   refine zK ?_
   refine then_n ?_
   refine zS ?_
   refine zB 1 ?_
   refine zP 1 [yH [(2,{k:=i}),(4,yV (aw ((l.getD i default).pub))),(6,yV (ao ((l.getD i default).pub == p)))]] [.keep [18,9,0,1,5] []] [yR (↑i:Int),yO (i*(7:Nat)<(encA depC l).length),yB ((encA depC l)[i*(7:Nat)]?=some (aw ((l.getD i default).pub))) (encA_at (f:=depC) (e:=7) (k:=i) (j:=0) (fun _=>rfl) (by omega) rfl),yI (avw_eq ((l.getD i default).pub) p)] ?_
   refine zTb 18 ((l.getD i default).pub == p) (decide_eq_true (by omega)) ?_
   refine zQ 1 [{}] [] ?_
   refine zR ?_
   refine inb_r ?_
   refine then_r ?_
   refine round_r ?_
   refine inb_r ?_
   refine then_r ?_
   refine zV [yJ (↑i:Int) (depI l p) (by rw [k1])]
  ·skip
   refine zK ?_
   refine then_n ?_
   refine zS ?_
   refine zB 1 ?_
   refine zP 1 [yH [(2,{k:=i}),(4,yV (aw ((l.getD i default).pub))),(6,yV (ao ((l.getD i default).pub == p)))]] [.keep [18,9,0,1,5] []] [yR (↑i:Int),yO (i*(7:Nat)<(encA depC l).length),yB ((encA depC l)[i*(7:Nat)]?=some (aw ((l.getD i default).pub))) (encA_at (f:=depC) (e:=7) (k:=i) (j:=0) (fun _=>rfl) (by omega) rfl),yI (avw_eq ((l.getD i default).pub) p)] ?_
   refine zFb 18 ((l.getD i default).pub == p) (decide_eq_false (by omega)) ?_
   refine zK ?_
   refine inb_n ?_
   refine then_n ?_
   refine zX (yH [(1,yV (ai ((↑i:Int)+1)))]) [yN ((↑i:Int)+1)] ?_
   refine round_n (i+1) ⟨by omega,fun j hj=>by by_cases e2:j=i;(subst e2;exact e);exact hno j (by omega)⟩ (by omega) (zW [.keep [0,1,5] []])
 ·have hf:=fnd_no (l:=l) (p:=p) (fun j hj=>hno j (by omega))
  have k1:depI l p= -1:=by unfold depI;rw [if_neg (by omega)]
  refine zE 0 ?_
  refine then_e ?_
  refine round_e ?_
  refine inb_e ?_
  refine then_n ?_
  refine zQ 1 [{}] [] ?_
  refine zR ?_
  refine zV [yJ (-1:Int) (depI l p) (by rw [k1])]
theorem refreturned_ret (g:Grp) (p:UInt64) (hg:g.deps.length≤1000000):Ret Tryz.prog 59 [.agg (grpC g),aw p] (.tup [.agg (depC (retD g.deps p)),ai (retE g.deps p)]):=by
 have hl:(encA depC g.deps).length=g.deps.length*7:=encA_len (e:=7) (fun _=>rfl) ..
 by_cases h1:fnd g.deps p<g.deps.length
 case neg =>
  have k1:depI g.deps p= -1:=by unfold depI;rw [if_neg h1]
  have k2:retE g.deps p=11:=by unfold retE;rw [if_neg h1]
  have k3:retD g.deps p=default:=by unfold retD;rw [if_neg (by omega)]
  refine zO Tryz.func59 27 ?_
  refine zP 2 [{},yH [(3,yV (ai (depI g.deps p)))]] [.keep [6,5,4,2,0,1] [4,2]] [yI (depat_ret g.deps p (by assumption))] ?_
  refine zS ?_
  refine zQ 1 [{}] [] ?_
  refine zTd 12 (depI g.deps p<0) ?_
  refine zP 1 [{}] [.keep [5,12,6,4,2,0,1] [4,2]] [yL 7 7] ?_
  refine zR ?_
  refine then_r ?_
  refine zV [yK 0 (wv (retD g.deps p).pub) (by rw [k3];rfl),yK 0 (wv (retD g.deps p).peer) (by rw [k3];rfl),yB (bytesA (retD g.deps p).box= []) (by rw [k3];rfl),yB (encA strC (retD g.deps p).holders= []) (by rw [k3];rfl),yB (wordsA (retD g.deps p).digests= []) (by rw [k3];rfl),yJ 0 ((retD g.deps p).need) (by rw [k3];rfl),yK 0 (wv (retD g.deps p).target) (by rw [k3];rfl),yJ 11 (retE g.deps p) (by rw [k2])]
 obtain ⟨i,hi⟩:∃i,fnd g.deps p=i:=⟨_,rfl⟩
 have k1:depI g.deps p=i:=by unfold depI;rw [if_pos h1,hi]
 have k0:retE g.deps p=if (g.deps.getD i default).target=0 then 18 else 0:=by unfold retE;rw [if_pos h1,hi]
 rw [hi] at h1
 by_cases ht:(g.deps.getD i default).target=0
 ·have k2:retE g.deps p=18:=by rw [k0,if_pos ht]
  have k3:retD g.deps p=default:=by unfold retD;rw [if_neg (by omega)]
  refine zO Tryz.func59 27 ?_
  refine zP 2 [{},yH [(3,yV (ai (depI g.deps p))),(4,yV (ai (↑i:Int)))]] [.keep [6,5,4,2,0,1] [4,2]] [yI (depat_ret g.deps p (by assumption)),yB (ai (depI g.deps p)=ai (↑i:Int)) (congrArg (fun n=>AV.val (.int .i64 n)) k1)] ?_
  refine zS ?_
  refine zQ 1 [yH [(1,yV (ao false))]] [yB (ao (decide ((↑i:Int)<0))=ao false) (by simp [ht])] ?_
  refine zF 12 ?_
  refine zK ?_
  refine then_n ?_
  refine zS ?_
  refine zP 1 [yH [(3,{k:=i}),(5,yV (aw ((g.deps.getD i default).target))),(6,yV (ao ((g.deps.getD i default).target == 0)))]] [.keep [20,12,6,5,4,2,0,1] [4,2]] [yR (↑i:Int),yO (i*(7:Nat)<(encA depC g.deps).length),yB ((encA depC g.deps)[i*(7:Nat)+(6:Nat)]?=some (aw ((g.deps.getD i default).target))) (encA_at (f:=depC) (e:=7) (k:=i) (j:=6) (fun _=>rfl) (by omega) rfl),yI (avw_eq ((g.deps.getD i default).target) 0)] ?_
  refine zTb 20 ((g.deps.getD i default).target == 0) (decide_eq_true (by omega)) ?_
  refine zP 1 [{}] [.keep [5,20,12,6,4,2,0,1] [4,2]] [yL 7 7] ?_
  refine zR ?_
  refine then_r ?_
  refine zV [yK 0 (wv (retD g.deps p).pub) (by rw [k3];rfl),yK 0 (wv (retD g.deps p).peer) (by rw [k3];rfl),yB (bytesA (retD g.deps p).box= []) (by rw [k3];rfl),yB (encA strC (retD g.deps p).holders= []) (by rw [k3];rfl),yB (wordsA (retD g.deps p).digests= []) (by rw [k3];rfl),yJ 0 ((retD g.deps p).need) (by rw [k3];rfl),yK 0 (wv (retD g.deps p).target) (by rw [k3];rfl),yJ 18 (retE g.deps p) (by rw [k2])]
 ·have k2:retE g.deps p=0:=by rw [k0,if_neg ht]
  have k3:retD g.deps p=g.deps.getD i default:=by unfold retD;rw [if_pos k2,hi]
  refine zO Tryz.func59 27 ?_
  refine zP 2 [{},yH [(3,yV (ai (depI g.deps p))),(4,yV (ai (↑i:Int)))]] [.keep [6,5,4,2,0,1] [4,2]] [yI (depat_ret g.deps p (by assumption)),yB (ai (depI g.deps p)=ai (↑i:Int)) (congrArg (fun n=>AV.val (.int .i64 n)) k1)] ?_
  refine zS ?_
  refine zQ 1 [yH [(1,yV (ao false))]] [yB (ao (decide ((↑i:Int)<0))=ao false) (by simp [ht])] ?_
  refine zF 12 ?_
  refine zK ?_
  refine then_n ?_
  refine zS ?_
  refine zP 1 [yH [(3,{k:=i}),(5,yV (aw ((g.deps.getD i default).target))),(6,yV (ao ((g.deps.getD i default).target == 0)))]] [.keep [20,12,6,5,4,2,0,1] [4,2]] [yR (↑i:Int),yO (i*(7:Nat)<(encA depC g.deps).length),yB ((encA depC g.deps)[i*(7:Nat)+(6:Nat)]?=some (aw ((g.deps.getD i default).target))) (encA_at (f:=depC) (e:=7) (k:=i) (j:=6) (fun _=>rfl) (by omega) rfl),yI (avw_eq ((g.deps.getD i default).target) 0)] ?_
  refine zFb 20 ((g.deps.getD i default).target == 0) (decide_eq_false (by omega)) ?_
  refine zK ?_
  refine then_n ?_
  refine zP 1 [yH [(3,{k:=i}),(4,yV (AV.agg [aw ((g.deps.getD i default).pub),aw ((g.deps.getD i default).peer),AV.sl 1 (bytesA (g.deps.getD i default).box),AV.sl 1 (encA strC (g.deps.getD i default).holders),AV.sl 1 (wordsA (g.deps.getD i default).digests),ai ((g.deps.getD i default).need),aw ((g.deps.getD i default).target)]))]] [.keep [5,20,12,6,4,2,0,1] [4,2]] [yR (↑i:Int),yO (i*(7:Nat)<(encA depC g.deps).length),yB (List.take 7 (List.drop (i*(7:Nat)) (encA depC g.deps))= [aw ((g.deps.getD i default).pub),aw ((g.deps.getD i default).peer),AV.sl 1 (bytesA (g.deps.getD i default).box),AV.sl 1 (encA strC (g.deps.getD i default).holders),AV.sl 1 (wordsA (g.deps.getD i default).digests),ai ((g.deps.getD i default).need),aw ((g.deps.getD i default).target)]) (encA_sub (f:=depC) (e:=7) (k:=i) (j:=0) (fun _=>rfl) (by omega) (by decide) rfl),yB ([aw ((g.deps.getD i default).pub),aw ((g.deps.getD i default).peer),AV.sl 1 (bytesA (g.deps.getD i default).box),AV.sl 1 (encA strC (g.deps.getD i default).holders),AV.sl 1 (wordsA (g.deps.getD i default).digests),ai ((g.deps.getD i default).need),aw ((g.deps.getD i default).target)].length=(7:Nat)) (by simp [ht]),yL 7 7] ?_
  refine zR ?_
  refine zV [yK (wv (g.deps.getD i default).pub) (wv (retD g.deps p).pub) (by rw [k3]),yK (wv (g.deps.getD i default).peer) (wv (retD g.deps p).peer) (by rw [k3]),yB (bytesA (g.deps.getD i default).box=bytesA (retD g.deps p).box) (by rw [k3]),yB (encA strC (g.deps.getD i default).holders=encA strC (retD g.deps p).holders) (by rw [k3]),yB (wordsA (g.deps.getD i default).digests=wordsA (retD g.deps p).digests) (by rw [k3]),yJ ((g.deps.getD i default).need) ((retD g.deps p).need) (by rw [k3]),yK (wv (g.deps.getD i default).target) (wv (retD g.deps p).target) (by rw [k3]),yJ 0 (retE g.deps p) (by rw [k2])]
end Go.Proofs.YtejpabdmiagnnaaGreatDoor
