import Derived.Test.YtejpabdmiagnnaaDoorZaV8
import Derived.Test.YtejpabdmiagnnaaDoorZaSh4
set_option linter.all false
namespace Go.Proofs.YtejpabdmiagnnaaDoor
open Go.RowKit
set_option maxRecDepth 100000
set_option maxHeartbeats 4000000
set_option linter.unusedVariables false
theorem chk_zero (first : Nat) : ∀ (l : List Sh) (seen : List Bool), chk first seen l = 0 -> ∀ p ∈ l, 1 ≤ p.1 ∧ p.1 ≤ 255 ∧ p.2.length = first ∧ p.2.length ≤ 64
 | [], _, _ => by simp
 | q :: l, seen, h => by
  rw [chk] at h
  split at h
  ·cases h
  split at h
  ·cases h
  split at h
  ·cases h
  split at h
  ·cases h
  intro p hp
  rcases List.mem_cons.1 hp with rfl | hp
  ·omega
  ·exact chk_zero first l _ h p hp
theorem getD_mem {l : List Sh} {i : Nat} (h : i < l.length) : l.getD i default ∈ l := by
 rw [List.getD_eq_getElem?_getD, List.getElem?_eq_getElem h]; exact List.getElem_mem h
def ovr (l : List Sh) (x : UInt8) (i : Nat) : Nat -> UInt8
 | 0 => 1
 | m + 1 => if m ≠ i then gmul (ovr l x i m) (x ^^^ u8 (l.getD m default).1) else ovr l x i m
def wgt (l : List Sh) (x : UInt8) (i : Nat) : UInt8 := gmul (ovr l x i l.length) (ginv (ovr l (u8 (l.getD i default).1) i l.length))
def ares (l : List Sh) (x : UInt8) : Nat -> List UInt8
 | 0 => List.replicate (l.getD 0 default).2.length 0
 | i + 1 => (List.range (l.getD 0 default).2.length).map fun j => (ares l x i).getD j 0 ^^^ gmul (wgt l x i) ((l.getD i default).2.getD j 0)
theorem ares_len (l : List Sh) (x : UInt8) (i : Nat) : (ares l x i).length = (l.getD 0 default).2.length := by
 cases i <;> simp [ares]
theorem mix_get {A B : List UInt8} {j : Nat} (ha : j < A.length) : (A.take j ++ B.drop j).getD j 0 = B.getD j 0 := by
 rw [List.getD_eq_getElem?_getD, List.getElem?_append_right (by rw [List.length_take]; omega), List.length_take, Nat.min_eq_left (by omega), Nat.sub_self, List.getElem?_drop, Nat.add_zero, List.getD_eq_getElem?_getD]
theorem mix_set {A B : List UInt8} {j : Nat} (c : UInt8) (ha : j < A.length) (hb : j < B.length) (hc : c = A.getD j 0) : (A.take j ++ B.drop j).set j c = A.take (j + 1) ++ B.drop (j + 1) := by
 rw [List.set_append_right _ _ (by rw [List.length_take]; omega), List.length_take, Nat.min_eq_left (by omega), Nat.sub_self, List.drop_eq_getElem_cons hb, List.set_cons_zero, List.take_add_one, hc, List.getD_eq_getElem?_getD, List.getElem?_eq_getElem ha, Option.getD_some, List.append_assoc]
 rfl
theorem range_getD {α : Type} (g : Nat -> α) (d : α) {j n : Nat} (h : j < n) : ((List.range n).map g).getD j d = g j := by
 rw [List.getD_eq_getElem?_getD, List.getElem?_map, List.getElem?_range h]; rfl
theorem ares_next (l : List Sh) (x : UInt8) (i j : Nat) (hj : j < (l.getD 0 default).2.length) : (ares l x (i + 1)).getD j 0 = (ares l x i).getD j 0 ^^^ gmul (wgt l x i) ((l.getD i default).2.getD j 0) := by
 rw [ares, range_getD _ _ hj]
def atE (l : List Sh) (x : Int) : Int := if l.length = 0 then 1 else if x < 0 ∨ 255 < x then 9 else chkE l
def atD (l : List Sh) (x : Int) : List UInt8 := if atE l x = 0 then ares l (u8 x) l.length else []
set_option maxRecDepth 100000 in
theorem at_ret (l : List Sh) (x : Int) : Ret Tryd.prog 53 [.sl 2 (encA shareC l), ai x] (.tup [.own 1 (bytesA (atD l x)), ai (atE l x)]) := by
 refine Ret.len 0 rfl fun hlen => ?_
 rw [encA_len (e := 2) (fun _ => rfl)] at hlen
 refine Ret.of_fn Tryd.func53 (by kernel_rfl) 96 (by kernel_rfl) (by kernel_rfl) ?_
 by_cases h0 : l.length = 0
 ·have e1 : atE l x = 1 := by simp [atE, h0]
  refine AWP.regsKX 1 [{}] (by kernel_rfl) (C := []) (by kernel_rfl) trivial ?_
  refine AWP.seq (by kernel_rfl) ?_
  refine AWP.regsPX 1 [{ hs := [(1, { k := l.length })] }] [.keep [19, 5, 4, 0, 1] []] (by kernel_rfl) (C := [(encA shareC l).length = l.length * (2 : Nat)]) (by kernel_rfl) ⟨(by simp only [encA_len (f := shareC) (e := 2) (fun _ => rfl)]), trivial⟩ ?_
  refine AWP.condT (x := .tmp 19) (b := (↑l.length : Int) == (0 : Int)) (by kernel_rfl) (by kernel_rfl) (decide_eq_true (by omega)) ?_
  refine AWP.regsKX 1 [{}] (by kernel_rfl) (C := []) (by kernel_rfl) trivial ?_
  refine AWP.ret (by kernel_rfl) ?_
  refine then_r ?_
  refine Done.ret_ (C := [bytesA (atD l x) = [], Value.int .i64 1 = Value.int .i64 (atE l x)]) (by kernel_rfl) ⟨(by rw [atD, e1]; rfl), (by rw [e1]), trivial⟩
 by_cases h1 : x < 0
 ·have e1 : atE l x = 9 := by simp [atE, h0, h1]
  refine AWP.regsKX 1 [{}] (by kernel_rfl) (C := []) (by kernel_rfl) trivial ?_
  refine AWP.seq (by kernel_rfl) ?_
  refine AWP.regsPX 1 [{ hs := [(1, { k := l.length })] }] [.keep [19, 5, 4, 0, 1] []] (by kernel_rfl) (C := [(encA shareC l).length = l.length * (2 : Nat)]) (by kernel_rfl) ⟨(by simp only [encA_len (f := shareC) (e := 2) (fun _ => rfl)]), trivial⟩ ?_
  refine AWP.condF (x := .tmp 19) (b := (↑l.length : Int) == (0 : Int)) (by kernel_rfl) (by kernel_rfl) (decide_eq_false (by omega)) ?_
  refine AWP.skip (by kernel_rfl) ?_
  refine then_n ?_
  refine AWP.seq (by kernel_rfl) ?_
  refine AWP.regsPX 1 [{}] [.keep [25, 19, 5, 4, 0, 1] []] (by kernel_rfl) (C := [decide (x < 0) = true, decide (x < 0) = true, decide (x < 0) = true]) (by kernel_rfl) ⟨(decide_eq_true (by omega)), (decide_eq_true (by omega)), (decide_eq_true (by omega)), trivial⟩ ?_
  refine AWP.condT (x := .tmp 25) (b := true) (by kernel_rfl) (by kernel_rfl) rfl ?_
  refine AWP.regsKX 1 [{}] (by kernel_rfl) (C := []) (by kernel_rfl) trivial ?_
  refine AWP.ret (by kernel_rfl) ?_
  refine then_r ?_
  refine Done.ret_ (C := [bytesA (atD l x) = [], Value.int .i64 9 = Value.int .i64 (atE l x)]) (by kernel_rfl) ⟨(by rw [atD, e1]; rfl), (by rw [e1]), trivial⟩
 by_cases h2 : 255 < x
 ·have e1 : atE l x = 9 := by simp [atE, h0, h2]
  refine AWP.regsKX 1 [{}] (by kernel_rfl) (C := []) (by kernel_rfl) trivial ?_
  refine AWP.seq (by kernel_rfl) ?_
  refine AWP.regsPX 1 [{ hs := [(1, { k := l.length })] }] [.keep [19, 5, 4, 0, 1] []] (by kernel_rfl) (C := [(encA shareC l).length = l.length * (2 : Nat)]) (by kernel_rfl) ⟨(by simp only [encA_len (f := shareC) (e := 2) (fun _ => rfl)]), trivial⟩ ?_
  refine AWP.condF (x := .tmp 19) (b := (↑l.length : Int) == (0 : Int)) (by kernel_rfl) (by kernel_rfl) (decide_eq_false (by omega)) ?_
  refine AWP.skip (by kernel_rfl) ?_
  refine then_n ?_
  refine AWP.seq (by kernel_rfl) ?_
  refine AWP.regsPX 1 [{ hs := [(3, { g := false }), (4, { g := false }), (5, { b := false })] }] [.keep [25, 19, 5, 4, 0, 1] []] (by kernel_rfl) (C := [decide (x < 0) = false, decide (x < 0) = false, decide (x < 0) = false]) (by kernel_rfl) ⟨(decide_eq_false (by omega)), (decide_eq_false (by omega)), (decide_eq_false (by omega)), trivial⟩ ?_
  refine AWP.condT (x := .tmp 25) (b := decide (x > 255)) (by kernel_rfl) (by kernel_rfl) (decide_eq_true (by omega)) ?_
  refine AWP.regsKX 1 [{}] (by kernel_rfl) (C := []) (by kernel_rfl) trivial ?_
  refine AWP.ret (by kernel_rfl) ?_
  refine then_r ?_
  refine Done.ret_ (C := [bytesA (atD l x) = [], Value.int .i64 9 = Value.int .i64 (atE l x)]) (by kernel_rfl) ⟨(by rw [atD, e1]; rfl), (by rw [e1]), trivial⟩
 have e1 : atE l x = chkE l := by simp [atE, h0, h1, h2]
 refine AWP.regsKX 1 [{}] (by kernel_rfl) (C := []) (by kernel_rfl) trivial ?_
 refine AWP.seq (by kernel_rfl) ?_
 refine AWP.regsPX 1 [{ hs := [(1, { k := l.length })] }] [.keep [19, 5, 4, 0, 1] []] (by kernel_rfl) (C := [(encA shareC l).length = l.length * (2 : Nat)]) (by kernel_rfl) ⟨(by simp only [encA_len (f := shareC) (e := 2) (fun _ => rfl)]), trivial⟩ ?_
 refine AWP.condF (x := .tmp 19) (b := (↑l.length : Int) == (0 : Int)) (by kernel_rfl) (by kernel_rfl) (decide_eq_false (by omega)) ?_
 refine AWP.skip (by kernel_rfl) ?_
 refine then_n ?_
 refine AWP.seq (by kernel_rfl) ?_
 refine AWP.regsPX 1 [{ hs := [(3, { g := false }), (4, { g := false }), (5, { b := false })] }] [.keep [25, 19, 5, 4, 0, 1] []] (by kernel_rfl) (C := [decide (x < 0) = false, decide (x < 0) = false, decide (x < 0) = false]) (by kernel_rfl) ⟨(decide_eq_false (by omega)), (decide_eq_false (by omega)), (decide_eq_false (by omega)), trivial⟩ ?_
 refine AWP.condF (x := .tmp 25) (b := decide (x > 255)) (by kernel_rfl) (by kernel_rfl) (decide_eq_false (by omega)) ?_
 refine AWP.skip (by kernel_rfl) ?_
 refine then_n ?_
 refine AWP.seq (by kernel_rfl) ?_
 refine AWP.regsPX 2 [{ hs := [(1, { av := some (ai (chkE l)) })] }, {}] [.keep [29, 6, 25, 19, 5, 4, 0, 1] []] (by kernel_rfl) (C := [Ret Tryd.prog (71 : Nat) [AV.sl 2 (encA shareC l)] (ai (chkE l))]) (by kernel_rfl) ⟨(check_ret (l)), trivial⟩ ?_
 refine AWP.condN (x := .tmp 29) (u := chkE l) (v := (0 : Int)) (by kernel_rfl) (by kernel_rfl) (fun h3 => ?_) (fun h3 => ?_)
 ·skip
  refine AWP.regsKX 1 [{}] (by kernel_rfl) (C := []) (by kernel_rfl) trivial ?_
  refine AWP.ret (by kernel_rfl) ?_
  refine then_r ?_
  refine Done.ret_ (C := [bytesA (atD l x) = [], Value.int .i64 (chkE l) = Value.int .i64 (atE l x)]) (by kernel_rfl) ⟨(by rw [atD, e1, if_neg h3]; rfl), (by rw [e1]), trivial⟩
 have hz := chk_zero _ l _ h3
 have e2 : atD l x = ares l (u8 x) l.length := by rw [atD, e1, if_pos h3]
 have hl0 := (hz _ (getD_mem (show 0 < l.length by omega))).2.2.2
 refine AWP.skip (by kernel_rfl) ?_
 refine then_n ?_
 refine AWP.regsPX 1 [{ hs := [(1, { k := 0 }), (3, { av := some (AV.sl 1 (bytesA (l.getD (0 : Nat) default).snd)) }), (4, { k := (l.getD (0 : Nat) default).snd.length }), (5, { av := some (AV.arr (bytesA (List.replicate (l.getD (0 : Nat) default).snd.length 0))), k := (l.getD (0 : Nat) default).snd.length, m := (l.getD (0 : Nat) default).snd.length })] }] [.keep [7, 29, 6, 25, 19, 5, 4, 0, 1] [36]] (by kernel_rfl) (C := [(0 : Int) = (↑(0 : Nat) : Int), (0 : Nat) < (encA shareC l).length, (encA shareC l)[(1 : Nat)]? = some (AV.sl 1 (bytesA (l.getD (0 : Nat) default).snd)), (bytesA (l.getD (0 : Nat) default).snd).length = (l.getD (0 : Nat) default).snd.length, List.replicate (l.getD (0 : Nat) default).snd.length (AV.val (Value.int .u8 0)) = bytesA (List.replicate (l.getD (0 : Nat) default).snd.length 0), (↑(l.getD (0 : Nat) default).snd.length : Int) = (↑(l.getD (0 : Nat) default).snd.length : Int), (↑(l.getD (0 : Nat) default).snd.length : Int) = (↑(l.getD (0 : Nat) default).snd.length : Int), (l.getD (0 : Nat) default).snd.length ≤ (l.getD (0 : Nat) default).snd.length, (1 : Nat) * (l.getD (0 : Nat) default).snd.length ≤ (281474976710656 : Nat), (l.getD (0 : Nat) default).snd.length ≤ maxLen]) (by kernel_rfl) ⟨rfl, (by simp only [encA_len (f := shareC) (e := 2) (fun _ => rfl)]; omega), (encA_at (f := shareC) (e := 2) (k := 0) (j := 1) (fun _ => rfl) (by omega) rfl), (bytesA_len _), (bytesA_rep _), rfl, rfl, (by omega), (by omega), (by unfold maxLen; omega), trivial⟩ ?_
 refine AWP.seq (by kernel_rfl) ?_
 refine AWP.regsKX 1 [{ hs := [(1, { k := l.length })] }] (by kernel_rfl) (C := [(encA shareC l).length = l.length * (2 : Nat)]) (by kernel_rfl) ⟨(by simp only [encA_len (f := shareC) (e := 2) (fun _ => rfl)]), trivial⟩ ?_
 refine AWP.block (id := 0) (by kernel_rfl) ?_
 refine AWP.loop (fun (i : Nat) => (⟨[(0, AV.sl 2 (encA shareC l)), (1, ai x), (7, AV.ref 36), (37, AV.sl 2 (encA shareC l)), (38, ai (↑l.length : Int)), (39, ai i)], [(36, ⟨1, true, false, bytesA (ares l (u8 x) i)⟩)]⟩ : AS)) (fun i => (i ≤ l.length)) (fun i => (l.length - i)) (by kernel_rfl) (0) ?_ (Weaks.ofX [.keep [0, 1, 7, 37, 38, 39] [36]] (by kernel_rfl)) ?_
 ·omega
 intro i hi
 have hal := ares_len l (u8 x) i
 have hal1 := ares_len l (u8 x) (i + 1)
 refine AWP.regsKX 1 [{}] (by kernel_rfl) (C := []) (by kernel_rfl) trivial ?_
 refine AWP.seq (by kernel_rfl) ?_
 refine AWP.condD (x := .tmp 40) (p := (↑i : Int) < (↑l.length : Int)) (by kernel_rfl) (by kernel_rfl) (fun h4 => ?_) (fun h4 => ?_)
 ·obtain ⟨hx1, hx2, hd, _⟩ := hz _ (getD_mem (show i < l.length by omega))
  refine AWP.skip (by kernel_rfl) ?_
  refine then_n ?_
  refine AWP.seq (by kernel_rfl) ?_
  refine AWP.block (id := 1) (by kernel_rfl) ?_
  refine AWP.regsPX 2 [{ hs := [(1, { k := i }), (2, { av := some (AV.agg [ai ((l.getD i default).fst), AV.sl 1 (bytesA (l.getD i default).snd)]) })] }, {}] [.keep [11, 10, 8, 9, 40, 0, 1, 7, 37, 38, 39] [9, 36]] (by kernel_rfl) (C := [(↑i : Int) = (↑i : Int), i * (2 : Nat) < (encA shareC l).length, List.take 2 (List.drop (i * (2 : Nat)) (encA shareC l)) = [ai ((l.getD i default).fst), AV.sl 1 (bytesA (l.getD i default).snd)], [ai ((l.getD i default).fst), AV.sl 1 (bytesA (l.getD i default).snd)].length = (2 : Nat), (2 : Nat) ≤ (2 : Nat)]) (by kernel_rfl) ⟨rfl, (by simp only [encA_len (f := shareC) (e := 2) (fun _ => rfl)]; omega), (encA_sub (f := shareC) (e := 2) (k := i) (j := 0) (fun _ => rfl) (by omega) (by decide) rfl), rfl, (by omega), trivial⟩ ?_
  refine AWP.seq (by kernel_rfl) ?_
  refine AWP.regsKX 1 [{ hs := [(1, { k := l.length })] }] (by kernel_rfl) (C := [(encA shareC l).length = l.length * (2 : Nat)]) (by kernel_rfl) ⟨(by simp only [encA_len (f := shareC) (e := 2) (fun _ => rfl)]), trivial⟩ ?_
  refine AWP.block (id := 2) (by kernel_rfl) ?_
  refine AWP.loop (fun (m : Nat) => (⟨[(0, AV.sl 2 (encA shareC l)), (1, ai x), (7, AV.ref 36), (8, ai (↑i : Int)), (9, AV.addr 9 0), (10, ab (ovr l (u8 x) i m)), (11, ab (ovr l (u8 (l.getD i default).1) i m)), (37, AV.sl 2 (encA shareC l)), (38, ai (↑l.length : Int)), (39, ai (↑i : Int)), (44, AV.sl 2 (encA shareC l)), (45, ai (↑l.length : Int)), (46, ai m)], [(9, ⟨1, false, true, [ai ((l.getD i default).fst), AV.sl 1 (bytesA (l.getD i default).snd)]⟩), (36, ⟨1, true, false, bytesA (ares l (u8 x) i)⟩)]⟩ : AS)) (fun m => (m ≤ l.length)) (fun m => (l.length - m)) (by kernel_rfl) (0) ?_ (Weaks.ofX [.keep [0, 1, 7, 8, 9, 10, 11, 37, 38, 39, 44, 45, 46] [9, 36]] (by kernel_rfl)) ?_
  ·omega
  intro m hm
  refine AWP.regsKX 1 [{}] (by kernel_rfl) (C := []) (by kernel_rfl) trivial ?_
  refine AWP.seq (by kernel_rfl) ?_
  refine AWP.condD (x := .tmp 47) (p := (↑m : Int) < (↑l.length : Int)) (by kernel_rfl) (by kernel_rfl) (fun h5 => ?_) (fun h5 => ?_)
  ·skip
   refine AWP.skip (by kernel_rfl) ?_
   refine then_n ?_
   refine AWP.seq (by kernel_rfl) ?_
   refine AWP.block (id := 3) (by kernel_rfl) ?_
   refine AWP.regsPX 2 [{ hs := [(1, { k := m }), (2, { av := some (AV.agg [ai ((l.getD m default).fst), AV.sl 1 (bytesA (l.getD m default).snd)]) })] }, {}] [.keep [53, 12, 13, 47, 0, 1, 7, 8, 9, 10, 11, 37, 38, 39, 44, 45, 46] [13, 9, 36]] (by kernel_rfl) (C := [(↑m : Int) = (↑m : Int), m * (2 : Nat) < (encA shareC l).length, List.take 2 (List.drop (m * (2 : Nat)) (encA shareC l)) = [ai ((l.getD m default).fst), AV.sl 1 (bytesA (l.getD m default).snd)], [ai ((l.getD m default).fst), AV.sl 1 (bytesA (l.getD m default).snd)].length = (2 : Nat), (2 : Nat) ≤ (2 : Nat)]) (by kernel_rfl) ⟨rfl, (by simp only [encA_len (f := shareC) (e := 2) (fun _ => rfl)]; omega), (encA_sub (f := shareC) (e := 2) (k := m) (j := 0) (fun _ => rfl) (by omega) (by decide) rfl), rfl, (by omega), trivial⟩ ?_
   refine AWP.condN (x := .tmp 53) (u := (↑m : Int)) (v := (↑i : Int)) (by kernel_rfl) (by kernel_rfl) (fun h6 => ?_) (fun h6 => ?_)
   ·skip
    refine AWP.regsPX 1 [{ hs := [(2, { av := some (ab (u8 x)) }), (5, { av := some (ab (u8 (l.getD m default).fst)) }), (6, { av := some (ab (u8 x ^^^ u8 (l.getD m default).fst)) }), (7, { av := some (ab (gmul (ovr l (u8 x) i m) (u8 x ^^^ u8 (l.getD m default).fst))) })] }] [.keep [10, 53, 12, 13, 47, 0, 1, 7, 8, 9, 11, 37, 38, 39, 44, 45, 46] [13, 9, 36]] (by kernel_rfl) (C := [AV.val (Value.int .u8 (IntKind.u8.wrap x)) = ab (u8 x), AV.val (Value.int .u8 (IntKind.u8.wrap (l.getD m default).fst)) = ab (u8 (l.getD m default).fst), AV.val (Value.int .u8 (IntKind.u8.wrap (↑(BitVec.ofInt IntKind.u8.bits (bv (u8 x)) ^^^ BitVec.ofInt IntKind.u8.bits (bv (u8 (l.getD m default).fst))).toNat : Int))) = ab (u8 x ^^^ u8 (l.getD m default).fst), Ret Tryd.prog (62 : Nat) [ab (ovr l (u8 x) i m), ab (u8 x ^^^ u8 (l.getD m default).fst)] (ab (gmul (ovr l (u8 x) i m) (u8 x ^^^ u8 (l.getD m default).fst)))]) (by kernel_rfl) ⟨(avb_conv (x)), (avb_conv ((l.getD m default).fst)), (avb_xor (u8 x) (u8 (l.getD m default).fst)), (mul_ret (ovr l (u8 x) i m) (u8 x ^^^ u8 (l.getD m default).fst)), trivial⟩ ?_
    refine AWP.regX { hs := [(3, { av := some (ab (u8 (l.getD i default).fst)) }), (6, { av := some (ab (u8 (l.getD m default).fst)) }), (7, { av := some (ab (u8 (l.getD i default).fst ^^^ u8 (l.getD m default).fst)) }), (8, { av := some (ab (gmul (ovr l (u8 (l.getD i default).fst) i m) (u8 (l.getD i default).fst ^^^ u8 (l.getD m default).fst))) })] } (C := [AV.val (Value.int .u8 (IntKind.u8.wrap (l.getD i default).fst)) = ab (u8 (l.getD i default).fst), AV.val (Value.int .u8 (IntKind.u8.wrap (l.getD m default).fst)) = ab (u8 (l.getD m default).fst), AV.val (Value.int .u8 (IntKind.u8.wrap (↑(BitVec.ofInt IntKind.u8.bits (bv (u8 (l.getD i default).fst)) ^^^ BitVec.ofInt IntKind.u8.bits (bv (u8 (l.getD m default).fst))).toNat : Int))) = ab (u8 (l.getD i default).fst ^^^ u8 (l.getD m default).fst), Ret Tryd.prog (62 : Nat) [ab (ovr l (u8 (l.getD i default).fst) i m), ab (u8 (l.getD i default).fst ^^^ u8 (l.getD m default).fst)] (ab (gmul (ovr l (u8 (l.getD i default).fst) i m) (u8 (l.getD i default).fst ^^^ u8 (l.getD m default).fst)))]) (by kernel_rfl) ⟨(avb_conv ((l.getD i default).fst)), (avb_conv ((l.getD m default).fst)), (avb_xor (u8 (l.getD i default).fst) (u8 (l.getD m default).fst)), (mul_ret (ovr l (u8 (l.getD i default).fst) i m) (u8 (l.getD i default).fst ^^^ u8 (l.getD m default).fst)), trivial⟩ ?_
    refine inb_n ?_
    refine then_n ?_
    refine AWP.regX { hs := [(0, { av := some (ai ((↑m : Int) + 1)) })] } (C := [ai (IntKind.i64.wrap ((↑m : Int) + 1)) = ai ((↑m : Int) + 1)]) (by kernel_rfl) ⟨(av_i64 (by omega) (by omega)), trivial⟩ ?_
    refine round_n (m + 1) (by omega) (by omega) (Weaks.of [.keep [0, 1, 7, 8, 9, 10, 11, 37, 38, 39, 44, 45, 46] [9, 36]] (s1 := AS.mk [(0, AV.sl 2 (encA shareC l)), (1, ai x), (7, AV.ref 36), (8, ai (↑i : Int)), (9, AV.addr 9 0), (10, ab (gmul (ovr l (u8 x) i m) (u8 x ^^^ u8 (l.getD m default).fst))), (11, ab (gmul (ovr l (u8 (l.getD i default).fst) i m) (u8 (l.getD i default).fst ^^^ u8 (l.getD m default).fst))), (37, AV.sl 2 (encA shareC l)), (38, ai (↑l.length : Int)), (39, ai (↑i : Int)), (44, AV.sl 2 (encA shareC l)), (45, ai (↑l.length : Int)), (46, ai ((↑m : Int) + 1))] [(9, Row.mk 1 false true [ai ((l.getD i default).fst), AV.sl 1 (bytesA (l.getD i default).snd)]), (36, Row.mk 1 true false (bytesA (ares l (u8 x) i)))]) (by kernel_rfl) (as_eq (f_cons rfl (f_cons rfl (f_cons rfl (f_cons rfl (f_cons rfl (f_cons (by rw [ovr, if_pos (by omega)]) (f_cons (by rw [ovr, if_pos (by omega)]) (f_cons rfl (f_cons rfl (f_cons rfl (f_cons rfl (f_cons rfl (f_cons rfl rfl))))))))))))) (h_cons rfl (h_cons rfl rfl))))
   ·skip
    refine AWP.skip (by kernel_rfl) ?_
    refine inb_n ?_
    refine then_n ?_
    refine AWP.regX { hs := [(0, { av := some (ai ((↑m : Int) + 1)) })] } (C := [ai (IntKind.i64.wrap ((↑m : Int) + 1)) = ai ((↑m : Int) + 1)]) (by kernel_rfl) ⟨(av_i64 (by omega) (by omega)), trivial⟩ ?_
    refine round_n (m + 1) (by omega) (by omega) (Weaks.of [.keep [0, 1, 7, 8, 9, 10, 11, 37, 38, 39, 44, 45, 46] [9, 36]] (s1 := AS.mk [(0, AV.sl 2 (encA shareC l)), (1, ai x), (7, AV.ref 36), (8, ai (↑i : Int)), (9, AV.addr 9 0), (10, ab (ovr l (u8 x) i m)), (11, ab (ovr l (u8 (l.getD i default).fst) i m)), (37, AV.sl 2 (encA shareC l)), (38, ai (↑l.length : Int)), (39, ai (↑i : Int)), (44, AV.sl 2 (encA shareC l)), (45, ai (↑l.length : Int)), (46, ai ((↑m : Int) + 1))] [(9, Row.mk 1 false true [ai ((l.getD i default).fst), AV.sl 1 (bytesA (l.getD i default).snd)]), (36, Row.mk 1 true false (bytesA (ares l (u8 x) i)))]) (by kernel_rfl) (as_eq (f_cons rfl (f_cons rfl (f_cons rfl (f_cons rfl (f_cons rfl (f_cons (by rw [ovr, if_neg (by omega)]) (f_cons (by rw [ovr, if_neg (by omega)]) (f_cons rfl (f_cons rfl (f_cons rfl (f_cons rfl (f_cons rfl (f_cons rfl rfl))))))))))))) (h_cons rfl (h_cons rfl rfl))))
  ·have e : m = l.length := by omega
   subst e
   refine AWP.exit (id := 2) (by kernel_rfl) ?_
   refine then_e ?_
   refine round_e ?_
   refine inb_e ?_
   refine then_n ?_
   refine AWP.regsPX 2 [{ hs := [(2, { av := some (ab (ginv (ovr l (u8 (l.getD i default).fst) i l.length))) }), (3, { av := some (ab (gmul (ovr l (u8 x) i l.length) (ginv (ovr l (u8 (l.getD i default).fst) i l.length)))) })] }, { hs := [(2, { k := (l.getD i default).snd.length })] }] [.keep [79, 78, 77, 14, 47, 0, 1, 7, 8, 9, 10, 11, 37, 38, 39, 44, 45, 46] [9, 36]] (by kernel_rfl) (C := [Ret Tryd.prog (72 : Nat) [ab (ovr l (u8 (l.getD i default).fst) i l.length)] (ab (ginv (ovr l (u8 (l.getD i default).fst) i l.length))), Ret Tryd.prog (62 : Nat) [ab (ovr l (u8 x) i l.length), ab (ginv (ovr l (u8 (l.getD i default).fst) i l.length))] (ab (gmul (ovr l (u8 x) i l.length) (ginv (ovr l (u8 (l.getD i default).fst) i l.length)))), (bytesA (l.getD i default).snd).length = (l.getD i default).snd.length]) (by kernel_rfl) ⟨(inverse_ret (ovr l (u8 (l.getD i default).fst) i l.length)), (mul_ret (ovr l (u8 x) i l.length) (ginv (ovr l (u8 (l.getD i default).fst) i l.length))), (bytesA_len _), trivial⟩ ?_
   refine AWP.block (id := 4) (by kernel_rfl) ?_
   refine AWP.loop (fun (j : Nat) => (⟨[(0, AV.sl 2 (encA shareC l)), (1, ai x), (7, AV.ref 36), (14, ab (gmul (ovr l (u8 x) i l.length) (ginv (ovr l (u8 (l.getD i default).fst) i l.length)))), (37, AV.sl 2 (encA shareC l)), (38, ai (↑l.length : Int)), (39, ai (↑i : Int)), (77, AV.sl 1 (bytesA (l.getD i default).snd)), (78, ai (↑(l.getD i default).snd.length : Int)), (79, ai j)], [(36, ⟨1, true, false, bytesA ((ares l (u8 x) (i + 1)).take j ++ (ares l (u8 x) i).drop j)⟩)]⟩ : AS)) (fun j => (j ≤ (l.getD 0 default).2.length)) (fun j => ((l.getD 0 default).2.length - j)) (by kernel_rfl) (0) ?_ (Weaks.of [.keep [0, 1, 7, 14, 37, 38, 39, 77, 78, 79] [36]] (s1 := AS.mk [(0, AV.sl 2 (encA shareC l)), (1, ai x), (7, AV.ref 36), (14, ab (gmul (ovr l (u8 x) i l.length) (ginv (ovr l (u8 (l.getD i default).fst) i l.length)))), (37, AV.sl 2 (encA shareC l)), (38, ai (↑l.length : Int)), (39, ai (↑i : Int)), (77, AV.sl 1 (bytesA (l.getD i default).snd)), (78, ai (↑(l.getD i default).snd.length : Int)), (79, ai 0)] [(36, Row.mk 1 true false (bytesA (ares l (u8 x) i)))]) (by kernel_rfl) (as_eq (f_cons rfl (f_cons rfl (f_cons rfl (f_cons rfl (f_cons rfl (f_cons rfl (f_cons rfl (f_cons rfl (f_cons rfl (f_cons (by simp) rfl)))))))))) (h_cons (by simp) rfl))) ?_
   ·omega
   intro j hj
   refine AWP.regsKX 1 [{}] (by kernel_rfl) (C := []) (by kernel_rfl) trivial ?_
   refine AWP.seq (by kernel_rfl) ?_
   refine AWP.condD (x := .tmp 80) (p := (↑j : Int) < (↑(l.getD i default).snd.length : Int)) (by kernel_rfl) (by kernel_rfl) (fun h7 => ?_) (fun h7 => ?_)
   ·skip
    refine AWP.skip (by kernel_rfl) ?_
    refine then_n ?_
    refine AWP.seq (by kernel_rfl) ?_
    refine AWP.block (id := 5) (by kernel_rfl) ?_
    refine AWP.regsPX 1 [{ hs := [(1, { k := j }), (2, { av := some (ab ((l.getD i default).snd.getD j 0)) })] }] [.keep [16, 15, 80, 0, 1, 7, 14, 37, 38, 39, 77, 78, 79] [36]] (by kernel_rfl) (C := [(↑j : Int) = (↑j : Int), j < (bytesA (l.getD i default).snd).length, (bytesA (l.getD i default).snd)[j]? = some (ab ((l.getD i default).snd.getD j 0))]) (by kernel_rfl) ⟨rfl, (by simp only [bytesA_len]; omega), (bytesA_at (by omega)), trivial⟩ ?_
    refine AWP.regX { hs := [(2, { k := j }), (3, { av := some (ab ((List.take j (ares l (u8 x) (i + (1 : Nat))) ++ List.drop j (ares l (u8 x) i)).getD j 0)) }), (6, { av := some (ab (gmul (gmul (ovr l (u8 x) i l.length) (ginv (ovr l (u8 (l.getD i default).fst) i l.length))) ((l.getD i default).snd.getD j 0))) }), (7, { av := some (ab ((List.take j (ares l (u8 x) (i + (1 : Nat))) ++ List.drop j (ares l (u8 x) i)).getD j (0 : UInt8) ^^^ gmul (gmul (ovr l (u8 x) i l.length) (ginv (ovr l (u8 (l.getD i default).fst) i l.length))) ((l.getD i default).snd.getD j 0))) }), (8, { k := j }), (9, { av := some (AV.arr (bytesA ((List.take j (ares l (u8 x) (i + (1 : Nat))) ++ List.drop j (ares l (u8 x) i)).set j ((List.take j (ares l (u8 x) (i + (1 : Nat))) ++ List.drop j (ares l (u8 x) i)).getD j (0 : UInt8) ^^^ gmul (gmul (ovr l (u8 x) i l.length) (ginv (ovr l (u8 (l.getD i default).fst) i l.length))) ((l.getD i default).snd.getD j 0))))) })], T := 7 } (C := [(↑j : Int) = (↑j : Int), j < (bytesA (List.take j (ares l (u8 x) (i + (1 : Nat))) ++ List.drop j (ares l (u8 x) i))).length, (bytesA (List.take j (ares l (u8 x) (i + (1 : Nat))) ++ List.drop j (ares l (u8 x) i)))[j]? = some (ab ((List.take j (ares l (u8 x) (i + (1 : Nat))) ++ List.drop j (ares l (u8 x) i)).getD j 0)), Ret Tryd.prog (62 : Nat) [ab (gmul (ovr l (u8 x) i l.length) (ginv (ovr l (u8 (l.getD i default).fst) i l.length))), ab ((l.getD i default).snd.getD j 0)] (ab (gmul (gmul (ovr l (u8 x) i l.length) (ginv (ovr l (u8 (l.getD i default).fst) i l.length))) ((l.getD i default).snd.getD j 0))), AV.val (Value.int .u8 (IntKind.u8.wrap (↑(BitVec.ofInt IntKind.u8.bits (bv ((List.take j (ares l (u8 x) (i + (1 : Nat))) ++ List.drop j (ares l (u8 x) i)).getD j 0)) ^^^ BitVec.ofInt IntKind.u8.bits (bv (gmul (gmul (ovr l (u8 x) i l.length) (ginv (ovr l (u8 (l.getD i default).fst) i l.length))) ((l.getD i default).snd.getD j 0)))).toNat : Int))) = ab ((List.take j (ares l (u8 x) (i + (1 : Nat))) ++ List.drop j (ares l (u8 x) i)).getD j (0 : UInt8) ^^^ gmul (gmul (ovr l (u8 x) i l.length) (ginv (ovr l (u8 (l.getD i default).fst) i l.length))) ((l.getD i default).snd.getD j 0)), (↑j : Int) = (↑j : Int), j < (bytesA (List.take j (ares l (u8 x) (i + (1 : Nat))) ++ List.drop j (ares l (u8 x) i))).length, (bytesA (List.take j (ares l (u8 x) (i + (1 : Nat))) ++ List.drop j (ares l (u8 x) i))).set j (ab ((List.take j (ares l (u8 x) (i + (1 : Nat))) ++ List.drop j (ares l (u8 x) i)).getD j (0 : UInt8) ^^^ gmul (gmul (ovr l (u8 x) i l.length) (ginv (ovr l (u8 (l.getD i default).fst) i l.length))) ((l.getD i default).snd.getD j 0))) = bytesA ((List.take j (ares l (u8 x) (i + (1 : Nat))) ++ List.drop j (ares l (u8 x) i)).set j ((List.take j (ares l (u8 x) (i + (1 : Nat))) ++ List.drop j (ares l (u8 x) i)).getD j (0 : UInt8) ^^^ gmul (gmul (ovr l (u8 x) i l.length) (ginv (ovr l (u8 (l.getD i default).fst) i l.length))) ((l.getD i default).snd.getD j 0))), j + (1 : Nat) ≤ (bytesA (List.take j (ares l (u8 x) (i + (1 : Nat))) ++ List.drop j (ares l (u8 x) i))).length]) (by kernel_rfl) ⟨rfl, (by simp only [bytesA_len, List.length_append, List.length_take, List.length_drop]; omega), (bytesA_at (by simp only [List.length_append, List.length_take, List.length_drop]; omega)), (mul_ret (gmul (ovr l (u8 x) i l.length) (ginv (ovr l (u8 (l.getD i default).fst) i l.length))) ((l.getD i default).snd.getD j 0)), (avb_xor ((List.take j (ares l (u8 x) (i + (1 : Nat))) ++ List.drop j (ares l (u8 x) i)).getD j 0) (gmul (gmul (ovr l (u8 x) i l.length) (ginv (ovr l (u8 (l.getD i default).fst) i l.length))) ((l.getD i default).snd.getD j 0))), rfl, (by simp only [bytesA_len, List.length_append, List.length_take, List.length_drop]; omega), (bytesA_set _ _ _), (by simp only [bytesA_len, List.length_append, List.length_take, List.length_drop]; omega), trivial⟩ ?_
    refine inb_n ?_
    refine then_n ?_
    refine AWP.regX { hs := [(0, { av := some (ai ((↑j : Int) + 1)) })] } (C := [ai (IntKind.i64.wrap ((↑j : Int) + 1)) = ai ((↑j : Int) + 1)]) (by kernel_rfl) ⟨(av_i64 (by omega) (by omega)), trivial⟩ ?_
    refine round_n (j + 1) (by omega) (by omega) (Weaks.of [.keep [0, 1, 7, 14, 37, 38, 39, 77, 78, 79] [36]] (s1 := AS.mk [(0, AV.sl 2 (encA shareC l)), (1, ai x), (7, AV.ref 36), (14, ab (gmul (ovr l (u8 x) i l.length) (ginv (ovr l (u8 (l.getD i default).fst) i l.length)))), (37, AV.sl 2 (encA shareC l)), (38, ai (↑l.length : Int)), (39, ai (↑i : Int)), (77, AV.sl 1 (bytesA (l.getD i default).snd)), (78, ai (↑(l.getD i default).snd.length : Int)), (79, ai ((↑j : Int) + 1))] [(36, Row.mk 1 true false (bytesA ((List.take j (ares l (u8 x) (i + (1 : Nat))) ++ List.drop j (ares l (u8 x) i)).set j ((List.take j (ares l (u8 x) (i + (1 : Nat))) ++ List.drop j (ares l (u8 x) i)).getD j (0 : UInt8) ^^^ gmul (gmul (ovr l (u8 x) i l.length) (ginv (ovr l (u8 (l.getD i default).fst) i l.length))) ((l.getD i default).snd.getD j 0)))))]) (by kernel_rfl) (as_eq (f_cons rfl (f_cons rfl (f_cons rfl (f_cons rfl (f_cons rfl (f_cons rfl (f_cons rfl (f_cons rfl (f_cons rfl (f_cons rfl rfl)))))))))) (h_cons (congrArg bytesA (mix_set _ (by omega) (by omega) (by rw [mix_get (by omega), ares_next l (u8 x) i j (by omega)]; rfl))) rfl)))
   ·have e : j = (l.getD 0 default).2.length := by omega
    subst e
    refine AWP.exit (id := 4) (by kernel_rfl) ?_
    refine then_e ?_
    refine round_e ?_
    refine inb_e ?_
    refine inb_n ?_
    refine then_n ?_
    refine AWP.regX { hs := [(0, { av := some (ai ((↑i : Int) + 1)) })] } (C := [ai (IntKind.i64.wrap ((↑i : Int) + 1)) = ai ((↑i : Int) + 1)]) (by kernel_rfl) ⟨(av_i64 (by omega) (by omega)), trivial⟩ ?_
    refine round_n (i + 1) (by omega) (by omega) (Weaks.of [.keep [0, 1, 7, 37, 38, 39] [36]] (s1 := AS.mk [(0, AV.sl 2 (encA shareC l)), (1, ai x), (7, AV.ref 36), (37, AV.sl 2 (encA shareC l)), (38, ai (↑l.length : Int)), (39, ai ((↑i : Int) + 1))] [(36, Row.mk 1 true false (bytesA (List.take (l.getD (0 : Nat) default).snd.length (ares l (u8 x) (i + (1 : Nat))) ++ List.drop (l.getD (0 : Nat) default).snd.length (ares l (u8 x) i))))]) (by kernel_rfl) (as_eq (f_cons rfl (f_cons rfl (f_cons rfl (f_cons rfl (f_cons rfl (f_cons rfl rfl)))))) (h_cons (congrArg bytesA (by rw [List.take_of_length_le (by omega), List.drop_eq_nil_of_le (by omega), List.append_nil])) rfl)))
 ·have e : i = l.length := by omega
  subst e
  refine AWP.exit (id := 0) (by kernel_rfl) ?_
  refine then_e ?_
  refine round_e ?_
  refine inb_e ?_
  refine then_n ?_
  refine AWP.regsKX 1 [{}] (by kernel_rfl) (C := []) (by kernel_rfl) trivial ?_
  refine AWP.ret (by kernel_rfl) ?_
  refine Done.ret_ (C := [bytesA (ares l (u8 x) l.length) = bytesA (atD l x), Value.int .i64 0 = Value.int .i64 (atE l x)]) (by kernel_rfl) ⟨(by rw [e2]), (by rw [e1, h3]), trivial⟩
end Go.Proofs.YtejpabdmiagnnaaDoor
