/-
  The contract of onetime.digits: the digits of a word and of their checksum. No condition.
-/
import Derived.Test.YtmoeabifkbahbaaRefUse
import Derived.Laws.Tables
namespace Go.Proofs.Ytmoeabifkbahbaa
open Go.RowKit

/-- A whole array or struct stored into a block that is known whole. -/
theorem wpList_store_blk {P : Program} {w : World} {ops : Array Oper} {rest : List Oper} {o : Oper} {a : Act} {Q : Exit → Act → World → Prop} (hgd : o.guard = none) (ty : TypeId) (x y : Operand) (ho : o.op = .store ty x y)
    (g : Nat) (hx : a.eval x = .pointer (some ⟨g, 0, none⟩)) (cs : Array Value) (hy : a.eval y = .agg cs) (t : TypeId) (old : Array Value) (hg : Blk w g t old) (hsz : old.size = cs.size) (hi : (P.info? ty).map (·.size) = some cs.size) (h1 : cs.all (·.oneCell') = true)
    (h : ∀ w', Blk w' g t cs → w.grownBy w' (some g) → wpList P ops Q rest (a.put o.dst undef) w') : wpList P ops Q (o :: rest) a w := by
  refine wpList_plain hgd fun K hK => ?_
  have hr := run_storeVar_row (P := P) w g t ty old cs hg hi hsz h1
  unfold Oper.wp execOp
  simp only [ho, hx, hy, Instr.storeAt, Instr.sureAddr, Sem.run_bind, Sem.run_pure, Result.andThen_ok, hr]
  exact hK _ _ (h _ (setRow_heap w g old cs t (0, 0) hg) ⟨rfl, rfl, rfl, by simp, fun k _ hk => setRow_other w g k _ (fun e => hk (by rw [e]))⟩)

def nib (m : UInt64) (k : Nat) : Nat := m.toNat / 2 ^ (60 - 4 * k) % 16
def nibSum (m : UInt64) : Nat → Nat
  | 0 => 0
  | k + 1 => nibSum m k + (15 - nib m k)
def digs (m : UInt64) : List Int := (List.range 16).map (fun k => (nib m k : Int)) ++ [((nibSum m 16 / 16 : Nat) : Int), ((nibSum m 16 % 16 : Nat) : Int)]
theorem nib_lt (m : UInt64) (k : Nat) : nib m k < 16 := Nat.mod_lt _ (by decide)
theorem nibSum_le (m : UInt64) (k : Nat) : nibSum m k ≤ 15 * k := by
  induction k with
  | zero => simp [nibSum]
  | succ k ih => simp only [nibSum]; omega
theorem digs_len (m : UInt64) : (digs m).length = 18 := by simp [digs]
theorem nib_val (m : UInt64) (k : Nat) : bits BinOp.and IntKind.u64 (wv m / 2 ^ (60 - 4 * k)) 15 = (nib m k : Int) := by
  by_cases hk : k ≤ 15
  · rw [wv_shr m _ (by omega)]
    have := wv_and (m >>> UInt64.ofNat (60 - 4 * k)) 15
    rw [show (15 : Int) = wv 15 from rfl, this]
    unfold wv nib
    rw [UInt64.toNat_and, UInt64.toNat_shiftRight, UInt64.toNat_ofNat_of_lt' (by show _ < 2 ^ 64; omega), Nat.mod_eq_of_lt (by omega), Nat.shiftRight_eq_div_pow]
    rw [show (15 : UInt64).toNat = 2 ^ 4 - 1 from rfl, Nat.and_two_pow_sub_one_eq_mod]
  · rw [show 60 - 4 * k = 0 by omega]
    have := wv_and m 15
    rw [show (15 : Int) = wv 15 from rfl, show wv m / 2 ^ 0 = wv m by simp, this]
    unfold wv nib
    rw [show 60 - 4 * k = 0 by omega, UInt64.toNat_and, show (15 : UInt64).toNat = 2 ^ 4 - 1 from rfl, Nat.and_two_pow_sub_one_eq_mod]
    simp
def digPart (m : UInt64) (k : Nat) : Array Value := (ivs ((List.range 18).map fun j => if j < k then (nib m j : Int) else 0)).toArray
theorem digPart_size (m : UInt64) (k : Nat) : (digPart m k).size = 18 := by simp [digPart, ivs]
theorem digPart_at (m : UInt64) (k j : Nat) (hj : j < 18) : (digPart m k)[j]? = some (.int .i64 (if j < k then (nib m j : Int) else 0)) := by
  simp [digPart, ivs, hj]
theorem digPart_set (m : UInt64) (k : Nat) : (digPart m k).setIfInBounds k (.int .i64 (nib m k)) = digPart m (k + 1) := by
  apply Array.ext_getElem?
  intro j
  by_cases hj : j < 18
  · rw [digPart_at m (k + 1) j hj]
    by_cases hjk : k = j
    · subst hjk
      rw [Array.getElem?_setIfInBounds_self_of_lt (by rw [digPart_size]; exact hj), if_pos (by omega)]
    · rw [Array.getElem?_setIfInBounds_ne hjk, digPart_at m k j hj]
      by_cases h : j < k
      · rw [if_pos h, if_pos (by omega)]
      · rw [if_neg h, if_neg (by omega)]
  · rw [Array.getElem?_eq_none (by simp [digPart_size]; omega), Array.getElem?_eq_none (by rw [digPart_size]; omega)]
theorem digPart_last (m : UInt64) : ((digPart m 16).setIfInBounds 16 (.int .i64 ((nibSum m 16 / 16 : Nat) : Int))).setIfInBounds 17 (.int .i64 ((nibSum m 16 % 16 : Nat) : Int)) = (ivs (digs m)).toArray := by
  apply Array.ext_getElem?
  intro j
  by_cases hj : j < 18
  · have hr : (ivs (digs m)).toArray[j]? = some (.int .i64 ((digs m).getD j 0)) := by rw [List.getElem?_toArray]; exact ivs_at _ _ (by rw [digs_len]; exact hj)
    rw [hr]
    by_cases h17 : j = 17
    · subst h17
      rw [Array.getElem?_setIfInBounds_self_of_lt (by simp [digPart_size])]
      simp [digs]
    · rw [Array.getElem?_setIfInBounds_ne (Ne.symm h17)]
      by_cases h16 : j = 16
      · subst h16
        rw [Array.getElem?_setIfInBounds_self_of_lt (by simp [digPart_size])]
        simp [digs]
      · rw [Array.getElem?_setIfInBounds_ne (Ne.symm h16), digPart_at m 16 j hj, if_pos (by omega)]
        simp [digs, List.getElem?_append, show j < 16 by omega]
  · rw [Array.getElem?_eq_none (by simp [digPart_size]; omega), Array.getElem?_eq_none (by simp [ivs, digs]; omega)]

theorem info18 : (Try.prog.info? 61).map (·.size) = some 18 := by kernel_rfl

set_option maxHeartbeats 1600000 in
theorem digits_any (m : UInt64) (w : World) :
    Calls Try.prog 44 #[.int .u64 (wv m)] w fun e w' => e = .returned (.agg (ivs (digs m)).toArray) ∧ Below w.heap.size w w' := by
  have hx0 := wv_nn m
  go_enter Try.func44, Try.ntmps44
  go_wp2_with fail
  have hd : Blk ((w.alloc (.cells #[.int .i64 0, .int .i64 0, .int .i64 0, .int .i64 0, .int .i64 0, .int .i64 0, .int .i64 0, .int .i64 0, .int .i64 0, .int .i64 0, .int .i64 0, .int .i64 0, .int .i64 0, .int .i64 0, .int .i64 0, .int .i64 0, .int .i64 0, .int .i64 0] 61)).alloc (.cells #[.int .i64 0, .int .i64 0, .int .i64 0, .int .i64 0, .int .i64 0, .int .i64 0, .int .i64 0, .int .i64 0, .int .i64 0, .int .i64 0, .int .i64 0, .int .i64 0, .int .i64 0, .int .i64 0, .int .i64 0, .int .i64 0, .int .i64 0, .int .i64 0] 61)) (w.heap.size + 1) 61 (digPart m 0) := by
    have h := Blk.new (w.alloc (.cells #[.int .i64 0, .int .i64 0, .int .i64 0, .int .i64 0, .int .i64 0, .int .i64 0, .int .i64 0, .int .i64 0, .int .i64 0, .int .i64 0, .int .i64 0, .int .i64 0, .int .i64 0, .int .i64 0, .int .i64 0, .int .i64 0, .int .i64 0, .int .i64 0] 61)) 61 #[.int .i64 0, .int .i64 0, .int .i64 0, .int .i64 0, .int .i64 0, .int .i64 0, .int .i64 0, .int .i64 0, .int .i64 0, .int .i64 0, .int .i64 0, .int .i64 0, .int .i64 0, .int .i64 0, .int .i64 0, .int .i64 0, .int .i64 0, .int .i64 0]
    rw [show (w.alloc (.cells #[.int .i64 0, .int .i64 0, .int .i64 0, .int .i64 0, .int .i64 0, .int .i64 0, .int .i64 0, .int .i64 0, .int .i64 0, .int .i64 0, .int .i64 0, .int .i64 0, .int .i64 0, .int .i64 0, .int .i64 0, .int .i64 0, .int .i64 0, .int .i64 0] 61)).heap.size = w.heap.size + 1 by simp] at h
    exact h
  have hr : Blk ((w.alloc (.cells #[.int .i64 0, .int .i64 0, .int .i64 0, .int .i64 0, .int .i64 0, .int .i64 0, .int .i64 0, .int .i64 0, .int .i64 0, .int .i64 0, .int .i64 0, .int .i64 0, .int .i64 0, .int .i64 0, .int .i64 0, .int .i64 0, .int .i64 0, .int .i64 0] 61)).alloc (.cells #[.int .i64 0, .int .i64 0, .int .i64 0, .int .i64 0, .int .i64 0, .int .i64 0, .int .i64 0, .int .i64 0, .int .i64 0, .int .i64 0, .int .i64 0, .int .i64 0, .int .i64 0, .int .i64 0, .int .i64 0, .int .i64 0, .int .i64 0, .int .i64 0] 61)) w.heap.size 61 #[.int .i64 0, .int .i64 0, .int .i64 0, .int .i64 0, .int .i64 0, .int .i64 0, .int .i64 0, .int .i64 0, .int .i64 0, .int .i64 0, .int .i64 0, .int .i64 0, .int .i64 0, .int .i64 0, .int .i64 0, .int .i64 0, .int .i64 0, .int .i64 0] := (Blk.new w _ _).alloc _
  have hw1 : Below w.heap.size w ((w.alloc (.cells #[.int .i64 0, .int .i64 0, .int .i64 0, .int .i64 0, .int .i64 0, .int .i64 0, .int .i64 0, .int .i64 0, .int .i64 0, .int .i64 0, .int .i64 0, .int .i64 0, .int .i64 0, .int .i64 0, .int .i64 0, .int .i64 0, .int .i64 0, .int .i64 0] 61)).alloc (.cells #[.int .i64 0, .int .i64 0, .int .i64 0, .int .i64 0, .int .i64 0, .int .i64 0, .int .i64 0, .int .i64 0, .int .i64 0, .int .i64 0, .int .i64 0, .int .i64 0, .int .i64 0, .int .i64 0, .int .i64 0, .int .i64 0, .int .i64 0, .int .i64 0] 61)) := (((Below.refl _ _).alloc (Nat.le_refl _) _).alloc (by simp) _)
  revert hd hr hw1
  generalize ((w.alloc (.cells #[.int .i64 0, .int .i64 0, .int .i64 0, .int .i64 0, .int .i64 0, .int .i64 0, .int .i64 0, .int .i64 0, .int .i64 0, .int .i64 0, .int .i64 0, .int .i64 0, .int .i64 0, .int .i64 0, .int .i64 0, .int .i64 0, .int .i64 0, .int .i64 0] 61)).alloc (.cells #[.int .i64 0, .int .i64 0, .int .i64 0, .int .i64 0, .int .i64 0, .int .i64 0, .int .i64 0, .int .i64 0, .int .i64 0, .int .i64 0, .int .i64 0, .int .i64 0, .int .i64 0, .int .i64 0, .int .i64 0, .int .i64 0, .int .i64 0, .int .i64 0] 61)) = w1
  intro hd hr hw1
  obtain ⟨g, hg⟩ : ∃ g, Hid (g = w.heap.size + 1) := ⟨_, Lib.hid rfl⟩
  rw [← hg.out] at hd ⊢
  go_loopw [4, 5, 6] (fun s _ i wr => ∃ k : Nat, k ≤ 16 ∧ i = .int .i64 k ∧ s = .int .i64 (nibSum m k : Int) ∧ Blk wr g 61 (digPart m k) ∧ Blk wr w.heap.size 61 #[.int .i64 0, .int .i64 0, .int .i64 0, .int .i64 0, .int .i64 0, .int .i64 0, .int .i64 0, .int .i64 0, .int .i64 0, .int .i64 0, .int .i64 0, .int .i64 0, .int .i64 0, .int .i64 0, .int .i64 0, .int .i64 0, .int .i64 0, .int .i64 0] ∧ Below w.heap.size w wr) (fun _ _ i _ => 16 - (intOf i).toNat)
  case atStart => exact ⟨0, Nat.zero_le _, rfl, rfl, hd, hr, hw1⟩
  case round =>
    clear hd hr hw1 w1
    obtain ⟨k, hk, rfl, rfl, hd, hr, hw⟩ := hrel
    have hsum := nibSum_le m k
    have hgB : w.heap.size ≤ g := by rw [hg.out]; omega
    have hne : w.heap.size ≠ g := by rw [hg.out]; omega
    by_cases hlt : k < 16
    · have hn := nib_lt m k
      have hv := nib_val m k
      have c0 : wr.cell? ⟨g, k, none⟩ = some (.int .i64 0) := by rw [hd.cell k, digPart_at m k k (by omega), if_neg (by omega)]
      have f0 : wr.frozen? ⟨g, k, none⟩ = false := hd.frozen k
      go_wp2_with fail
      go_roundw
      case rel =>
        refine ⟨k + 1, by omega, by go_num, congrArg _ (by simp only [nibSum]; omega), by rw [← digPart_set]; exact hd.set_ k _, hr.far hne _, hw.setCell hgB _⟩
      case measure => simp [intOf]; omega
    · obtain rfl : k = 16 := by omega
      have c0 : wr.cell? ⟨g, 16, none⟩ = some (.int .i64 0) := by rw [hd.cell 16, digPart_at m 16 16 (by omega), if_neg (by omega)]
      have f0 : wr.frozen? ⟨g, 16, none⟩ = false := hd.frozen 16
      have c1 : wr.cell? ⟨g, 17, none⟩ = some (.int .i64 0) := by rw [hd.cell 17, digPart_at m 16 17 (by omega), if_neg (by omega)]
      have f1 : wr.frozen? ⟨g, 17, none⟩ = false := hd.frozen 17
      have hd2 : Blk ((wr.setCell ⟨g, 16, none⟩ (.int .i64 ((nibSum m 16 : Int) / 16))).setCell ⟨g, 17, none⟩ (.int .i64 ((nibSum m 16 : Int) % 16))) g 61 (ivs (digs m)).toArray := by
        rw [← digPart_last]
        exact (hd.set_ 16 _).set_ 17 _
      have hr2 : Blk ((wr.setCell ⟨g, 16, none⟩ (.int .i64 ((nibSum m 16 : Int) / 16))).setCell ⟨g, 17, none⟩ (.int .i64 ((nibSum m 16 : Int) % 16))) w.heap.size 61 #[.int .i64 0, .int .i64 0, .int .i64 0, .int .i64 0, .int .i64 0, .int .i64 0, .int .i64 0, .int .i64 0, .int .i64 0, .int .i64 0, .int .i64 0, .int .i64 0, .int .i64 0, .int .i64 0, .int .i64 0, .int .i64 0, .int .i64 0, .int .i64 0] := (hr.far hne _).far hne _
      have hw2 : Below w.heap.size w ((wr.setCell ⟨g, 16, none⟩ (.int .i64 ((nibSum m 16 : Int) / 16))).setCell ⟨g, 17, none⟩ (.int .i64 ((nibSum m 16 : Int) % 16))) := (hw.setCell hgB _).setCell hgB _
      have hsz : (ivs (digs m)).toArray.size = 18 := by simp [ivs, digs]
      go_wp2_with (first
        | (refine wpList_load_row rfl 61 (.tmp 3) rfl g rfl _ (ivs (digs m)).toArray _ _ hd2 Try.underlying61 rfl (by rw [hsz]; exact info18) ?_)
        | (refine wpList_store_blk rfl 61 (.tmp 2) (.tmp 31) rfl w.heap.size rfl (ivs (digs m)).toArray rfl _ _ hr2 (by rw [hsz]; rfl) (by rw [hsz]; exact info18) (by rw [Array.all_eq_true']; intro u hu; exact ivs_one _ u (by simpa using hu)) ?_; intro w3 hr3 hg3))
      have hw3 : Below w.heap.size w w3 := hw2.trans (only_below hg3 (Nat.le_refl _) hw2.size)
      refine bodyPost_ret (v := .agg (ivs (digs m)).toArray) (results_cell_row Try.results44 _ _ w.heap.size _ _ _ _ rfl hr3 Try.underlying61 rfl (by rw [hsz]; exact info18)) rfl ⟨rfl, hw3⟩
end Go.Proofs.Ytmoeabifkbahbaa
