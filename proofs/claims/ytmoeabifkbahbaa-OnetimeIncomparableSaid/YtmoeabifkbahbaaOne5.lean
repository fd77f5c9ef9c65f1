/-
  The law OnetimeIncomparable returns true at every input: of two different words each one has a smaller digit.
-/
import Derived.Test.YtmoeabifkbahbaaOne4
import Derived.Deep.QuietTactic
import Derived.BigQuiet
namespace Go.Proofs.Ytmoeabifkbahbaa
open Go.RowKit

/-- Some digit of A before k is smaller than that of B. -/
def anyLt (A B : List Int) : Nat → Bool
  | 0 => false
  | k + 1 => anyLt A B k || decide (A.getD k 0 < B.getD k 0)
theorem anyLt_self (A : List Int) (k : Nat) : anyLt A A k = false := by
  induction k with
  | zero => rfl
  | succ k ih => simp [anyLt, ih]
theorem anyLt_false {A B : List Int} {k : Nat} (h : anyLt A B k = false) : ∀ j, j < k → B.getD j 0 ≤ A.getD j 0 := by
  induction k with
  | zero => intro j hj; omega
  | succ k ih =>
    intro j hj
    simp only [anyLt, Bool.or_eq_false_iff, decide_eq_false_iff_not] at h
    by_cases hk : j = k
    · subst hk; omega
    · exact ih h.1 j (by omega)
theorem digs_nib (m : UInt64) (j : Nat) (h : j < 16) : (digs m).getD j 0 = (nib m j : Int) := by
  simp [digs, List.getElem?_append, h]
theorem digs_16 (m : UInt64) : (digs m).getD 16 0 = ((nibSum m 16 / 16 : Nat) : Int) := by simp [digs]
theorem digs_17 (m : UInt64) : (digs m).getD 17 0 = ((nibSum m 16 % 16 : Nat) : Int) := by simp [digs]
theorem nib_step (m : UInt64) (k : Nat) (h : k < 15) : m.toNat / 2 ^ (60 - 4 * (k + 1)) = 16 * (m.toNat / 2 ^ (60 - 4 * k)) + nib m (k + 1) := by
  unfold nib
  have e : m.toNat / 2 ^ (60 - 4 * k) = m.toNat / 2 ^ (60 - 4 * (k + 1)) / 16 := by
    rw [Nat.div_div_eq_div_mul]
    congr 1
    rw [show 60 - 4 * k = (60 - 4 * (k + 1)) + 4 by omega, Nat.pow_add]
  rw [e]
  omega
theorem nibs_inj (m n : UInt64) (h : ∀ j, j < 16 → nib m j = nib n j) : m = n := by
  have key : ∀ k, k < 16 → m.toNat / 2 ^ (60 - 4 * k) = n.toNat / 2 ^ (60 - 4 * k) := by
    intro k
    induction k with
    | zero =>
      intro _
      have h0 := h 0 (by omega)
      unfold nib at h0
      have h1 := m.toNat_lt
      have h2 := n.toNat_lt
      have e1 : m.toNat / 2 ^ (60 - 4 * 0) < 16 := by
        rw [Nat.div_lt_iff_lt_mul (by decide)]; omega
      have e2 : n.toNat / 2 ^ (60 - 4 * 0) < 16 := by
        rw [Nat.div_lt_iff_lt_mul (by decide)]; omega
      rw [Nat.mod_eq_of_lt e1, Nat.mod_eq_of_lt e2] at h0
      exact h0
    | succ k ih =>
      intro hk
      rw [nib_step m k (by omega), nib_step n k (by omega), ih (by omega), h (k + 1) hk]
  have := key 15 (by omega)
  simp at this
  exact UInt64.toNat_inj.1 this
theorem nibSum_mono (m n : UInt64) (k : Nat) (h : ∀ j, j < k → nib n j ≤ nib m j) : nibSum m k ≤ nibSum n k ∧ (nibSum m k = nibSum n k → ∀ j, j < k → nib m j = nib n j) := by
  induction k with
  | zero => exact ⟨Nat.le_refl _, fun _ j hj => by omega⟩
  | succ k ih =>
    obtain ⟨h1, h2⟩ := ih fun j hj => h j (by omega)
    have h3 := h k (by omega)
    have h4 := nib_lt m k
    simp only [nibSum]
    refine ⟨by omega, fun he j hj => ?_⟩
    by_cases hk : j = k
    · subst hk; omega
    · exact h2 (by omega) j (by omega)
theorem anyLt_digs (m n : UInt64) : anyLt (digs m) (digs n) 18 = (m != n) := by
  by_cases h : m = n
  · subst h; rw [anyLt_self]; simp
  · rw [show (m != n) = true by simpa using h]
    cases hb : anyLt (digs m) (digs n) 18 with
    | true => rfl
    | false =>
      exfalso
      have hall := anyLt_false hb
      have hn : ∀ j, j < 16 → nib n j ≤ nib m j := fun j hj => by
        have := hall j (by omega); rw [digs_nib m j hj, digs_nib n j hj] at this; omega
      have h16 := hall 16 (by omega)
      have h17 := hall 17 (by omega)
      rw [digs_16, digs_16] at h16
      rw [digs_17, digs_17] at h17
      obtain ⟨h1, h2⟩ := nibSum_mono m n 16 hn
      exact h (nibs_inj m n (h2 (by omega)))

set_option maxRecDepth 20000 in
set_option maxHeartbeats 3200000 in
theorem incomparable_any (m n : UInt64) (w : World) : Calls Try.prog 28 #[.int .u64 (wv m), .int .u64 (wv n)] w fun e w' => e = .returned (.bool true) ∧ Below w.heap.size w w' := by
  go_enter Try.func28, Try.ntmps28
  go_wp2_with fail
  refine (split_any m _).mono ?_; rintro e w1 ⟨v1, rfl, ho1, hw1⟩
  go_wp2_with fail
  refine (split_any n _).mono ?_; rintro e w2 ⟨v2, rfl, ho2, hw2⟩
  have hA := ho1.below hw2 (Nat.le_refl _)
  have hw := hw1.thenCall hw2
  obtain ⟨g1, c1, rfl, -, -, -, -⟩ := ho1.form (by rw [ivs_len, digs_len]; decide)
  obtain ⟨g2, c2, rfl, -, -, -, -⟩ := ho2.form (by rw [ivs_len, digs_len]; decide)
  rw [ivs_len, digs_len] at hA ho2
  rw [ivs_len, digs_len, ivs_len, digs_len]
  have HA := Lib.hid hA
  have HB := Lib.hid ho2
  clear ho1 ho2 hw1 hA
  clear hw2
  go_wp2_with fail
  go_loopw [7, 8, 9] (fun a b i wr => ∃ k : Nat, k ≤ 18 ∧ i = .int .i64 k ∧ a = .bool (anyLt (digs m) (digs n) k) ∧ b = .bool (anyLt (digs n) (digs m) k) ∧ Below w2.heap.size w2 wr) (fun _ _ i _ => 18 - (intOf i).toNat)
  case atStart => exact ⟨0, Nat.zero_le _, rfl, rfl, rfl, Below.refl _ _⟩
  case round =>
    obtain ⟨k, hk, rfl, rfl, rfl, hwr⟩ := hrel
    by_cases hlt : k < 18
    · have ga := (HA.out.below hwr (Nat.le_refl _)).int_at (i := k) (by rw [digs_len]; exact hlt)
      have gb := (HB.out.below hwr (Nat.le_refl _)).int_at (i := k) (by rw [digs_len]; exact hlt)
      have hlt' : (k : Int) < 18 := by omega
      obtain ⟨x, hx⟩ : ∃ x, Hid (x = (digs m).getD k 0) := ⟨_, Lib.hid rfl⟩
      obtain ⟨y, hy⟩ : ∃ y, Hid (y = (digs n).getD k 0) := ⟨_, Lib.hid rfl⟩
      rw [← hx.out] at ga
      rw [← hy.out] at gb
      have e1 : Hid (anyLt (digs m) (digs n) (k + 1) = (anyLt (digs m) (digs n) k || decide (x < y))) := by show _ = _; rw [hx.out, hy.out]; rfl
      have e2 : Hid (anyLt (digs n) (digs m) (k + 1) = (anyLt (digs n) (digs m) k || decide (y < x))) := by show _ = _; rw [hx.out, hy.out]; rfl
      obtain ⟨p, hp⟩ : ∃ p, Hid (p = anyLt (digs m) (digs n) k) := ⟨_, Lib.hid rfl⟩
      obtain ⟨q, hq⟩ : ∃ q, Hid (q = anyLt (digs n) (digs m) k) := ⟨_, Lib.hid rfl⟩
      rw [← hp.out, ← hq.out]
      cases p <;> cases q
      all_goals
        go_wp2_with fail
        go_quiet (fail)
        have hwr2 := below_drewN hwr nq
        go_wp2
        go_roundw
        case rel => exact ⟨k + 1, by omega, by go_num, by rw [e1.out, ← hp.out]; rfl, by rw [e2.out, ← hq.out]; rfl, hwr2⟩
        case measure => simp [intOf]; omega
    · obtain rfl : k = 18 := by omega
      rw [anyLt_digs, anyLt_digs]
      by_cases hmn : m = n
      · subst hmn
        have e0 : (wv m != wv m) = false := by simp
        rw [show (m != m) = false by simp]
        go_wp2
        go_ret
        exact ⟨rfl, hw.thenCall hwr⟩
      · have e0 : (wv m != wv n) = true := by rw [wv_bne]; simpa using hmn
        rw [show (m != n) = true by simpa using hmn, show (n != m) = true by simpa using (Ne.symm hmn)]
        clear hmn
        go_wp2
        go_ret
        exact ⟨rfl, hw.thenCall hwr⟩

set_option maxHeartbeats 1600000 in
theorem onetimeIncomparable_law (m n : UInt64) (b : UInt8) (w : World) : Calls Try.prog 8 #[.int .u64 (wv m), .int .u64 (wv n), .int .u8 (bv b)] w fun e w' => e = .returned (.bool true) ∧ Below w.heap.size w w' := by
  have b0 := bv_nn b
  have b1 := bv_lt b
  go_enter Try.func8, Try.ntmps8
  go_wp2_with fail
  refine (incomparable_any m n _).mono ?_; rintro e w1 ⟨rfl, hw1⟩
  go_wp2_with fail
  rw [wv_ofInt, wv_xor]
  refine (incomparable_any m _ _).mono ?_; rintro e w2 ⟨rfl, hw2⟩
  go_wp2_with fail
  refine (awake3_any _).mono ?_; rintro e w3 ⟨rfl, hw3⟩
  go_wp2
  go_ret
  exact ⟨rfl, (hw1.thenCall hw2).thenCall hw3⟩
end Go.Proofs.Ytmoeabifkbahbaa
