/-
  The laws OnetimeSplits, OnetimeRuns and OnetimeForward: each returns true at every input.
-/
import Derived.Test.YtmoeabifkbahbaaOne3
import Derived.Test.YtmoeabifkbahbaaLaw2
namespace Go.Proofs.Ytmoeabifkbahbaa
open Go.RowKit

theorem Own.int_at {w : World} {base g n cap i : Nat} {l : List Int} (h : Own w base (.slice (some ⟨g, 0, none⟩) n cap) (ivs l)) (hi : i < l.length) : w.cell? ⟨g, i, none⟩ = some (.int .i64 (l.getD i 0)) := by
  have h1 := (h.cell (i := i) (by rw [ivs_len]; exact hi)).1
  rw [h1]
  simp [ivs, hi]
theorem digs_0 : digs 0 = [0, 0, 0, 0, 0, 0, 0, 0, 0, 0, 0, 0, 0, 0, 0, 0, 15, 0] := by decide
theorem digs_max : digs 18446744073709551615 = [15, 15, 15, 15, 15, 15, 15, 15, 15, 15, 15, 15, 15, 15, 15, 15, 0, 0] := by decide

set_option maxHeartbeats 1600000 in
theorem awake3_any (w : World) : Calls Try.prog 27 #[] w fun e w' => e = .returned (.bool true) ∧ Below w.heap.size w w' := by
  go_enter Try.func27, Try.ntmps27
  go_wp2_with fail
  refine (split_any 0 _).mono ?_; rintro e w1 ⟨v1, rfl, ho1, hw1⟩
  go_wp2_with fail
  refine (split_any 18446744073709551615 _).mono ?_; rintro e w2 ⟨v2, rfl, ho2, hw2⟩
  have ho1' := ho1.below hw2 (Nat.le_refl _)
  obtain ⟨g1, c1, rfl, -, -, -, -⟩ := ho1.form (by rw [ivs_len, digs_len]; decide)
  obtain ⟨g2, c2, rfl, -, -, -, -⟩ := ho2.form (by rw [ivs_len, digs_len]; decide)
  have a0 : w2.cell? ⟨g1, 0, none⟩ = some (.int .i64 0) := by rw [ho1'.int_at (by rw [digs_len]; decide), digs_0]; rfl
  have a16 : w2.cell? ⟨g1, 16, none⟩ = some (.int .i64 15) := by rw [ho1'.int_at (by rw [digs_len]; decide), digs_0]; rfl
  have a17 : w2.cell? ⟨g1, 17, none⟩ = some (.int .i64 0) := by rw [ho1'.int_at (by rw [digs_len]; decide), digs_0]; rfl
  have b0 : w2.cell? ⟨g2, 0, none⟩ = some (.int .i64 15) := by rw [ho2.int_at (by rw [digs_len]; decide), digs_max]; rfl
  have b16 : w2.cell? ⟨g2, 16, none⟩ = some (.int .i64 0) := by rw [ho2.int_at (by rw [digs_len]; decide), digs_max]; rfl
  have b17 : w2.cell? ⟨g2, 17, none⟩ = some (.int .i64 0) := by rw [ho2.int_at (by rw [digs_len]; decide), digs_max]; rfl
  rw [ivs_len, digs_len, ivs_len, digs_len]
  clear ho1 ho2 ho1'
  go_wp2_with fail
  refine (run_any 1 2 5 5 9 _).mono ?_; rintro e w3 ⟨rfl, hw3⟩
  rw [show run 1 2 5 5 9 = 9 from rfl]
  clear a0 a16 a17 b0 b16 b17
  go_wp2
  go_ret
  exact ⟨rfl, (hw1.thenCall hw2).thenCall hw3⟩

set_option maxHeartbeats 800000 in
theorem onetimeSplits_law (m : UInt64) (w : World) : Calls Try.prog 7 #[.int .u64 (wv m)] w fun e w' => e = .returned (.bool true) ∧ Below w.heap.size w w' := by
  go_enter Try.func7, Try.ntmps7
  go_wp2_with fail
  refine (split_any m _).mono ?_; rintro e w1 ⟨v1, rfl, ho1, hw1⟩
  go_wp2_with fail
  refine (refsplit_any m _).mono ?_; rintro e w2 ⟨v2, rfl, ho2, hw2⟩
  go_wp2_with fail
  refine (ints_eq _ _ _ _ (ho1.reads.below hw2) ho2.reads).mono ?_; rintro e w3 ⟨rfl, hw3⟩
  go_wp2_with fail
  refine (awake3_any _).mono ?_; rintro e w4 ⟨rfl, hw4⟩
  go_wp2
  go_ret
  exact ⟨rfl, ((hw1.thenCall hw2).thenCall hw3).thenCall hw4⟩

set_option maxHeartbeats 1600000 in
theorem onetimeRuns_law (leaf chain src dst : Int) (x : UInt64) (w : World) : Calls Try.prog 9 #[.int .i64 leaf, .int .i64 chain, .int .i64 src, .int .i64 dst, .int .u64 (wv x)] w fun e w' => e = .returned (.bool true) ∧ Below w.heap.size w w' := by
  go_enter Try.func9, Try.ntmps9
  go_wp2_with fail
  refine (run_any _ _ _ _ _ _).mono ?_; rintro e w1 ⟨rfl, hw1⟩
  go_wp2_with fail
  refine (refrun_any _ _ _ _ _ _).mono ?_; rintro e w2 ⟨rfl, hw2⟩
  go_wp2_with fail
  refine (run_any _ _ _ _ _ _).mono ?_; rintro e w3 ⟨rfl, hw3⟩
  go_wp2_with fail
  refine (refrun_any _ _ _ _ _ _).mono ?_; rintro e w4 ⟨rfl, hw4⟩
  go_wp2_with fail
  refine (awake3_any _).mono ?_; rintro e w5 ⟨rfl, hw5⟩
  go_wp2
  go_ret
  exact ⟨rfl, (((hw1.thenCall hw2).thenCall hw3).thenCall hw4).thenCall hw5⟩

theorem runC_add (leaf chain p : Int) (x : UInt64) (a b : Nat) : runC leaf chain p x (a + b) = runC leaf chain (p + a) (runC leaf chain p x a) b := by
  induction b with
  | zero => rfl
  | succ b ih =>
    show runC leaf chain p x (a + b + 1) = _
    rw [runC_succ, runC_succ, ih, show p + ((a + b : Nat) : Int) = p + a + b by omega]
theorem run_split (leaf chain p q r : Int) (x : UInt64) (h0 : 0 ≤ p) (h1 : p ≤ q) (h2 : q ≤ r) (hp : p ≤ 15) : run leaf chain p r x = run leaf chain q r (run leaf chain p q x) := by
  unfold run
  rw [show max p 0 = p by omega, show max q 0 = q by omega]
  by_cases hq : q ≤ 15
  · have e : (min r 15 - p).toNat = (q - p).toNat + (min r 15 - q).toNat := by omega
    rw [e, runC_add, show min q 15 = q by omega, show p + ((q - p).toNat : Int) = q by omega]
  · rw [show (min r 15 - q).toNat = 0 by omega, show min r 15 = 15 by omega, show min q 15 = 15 by omega]; rfl
set_option maxHeartbeats 1600000 in
theorem onetimeForward_law (leaf chain a b c : UInt8) (x : UInt64) (w : World) : Calls Try.prog 10 #[.int .u8 (bv leaf), .int .u8 (bv chain), .int .u8 (bv a), .int .u8 (bv b), .int .u8 (bv c), .int .u64 (wv x)] w fun e w' => e = .returned (.bool true) ∧ Below w.heap.size w w' := by
  have l0 := bv_nn leaf
  have l1 := bv_lt leaf
  have c0 := bv_nn chain
  have c1 := bv_lt chain
  have a0 := bv_nn a
  have a1 := bv_lt a
  have b0 := bv_nn b
  have b1 := bv_lt b
  have d0 := bv_nn c
  have d1 := bv_lt c
  have hs : Hid (run (bv leaf) (bv chain) (bv a % 16) (bv a % 16 + bv b % 16 + bv c % 16) x = run (bv leaf) (bv chain) (bv a % 16 + bv b % 16) (bv a % 16 + bv b % 16 + bv c % 16) (run (bv leaf) (bv chain) (bv a % 16) (bv a % 16 + bv b % 16) x)) := run_split _ _ _ _ _ _ (by omega) (by omega) (by omega) (by omega)
  go_enter Try.func10, Try.ntmps10
  go_wp2_with fail
  refine (run_any _ _ _ _ _ _).mono ?_; rintro e w1 ⟨rfl, hw1⟩
  go_wp2_with fail
  refine (run_any _ _ _ _ _ _).mono ?_; rintro e w2 ⟨rfl, hw2⟩
  go_wp2_with fail
  refine (run_any _ _ _ _ _ _).mono ?_; rintro e w3 ⟨rfl, hw3⟩
  rw [hs.out]
  go_wp2_with fail
  refine (awake3_any _).mono ?_; rintro e w5 ⟨rfl, hw5⟩
  go_wp2
  go_ret
  exact ⟨rfl, ((hw1.thenCall hw2).thenCall hw3).thenCall hw5⟩
end Go.Proofs.Ytmoeabifkbahbaa
