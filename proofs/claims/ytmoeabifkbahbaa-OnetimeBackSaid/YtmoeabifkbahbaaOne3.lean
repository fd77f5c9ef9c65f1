/-
  The contracts of onetime.Run and passkeyref3.Run: the value at a position of a chain. No condition.
-/
import Derived.Test.YtmoeabifkbahbaaOne2
namespace Go.Proofs.Ytmoeabifkbahbaa
open Go.RowKit

def stepC (leaf chain : Int) (p : Int) (x : UInt64) : UInt64 := hash 1 (words [u64 leaf, u64 chain, u64 p, x])
/-- n steps of a chain from position p on. -/
def runC (leaf chain : Int) (p : Int) (x : UInt64) : Nat → UInt64
  | 0 => x
  | n + 1 => stepC leaf chain (p + n) (runC leaf chain p x n)
theorem runC_succ (leaf chain : Int) (p : Int) (x : UInt64) (n : Nat) : runC leaf chain p x (n + 1) = hash 1 (words [u64 leaf, u64 chain, u64 (p + n), runC leaf chain p x n]) := rfl
def run (leaf chain src dst : Int) (x : UInt64) : UInt64 := runC leaf chain (max src 0) x (min dst 15 - max src 0).toNat
theorem SliceAt.four (w : World) (u v x y : Value) (e : TypeId) : SliceAt (w.alloc (.cells #[u, v, x, y] e)) (.slice (some ⟨w.heap.size, 0, none⟩) 4 4) [u, v, x, y] := SliceAt.new w #[u, v, x, y] e (by show 4 ≤ maxLen; unfold maxLen; omega)

set_option maxHeartbeats 1600000 in
theorem run_any (leaf chain src dst : Int) (x : UInt64) (w : World) :
    Calls Try.prog 29 #[.int .i64 leaf, .int .i64 chain, .int .i64 src, .int .i64 dst, .int .u64 (wv x)] w fun e w' => e = .returned (.int .u64 (wv (run leaf chain src dst x))) ∧ Below w.heap.size w w' := by
  obtain ⟨A, hA⟩ : ∃ A, Hid (A = max src 0) := ⟨_, Lib.hid rfl⟩
  obtain ⟨N, hN⟩ : ∃ N, Hid (N = (min dst 15 - A).toNat) := ⟨_, Lib.hid rfl⟩
  have hA0 : 0 ≤ A := by have := hA.out; omega
  have hAs : src ≤ A := by have := hA.out; omega
  have hrun : Hid (run leaf chain src dst x = runC leaf chain A x N) := by show _ = _; unfold run; rw [hN.out, hA.out]
  have hl := wv_ofInt leaf
  have hc := wv_ofInt chain
  go_enter Try.func29, Try.ntmps29
  go_wp2_with fail
  all_goals
    go_loopw [4, 12] (fun y p wr => ∃ k : Nat, k ≤ N ∧ p = .int .i64 (A + k) ∧ y = .int .u64 (wv (runC leaf chain A x k)) ∧ Below w.heap.size w wr) (fun _ p _ => (A + N - intOf p).toNat)
    case atStart => exact ⟨0, Nat.zero_le _, congrArg _ (by have := hA.out; omega), rfl, Below.refl _ _⟩
    case round =>
      obtain ⟨k, hk, rfl, rfl, hw⟩ := hrel
      by_cases hlt : k < N
      · have h15 : A + k < 15 := by have := hN.out; omega
        have hdst : A + k < dst := by have := hN.out; omega
        have hp := wv_ofInt (A + k)
        go_wp2_with fail
        refine (words_at _ [u64 leaf, u64 chain, u64 (A + k), runC leaf chain A x k] _ (SliceAt.four _ _ _ _ _ _) (by simp)).mono ?_; rintro e w2 ⟨v2, rfl, ho2, hw2⟩
        go_wp2_with fail
        refine (hash_any 1 _ _ _ ho2.reads).mono ?_; rintro e w3 ⟨rfl, hw3⟩
        go_wp2_with fail
        go_roundw
        case rel => exact ⟨k + 1, by omega, congrArg _ (by omega), congrArg (fun y => Value.int .u64 (wv y)) (runC_succ ..).symm, ((hw.thenNew _).thenCall hw2).thenCall hw3⟩
        case measure => simp [intOf]; omega
      · have h15 : 15 < dst → 15 ≤ A + k := by have := hN.out; omega
        have hdst : dst ≤ 15 → dst ≤ A + k := by have := hN.out; omega
        first | replace h15 := h15 ‹_› | clear h15
        first | replace hdst := hdst ‹_› | clear hdst
        obtain rfl : k = N := by omega
        go_wp2
        go_ret
        exact ⟨by rw [hrun.out]; rfl, hw⟩
set_option maxHeartbeats 1600000 in
theorem refrun_any (leaf chain src dst : Int) (x : UInt64) (w : World) :
    Calls Try.prog 30 #[.int .i64 leaf, .int .i64 chain, .int .i64 src, .int .i64 dst, .int .u64 (wv x)] w fun e w' => e = .returned (.int .u64 (wv (run leaf chain src dst x))) ∧ Below w.heap.size w w' := by
  obtain ⟨A, hA⟩ : ∃ A, Hid (A = max src 0) := ⟨_, Lib.hid rfl⟩
  obtain ⟨N, hN⟩ : ∃ N, Hid (N = (min dst 15 - A).toNat) := ⟨_, Lib.hid rfl⟩
  have hA0 : 0 ≤ A := by have := hA.out; omega
  have hAs : src ≤ A := by have := hA.out; omega
  have hrun : Hid (run leaf chain src dst x = runC leaf chain A x N) := by show _ = _; unfold run; rw [hN.out, hA.out]
  have hl := wv_ofInt leaf
  have hc := wv_ofInt chain
  rcases Int.lt_or_le 15 dst with h15d | h15d
  all_goals
    go_enter Try.func30, Try.ntmps30
    go_wp2_with fail
    all_goals
      go_loopw [4, 11] (fun y p wr => ∃ k : Nat, k ≤ N ∧ p = .int .i64 (A + k) ∧ y = .int .u64 (wv (runC leaf chain A x k)) ∧ Below w.heap.size w wr) (fun _ p _ => (A + N - intOf p).toNat)
      case atStart => exact ⟨0, Nat.zero_le _, congrArg _ (by have := hA.out; omega), rfl, Below.refl _ _⟩
      case round =>
        obtain ⟨k, hk, rfl, rfl, hw⟩ := hrel
        by_cases hlt : k < N
        · have h15 : A + k < 15 := by have := hN.out; omega
          have hdst : A + k < dst := by have := hN.out; omega
          have hp := wv_ofInt (A + k)
          go_wp2_with fail
          refine (refwords_at _ [u64 leaf, u64 chain, u64 (A + k), runC leaf chain A x k] _ (SliceAt.four _ _ _ _ _ _) (by simp)).mono ?_; rintro e w2 ⟨v2, rfl, ho2, hw2⟩
          go_wp2_with fail
          refine (refhash_any 1 _ _ _ ho2.reads (by rw [words_len]; simp)).mono ?_; rintro e w3 ⟨rfl, hw3⟩
          go_wp2_with fail
          go_roundw
          case rel => exact ⟨k + 1, by omega, congrArg _ (by omega), congrArg (fun y => Value.int .u64 (wv y)) (runC_succ ..).symm, ((hw.thenNew _).thenCall hw2).thenCall hw3⟩
          case measure => simp [intOf]; omega
        · have h15 : 15 < dst → 15 ≤ A + k := by have := hN.out; omega
          have hdst : dst ≤ 15 → dst ≤ A + k := by have := hN.out; omega
          first | replace h15 := h15 ‹_› | clear h15
          first | replace hdst := hdst ‹_› | clear hdst
          obtain rfl : k = N := by omega
          go_wp2
          go_ret
          exact ⟨by rw [hrun.out]; rfl, hw⟩
end Go.Proofs.Ytmoeabifkbahbaa
