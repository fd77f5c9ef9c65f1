/-
  bytes.IndexByte. No condition.
-/
import Derived.Test.YthfipmkhadkldaaDR
import Derived.Shelf.Bytes.SlIndexAt
namespace Go.Proofs.Ythfipmkhadkldaa
open Go.RowKit

theorem bytesOf_bv (l : List UInt8) : Lib.bytesOf (l.map bv) = l := by
  unfold Lib.bytesOf
  rw [List.map_map]
  conv => rhs; rw [← List.map_id l]
  refine List.map_congr_left fun c _ => ?_
  show UInt8.ofNat (bv c).toNat = c
  unfold bv; simp
theorem run_index {P : Program} {w : World} {v : Value} {bs : List UInt8} (h : SliceAt w v (bvs bs)) (c : UInt8) : (Extern.BytealgIndexByte.indexByte #[v, .int .u8 (bv c)]).run P w = .ok (.int .i64 (Lib.indexByte bs c)) w := by
  obtain ⟨A, cap, rfl, hc, hm, hr⟩ := h
  have hcv : (bv c).toNat.toUInt8 = c := by unfold bv; simp
  rcases Nat.eq_zero_or_pos bs.length with h0 | h0
  · have : bs = [] := List.eq_nil_of_length_eq_zero h0
    subst this
    cases A with
    | none => exact Lib.run_indexByteNil w _ _ _
    | some a =>
      have := Lib.run_indexByteAt (P := P) w a 0 cap [] rfl (by simp) (bv c)
      rw [hcv] at this
      exact this
  · obtain ⟨a, rfl, _, hcell⟩ := hr.2 (by rw [bvs_len]; exact h0)
    have := Lib.run_indexByteAt (P := P) w a (bvs bs).length cap (bs.map bv) (by rw [bvs_len, List.length_map]) (fun i hi => by
      rw [bvs_len] at hi
      have := hcell i (.int .u8 (bv bs[i])) (by simp [bvs, hi])
      rw [this]; simp [hi]) (bv c)
    rw [hcv, bytesOf_bv] at this
    exact this
set_option maxHeartbeats 2000000 in
set_option maxRecDepth 1000000 in
theorem index_ret (bs : List UInt8) (c : UInt8) : Ret Try.prog 40 [.sl 1 (bytesA bs), ab c] (ai (Lib.indexByte bs c)) := by
  refine Ret.of_val fun w vs hl hr => ?_
  obtain ⟨a, b, rfl⟩ := args2 hl rfl
  rw [rep_val (hr 1 b _ rfl rfl)]
  have hs := rep_bytes (hr 0 a _ rfl rfl) (fun _ h => h)
  have hrun := run_index (P := Try.prog) hs c
  go_enter Try.func40, Try.ntmps40
  go_wp2
  rw [run_callFunc_extern Try.func50 (by kernel_rfl) (by kernel_rfl) (by kernel_rfl) (e := Extern.BytealgIndexByte.indexByte) (by kernel_rfl), hrun]
  simp only [Result.andThen]
  rw [Oper.upon_value]
  go_wp2
  go_ret
  exact ⟨rfl, Below.refl _ _⟩
theorem firstZ (bs : List UInt8) : (Lib.indexByte bs 0 = -1 ∧ ∀ i, i < bs.length → bs.getD i 0 ≠ 0) ∨ ∃ n : Nat, Lib.indexByte bs 0 = n ∧ n < bs.length ∧ bs.getD n 0 = 0 ∧ ∀ i, i < n → bs.getD i 0 ≠ 0 := by
  induction bs with
  | nil => exact .inl ⟨rfl, by simp⟩
  | cons b l ih =>
    by_cases hb : b = 0
    · subst hb
      exact .inr ⟨0, by simp [Lib.indexByte], by simp, by simp, by simp⟩
    · rcases ih with ⟨h1, h2⟩ | ⟨n, h1, h2, h3, h4⟩
      · refine .inl ⟨by simp [Lib.indexByte, hb, h1], fun i hi => ?_⟩
        cases i with
        | zero => simpa using hb
        | succ i => simpa using h2 i (by simpa using hi)
      · refine .inr ⟨n + 1, ?_, by simpa using h2, by simpa using h3, fun i hi => ?_⟩
        · simp only [Lib.indexByte, h1]
          rw [if_neg (by simpa using hb), if_neg (by simp)]; omega
        · cases i with
          | zero => simpa using hb
          | succ i => simpa using h4 i (by omega)
end Go.Proofs.Ythfipmkhadkldaa
