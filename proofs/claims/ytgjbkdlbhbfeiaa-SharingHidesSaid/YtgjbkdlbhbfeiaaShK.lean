/-
  The bytes that Explain gives explain the shares. In plain words. No condition.
-/
import Derived.Test.YtgjbkdlbhbfeiaaShJ
namespace Go.Proofs.Ytgjbkdlbhbfeiaa
open Go.RowKit

theorem exM_tail {S : List UInt8} {K : List Sh} {i j : Nat} (hi : i < K.length) (hj : j < S.length) : cel (exM S K K.length) i (K.length + j) = (K.getD i default).2.getD j 0 ^^^ S.getD j 0 := by
  unfold cel
  rw [exM_row hi]
  unfold exRow
  have hl := exPow_len K i K.length
  rw [List.getD_eq_getElem?_getD, List.getElem?_append_right (by omega), hl, Nat.add_sub_cancel_left, List.getElem?_map, List.getElem?_range hj]; rfl
theorem exD_solves {S : List UInt8} {K : List Sh} (hK : K.length ≤ 200) (hx : ∀ i, i < K.length → u8 (K.getD i default).1 ≠ 0) (hd : ∀ i j, i < K.length → j < K.length → i ≠ j → u8 (K.getD i default).1 ≠ u8 (K.getD j default).1) :
    (exD S K).length = K.length * S.length ∧ ∀ i j, i < K.length → j < S.length → xsum (fun t => gmul ((exD S K).getD (t * S.length + j) 0) (gpow (u8 (K.getD i default).1) (t + 1))) K.length = (K.getD i default).2.getD j 0 ^^^ S.getD j 0 := by
  have hM : ∀ i j, i < K.length → j < K.length → cel (exM S K K.length) i j = gpow (u8 (K.getD i default).1) (j + 1) := fun i j hi hj => exM_cel hi hj
  have h : ∃ m, GI K.length (K.length + S.length) K.length (cel (exM S K K.length)) m :=
    (GI.start (exM_len S K K.length) (fun i hi => by rw [exM_row hi, exRow_len]) (fun i j _ _ => rfl)).ex (by omega) hK hx hd hM K.length (Nat.le_refl _)
  have hm := Classical.choose_spec h
  unfold exD
  rw [dif_pos h]
  refine ⟨gath_at hm _ (Nat.le_refl _), fun i j hi hj => ?_⟩
  rw [← exM_tail hi hj, hm.solves (by omega) hi]
  exact xsum_congr fun t ht => by rw [gath_get hm hj K.length t ht (Nat.le_refl _), hM i t hi ht, gmul_comm]
end Go.Proofs.Ytgjbkdlbhbfeiaa
