/-
  The contract of passkeyref37.Explain, and what its result solves. No condition.
-/
import Derived.Test.YtgjbkdlbhbfeiaaShH
namespace Go.Proofs.Ytgjbkdlbhbfeiaa
open Go.RowKit

open Classical in
noncomputable def exD (S : List UInt8) (K : List Sh) : List UInt8 := if h : ∃ m, GI K.length (K.length + S.length) K.length (cel (exM S K K.length)) m then gath (Classical.choose h) K.length K.length else []
theorem exM_row {S : List UInt8} {K : List Sh} {i n : Nat} (h : i < n) : (exM S K n).getD i [] = exRow S K i S.length := by
  unfold exM
  rw [List.getD_eq_getElem?_getD, List.getElem?_map, List.getElem?_range h]; rfl
theorem exM_cel {S : List UInt8} {K : List Sh} {i j : Nat} (hi : i < K.length) (hj : j < K.length) : cel (exM S K K.length) i j = gpow (u8 (K.getD i default).1) (j + 1) := by
  unfold cel
  rw [exM_row hi]
  unfold exRow exPow
  rw [List.getD_eq_getElem?_getD, List.getElem?_append_left (by simpa using hj), List.getElem?_map, List.getElem?_range hj]; rfl
theorem explain_ret (S : List UInt8) (K : List Sh) (hK : K.length ≤ 200) (hS : S.length ≤ 100) (hD : ∀ i, i < K.length → S.length ≤ (K.getD i default).2.length) (hx : ∀ i, i < K.length → u8 (K.getD i default).1 ≠ 0) (hd : ∀ i j, i < K.length → j < K.length → i ≠ j → u8 (K.getD i default).1 ≠ u8 (K.getD j default).1) :
    Ret Try.prog 6 [.sl 1 (bytesA S), .sl 2 (encA shareC K)] (.tup [.own 1 (bytesA (exD S K)), ao true]) := by
  refine explain_raw S K hK hS hD (GI.start (exM_len S K K.length) (fun i hi => by rw [exM_row hi, exRow_len]) (fun i j _ _ => rfl)) (fun c m hg hc hz => hg.pivot hc (by omega) hK hx hd (fun i j hi hj => exM_cel hi hj) hz) (exD S K) fun m hm => ?_
  have h : ∃ m, GI K.length (K.length + S.length) K.length (cel (exM S K K.length)) m := ⟨m, hm⟩
  unfold exD
  rw [dif_pos h]
  exact hm.tails (Classical.choose_spec h) hK hx hd (fun i j hi hj => exM_cel hi hj)
end Go.Proofs.Ytgjbkdlbhbfeiaa
