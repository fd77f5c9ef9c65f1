/-
  The elimination's result is the only one. In plain words. No condition.
-/
import Derived.Test.YtgjbkdlbhbfeiaaShE2
namespace Go.Proofs.Ytgjbkdlbhbfeiaa
open Go.RowKit

theorem getD_in {l : List UInt8} {k : Nat} (h : k < l.length) : l.getD k 0 = l[k] := by
  rw [List.getD_eq_getElem?_getD, List.getElem?_eq_getElem h]; rfl
theorem GI.unique {n s : Nat} {M0 : Nat → Nat → UInt8} {m m' : List (List UInt8)} (h : GI n (n + s) n M0 m) (h' : GI n (n + s) n M0 m') (h200 : n ≤ 200) {x : Nat → UInt8} (hx : ∀ i, i < n → x i ≠ 0) (hd : ∀ i j, i < n → j < n → i ≠ j → x i ≠ x j)
    (hM : ∀ i j, i < n → j < n → M0 i j = gpow (x i) (j + 1)) {d j : Nat} (hdn : d < n) (hj : j < s) : cel m d (n + j) = cel m' d (n + j) := by
  let v : Nat → UInt8 := fun d => cel m d (n + j) ^^^ cel m' d (n + j)
  have hp : PolyLt n (fun y => xsum (fun d => gmul (v d) (gpow y d)) n) := ⟨v, fun _ => rfl⟩
  have h0 := hp.zeros x hd (fun i hi => by
    refine gmul_eq_zero ?_ (hx i hi)
    have e1 := h.solves (j := j) (by omega) hi
    have e2 := h'.solves (j := j) (by omega) hi
    have e3 : xsum (fun d => gmul (M0 i d) (cel m d (n + j)) ^^^ gmul (M0 i d) (cel m' d (n + j))) n = 0 := by rw [xsum_add, ← e1, ← e2, UInt8.xor_self]
    rw [xsum_mul, ← e3]
    exact xsum_congr fun t ht => by rw [hM i t hi ht, ← gmul_addR, gmul_assoc, ← gpow_succ, gmul_comm])
  have := coef_zero n v h200 h0 d hdn
  have e := congrArg (fun z => z ^^^ cel m' d (n + j)) this
  simp only [v, UInt8.xor_assoc, UInt8.xor_self, UInt8.xor_zero, UInt8.zero_xor] at e
  exact e
theorem GI.tails {n s : Nat} {M0 : Nat → Nat → UInt8} {m m' : List (List UInt8)} (h : GI n (n + s) n M0 m) (h' : GI n (n + s) n M0 m') (h200 : n ≤ 200) {x : Nat → UInt8} (hx : ∀ i, i < n → x i ≠ 0) (hd : ∀ i j, i < n → j < n → i ≠ j → x i ≠ x j)
    (hM : ∀ i j, i < n → j < n → M0 i j = gpow (x i) (j + 1)) : gath m n n = gath m' n n := by
  unfold gath
  congr 1
  apply List.map_congr_left
  intro d hd'
  have hdn := List.mem_range.1 hd'
  have l1 := h.row d hdn
  have l2 := h'.row d hdn
  apply List.ext_getElem (by rw [List.length_drop, List.length_drop, l1, l2])
  intro j h1 h2
  rw [List.length_drop, l1] at h1
  have := h.unique h' h200 hx hd hM hdn (j := j) (by omega)
  unfold cel at this
  rw [getD_in (show n + j < (m.getD d []).length by omega), getD_in (show n + j < (m'.getD d []).length by omega)] at this
  rw [List.getElem_drop, List.getElem_drop]
  exact this
end Go.Proofs.Ytgjbkdlbhbfeiaa
