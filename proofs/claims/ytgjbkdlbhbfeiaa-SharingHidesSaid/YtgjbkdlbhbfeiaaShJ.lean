/-
  What Explain gives solves the equations. In plain words. No condition.
-/
import Derived.Test.YtgjbkdlbhbfeiaaShI
namespace Go.Proofs.Ytgjbkdlbhbfeiaa
open Go.RowKit

theorem GJ.clear {n W c : Nat} {M0 : Nat → Nat → UInt8} {m : List (List UInt8)} (h : GJ n W c 0 M0 m) (hc : c < n) (hW : n ≤ W) : ∀ i, i ≤ n → ∃ m', GJ n W c i M0 m'
  | 0, _ => ⟨m, h⟩
  | i + 1, hi => by
    obtain ⟨m', h'⟩ := GJ.clear h hc hW i (by omega)
    by_cases e : i = c
    · subst e; exact ⟨m', h'.skip⟩
    · exact ⟨_, h'.add hc (by omega) (by omega) e⟩
theorem GI.ex {n W : Nat} {M0 : Nat → Nat → UInt8} {m : List (List UInt8)} (h : GI n W 0 M0 m) (hW : n ≤ W) (h200 : n ≤ 200) {x : Nat → UInt8} (hx : ∀ i, i < n → x i ≠ 0) (hd : ∀ i j, i < n → j < n → i ≠ j → x i ≠ x j)
    (hM : ∀ i j, i < n → j < n → M0 i j = gpow (x i) (j + 1)) : ∀ c, c ≤ n → ∃ m', GI n W c M0 m'
  | 0, _ => ⟨m, h⟩
  | c + 1, hc => by
    obtain ⟨m', h'⟩ := GI.ex h hW h200 hx hd hM c (by omega)
    by_cases hp : ∃ p, c ≤ p ∧ p < n ∧ cel m' p c ≠ 0
    · obtain ⟨p, h1, h2, h3⟩ := hp
      obtain ⟨m2, h4⟩ := (h'.swap h1 h2 h3).clear (by omega) hW n (Nat.le_refl _)
      exact ⟨m2, h4.next⟩
    · exfalso
      refine h'.pivot (by omega) hW h200 hx hd hM fun p h1 h2 => ?_
      apply Decidable.byContradiction
      intro h3
      exact hp ⟨p, h1, h2, h3⟩
theorem gath_get {n s c : Nat} {M0 : Nat → Nat → UInt8} {m : List (List UInt8)} (h : GI n (n + s) c M0 m) {j : Nat} (hj : j < s) : ∀ d e, e < d → d ≤ n → (gath m n d).getD (e * s + j) 0 = cel m e (n + j)
  | 0, e, he, _ => by omega
  | d + 1, e, he, hd => by
    have hl := gath_at h d (by omega)
    rw [← gath_succ, List.getD_eq_getElem?_getD]
    by_cases h1 : e < d
    · have := Nat.mul_le_mul_right s (show e + 1 ≤ d by omega)
      rw [Nat.add_mul, Nat.one_mul] at this
      rw [List.getElem?_append_left (by omega), ← List.getD_eq_getElem?_getD]
      exact gath_get h hj d e h1 (by omega)
    · have e1 : e = d := by omega
      subst e1
      rw [List.getElem?_append_right (by omega), hl, Nat.add_sub_cancel_left, List.getElem?_drop]
      unfold cel
      rw [List.getD_eq_getElem?_getD (l := m.getD e [])]
end Go.Proofs.Ytgjbkdlbhbfeiaa
