/-
  Rows whose cells own rows, at a place that is not known: a row of plain cells is opened and shut again. No condition.
-/
import Derived.Test.YtgjbkdlbhbfeiaaRF
namespace Go.Proofs.Ytgjbkdlbhbfeiaa
open Go.RowKit

/-- A row of plain cells may hold cells of any kind. -/
theorem Weaks.unpure {s : AS} (id : Nat) {r : Row} (hr : look s.H id = some r) (hp : r.pure = true) : Weaks s ⟨s.F, (id, ⟨r.e, false, r.full, r.cells⟩) :: drop_ s.H id⟩ := by
  intro S0 w0 n a w ⟨φ, hs⟩
  have hlk : ∀ i, look ((id, (⟨r.e, false, r.full, r.cells⟩ : Row)) :: drop_ s.H id) i = if id = i then some ⟨r.e, false, r.full, r.cells⟩ else look s.H i := by
    intro i
    rw [look_cons, look_drop]
    by_cases e : id = i <;> simp [e]
  have hI : infoOf ((id, (⟨r.e, false, r.full, r.cells⟩ : Row)) :: drop_ s.H id) φ = infoOf s.H φ := by
    funext i
    unfold infoOf
    rw [hlk]
    by_cases e : id = i
    · subst e; rw [if_pos rfl, hr]; rfl
    · rw [if_neg e]
  refine ⟨φ, hs.tsz, hs.dfr, hs.bel, fun i av hi => ?_, fun i q hq => ?_, fun i hi => ?_, hs.inj, hs.rng, hs.apart, hs.new⟩
  · simp only [hI]; exact hs.slots i av hi
  · simp only [hI]
    simp only [hlk] at hq
    by_cases e : id = i
    · subst e
      rw [if_pos rfl] at hq; injection hq with hq; subst hq
      have hrow := hs.rows id r hr
      unfold RowDen at hrow ⊢
      cases hg : φ id with
      | none => rw [hg] at hrow; simpa using hrow
      | some g =>
        rw [hg] at hrow
        obtain ⟨cur, te, fr, u1, u2, u3, u4, u5⟩ := hrow
        refine ⟨cur, te, fr, u1, u2, u3, u4, fun k u x hu hx => ?_⟩
        have := u5 k u x hu hx
        unfold CellDen at this ⊢
        rw [hp] at this
        exact .rep this
    · rw [if_neg e] at hq; exact hs.rows i q hq
  · simp only [hlk] at hi
    by_cases e : id = i
    · subst e; rw [if_pos rfl] at hi; cases hi
    · rw [if_neg e] at hi; exact hs.only i hi
/-- A row whose cells all are plain. -/
theorem Weaks.repure {s : AS} (id : Nat) {r : Row} (hr : look s.H id = some r) (hp : r.pure = false) (hl : plainL r.cells = true) : Weaks s ⟨s.F, (id, ⟨r.e, true, r.full, r.cells⟩) :: drop_ s.H id⟩ := by
  intro S0 w0 n a w ⟨φ, hs⟩
  have hlk : ∀ i, look ((id, (⟨r.e, true, r.full, r.cells⟩ : Row)) :: drop_ s.H id) i = if id = i then some ⟨r.e, true, r.full, r.cells⟩ else look s.H i := by
    intro i
    rw [look_cons, look_drop]
    by_cases e : id = i <;> simp [e]
  have hI : infoOf ((id, (⟨r.e, true, r.full, r.cells⟩ : Row)) :: drop_ s.H id) φ = infoOf s.H φ := by
    funext i
    unfold infoOf
    rw [hlk]
    by_cases e : id = i
    · subst e; rw [if_pos rfl, hr]; rfl
    · rw [if_neg e]
  refine ⟨φ, hs.tsz, hs.dfr, hs.bel, fun i av hi => ?_, fun i q hq => ?_, fun i hi => ?_, hs.inj, hs.rng, hs.apart, hs.new⟩
  · simp only [hI]; exact hs.slots i av hi
  · simp only [hI]
    simp only [hlk] at hq
    by_cases e : id = i
    · subst e
      rw [if_pos rfl] at hq; injection hq with hq; subst hq
      have hrow := hs.rows id r hr
      unfold RowDen at hrow ⊢
      cases hg : φ id with
      | none => rw [hg] at hrow; simpa using hrow
      | some g =>
        rw [hg] at hrow
        obtain ⟨cur, te, fr, u1, u2, u3, u4, u5⟩ := hrow
        refine ⟨cur, te, fr, u1, u2, u3, u4, fun k u x hu hx => ?_⟩
        have := u5 k u x hu hx
        unfold CellDen at this ⊢
        rw [hp] at this
        exact (plain0_rep this (plainL_at hl hx)).1
    · rw [if_neg e] at hq; exact hs.rows i q hq
  · simp only [hlk] at hi
    by_cases e : id = i
    · subst e; rw [if_pos rfl] at hi; cases hi
    · rw [if_neg e] at hi; exact hs.only i hi
/-- A row of plain cells is read only from now on. -/
theorem Weaks.thaw {s : AS} (id : Nat) {r : Row} (hr : look s.H id = some r) (hp : r.pure = true) : Weaks s (Go.Proofs.Ytgjbkdlbhbfeiaa.thaw id r s) := by
  intro S0 w0 n a w ⟨φ, hs⟩
  exact ⟨_, hs.thaw_ hr hp⟩
end Go.Proofs.Ytgjbkdlbhbfeiaa
