/-
  Proved: for every input the law SharingHides returns true, and each argument reads afterwards as it read before. No condition.
-/
import Derived.Test.YtgjbkdlbhbfeiaaRows
import Derived.Test.YtgjbkdlbhbfeiaaRC
import Derived.Test.YtgjbkdlbhbfeiaaShM
namespace Go.Proofs.Ytgjbkdlbhbfeiaa.sharingHides
open Go.ChangeShapes Go.WideShapes Go.ChangeAt Go.RowKit
set_option linter.unusedVariables false

theorem own : ownKnob Try.prog.godebug = none := by kernel_rfl
theorem laidOut : laidOutB Try.prog = true := by kernel_rfl
set_option maxRecDepth 100000 in
theorem lifted (os : Os) (started : os.Started) (H : Type) (enc : TypeId × Value → H) :
    ReturnsInHanded {} Try.checked os 3 .any (Rows.sharingHidesSpec.pre6 enc Try.prog Try.f3 Rows.sharingHidesRow.domain false) (Rows.sharingHidesSpec.post enc Try.prog Try.f3 false true false false) := by
  refine returnsInHanded_of_change (C := Try.checked) own started (by kernel_rfl) Try.func3
    (ChangeSpec.witness6 (enc := enc) (C := Try.checked) false ⟨#[], #[.slice none 0 0, .slice none 0 0, .slice none 0 0, .int .u8 0, .int .u8 0, .slice none 0 0], []⟩ 8 (by kernel_rfl) (by kernel_rfl) (by kernel_rfl) (by kernel_rfl)) ?_
  intro W base args ds gs before hval0 hW hcnd _
  have hval : ∀ (j : Nat) t v, Try.f3.params[j]? = some t → args[j]? = some v → Value.okWide Try.prog W .any base t v := hval0
  have hW' := hW
  obtain ⟨p, q, hA0, hV, rfl, hfz, hnd⟩ := hW
  have hA : DataW.TrodAll enc Try.prog W 0 (fun _ => true) true Try.f3.params.toList args.toList ds p := hA0
  have hall := hA
  rw [Try.params3] at hA hval
  obtain ⟨v0, vs0, d0, ds0, p0, q0, hargs, rfl, rfl, h0, r0⟩ := trodAll_cons hA
  obtain ⟨v1, vs1, d1, ds1, p1, q1, rfl, rfl, rfl, h1, r1⟩ := trodAll_cons r0
  obtain ⟨v2, vs2, d2, ds2, p2, q2, rfl, rfl, rfl, h2, r2⟩ := trodAll_cons r1
  obtain ⟨v3, vs3, d3, ds3, p3, q3, rfl, rfl, rfl, h3, r3⟩ := trodAll_cons r2
  obtain ⟨v4, vs4, d4, ds4, p4, q4, rfl, rfl, rfl, h4, r4⟩ := trodAll_cons r3
  obtain ⟨v5, vs5, d5, ds5, p5, q5, rfl, rfl, rfl, h5, r5⟩ := trodAll_cons r4
  obtain ⟨rfl, rfl, rfl⟩ := trodAll_nil r5
  obtain rfl : args = #[v0, v1, v2, v3, v4, v5] := by cases args; simp_all
  obtain ⟨rfl, rfl⟩ := trodVars_none hV
  obtain ⟨x0, o0, e0⟩ := ((read_bytes Try.underlying22 Try.underlying5 (by kernel_rfl)).one (by kernel_rfl)) H enc W base v0 d0 p0 (hval 0 22 v0 rfl rfl) h0
  obtain ⟨x1, o1, e1⟩ := ((read_bytes Try.underlying22 Try.underlying5 (by kernel_rfl)).one (by kernel_rfl)) H enc W base v1 d1 p1 (hval 1 22 v1 rfl rfl) h1
  obtain ⟨x2, o2, e2⟩ := ((read_bytes Try.underlying22 Try.underlying5 (by kernel_rfl)).one (by kernel_rfl)) H enc W base v2 d2 p2 (hval 2 22 v2 rfl rfl) h2
  obtain ⟨x3, o3, e3⟩ := ((read_byte Try.underlying5).one (by kernel_rfl)) H enc W base v3 d3 p3 (hval 3 5 v3 rfl rfl) h3
  obtain ⟨x4, o4, e4⟩ := ((read_byte Try.underlying5).one (by kernel_rfl)) H enc W base v4 d4 p4 (hval 4 5 v4 rfl rfl) h4
  obtain ⟨x5, o5, e5⟩ := ((read_bytes Try.underlying22 Try.underlying5 (by kernel_rfl)).one (by kernel_rfl)) H enc W base v5 d5 p5 (hval 5 22 v5 rfl rfl) h5
  refine ((sharingHides_law x0 x1 x2 x3 x4 x5).law W [v0, v1, v2, v3, v4, v5] rfl (rep_cons e0 (rep_cons e1 (rep_cons e2 (rep_cons e3 (rep_cons e4 (rep_cons e5 (rep_nil _ _)))))))).mono fun e W' ⟨he, bel⟩ => ?_
  subst he
  exact ⟨_, rfl, _, _, _, [], _, [], hW', trodAll_mk1 (shut_bool Try.underlying4 _), Below.trodAll_ laidOut bel _ _ _ _ (by kernel_rfl) hall, rfl, bel.frame _, fun h => by cases h⟩

theorem over : Rows.sharingHidesRow.holds Try.pinned (OpenSpec.ofChange Rows.sharingHidesSpec) :=
  OpenClaim.holds_of_wide 3 Try.f3 rfl rfl rfl rfl rfl rfl rfl ⟨rfl, rfl, rfl, rfl, rfl⟩ rfl rfl rfl rfl rfl (by kernel_rfl) Try.func3 (by kernel_rfl)
    (of_decide_eq_true (by kernel_rfl)) (by unfold Func.isWrapper; first | (rw [if_pos (by decide +kernel)]; kernel_rfl) | (rw [if_neg (by decide +kernel)]; exact ⟨rfl, rfl⟩))
    (fun os started H enc _ => lifted os started H enc)

/-- The statement. -/
theorem proved : Rows.SharingHidesSaid := over
#print axioms proved
end Go.Proofs.Ytgjbkdlbhbfeiaa.sharingHides
