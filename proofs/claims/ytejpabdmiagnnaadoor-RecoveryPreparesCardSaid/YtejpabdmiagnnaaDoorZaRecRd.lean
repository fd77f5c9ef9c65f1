/-
  Proved: for every input the law RecoveryPrepares returns true, and each argument reads afterwards as it read before; and its card, tied to the text of the program. Condition: the tables unicode/utf8.first and acceptRanges read as they were laid (tied).
-/
import Derived.Test.YtejpabdmiagnnaaDoorZaRec1
import Derived.Test.YtejpabdmiagnnaaDoorProg
import Derived.Test.YtejpabdmiagnnaaDoorCards
import Derived.Test.YtejpabdmiagnnaaDoorTie
import Derived.Test.YtejpabdmiagnnaaDoorZaRC
import Derived.Test.YtejpabdmiagnnaaDoorZaV8
import Derived.Test.YtejpabdmiagnnaaDoorZaRec7
import Derived.LaidMore
import Derived.OpenShut
import Derived.ProofKit
import Derived.SevenTiedAt
import Derived.Lib.LaidU8T
import Derived.Lib.LaidIn
set_option linter.all false
namespace Go.Proofs.YtejpabdmiagnnaaDoor
open Go.RowKit
theorem read_strs : ReadT Tryd.prog 23 (fun l : List (List UInt8) => .sl 1 (encA strC l)) (fun l => ∀ x ∈ l, x.length ≤ 9223372036854775807) := by
 have h := read_string (P := Tryd.prog) (t := 9) Tryd.underlying9
 have h3 := read_slice (P := Tryd.prog) (t := 23) (e := 1) Tryd.underlying23 (by kernel_rfl) h
 exact (h3.map (f' := fun l : List (List UInt8) => [.sl 1 (encA strC l)]) (fun l => l) (fun _ _ => rfl) (fun _ h => h)).one (by kernel_rfl)
end Go.Proofs.YtejpabdmiagnnaaDoor
namespace Go.Proofs.YtejpabdmiagnnaaDoor.recoveryPrepares
open Go.ChangeShapes Go.WideShapes Go.ChangeAt Go.RowKit Go.Lib
set_option linter.unusedVariables false
theorem own : ownKnob Tryd.prog.godebug = none := by kernel_rfl
theorem laidOut : laidOutB Tryd.prog = true := by kernel_rfl
noncomputable def laidWorld (os : Os) : World :=
 let w0 := World.doorLaid Tryd.prog 400 os
 { w0 with heap := w0.heap.modify 0 fun
   | .cells _ t frozen => .cells (Lib.firstTab.map fun z => Value.int .u8 z).toArray t frozen
   | o => o }
theorem met (os : Os) (args : Array Value) : laidMetH Tryd.prog Rows.recoveryPreparesRow.laid ((laidWorld os).forCall (fun _ _ => 0) ⟨#[], args, []⟩).memory :=
 laidMetH_of_parts3 (fuel := 8) (laidMet_of_run' 8 (by kernel_rfl) (by kernel_rfl)) (by kernel_rfl) (by kernel_rfl)
theorem good_of {W : World} (h : laidMetH Tryd.prog Rows.recoveryPreparesRow.laid W) : Good W := by
 rw [MakeChecks.laidMetH_plain _ _ _ (by kernel_rfl)] at h
 have e1 : Rows.laid_unicode_utf8_first = Lib.firstData := by kernel_rfl
 have e2 : (Rows.laid_unicode_utf8_acceptRanges : DataW Unit) = Lib.acceptData := by kernel_rfl
 have m1 : ("unicode/utf8.first", Rows.laid_unicode_utf8_first) ∈ Rows.recoveryPreparesRow.laid := .tail _ (.head _)
 have m2 : ("unicode/utf8.acceptRanges", Rows.laid_unicode_utf8_acceptRanges) ∈ Rows.recoveryPreparesRow.laid := .head _
 have r1 := Lib.laidMet.reads h m1
 have r2 := Lib.laidMet.reads h m2
 rw [e1] at r1
 rw [e2] at r2
 exact utf8Tabs_of_readsT (U8Types.of196 v8lays) ⟨by kernel_rfl, by kernel_rfl, by kernel_rfl, by kernel_rfl, by kernel_rfl, by kernel_rfl, by kernel_rfl⟩ r1 r2
set_option maxRecDepth 100000 in
theorem lifted (os : Os) (started : os.Started) (H : Type) (enc : TypeId × Value -> H) :
  ReturnsInHanded {} Tryd.checked os 3 .any (fun w args => (Rows.recoveryPreparesSpec.pre enc Tryd.prog Tryd.f3 [] false w args ∧ laidMetH Tryd.prog Rows.recoveryPreparesRow.laid w) ∧ sizedMet enc Tryd.prog Tryd.f3 (OpenSpec.ofChange Rows.recoveryPreparesSpec) false w args) (Rows.recoveryPreparesSpec.post enc Tryd.prog Tryd.f3 false true false false) := by
 refine returnsInHanded_of_change_and (C := Tryd.checked) (X := fun w _ => laidMetH Tryd.prog Rows.recoveryPreparesRow.laid w) (fun _ _ _ hh h => h.of_heap hh) own started (by kernel_rfl) Tryd.func3
  (ChangeSpec.witness_shaped (enc := enc) (C := Tryd.checked) (os := os) (X := fun w _ => laidMetH Tryd.prog Rows.recoveryPreparesRow.laid w) false (laidWorld os) #[.int .u64 0, .int .i64 0, .slice none 0 0, .int .i64 0, .int .i64 0] 8 rfl (World.shaped_of_RefB (by kernel_rfl) (by kernel_rfl)) (by kernel_rfl) (by kernel_rfl) (by kernel_rfl) (met os _)) ?_
 intro W base args ds gs before hval0 hW _ _ hL _
 have hgood : Good W := good_of hL
 have hval : ∀ (j : Nat) t v, Tryd.f3.params[j]? = some t -> args[j]? = some v -> Value.okWide Tryd.prog W .any base t v := hval0
 have hW' := hW
 obtain ⟨p, q, hA0, hV, rfl, hfz, hnd⟩ := hW
 have hA : DataW.TrodAll enc Tryd.prog W 0 (fun _ => true) true Tryd.f3.params.toList args.toList ds p := hA0
 have hall := hA
 rw [Tryd.params3] at hA hval
 obtain ⟨v0, vs0, d0, ds0, p0, q0, hargs, rfl, rfl, h0, r0⟩ := trodAll_cons hA
 obtain ⟨v1, vs1, d1, ds1, p1, q1, rfl, rfl, rfl, h1, r1⟩ := trodAll_cons r0
 obtain ⟨v2, vs2, d2, ds2, p2, q2, rfl, rfl, rfl, h2, r2⟩ := trodAll_cons r1
 obtain ⟨v3, vs3, d3, ds3, p3, q3, rfl, rfl, rfl, h3, r3⟩ := trodAll_cons r2
 obtain ⟨v4, vs4, d4, ds4, p4, q4, rfl, rfl, rfl, h4, r4⟩ := trodAll_cons r3
 obtain ⟨rfl, rfl, rfl⟩ := trodAll_nil r4
 obtain rfl : args = #[v0, v1, v2, v3, v4] := by cases args; simp_all
 obtain ⟨rfl, rfl⟩ := trodVars_none hV
 obtain ⟨x0, o0, e0⟩ := ((read_word Tryd.underlying22).one (by kernel_rfl)) H enc W base v0 d0 p0 (hval 0 22 v0 rfl rfl) h0
 obtain ⟨x1, o1, e1⟩ := ((read_int Tryd.underlying3).one (by kernel_rfl)) H enc W base v1 d1 p1 (hval 1 3 v1 rfl rfl) h1
 obtain ⟨x2, o2, e2⟩ := (read_strs) H enc W base v2 d2 p2 (hval 2 23 v2 rfl rfl) h2
 obtain ⟨x3, o3, e3⟩ := ((read_int Tryd.underlying3).one (by kernel_rfl)) H enc W base v3 d3 p3 (hval 3 3 v3 rfl rfl) h3
 obtain ⟨x4, o4, e4⟩ := ((read_int Tryd.underlying3).one (by kernel_rfl)) H enc W base v4 d4 p4 (hval 4 3 v4 rfl rfl) h4
 refine ((recoveryPrepares_law x0 x1 x2 x3 x4 o1 o2 o3 o4).law W hgood [v0, v1, v2, v3, v4] rfl (rep_cons e0 (rep_cons e1 (rep_cons e2 (rep_cons e3 (rep_cons e4 (rep_nil _ _))))))).mono fun e W' ⟨he, bel⟩ => ?_
 subst he
 exact ⟨_, rfl, _, _, _, [], _, [], hW', trodAll_mk1 (shut_bool Tryd.underlying4 _), Below.trodAll_ laidOut bel _ _ _ _ (by kernel_rfl) hall, rfl, bel.frame _, fun h => by cases h⟩
theorem over : Rows.recoveryPreparesRow.holds Tryd.pinned (OpenSpec.ofChange Rows.recoveryPreparesSpec) :=
 OpenClaim.holds_of_wide 3 Tryd.f3 rfl rfl rfl rfl rfl rfl rfl ⟨rfl, rfl, rfl, rfl, rfl⟩ rfl rfl rfl rfl rfl (by kernel_rfl) Tryd.func3 (by kernel_rfl)
  (of_decide_eq_true (by kernel_rfl)) (by unfold Func.isWrapper; first | (rw [if_pos (by decide +kernel)]; kernel_rfl) | (rw [if_neg (by decide +kernel)]; exact ⟨rfl, rfl⟩))
  (fun os started H enc _ => lifted os started H enc)
theorem proved : Rows.RecoveryPreparesCardSaid :=
 Claim7.holds_tied_plain_at .later [] [.data, .pinned] true (true, "8e4d47c34cde0db918153680695d7e23bab8418001794300e7d4381e31a393f1") false
  over (fun _ h => by cases h) (by kernel_rfl) (fun _ h => by cases h) recoveryPrepares_row_tie rfl ⟨rfl, rfl⟩ (by kernel_rfl) rfl
  (fun f fn hf hfn => by
   obtain rfl : f = 3 := Option.some.inj ((show Tryd.prog.funcNamed "passkey/passkeylaw39.RecoveryPrepares" = some 3 by kernel_rfl).symm.trans hf) |>.symm
   obtain rfl : fn = Tryd.f3 := (Option.some.inj (Tryd.func3.symm.trans hfn)).symm
   exact ⟨by kernel_rfl, fun j t ht => by
    rw [Tryd.params3] at ht
    have hall : (Tryd.f3.params.toList.all fun u => !Tryd.prog.wantsStandIn u) = true := by kernel_rfl
    have hm : t ∈ Tryd.f3.params.toList := by rw [Tryd.params3]; simpa using Array.mem_of_getElem? ht
    exact (show Tryd.prog.wantsStandIn t = false by simpa using List.all_eq_true.1 hall t hm)⟩)
  (by kernel_rfl)
#print axioms proved
end Go.Proofs.YtejpabdmiagnnaaDoor.recoveryPrepares
