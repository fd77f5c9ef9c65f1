/-
  slices.Grow of the nil slice of bytes: room, and no element. Condition: at most 2^46 bytes.
-/
import Derived.Test.YtmmnkloadooobaaDR
import Derived.Lib.AppendZerosOnto
import Derived.Lib.SliceRun
namespace Go.Proofs.Ytmmnkloadooobaa
open Go.RowKit

set_option maxHeartbeats 4000000 in
theorem grow_any (n : Nat) (w : World) (h0 : 0 < n) (hn : n ≤ 70368744177664) :
    Calls Try.prog 56 #[.slice none 0 0, .int .i64 n] w fun e w' => NewBytes w e w' [] := by
  obtain ⟨i0, hi0, hz0, hs0, hb0⟩ : ∃ i : TypeInfo, Try.prog.info? 5 = some i ∧ i.zero = some (.int .u8 0) ∧ i.size = 1 ∧ i.bytes = 1 := by
    have h := info8
    cases hp : Try.prog.info? 5 with
    | none => rw [hp] at h; cases h
    | some i => rw [hp] at h; simp at h; exact ⟨i, rfl, h⟩
  have hold : (Builtin.firstCells i0.size 0 (.slice none 0 0)).run Try.prog w.drew = .ok (([] : List Value)).toArray w.drew := run_firstCells_none w.drew i0.size 0 0 0
  have hrz : ∀ ty, (Builtin.append_ #[23, 3] ty #[.slice none 0 0, .int .i64 n]).run Try.prog w =
      .ok (.slice (some ⟨w.heap.size, 0, none⟩) n (grownCap w n 0 5)) (w.drew.alloc (.cells (#[] ++ Builtin.zeroCells (Value.int .u8 0).cells n ++ Builtin.zeroCells (Value.int .u8 0).cells (grownCap w n 0 5 - n)) 5)) := fun ty => by
    have h := Lib.run_append_grow_zeros w 23 3 ty 5 i0 (.int .u8 0) .i64 .i64 Try.underlying23 Try.underlying3 hi0 hz0 none 0 0 [] hold n h0 (by omega) (by omega) (by omega) (by rw [hb0]; omega)
      (by have := growslice_fits (bytes := i0.bytes) (show 0 < 0 + n by omega) (by rw [hb0]; omega); exact this)
    simpa using h
  have hGn : n ≤ grownCap w n 0 5 := grownCap_ge w _ _ _
  obtain ⟨G, hG⟩ : ∃ G, G = grownCap w n 0 5 := ⟨_, rfl⟩
  rw [← hG] at hrz hGn
  have hG63 : G ≤ 9223372036854775807 := by
    have := grownCap_le_maxLen w n 0 5 (by unfold maxLen; omega)
    rw [← hG] at this
    unfold maxLen at this
    omega
  clear hold hG
  have h1 : ¬ ((n : Int) < 0) := by omega
  have h3 : wrap64 ((n : Int) - 0) = (n : Int) := by unfold wrap64; omega
  have h4 : (n : Int) > 0 := by omega
  go_enter Try.func56, Try.ntmps56
  go_wp2_with (at_builtin; refine Lib.wpList_append_run _ rfl _ _ _ _ rfl _ _ rfl rfl _ _ (hrz _) ?_)
  all_goals (go_ret; exact ⟨_, rfl, .inr ⟨w.heap.size, G, _, _, (0, 0), rfl, Nat.le_refl _, heap_alloc_new w.drew _, by simp [bvs], by unfold maxLen; omega, by simp [Builtin.zeroCells]; omega, by simp [bvs], by simp⟩, rfl, rfl, rfl, by simp, fun b hb => Below.heap_alloc w.drew _ b hb⟩)
theorem grow0_any (w : World) :
    Calls Try.prog 56 #[.slice none 0 0, .int .i64 0] w fun e w' => NewBytes w e w' [] := by
  go_enter Try.func56, Try.ntmps56
  go_wp2
  go_ret
  exact ⟨_, rfl, .inl ⟨rfl, rfl⟩, Below.refl _ _⟩
theorem grow_ret (n : Nat) (hn : n ≤ 70368744177664) : Ret Try.prog 56 [.nil, ai n] (.own 1 (bytesA [])) := by
  refine Ret.of_bytes fun w vs hl hr => ?_
  obtain ⟨a, b, rfl⟩ := args2 hl rfl
  have h0 := hr 0 a _ rfl rfl
  have ha : a = .slice none 0 0 := by cases h0; rfl
  rw [ha, rep_val (hr 1 b _ rfl rfl)]
  by_cases h : n = 0
  · subst h; exact grow0_any w
  · exact grow_any n w (by omega) hn
end Go.Proofs.Ytmmnkloadooobaa
