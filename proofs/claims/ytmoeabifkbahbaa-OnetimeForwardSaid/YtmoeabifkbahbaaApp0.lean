/-
  The law of append(s, make([]T, m)...). Over any program. No condition.
-/
import Derived.Test.YtmoeabifkbahbaaOwn
namespace Go.Proofs.Ytmoeabifkbahbaa
open Go.RowKit

theorem zeroCells_rep (z : Value) (h : z.cells.size = 1) (n : Nat) : (Builtin.zeroCells z.cells n).toList = List.replicate n (z.cells.getD 0 undef) := by
  unfold Builtin.zeroCells
  apply List.ext_getElem?
  intro j
  simp only [Array.getElem?_toList, List.getElem?_replicate]
  simp only [Array.getElem?_map, h, Nat.mod_one, Nat.mul_one]
  by_cases hj : j < n
  · simp [hj, h]
  · simp [hj]

section
variable {P : Program} (w : World)
/-- 'append(s, make([]T, m)...)'. -/
theorem run_app0 {t tx ty e : TypeId} {z : Value} {bytes : Nat} {k kx : IntKind} (E : ElemT P t e z bytes) (hx : P.underlying tx = some (.int kx)) (base : Nat) (v : Value) (xs : List Value) (hown : Own w base v xs)
    (m : Nat) (h1 : (z.cells.getD 0 undef).oneCell' = true) (hbytes : (xs.length + m) * bytes ≤ 140737488355328) (hbase : base ≤ w.heap.size) :
    ∃ v' w', (Builtin.append_ #[t, tx] ty #[v, .int k m]).run P w = .ok v' w' ∧ Own w' base v' (xs ++ List.replicate m (z.cells.getD 0 undef)) ∧ w.grownBy w' v.ownBlock ∧
      (v'.ownBlock = v.ownBlock ∨ v'.ownBlock = some w.heap.size) := by
  obtain ⟨i, hi, hz, hsize, hby⟩ := E.hi
  have hb := E.hb
  have hle : xs.length + m ≤ (xs.length + m) * bytes := Nat.le_mul_of_pos_right _ hb
  have hmb : m * bytes ≤ (xs.length + m) * bytes := Nat.mul_le_mul_right _ (by omega)
  have hn63 : xs.length + m ≤ maxLen := by unfold maxLen; omega
  have hzc : z.cells.size = 1 := E.hz
  have hwr : IntKind.i64.wrap (m : Int) = (m : Int) := by rw [IntKind.wrap_i64]; omega
  have hneg : ¬ ((m : Int) < 0) := by omega
  have h48 : ¬ (281474976710656 < (m : Int) * (bytes : Int)) := by
    have : ((m * bytes : Nat) : Int) ≤ 281474976710656 := by omega
    rw [Int.natCast_mul] at this; omega
  have hzr := zeroCells_rep z hzc m
  have hza : Builtin.zeroCells z.cells m = (List.replicate m (z.cells.getD 0 undef)).toArray := by rw [← hzr]
  have grownA : ∀ (old : Nat) (row : Option Nat),
      Own (w.drew.alloc (.cells (xs.toArray ++ (List.replicate m (z.cells.getD 0 undef)).toArray ++ Builtin.zeroCells z.cells (grownCap w (xs.length + m) old e - (xs.length + m))) e)) base
        (.slice (some ⟨w.heap.size, 0, none⟩) (xs.length + m) (grownCap w (xs.length + m) old e)) (xs ++ List.replicate m (z.cells.getD 0 undef)) ∧
      w.grownBy (w.drew.alloc (.cells (xs.toArray ++ (List.replicate m (z.cells.getD 0 undef)).toArray ++ Builtin.zeroCells z.cells (grownCap w (xs.length + m) old e - (xs.length + m))) e)) row := by
    intro old row
    have hge := grownCap_ge w (xs.length + m) old e
    have hcm : grownCap w (xs.length + m) old e ≤ maxLen := grownCap_le_maxLen w _ old e hn63
    refine ⟨.inr ⟨w.heap.size, _, _, e, (0, 0), by simp, hbase, heap_alloc_new w.drew _, by simpa using hge, hcm, ?_, ?_, by simp⟩, ⟨rfl, rfl, rfl, by simp, fun k hk _ => Below.heap_alloc w.drew _ k hk⟩⟩
    · simp only [Array.size_append, List.size_toArray, size_zeroCells, hzc, Nat.mul_one, List.length_replicate]
      omega
    · simp only [Array.toList_append, List.append_assoc]
      rw [← List.append_assoc]
      exact List.take_left
  have hone : ∀ u ∈ List.replicate m (z.cells.getD 0 undef), u.oneCell' = true := by
    intro u hu; rw [List.mem_replicate] at hu; rw [hu.2]; exact h1
  have hsm : ¬ (9223372036854775807 < ((xs.length : Int) + (m : Int))) := by simp only [maxLen] at hn63; omega
  by_cases hm : m = 0
  · subst hm
    refine ⟨v, w, ?_, by simpa using hown, World.grownBy.refl w _, .inl rfl⟩
    have hw0 : IntKind.i64.wrap 0 = 0 := by decide
    rcases hown with ⟨rfl, rfl⟩ | ⟨g, cap, cur, te, fr, rfl, hb, hg, hnc, hcm, hs, ht, hf⟩
    · simp [Builtin.append_, run_underlying E.ht, run_underlying hx, sizeOf, typeInfo, hi, asInt, asIntOf, hw0]
    · simp [Builtin.append_, run_underlying E.ht, run_underlying hx, sizeOf, typeInfo, hi, asInt, asIntOf, hw0, hnc, storeCells]
  · rcases hown with ⟨rfl, rfl⟩ | ⟨g, cap, cur, te, fr, rfl, hb, hg, hnc, hcm, hs, ht, hf⟩
    · have hgr := grownA 0 (Value.ownBlock (.slice none 0 0))
      simp only [List.length_nil, Nat.zero_add, List.nil_append, Array.empty_append] at hgr ⊢
      refine ⟨_, _, ?_, hgr.1, hgr.2, .inr rfl⟩
      have hcap : ¬ (281474976710656 < Builtin.nextslicecap m 0 * bytes) := by rw [nextslicecap_zero (by omega)]; omega
      have hsm' : ¬ (9223372036854775807 < (m : Int)) := by simp at hsm; omega
      simp [Builtin.append_, run_underlying E.ht, run_underlying hx, sizeOf, typeInfo, zeroValue, hi, hz, asInt, asIntOf, hwr, hneg, hby, h48, hm, hcap, hsm', Question.forced, run_firstCells_none, newRow, grownCap, hsize, hza]
    · by_cases hroom : xs.length + m ≤ cap
      · have hst := run_storeCells_free P g te fr cap hf xs.length (List.replicate m (z.cells.getD 0 undef)) 0 cur w hg (by simp; omega) hs hone
        simp only [Nat.add_zero] at hst
        refine ⟨.slice (some ⟨g, 0, none⟩) (xs.length + m) cap, _, ?_, .inr ⟨g, cap, _, te, fr, by simp, hb, setRow_heap w g cur (cur.toList.take xs.length ++ List.replicate m (z.cells.getD 0 undef) ++ cur.toList.drop (xs.length + m)).toArray te fr hg, by simpa using hroom, hcm, ?_, ?_, hf⟩, ⟨rfl, rfl, rfl, by simp, fun k _ hk => setRow_other w g k _ (fun e => hk (by simp [Value.ownBlock, e]))⟩, .inl rfl⟩
        · simp only [List.length_replicate] at hst
          clear hzr grownA hone
          generalize z.cells.getD 0 undef = zz at hst hza ⊢
          simp [Builtin.append_, run_underlying E.ht, run_underlying hx, sizeOf, typeInfo, zeroValue, hi, hz, asInt, asIntOf, hwr, hneg, hby, h48, hm, hsize, hroom, Addr.add_lit, hza, hst]
        · simp only [List.size_toArray, List.length_append, List.length_take, List.length_drop, Array.length_toList, List.length_replicate]
          omega
        · simp only [ht]
          exact List.take_left
      · have holds : ∀ j u, xs[j]? = some u → w.cell? ((⟨g, 0, none⟩ : Addr).add j) = some u := by
          intro j u hu
          rw [addr0_add, cell_of_row w g j cur te fr hg]
          rw [← ht, List.getElem?_take] at hu
          split at hu
          · simpa using hu
          · cases hu
        have hcap : ¬ (281474976710656 < Builtin.nextslicecap (xs.length + m) cap * bytes) := by have := growslice_fits (need := xs.length + m) (old := cap) (by omega) hbytes; omega
        have hfo := run_firstCells_some (P := P) w.drew 1 xs.length ⟨g, 0, none⟩ xs.length cap xs (by omega) (by simpa using holds)
        have hgr := grownA cap (Value.ownBlock (.slice (some ⟨g, 0, none⟩) xs.length cap))
        refine ⟨_, _, ?_, hgr.1, hgr.2, .inr rfl⟩
        simp [Builtin.append_, run_underlying E.ht, run_underlying hx, sizeOf, typeInfo, zeroValue, hi, hz, asInt, asIntOf, hwr, hneg, hby, h48, hm, hroom, hsm, hcap, Question.forced, newRow, grownCap, hsize, hza, hfo]
theorem wpList_app0 {ops : Array Oper} {rest : List Oper} {o : Oper} {a : Act} {Q : Exit → Act → World → Prop} (hgd : o.guard = none) (s x : Operand) (t tx : TypeId)
    (ho : o.op = .call { callee := .builtin .append, args := #[s, x], argTypes := #[t, tx] })
    {e : TypeId} {z : Value} {bytes : Nat} {k kx : IntKind} (E : ElemT P t e z bytes) (hxt : P.underlying tx = some (.int kx)) (base : Nat) (v : Value) (xs : List Value) (hs : a.eval s = v) (hown : Own w base v xs)
    (M : Int) (m : Nat) (hx : a.eval x = .int k M) (hM : M = (m : Int)) (h1 : (z.cells.getD 0 undef).oneCell' = true) (hbytes : (xs.length + m) * bytes ≤ 140737488355328) (hbase : base ≤ w.heap.size)
    (h : ∀ v' w', Own w' base v' (xs ++ List.replicate m (z.cells.getD 0 undef)) → w.grownBy w' v.ownBlock → (v'.ownBlock = v.ownBlock ∨ v'.ownBlock = some w.heap.size) → wpList P ops Q rest (a.put o.dst v') w') : wpList P ops Q (o :: rest) a w := by
  refine wpList_plain hgd fun _ hK => ?_
  obtain ⟨v', w', hrun, h2, h3, h4⟩ := run_app0 (P := P) (ty := o.type) (k := k) w E hxt base v xs hown m h1 hbytes hbase
  subst hM
  unfold Oper.wp execOp
  simp only [ho, resolve, invoke, builtin, Sem.run_bind, Sem.run_pure, Result.andThen_ok, List.map_toArray, List.map_cons, List.map_nil, hs, hx, hrun]
  exact hK _ _ (h v' w' h2 h3 h4)
end
end Go.Proofs.Ytmoeabifkbahbaa
