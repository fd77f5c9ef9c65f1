/-
  Laws of append and make in the words of Mem: the source of an append is any slice that reads as a list, nil or not. Over any program. No condition.
-/
import Derived.Test.YtbehdllomepkdaaMem
import Derived.Maps.AppendAt
import Derived.RegionTactic
import Derived.OwnWalk
import Derived.Laws.MakeOwn
import Derived.Laws.IdiomStrings
import Derived.Laws.BytesArg
import Derived.Laws.BytesString
namespace Go.Proofs.Ytbehdllomepkdaa
open Go.RowKit

theorem ret_int {k : IntKind} {a b : Int} (h : a = b) : Ending.returned (.int k a) = .returned (.int k b) := by rw [h]
theorem ret_bool {a b : Bool} (h : a = b) : Ending.returned (.bool a) = .returned (.bool b) := by rw [h]

/-- A slice type t with elements e of one cell, zero value z, so many bytes each. -/
structure ElemT (P : Program) (t e : TypeId) (z : Value) (bytes : Nat) : Prop where
  ht : P.underlying t = some (.slice e)
  hi : ∃ i, P.info? e = some i ∧ i.zero = some z ∧ i.size = 1 ∧ i.bytes = bytes
  hz : z.cells.size = 1
  hb : 0 < bytes

theorem SliceAt.new (w : World) (cs : Array Value) (e : TypeId) (h : cs.size ≤ maxLen) : SliceAt (w.alloc (.cells cs e)) (.slice (some ⟨w.heap.size, 0, none⟩) cs.size cs.size) cs.toList := by
  refine ⟨some ⟨w.heap.size, 0, none⟩, cs.size, by simp, by simp, h, by simp, fun _ => ⟨_, rfl, by simp, fun j u hu => ?_⟩⟩
  have : (⟨w.heap.size, 0, none⟩ : Addr).add j = ⟨w.heap.size, j, none⟩ := by unfold Addr.add; split <;> simp_all
  rw [this, (Blk.new w e cs).cell j]
  simpa using hu
theorem SliceAt.one (w : World) (u : Value) (e : TypeId) : SliceAt (w.alloc (.cells #[u] e)) (.slice (some ⟨w.heap.size, 0, none⟩) 1 1) [u] := SliceAt.new w #[u] e (by show 1 ≤ maxLen; unfold maxLen; omega)
theorem SliceAt.alloc {w : World} {v : Value} {xs : List Value} (h : SliceAt w v xs) (o : Obj) : SliceAt (w.alloc o) v xs := h.below ((Below.refl _ _).alloc (Nat.le_refl _) _)
theorem SliceAt.len {w : World} {v : Value} {xs : List Value} (h : SliceAt w v xs) : xs.length ≤ maxLen := by
  obtain ⟨A, c, hv, hc, hm, hr⟩ := h; omega

/-- The call owns the slice v, which reads xs: it is nil, or it lies at the head of a block from base on; no cell of it is frozen. (Each element is of one cell.) -/
def Own (w : World) (base : Nat) (v : Value) (xs : List Value) : Prop :=
  (v = .slice none 0 0 ∧ xs = []) ∨
  ∃ g cap cur te fr, v = .slice (some ⟨g, 0, none⟩) xs.length cap ∧ base ≤ g ∧ w.heap[g]? = some (.cells cur te fr) ∧ xs.length ≤ cap ∧ cap ≤ maxLen ∧ cur.size = cap ∧ cur.toList.take xs.length = xs ∧ (∀ j, j < cap → ¬ (fr.1 ≤ j ∧ j < fr.2))
section
variable {w w' : World} {base base' B : Nat} {v : Value} {xs : List Value}
theorem Own.nil (w : World) (base : Nat) : Own w base (.slice none 0 0) [] := .inl ⟨rfl, rfl⟩
theorem Own.lt (h : Own w base v xs) : ∀ k, v.ownBlock = some k → base ≤ k ∧ k < w.heap.size := by
  intro k hk
  rcases h with ⟨rfl, _⟩ | ⟨g, cap, cur, te, fr, rfl, hb, hg, _⟩
  · simp [Value.ownBlock] at hk
  · simp [Value.ownBlock] at hk
    subst hk
    exact ⟨hb, (Array.getElem?_eq_some_iff.1 hg).1⟩
theorem Own.keep (h : Own w base v xs) (hk : ∀ k, v.ownBlock = some k → w'.heap[k]? = w.heap[k]?) : Own w' base v xs := by
  rcases h with hn | ⟨g, cap, cur, te, fr, rfl, hb, hg, rest⟩
  · exact .inl hn
  · exact .inr ⟨g, cap, cur, te, fr, rfl, hb, (hk g rfl).trans hg, rest⟩
theorem Own.below (h : Own w base v xs) (hb : Below B w w') (hB : w.heap.size ≤ B) : Own w' base v xs := h.keep fun k hk => hb.block k (by have := (h.lt k hk).2; omega)
theorem Own.grown (h : Own w base v xs) {row : Option Nat} (hg : w.grownBy w' row) (hne : v.ownBlock = none ∨ v.ownBlock ≠ row) : Own w' base v xs :=
  h.keep fun k hk => hg.block k (h.lt k hk).2 (by rcases hne with h | h <;> rw [hk] at h <;> simp_all)
theorem Own.alloc (h : Own w base v xs) (o : Obj) : Own (w.alloc o) base v xs := h.keep fun k hk => Below.heap_alloc w o k (h.lt k hk).2
theorem Own.drew (h : Own w base v xs) : Own w.drew base v xs := h
theorem Own.drewN (h : Own w base v xs) (n : Nat) : Own (w.drewN n) base v xs := h
theorem Own.far (h : Own w base v xs) {p : Addr} (hp : v.ownBlock ≠ some p.block) (u : Value) : Own (w.setCell p u) base v xs := h.keep fun k hk => Below.heap_setCell w p u k (fun e => hp (by rw [hk, e]))
theorem Own.mono (h : Own w base v xs) (hB : base' ≤ base) : Own w base' v xs := by
  rcases h with hn | ⟨g, cap, cur, te, fr, rfl, hb, rest⟩
  · exact .inl hn
  · exact .inr ⟨g, cap, cur, te, fr, rfl, Nat.le_trans hB hb, rest⟩
theorem addr0_add (g j : Nat) : (⟨g, 0, none⟩ : Addr).add j = ⟨g, j, none⟩ := by unfold Addr.add; split <;> simp_all
theorem Own.reads (h : Own w base v xs) : SliceAt w v xs := by
  rcases h with ⟨rfl, rfl⟩ | ⟨g, cap, cur, te, fr, rfl, hb, hg, hnc, hm, hs, ht, hf⟩
  · exact SliceAt.nil w
  · refine ⟨_, cap, rfl, hnc, hm, rfl, fun _ => ⟨_, rfl, (Array.getElem?_eq_some_iff.1 hg).1, fun j u hu => ?_⟩⟩
    rw [addr0_add, cell_of_row w g j cur te fr hg]
    rw [← ht, List.getElem?_take] at hu
    split at hu
    · simpa using hu
    · cases hu
theorem Own.of_owns {e : TypeId} {n : Nat} (h : w.ownsRow base e 1 v n xs) : Own w base v xs := by
  have hl : xs.length = n := by have := h.1; omega
  rcases h.2 with ⟨rfl, hn⟩ | ⟨g, cap, cur, rfl, hb, hh, hnc, hm, hs, ht⟩
  · exact .inl ⟨rfl, List.length_eq_zero_iff.1 (by omega)⟩
  · subst hl
    exact .inr ⟨g, cap, cur, e, (0, 0), rfl, hb, hh, hnc, hm, by omega, by simpa using ht, by simp⟩
theorem Own.form (h : Own w base v xs) (hn : 0 < xs.length) : ∃ g cap, v = .slice (some ⟨g, 0, none⟩) xs.length cap ∧ base ≤ g ∧ g < w.heap.size ∧ xs.length ≤ cap ∧ cap ≤ maxLen := by
  rcases h with ⟨rfl, rfl⟩ | ⟨g, cap, cur, te, fr, rfl, hb, hg, hnc, hm, hs, ht, hf⟩
  · simp at hn
  · exact ⟨g, cap, rfl, hb, (Array.getElem?_eq_some_iff.1 hg).1, hnc, hm⟩
/-- A cell of it: what it holds; it is not frozen; and what is owned when it has been written. -/
theorem Own.cell {g n cap i : Nat} (h : Own w base (.slice (some ⟨g, 0, none⟩) n cap) xs) (hi : i < xs.length) : w.cell? ⟨g, i, none⟩ = some xs[i] ∧ w.frozen? ⟨g, i, none⟩ = false := by
  rcases h with ⟨h, _⟩ | ⟨g', cap', cur, te, fr, he, hb, hg, hnc, hm, hs, ht, hf⟩
  · cases h
  · simp only [Value.slice.injEq, Option.some.injEq, Addr.mk.injEq] at he
    obtain ⟨⟨rfl, -, -⟩, -, rfl⟩ := he
    have hi2 : i < cur.size := by omega
    refine ⟨?_, ?_⟩
    · rw [cell_of_row w g i cur te fr hg]
      have : xs[i] = cur[i] := by
        have e1 : xs[i]? = some cur[i] := by rw [← ht, List.getElem?_take, if_pos (by omega)]; simp [hi2]
        rw [List.getElem?_eq_getElem hi] at e1
        exact Option.some.inj e1
      rw [this]; simp [hi2]
    · obtain ⟨lo, hi'⟩ := fr
      have := hf i (by omega)
      simp [World.frozen?, hg]
      intro h1
      rcases Nat.lt_or_ge i hi' with h2 | h2
      · exact absurd ⟨h1, h2⟩ this
      · exact h2
theorem Own.set {g n cap i : Nat} (h : Own w base (.slice (some ⟨g, 0, none⟩) n cap) xs) (u : Value) : Own (w.setCell ⟨g, i, none⟩ u) base (.slice (some ⟨g, 0, none⟩) n cap) (xs.set i u) := by
  rcases h with ⟨h, _⟩ | ⟨g', cap', cur, te, fr, he, hb, hg, hnc, hm, hs, ht, hf⟩
  · cases h
  · simp only [Value.slice.injEq, Option.some.injEq, Addr.mk.injEq] at he
    obtain ⟨⟨rfl, -, -⟩, rfl, rfl⟩ := he
    refine .inr ⟨g, cap, cur.setIfInBounds i u, te, fr, by simp, hb, ?_, by simpa using hnc, hm, by simpa using hs, ?_, hf⟩
    · simp [World.setCell, Array.getElem?_modify, hg]
    · simp only [List.length_set, Array.toList_setIfInBounds]
      rw [List.take_set, ht]
/-- The beginning of it is owned, too. -/
theorem Own.take {g n cap k : Nat} (h : Own w base (.slice (some ⟨g, 0, none⟩) n cap) xs) (hk : k ≤ xs.length) : Own w base (.slice (some ⟨g, 0, none⟩) k cap) (xs.take k) := by
  rcases h with ⟨h, _⟩ | ⟨g', cap', cur, te, fr, he, hb, hg, hnc, hm, hs, ht, hf⟩
  · cases h
  · simp only [Value.slice.injEq, Option.some.injEq, Addr.mk.injEq] at he
    obtain ⟨⟨rfl, -, -⟩, rfl, rfl⟩ := he
    have hl : (xs.take k).length = k := by rw [List.length_take]; omega
    refine .inr ⟨g, cap, cur, te, fr, by rw [hl], hb, hg, by omega, hm, hs, ?_, hf⟩
    rw [hl, ← ht, List.take_take, Nat.min_eq_left hk]
/-- A block known whole is owned. -/
theorem Own.of_blk {g : Nat} {t : TypeId} {cs : Array Value} (h : Blk w g t cs) (hb : base ≤ g) (hm : cs.size ≤ maxLen) : Own w base (.slice (some ⟨g, 0, none⟩) cs.size cs.size) cs.toList :=
  .inr ⟨g, cs.size, cs, t, (0, 0), by simp, hb, h, by simp, hm, rfl, by rw [Array.length_toList, ← Array.length_toList, List.take_length], by simp⟩
end

theorem _root_.Go.RowKit.Below.thenApp {w w1 w2 : World} {v : Value} {xs : List Value} (hw : Below w.heap.size w w1) (ho : Own w1 w.heap.size v xs) (hg : w1.grownBy w2 v.ownBlock) : Below w.heap.size w w2 := hw.grown hg hw.size fun k h => (ho.lt k h).1
theorem _root_.Go.RowKit.Below.thenCall {w w1 w2 : World} (hw : Below w.heap.size w w1) (hc : Below w1.heap.size w1 w2) : Below w.heap.size w w2 := hw.trans (hc.mono hw.size)
theorem _root_.Go.RowKit.Below.thenNew {w w1 : World} (hw : Below w.heap.size w w1) (o : Obj) : Below w.heap.size w (w1.alloc o) := hw.alloc hw.size o
theorem _root_.Go.RowKit.Below.sizeNew {w w1 : World} (hw : Below w.heap.size w w1) (o : Obj) : w.heap.size ≤ (w1.alloc o).heap.size := (hw.thenNew o).size

theorem run_storeCells_free (P : Program) (g : Nat) (t : TypeId) (fr : Nat × Nat) (cap : Nat) (hf : ∀ j, j < cap → ¬ (fr.1 ≤ j ∧ j < fr.2)) (o : Nat) : ∀ (vs : List Value) (i : Nat) (cur : Array Value) (w : World), w.heap[g]? = some (.cells cur t fr) → o + i + vs.length ≤ cur.size → cur.size = cap → (∀ v ∈ vs, v.oneCell' = true) →
    (storeCells ⟨g, o, none⟩ vs i).run P w = .ok () (w.setRow g (cur.toList.take (o + i) ++ vs ++ cur.toList.drop (o + i + vs.length)).toArray)
  | [], i, cur, w, hg, _, _, _ => by
    simp only [storeCells, List.append_nil, List.length_nil, Nat.add_zero, List.take_append_drop, Array.toArray_toList]
    rw [setRow_self w g cur t fr hg]
    rfl
  | v :: rest, i, cur, w, hg, hl, hcap, h1 => by
    have hi : o + i < cur.size := by simp at hl; omega
    have hadd : (⟨g, o, none⟩ : Addr).add i = ⟨g, o + i, none⟩ := by unfold Addr.add; split <;> simp_all
    have hcell : w.cell? ⟨g, o + i, none⟩ = some cur[o + i] := by simp [World.cell?, hg, hi]
    have hfro : w.frozen? ⟨g, o + i, none⟩ = false := by
      obtain ⟨lo, hi'⟩ := fr
      have := hf (o + i) (by omega)
      simp [World.frozen?, hg]
      intro h1
      rcases Nat.lt_or_ge (o + i) hi' with h2 | h2
      · exact absurd ⟨h1, h2⟩ this
      · exact h2
    have hst : (store ((⟨g, o, none⟩ : Addr).add i) v).run P w = .ok () (w.setRow g (cur.setIfInBounds (o + i) v)) := by
      rw [hadd, run_store P w _ v _ (h1 v (by simp)), hcell]
      simp [hfro, setCell_eq_setRow w g (o + i) cur t fr v hg]
    have ih := run_storeCells_free P g t fr cap hf o rest (i + 1) (cur.setIfInBounds (o + i) v) (w.setRow g (cur.setIfInBounds (o + i) v)) (setRow_heap w g cur _ t _ hg) (by simp at hl ⊢; omega) (by simpa using hcap) (fun x hx => h1 x (by simp [hx]))
    simp only [storeCells, Sem.run_bind, hst, Result.andThen_ok, ih, setRow_setRow]
    congr 3
    have e := list_seg_step cur.toList (o + i) v rest (by simp at hl ⊢; omega)
    simpa [Array.toList_setIfInBounds, Nat.add_assoc] using e

section
variable {P : Program} (w : World)

theorem run_app {t ty e : TypeId} {z : Value} {bytes : Nat} (E : ElemT P t e z bytes) (base : Nat) (v : Value) (xs : List Value) (hown : Own w base v xs)
    (xv : Value) (news : List Value) (hr : SliceAt w xv news) (h1 : ∀ u ∈ news, u.oneCell' = true) (hbytes : (xs.length + news.length) * bytes ≤ 140737488355328) (hbase : base ≤ w.heap.size) :
    ∃ v' w', (Builtin.append_ #[t, t] ty #[v, xv]).run P w = .ok v' w' ∧ Own w' base v' (xs ++ news) ∧ w.grownBy w' v.ownBlock ∧
      (v'.ownBlock = v.ownBlock ∨ v'.ownBlock = some w.heap.size) := by
  obtain ⟨i, hi, hz, hsize, hby⟩ := E.hi
  obtain ⟨A, c, rfl, hc, hm, hrd⟩ := hr
  have hn63 : xs.length + news.length ≤ maxLen := by
    have hb := E.hb
    have : xs.length + news.length ≤ (xs.length + news.length) * bytes := Nat.le_mul_of_pos_right _ hb
    unfold maxLen; omega
  have hzc : z.cells.size = 1 := E.hz
  -- what the growing arm leaves, whatever was there before
  have grownA : ∀ (old : Nat) (row : Option Nat),
      Own (w.drew.alloc (.cells (xs.toArray ++ news.toArray ++ Builtin.zeroCells z.cells (grownCap w (xs.length + news.length) old e - (xs.length + news.length))) e)) base
        (.slice (some ⟨w.heap.size, 0, none⟩) (xs.length + news.length) (grownCap w (xs.length + news.length) old e)) (xs ++ news) ∧
      w.grownBy (w.drew.alloc (.cells (xs.toArray ++ news.toArray ++ Builtin.zeroCells z.cells (grownCap w (xs.length + news.length) old e - (xs.length + news.length))) e)) row := by
    intro old row
    have hge := grownCap_ge w (xs.length + news.length) old e
    have hcm : grownCap w (xs.length + news.length) old e ≤ maxLen := grownCap_le_maxLen w _ old e hn63
    refine ⟨.inr ⟨w.heap.size, _, _, e, (0, 0), by simp, hbase, heap_alloc_new w.drew _, by simpa using hge, hcm, ?_, ?_, by simp⟩, ⟨rfl, rfl, rfl, by simp, fun k hk _ => Below.heap_alloc w.drew _ k hk⟩⟩
    · simp only [Array.size_append, List.size_toArray, size_zeroCells, hzc, Nat.mul_one]
      omega
    · simp only [Array.toList_append, List.append_assoc]
      rw [← List.append_assoc]
      exact List.take_left
  by_cases hnew : news = []
  · subst hnew
    refine ⟨v, w, ?_, by simpa using hown, World.grownBy.refl w _, .inl rfl⟩
    rcases hown with ⟨rfl, rfl⟩ | ⟨g, cap, cur, te, fr, rfl, hb, hg, hnc, hcm, hs, ht, hf⟩
    · rcases A with _ | ad <;> simp [Builtin.append_, run_underlying E.ht, sizeOf, typeInfo, hi, Builtin.lenOf, Builtin.firstCells, loadCells, loadCellsFrom]
    · rcases A with _ | ad <;> simp [Builtin.append_, run_underlying E.ht, sizeOf, typeInfo, hi, Builtin.lenOf, Builtin.firstCells, loadCells, loadCellsFrom, hnc, storeCells]
  · have hpos : 0 < news.length := List.length_pos_iff.2 hnew
    obtain ⟨ad, rfl, -, hcells⟩ := hrd.2 hpos
    have hsm : ((xs.length + news.length : Nat) : Int) ≤ 9223372036854775807 := by simp only [maxLen] at hn63; omega
    rcases hown with ⟨rfl, rfl⟩ | ⟨g, cap, cur, te, fr, rfl, hb, hg, hnc, hcm, hs, ht, hf⟩
    · have hr := run_append_nil (P := P) w t ty e i z E.ht hi hz ad news.length c news (by rw [hsize, Nat.mul_one]) hcells (by omega) (by simp at hsm; omega) (by have hb := hbytes; simp only [List.length_nil, Nat.zero_add] at hb; rw [hby]; omega)
      have hgr := grownA 0 (Value.ownBlock (.slice none 0 0))
      simp only [List.length_nil, Nat.zero_add, List.nil_append, Array.empty_append] at hgr ⊢
      exact ⟨_, _, hr, hgr.1, hgr.2, .inr rfl⟩
    · by_cases hroom : xs.length + news.length ≤ cap
      · have hf2 := run_firstCells_some (P := P) w 1 news.length ad news.length c news (by omega) hcells
        have hst := run_storeCells_free P g te fr cap hf xs.length news 0 cur w hg (by omega) hs h1
        simp only [Nat.add_zero] at hst
        refine ⟨.slice (some ⟨g, 0, none⟩) (xs.length + news.length) cap, _, ?_, .inr ⟨g, cap, _, te, fr, by simp, hb, setRow_heap w g cur (cur.toList.take xs.length ++ news ++ cur.toList.drop (xs.length + news.length)).toArray te fr hg, by simpa using hroom, hcm, ?_, ?_, hf⟩, ⟨rfl, rfl, rfl, by simp, fun k _ hk => setRow_other w g k _ (fun e => hk (by simp [Value.ownBlock, e]))⟩, .inl rfl⟩
        · simp [Builtin.append_, run_underlying E.ht, sizeOf, typeInfo, hi, hsize, Builtin.lenOf, hroom, hf2, Addr.add_lit, hst]
        · simp only [List.size_toArray, List.length_append, List.length_take, List.length_drop, Array.length_toList]
          omega
        · simp only [ht]
          exact List.take_left
      · have holds : ∀ j u, xs[j]? = some u → w.cell? ((⟨g, 0, none⟩ : Addr).add j) = some u := by
          intro j u hu
          rw [addr0_add, cell_of_row w g j cur te fr hg]
          rw [← ht, List.getElem?_take] at hu
          split at hu
          · simpa using hu
          · cases hu
        have hr := run_append_grow (P := P) w t ty e i z E.ht hi hz ⟨g, 0, none⟩ xs.length cap xs (by rw [hsize, Nat.mul_one]) holds ad news.length c news (by rw [hsize, Nat.mul_one]) hcells (by omega) hsm (growslice_fits (by omega) (by rw [hby]; exact hbytes))
        have hgr := grownA cap (Value.ownBlock (.slice (some ⟨g, 0, none⟩) xs.length cap))
        exact ⟨_, _, hr, hgr.1, hgr.2, .inr rfl⟩

theorem wp_app {o : Oper} {a : Act} {K : Act → World → Prop} {Q : Exit → Act → World → Prop} (s x : Operand) (t : TypeId)
    (ho : o.op = .call { callee := .builtin .append, args := #[s, x], argTypes := #[t, t] })
    {e : TypeId} {z : Value} {bytes : Nat} (E : ElemT P t e z bytes) (base : Nat) (v : Value) (xs : List Value) (hs : a.eval s = v) (hown : Own w base v xs)
    (xv : Value) (news : List Value) (hx : a.eval x = xv) (hr : SliceAt w xv news) (h1 : ∀ u ∈ news, u.oneCell' = true) (hbytes : (xs.length + news.length) * bytes ≤ 140737488355328) (hbase : base ≤ w.heap.size)
    (h : ∀ v' w', Own w' base v' (xs ++ news) → w.grownBy w' v.ownBlock → (v'.ownBlock = v.ownBlock ∨ v'.ownBlock = some w.heap.size) → K (a.put o.dst v') w') : o.wp P a w K Q := by
  obtain ⟨v', w', hrun, h2, h3, h4⟩ := run_app (P := P) (ty := o.type) w E base v xs hown xv news hr h1 hbytes hbase
  unfold Oper.wp execOp
  simp only [ho, resolve, invoke, builtin, Sem.run_bind, Sem.run_pure, Result.andThen_ok, List.map_toArray, List.map_cons, List.map_nil, hs, hx, hrun]
  exact h v' w' h2 h3 h4

/-- 'append(s, x...)' where the call owns s and x is any slice that reads as news. -/
theorem wpList_app {ops : Array Oper} {rest : List Oper} {o : Oper} {a : Act} {Q : Exit → Act → World → Prop} (hgd : o.guard = none) (s x : Operand) (t : TypeId)
    (ho : o.op = .call { callee := .builtin .append, args := #[s, x], argTypes := #[t, t] })
    {e : TypeId} {z : Value} {bytes : Nat} (E : ElemT P t e z bytes) (base : Nat) (v : Value) (xs : List Value) (hs : a.eval s = v) (hown : Own w base v xs)
    (xv : Value) (news : List Value) (hx : a.eval x = xv) (hr : SliceAt w xv news) (h1 : ∀ u ∈ news, u.oneCell' = true) (hbytes : (xs.length + news.length) * bytes ≤ 140737488355328) (hbase : base ≤ w.heap.size)
    (h : ∀ v' w', Own w' base v' (xs ++ news) → w.grownBy w' v.ownBlock → (v'.ownBlock = v.ownBlock ∨ v'.ownBlock = some w.heap.size) → wpList P ops Q rest (a.put o.dst v') w') : wpList P ops Q (o :: rest) a w :=
  wpList_plain hgd fun _ hK => wp_app w s x t ho E base v xs hs hown xv news hx hr h1 hbytes hbase fun v' w' h2 h3 h4 => hK _ _ (h v' w' h2 h3 h4)

/-- 'make([]T, 0, n)'. -/
theorem wpList_mk0 {ops : Array Oper} {rest : List Oper} {o : Oper} {a : Act} {Q : Exit → Act → World → Prop} (hg : o.guard = none) (l c : Operand) (t : TypeId) (hop : o.op = Op.makeSlice t l c)
    {e : TypeId} {z : Value} {bytes : Nat} (E : ElemT P t e z bytes) (base : Nat) (kl kc : IntKind) (C : Int) (n : Nat) (hl : a.eval l = .int kl 0) (hc : a.eval c = .int kc C) (hC : C = (n : Int))
    (b2 : bytes * n ≤ 281474976710656) (b4 : base ≤ w.heap.size)
    (hK : ∀ w', Own w' base (.slice (some ⟨w.heap.size, 0, none⟩) 0 n) [] → w.grownBy w' none → wpList P ops Q rest (a.put o.dst (.slice (some ⟨w.heap.size, 0, none⟩) 0 n)) w') :
    wpList P ops Q (o :: rest) a w := by
  obtain ⟨i, hi, hz, hsize, hby⟩ := E.hi
  have hb := E.hb
  have hm : n ≤ maxLen := by
    have : n ≤ bytes * n := Nat.le_mul_of_pos_left _ hb
    unfold maxLen; omega
  exact wpList_make_own w hg l c t hop base e i z 1 E.ht hi hz hsize kl kc C n hl hc hC (by rw [hby]; exact b2) hm b4 fun w' h2 h3 => hK w' (Own.of_owns h2) h3

theorem madeCells_rep (z : Value) (h : z.cells.size = 1) (n : Nat) : (madeCells z.cells n).toList = List.replicate n (z.cells.getD 0 undef) := by
  unfold madeCells
  apply List.ext_getElem?
  intro j
  simp only [Array.getElem?_toList, List.getElem?_replicate]
  simp only [Array.getElem?_map, h, Nat.mod_one]
  by_cases hj : j < n
  · simp [hj, h]
  · simp [hj]

/-- 'make([]T, n)': n zero values. -/
theorem wpList_mkN {ops : Array Oper} {rest : List Oper} {o : Oper} {a : Act} {Q : Exit → Act → World → Prop} (hg : o.guard = none) (l c : Operand) (t : TypeId) (hop : o.op = Op.makeSlice t l c)
    {e : TypeId} {z : Value} {bytes : Nat} (E : ElemT P t e z bytes) (base : Nat) (kl kc : IntKind) (L C : Int) (n : Nat) (hl : a.eval l = .int kl L) (hc : a.eval c = .int kc C) (hL : L = (n : Int)) (hC : C = (n : Int))
    (b2 : bytes * n ≤ 281474976710656) (b4 : base ≤ w.heap.size)
    (hK : ∀ w', Own w' base (.slice (some ⟨w.heap.size, 0, none⟩) n n) (List.replicate n (z.cells.getD 0 undef)) → w.grownBy w' none → wpList P ops Q rest (a.put o.dst (.slice (some ⟨w.heap.size, 0, none⟩) n n)) w') :
    wpList P ops Q (o :: rest) a w := by
  obtain ⟨i, hi, hz, hsize, hby⟩ := E.hi
  have hb := E.hb
  have hm : n ≤ maxLen := by
    have : n ≤ bytes * n := Nat.le_mul_of_pos_left _ hb
    unfold maxLen; omega
  exact wpList_make_full w hg l c t hop base e i z 1 E.ht hi hz hsize kl kc L C n hl hc hL hC (by rw [hby]; exact b2) hm b4 fun w' h2 h3 => hK w' (by rw [madeCells_rep z E.hz, Nat.mul_one] at h2; exact Own.of_owns h2) h3
end
/-- '[]byte(s)': a new slice that the call owns. -/
theorem Own.of_string (w : World) (s : ByteArray) (e : TypeId) (hs : s.size ≤ maxLen) :
    Own (w.drew.alloc (.cells (bytesRow s (grownCap w s.size 0 e)) e ((bytesRow s (grownCap w s.size 0 e)).size, (bytesRow s (grownCap w s.size 0 e)).size + 1))) w.heap.size (.slice (some ⟨w.heap.size, 0, none⟩) s.size (grownCap w s.size 0 e)) (bvs s.data.toList) := by
  have hge := grownCap_ge w s.size 0 e
  have hcm : grownCap w s.size 0 e ≤ maxLen := grownCap_le_maxLen w _ 0 e hs
  have hsz : (bytesRow s (grownCap w s.size 0 e)).size = grownCap w s.size 0 e := by
    unfold bytesRow; simp only [Array.size_append, Array.size_map, Array.size_replicate]
    show s.size + _ = _
    omega
  have hl : (bvs s.data.toList).length = s.size := by rw [bvs_len]; rfl
  refine .inr ⟨w.heap.size, _, _, e, _, by rw [hl], Nat.le_refl _, heap_alloc_new w.drew _, by omega, hcm, hsz, ?_, ?_⟩
  · rw [hl]
    unfold bytesRow
    simp only [Array.toList_append, Array.toList_map]
    rw [List.take_append_of_le_length (by simp), List.take_of_length_le (by simp)]
    rfl
  · intro j hj
    simp only [hsz]
    omega
theorem wpList_bytes {P : Program} (w : World) {ops : Array Oper} {rest : List Oper} {o : Oper} {a : Act} {Q : Exit → Act → World → Prop} (hgd : o.guard = none) (x : Operand) (src dst : TypeId) (ho : o.op = .convert src dst x)
    (e : TypeId) (s : ByteArray) (hx : a.eval x = .string s) (hs : P.underlying src = some .string) (hd : P.underlying dst = some (.slice e)) (he : P.underlying e = some (.int .u8)) (hsz : s.size ≤ maxLen)
    (h : ∀ v' w', Own w' w.heap.size v' (bvs s.data.toList) → Below w.heap.size w w' → wpList P ops Q rest (a.put o.dst v') w') : wpList P ops Q (o :: rest) a w := by
  refine wpList_plain hgd fun K hK => ?_
  unfold Oper.wp
  simp [execOp, ho, hx, run_bytes_of_string w src dst e s hs hd he, Result.andThen]
  exact hK _ _ (h _ _ (Own.of_string w s e hsz) ((Below.refl _ _).drew.alloc (Nat.le_refl _) _))
/-- 'string(b)'. -/
theorem run_string_of {P : Program} {w : World} {v : Value} {l : List UInt8} (h : SliceAt w v (bvs l)) (src dst e : TypeId) (hs : P.underlying src = some (.slice e)) (he : P.underlying e = some (.int .u8)) (hd : P.underlying dst = some .string) :
    (convert src dst v).run P w = .ok (.string ⟨l.toArray⟩) w := by
  obtain ⟨A, c, rfl, hc, hm, hr⟩ := h
  rw [bvs_len] at hr ⊢
  rcases A with _ | ad
  · have hl : l = [] := by
      rcases Nat.eq_zero_or_pos l.length with h0 | h0
      · exact List.length_eq_zero_iff.1 h0
      · obtain ⟨ad, h, _⟩ := hr.2 h0
        cases h
    subst hl
    exact run_convert_bytes_nil w src e hs he _ _ dst hd
  · refine run_convert_bytes_back w src dst e ad c l hs he hd fun j hj => ?_
    obtain ⟨ad', h, _, hcell⟩ := hr.2 (by omega)
    injection h with h
    subst h
    exact hcell j _ (by simp [bvs, hj]; rfl)
end Go.Proofs.Ytbehdllomepkdaa
