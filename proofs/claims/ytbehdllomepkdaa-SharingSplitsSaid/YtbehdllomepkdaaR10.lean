/-
  append and copy on plain states. Over any program. No condition.
-/
import Derived.Test.YtbehdllomepkdaaR9
namespace Go.Proofs.Ytbehdllomepkdaa
open Go.RowKit

section
variable {P : Program} {w : World}
/-- What is appended: m elements of e cells each, which read as news. -/
structure SrcRun (P : Program) (w : World) (xt : TypeId) (e : Nat) (xv : Value) (m : Nat) (news : List Value) : Prop where
  ty : (∃ e2, P.underlying xt = some (.slice e2)) ∨ P.underlying xt = some .string
  len : ∀ w', (Builtin.lenOf xv).run P w' = .ok m w'
  part : ∀ (w' : World) (k : Nat), w'.heap = w.heap → k ≤ m → (Builtin.firstCells e k xv).run P w' = .ok (news.take (k * e)).toArray w'
  hl : news.length = m * e
  one : ∀ u ∈ news, u.oneCell' = true
theorem SrcRun.cells {xt : TypeId} {e m : Nat} {xv : Value} {news : List Value} (h : SrcRun P w xt e xv m news) (w' : World) (hw : w'.heap = w.heap) : (Builtin.firstCells e m xv).run P w' = .ok news.toArray w' := by
  have := h.part w' m hw (Nat.le_refl _)
  rw [List.take_of_length_le (by rw [h.hl]; exact Nat.le_refl _)] at this
  exact this
theorem srcRun_slice {xt e2 : TypeId} (ht : P.underlying xt = some (.slice e2)) {A : Option Addr} {m c e : Nat} {news : List Value} (hl : news.length = m * e) (hc : 0 < news.length → ∃ ad, A = some ad ∧ ∀ (j : Nat) u, news[j]? = some u → w.cell? (ad.add j) = some u) (h1 : ∀ u ∈ news, u.oneCell' = true) :
    SrcRun P w xt e (.slice A m c) m news := by
  refine ⟨.inl ⟨e2, ht⟩, fun w' => rfl, fun w' k hw hk => ?_, hl, h1⟩
  have hcell : ∀ p : Addr, w'.cell? p = w.cell? p := fun p => cell_same (by rw [hw])
  have hkl : (news.take (k * e)).length = k * e := by
    have := Nat.mul_le_mul_right e hk
    rw [List.length_take]; omega
  by_cases h0 : 0 < news.length
  · obtain ⟨ad, rfl, hcells⟩ := hc h0
    exact run_firstCells_some w' e k ad m c _ hkl (fun j u hu => (hcell _).trans (hcells j u (take_get _ _ _ _ hu)))
  · have hn : news = [] := List.length_eq_zero_iff.1 (by omega)
    subst hn
    cases A with
    | none => rw [run_firstCells_none]; simp
    | some ad => exact run_firstCells_some w' e k ad m c _ hkl (fun j u hu => by simp at hu)
theorem srcRun_string {xt : TypeId} (ht : P.underlying xt = some .string) (b : ByteArray) : SrcRun P w xt 1 (.string b) b.size (bvs b.data.toList) := by
  refine ⟨.inr ht, fun w' => rfl, fun w' k _ hk => ?_, by rw [bvs_len, Nat.mul_one]; rfl, bvs_one _⟩
  simp only [Builtin.firstCells, Sem.run_pure, Nat.mul_one]
  congr 1
  apply Array.ext'
  simp [bvs, bv, ← List.map_take]

/-- What an append leaves: N elements at the head of block g', which is the old block or a new one. -/
structure Appd (w w' : World) (v' : Value) (g0 : Option Nat) (e N : Nat) (cells : List Value) (g' : Nat) : Prop where
  slice : ∃ c', v' = .slice (some ⟨g', 0, none⟩) N c' ∧ N ≤ c' ∧ c' ≤ maxLen ∧ cellsLen w' g' = e * c'
  blk : ∃ cur te fr, w'.heap[g']? = some (.cells cur te fr) ∧ (∀ j, j < cur.size → ¬ (fr.1 ≤ j ∧ j < fr.2)) ∧ cells.length ≤ cur.size ∧ cur.toList.take cells.length = cells
  len : cells.length = e * N
  os : w'.os = w.os
  tape : w'.tape = w.tape
  output : w'.output = w.output
  size : w.heap.size ≤ w'.heap.size
  other : ∀ b, b < w.heap.size → some b ≠ g0 → w'.heap[b]? = w.heap[b]?
  place : (g0 = some g' ∧ g' < w.heap.size) ∨ (g' = w.heap.size ∧ w.heap.size < w'.heap.size)

theorem zeroCells_size (z : Value) (e k : Nat) (hz : z.cells.size = e) : (Builtin.zeroCells z.cells k).size = k * e := by unfold Builtin.zeroCells; simp [hz]
/-- What the growing arm leaves. -/
theorem appd_grow {el : TypeId} {z : Value} {e l m old : Nat} {olds news : List Value} (g0 : Option Nat) (hz : z.cells.size = e) (hlo : olds.length = l * e) (hln : news.length = m * e) (hm : l + m ≤ maxLen) :
    Appd w (w.drew.alloc (.cells (olds.toArray ++ news.toArray ++ Builtin.zeroCells z.cells (grownCap w (l + m) old el - (l + m))) el)) (.slice (some ⟨w.heap.size, 0, none⟩) (l + m) (grownCap w (l + m) old el)) g0 e (l + m) (olds ++ news) w.heap.size := by
  have hge := grownCap_ge w (l + m) old el
  have hcm : grownCap w (l + m) old el ≤ maxLen := grownCap_le_maxLen w _ old el hm
  have hnew : (w.drew.alloc (.cells (olds.toArray ++ news.toArray ++ Builtin.zeroCells z.cells (grownCap w (l + m) old el - (l + m))) el)).heap[w.heap.size]? = some (.cells (olds.toArray ++ news.toArray ++ Builtin.zeroCells z.cells (grownCap w (l + m) old el - (l + m))) el (0, 0)) := heap_alloc_new w.drew _
  have hsz : (olds.toArray ++ news.toArray ++ Builtin.zeroCells z.cells (grownCap w (l + m) old el - (l + m))).size = e * grownCap w (l + m) old el := by
    simp only [Array.size_append, List.size_toArray, zeroCells_size z e _ hz, hlo, hln]
    rw [← Nat.add_mul, ← Nat.add_mul, Nat.mul_comm]
    congr 1; omega
  have hlen : (olds ++ news).length = e * (l + m) := by rw [List.length_append, hlo, hln, ← Nat.add_mul, Nat.mul_comm]
  refine ⟨⟨_, rfl, hge, hcm, by unfold cellsLen; rw [hnew]; exact hsz⟩, ⟨_, _, _, hnew, by simp, by rw [hsz, hlen]; exact Nat.mul_le_mul_left _ hge, ?_⟩, hlen, rfl, rfl, rfl, by simp, fun b hb _ => Below.heap_alloc w.drew _ b hb, .inr ⟨rfl, by simp⟩⟩
  simp only [Array.toList_append, List.append_assoc]
  rw [← List.append_assoc]
  exact List.take_left
theorem arr_app3 (A B : List Value) (C : Array Value) : A.toArray ++ (B.toArray ++ C) = (A ++ B).toArray ++ C := by
  apply Array.ext'
  simp
theorem need_ok {e l m bytes q : Nat} (he : 0 < e) (hq : q = e * (l + m)) (hb : q * bytes ≤ e * 140737488355328) : (l + m) * bytes ≤ 140737488355328 := by
  rw [hq, Nat.mul_assoc] at hb
  exact Nat.le_of_mul_le_mul_left hb he
theorem need_max {l m bytes : Nat} (hby : 0 < bytes) (hb : (l + m) * bytes ≤ 140737488355328) : l + m ≤ maxLen ∧ ((l + m : Nat) : Int) ≤ 9223372036854775807 := by
  have : l + m ≤ (l + m) * bytes := Nat.le_mul_of_pos_right _ hby
  unfold maxLen; omega
theorem run_appN {t xt ty el : TypeId} {i : TypeInfo} {z xv : Value} {m : Nat} {news : List Value} (ht : P.underlying t = some (.slice el)) (hi : P.info? el = some i) (hz : i.zero = some z) (hzs : z.cells.size = i.size) (hby : 0 < i.bytes)
    (hsrc : SrcRun P w xt i.size xv m news) (hb : m * i.bytes ≤ 140737488355328) :
    (m = 0 ∧ (Builtin.append_ #[t, xt] ty #[.slice none 0 0, xv]).run P w = .ok (.slice none 0 0) w) ∨ ∃ v' w', (Builtin.append_ #[t, xt] ty #[.slice none 0 0, xv]).run P w = .ok v' w' ∧ Appd w w' v' none i.size m news w.heap.size := by
  have hf := hsrc.cells w.drew rfl
  by_cases h0 : m = 0
  · left
    refine ⟨h0, ?_⟩
    have hf0 := hsrc.cells w rfl
    have hn : news = [] := List.length_eq_zero_iff.1 (by rw [hsrc.hl, h0]; simp)
    subst h0; subst hn
    rcases hsrc.ty with ⟨e2, hu⟩ | hu <;> simp [Builtin.append_, run_underlying ht, run_underlying hu, sizeOf, typeInfo, hi, hsrc.len, hf0]
  · right
    obtain ⟨hm1, hm2⟩ := need_max (l := 0) hby (by rw [Nat.zero_add]; exact hb)
    rw [Nat.zero_add] at hm1
    have h48 : ¬ (281474976710656 < Builtin.nextslicecap m 0 * i.bytes) := by rw [nextslicecap_zero (by omega)]; omega
    have h63 : ¬ (9223372036854775807 < (m : Int)) := by simp at hm2; omega
    have hA := appd_grow (w := w) (el := el) (old := 0) (olds := []) (news := news) (l := 0) none hzs (by simp) hsrc.hl (by rw [Nat.zero_add]; exact hm1)
    simp only [Nat.zero_add, List.nil_append] at hA
    refine ⟨_, _, ?_, hA⟩
    rcases hsrc.ty with ⟨e2, hu⟩ | hu <;> simp [Builtin.append_, run_underlying ht, run_underlying hu, sizeOf, typeInfo, zeroValue, hi, hz, hsrc.len, hf, h0, h48, h63, Question.forced, run_firstCells_none, newRow, grownCap]
theorem run_appO {t xt ty el : TypeId} {i : TypeInfo} {z xv : Value} {m : Nat} {news : List Value} (ht : P.underlying t = some (.slice el)) (hi : P.info? el = some i) (hz : i.zero = some z) (hzs : z.cells.size = i.size) (hby : 0 < i.bytes)
    (hsrc : SrcRun P w xt i.size xv m news) {g l c : Nat} {cur : Array Value} {te : TypeId} {fr : Nat × Nat} (hg : w.heap[g]? = some (.cells cur te fr)) (hfr : ∀ j, j < cur.size → ¬ (fr.1 ≤ j ∧ j < fr.2)) (hsz : cur.size = i.size * c) (hlc : l ≤ c) (hcm : c ≤ maxLen) (hb : (l + m) * i.bytes ≤ 140737488355328) :
    ∃ v' w' g', (Builtin.append_ #[t, xt] ty #[.slice (some ⟨g, 0, none⟩) l c, xv]).run P w = .ok v' w' ∧ Appd w w' v' (some g) i.size (l + m) (cur.toList.take (l * i.size) ++ news) g' := by
  have hgl : g < w.heap.size := (Array.getElem?_eq_some_iff.1 hg).1
  have hcl : cur.toList.length = cur.size := rfl
  have hle : l * i.size ≤ cur.size := by rw [hsz, Nat.mul_comm]; exact Nat.mul_le_mul_left _ hlc
  have holen : (cur.toList.take (l * i.size)).length = l * i.size := by rw [List.length_take]; omega
  by_cases hroom : l + m ≤ c
  · have hf0 := hsrc.cells w rfl
    have hfit : l * i.size + news.length ≤ cur.size := by rw [hsrc.hl, ← Nat.add_mul, hsz, Nat.mul_comm]; exact Nat.mul_le_mul_left _ hroom
    have hst := run_storeCells_free P g te fr cur.size hfr (l * i.size) news 0 cur w hg (by omega) rfl hsrc.one
    simp only [Nat.add_zero] at hst
    obtain ⟨f1, f2, f3⟩ := setRow_facts (cur' := (cur.toList.take (l * i.size) ++ news ++ cur.toList.drop (l * i.size + news.length)).toArray) hg
    have hsz2 : (cur.toList.take (l * i.size) ++ news ++ cur.toList.drop (l * i.size + news.length)).toArray.size = cur.size := by
      simp only [List.size_toArray]; rw [splice_len _ _ _ (by omega)]; rfl
    have hlen : (cur.toList.take (l * i.size) ++ news).length = i.size * (l + m) := by rw [List.length_append, holen, hsrc.hl, ← Nat.add_mul, Nat.mul_comm]
    refine ⟨.slice (some ⟨g, 0, none⟩) (l + m) c, _, g, ?_, ⟨c, rfl, hroom, hcm, by unfold cellsLen; rw [f1]; simp only; rw [hsz2, hsz]⟩, ⟨_, te, fr, f1, fun j hj => hfr j (by omega), by rw [hsz2, hlen, hsz]; exact Nat.mul_le_mul_left _ hroom, by simp only; exact List.take_left⟩, hlen, rfl, rfl, rfl, by rw [f2]; exact Nat.le_refl _, fun b hb hne => f3 b fun e => hne (by rw [e]), .inl ⟨rfl, hgl⟩⟩
    rcases hsrc.ty with ⟨e2, hu⟩ | hu <;> simp [Builtin.append_, run_underlying ht, run_underlying hu, sizeOf, typeInfo, hi, hsrc.len, hroom, hf0, addr0_add, hst]
  · obtain ⟨hm1, hm2⟩ := need_max hby hb
    have h48 : ¬ (281474976710656 < Builtin.nextslicecap (l + m) c * i.bytes) := by have := growslice_fits (need := l + m) (old := c) (by omega) hb; omega
    have h63 : ¬ (9223372036854775807 < ((l : Int) + (m : Int))) := by omega
    have hA := appd_grow (w := w) (el := el) (old := c) (some g) hzs holen hsrc.hl hm1
    have hf := hsrc.cells w.drew rfl
    have hfo := run_firstCells_some (P := P) w.drew i.size l ⟨g, 0, none⟩ l c (cur.toList.take (l * i.size)) holen (fun j u hu => by
      rw [addr0_add]
      have : w.drew.cell? ⟨g, j, none⟩ = w.cell? ⟨g, j, none⟩ := cell_same rfl
      rw [this, cell_of_row w g _ cur te fr hg]
      have := take_get _ _ _ _ hu
      simpa using this)
    refine ⟨_, _, w.heap.size, ?_, hA⟩
    rcases hsrc.ty with ⟨e2, hu⟩ | hu <;> simp [Builtin.append_, run_underlying ht, run_underlying hu, sizeOf, typeInfo, zeroValue, hi, hz, hsrc.len, hroom, hf, hfo, h48, h63, Question.forced, newRow, grownCap] <;> rw [arr_app3]
end

section
variable {S0 : Nat → Prop} {w0 w w' : World} {n : Nat} {s : AS} {a : Act} {φ : Nat → Option Nat}
theorem look_retire_other (id d : Nat) (h : look s.H d = none) : look (retire id s).H d = none := by
  unfold retire
  rw [look_mapv, look_drop]
  split
  · rfl
  · rw [h]; rfl
/-- The row d is new: what an append leaves. O holds the old block, if there was one. -/
theorem SimO.appended {O : List Nat} {g0 : Option Nat} (h : SimO S0 w0 n O s a w φ) (hO : O = match g0 with | some g => [g] | none => []) (hO0 : ∀ g ∈ O, w0.heap.size ≤ g) (hOlt : ∀ g ∈ O, g < w.heap.size) {d e N g' : Nat} {v' : Value} {cells : List Value} (hd : look s.H d = none) (hA : Appd w w' v' g0 e N cells g') {row : List AV} (hl : row.length = cells.length)
    (hc : ∀ (j : Nat) u x, cells[j]? = some u → row[j]? = some x → Rep (Free S0 w φ O) w u x) :
    ∃ φ', SimO S0 w0 n [] ⟨s.F, (d, ⟨e, true, false, row⟩) :: s.H⟩ a w' φ' ∧ Den (infoOf ((d, ⟨e, true, false, row⟩) :: s.H) φ') (Free S0 w' φ' []) w' v' (.ref d) := by
  obtain ⟨c', hv, hN, hcm, hcl⟩ := hA.slice
  obtain ⟨cur, te, fr, hg, hf, hle, htk⟩ := hA.blk
  have hb : ∀ b, b < w.heap.size → b ∉ O → w'.heap[b]? = w.heap[b]? := fun b hb hn => hA.other b hb fun e => hn (by rw [hO, ← e]; simp)
  have hF : ∀ b, Free S0 w φ O b → w'.heap[b]? = w.heap[b]? := fun b h => hb b h.1 h.2.1
  have rd : ∀ (S : Nat → Prop), (∀ b, Free S0 w φ O b → S b) → ∀ (j : Nat) u x, cur[j]? = some u → row[j]? = some x → Rep S w' u x := by
    intro S hS j u x hu hx
    have hj : j < cells.length := by have := (List.getElem?_eq_some_iff.1 hx).1; omega
    have : cells[j]? = some u := by
      rw [← htk, List.getElem?_take, if_pos hj]; simpa using hu
    exact (hc j u x this hx).mono fun b hb => ⟨hS b hb, hF b hb⟩
  have fin : ∀ φ', φ' d = some g' → Den (infoOf ((d, ⟨e, true, false, row⟩) :: s.H) φ') (Free S0 w' φ' []) w' v' (.ref d) := by
    intro φ' hφ
    rw [hv]
    exact .ref d e row.length g' N c' (by rw [info_of (r := ⟨e, true, false, row⟩) (by rw [look_cons, if_pos rfl]), hφ]) (by rw [hl]; exact hA.len) hN hcm hcl
  rcases hA.place with ⟨hg0, hlt⟩ | ⟨rfl, hlt⟩
  · rw [hg0] at hO
    subst hO
    have h2 := h.touch hO0 hA.os hA.tape hA.output hA.size hb
    have h3 := h2.adopt (id := d) (r := ⟨e, true, false, row⟩) (hO0 g' (by simp)) (by have := hA.size; omega) (by simp) hd ⟨cur, te, fr, hg, hf, by simp only [hl]; exact hle, fun h => (by cases h), fun j u x hu hx => by
      show Rep _ _ _ _
      exact rd _ (fun b hb => ⟨by have := hb.1; have := hA.size; omega, hb.2⟩) j u x hu hx⟩
    exact ⟨_, h3, fin _ (by unfold bind_; rw [if_pos rfl])⟩
  · have h1 := h.await w.heap.size (Nat.le_refl _)
    have h2 := h1.touch (fun g hg => by rcases List.mem_cons.1 hg with rfl | hg; exact h.bel.size; exact hO0 g hg) hA.os hA.tape hA.output hA.size (fun b hb1 hn => hb b hb1 fun hm => hn (by simp [hm]))
    have hwO : w.heap.size ∉ O := fun hm => Nat.lt_irrefl _ (hOlt _ hm)
    have h3 := h2.adopt (id := d) (r := ⟨e, true, false, row⟩) h.bel.size hlt hwO hd ⟨cur, te, fr, hg, hf, by simp only [hl]; exact hle, fun h => (by cases h), fun j u x hu hx => by
      show Rep _ _ _ _
      exact rd _ (fun b hb => ⟨by have := hb.1; omega, by simp only [List.mem_cons, not_or]; exact ⟨by have := hb.1; omega, hb.2.1⟩, hb.2.2⟩) j u x hu hx⟩
    cases hg0 : g0 with
    | none =>
      rw [hg0] at hO; subst hO
      exact ⟨_, h3, fin _ (by unfold bind_; rw [if_pos rfl])⟩
    | some g =>
      rw [hg0] at hO; subst hO
      exact ⟨_, h3.free_, fin _ (by unfold bind_; rw [if_pos rfl])⟩
end
end Go.Proofs.Ytbehdllomepkdaa
