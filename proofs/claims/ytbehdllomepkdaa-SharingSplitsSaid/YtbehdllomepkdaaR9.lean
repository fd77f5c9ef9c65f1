/-
  Stores, copies and appends: what the plain state becomes, and that this is right. Over any program. No condition.
-/
import Derived.Test.YtbehdllomepkdaaR8
namespace Go.Proofs.Ytbehdllomepkdaa
open Go.RowKit

section
variable {S0 : Nat → Prop} {w0 w w' : World} {n : Nat} {s : AS} {a : Act} {φ : Nat → Option Nat}
/-- A row is written. -/
theorem SimO.stored (h : SimO S0 w0 n [] s a w φ) {id : Nat} {r r' : Row} {g : Nat} (hr : look s.H id = some r) (hφ : φ id = some g) (he : r'.e = r.e) (hlen : r'.cells.length = r.cells.length) (hfull : r'.full = r.full)
    {cur cur' : Array Value} {te : TypeId} {fr : Nat × Nat} (hg : w.heap[g]? = some (.cells cur te fr)) (hg' : w'.heap[g]? = some (.cells cur' te fr)) (hsz : cur'.size = cur.size)
    (hos : w'.os = w.os) (htape : w'.tape = w.tape) (hout : w'.output = w.output) (hws : w'.heap.size = w.heap.size) (hb : ∀ b, b ≠ g → w'.heap[b]? = w.heap[b]?)
    (hc : ∀ (j : Nat) u x, cur'[j]? = some u → r'.cells[j]? = some x → CellDen (infoOf s.H φ) (Free S0 w φ []) w r'.pure u x) : SimO S0 w0 n [] ⟨s.F, (id, r') :: drop_ s.H id⟩ a w' φ := by
  have hI : ∀ i x, infoOf s.H φ i = some x → infoOf ((id, r') :: drop_ s.H id) φ i = some x := by
    intro i x hi
    obtain ⟨e, m, b⟩ := x
    obtain ⟨q, hl, h1, h2, h3⟩ := info_some hi
    by_cases hne : id = i
    · subst hne
      rw [hr] at hl; injection hl with hl; subst hl
      rw [info_of (r := r') (by rw [look_cons, if_pos rfl]), he, hlen, h1, h2, h3]
    · rw [info_of (r := q) (by rw [look_cons, if_neg hne, look_drop, if_neg hne, hl]), h1, h2, h3]
  have hF : ∀ b, Free S0 w φ [] b → Free S0 w' φ [] b ∧ w'.heap[b]? = w.heap[b]? := fun b hb' => ⟨⟨by rw [hws]; exact hb'.1, hb'.2⟩, hb b fun e => hb'.2.2.1 id (by rw [hφ, e])⟩
  have hL : ∀ i e m g', infoOf s.H φ i = some (e, m, some g') → cellsLen w' g' = cellsLen w g' := by
    intro i e m g' _
    unfold cellsLen
    by_cases e : g' = g
    · subst e; rw [hg, hg']; exact hsz
    · rw [hb g' e]
  have hrow := h.rows id r hr
  unfold RowDen at hrow
  rw [hφ] at hrow
  obtain ⟨cur0, te0, fr0, hg0, hfr, hle, hfu, -⟩ := hrow
  rw [hg] at hg0
  injection hg0 with hg0
  injection hg0 with e1 e2 e3
  subst e1; subst e2; subst e3
  refine ⟨h.tsz, h.dfr, ⟨hos.trans h.bel.os, htape.trans h.bel.tape, hout.trans h.bel.output, by rw [hws]; exact h.bel.size, fun k hk => ?_⟩, fun i av hi => (h.slots i av hi).mono hI hF hL, fun i q hq => ?_, fun i hi => ?_, h.inj, fun i g' hg' => by rw [hws]; exact h.rng i g' hg', h.apart, h.new⟩
  · rw [hb k (fun e => by have := (h.rng id g hφ).1; omega)]
    exact h.bel.block k hk
  · rw [look_cons] at hq
    by_cases hne : id = i
    · rw [if_pos hne] at hq; injection hq with hq; subst hq; subst hne
      rw [hφ]
      refine ⟨cur', te, fr, hg', fun j hj => hfr j (by omega), by rw [hlen, hsz]; exact hle, fun hf => by rw [hlen, hsz]; exact hfu (by rw [← hfull]; exact hf), fun j u x hu hx => ?_⟩
      have := hc j u x hu hx
      unfold CellDen at this ⊢
      cases hp : r'.pure with
      | true => rw [hp] at this; exact this.mono hF
      | false => rw [hp] at this; exact this.mono hI hF hL
    · rw [if_neg hne, look_drop, if_neg hne] at hq
      have hq' := h.rows i q hq
      unfold RowDen at hq' ⊢
      cases hφi : φ i with
      | none => rw [hφi] at hq'; exact hq'
      | some g2 =>
        rw [hφi] at hq'
        obtain ⟨cur2, te2, fr2, hg2, hf2, hl2, hfu2, hc2⟩ := hq'
        have hne2 : g2 ≠ g := fun e => hne (h.inj id i g hφ (by rw [hφi, e]))
        refine ⟨cur2, te2, fr2, (hb g2 hne2).trans hg2, hf2, hl2, hfu2, fun j u x hu hx => ?_⟩
        have := hc2 j u x hu hx
        unfold CellDen at this ⊢
        cases hp : q.pure with
        | true => rw [hp] at this; exact this.mono hF
        | false => rw [hp] at this; exact this.mono hI hF hL
  · rw [look_cons] at hi
    by_cases hne : id = i
    · rw [if_pos hne] at hi; cases hi
    · rw [if_neg hne, look_drop, if_neg hne] at hi
      exact h.only i hi
end

def cellOK : AV → Bool
  | .val u => u.oneCell'
  | .nil => true
  | .sl _ _ => true
  | .ptr _ _ => true
  | .ref _ => true
  | .pre _ _ => true
  | .win _ _ _ => true
  | .addr _ _ => true
  | _ => false
def cellsOK : List AV → Bool
  | [] => true
  | x :: l => match cellOK x with | true => cellsOK l | false => false
theorem cellOK_one {I : Info} {S : Nat → Prop} {w : World} {v : Value} {x : AV} (hd : Den I S w v x) (hp : cellOK x = true) : v.oneCell' = true := by
  cases hd with
  | rep h => cases h <;> first | exact hp | rfl | cases hp
  | agg => cases hp
  | tup => cases hp
  | dead => cases hp
  | _ => rfl
theorem cellsOK_at : ∀ {l : List AV} {j : Nat} {x : AV}, cellsOK l = true → l[j]? = some x → cellOK x = true
  | [], j, x, _, h => by simp at h
  | y :: l, j, x, hp, h => by
    simp only [cellsOK] at hp
    split at hp
    · rename_i hy
      cases j with
      | zero => simp at h; subst h; exact hy
      | succ j => exact cellsOK_at hp (by simpa using h)
    · cases hp
def setCells (cells : List AV) (off : Nat) (l : List AV) : List AV := match l with | [x] => cells.set off x | l => cells.take off ++ l ++ cells.drop (off + l.length)
theorem setCells_eq (cells : List AV) (off : Nat) (l : List AV) (h : off + l.length ≤ cells.length) : setCells cells off l = cells.take off ++ l ++ cells.drop (off + l.length) := by
  unfold setCells
  split
  · rename_i x
    simp only [List.length_cons, List.length_nil] at h ⊢
    rw [List.set_eq_take_append_cons_drop, if_pos (by omega)]
    simp
  · rfl
theorem splice_at {α : Type} (l m : List α) (off j : Nat) (h : off + m.length ≤ l.length) : (l.take off ++ m ++ l.drop (off + m.length))[j]? = if off ≤ j ∧ j < off + m.length then m[j - off]? else l[j]? := by
  by_cases h1 : j < off
  · rw [List.getElem?_append_left (by simp only [List.length_append, List.length_take]; omega), List.getElem?_append_left (by simp only [List.length_take]; omega), List.getElem?_take, if_pos h1, if_neg (by omega)]
  · by_cases h2 : j < off + m.length
    · rw [List.getElem?_append_left (by simp only [List.length_append, List.length_take]; omega), List.getElem?_append_right (by simp only [List.length_take]; omega), if_pos (by omega)]
      congr 1; simp only [List.length_take]; omega
    · rw [List.getElem?_append_right (by simp only [List.length_append, List.length_take]; omega), List.getElem?_drop, if_neg (by omega)]
      congr 1; simp only [List.length_append, List.length_take]; omega
theorem splice_len {α : Type} (l m : List α) (off : Nat) (h : off + m.length ≤ l.length) : (l.take off ++ m ++ l.drop (off + m.length)).length = l.length := by
  simp only [List.length_append, List.length_take, List.length_drop]; omega

/-- The state in which row id reads r. -/
def setH (s : AS) (id : Nat) (r : Row) : AS := ⟨s.F, (id, r) :: drop_ s.H id⟩
def evStore (P : Program) (s : AS) (t : TypeId) (x : Operand) (y : Operand) (h : Hint) : Option (AS × List Prop) :=
  match opd s x with
  | .addr id off => (match look s.H id, sizeT P t with
    | some r, some z => (match r.pure with
      | true => (match thawAll s (ids1 (opd s y)) with
        | some s1 => (match look s1.H id, avCells (opd s1 y), opd s1 x with
          | some r1, some l, .addr id' off' => (match Nat.beq id id', Nat.beq l.length z, plainL l, r1.pure with
            | true, true, true, true => some (setH s1 id ⟨r1.e, true, r1.full, (named h (setCells r1.cells off' l)).1⟩, (named h (setCells r1.cells off' l)).2 ++ [off' + l.length ≤ r1.cells.length])
            | _, _, _, _ => none)
          | _, _, _ => none)
        | none => none)
      | false => (match avCells (opd s y) with
        | some l => (match Nat.beq l.length z, cellsOK l with
          | true, true => some (setH s id ⟨r.e, false, r.full, (named h (setCells r.cells off l)).1⟩, (named h (setCells r.cells off l)).2 ++ [off + l.length ≤ r.cells.length])
          | _, _ => none)
        | none => none))
    | _, _ => none)
  | _ => none
section
variable {P : Program} {n : Nat} {s : AS} {o : Oper} {h : Hint} {q : AS × List Prop}
theorem run_storeVar_at {w : World} {t : TypeId} {g off z : Nat} {v : Value} {vs : List Value} {cur : Array Value} {te : TypeId} {fr : Nat × Nat} (hz : sizeT P t = some z) (hv : v.cells = vs.toArray) (hl : vs.length = z) (hg : w.heap[g]? = some (.cells cur te fr)) (hf : ∀ j, j < cur.size → ¬ (fr.1 ≤ j ∧ j < fr.2)) (hfit : off + vs.length ≤ cur.size) (h1 : ∀ u ∈ vs, u.oneCell' = true) :
    (storeVar t ⟨g, off, none⟩ v).run P w = .ok () (w.setRow g (cur.toList.take off ++ vs ++ cur.toList.drop (off + vs.length)).toArray) := by
  have hst := run_storeCells_free P g te fr cur.size hf off vs 0 cur w hg (by omega) rfl h1
  simp only [Nat.add_zero] at hst
  unfold storeVar
  have hz' : (sizeOf t).run P w = .ok z w := run_sizeOf hz
  simp only [Sem.run_bind, hz', Result.andThen_ok, Sem.run_ite, hv]
  rw [if_neg (by simp [hl])]
  simp [hst]
theorem setRow_facts {w : World} {g : Nat} {cur cur' : Array Value} {te : TypeId} {fr : Nat × Nat} (hg : w.heap[g]? = some (.cells cur te fr)) : (w.setRow g cur').heap[g]? = some (.cells cur' te fr) ∧ (w.setRow g cur').heap.size = w.heap.size ∧ ∀ b, b ≠ g → (w.setRow g cur').heap[b]? = w.heap[b]? :=
  ⟨setRow_heap w g cur cur' te fr hg, by simp, fun b hb => setRow_other w g b _ hb⟩
/-- Cells are written into a row at block g. -/
theorem SimO.written {S0 : Nat → Prop} {w0 w : World} {a : Act} {φ : Nat → Option Nat} (hs : SimO S0 w0 n [] s a w φ) {id off g : Nat} {r : Row} {l cells : List AV} {vs : List Value} {cur : Array Value} {te : TypeId} {fr : Nat × Nat} (hr : look s.H id = some r) (hφ : φ id = some g) (hg : w.heap[g]? = some (.cells cur te fr)) (hle : r.cells.length ≤ cur.size)
    (hold : ∀ (j : Nat) u x, cur[j]? = some u → r.cells[j]? = some x → CellDen (infoOf s.H φ) (Free S0 w φ []) w r.pure u x) (hlen : vs.length = l.length) (hfit : off + l.length ≤ r.cells.length) (hcells : cells = setCells r.cells off l)
    (hnew : ∀ (j : Nat) u x, vs[j]? = some u → l[j]? = some x → CellDen (infoOf s.H φ) (Free S0 w φ []) w r.pure u x) :
    SimO S0 w0 n [] (setH s id ⟨r.e, r.pure, r.full, cells⟩) a (w.setRow g (cur.toList.take off ++ vs ++ cur.toList.drop (off + vs.length)).toArray) φ := by
  obtain ⟨f1, f2, f3⟩ := setRow_facts (cur' := (cur.toList.take off ++ vs ++ cur.toList.drop (off + vs.length)).toArray) hg
  have hcl : cur.toList.length = cur.size := rfl
  rw [setCells_eq _ _ _ hfit] at hcells
  refine hs.stored (r' := ⟨r.e, r.pure, r.full, cells⟩) hr hφ rfl (by rw [hcells, splice_len _ _ _ hfit]) rfl hg f1 (by simp only [List.size_toArray]; rw [splice_len _ _ _ (by omega)]; rfl) rfl rfl rfl f2 f3 fun j u x hu hx => ?_
  simp only [List.getElem?_toArray] at hu
  rw [splice_at _ _ _ _ (by omega)] at hu
  simp only [hcells] at hx
  rw [splice_at _ _ _ _ hfit] at hx
  by_cases hj : off ≤ j ∧ j < off + l.length
  · rw [if_pos hj] at hx
    rw [if_pos (by omega)] at hu
    exact hnew _ u x hu hx
  · rw [if_neg hj] at hx
    rw [if_neg (by omega)] at hu
    exact hold j u x (by simpa using hu) hx
theorem row_at {S0 : Nat → Prop} {w0 w : World} {a : Act} {φ : Nat → Option Nat} (hs : SimO S0 w0 n [] s a w φ) {id g : Nat} {r : Row} (hr : look s.H id = some r) (hφ : φ id = some g) : ∃ cur te fr, w.heap[g]? = some (.cells cur te fr) ∧ (∀ j, j < cur.size → ¬ (fr.1 ≤ j ∧ j < fr.2)) ∧ r.cells.length ≤ cur.size ∧ ∀ (j : Nat) u x, cur[j]? = some u → r.cells[j]? = some x → CellDen (infoOf s.H φ) (Free S0 w φ []) w r.pure u x := by
  have hrow := hs.rows id r hr
  unfold RowDen at hrow
  rw [hφ] at hrow
  obtain ⟨cur, te, fr, hg, hf, hl, -, hc⟩ := hrow
  exact ⟨cur, te, fr, hg, hf, hl, hc⟩
theorem store_wp {S0 : Nat → Prop} {w0 w : World} {a : Act} {φ : Nat → Option Nat} {Q : Exit → Act → World → Prop} (hs : SimO S0 w0 n [] s a w φ) {t : TypeId} {x y : Operand} (ho : o.op = .store t x y) (hd : o.dst = none) {id off z : Nat} {r : Row} {l cells : List AV} (hx : opd s x = .addr id off) (hr : look s.H id = some r) (hz : sizeT P t = some z) (hl : avCells (opd s y) = some l) (hlz : l.length = z) (hfit : off + l.length ≤ r.cells.length) (hcells : cells = setCells r.cells off l)
    (hp : (r.pure = true ∧ plainL l = true) ∨ (r.pure = false ∧ cellsOK l = true)) : o.wp P a w (fun a' w' => Sim S0 w0 n (setH s id ⟨r.e, r.pure, r.full, cells⟩) a' w') Q := by
  have hxd := hs.opd x
  rw [hx] at hxd
  obtain ⟨e, m, g, hi, hv⟩ := den_addr hxd
  obtain ⟨r', hr', -, -, hφ⟩ := info_some hi
  obtain ⟨cur, te, fr, hg, hf, hle, hold⟩ := row_at hs hr hφ
  obtain ⟨vs, hvc, hvl, hden⟩ := den_cells (hs.opd y) hl
  have hone : ∀ u ∈ vs, u.oneCell' = true := by
    intro u hu
    obtain ⟨j, hj⟩ := List.getElem?_of_mem hu
    have hjl : j < l.length := by have := (List.getElem?_eq_some_iff.1 hj).1; omega
    have hlj : l[j]? = some l[j] := List.getElem?_eq_getElem hjl
    rcases hp with ⟨-, hp⟩ | ⟨-, hp⟩
    · exact (plain0_rep (hden j u _ hj hlj) (plainL_at hp hlj)).2
    · exact cellOK_one (hden j u _ hj hlj) (cellsOK_at hp hlj)
  have hrun := run_storeVar_at (P := P) (w := w) (t := t) (g := g) (off := off) hz hvc (by omega) hg hf (by omega) hone
  unfold Oper.wp
  have : (execOp a.eval o).run P w = .ok .skip (w.setRow g (cur.toList.take off ++ vs ++ cur.toList.drop (off + vs.length)).toArray) := by
    unfold execOp
    simp [ho, Instr.storeAt, Instr.sureAddr, hv, hrun]
  rw [this]
  show Sim S0 w0 n _ (a.put o.dst undef) _
  rw [hd]
  refine ⟨φ, hs.written hr hφ hg hle hold hvl hfit hcells fun j u x hu hx => ?_⟩
  unfold CellDen
  rcases hp with ⟨hpu, hp⟩ | ⟨hpu, hp⟩ <;> rw [hpu]
  · exact (plain0_rep (hden j u x hu hx) (plainL_at hp hx)).1
  · exact hden j u x hu hx
theorem evStore_ok {t : TypeId} {x y : Operand} (ho : o.op = .store t x y) (hd : o.dst = none) (hr : evStore P s t x y h = some q) : OpOK P n s o q.1 q.2 := by
  intro hC S0 w0 a w Q ⟨φ0, hs0⟩
  unfold evStore at hr
  split at hr
  · rename_i id off hx
    split at hr
    · rename_i r z hrow hz
      split at hr
      · rename_i hpure
        split at hr
        · rename_i s1 hth
          obtain ⟨φ, hs⟩ := thawAll_ok _ _ _ _ hth hs0
          split at hr
          · rename_i r1 l id' off' hr1 hl hx1
            split at hr
            · rename_i h1 h2 h3 h4
              injection hr with hr; subst hr
              have h1 := Nat.eq_of_beq_eq_true h1
              have h2 := Nat.eq_of_beq_eq_true h2
              subst h1
              obtain ⟨hn, hfit, -⟩ := named_ok hC
              have := store_wp (Q := Q) hs ho hd hx1 hr1 hz hl h2 hfit hn (.inl ⟨h4, h3⟩)
              rw [h4] at this
              exact this
            · cases hr
          · cases hr
        · cases hr
      · rename_i hpure
        split at hr
        · rename_i l hl
          split at hr
          · rename_i h2 h3
            injection hr with hr; subst hr
            have h2 := Nat.eq_of_beq_eq_true h2
            obtain ⟨hn, hfit, -⟩ := named_ok hC
            have := store_wp (Q := Q) hs0 ho hd hx hrow hz hl h2 hfit hn (.inr ⟨hpure, h3⟩)
            rw [hpure] at this
            exact this
          · cases hr
        · cases hr
    · cases hr
  · cases hr

-- what is appended or copied

/-- The cells that a slice (or a string) reads. -/
def srcOf (s : AS) : AV → Option (Nat × List AV)
  | .nil => some (0, [])
  | .sl e row => some (e, row)
  | .ref id => (match look s.H id with | some ⟨e, true, _, cells⟩ => some (e, cells) | _ => none)
  | .pre id l => (match look s.H id with | some ⟨e, true, _, cells⟩ => some (e, cells.take l) | _ => none)
  | .win id o l => (match look s.H id with | some ⟨e, true, _, cells⟩ => some (e, (cells.drop o).take l) | _ => none)
  | _ => none
theorem rep_src {S : Nat → Prop} {w : World} {A : Option Addr} {m c e : Nat} {row : List AV} (h : Rep S w (.slice A m c) (.sl e row)) : row.length = e * m ∧ ∃ us : List Value, us.length = row.length ∧ (0 < row.length → ∃ ad, A = some ad ∧ ∀ (j : Nat) u, us[j]? = some u → w.cell? (ad.add j) = some u) ∧ ∀ (j : Nat) u x, us[j]? = some u → row[j]? = some x → Rep S w u x := by
  cases h with
  | sl _ _ _ _ us _ hl hn hc hm ha h =>
    exact ⟨hn, us, hl, fun h0 => by obtain ⟨ad, e1, _, e2⟩ := ha h0; exact ⟨ad, e1, e2⟩, h⟩
theorem src_ok {S0 : Nat → Prop} {w0 w : World} {a : Act} {φ : Nat → Option Nat} (hs : SimO S0 w0 n [] s a w φ) {v : Value} {x : AV} (hx : Den (infoOf s.H φ) (Free S0 w φ []) w v x) {e : Nat} {row : List AV} (he : srcOf s x = some (e, row)) :
    ∃ (A : Option Addr) (m c : Nat) (us : List Value), v = .slice A m c ∧ row.length = e * m ∧ us.length = row.length ∧ (0 < row.length → ∃ ad, A = some ad ∧ ∀ (j : Nat) u, us[j]? = some u → w.cell? (ad.add j) = some u) ∧ (∀ (j : Nat) u x, us[j]? = some u → row[j]? = some x → Rep (Free S0 w φ []) w u x) ∧ m ≤ maxLen := by
  have blk : ∀ (id g : Nat) (r : Row), look s.H id = some r → r.pure = true → φ id = some g → ∃ us : List Value, r.cells.length ≤ us.length ∧ (∀ (j : Nat) u, us[j]? = some u → w.cell? ⟨g, j, none⟩ = some u) ∧ ∀ (j : Nat) u x, us[j]? = some u → r.cells[j]? = some x → Rep (Free S0 w φ []) w u x := by
    intro id g r hr hp hg
    obtain ⟨cur, te, fr, hg', hf, hl, hc⟩ := row_pure hs hr hp hg
    exact ⟨cur.toList, hl, fun j u hu => by rw [cell_of_row w g _ cur te fr hg']; simpa using hu, fun j u x hu hx => hc j u x (by simpa using hu) hx⟩
  cases hx with
  | rep h =>
    cases h with
    | nil => injection he with he; injection he with h1 h2; subst h1; subst h2; exact ⟨none, 0, 0, [], rfl, rfl, rfl, fun h => (by simp at h), fun j u x hu => (by simp at hu), by simp⟩
    | sl A n c e' us row' hl hn hc hm ha h =>
      injection he with he; injection he with h1 h2; subst h1; subst h2
      exact ⟨A, n, c, us, rfl, hn, hl, fun h0 => by obtain ⟨ad, e1, _, e2⟩ := ha h0; exact ⟨ad, e1, e2⟩, h, by omega⟩
    | _ => cases he
  | agg => cases he
  | tup => cases he
  | dead => cases he
  | addr => cases he
  | ref id e' m g l c hi hm hc hx hs' =>
    obtain ⟨r, hr, h1, h2, hφ⟩ := info_some hi
    obtain ⟨re, rp, rf, rc⟩ := r
    simp only [srcOf, hr] at he
    split at he
    · rename_i heq
      injection heq with heq; cases heq
      injection he with he; injection he with h3 h4; subst h3; subst h4
      obtain ⟨us, hu1, hu2, hu3⟩ := blk id g _ hr rfl hφ
      simp only at h1 h2 hu1 hu3
      exact ⟨_, l, c, us.take rc.length, rfl, by rw [h2, hm, h1], by rw [List.length_take]; omega, fun _ => ⟨_, rfl, fun j u hu => by rw [addr0_add]; exact hu2 j u (take_get _ _ _ _ hu)⟩, fun j u x hu hx => hu3 j u x (take_get _ _ _ _ hu) hx, by omega⟩
    · cases he
  | refnil id e' hi =>
    obtain ⟨r, hr, h1, h2, hφ⟩ := info_some hi
    obtain ⟨re, rp, rf, rc⟩ := r
    simp only [srcOf, hr] at he
    split at he
    · rename_i heq
      injection heq with heq; cases heq
      injection he with he; injection he with h3 h4; subst h3; subst h4
      simp only at h2
      have : rc = [] := List.length_eq_zero_iff.1 h2
      subst this
      exact ⟨none, 0, 0, [], rfl, rfl, rfl, fun h => (by simp at h), fun j u x hu => (by simp at hu), by simp⟩
    · cases he
  | pre id k e' m g l c hi hn hm hc hx hs' =>
    obtain ⟨r, hr, h1, h2, hφ⟩ := info_some hi
    obtain ⟨re, rp, rf, rc⟩ := r
    simp only [srcOf, hr] at he
    split at he
    · rename_i heq
      injection heq with heq; cases heq
      injection he with he; injection he with h3 h4; subst h3; subst h4
      obtain ⟨us, hu1, hu2, hu3⟩ := blk id g _ hr rfl hφ
      simp only at h1 h2 hu1 hu3
      have hlk : (rc.take k).length = k := by rw [List.length_take]; omega
      exact ⟨_, l, c, us.take k, rfl, by rw [hlk, hn, h1], by rw [hlk, List.length_take]; omega, fun _ => ⟨_, rfl, fun j u hu => by rw [addr0_add]; exact hu2 j u (take_get _ _ _ _ hu)⟩, fun j u x hu hx => hu3 j u x (take_get _ _ _ _ hu) (take_get _ _ _ _ hx), by omega⟩
    · cases he
  | prenil id e' hi =>
    obtain ⟨r, hr, h1, h2, hφ⟩ := info_some hi
    obtain ⟨re, rp, rf, rc⟩ := r
    simp only [srcOf, hr] at he
    split at he
    · rename_i heq
      injection heq with heq; cases heq
      injection he with he; injection he with h3 h4; subst h3; subst h4
      simp only [List.take_zero]
      exact ⟨none, 0, 0, [], rfl, rfl, rfl, fun h => (by simp at h), fun j u x hu => (by simp at hu), by simp⟩
    · cases he
  | win id off k e' m l c g A hi hn hm hc hx ha =>
    obtain ⟨r, hr, h1, h2, hφ⟩ := info_some hi
    obtain ⟨re, rp, rf, rc⟩ := r
    simp only [srcOf, hr] at he
    split at he
    · rename_i heq
      injection heq with heq; cases heq
      injection he with he; injection he with h3 h4; subst h3; subst h4
      simp only at h1 h2
      have hlk : ((rc.drop off).take k).length = k := by rw [List.length_take, List.length_drop]; omega
      by_cases hk : 0 < k
      · obtain ⟨b, hb, hA⟩ := ha hk
        rw [hb] at hφ
        obtain ⟨us, hu1, hu2, hu3⟩ := blk id b _ hr rfl hφ
        simp only at hu1 hu3
        exact ⟨A, l, c, (us.drop off).take k, rfl, by rw [hlk, hn, h1], by rw [hlk, List.length_take, List.length_drop]; omega, fun _ => ⟨_, hA, fun j u hu => by rw [addr_add]; exact hu2 _ u (drop_take_get _ _ _ _ _ hu)⟩, fun j u x hu hx => hu3 _ u x (drop_take_get _ _ _ _ _ hu) (drop_take_get _ _ _ _ _ hx), by omega⟩
      · have : (rc.drop off).take k = [] := List.length_eq_zero_iff.1 (by omega)
        rw [this]
        exact ⟨A, l, c, [], rfl, by rw [h1]; simp; omega, rfl, fun h => (by simp at h), fun j u x hu => (by simp at hu), by omega⟩
    · cases he
end
end Go.Proofs.Ytbehdllomepkdaa
