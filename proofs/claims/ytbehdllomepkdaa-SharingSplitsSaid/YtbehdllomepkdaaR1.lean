/-
  A plain reading of Go's data: a value in memory reads as a tree (AV); what a call owns is a row with a name (id). The relation Sim says that a frame and the memory read as a plain state. Over any program. No condition.
-/
import Derived.Test.YtbehdllomepkdaaOwn
namespace Go.Proofs.Ytbehdllomepkdaa
open Go.RowKit

/-- A plain value. 'agg', 'arr': a struct, an array (of cells that name no row); 'sl e row': a slice whose cells read as row (e cells each element); 'ptr row off': an address in such a row; 'own', 'box': new memory that a call hands out; 'ref', 'pre', 'win', 'addr': a slice (the beginning of it, a part of it) of a row that the call owns, an address in it. -/
inductive AV where
  | val (v : Value)
  | nil
  | agg (cs : List AV)
  | tup (cs : List AV)
  | arr (cs : List AV)
  | sl (e : Nat) (row : List AV)
  | ptr (row : List AV) (off : Nat)
  | own (e : Nat) (row : List AV)
  | ref (id : Nat)
  | pre (id n : Nat)
  | win (id off n : Nat)
  | addr (id off : Nat)
  | dead
  deriving Inhabited

/-- The value v reads as av; what it reads lies in blocks of S. -/
inductive Rep (S : Nat → Prop) (w : World) : Value → AV → Prop
  | val (v : Value) : Rep S w v (.val v)
  | nil : Rep S w (.slice none 0 0) .nil
  | agg (vs : List Value) (cs : List AV) (hl : vs.length = cs.length) (h : ∀ (j : Nat) v c, vs[j]? = some v → cs[j]? = some c → Rep S w v c) : Rep S w (.agg vs.toArray) (.agg cs)
  | tup (vs : List Value) (cs : List AV) (hl : vs.length = cs.length) (h : ∀ (j : Nat) v c, vs[j]? = some v → cs[j]? = some c → Rep S w v c) : Rep S w (.tuple vs.toArray) (.tup cs)
  | arr (vs : List Value) (cs : List AV) (hl : vs.length = cs.length) (h : ∀ (j : Nat) v c, vs[j]? = some v → cs[j]? = some c → Rep S w v c) : Rep S w (.agg vs.toArray) (.arr cs)
  | sl (A : Option Addr) (n c e : Nat) (us : List Value) (row : List AV) (hl : us.length = row.length) (hn : row.length = e * n) (hc : n ≤ c) (hm : c ≤ maxLen)
      (ha : 0 < row.length → ∃ ad, A = some ad ∧ S ad.block ∧ ∀ (j : Nat) u, us[j]? = some u → w.cell? (ad.add j) = some u)
      (h : ∀ (j : Nat) u x, us[j]? = some u → row[j]? = some x → Rep S w u x) : Rep S w (.slice A n c) (.sl e row)
  | ptr (ad : Addr) (us : List Value) (row : List AV) (off : Nat) (hl : us.length = row.length) (hs : S ad.block) (ha : ∀ (j : Nat) u, us[j]? = some u → w.cell? (ad.add j) = some u)
      (h : ∀ (j : Nat) u x, us[j]? = some u → row[j]? = some x → Rep S w u x) : Rep S w (.pointer (some (ad.add off))) (.ptr row off)

theorem cell_same {w w' : World} {p : Addr} (h : w'.heap[p.block]? = w.heap[p.block]?) : w'.cell? p = w.cell? p := World.cell?_of_block (w := w) h

theorem Rep.mono {S S' : Nat → Prop} {w w' : World} (hS : ∀ b, S b → S' b ∧ w'.heap[b]? = w.heap[b]?) {v : Value} {av : AV} (h : Rep S w v av) : Rep S' w' v av := by
  induction h with
  | val v => exact .val v
  | nil => exact .nil
  | agg vs cs hl _ ih => exact .agg vs cs hl ih
  | tup vs cs hl _ ih => exact .tup vs cs hl ih
  | arr vs cs hl _ ih => exact .arr vs cs hl ih
  | sl A n c e us row hl hn hc hm ha _ ih =>
    refine .sl A n c e us row hl hn hc hm (fun h0 => ?_) ih
    obtain ⟨ad, rfl, hb, hcell⟩ := ha h0
    exact ⟨ad, rfl, (hS _ hb).1, fun j u hu => (cell_same (by rw [block_of_add]; exact (hS _ hb).2)).trans (hcell j u hu)⟩
  | ptr ad us row off hl hs ha _ ih =>
    exact .ptr ad us row off hl (hS _ hs).1 (fun j u hu => (cell_same (by rw [block_of_add]; exact (hS _ hs).2)).trans (ha j u hu)) ih

/-- What is known of the rows that a call owns: the cells of an element, the number of cells, the block (none: the slice is nil). -/
abbrev Info := Nat → Option (Nat × Nat × Option Nat)
def cellsLen (w : World) (g : Nat) : Nat := match w.heap[g]? with | some (.cells c _ _) => c.size | _ => 0

/-- The value v reads as av, which may name rows that the call owns. -/
inductive Den (I : Info) (S : Nat → Prop) (w : World) : Value → AV → Prop
  | rep {v : Value} {av : AV} (h : Rep S w v av) : Den I S w v av
  | agg (vs : List Value) (cs : List AV) (hl : vs.length = cs.length) (h : ∀ (j : Nat) v c, vs[j]? = some v → cs[j]? = some c → Den I S w v c) : Den I S w (.agg vs.toArray) (.agg cs)
  | tup (vs : List Value) (cs : List AV) (hl : vs.length = cs.length) (h : ∀ (j : Nat) v c, vs[j]? = some v → cs[j]? = some c → Den I S w v c) : Den I S w (.tuple vs.toArray) (.tup cs)
  | ref (id e m g l c : Nat) (hi : I id = some (e, m, some g)) (hm : m = e * l) (hc : l ≤ c) (hx : c ≤ maxLen) (hs : cellsLen w g = e * c) : Den I S w (.slice (some ⟨g, 0, none⟩) l c) (.ref id)
  | refnil (id e : Nat) (hi : I id = some (e, 0, none)) : Den I S w (.slice none 0 0) (.ref id)
  | pre (id n e m g l c : Nat) (hi : I id = some (e, m, some g)) (hn : n = e * l) (hm : n ≤ m) (hc : l ≤ c) (hx : c ≤ maxLen) (hs : cellsLen w g = e * c) : Den I S w (.slice (some ⟨g, 0, none⟩) l c) (.pre id n)
  | prenil (id e : Nat) (hi : I id = some (e, 0, none)) : Den I S w (.slice none 0 0) (.pre id 0)
  | win (id off n e m l c : Nat) (g : Option Nat) (A : Option Addr) (hi : I id = some (e, m, g)) (hn : n = e * l) (hm : off + n ≤ m) (hc : l ≤ c) (hx : c ≤ maxLen) (ha : 0 < n → ∃ b, g = some b ∧ A = some ⟨b, off, none⟩) : Den I S w (.slice A l c) (.win id off n)
  | addr (id off e m g : Nat) (hi : I id = some (e, m, some g)) : Den I S w (.pointer (some ⟨g, off, none⟩)) (.addr id off)
  | dead (v : Value) : Den I S w v .dead

theorem Den.mono {I I' : Info} {S S' : Nat → Prop} {w w' : World} (hI : ∀ id x, I id = some x → I' id = some x) (hS : ∀ b, S b → S' b ∧ w'.heap[b]? = w.heap[b]?)
    (hL : ∀ id e m g, I id = some (e, m, some g) → cellsLen w' g = cellsLen w g) {v : Value} {av : AV} (h : Den I S w v av) : Den I' S' w' v av := by
  induction h with
  | rep h => exact .rep (h.mono hS)
  | agg vs cs hl _ ih => exact .agg vs cs hl ih
  | tup vs cs hl _ ih => exact .tup vs cs hl ih
  | ref id e m g l c hi hm hc hx hs => exact .ref id e m g l c (hI _ _ hi) hm hc hx ((hL _ _ _ _ hi).trans hs)
  | refnil id e hi => exact .refnil id e (hI _ _ hi)
  | pre id n e m g l c hi hn hm hc hx hs => exact .pre id n e m g l c (hI _ _ hi) hn hm hc hx ((hL _ _ _ _ hi).trans hs)
  | prenil id e hi => exact .prenil id e (hI _ _ hi)
  | win id off n e m l c g A hi hn hm hc hx ha => exact .win id off n e m l c g A (hI _ _ hi) hn hm hc hx ha
  | addr id off e m g hi => exact .addr id off e m g (hI _ _ hi)
  | dead v => exact .dead v

/-- A row that the call owns. 'pure': none of its cells names a row; 'full': the block has no more cells. -/
structure Row where
  e : Nat
  pure : Bool
  full : Bool
  cells : List AV

def CellDen (I : Info) (S : Nat → Prop) (w : World) (p : Bool) (u : Value) (x : AV) : Prop := match p with | true => Rep S w u x | false => Den I S w u x
def RowDen (I : Info) (S : Nat → Prop) (w : World) (b : Option Nat) (r : Row) : Prop :=
  match b with
  | none => r.cells = []
  | some g => ∃ cur te fr, w.heap[g]? = some (.cells cur te fr) ∧ (∀ j, j < cur.size → ¬ (fr.1 ≤ j ∧ j < fr.2)) ∧ r.cells.length ≤ cur.size ∧ (r.full = true → cur.size = r.cells.length) ∧
      ∀ (j : Nat) u x, cur[j]? = some u → r.cells[j]? = some x → CellDen I S w r.pure u x

def look {α : Type} : List (Nat × α) → Nat → Option α
  | [], _ => none
  | (k, x) :: l, i => match Nat.beq k i with | true => some x | false => look l i
def drop_ {α : Type} : List (Nat × α) → Nat → List (Nat × α)
  | [], _ => []
  | (k, x) :: l, i => match Nat.beq k i with | true => drop_ l i | false => (k, x) :: drop_ l i
def mapv {α : Type} (f : α → α) : List (Nat × α) → List (Nat × α)
  | [] => []
  | (k, x) :: l => (k, f x) :: mapv f l
theorem beq_cases (k i : Nat) : (Nat.beq k i = true ∧ k = i) ∨ (Nat.beq k i = false ∧ k ≠ i) := by
  cases h : Nat.beq k i with
  | true => exact .inl ⟨rfl, Nat.eq_of_beq_eq_true h⟩
  | false => exact .inr ⟨rfl, Nat.ne_of_beq_eq_false h⟩
theorem look_cons {α : Type} (k : Nat) (x : α) (l : List (Nat × α)) (i : Nat) : look ((k, x) :: l) i = if k = i then some x else look l i := by
  rcases beq_cases k i with ⟨h, e⟩ | ⟨h, e⟩ <;> simp [look, h, e]
theorem look_drop {α : Type} (l : List (Nat × α)) (i j : Nat) : look (drop_ l i) j = if i = j then none else look l j := by
  induction l with
  | nil => simp [drop_, look]
  | cons p l ih =>
    obtain ⟨k, x⟩ := p
    rcases beq_cases k i with ⟨h, e⟩ | ⟨h, e⟩
    · simp only [drop_, h]; rw [ih, look_cons, e]
      by_cases hj : i = j <;> simp [hj]
    · simp only [drop_, h, look_cons, ih]
      by_cases hk : k = j
      · subst hk; simp [Ne.symm e]
      · simp [hk]
theorem look_mapv {α : Type} (f : α → α) (l : List (Nat × α)) (i : Nat) : look (mapv f l) i = (look l i).map f := by
  induction l with
  | nil => rfl
  | cons p l ih =>
    obtain ⟨k, x⟩ := p
    simp only [mapv, look_cons, ih]
    by_cases hk : k = i <;> simp [hk]
theorem look_append {α : Type} (l m : List (Nat × α)) (i : Nat) : look (l ++ m) i = (look l i).or (look m i) := by
  induction l with
  | nil => simp [look]
  | cons p l ih =>
    obtain ⟨k, x⟩ := p
    simp only [List.cons_append, look_cons, ih]
    by_cases hk : k = i <;> simp [hk]

/-- A plain state: what the slots read, and the rows that the call owns. -/
structure AS where
  F : List (Nat × AV)
  H : List (Nat × Row)

def infoOf (H : List (Nat × Row)) (φ : Nat → Option Nat) : Info := fun id => (look H id).map fun r => (r.e, r.cells.length, φ id)
/-- The blocks of S0 that nobody writes: neither a row of the call's own nor one that is to be taken over. -/
def Free (S0 : Nat → Prop) (w : World) (φ : Nat → Option Nat) (O : List Nat) : Nat → Prop := fun b => b < w.heap.size ∧ b ∉ O ∧ (∀ id, φ id ≠ some b) ∧ S0 b

structure SimO (S0 : Nat → Prop) (w0 : World) (n : Nat) (O : List Nat) (s : AS) (a : Act) (w : World) (φ : Nat → Option Nat) : Prop where
  tsz : a.tmps.size = n
  dfr : a.defers = []
  bel : Below w0.heap.size w0 w
  slots : ∀ i av, look s.F i = some av → Den (infoOf s.H φ) (Free S0 w φ O) w (a.tmps.getD i undef) av
  rows : ∀ id r, look s.H id = some r → RowDen (infoOf s.H φ) (Free S0 w φ O) w (φ id) r
  only : ∀ id, look s.H id = none → φ id = none
  inj : ∀ id id' g, φ id = some g → φ id' = some g → id = id'
  rng : ∀ id g, φ id = some g → w0.heap.size ≤ g ∧ g < w.heap.size
  apart : ∀ id g, φ id = some g → g ∉ O
  new : ∀ b, w0.heap.size ≤ b → S0 b
/-- The frame a and the memory w read as the plain state s; below the blocks that were there at the start nothing has turned. -/
def Sim (S0 : Nat → Prop) (w0 : World) (n : Nat) (s : AS) (a : Act) (w : World) : Prop := ∃ φ, SimO S0 w0 n [] s a w φ

def getF (s : AS) (i : Nat) : AV := match look s.F i with | some x => x | none => .dead
def setF (s : AS) (i : Nat) (x : AV) : AS := ⟨(i, x) :: drop_ s.F i, s.H⟩
theorem look_setF (s : AS) (i j : Nat) (x : AV) : look (setF s i x).F j = if i = j then some x else look s.F j := by
  simp only [setF, look_cons, look_drop]
  by_cases h : i = j <;> simp [h]

section
variable {S0 : Nat → Prop} {w0 w w' : World} {n : Nat} {O : List Nat} {s : AS} {a : Act} {φ : Nat → Option Nat}
theorem SimO.get (h : SimO S0 w0 n O s a w φ) (i : Nat) : Den (infoOf s.H φ) (Free S0 w φ O) w (a.tmps.getD i undef) (getF s i) := by
  unfold getF
  cases hl : look s.F i with
  | none => exact .dead _
  | some x => exact h.slots i x hl
theorem put_getD (a : Act) (d i : Nat) (v : Value) (hd : d < a.tmps.size) : (a.put (some d) v).tmps.getD i undef = if d = i then v else a.tmps.getD i undef := by
  simp only [Act.put]
  by_cases h : d = i
  · subst h; simp [hd]
  · simp [h, Array.getElem?_setIfInBounds_ne h]
theorem tmps_put (a : Act) (d : Option Nat) (v : Value) : (a.put d v).tmps.size = a.tmps.size := by cases d <;> simp [Act.put]
theorem defers_put (a : Act) (d : Option Nat) (v : Value) : (a.put d v).defers = a.defers := by cases d <;> simp [Act.put]
/-- A slot is written; nothing else turns. -/
theorem SimO.put (h : SimO S0 w0 n O s a w φ) {d : Nat} (hd : d < n) {v : Value} {x : AV} (hx : Den (infoOf s.H φ) (Free S0 w φ O) w v x) : SimO S0 w0 n O (setF s d x) (a.put (some d) v) w φ where
  tsz := (tmps_put ..).trans h.tsz
  dfr := (defers_put ..).trans h.dfr
  bel := h.bel
  slots := fun i av hi => by
    rw [put_getD a d i v (by rw [h.tsz]; exact hd)]
    rw [look_setF] at hi
    by_cases e : d = i
    · rw [if_pos e] at hi ⊢
      injection hi with hi
      subst hi; exact hx
    · rw [if_neg e] at hi ⊢
      exact h.slots i av hi
  rows := h.rows
  only := h.only
  inj := h.inj
  rng := h.rng
  apart := h.apart
  new := h.new
/-- The world grows; nothing that was there turns. -/
theorem SimO.grow (h : SimO S0 w0 n O s a w φ) (hb : Below w.heap.size w w') : SimO S0 w0 n O s a w' φ where
  tsz := h.tsz
  dfr := h.dfr
  bel := h.bel.thenCall hb
  slots := fun i av hi => (h.slots i av hi).mono (fun _ _ h => h) (fun b hS => ⟨⟨Nat.lt_of_lt_of_le hS.1 hb.size, hS.2⟩, hb.block b hS.1⟩) (fun id e m g hi => by
    have hg : φ id = some g := by
      unfold infoOf at hi
      cases hl : look s.H id with
      | none => rw [hl] at hi; cases hi
      | some r => rw [hl] at hi; simp at hi; exact hi.2.2
    unfold cellsLen; rw [hb.block g (h.rng id g hg).2])
  rows := fun id r hr => by
    have hrow := h.rows id r hr
    unfold RowDen at hrow ⊢
    cases hφ : φ id with
    | none => rw [hφ] at hrow; exact hrow
    | some g =>
      rw [hφ] at hrow
      obtain ⟨cur, te, fr, hg, hf, hl, hfu, hc⟩ := hrow
      refine ⟨cur, te, fr, (hb.block g (h.rng id g hφ).2).trans hg, hf, hl, hfu, fun j u x hu hx => ?_⟩
      have hcell := hc j u x hu hx
      have hS : ∀ b, Free S0 w φ O b → Free S0 w' φ O b ∧ w'.heap[b]? = w.heap[b]? := fun b hS => ⟨⟨Nat.lt_of_lt_of_le hS.1 hb.size, hS.2⟩, hb.block b hS.1⟩
      unfold CellDen at hcell ⊢
      cases hp : r.pure with
      | true => rw [hp] at hcell; exact hcell.mono hS
      | false =>
        rw [hp] at hcell
        exact hcell.mono (fun _ _ h => h) hS (fun id e m g hi => by
          have hg : φ id = some g := by
            unfold infoOf at hi
            cases hl : look s.H id with
            | none => rw [hl] at hi; cases hi
            | some r => rw [hl] at hi; simp at hi; exact hi.2.2
          unfold cellsLen; rw [hb.block g (h.rng id g hg).2])
  only := h.only
  inj := h.inj
  rng := fun id g hg => ⟨(h.rng id g hg).1, Nat.lt_of_lt_of_le (h.rng id g hg).2 hb.size⟩
  apart := h.apart
  new := h.new
end
end Go.Proofs.Ytbehdllomepkdaa
