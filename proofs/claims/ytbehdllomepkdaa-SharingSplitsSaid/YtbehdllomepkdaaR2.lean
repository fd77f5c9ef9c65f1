/-
  What becomes of a plain state when a row is given up, taken over, or no longer written. Over any program. No condition.
-/
import Derived.Test.YtbehdllomepkdaaR1
namespace Go.Proofs.Ytbehdllomepkdaa
open Go.RowKit

def kill0 (id : Nat) : AV → AV
  | .ref i => match Nat.beq i id with | true => .dead | false => .ref i
  | .pre i n => match Nat.beq i id with | true => .dead | false => .pre i n
  | .win i o n => match Nat.beq i id with | true => .dead | false => .win i o n
  | .addr i o => match Nat.beq i id with | true => .dead | false => .addr i o
  | .agg _ => .dead
  | .tup _ => .dead
  | x => x
def kill1 (id : Nat) : AV → AV
  | .agg cs => .agg (cs.map (kill0 id))
  | x => kill0 id x
def kill2 (id : Nat) : AV → AV
  | .tup cs => .tup (cs.map (kill1 id))
  | x => kill1 id x
def killRow (id : Nat) (r : Row) : Row := match r.pure with | true => r | false => ⟨r.e, false, r.full, r.cells.map (kill0 id)⟩
/-- The row is given up: nothing names it any more. -/
def retire (id : Nat) (s : AS) : AS := ⟨mapv (kill2 id) s.F, mapv (killRow id) (drop_ s.H id)⟩

/-- The row is written no more: what named it now reads it. -/
def thaw0 (id : Nat) (r : Row) : AV → AV
  | .ref i => match Nat.beq i id with | true => .sl r.e r.cells | false => .ref i
  | .pre i n => match Nat.beq i id with | true => .sl r.e (r.cells.take n) | false => .pre i n
  | .win i o n => match Nat.beq i id with | true => .sl r.e ((r.cells.drop o).take n) | false => .win i o n
  | .addr i o => match Nat.beq i id with | true => .ptr r.cells o | false => .addr i o
  | .agg _ => .dead
  | .tup _ => .dead
  | x => x
def thaw1 (id : Nat) (r : Row) : AV → AV
  | .agg cs => .agg (cs.map (thaw0 id r))
  | x => thaw0 id r x
def thaw2 (id : Nat) (r : Row) : AV → AV
  | .tup cs => .tup (cs.map (thaw1 id r))
  | x => thaw1 id r x
def thawRow (id : Nat) (r : Row) (q : Row) : Row := match q.pure with | true => q | false => ⟨q.e, false, q.full, q.cells.map (thaw0 id r)⟩
def thaw (id : Nat) (r : Row) (s : AS) : AS := ⟨mapv (thaw2 id r) s.F, mapv (thawRow id r) (drop_ s.H id)⟩

section
variable {I I' : Info} {S S' : Nat → Prop} {w w' : World}
theorem Rep.den0 {v : Value} {x y : AV} (h : Rep S w v x) (f : AV → AV) (hf : f x = x ∨ f x = .dead) (e : f x = y) : Den I S w v y := by
  subst e
  rcases hf with h' | h'
  · rw [h']; exact .rep h
  · rw [h']; exact .dead _
/-- What a map over leaves does to what is read. -/
structure LeafOK (I I' : Info) (S S' : Nat → Prop) (w : World) (f : AV → AV) : Prop where
  leaf : ∀ v x, Den I S w v x → (∀ cs, x ≠ .agg cs) → (∀ cs, x ≠ .tup cs) → Den I' S' w v (f x)
  agg : ∀ cs, f (.agg cs) = .dead
  tup : ∀ cs, f (.tup cs) = .dead
theorem LeafOK.all {f : AV → AV} (h : LeafOK I I' S S' w f) {v : Value} {x : AV} (hx : Den I S w v x) : Den I' S' w v (f x) := by
  cases x with
  | agg cs => rw [h.agg]; exact .dead _
  | tup cs => rw [h.tup]; exact .dead _
  | _ => exact h.leaf v _ hx (by intro cs e; cases e) (by intro cs e; cases e)
theorem den_agg {v : Value} {cs : List AV} (h : Den I S w v (.agg cs)) : ∃ vs : List Value, v = .agg vs.toArray ∧ vs.length = cs.length ∧ ∀ (j : Nat) v c, vs[j]? = some v → cs[j]? = some c → Den I S w v c := by
  cases h with
  | rep h => cases h with | agg vs _ hl h => exact ⟨vs, rfl, hl, fun j v c hv hc => .rep (h j v c hv hc)⟩
  | agg vs _ hl h => exact ⟨vs, rfl, hl, h⟩
theorem den_tup {v : Value} {cs : List AV} (h : Den I S w v (.tup cs)) : ∃ vs : List Value, v = .tuple vs.toArray ∧ vs.length = cs.length ∧ ∀ (j : Nat) v c, vs[j]? = some v → cs[j]? = some c → Den I S w v c := by
  cases h with
  | rep h => cases h with | tup vs _ hl h => exact ⟨vs, rfl, hl, fun j v c hv hc => .rep (h j v c hv hc)⟩
  | tup vs _ hl h => exact ⟨vs, rfl, hl, h⟩
theorem LeafOK.one {f : AV → AV} (h : LeafOK I I' S S' w f) {v : Value} {x : AV} (hx : Den I S w v x) {g : AV → AV} (hg : ∀ cs, g (.agg cs) = .agg (cs.map f)) (hg' : ∀ y, (∀ cs, y ≠ .agg cs) → g y = f y) : Den I' S' w v (g x) := by
  by_cases hc : ∃ cs, x = .agg cs
  · obtain ⟨cs, rfl⟩ := hc
    obtain ⟨vs, rfl, hl, hd⟩ := den_agg hx
    rw [hg]
    refine .agg vs _ (by simpa using hl) fun j v c hv hc => ?_
    rw [List.getElem?_map] at hc
    cases hj : cs[j]? with
    | none => rw [hj] at hc; cases hc
    | some y => rw [hj] at hc; injection hc with hc; subst hc; exact h.all (hd j v y hv hj)
  · rw [hg' x fun cs e => hc ⟨cs, e⟩]
    exact h.all hx
theorem LeafOK.two {f : AV → AV} (h : LeafOK I I' S S' w f) {v : Value} {x : AV} (hx : Den I S w v x) {g k : AV → AV} (hg : ∀ cs, g (.agg cs) = .agg (cs.map f)) (hg' : ∀ y, (∀ cs, y ≠ .agg cs) → g y = f y)
    (hk : ∀ cs, k (.tup cs) = .tup (cs.map g)) (hk' : ∀ y, (∀ cs, y ≠ .tup cs) → k y = g y) : Den I' S' w v (k x) := by
  by_cases hc : ∃ cs, x = .tup cs
  · obtain ⟨cs, rfl⟩ := hc
    obtain ⟨vs, rfl, hl, hd⟩ := den_tup hx
    rw [hk]
    refine .tup vs _ (by simpa using hl) fun j v c hv hc => ?_
    rw [List.getElem?_map] at hc
    cases hj : cs[j]? with
    | none => rw [hj] at hc; cases hc
    | some y => rw [hj] at hc; injection hc with hc; subst hc; exact h.one (hd j v y hv hj) hg hg'
  · rw [hk' x fun cs e => hc ⟨cs, e⟩]
    exact h.one hx hg hg'
theorem kill1_other (id : Nat) (y : AV) (h : ∀ cs, y ≠ .agg cs) : kill1 id y = kill0 id y := by
  cases y with
  | agg cs => exact absurd rfl (h cs)
  | _ => rfl
theorem kill2_other (id : Nat) (y : AV) (h : ∀ cs, y ≠ .tup cs) : kill2 id y = kill1 id y := by
  cases y with
  | tup cs => exact absurd rfl (h cs)
  | _ => rfl
theorem thaw1_other (id : Nat) (r : Row) (y : AV) (h : ∀ cs, y ≠ .agg cs) : thaw1 id r y = thaw0 id r y := by
  cases y with
  | agg cs => exact absurd rfl (h cs)
  | _ => rfl
theorem thaw2_other (id : Nat) (r : Row) (y : AV) (h : ∀ cs, y ≠ .tup cs) : thaw2 id r y = thaw1 id r y := by
  cases y with
  | tup cs => exact absurd rfl (h cs)
  | _ => rfl
theorem kill0_ok (id : Nat) (hI : ∀ i x, i ≠ id → I i = some x → I' i = some x) (hS : ∀ b, S b → S' b) : LeafOK I I' S S' w (kill0 id) where
  agg := fun _ => rfl
  tup := fun _ => rfl
  leaf := fun v x hx h1 h2 => by
    have hS2 : ∀ b, S b → S' b ∧ w.heap[b]? = w.heap[b]? := fun b h => ⟨hS b h, rfl⟩
    cases hx with
    | rep h => cases h with
      | val v => exact .rep (.val v)
      | nil => exact .rep .nil
      | agg vs cs _ _ => exact absurd rfl (h1 cs)
      | tup vs cs _ _ => exact absurd rfl (h2 cs)
      | arr vs cs hl h => exact .rep ((Rep.arr vs cs hl h).mono hS2)
      | sl A n c e us row hl hn hc hm ha h => exact .rep ((Rep.sl A n c e us row hl hn hc hm ha h).mono hS2)
      | ptr ad us row off hl hs ha h => exact .rep ((Rep.ptr ad us row off hl hs ha h).mono hS2)
    | agg vs cs _ _ => exact absurd rfl (h1 cs)
    | tup vs cs _ _ => exact absurd rfl (h2 cs)
    | ref i e m g l c hi hm hc hx hs =>
      rcases beq_cases i id with ⟨h, e⟩ | ⟨h, e⟩ <;> simp only [kill0, h]
      · exact .dead _
      · exact .ref i _ m g l c (hI _ _ e hi) hm hc hx hs
    | refnil i e hi =>
      rcases beq_cases i id with ⟨h, e⟩ | ⟨h, e⟩ <;> simp only [kill0, h]
      · exact .dead _
      · exact .refnil i _ (hI _ _ e hi)
    | pre i n e m g l c hi hn hm hc hx hs =>
      rcases beq_cases i id with ⟨h, e⟩ | ⟨h, e⟩ <;> simp only [kill0, h]
      · exact .dead _
      · exact .pre i n _ m g l c (hI _ _ e hi) hn hm hc hx hs
    | prenil i e hi =>
      rcases beq_cases i id with ⟨h, e⟩ | ⟨h, e⟩ <;> simp only [kill0, h]
      · exact .dead _
      · exact .prenil i _ (hI _ _ e hi)
    | win i off n e m l c g A hi hn hm hc hx ha =>
      rcases beq_cases i id with ⟨h, e⟩ | ⟨h, e⟩ <;> simp only [kill0, h]
      · exact .dead _
      · exact .win i off n _ m l c g A (hI _ _ e hi) hn hm hc hx ha
    | addr i off e m g hi =>
      rcases beq_cases i id with ⟨h, e⟩ | ⟨h, e⟩ <;> simp only [kill0, h]
      · exact .dead _
      · exact .addr i off _ m g (hI _ _ e hi)
    | dead v => exact .dead _
theorem Den.kill (id : Nat) (hI : ∀ i x, i ≠ id → I i = some x → I' i = some x) (hS : ∀ b, S b → S' b) {v : Value} {x : AV} (h : Den I S w v x) : Den I' S' w v (kill2 id x) :=
  (kill0_ok id hI hS).two h (fun _ => rfl) (kill1_other id) (fun _ => rfl) (kill2_other id)

/-- The row r at block g, as it reads when nobody writes it. -/
theorem sl_of_row {r : Row} {g l c : Nat} {cur : Array Value} {te : TypeId} {fr : Nat × Nat} (hg : w.heap[g]? = some (.cells cur te fr)) (hS : S g) (cells : List AV) (off : Nat) (hl : off + cells.length ≤ cur.size)
    (hn : cells.length = r.e * l) (hc : l ≤ c) (hm : c ≤ maxLen) (A : Option Addr) (hA : 0 < cells.length → A = some ⟨g, off, none⟩) (h : ∀ (j : Nat) u x, cur[off + j]? = some u → cells[j]? = some x → Rep S w u x) : Rep S w (.slice A l c) (.sl r.e cells) := by
  refine .sl A l c r.e ((cur.toList.drop off).take cells.length) cells (by have : cur.toList.length = cur.size := rfl; rw [List.length_take, List.length_drop]; omega) hn hc hm (fun h0 => ⟨_, hA h0, hS, fun j u hu => ?_⟩) (fun j u x hu hx => ?_)
  · have e : (⟨g, off, none⟩ : Addr).add j = ⟨g, off + j, none⟩ := by unfold Addr.add; split <;> simp_all
    rw [e, cell_of_row w g _ cur te fr hg]
    rw [List.getElem?_take] at hu
    split at hu
    · rw [List.getElem?_drop] at hu; simpa using hu
    · cases hu
  · refine h j u x ?_ hx
    rw [List.getElem?_take] at hu
    split at hu
    · rw [List.getElem?_drop] at hu; simpa using hu
    · cases hu
theorem ptr_of_row {g off : Nat} {cur : Array Value} {te : TypeId} {fr : Nat × Nat} (hg : w.heap[g]? = some (.cells cur te fr)) (hS : S g) (cells : List AV) (hl : cells.length ≤ cur.size)
    (h : ∀ (j : Nat) u x, cur[j]? = some u → cells[j]? = some x → Rep S w u x) : Rep S w (.pointer (some ⟨g, off, none⟩)) (.ptr cells off) := by
  have e : ∀ j, (⟨g, 0, none⟩ : Addr).add j = ⟨g, j, none⟩ := addr0_add g
  have := Rep.ptr (S := S) (w := w) ⟨g, 0, none⟩ (cur.toList.take cells.length) cells off (by have : cur.toList.length = cur.size := rfl; rw [List.length_take]; omega) hS (fun j u hu => ?_) (fun j u x hu hx => ?_)
  · rw [e] at this; exact this
  · rw [e, cell_of_row w g _ cur te fr hg]
    rw [List.getElem?_take] at hu
    split at hu
    · simpa using hu
    · cases hu
  · refine h j u x ?_ hx
    rw [List.getElem?_take] at hu
    split at hu
    · simpa using hu
    · cases hu
end

def erase (φ : Nat → Option Nat) (id : Nat) : Nat → Option Nat := fun i => if i = id then none else φ i
def bind_ (φ : Nat → Option Nat) (id g : Nat) : Nat → Option Nat := fun i => if i = id then some g else φ i

section
variable {S0 : Nat → Prop} {w0 w w' : World} {n : Nat} {O : List Nat} {s : AS} {a : Act} {φ : Nat → Option Nat}
theorem info_some {H : List (Nat × Row)} {id e m : Nat} {b : Option Nat} (h : infoOf H φ id = some (e, m, b)) : ∃ r, look H id = some r ∧ r.e = e ∧ r.cells.length = m ∧ φ id = b := by
  unfold infoOf at h
  cases hl : look H id with
  | none => rw [hl] at h; cases h
  | some r => rw [hl] at h; simp at h; exact ⟨r, rfl, h⟩
theorem info_of {H : List (Nat × Row)} {id : Nat} {r : Row} (h : look H id = some r) : infoOf H φ id = some (r.e, r.cells.length, φ id) := by
  unfold infoOf; rw [h]; rfl
theorem killRow_len (id : Nat) (r : Row) : (killRow id r).e = r.e ∧ (killRow id r).cells.length = r.cells.length ∧ (killRow id r).pure = r.pure ∧ (killRow id r).full = r.full := by
  unfold killRow
  cases h : r.pure <;> simp [h]
theorem thawRow_len (id : Nat) (r q : Row) : (thawRow id r q).e = q.e ∧ (thawRow id r q).cells.length = q.cells.length ∧ (thawRow id r q).pure = q.pure ∧ (thawRow id r q).full = q.full := by
  unfold thawRow
  cases h : q.pure <;> simp [h]
theorem info_retire (id i : Nat) (x : Nat × Nat × Option Nat) (hne : i ≠ id) (h : infoOf s.H φ i = some x) : infoOf (retire id s).H (erase φ id) i = some x := by
  obtain ⟨e, m, b⟩ := x
  obtain ⟨r, hl, he, hm, hb⟩ := info_some h
  have : look (retire id s).H i = some (killRow id r) := by
    unfold retire; rw [look_mapv, look_drop, if_neg (Ne.symm hne), hl]; rfl
  rw [info_of this, (killRow_len id r).1, (killRow_len id r).2.1, he, hm]
  unfold erase; rw [if_neg hne, hb]
theorem info_thaw (id i : Nat) (q : Row) (x : Nat × Nat × Option Nat) (hne : i ≠ id) (h : infoOf s.H φ i = some x) : infoOf (thaw id q s).H (erase φ id) i = some x := by
  obtain ⟨e, m, b⟩ := x
  obtain ⟨r, hl, he, hm, hb⟩ := info_some h
  have : look (thaw id q s).H i = some (thawRow id q r) := by
    unfold thaw; rw [look_mapv, look_drop, if_neg (Ne.symm hne), hl]; rfl
  rw [info_of this, (thawRow_len id q r).1, (thawRow_len id q r).2.1, he, hm]
  unfold erase; rw [if_neg hne, hb]

/-- A row is given up; its block (if it has one) is to be taken over. -/
theorem SimO.retire_ (h : SimO S0 w0 n O s a w φ) (id : Nat) (O' : List Nat) (hO : O' = match φ id with | some g => g :: O | none => O) : SimO S0 w0 n O' (retire id s) a w (erase φ id) := by
  have hF : ∀ b, Free S0 w φ O b → Free S0 w (erase φ id) O' b := by
    intro b ⟨h1, h2, h3, h4⟩
    refine ⟨h1, ?_, fun i hi => ?_, h4⟩
    · rw [hO]
      cases hφ : φ id with
      | none => exact h2
      | some g =>
        simp only [List.mem_cons, not_or]
        exact ⟨fun e => h3 id (by rw [hφ, e]), h2⟩
    · unfold erase at hi
      split at hi
      · cases hi
      · exact h3 i hi
  refine ⟨h.tsz, h.dfr, h.bel, fun i av hi => ?_, fun i r hr => ?_, fun i hi => ?_, fun i j g hi hj => ?_, fun i g hi => ?_, fun i g hi => ?_, h.new⟩
  · unfold retire at hi
    rw [look_mapv] at hi
    cases hl : look s.F i with
    | none => rw [hl] at hi; cases hi
    | some x =>
      rw [hl] at hi; injection hi with hi; subst hi
      exact (h.slots i x hl).kill id (info_retire id) hF
  · have hr' := hr
    unfold retire at hr'
    rw [look_mapv, look_drop] at hr'
    by_cases hne : id = i
    · rw [if_pos hne] at hr'; cases hr'
    · rw [if_neg hne] at hr'
      cases hl : look s.H i with
      | none => rw [hl] at hr'; cases hr'
      | some q =>
        rw [hl] at hr'; injection hr' with hr'; subst hr'
        have hq := h.rows i q hl
        have hφi : erase φ id i = φ i := by unfold erase; rw [if_neg (Ne.symm hne)]
        rw [hφi]
        unfold RowDen at hq ⊢
        cases hb : φ i with
        | none =>
          rw [hb] at hq
          have := (killRow_len id q).2.1
          simp only at hq ⊢
          rw [hq] at this; exact List.length_eq_zero_iff.1 this
        | some g =>
          rw [hb] at hq
          obtain ⟨cur, te, fr, hg, hf, hlen, hfu, hc⟩ := hq
          refine ⟨cur, te, fr, hg, hf, by rw [(killRow_len id q).2.1]; exact hlen, by rw [(killRow_len id q).2.1, (killRow_len id q).2.2.2]; exact hfu, fun j u x hu hx => ?_⟩
          rw [(killRow_len id q).2.2.1]
          unfold CellDen
          cases hp : q.pure with
          | true =>
            have : killRow id q = q := by unfold killRow; rw [hp]
            rw [this] at hx
            have := hc j u x hu hx
            unfold CellDen at this; rw [hp] at this
            exact this.mono fun b hb => ⟨hF b hb, rfl⟩
          | false =>
            have : (killRow id q).cells = q.cells.map (kill0 id) := by unfold killRow; rw [hp]
            rw [this, List.getElem?_map] at hx
            cases hj : q.cells[j]? with
            | none => rw [hj] at hx; cases hx
            | some y =>
              rw [hj] at hx; injection hx with hx; subst hx
              have := hc j u y hu hj
              unfold CellDen at this; rw [hp] at this
              exact (kill0_ok id (info_retire id) hF).all this
  · unfold retire at hi
    rw [look_mapv, look_drop] at hi
    unfold erase
    by_cases hne : id = i
    · rw [if_pos hne.symm]
    · rw [if_neg hne] at hi
      rw [if_neg (Ne.symm hne)]
      refine h.only i ?_
      cases hl : look s.H i with
      | none => rfl
      | some r => rw [hl] at hi; cases hi
  · unfold erase at hi hj
    split at hi
    · cases hi
    · split at hj
      · cases hj
      · exact h.inj i j g hi hj
  · unfold erase at hi
    split at hi
    · cases hi
    · exact h.rng i g hi
  · unfold erase at hi
    split at hi
    · cases hi
    · rename_i hne
      rw [hO]
      cases hφ : φ id with
      | none => exact h.apart i g hi
      | some g' =>
        simp only [List.mem_cons, not_or]
        exact ⟨fun e => hne (h.inj i id g hi (by rw [hφ, e])), h.apart i g hi⟩

/-- Only blocks that are to be taken over, and new ones, have turned. -/
theorem SimO.touch (h : SimO S0 w0 n O s a w φ) (hO : ∀ g ∈ O, w0.heap.size ≤ g) (hos : w'.os = w.os) (htape : w'.tape = w.tape) (hout : w'.output = w.output) (hsz : w.heap.size ≤ w'.heap.size) (hb : ∀ b, b < w.heap.size → b ∉ O → w'.heap[b]? = w.heap[b]?) : SimO S0 w0 n O s a w' φ := by
  have hF : ∀ b, Free S0 w φ O b → Free S0 w' φ O b ∧ w'.heap[b]? = w.heap[b]? := fun b h => ⟨⟨by have := h.1; omega, h.2⟩, hb b h.1 h.2.1⟩
  have hL : ∀ id e m g, infoOf s.H φ id = some (e, m, some g) → cellsLen w' g = cellsLen w g := by
    intro id e m g hi
    obtain ⟨r, -, -, -, hφ⟩ := info_some hi
    unfold cellsLen; rw [hb g (h.rng id g hφ).2 (h.apart id g hφ)]
  refine ⟨h.tsz, h.dfr, ⟨hos.trans h.bel.os, htape.trans h.bel.tape, hout.trans h.bel.output, Nat.le_trans h.bel.size hsz, fun k hk => ?_⟩, fun i av hi => (h.slots i av hi).mono (fun _ _ h => h) hF hL, fun id r hr => ?_, h.only, h.inj, fun id g hg => ⟨(h.rng id g hg).1, Nat.lt_of_lt_of_le (h.rng id g hg).2 hsz⟩, h.apart, h.new⟩
  · rw [hb k (by have := h.bel.size; omega) (fun hm => by have := hO k hm; omega)]
    exact h.bel.block k hk
  · have hrow := h.rows id r hr
    unfold RowDen at hrow ⊢
    cases hφ : φ id with
    | none => rw [hφ] at hrow; exact hrow
    | some g =>
      rw [hφ] at hrow
      obtain ⟨cur, te, fr, hg, hf, hl, hfu, hc⟩ := hrow
      refine ⟨cur, te, fr, (hb g (h.rng id g hφ).2 (h.apart id g hφ)).trans hg, hf, hl, hfu, fun j u x hu hx => ?_⟩
      have hcell := hc j u x hu hx
      unfold CellDen at hcell ⊢
      cases hp : r.pure with
      | true => rw [hp] at hcell; exact hcell.mono hF
      | false => rw [hp] at hcell; exact hcell.mono (fun _ _ h => h) hF hL

/-- A block that is not there yet is set apart. -/
theorem SimO.await (h : SimO S0 w0 n O s a w φ) (g : Nat) (hg : w.heap.size ≤ g) : SimO S0 w0 n (g :: O) s a w φ := by
  have hF : ∀ b, Free S0 w φ O b → Free S0 w φ (g :: O) b ∧ w.heap[b]? = w.heap[b]? := fun b h => ⟨⟨h.1, by simp only [List.mem_cons, not_or]; exact ⟨by have := h.1; omega, h.2.1⟩, h.2.2⟩, rfl⟩
  have hL : ∀ id e m g, infoOf s.H φ id = some (e, m, some g) → cellsLen w g = cellsLen w g := fun _ _ _ _ _ => rfl
  refine ⟨h.tsz, h.dfr, h.bel, fun i av hi => (h.slots i av hi).mono (fun _ _ h => h) hF hL, fun id r hr => ?_, h.only, h.inj, h.rng, fun id g' hg' => ?_, h.new⟩
  · have hrow := h.rows id r hr
    unfold RowDen at hrow ⊢
    cases hφ : φ id with
    | none => rw [hφ] at hrow; exact hrow
    | some g =>
      rw [hφ] at hrow
      obtain ⟨cur, te, fr, hg, hf, hl, hfu, hc⟩ := hrow
      refine ⟨cur, te, fr, hg, hf, hl, hfu, fun j u x hu hx => ?_⟩
      have hcell := hc j u x hu hx
      unfold CellDen at hcell ⊢
      cases hp : r.pure with
      | true => rw [hp] at hcell; exact hcell.mono hF
      | false => rw [hp] at hcell; exact hcell.mono (fun _ _ h => h) hF hL
  · simp only [List.mem_cons, not_or]
    exact ⟨by have := (h.rng id g' hg').2; omega, h.apart id g' hg'⟩

theorem free_bind {id g : Nat} (hid : φ id = none) (b : Nat) : Free S0 w φ (g :: O) b ↔ Free S0 w (bind_ φ id g) O b := by
  unfold Free bind_
  constructor
  · rintro ⟨h1, h2, h3, h4⟩
    simp only [List.mem_cons, not_or] at h2
    refine ⟨h1, h2.2, fun i hi => ?_, h4⟩
    split at hi
    · injection hi with hi; exact h2.1 hi.symm
    · exact h3 i hi
  · rintro ⟨h1, h2, h3, h4⟩
    refine ⟨h1, ?_, fun i hi => ?_, h4⟩
    · simp only [List.mem_cons, not_or]
      exact ⟨fun e => h3 id (by rw [if_pos rfl, e]), h2⟩
    · by_cases e : i = id
      · subst e; rw [hid] at hi; cases hi
      · exact h3 i (by rw [if_neg e]; exact hi)

/-- A block that was set apart becomes a row of the call's own, under a new name. -/
theorem SimO.adopt {g id : Nat} {r : Row} (h : SimO S0 w0 n (g :: O) s a w φ) (hg0 : w0.heap.size ≤ g) (hg1 : g < w.heap.size) (hgO : g ∉ O) (hid : look s.H id = none)
    (hr : RowDen (infoOf s.H φ) (Free S0 w φ (g :: O)) w (some g) r) : SimO S0 w0 n O ⟨s.F, (id, r) :: s.H⟩ a w (bind_ φ id g) := by
  have hφ := h.only id hid
  have hF : ∀ b, Free S0 w φ (g :: O) b → Free S0 w (bind_ φ id g) O b ∧ w.heap[b]? = w.heap[b]? := fun b hb => ⟨(free_bind hφ b).1 hb, rfl⟩
  have hI : ∀ i x, infoOf s.H φ i = some x → infoOf ((id, r) :: s.H) (bind_ φ id g) i = some x := by
    intro i x hi
    obtain ⟨e, m, b⟩ := x
    obtain ⟨q, hl, he, hm, hb⟩ := info_some hi
    have hne : id ≠ i := fun e => by subst e; rw [hid] at hl; cases hl
    rw [info_of (r := q) (by rw [look_cons, if_neg hne, hl])]
    unfold bind_; rw [if_neg (Ne.symm hne), he, hm, hb]
  have hL : ∀ id e m g, infoOf s.H φ id = some (e, m, some g) → cellsLen w g = cellsLen w g := fun _ _ _ _ _ => rfl
  have hrow : ∀ b q, RowDen (infoOf s.H φ) (Free S0 w φ (g :: O)) w b q → RowDen (infoOf ((id, r) :: s.H) (bind_ φ id g)) (Free S0 w (bind_ φ id g) O) w b q := by
    intro b q hq
    unfold RowDen at hq ⊢
    cases b with
    | none => exact hq
    | some g' =>
      obtain ⟨cur, te, fr, hg, hf, hl, hfu, hc⟩ := hq
      refine ⟨cur, te, fr, hg, hf, hl, hfu, fun j u x hu hx => ?_⟩
      have hcell := hc j u x hu hx
      unfold CellDen at hcell ⊢
      cases hp : q.pure with
      | true => rw [hp] at hcell; exact hcell.mono hF
      | false => rw [hp] at hcell; exact hcell.mono hI hF hL
  refine ⟨h.tsz, h.dfr, h.bel, fun i av hi => (h.slots i av hi).mono hI hF hL, fun i q hq => ?_, fun i hi => ?_, fun i j g' hi hj => ?_, fun i g' hi => ?_, fun i g' hi => ?_, h.new⟩
  · rw [look_cons] at hq
    by_cases e : id = i
    · rw [if_pos e] at hq; injection hq with hq; subst hq; subst e
      have : bind_ φ id g id = some g := by unfold bind_; rw [if_pos rfl]
      rw [this]; exact hrow _ _ hr
    · rw [if_neg e] at hq
      have : bind_ φ id g i = φ i := by unfold bind_; rw [if_neg (Ne.symm e)]
      rw [this]; exact hrow _ _ (h.rows i q hq)
  · rw [look_cons] at hi
    by_cases e : id = i
    · rw [if_pos e] at hi; cases hi
    · rw [if_neg e] at hi
      unfold bind_; rw [if_neg (Ne.symm e)]; exact h.only i hi
  · have hne : ∀ i, φ i = some g' → g' ≠ g := fun i hi e => h.apart i g' hi (by rw [e]; simp)
    unfold bind_ at hi hj
    split at hi <;> split at hj
    · omega
    · injection hi with hi; exact absurd hi.symm (hne j hj)
    · injection hj with hj; exact absurd hj.symm (hne i hi)
    · exact h.inj i j g' hi hj
  · unfold bind_ at hi
    split at hi
    · injection hi with hi; subst hi; exact ⟨hg0, hg1⟩
    · exact h.rng i g' hi
  · unfold bind_ at hi
    split at hi
    · injection hi with hi; subst hi; exact hgO
    · exact fun hm => h.apart i g' hi (by simp [hm])
/-- A nil slice is a row of the call's own without cells. -/
theorem SimO.adopt_nil (h : SimO S0 w0 n O s a w φ) {id : Nat} {r : Row} (hid : look s.H id = none) (hr : r.cells = []) : SimO S0 w0 n O ⟨s.F, (id, r) :: s.H⟩ a w φ := by
  have hφ := h.only id hid
  have hI : ∀ i x, infoOf s.H φ i = some x → infoOf ((id, r) :: s.H) φ i = some x := by
    intro i x hi
    obtain ⟨e, m, b⟩ := x
    obtain ⟨q, hl, he, hm, hb⟩ := info_some hi
    have hne : id ≠ i := fun e => by subst e; rw [hid] at hl; cases hl
    rw [info_of (r := q) (by rw [look_cons, if_neg hne, hl]), he, hm, hb]
  have hF : ∀ b, Free S0 w φ O b → Free S0 w φ O b ∧ w.heap[b]? = w.heap[b]? := fun b hb => ⟨hb, rfl⟩
  have hL : ∀ id e m g, infoOf s.H φ id = some (e, m, some g) → cellsLen w g = cellsLen w g := fun _ _ _ _ _ => rfl
  refine ⟨h.tsz, h.dfr, h.bel, fun i av hi => (h.slots i av hi).mono hI hF hL, fun i q hq => ?_, fun i hi => ?_, h.inj, h.rng, h.apart, h.new⟩
  · rw [look_cons] at hq
    by_cases e : id = i
    · rw [if_pos e] at hq; injection hq with hq; subst hq; subst e
      rw [hφ]; exact hr
    · rw [if_neg e] at hq
      have hq' := h.rows i q hq
      unfold RowDen at hq' ⊢
      cases hb : φ i with
      | none => rw [hb] at hq'; exact hq'
      | some g' =>
        rw [hb] at hq'
        obtain ⟨cur, te, fr, hg, hf, hl, hfu, hc⟩ := hq'
        refine ⟨cur, te, fr, hg, hf, hl, hfu, fun j u x hu hx => ?_⟩
        have hcell := hc j u x hu hx
        unfold CellDen at hcell ⊢
        cases hp : q.pure with
        | true => rw [hp] at hcell; exact hcell
        | false => rw [hp] at hcell; exact hcell.mono hI hF hL
  · rw [look_cons] at hi
    by_cases e : id = i
    · rw [if_pos e] at hi; cases hi
    · rw [if_neg e] at hi; exact h.only i hi
/-- What was set apart is let go. -/
theorem SimO.free_ {g : Nat} (h : SimO S0 w0 n (g :: O) s a w φ) : SimO S0 w0 n O s a w φ := by
  have hF : ∀ b, Free S0 w φ (g :: O) b → Free S0 w φ O b ∧ w.heap[b]? = w.heap[b]? := fun b h => ⟨⟨h.1, fun hm => h.2.1 (by simp [hm]), h.2.2⟩, rfl⟩
  have hL : ∀ id e m g, infoOf s.H φ id = some (e, m, some g) → cellsLen w g = cellsLen w g := fun _ _ _ _ _ => rfl
  refine ⟨h.tsz, h.dfr, h.bel, fun i av hi => (h.slots i av hi).mono (fun _ _ h => h) hF hL, fun id r hr => ?_, h.only, h.inj, h.rng, fun id g' hg' hm => h.apart id g' hg' (by simp [hm]), h.new⟩
  have hrow := h.rows id r hr
  unfold RowDen at hrow ⊢
  cases hφ : φ id with
  | none => rw [hφ] at hrow; exact hrow
  | some g =>
    rw [hφ] at hrow
    obtain ⟨cur, te, fr, hg, hf, hl, hfu, hc⟩ := hrow
    refine ⟨cur, te, fr, hg, hf, hl, hfu, fun j u x hu hx => ?_⟩
    have hcell := hc j u x hu hx
    unfold CellDen at hcell ⊢
    cases hp : r.pure with
    | true => rw [hp] at hcell; exact hcell.mono hF
    | false => rw [hp] at hcell; exact hcell.mono (fun _ _ h => h) hF hL

/-- A row is written no more. -/
theorem SimO.thaw_ (h : SimO S0 w0 n O s a w φ) {id : Nat} {r : Row} (hr : look s.H id = some r) (hp : r.pure = true) : SimO S0 w0 n O (thaw id r s) a w (erase φ id) := by
  have hF : ∀ b, Free S0 w φ O b → Free S0 w (erase φ id) O b := by
    intro b ⟨h1, h2, h3, h4⟩
    refine ⟨h1, h2, fun i hi => ?_, h4⟩
    unfold erase at hi
    split at hi
    · cases hi
    · exact h3 i hi
  have hF2 : ∀ b, Free S0 w φ O b → Free S0 w (erase φ id) O b ∧ w.heap[b]? = w.heap[b]? := fun b hb => ⟨hF b hb, rfl⟩
  have hrow := h.rows id r hr
  have hI := info_of (φ := φ) hr
  have ok : LeafOK (infoOf s.H φ) (infoOf (thaw id r s).H (erase φ id)) (Free S0 w φ O) (Free S0 w (erase φ id) O) w (thaw0 id r) := by
    refine ⟨fun v x hx h1 h2 => ?_, fun _ => rfl, fun _ => rfl⟩
    have hgF : ∀ g, φ id = some g → Free S0 w (erase φ id) O g := fun g hg => ⟨(h.rng id g hg).2, h.apart id g hg, fun i hi => by
      unfold erase at hi
      split at hi
      · cases hi
      · rename_i hne; exact hne (h.inj i id g hi hg), h.new g (h.rng id g hg).1⟩
    have hblk : ∀ g, φ id = some g → ∃ cur te fr, w.heap[g]? = some (.cells cur te fr) ∧ r.cells.length ≤ cur.size ∧ ∀ (j : Nat) u x, cur[j]? = some u → r.cells[j]? = some x → Rep (Free S0 w (erase φ id) O) w u x := by
      intro g hg
      have hrow' := hrow
      unfold RowDen at hrow'
      rw [hg] at hrow'
      obtain ⟨cur, te, fr, hg', hf, hl, -, hc⟩ := hrow'
      refine ⟨cur, te, fr, hg', hl, fun j u x hu hx => ?_⟩
      have := hc j u x hu hx
      unfold CellDen at this; rw [hp] at this
      exact this.mono hF2
    have take_at : ∀ (l : List AV) (k j : Nat) (x : AV), (l.take k)[j]? = some x → l[j]? = some x := by
      intro l k j x hx
      rw [List.getElem?_take] at hx
      split at hx
      · exact hx
      · cases hx
    cases hx with
    | rep h => cases h with
      | val v => exact .rep (.val v)
      | nil => exact .rep .nil
      | agg vs cs _ _ => exact absurd rfl (h1 cs)
      | tup vs cs _ _ => exact absurd rfl (h2 cs)
      | arr vs cs hl h => exact .rep ((Rep.arr vs cs hl h).mono hF2)
      | sl A n c e us row hl hn hc hm ha h => exact .rep ((Rep.sl A n c e us row hl hn hc hm ha h).mono hF2)
      | ptr ad us row off hl hs ha h => exact .rep ((Rep.ptr ad us row off hl hs ha h).mono hF2)
    | agg vs cs _ _ => exact absurd rfl (h1 cs)
    | tup vs cs _ _ => exact absurd rfl (h2 cs)
    | ref i e m g l c hi hm hc hx hs =>
      rcases beq_cases i id with ⟨hb, e'⟩ | ⟨hb, e'⟩ <;> simp only [thaw0, hb]
      · subst e'
        rw [hI] at hi; injection hi with hi; injection hi with he hi; injection hi with hm' hg
        obtain ⟨cur, te, fr, hg', hl, hc'⟩ := hblk g hg
        exact .rep (sl_of_row (r := r) hg' (hgF g hg) r.cells 0 (by omega) (by rw [hm', he]; exact hm) hc hx _ (fun _ => rfl) (fun j u x hu hx => hc' j u x (by simpa using hu) hx))
      · exact .ref i _ m g l c (info_thaw id i r _ e' hi) hm hc hx hs
    | refnil i e hi =>
      rcases beq_cases i id with ⟨hb, e'⟩ | ⟨hb, e'⟩ <;> simp only [thaw0, hb]
      · subst e'
        rw [hI] at hi; injection hi with hi; injection hi with he hi; injection hi with hm' hg
        have h0 : r.cells = [] := List.length_eq_zero_iff.1 hm'
        rw [h0]
        exact .rep (.sl none 0 0 _ [] [] rfl (by simp) (by simp) (by simp) (fun h => by simp at h) (fun j u x hu => by simp at hu))
      · exact .refnil i _ (info_thaw id i r _ e' hi)
    | pre i k e m g l c hi hn hm hc hx hs =>
      rcases beq_cases i id with ⟨hb, e'⟩ | ⟨hb, e'⟩ <;> simp only [thaw0, hb]
      · subst e'
        rw [hI] at hi; injection hi with hi; injection hi with he hi; injection hi with hm' hg
        obtain ⟨cur, te, fr, hg', hl, hc'⟩ := hblk g hg
        exact .rep (sl_of_row (r := r) hg' (hgF g hg) (r.cells.take k) 0 (by rw [List.length_take]; omega) (by rw [List.length_take, he, ← hn]; omega) hc hx _ (fun _ => rfl) (fun j u x hu hx => hc' j u x (by simpa using hu) (take_at _ _ _ _ hx)))
      · exact .pre i k _ m g l c (info_thaw id i r _ e' hi) hn hm hc hx hs
    | prenil i e hi =>
      rcases beq_cases i id with ⟨hb, e'⟩ | ⟨hb, e'⟩ <;> simp only [thaw0, hb]
      · simp only [List.take_zero]
        exact .rep (.sl none 0 0 _ [] [] rfl (by simp) (by simp) (by simp) (fun h => by simp at h) (fun j u x hu => by simp at hu))
      · exact .prenil i _ (info_thaw id i r _ e' hi)
    | win i off k e m l c g A hi hn hm hc hx ha =>
      rcases beq_cases i id with ⟨hb, e'⟩ | ⟨hb, e'⟩ <;> simp only [thaw0, hb]
      · subst e'
        rw [hI] at hi; injection hi with hi; injection hi with he hi; injection hi with hm' hg
        have hlen : ((r.cells.drop off).take k).length = k := by rw [List.length_take, List.length_drop]; omega
        by_cases hk : 0 < k
        · obtain ⟨b, hb', hA⟩ := ha hk
          rw [hb'] at hg
          obtain ⟨cur, te, fr, hg', hl, hc'⟩ := hblk b hg
          exact .rep (sl_of_row (r := r) hg' (hgF b hg) ((r.cells.drop off).take k) off (by rw [hlen]; omega) (by rw [hlen, he, ← hn]) hc hx _ (fun _ => hA) (fun j u x hu hx => hc' (off + j) u x hu (by have := take_at _ _ _ _ hx; rw [List.getElem?_drop] at this; exact this)))
        · have h0 : (r.cells.drop off).take k = [] := List.length_eq_zero_iff.1 (by omega)
          rw [h0]
          exact .rep (.sl A l c r.e [] [] rfl (by rw [he]; simp; omega) hc hx (fun h => by simp at h) (fun j u x hu => by simp at hu))
      · exact .win i off k _ m l c g A (info_thaw id i r _ e' hi) hn hm hc hx ha
    | addr i off e m g hi =>
      rcases beq_cases i id with ⟨hb, e'⟩ | ⟨hb, e'⟩ <;> simp only [thaw0, hb]
      · subst e'
        rw [hI] at hi; injection hi with hi; injection hi with he hi; injection hi with hm' hg
        obtain ⟨cur, te, fr, hg', hl, hc'⟩ := hblk g hg
        exact .rep (ptr_of_row hg' (hgF g hg) r.cells hl hc')
      · exact .addr i off _ m g (info_thaw id i r _ e' hi)
    | dead v => exact .dead _
  refine ⟨h.tsz, h.dfr, h.bel, fun i av hi => ?_, fun i q hq => ?_, fun i hi => ?_, fun i j g hi hj => ?_, fun i g hi => ?_, fun i g hi => ?_, h.new⟩
  · unfold thaw at hi
    rw [look_mapv] at hi
    cases hl : look s.F i with
    | none => rw [hl] at hi; cases hi
    | some x =>
      rw [hl] at hi; injection hi with hi; subst hi
      exact ok.two (h.slots i x hl) (fun _ => rfl) (thaw1_other id r) (fun _ => rfl) (thaw2_other id r)
  · have hr' := hq
    unfold thaw at hr'
    rw [look_mapv, look_drop] at hr'
    by_cases hne : id = i
    · rw [if_pos hne] at hr'; cases hr'
    · rw [if_neg hne] at hr'
      cases hl : look s.H i with
      | none => rw [hl] at hr'; cases hr'
      | some p =>
        rw [hl] at hr'; injection hr' with hr'; subst hr'
        have hq' := h.rows i p hl
        have hφi : erase φ id i = φ i := by unfold erase; rw [if_neg (Ne.symm hne)]
        rw [hφi]
        unfold RowDen at hq' ⊢
        cases hb : φ i with
        | none =>
          rw [hb] at hq'
          have := (thawRow_len id r p).2.1
          simp only at hq' ⊢
          rw [hq'] at this; exact List.length_eq_zero_iff.1 this
        | some g =>
          rw [hb] at hq'
          obtain ⟨cur, te, fr, hg, hf, hlen, hfu, hc⟩ := hq'
          refine ⟨cur, te, fr, hg, hf, by rw [(thawRow_len id r p).2.1]; exact hlen, by rw [(thawRow_len id r p).2.1, (thawRow_len id r p).2.2.2]; exact hfu, fun j u x hu hx => ?_⟩
          rw [(thawRow_len id r p).2.2.1]
          unfold CellDen
          cases hp' : p.pure with
          | true =>
            have : thawRow id r p = p := by unfold thawRow; rw [hp']
            rw [this] at hx
            have := hc j u x hu hx
            unfold CellDen at this; rw [hp'] at this
            exact this.mono hF2
          | false =>
            have : (thawRow id r p).cells = p.cells.map (thaw0 id r) := by unfold thawRow; rw [hp']
            rw [this, List.getElem?_map] at hx
            cases hj : p.cells[j]? with
            | none => rw [hj] at hx; cases hx
            | some y =>
              rw [hj] at hx; injection hx with hx; subst hx
              have := hc j u y hu hj
              unfold CellDen at this; rw [hp'] at this
              exact ok.all this
  · unfold thaw at hi
    rw [look_mapv, look_drop] at hi
    unfold erase
    by_cases hne : id = i
    · rw [if_pos hne.symm]
    · rw [if_neg hne] at hi
      rw [if_neg (Ne.symm hne)]
      refine h.only i ?_
      cases hl : look s.H i with
      | none => rfl
      | some r => rw [hl] at hi; cases hi
  · unfold erase at hi hj
    split at hi
    · cases hi
    · split at hj
      · cases hj
      · exact h.inj i j g hi hj
  · unfold erase at hi
    split at hi
    · cases hi
    · exact h.rng i g hi
  · unfold erase at hi
    split at hi
    · cases hi
    · exact h.apart i g hi
end
end Go.Proofs.Ytbehdllomepkdaa
