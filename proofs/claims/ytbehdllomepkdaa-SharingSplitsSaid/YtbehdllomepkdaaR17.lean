/-
  Regions in a row; what follows from a plain state; a function by its text. Over any program. No condition.
-/
import Derived.Test.YtbehdllomepkdaaR16
namespace Go.Proofs.Ytbehdllomepkdaa
open Go.RowKit

/-- What is said of a region: hints, and where its last operations begin if it draws its order. -/
structure Said where
  hs : List (Nat × Hint) := []
  T : Nat := 0
def evReg (P : Program) (n : Nat) (c : Code) (x : Said) (s : AS) : Option (AS × List Prop) :=
  match c with
  | .region _ ⟨l⟩ false => evOps P n l x.hs l 0 s
  | .region _ ⟨l⟩ true => evDraw P n x.T l x.hs s
  | _ => none
def evRegs (P : Program) (n : Nat) : List Said → Code → AS → Option (AS × List Prop)
  | [], _, s => some (s, [])
  | x :: l, c, s => match isSeq c with
    | true => (match evReg P n (fstC c) x s with
      | some (s1, C) => (match evRegs P n l (sndC c) s1 with | some (s2, D) => some (s2, C ++ D) | none => none)
      | none => none)
    | false => none
def dropC : Nat → Code → Code
  | 0, c => c
  | k + 1, c => dropC k (sndC c)
section
variable {P : Program} {n : Nat} {c : Code} {Q : Exit → AS → Prop} {s s' : AS} {C : List Prop}
theorem evReg_ok {x : Said} (he : evReg P n c x s = some (s', C)) (hC : AllP C) (h : Q .normal s') : AWP P n c Q s := by
  intro S0 w0 a w hs
  unfold evReg at he
  split at he
  · exact wp_region_lit (evOps_ok (S0 := S0) (w0 := w0) _ _ _ _ _ he hC a w hs fun a' w' hs' => ⟨s', h, hs'⟩)
  · exact evDraw_ok (S0 := S0) (w0 := w0) he hC hs fun a' w' hs' => ⟨s', h, hs'⟩
  · cases he
theorem AWP.reg (x : Said) (he : evReg P n c x s = some (s', C)) (hC : AllP C) (h : Q .normal s') : AWP P n c Q s := evReg_ok he hC h
theorem AWP.regs : ∀ (l : List Said) {c : Code} {s s' : AS} {C : List Prop}, evRegs P n l c s = some (s', C) → AllP C → AWP P n (dropC l.length c) Q s' → AWP P n c Q s
  | [], c, s, s', C, he, hC, h => by cases he; exact h
  | x :: l, c, s, s', C, he, hC, h => by
    simp only [evRegs] at he
    split at he
    · rename_i hseq
      split at he
      · rename_i s1 C1 h1
        split at he
        · rename_i s2 D h2
          cases he
          obtain ⟨hC1, hD⟩ := allP_app.1 hC
          exact AWP.seq hseq (evReg_ok h1 hC1 (AWP.regs l h2 hD h))
        · cases he
      · cases he
    · cases he
end

-- what follows from a plain state

def ren0 (a b : Nat) : AV → AV
  | .ref i => match Nat.beq i a with | true => .ref b | false => .ref i
  | .pre i n => match Nat.beq i a with | true => .pre b n | false => .pre i n
  | .win i o n => match Nat.beq i a with | true => .win b o n | false => .win i o n
  | .addr i o => match Nat.beq i a with | true => .addr b o | false => .addr i o
  | .agg _ => .dead
  | .tup _ => .dead
  | x => x
def ren1 (a b : Nat) : AV → AV
  | .agg cs => .agg (cs.map (ren0 a b))
  | x => ren0 a b x
def ren2 (a b : Nat) : AV → AV
  | .tup cs => .tup (cs.map (ren1 a b))
  | x => ren1 a b x
def renRow (a b : Nat) (r : Row) : Row := match r.pure with | true => r | false => ⟨r.e, false, r.full, r.cells.map (ren0 a b)⟩
def renKey {α : Type} (a b : Nat) : List (Nat × α) → List (Nat × α)
  | [] => []
  | (k, x) :: l => match Nat.beq k a with | true => (b, x) :: renKey a b l | false => (k, x) :: renKey a b l
def rename (a b : Nat) (s : AS) : AS := ⟨mapv (ren2 a b) s.F, mapv (renRow a b) (renKey a b s.H)⟩
theorem look_renKey {α : Type} (a b : Nat) : ∀ (l : List (Nat × α)), look l b = none → ∀ i, look (renKey a b l) i = if i = b then look l a else if i = a then none else look l i
  | [], _, i => by simp [renKey, look]
  | (k, x) :: l, hb, i => by
    rw [look_cons] at hb
    have hkb : k ≠ b := fun e => by rw [if_pos e] at hb; cases hb
    rw [if_neg hkb] at hb
    have ih := look_renKey a b l hb i
    rcases beq_cases k a with ⟨h, e⟩ | ⟨h, e⟩
    · simp only [renKey, h, look_cons, ih]
      by_cases hi : i = b
      · subst hi; simp [e]
      · by_cases hia : i = a
        · have hba : b ≠ a := fun e' => hi (by rw [e', hia])
          simp [hia, hba, Ne.symm hba]
        · have : k ≠ i := fun e' => hia (by rw [← e', e])
          simp [hi, hia, Ne.symm hi, this]
    · simp only [renKey, h, look_cons, ih]
      by_cases hi : i = b
      · subst hi; simp [hkb, e]
      · by_cases hia : i = a
        · subst hia; simp [hi, e]
        · simp [hi, hia]
section
variable {S0 : Nat → Prop} {w0 w : World} {n : Nat} {s : AS} {a : Act} {φ : Nat → Option Nat}
theorem renRow_len (x y : Nat) (r : Row) : (renRow x y r).e = r.e ∧ (renRow x y r).cells.length = r.cells.length ∧ (renRow x y r).pure = r.pure ∧ (renRow x y r).full = r.full := by
  unfold renRow
  cases h : r.pure <;> simp [h]
theorem SimO.rename_ (h : SimO S0 w0 n [] s a w φ) (x y : Nat) (hne : x ≠ y) (hy : look s.H y = none) : ∃ φ', SimO S0 w0 n [] (rename x y s) a w φ' := by
  let φ' : Nat → Option Nat := fun i => if i = y then φ x else if i = x then none else φ i
  have hφy : φ y = none := h.only y hy
  have hrange : ∀ i g, φ' i = some g → ∃ j, φ j = some g ∧ (i = y → j = x) ∧ (i ≠ y → j = i) := by
    intro i g hi
    by_cases e : i = y
    · have : φ x = some g := by simpa [φ', e] using hi
      exact ⟨x, this, fun _ => rfl, fun h => absurd e h⟩
    · by_cases e2 : i = x
      · simp [φ', e2, hne] at hi
      · have : φ i = some g := by simpa [φ', e, e2] using hi
        exact ⟨i, this, fun h => absurd h e, fun _ => rfl⟩
  have hFiff : ∀ b, Free S0 w φ [] b → Free S0 w φ' [] b := by
    intro b ⟨h1, h2, h3, h4⟩
    refine ⟨h1, h2, fun i hi => ?_, h4⟩
    obtain ⟨j, hj, -⟩ := hrange i b hi
    exact h3 j hj
  have hlook : ∀ i, look (rename x y s).H i = (if i = y then look s.H x else if i = x then none else look s.H i).map (renRow x y) := by
    intro i
    unfold rename
    rw [look_mapv, look_renKey x y _ hy]
  have hI : ∀ i z, infoOf s.H φ i = some z → infoOf (rename x y s).H φ' (if i = x then y else i) = some z := by
    intro i z hi
    obtain ⟨e, m, b⟩ := z
    obtain ⟨r, hl, h1, h2, h3⟩ := info_some hi
    by_cases e1 : i = x
    · subst e1
      rw [if_pos rfl, info_of (r := renRow i y r) (by rw [hlook, if_pos rfl, hl]; rfl), (renRow_len i y r).1, (renRow_len i y r).2.1, h1, h2]
      simp [φ', h3]
    · have e2 : i ≠ y := fun e => by subst e; rw [hy] at hl; cases hl
      rw [if_neg e1, info_of (r := renRow x y r) (by rw [hlook, if_neg e2, if_neg e1, hl]; rfl), (renRow_len x y r).1, (renRow_len x y r).2.1, h1, h2]
      simp [φ', e1, e2, h3]
  have hS2 : ∀ b, Free S0 w φ [] b → Free S0 w φ' [] b ∧ w.heap[b]? = w.heap[b]? := fun b h => ⟨hFiff b h, rfl⟩
  have ok : LeafOK (infoOf s.H φ) (infoOf (rename x y s).H φ') (Free S0 w φ []) (Free S0 w φ' []) w (ren0 x y) := by
    refine ⟨fun v av hv h1 h2 => ?_, fun _ => rfl, fun _ => rfl⟩
    have pick : ∀ i z, infoOf s.H φ i = some z → (Nat.beq i x = true ∧ infoOf (rename x y s).H φ' y = some z) ∨ (Nat.beq i x = false ∧ infoOf (rename x y s).H φ' i = some z) := by
      intro i z hi
      have := hI i z hi
      rcases beq_cases i x with ⟨hb, e⟩ | ⟨hb, e⟩
      · rw [if_pos e] at this; exact .inl ⟨hb, this⟩
      · rw [if_neg e] at this; exact .inr ⟨hb, this⟩
    cases hv with
    | rep h => cases h with
      | val v => exact .rep (.val v)
      | nil => exact .rep .nil
      | agg vs cs _ _ => exact absurd rfl (h1 cs)
      | tup vs cs _ _ => exact absurd rfl (h2 cs)
      | arr vs cs hl h => exact .rep ((Rep.arr vs cs hl h).mono hS2)
      | sl A n c e us row hl hn hc hm ha h => exact .rep ((Rep.sl A n c e us row hl hn hc hm ha h).mono hS2)
      | ptr ad us row off hl hs ha h => exact .rep ((Rep.ptr ad us row off hl hs ha h).mono hS2)
    | agg vs cs _ _ => exact absurd rfl (h1 cs)
    | tup vs cs _ _ => exact absurd rfl (h2 cs)
    | ref i e m g l c hi hm hc hx hs => rcases pick i _ hi with ⟨hb, hi'⟩ | ⟨hb, hi'⟩ <;> simp only [ren0, hb] <;> exact .ref _ e m g l c hi' hm hc hx hs
    | refnil i e hi => rcases pick i _ hi with ⟨hb, hi'⟩ | ⟨hb, hi'⟩ <;> simp only [ren0, hb] <;> exact .refnil _ e hi'
    | pre i k e m g l c hi hn hm hc hx hs => rcases pick i _ hi with ⟨hb, hi'⟩ | ⟨hb, hi'⟩ <;> simp only [ren0, hb] <;> exact .pre _ k e m g l c hi' hn hm hc hx hs
    | prenil i e hi => rcases pick i _ hi with ⟨hb, hi'⟩ | ⟨hb, hi'⟩ <;> simp only [ren0, hb] <;> exact .prenil _ e hi'
    | win i off k e m l c g A hi hn hm hc hx ha => rcases pick i _ hi with ⟨hb, hi'⟩ | ⟨hb, hi'⟩ <;> simp only [ren0, hb] <;> exact .win _ off k e m l c g A hi' hn hm hc hx ha
    | addr i off e m g hi => rcases pick i _ hi with ⟨hb, hi'⟩ | ⟨hb, hi'⟩ <;> simp only [ren0, hb] <;> exact .addr _ off e m g hi'
    | dead v => exact .dead _
  have other1 : ∀ z : AV, (∀ cs, z ≠ .agg cs) → ren1 x y z = ren0 x y z := by
    intro z hz
    cases z with
    | agg cs => exact absurd rfl (hz cs)
    | _ => rfl
  have other2 : ∀ z : AV, (∀ cs, z ≠ .tup cs) → ren2 x y z = ren1 x y z := by
    intro z hz
    cases z with
    | tup cs => exact absurd rfl (hz cs)
    | _ => rfl
  refine ⟨φ', h.tsz, h.dfr, h.bel, fun i av hi => ?_, fun i r hr => ?_, fun i hi => ?_, fun i j g hi hj => ?_, fun i g hi => ?_, fun i g hi => by simp, h.new⟩
  · unfold rename at hi
    rw [look_mapv] at hi
    cases hl : look s.F i with
    | none => rw [hl] at hi; cases hi
    | some z =>
      rw [hl] at hi; injection hi with hi; subst hi
      exact ok.two (h.slots i z hl) (fun _ => rfl) other1 (fun _ => rfl) other2
  · rw [hlook] at hr
    have : ∃ j q, look s.H j = some q ∧ φ' i = φ j ∧ r = renRow x y q := by
      by_cases e : i = y
      · rw [if_pos e] at hr
        cases hl : look s.H x with
        | none => rw [hl] at hr; cases hr
        | some q => rw [hl] at hr; injection hr with hr; exact ⟨x, q, hl, by simp [φ', e], hr.symm⟩
      · rw [if_neg e] at hr
        by_cases e2 : i = x
        · rw [if_pos e2] at hr; cases hr
        · rw [if_neg e2] at hr
          cases hl : look s.H i with
          | none => rw [hl] at hr; cases hr
          | some q => rw [hl] at hr; injection hr with hr; exact ⟨i, q, hl, by simp [φ', e, e2], hr.symm⟩
    obtain ⟨j, q, hq, hφj, rfl⟩ := this
    have hrow := h.rows j q hq
    rw [hφj]
    unfold RowDen at hrow ⊢
    cases hb : φ j with
    | none =>
      rw [hb] at hrow
      have := (renRow_len x y q).2.1
      simp only at hrow ⊢
      rw [hrow] at this; exact List.length_eq_zero_iff.1 this
    | some g =>
      rw [hb] at hrow
      obtain ⟨cur, te, fr, hg, hf, hlen, hfu, hc⟩ := hrow
      refine ⟨cur, te, fr, hg, hf, by rw [(renRow_len x y q).2.1]; exact hlen, by rw [(renRow_len x y q).2.1, (renRow_len x y q).2.2.2]; exact hfu, fun j u z hu hz => ?_⟩
      rw [(renRow_len x y q).2.2.1]
      unfold CellDen
      cases hp : q.pure with
      | true =>
        have : renRow x y q = q := by unfold renRow; rw [hp]
        rw [this] at hz
        have := hc j u z hu hz
        unfold CellDen at this; rw [hp] at this
        exact this.mono hS2
      | false =>
        have : (renRow x y q).cells = q.cells.map (ren0 x y) := by unfold renRow; rw [hp]
        rw [this, List.getElem?_map] at hz
        cases hj : q.cells[j]? with
        | none => rw [hj] at hz; cases hz
        | some z' =>
          rw [hj] at hz; injection hz with hz; subst hz
          have := hc j u z' hu hj
          unfold CellDen at this; rw [hp] at this
          exact ok.all this
  · rw [hlook] at hi
    by_cases e : i = y
    · rw [if_pos e] at hi
      cases hl : look s.H x with
      | none => simp [φ', e, h.only x hl]
      | some q => rw [hl] at hi; cases hi
    · rw [if_neg e] at hi
      by_cases e2 : i = x
      · simp [φ', e2, hne]
      · rw [if_neg e2] at hi
        cases hl : look s.H i with
        | none => simp [φ', e, e2, h.only i hl]
        | some q => rw [hl] at hi; cases hi
  · obtain ⟨i', h1, h2, h3⟩ := hrange i g hi
    obtain ⟨j', h4, h5, h6⟩ := hrange j g hj
    have e := h.inj i' j' g h1 h4
    by_cases ei : i = y <;> by_cases ej : j = y
    · rw [ei, ej]
    · have := h2 ei; have := h6 ej
      have : j = x := by omega
      subst this
      simp [φ', hne] at hj
    · have := h3 ei; have := h5 ej
      have : i = x := by omega
      subst this
      simp [φ', hne] at hi
    · have := h3 ei; have := h6 ej; omega
  · obtain ⟨j, h1, -⟩ := hrange i g hi
    exact h.rng j g h1
end

/-- One step of forgetting: a row is read only from now on; has another name; a nil slice is a row of the call's own; what else is kept. -/
inductive Wk where
  | thaw (id : Nat)
  | ren (a b : Nat)
  | nil (slot id e : Nat)
  | keep (slots ids : List Nat)
  | loose (id : Nat)
def pickF (s : AS) : List Nat → List (Nat × AV)
  | [] => []
  | i :: l => (i, getF s i) :: pickF s l
def pickH (H : List (Nat × Row)) : List Nat → List (Nat × Row)
  | [] => []
  | i :: l => match look H i with | some r => (i, r) :: pickH H l | none => pickH H l
def restOf (ids : List Nat) : List (Nat × Row) → List Nat
  | [] => []
  | (k, _) :: l => match ids.any (Nat.beq k) with | true => restOf ids l | false => k :: restOf ids l
def wkLoose (s : AS) (id : Nat) : Option AS := match look s.H id with | some r => some ⟨s.F, (id, ⟨r.e, r.pure, false, r.cells⟩) :: drop_ s.H id⟩ | none => none
def wk1 (s : AS) : Wk → Option AS
  | .thaw id => (match look s.H id with | some r => (match r.pure with | true => some (thaw id r s) | false => none) | none => none)
  | .ren x y => (match Nat.beq x y with | true => none | false => some (rename x y (retire y s)))
  | .nil i id e => (match getF s i with | .nil => some (setF ⟨(retire id s).F, (id, ⟨e, true, false, []⟩) :: (retire id s).H⟩ i (.ref id)) | _ => none)
  | .keep is ids => some ⟨(retireAll ⟨pickF s is, s.H⟩ (restOf ids s.H)).F, pickH (retireAll ⟨pickF s is, s.H⟩ (restOf ids s.H)).H ids⟩
  | .loose id => wkLoose s id
def wk : List Wk → AS → Option AS
  | [], s => some s
  | x :: l, s => match wk1 s x with | some s1 => wk l s1 | none => none
theorem look_pickF (s : AS) : ∀ (l : List Nat) (i : Nat) (x : AV), look (pickF s l) i = some x → x = getF s i
  | [], i, x, h => by cases h
  | k :: l, i, x, h => by
    simp only [pickF, look_cons] at h
    by_cases e : k = i
    · rw [if_pos e] at h; injection h with h; rw [← h, e]
    · rw [if_neg e] at h; exact look_pickF s l i x h
theorem look_pickH (H : List (Nat × Row)) : ∀ (l : List Nat) (i : Nat), look (pickH H l) i = if i ∈ l then look H i else none
  | [], i => by simp [pickH, look]
  | k :: l, i => by
    simp only [pickH]
    have ih := look_pickH H l i
    cases hk : look H k with
    | none =>
      rw [ih]
      by_cases e : i = k
      · subst e; simp [hk]
      · simp [e]
    | some r =>
      simp only [look_cons, ih]
      by_cases e : k = i
      · subst e; simp [hk]
      · simp [e, Ne.symm e]
theorem look_restOf (ids : List Nat) : ∀ (H : List (Nat × Row)) (i : Nat), i ∉ ids → look H i = none ∨ i ∈ restOf ids H
  | [], i, _ => .inl rfl
  | (k, r) :: H, i, hi => by
    simp only [restOf, look_cons]
    by_cases e : k = i
    · subst e
      right
      have : ids.any (Nat.beq k) = false := by
        cases hb : ids.any (Nat.beq k) with
        | false => rfl
        | true =>
          obtain ⟨j, hj, hbj⟩ := List.any_eq_true.1 hb
          have := Nat.eq_of_beq_eq_true hbj
          subst this; exact absurd hj hi
      rw [this]; simp
    · rw [if_neg e]
      rcases look_restOf ids H i hi with h | h
      · exact .inl h
      · right
        split
        · exact h
        · simp [h]
theorem den_nil {I : Info} {S : Nat → Prop} {w : World} {v : Value} (h : Den I S w v .nil) : v = .slice none 0 0 := by
  cases h with | rep h => cases h; rfl
theorem wk1_ok {s s' : AS} {x : Wk} (he : wk1 s x = some s') : Weaks s s' := by
  intro S0 w0 n a w ⟨φ, hs⟩
  cases x with
  | thaw id =>
    simp only [wk1] at he
    split at he
    · rename_i r hr
      split at he
      · rename_i hp; cases he; exact ⟨_, hs.thaw_ hr hp⟩
      · cases he
    · cases he
  | ren x y =>
    simp only [wk1] at he
    split at he
    · cases he
    · rename_i hb
      cases he
      have hne : x ≠ y := Nat.ne_of_beq_eq_false hb
      obtain ⟨φ', h⟩ := (hs.retire0 y).rename_ x y hne (look_retire_none y)
      exact ⟨φ', h⟩
  | nil i id e =>
    simp only [wk1] at he
    split at he
    · rename_i hn
      cases he
      have hv := hs.get i
      rw [hn] at hv
      have hv' : a.tmps.getD i undef = .slice none 0 0 := den_nil hv
      have h1 := hs.retire0 id
      have h2 := h1.adopt_nil (id := id) (r := ⟨e, true, false, []⟩) (look_retire_none id) rfl
      refine ⟨erase φ id, h2.tsz, h2.dfr, h2.bel, fun j av hj => ?_, h2.rows, h2.only, h2.inj, h2.rng, h2.apart, h2.new⟩
      rw [look_setF] at hj
      by_cases e' : i = j
      · rw [if_pos e'] at hj; injection hj with hj; subst hj; subst e'
        rw [hv']
        exact .refnil id e (by
          show infoOf ((id, ⟨e, true, false, []⟩) :: (retire id s).H) _ id = _
          rw [info_of (r := ⟨e, true, false, []⟩) (by rw [look_cons, if_pos rfl]), h1.only id (look_retire_none id)]; rfl)
      · rw [if_neg e'] at hj; exact h2.slots j av hj
    · cases he
  | keep is ids =>
    simp only [wk1] at he
    cases he
    have h1 : SimO S0 w0 n [] ⟨pickF s is, s.H⟩ a w φ := by
      refine ⟨hs.tsz, hs.dfr, hs.bel, fun i av hi => ?_, hs.rows, hs.only, hs.inj, hs.rng, hs.apart, hs.new⟩
      rw [look_pickF s is i av hi]
      exact hs.get i
    obtain ⟨φ', h2, -, h3⟩ := retireAll_ok (restOf ids s.H) ⟨pickF s is, s.H⟩ φ [] h1
    have hno : ∀ i, i ∉ ids → look (retireAll ⟨pickF s is, s.H⟩ (restOf ids s.H)).H i = none := fun i hi => h3 i (look_restOf ids s.H i hi)
    have hlook : ∀ i, look (pickH (retireAll ⟨pickF s is, s.H⟩ (restOf ids s.H)).H ids) i = look (retireAll ⟨pickF s is, s.H⟩ (restOf ids s.H)).H i := by
      intro i
      rw [look_pickH]
      by_cases hi : i ∈ ids
      · rw [if_pos hi]
      · rw [if_neg hi, hno i hi]
    have hI : infoOf (pickH (retireAll ⟨pickF s is, s.H⟩ (restOf ids s.H)).H ids) φ' = infoOf (retireAll ⟨pickF s is, s.H⟩ (restOf ids s.H)).H φ' := by
      funext i; unfold infoOf; rw [hlook]
    refine ⟨φ', h2.tsz, h2.dfr, h2.bel, fun i av hi => ?_, fun i r hr => ?_, fun i hi => ?_, h2.inj, h2.rng, h2.apart, h2.new⟩
    · simp only [hI]; exact h2.slots i av hi
    · simp only [hI]; simp only [hlook] at hr; exact h2.rows i r hr
    · simp only [hlook] at hi; exact h2.only i hi
  | loose id =>
    simp only [wk1, wkLoose] at he
    split at he
    · rename_i r hr
      cases he
      have hlk : ∀ i, look ((id, (⟨r.e, r.pure, false, r.cells⟩ : Row)) :: drop_ s.H id) i = if id = i then some ⟨r.e, r.pure, false, r.cells⟩ else look s.H i := by
        intro i
        rw [look_cons, look_drop]
        by_cases e : id = i <;> simp [e]
      have hI : infoOf ((id, (⟨r.e, r.pure, false, r.cells⟩ : Row)) :: drop_ s.H id) φ = infoOf s.H φ := by
        funext i
        unfold infoOf
        rw [hlk]
        by_cases e : id = i
        · subst e; rw [if_pos rfl, hr]; rfl
        · rw [if_neg e]
      refine ⟨φ, hs.tsz, hs.dfr, hs.bel, fun i av hi => ?_, fun i q hq => ?_, fun i hi => ?_, hs.inj, hs.rng, hs.apart, hs.new⟩
      · simp only [hI]; exact hs.slots i av hi
      · simp only [hI]
        simp only [hlk] at hq
        by_cases e : id = i
        · subst e
          rw [if_pos rfl] at hq; injection hq with hq; subst hq
          have hrow := hs.rows id r hr
          unfold RowDen at hrow ⊢
          cases hφ : φ id with
          | none => rw [hφ] at hrow; exact hrow
          | some g =>
            rw [hφ] at hrow
            obtain ⟨cur, te, fr, hg, hf, hl, -, hc⟩ := hrow
            exact ⟨cur, te, fr, hg, hf, hl, fun h => (by cases h), hc⟩
        · rw [if_neg e] at hq; exact hs.rows i q hq
      · simp only [hlk] at hi
        by_cases e : id = i
        · rw [if_pos e] at hi; cases hi
        · rw [if_neg e] at hi; exact hs.only i hi
    · cases he
theorem wk_ok : ∀ (l : List Wk) {s s' : AS}, wk l s = some s' → Weaks s s'
  | [], s, s', he => by cases he; exact fun _ _ _ _ _ h => h
  | x :: l, s, s', he => by
    simp only [wk] at he
    split at he
    · rename_i s1 h1
      exact fun S0 w0 n a w h => wk_ok l he S0 w0 n a w (wk1_ok h1 S0 w0 n a w h)
    · cases he
theorem AWP.wk {P : Program} {n : Nat} {c : Code} {Q : Exit → AS → Prop} {s s' : AS} (l : List Wk) (he : wk l s = some s') (h : AWP P n c Q s') : AWP P n c Q s := AWP.weak (wk_ok l he) h
end Go.Proofs.Ytbehdllomepkdaa
