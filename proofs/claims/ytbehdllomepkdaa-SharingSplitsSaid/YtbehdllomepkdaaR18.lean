/-
  A function's contract by its text. Over any program. No condition.
-/
import Derived.Test.YtbehdllomepkdaaR17
namespace Go.Proofs.Ytbehdllomepkdaa
open Go.RowKit

-- what is handed out at the end

/-- The plain value x is handed out as r: the rows that go with it, and what must hold. -/
def give0 (s : AS) : AV → AV → Option (List Nat × List Prop)
  | .val u, .val v => some ([], [u = v])
  | .nil, .nil => some ([], [])
  | .nil, .own _ row => some ([], [row = []])
  | .nil, .sl _ row => some ([], [row = []])
  | .sl e row, .sl e' row' => (match Nat.beq e e' with | true => some ([], [row = row']) | false => none)
  | .arr cs, .arr cs' => some ([], [cs = cs'])
  | .ptr row off, .ptr row' off' => some ([], [row = row', off = off'])
  | .ref id, .own e row => (match look s.H id with | some ⟨e', true, _, cells⟩ => (match Nat.beq e e' with | true => some ([id], [cells = row]) | false => none) | _ => none)
  | .pre id k, .own e row => (match look s.H id with | some ⟨e', true, _, cells⟩ => (match Nat.beq e e' with | true => some ([id], [cells.take k = row]) | false => none) | _ => none)
  | _, _ => none
def giveL (f : AV → AV → Option (List Nat × List Prop)) : List AV → List AV → Option (List Nat × List Prop)
  | [], [] => some ([], [])
  | x :: xs, r :: rs => match f x r, giveL f xs rs with | some (a, C), some (b, D) => some (a ++ b, C ++ D) | _, _ => none
  | _, _ => none
def give1 (s : AS) : AV → AV → Option (List Nat × List Prop)
  | .agg xs, .agg rs => giveL (give0 s) xs rs
  | x, r => give0 s x r
def giveT (s : AS) : AV → AV → Option (List Nat × List Prop)
  | .tup xs, .tup rs => giveL (give1 s) xs rs
  | x, r => give1 s x r

section
variable {S0 : Nat → Prop} {w0 w : World} {n : Nat} {s : AS} {a : Act} {φ : Nat → Option Nat}
/-- The blocks of rows. -/
def blocks (φ : Nat → Option Nat) : List Nat → List Nat
  | [] => []
  | i :: l => match φ i with | some g => g :: blocks φ l | none => blocks φ l
theorem blocks_app (φ : Nat → Option Nat) (l m : List Nat) : blocks φ (l ++ m) = blocks φ l ++ blocks φ m := by
  induction l with
  | nil => rfl
  | cons i l ih =>
    simp only [List.cons_append, blocks]
    cases φ i <;> simp [ih]
theorem mem_blocks {φ : Nat → Option Nat} {g : Nat} : ∀ {l : List Nat}, g ∈ blocks φ l → ∃ i ∈ l, φ i = some g
  | [], h => by cases h
  | i :: l, h => by
    simp only [blocks] at h
    split at h
    · rename_i g' hg'
      rcases List.mem_cons.1 h with rfl | h
      · exact ⟨i, by simp, hg'⟩
      · obtain ⟨j, h1, h2⟩ := mem_blocks h
        exact ⟨j, by simp [h1], h2⟩
    · obtain ⟨j, h1, h2⟩ := mem_blocks h
      exact ⟨j, by simp [h1], h2⟩
theorem nodup_blocks (hs : SimO S0 w0 n [] s a w φ) : ∀ {l : List Nat}, l.Nodup → (blocks φ l).Nodup
  | [], _ => List.nodup_nil
  | i :: l, h => by
    rw [List.nodup_cons] at h
    simp only [blocks]
    split
    · rename_i g hg
      rw [List.nodup_cons]
      refine ⟨fun hm => ?_, nodup_blocks hs h.2⟩
      obtain ⟨j, h1, h2⟩ := mem_blocks hm
      have := hs.inj i j g hg h2
      subst this; exact h.1 h1
    · exact nodup_blocks hs h.2
theorem give0_ok (hs : SimO S0 w0 n [] s a w φ) {v : Value} {x r : AV} {ids : List Nat} {C : List Prop} (hx : Den (infoOf s.H φ) (Free S0 w φ []) w v x) (hg : give0 s x r = some (ids, C)) (hC : AllP C) : Giv0 (Free S0 w φ []) w v r (blocks φ ids) := by
  have own : ∀ (id e l c g : Nat) (fu : Bool) (cells row : List AV), look s.H id = some ⟨e, true, fu, cells⟩ → φ id = some g → row.length = e * l → l ≤ c → c ≤ maxLen → cellsLen w g = e * c → (∀ (j : Nat) x, row[j]? = some x → cells[j]? = some x) → Giv0 (Free S0 w φ []) w (.slice (some ⟨g, 0, none⟩) l c) (.own e row) (blocks φ [id]) := by
    intro id e l c g fu cells row hr hφ hl hc hm hcl hsub
    obtain ⟨cur, te, fr, hg, hf, hle, hcell⟩ := row_pure hs hr rfl hφ
    have : blocks φ [id] = [g] := by simp [blocks, hφ]
    rw [this]
    exact .own g l c e row cur te fr hg hf hl hc hm (by unfold cellsLen at hcl; rw [hg] at hcl; exact hcl) fun j u x hu hx => hcell j u x hu (hsub j x hx)
  have nilown : ∀ (id e : Nat), φ id = none → Giv0 (Free S0 w φ []) w (.slice none 0 0) (.own e []) (blocks φ [id]) := by
    intro id e hφ
    have : blocks φ [id] = [] := by simp [blocks, hφ]
    rw [this]; exact .nil e
  unfold give0 at hg
  split at hg
  · cases hg; have := hC.1; subst this; exact .rep (by cases hx with | rep h => exact h)
  · cases hg; exact .rep (by cases hx with | rep h => exact h)
  · cases hg; have := hC.1; subst this; rw [den_nil hx]; exact .nil _
  · cases hg; have := hC.1; subst this; rw [den_nil hx]; exact .rep (sl_empty none 0 0 _ (by simp) (by simp) (by simp))
  · split at hg
    · rename_i hb
      cases hg
      have := hC.1
      subst this
      rw [← Nat.eq_of_beq_eq_true hb]
      exact .rep (den_sl hx)
    · cases hg
  · cases hg; have := hC.1; subst this; exact .rep (by cases hx with | rep h => exact h)
  · cases hg
    obtain ⟨h1, h2, -⟩ := hC
    subst h1; subst h2
    exact .rep (by cases hx with | rep h => exact h)
  · rename_i id e row
    split at hg
    · rename_i e' fu cells hr
      split at hg
      · rename_i hb
        have hb := Nat.eq_of_beq_eq_true hb
        cases hg
        have := hC.1
        subst this
        subst hb
        cases hx with
        | rep h => cases h
        | ref _ e2 m g l c hi hm hc hx hs' =>
          obtain ⟨r', hr', h1, h2, hφ⟩ := info_some hi
          rw [hr] at hr'; injection hr' with hr'; subst hr'
          simp only at h1 h2
          exact own id e l c g fu cells cells hr hφ (by rw [h2, hm, h1]) hc hx (by rw [h1]; exact hs') (fun _ _ h => h)
        | refnil _ e2 hi =>
          obtain ⟨r', hr', h1, h2, hφ⟩ := info_some hi
          rw [hr] at hr'; injection hr' with hr'; subst hr'
          simp only at h2
          have : cells = [] := List.length_eq_zero_iff.1 h2
          subst this
          exact nilown id e hφ
      · cases hg
    · cases hg
  · rename_i id k e row
    split at hg
    · rename_i e' fu cells hr
      split at hg
      · rename_i hb
        have hb := Nat.eq_of_beq_eq_true hb
        cases hg
        have := hC.1
        subst this
        subst hb
        cases hx with
        | rep h => cases h
        | pre _ _ e2 m g l c hi hn hm hc hx hs' =>
          obtain ⟨r', hr', h1, h2, hφ⟩ := info_some hi
          rw [hr] at hr'; injection hr' with hr'; subst hr'
          simp only at h1 h2
          exact own id e l c g fu cells (cells.take k) hr hφ (by rw [List.length_take, h2, h1, ← hn]; omega) hc hx (by rw [h1]; exact hs') (fun j x h => take_get _ _ _ _ h)
        | prenil _ e2 hi =>
          obtain ⟨r', hr', h1, h2, hφ⟩ := info_some hi
          simp only [List.take_zero]
          exact nilown id e hφ
      · cases hg
    · cases hg
  · cases hg
theorem giveL_ok {f : AV → AV → Option (List Nat × List Prop)} {R : Value → AV → List Nat → Prop} (hf : ∀ v x r ids C, Den (infoOf s.H φ) (Free S0 w φ []) w v x → f x r = some (ids, C) → AllP C → R v r (blocks φ ids)) : ∀ (vs : List Value) (xs rs : List AV) (ids : List Nat) (C : List Prop), vs.length = xs.length → (∀ (j : Nat) v c, vs[j]? = some v → xs[j]? = some c → Den (infoOf s.H φ) (Free S0 w φ []) w v c) → giveL f xs rs = some (ids, C) → AllP C → GivL R vs rs (blocks φ ids)
  | vs, [], rs, ids, C, hl, hd, hg, hC => by
    cases vs with
    | cons => simp at hl
    | nil =>
      cases rs with
      | nil => cases hg; exact .nil
      | cons => cases hg
  | vs, x :: xs, [], ids, C, hl, hd, hg, hC => by cases hg
  | [], x :: xs, r :: rs, ids, C, hl, hd, hg, hC => by simp at hl
  | v :: vs, x :: xs, r :: rs, ids, C, hl, hd, hg, hC => by
    simp only [giveL] at hg
    split at hg
    · rename_i a C1 b D h1 h2
      cases hg
      obtain ⟨hC1, hD⟩ := allP_app.1 hC
      rw [blocks_app]
      exact .cons (hf v x r a C1 (hd 0 v x rfl rfl) h1 hC1) (giveL_ok hf vs xs rs b D (by simpa using hl) (fun j v c hv hc => hd (j + 1) v c (by simpa using hv) (by simpa using hc)) h2 hD)
    · cases hg
theorem give1_ok (hs : SimO S0 w0 n [] s a w φ) {v : Value} {x r : AV} {ids : List Nat} {C : List Prop} (hx : Den (infoOf s.H φ) (Free S0 w φ []) w v x) (hg : give1 s x r = some (ids, C)) (hC : AllP C) : Giv1 (Free S0 w φ []) w v r (blocks φ ids) := by
  unfold give1 at hg
  split at hg
  · obtain ⟨vs, rfl, hl, hd⟩ := den_agg hx
    exact .inr ⟨vs, _, rfl, rfl, giveL_ok (f := give0 s) (R := Giv0 (Free S0 w φ []) w) (fun v x r ids C h1 h2 h3 => give0_ok hs h1 h2 h3) vs _ _ ids C hl hd hg hC⟩
  · exact .inl (give0_ok hs hx hg hC)
theorem giveT_ok (hs : SimO S0 w0 n [] s a w φ) {v : Value} {x r : AV} {ids : List Nat} {C : List Prop} (hx : Den (infoOf s.H φ) (Free S0 w φ []) w v x) (hg : giveT s x r = some (ids, C)) (hC : AllP C) : Giv (Free S0 w φ []) w v r (blocks φ ids) := by
  unfold giveT at hg
  split at hg
  · obtain ⟨vs, rfl, hl, hd⟩ := den_tup hx
    exact .inr ⟨vs, _, rfl, rfl, giveL_ok (f := give1 s) (R := Giv1 (Free S0 w φ []) w) (fun v x r ids C h1 h2 h3 => give1_ok hs h1 h2 h3) vs _ _ ids C hl hd hg hC⟩
  · exact .inl (give1_ok hs hx hg hC)
end

-- the results of a function

def resAV (P : Program) (s : AS) : ResultVar → Option (AV × List Prop)
  | .tmp t => some (getF s t, [])
  | .cell x t => (match getF s x with
    | .addr id off => (match look s.H id with
      | some r => (match isArrT P t, r.pure, off with
        | true, true, 0 => (match sizeT P t with | some z => some (.arr r.cells, [r.cells.length = z]) | none => none)
        | _, _, _ => evRead P t r.pure r.cells off {})
      | none => none)
    | _ => none)
def resL (P : Program) (s : AS) : List ResultVar → Option (List AV × List Prop)
  | [] => some ([], [])
  | x :: l => match resAV P s x, resL P s l with | some (y, C), some (m, D) => some (y :: m, C ++ D) | _, _ => none
/-- The results, read in the last state, are handed out as r. -/
def evRes (P : Program) (s : AS) (rs : List ResultVar) (r : AV) : Option (List Prop) :=
  match resL P s rs with
  | some (xs, C) => (match (match xs with | [x] => giveT s x r | xs => giveT s (.tup xs) r) with
    | some (ids, D) => (match nodupB ids with | true => some (C ++ D) | false => none)
    | none => none)
  | none => none
section
variable {P : Program} {S0 : Nat → Prop} {w0 w : World} {n : Nat} {s : AS} {a : Act} {φ : Nat → Option Nat}
def resRun (a : Act) : ResultVar → Sem Value
  | .tmp t => pure (a.tmps.getD t undef)
  | .cell b t => do loadVar t (← asAddr (a.tmps.getD b undef))
theorem resAV_ok (hs : SimO S0 w0 n [] s a w φ) {x : ResultVar} {y : AV} {C : List Prop} (he : resAV P s x = some (y, C)) (hC : AllP C) :
    ∃ v, (resRun a x).run P w = .ok v w ∧ Den (infoOf s.H φ) (Free S0 w φ []) w v y := by
  cases x with
  | tmp t => cases he; exact ⟨_, rfl, hs.get t⟩
  | cell b t =>
    simp only [resAV] at he
    split at he
    · rename_i id off hb
      split at he
      · rename_i r hr
        have hx := hs.get b
        rw [hb] at hx
        obtain ⟨e, m, g, hi, hv⟩ := den_addr hx
        obtain ⟨r', hr', -, -, hφ⟩ := info_some hi
        obtain ⟨cur, te, fr, hg, hf, hle, hc⟩ := row_at hs hr hφ
        have rd : ∀ (z : AV × List Prop) (h : Hint), evRead P t r.pure r.cells off h = some z → AllP z.2 → ∃ v, (resRun a (.cell b t)).run P w = .ok v w ∧ Den (infoOf s.H φ) (Free S0 w φ []) w v z.1 := by
          intro z h hz hCz
          obtain ⟨v, h1, h2⟩ := evRead_ok (I := infoOf s.H φ) (S := Free S0 w φ []) hz hCz ⟨g, off, none⟩ cur.toList hle (fun j u hu => by rw [addr_add, cell_of_row w g _ cur te fr hg]; simpa using hu) (fun j u x hu hx => hc j u x (by simpa using hu) hx)
          exact ⟨v, by simp only [resRun]; rw [hv]; simp [asAddr, h1], h2⟩
        split at he
        · rename_i harr hp
          split at he
          · rename_i z hz
            cases he
            have hlen := hC.1
            unfold isArrT at harr
            split at harr
            · rename_i k el hu
              refine rd (.arr r.cells, [(r.cells.drop 0).take z = r.cells, r.cells.length = z]) { av := some (.arr r.cells) } ?_ ⟨by rw [List.drop_zero, List.take_of_length_le (by omega)], hlen, trivial⟩
              unfold evRead
              rw [hz, hu, hp]
            · cases harr
          · cases he
        · exact rd _ _ he hC
      · cases he
    · cases he
theorem resL_ok (hs : SimO S0 w0 n [] s a w φ) : ∀ (l : List ResultVar) (ys : List AV) (C : List Prop), resL P s l = some (ys, C) → AllP C →
    ∃ vs : List Value, (l.mapM (resRun a)).run P w = .ok vs w ∧ vs.length = ys.length ∧ ∀ (j : Nat) v c, vs[j]? = some v → ys[j]? = some c → Den (infoOf s.H φ) (Free S0 w φ []) w v c
  | [], ys, C, he, hC => by cases he; exact ⟨[], rfl, rfl, fun j v c hv => by simp at hv⟩
  | x :: l, ys, C, he, hC => by
    simp only [resL] at he
    split at he
    · rename_i y C1 m D h1 h2
      cases he
      obtain ⟨hC1, hD⟩ := allP_app.1 hC
      obtain ⟨v, hv1, hv2⟩ := resAV_ok hs h1 hC1
      obtain ⟨vs, h3, h4, h5⟩ := resL_ok hs l m D h2 hD
      refine ⟨v :: vs, ?_, by simp [h4], fun j u c hu hc => ?_⟩
      · rw [List.mapM_cons, Sem.run_bind, hv1]
        simp only [Result.andThen_ok]
        rw [Sem.run_bind, h3]
        rfl
      · cases j with
        | zero => simp at hu hc; subst hu; subst hc; exact hv2
        | succ j => exact h5 j u c (by simpa using hu) (by simpa using hc)
    · cases he
theorem evRes_ok (hs : SimO S0 w0 n [] s a w φ) {fn : Func} {r : AV} {C : List Prop} (he : evRes P s fn.results.toList r = some C) (hC : AllP C) :
    ∃ v O, (results fn a.tmps).run P w = .ok v w ∧ O.Nodup ∧ (∀ g ∈ O, ∃ i, φ i = some g) ∧ Giv (Free S0 w φ []) w v r O := by
  unfold evRes at he
  split at he
  · rename_i xs C1 hr
    split at he
    · rename_i ids D hg
      split at he
      · rename_i hn
        cases he
        obtain ⟨hC1, hD⟩ := allP_app.1 hC
        obtain ⟨vs, hrun, hl, hd⟩ := resL_ok hs _ _ _ hr hC1
        have hm : (fn.results.mapM (resRun a)).run P w = .ok vs.toArray w := by
          rw [Array.mapM_eq_mapM_toList, Sem.run_map, hrun]; rfl
        have hres : (results fn a.tmps).run P w = .ok (if h : vs.toArray.size = 1 then vs.toArray[0] else .tuple vs.toArray) w := by
          have he : results fn a.tmps = (do let vs ← fn.results.mapM (resRun a); pure (if h : vs.size = 1 then vs[0] else .tuple vs) : Sem Value) := by
            unfold results
            congr 1
          rw [he, Sem.run_bind, hm]
          rfl
        refine ⟨_, blocks φ ids, hres, nodup_blocks hs (nodupB_ok hn), fun g hg => (mem_blocks hg).imp fun i h => h.2, ?_⟩
        split at hg
        · rename_i x
          cases vs with
          | nil => simp at hl
          | cons v vs =>
            have : vs = [] := by simpa using hl
            subst this
            exact giveT_ok hs (hd 0 v x rfl rfl) hg hD
        · rename_i hne
          have hsz : ¬ vs.toArray.size = 1 := by
            intro h1
            have h2 : xs.length = 1 := by rw [← hl]; simpa using h1
            obtain ⟨x, rfl⟩ := List.length_eq_one_iff.1 h2
            exact hne x rfl
          rw [dif_neg hsz]
          exact giveT_ok hs (.tup vs xs hl hd) hg hD
      · cases he
    · cases he
  · cases he
end

/-- The plain state at the start: the arguments. -/
def argsF : Nat → List AV → List (Nat × AV)
  | _, [] => []
  | i, x :: l => (i, x) :: argsF (i + 1) l
theorem look_argsF : ∀ (l : List AV) (i j : Nat) (x : AV), look (argsF i l) j = some x → ∃ k, j = i + k ∧ l[k]? = some x
  | [], i, j, x, h => by cases h
  | y :: l, i, j, x, h => by
    simp only [argsF, look_cons] at h
    by_cases e : i = j
    · rw [if_pos e] at h; exact ⟨0, by omega, by simpa using h⟩
    · rw [if_neg e] at h
      obtain ⟨k, h1, h2⟩ := look_argsF l (i + 1) j x h
      exact ⟨k + 1, by omega, by simpa using h2⟩
/-- The end of a function: the results are handed out as r. -/
def Done (P : Program) (rs : List ResultVar) (r : AV) : Exit → AS → Prop
  | .normal, s => ∃ C, evRes P s rs r = some C ∧ AllP C
  | .ret, s => ∃ C, evRes P s rs r = some C ∧ AllP C
  | _, _ => False
theorem Ret.of_body {P : Program} {f : FuncId} {fn : Func} {c : Code} {args : List AV} {r : AV} (hf : P.funcs[f]? = some fn) (hb : fn.body = some c) (n : Nat) (hn : fn.ntmps = n) (hargs : args.length ≤ n) (h : AWP P n c (Done P fn.results.toList r) ⟨argsF 0 args, []⟩) : Ret P f args r := by
  intro w S vs hS hl hrep
  refine calls_of_wp hf hb ?_
  have hS0 : SimO (fun b => S b ∨ w.heap.size ≤ b) w n [] ⟨argsF 0 args, []⟩ { tmps := vs.toArray ++ Array.replicate (fn.ntmps - vs.toArray.size) undef, defers := [] } w (fun _ => none) := by
    refine ⟨by simp; omega, rfl, Below.refl _ _, fun i av hi => ?_, fun id r hr => (by cases hr), fun _ _ => rfl, fun _ _ _ h => (by cases h), fun _ _ h => (by cases h), fun _ _ h => (by cases h), fun b hb => Or.inr hb⟩
    obtain ⟨k, rfl, hk⟩ := look_argsF args 0 i av hi
    have hkl : k < vs.length := by have := (List.getElem?_eq_some_iff.1 hk).1; omega
    have hv : vs[k]? = some vs[k] := List.getElem?_eq_getElem hkl
    have e : (vs.toArray ++ Array.replicate (fn.ntmps - vs.toArray.size) undef).getD (0 + k) undef = vs[k] := by
      rw [Nat.zero_add, Array.getD_eq_getD_getElem?, Array.getElem?_append_left (by simpa using hkl)]
      simp [hkl]
    simp only [e]
    exact .rep ((hrep k vs[k] av hv hk).mono fun b hb => ⟨⟨hS b hb, by simp, fun _ h => (by cases h), Or.inl hb⟩, rfl⟩)
  refine wp_mono (h _ w _ w ⟨_, hS0⟩) fun e a' w' ⟨s', hq, φ, hs'⟩ => ?_
  have fin : (∃ C, evRes P s' fn.results.toList r = some C ∧ AllP C) → a'.defers = [] ∧ ∃ v, (results fn a'.tmps).run P w' = .ok v w' ∧ ∃ v' O, Ending.returned v = .returned v' ∧ Below w.heap.size w w' ∧ O.Nodup ∧ (∀ g ∈ O, w.heap.size ≤ g ∧ g < w'.heap.size) ∧ Giv (fun b => S b ∨ (w.heap.size ≤ b ∧ b < w'.heap.size ∧ b ∉ O)) w' v' r O := by
    rintro ⟨C, he, hC⟩
    obtain ⟨v, O, hrun, hnd, hO, hg⟩ := evRes_ok hs' he hC
    refine ⟨hs'.dfr, v, hrun, v, O, rfl, hs'.bel, hnd, fun g hg => ?_, hg.mono fun b hb => ?_⟩
    · obtain ⟨i, hi⟩ := hO g hg
      exact hs'.rng i g hi
    · rcases hb.2.2.2 with h1 | h1
      · exact .inl h1
      · exact .inr ⟨h1, hb.1, fun hm => by obtain ⟨i, hi⟩ := hO b hm; exact hb.2.2.1 i hi⟩
  cases e with
  | normal => exact fin hq
  | ret => exact fin hq
  | _ => exact hq.elim
def bodyOf (fn : Func) : Code := match fn.body with | some c => c | none => .skip
theorem Ret.of_fn {P : Program} {f : FuncId} {fn : Func} {args : List AV} {r : AV} (hf : P.funcs[f]? = some fn) (hb : fn.body.isSome = true) (n : Nat) (hn : fn.ntmps = n) (hargs : Nat.ble args.length n = true) (h : AWP P n (bodyOf fn) (Done P fn.results.toList r) ⟨argsF 0 args, []⟩) : Ret P f args r := by
  cases hbody : fn.body with
  | none => rw [hbody] at hb; cases hb
  | some c =>
    have : bodyOf fn = c := by unfold bodyOf; rw [hbody]
    rw [this] at h
    exact Ret.of_body hf hbody n hn (Nat.le_of_ble_eq_true hargs) h
theorem AWP.regsK {P : Program} {n : Nat} {c : Code} {Q : Exit → AS → Prop} {s s' : AS} {C : List Prop} (k : Nat) (l : List Said) (hk : Nat.beq l.length k = true) (he : evRegs P n l c s = some (s', C)) (hC : AllP C) (h : AWP P n (dropC k c) Q s') : AWP P n c Q s := by
  rw [← Nat.eq_of_beq_eq_true hk] at h
  exact AWP.regs l he hC h
theorem AWP.retK {P : Program} {n : Nat} {c : Code} {rs : List ResultVar} {r : AV} {s : AS} {C : List Prop} (hc : isRet c = true) (he : evRes P s rs r = some C) (hC : AllP C) : AWP P n c (Done P rs r) s := AWP.ret hc ⟨C, he, hC⟩
theorem Done.ret_ {P : Program} {rs : List ResultVar} {r : AV} {s : AS} {C : List Prop} (he : evRes P s rs r = some C) (hC : AllP C) : Done P rs r .ret s := ⟨C, he, hC⟩
theorem Done.normal_ {P : Program} {rs : List ResultVar} {r : AV} {s : AS} {C : List Prop} (he : evRes P s rs r = some C) (hC : AllP C) : Done P rs r .normal s := ⟨C, he, hC⟩
section
variable {P : Program} {n : Nat} {c : Code} {Q : Exit → AS → Prop} {K : AS → Prop} {s s1 s2 : AS}
theorem AWP.condT {x : Operand} {b : Bool} (hc : condC c = some x) (hx : opd s x = .val (.bool b)) (hb : b = true) (h : AWP P n (thenC c) Q s) : AWP P n c Q s := AWP.cond hc hx (fun _ => h) (fun e => by rw [hb] at e; cases e)
theorem AWP.condF {x : Operand} {b : Bool} (hc : condC c = some x) (hx : opd s x = .val (.bool b)) (hb : b = false) (h : AWP P n (elseC c) Q s) : AWP P n c Q s := AWP.cond hc hx (fun e => by rw [hb] at e; cases e) (fun _ => h)
theorem AWP.condD {x : Operand} {p : Prop} [Decidable p] (hc : condC c = some x) (hx : opd s x = .val (.bool (decide p))) (ht : p → AWP P n (thenC c) Q s) (hf : ¬ p → AWP P n (elseC c) Q s) : AWP P n c Q s := AWP.cond hc hx (fun e => ht (of_decide_eq_true e)) (fun e => hf (of_decide_eq_false e))
theorem AWP.condE {α : Type} [BEq α] [LawfulBEq α] {x : Operand} {u v : α} (hc : condC c = some x) (hx : opd s x = .val (.bool (u == v))) (ht : u = v → AWP P n (thenC c) Q s) (hf : u ≠ v → AWP P n (elseC c) Q s) : AWP P n c Q s := AWP.cond hc hx (fun e => ht (eq_of_beq e)) (fun e => hf (by simpa using e))
theorem AWP.condN {α : Type} [BEq α] [LawfulBEq α] {x : Operand} {u v : α} (hc : condC c = some x) (hx : opd s x = .val (.bool (u != v))) (ht : u ≠ v → AWP P n (thenC c) Q s) (hf : u = v → AWP P n (elseC c) Q s) : AWP P n c Q s := AWP.cond hc hx (fun e => ht (by simpa using e)) (fun e => hf (by simpa using e))
/-- Ways that meet again. -/
theorem AWP.join (J : AS) (hc : isSeq c = true) (h1 : AWP P n (fstC c) (Then (fun s' => Weaks s' J) Q) s) (h2 : AWP P n (sndC c) Q J) : AWP P n c Q s := by
  refine AWP.seq hc (h1.mono fun e s' hq => ?_)
  cases e with
  | normal => exact AWP.weak hq h2
  | _ => exact hq
theorem then_n (h : K s) : Then K Q .normal s := h
theorem then_e {id : Nat} (h : Q (.exit id) s) : Then K Q (.exit id) s := h
theorem then_r (h : Q .ret s) : Then K Q .ret s := h
theorem inb_n {id : Nat} (h : Q .normal s) : InB id Q .normal s := h
theorem inb_r {id : Nat} (h : Q .ret s) : InB id Q .ret s := h
theorem inb_e {id : Nat} (h : Q .normal s) : InB id Q (.exit id) s := by show (if _ then _ else _); rw [if_pos rfl]; exact h
theorem inb_o {id i : Nat} (hi : Nat.beq i id = false) (h : Q (.exit i) s) : InB id Q (.exit i) s := by show (if _ then _ else _); rw [if_neg (Nat.ne_of_beq_eq_false hi)]; exact h
theorem Weaks.of (l : List Wk) (he : wk l s = some s1) (e : s1 = s2) : Weaks s s2 := e ▸ wk_ok l he
theorem round_n {ι : Type} {I : ι → AS} {Inv : ι → Prop} {m : ι → Nat} {x : ι} (y : ι) (h1 : Inv y) (h2 : m y < m x) (h3 : Weaks s (I y)) : Round I Inv m Q x .normal s := ⟨y, h1, h2, h3⟩
theorem round_e {ι : Type} {I : ι → AS} {Inv : ι → Prop} {m : ι → Nat} {x : ι} {id : Nat} (h : Q (.exit id) s) : Round I Inv m Q x (.exit id) s := h
theorem round_r {ι : Type} {I : ι → AS} {Inv : ι → Prop} {m : ι → Nat} {x : ι} (h : Q .ret s) : Round I Inv m Q x .ret s := h
end
end Go.Proofs.Ytbehdllomepkdaa
