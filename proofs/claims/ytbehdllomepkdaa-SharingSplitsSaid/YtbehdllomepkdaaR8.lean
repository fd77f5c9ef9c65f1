/-
  New memory: what the plain state becomes, and that this is right. Over any program. No condition.
-/
import Derived.Test.YtbehdllomepkdaaR7
namespace Go.Proofs.Ytbehdllomepkdaa
open Go.RowKit

def OpOK (P : Program) (n : Nat) (s : AS) (o : Oper) (s' : AS) (C : List Prop) : Prop :=
  AllP C → ∀ S0 w0 a w Q, Sim S0 w0 n s a w → o.wp P a w (fun a' w' => Sim S0 w0 n s' a' w') Q
def putD (n : Nat) (s : AS) (d : Option Nat) (x : AV) : Option AS :=
  match d with
  | none => some s
  | some d => (match Nat.blt d n with | true => some (setF s d x) | false => none)
theorem putD_ok {S0 : Nat → Prop} {w0 w : World} {n : Nat} {O : List Nat} {s s' : AS} {a : Act} {φ : Nat → Option Nat} {d : Option Nat} {v : Value} {x : AV} (h : SimO S0 w0 n O s a w φ) (hx : Den (infoOf s.H φ) (Free S0 w φ O) w v x) (hp : putD n s d x = some s') : SimO S0 w0 n O s' (a.put d v) w φ := by
  unfold putD at hp
  split at hp
  · injection hp with hp; subst hp
    exact ⟨h.tsz, h.dfr, h.bel, h.slots, h.rows, h.only, h.inj, h.rng, h.apart, h.new⟩
  · split at hp
    · rename_i d _ hb
      injection hp with hp; subst hp
      have hd : d < n := by simpa [Nat.blt_eq] using hb
      exact h.put hd hx
    · cases hp
theorem wp_of_run {P : Program} {o : Oper} {a : Act} {w w' : World} {v : Value} {next : Act → World → Prop} {Q : Exit → Act → World → Prop} (hrun : (execOp a.eval o).run P w = .ok (.value v) w') (hn : next (a.put o.dst v) w') : o.wp P a w next Q := by
  unfold Oper.wp
  rw [hrun]
  exact hn
theorem plain_op {P : Program} {n : Nat} {s s' : AS} {o : Oper} {x : AV} {C : List Prop} (h : PlainOK P s o x C) (hp : putD n s o.dst x = some s') : OpOK P n s o s' C := by
  intro hC S0 w0 a w Q ⟨φ, hs⟩
  obtain ⟨v, hrun, hden⟩ := h hC S0 w0 n [] a w φ hs
  unfold Oper.wp
  rw [hrun]
  exact ⟨φ, putD_ok hs hden hp⟩

def named (h : Hint) (cells : List AV) : List AV × List Prop := match h.av with | some (.arr row) => (row, [cells = row]) | _ => (cells, [])
theorem named_ok {h : Hint} {cells : List AV} {C : List Prop} (hC : AllP ((named h cells).2 ++ C)) : (named h cells).1 = cells ∧ AllP C := by
  unfold named at *
  split at hC
  · exact ⟨hC.1.symm, hC.2⟩
  · exact ⟨rfl, hC⟩
def install (s : AS) (id : Nat) (r : Row) : AS := ⟨(retire id s).F, (id, r) :: (retire id s).H⟩

section
variable {S0 : Nat → Prop} {w0 w w' : World} {n : Nat} {s : AS} {a : Act} {φ : Nat → Option Nat}
theorem SimO.retire0 (h : SimO S0 w0 n [] s a w φ) (id : Nat) : SimO S0 w0 n [] (retire id s) a w (erase φ id) := by
  cases hφ : φ id with
  | none => exact h.retire_ id [] (by rw [hφ])
  | some g => exact (h.retire_ id [g] (by rw [hφ])).free_
theorem look_retire_none (id : Nat) : look (retire id s).H id = none := by
  unfold retire; rw [look_mapv, look_drop, if_pos rfl]; rfl
theorem SimO.fresh (h : SimO S0 w0 n [] s a w φ) (id : Nat) (r : Row) (hos : w'.os = w.os) (htape : w'.tape = w.tape) (hout : w'.output = w.output) (hsz : w.heap.size < w'.heap.size) (hb : ∀ b, b < w.heap.size → w'.heap[b]? = w.heap[b]?)
    {cur : Array Value} {te : TypeId} {fr : Nat × Nat} (hg : w'.heap[w.heap.size]? = some (.cells cur te fr)) (hfr : ∀ j, j < cur.size → ¬ (fr.1 ≤ j ∧ j < fr.2)) (hl : r.cells.length ≤ cur.size) (hfu : r.full = true → cur.size = r.cells.length)
    (hc : ∀ (j : Nat) u x, cur[j]? = some u → r.cells[j]? = some x → (r.pure = true → Rep (Free S0 w φ []) w u x) ∧ (r.pure = false → ∃ y, x = kill0 id y ∧ Den (infoOf s.H φ) (Free S0 w φ []) w u y)) :
    SimO S0 w0 n [] (install s id r) a w' (bind_ (erase φ id) id w.heap.size) := by
  have h1 := h.retire0 id
  have h2 := h1.await w.heap.size (Nat.le_refl _)
  have h3 := h2.touch (w' := w') (fun g hg => by simp at hg; rw [hg]; exact h.bel.size) hos htape hout (Nat.le_of_lt hsz) (fun b hb1 _ => hb b hb1)
  have hF0 : ∀ b, Free S0 w φ [] b → Free S0 w (erase φ id) [] b := by
    intro b ⟨h1, h2, h3, h4⟩
    refine ⟨h1, h2, fun i hi => ?_, h4⟩
    unfold erase at hi
    split at hi
    · cases hi
    · exact h3 i hi
  have hF : ∀ b, Free S0 w (erase φ id) [] b → Free S0 w' (erase φ id) [w.heap.size] b ∧ w'.heap[b]? = w.heap[b]? := by
    intro b ⟨h1, h2, h3⟩
    exact ⟨⟨by omega, by simp; omega, h3⟩, hb b h1⟩
  refine h3.adopt (h.bel.size) hsz (by simp) (look_retire_none id) ⟨cur, te, fr, hg, hfr, hl, hfu, fun j u x hu hx => ?_⟩
  obtain ⟨hp, hi⟩ := hc j u x hu hx
  unfold CellDen
  cases hpure : r.pure with
  | true => exact ((hp hpure).mono fun b hb => ⟨hF0 b hb, rfl⟩).mono hF
  | false =>
    obtain ⟨y, rfl, hy⟩ := hi hpure
    have hk := (kill0_ok id (info_retire id) hF0).all hy
    exact hk.mono (fun _ _ h => h) hF (fun i e m g hi => by
      obtain ⟨q, -, -, -, hg⟩ := info_some hi
      unfold cellsLen; rw [hb g (h1.rng i g hg).2])
theorem info_install (id : Nat) (r : Row) (g : Nat) : infoOf (install s id r).H (bind_ (erase φ id) id g) id = some (r.e, r.cells.length, some g) := by
  rw [info_of (r := r) (by unfold install; rw [look_cons, if_pos rfl])]
  unfold bind_; rw [if_pos rfl]
end

/-- A new variable. -/
def boxE (P : Program) (t : TypeId) : Nat := match P.underlying t with | some (.array _ el) => (match sizeT P el with | some k => k | none => 1) | _ => 1
theorem map_range0 {α : Type} (f : Nat → α) : (Array.range 0).map f = #[] := Array.eq_empty_of_size_eq_zero (by simp)
def evAlloc (P : Program) (n : Nat) (s : AS) (d t : Nat) (h : Hint) : Option (AS × List Prop) :=
  match (P.info? t).bind (·.zero) with
  | some z => (match h.av with
    | some (.arr row) => (match putD n (install s d ⟨boxE P t, true, true, row⟩) (some d) (.addr d 0) with | some s' => some (s', [z.cells.toList.map constAV0 = row]) | none => none)
    | _ => (match putD n (install s d ⟨boxE P t, false, true, z.cells.toList.map constAV0⟩) (some d) (.addr d 0) with | some s' => some (s', []) | none => none))
  | none => none
theorem const_kill (id : Nat) (v : Value) (ho : v.oneCell' = true) : kill0 id (constAV0 v) = constAV0 v := by
  unfold constAV0
  split <;> rfl
theorem heap_push (w : World) (o : Obj) : ({ w with heap := w.heap.push o } : World).heap[w.heap.size]? = some o := by simp
theorem heap_push_lt (w : World) (o : Obj) (b : Nat) (h : b < w.heap.size) : ({ w with heap := w.heap.push o } : World).heap[b]? = w.heap[b]? := by
  show (w.heap.push o)[b]? = _
  rw [Array.getElem?_push, if_neg (by omega)]
section
variable {P : Program} {n : Nat} {s : AS} {o : Oper} {h : Hint} {q : AS × List Prop}
theorem kill_const (id : Nat) (v : Value) : kill0 id (constAV0 v) = constAV0 v := by
  unfold constAV0
  split <;> rfl
theorem evAlloc_ok {t d : Nat} (ho : o.op = .alloc t) (hd : o.dst = some d) (hr : evAlloc P n s d t h = some q) : OpOK P n s o q.1 q.2 := by
  intro hC S0 w0 a w Q ⟨φ, hs⟩
  unfold evAlloc at hr
  split at hr
  · rename_i z hz
    have hrun : (execOp a.eval o).run P w = .ok (.value (.pointer (some ⟨w.heap.size, 0, none⟩))) { w with heap := w.heap.push (.cells z.cells t (0, 0)) } := by
      unfold execOp
      simp [ho, Instr.alloc, run_zero hz, newVar, newRow]
    refine wp_of_run hrun ?_
    rw [hd]
    split at hr
    · rename_i row _
      split at hr
      · rename_i s' hs'
        injection hr with hr; subst hr
        have e := hC.1
        have h1 := hs.fresh (w' := { w with heap := w.heap.push (.cells z.cells t (0, 0)) }) d ⟨boxE P t, true, true, row⟩ rfl rfl rfl (by simp) (heap_push_lt w _) (heap_push w _) (by simp) (by simp [← e]) (by simp [← e]) (fun j u x hu hx => ⟨fun _ => by
          simp only [← e, List.getElem?_map] at hx
          have : z.cells.toList[j]? = some u := by simpa using hu
          rw [this] at hx; injection hx with hx; subst hx; exact rep_const0 u, fun h => by cases h⟩)
        exact ⟨_, putD_ok h1 (.addr d 0 _ _ _ (info_install d _ _)) hs'⟩
      · cases hr
    · split at hr
      · rename_i s' hs'
        injection hr with hr; subst hr
        have h1 := hs.fresh (w' := { w with heap := w.heap.push (.cells z.cells t (0, 0)) }) d ⟨boxE P t, false, true, z.cells.toList.map constAV0⟩ rfl rfl rfl (by simp) (heap_push_lt w _) (heap_push w _) (by simp) (by simp) (by simp) (fun j u x hu hx => ⟨fun h => (by cases h), fun _ => by
          simp only [List.getElem?_map] at hx
          have : z.cells.toList[j]? = some u := by simpa using hu
          rw [this] at hx; injection hx with hx; subst hx
          exact ⟨constAV0 u, (kill_const d u).symm, .rep (rep_const0 u)⟩⟩)
        exact ⟨_, putD_ok h1 (.addr d 0 _ _ _ (info_install d _ _)) hs'⟩
      · cases hr
  · cases hr

/-- A variable with a first value. -/
def evBox (P : Program) (n : Nat) (s : AS) (d t : Nat) (x : AV) : Option (AS × List Prop) :=
  match x with
  | .arr row => (match putD n (install s d ⟨boxE P t, true, true, row⟩) (some d) (.addr d 0) with | some s' => some (s', []) | none => none)
  | x => (match avCells x with
    | some l => (match putD n (install s d ⟨boxE P t, false, true, l.map (kill0 d)⟩) (some d) (.addr d 0) with | some s' => some (s', []) | none => none)
    | none => none)
theorem evBox_ok {t d : Nat} {x : Operand} (ho : o.op = .box t x) (hd : o.dst = some d) (hr : evBox P n s d t (opd s x) = some q) : OpOK P n s o q.1 q.2 := by
  intro hC S0 w0 a w Q ⟨φ, hs⟩
  have hx := hs.opd x
  have hrun : (execOp a.eval o).run P w = .ok (.value (.pointer (some ⟨w.heap.size, 0, none⟩))) { w with heap := w.heap.push (.cells (a.eval x).cells t (0, 0)) } := by
    unfold execOp
    simp [ho, Instr.box, newVar, newRow]
  refine wp_of_run hrun ?_
  rw [hd]
  unfold evBox at hr
  split at hr
  · rename_i row he
    split at hr
    · rename_i s' hs'
      injection hr with hr; subst hr
      rw [he] at hx
      obtain ⟨vs, hv, hl, hrep⟩ := den_arr hx
      have hcells : (a.eval x).cells = vs.toArray := by rw [hv]; rfl
      rw [hcells]
      have h1 := hs.fresh (w' := { w with heap := w.heap.push (.cells vs.toArray t (0, 0)) }) d ⟨boxE P t, true, true, row⟩ rfl rfl rfl (by simp) (heap_push_lt w _) (heap_push w _) (by simp) (by simp [hl]) (by simp [hl]) (fun j u x hu hx => ⟨fun _ => hrep j u x (by simpa using hu) hx, fun h => by cases h⟩)
      exact ⟨_, putD_ok h1 (.addr d 0 _ _ _ (info_install d _ _)) hs'⟩
    · cases hr
  · split at hr
    · rename_i l hl
      split at hr
      · rename_i s' hs'
        injection hr with hr; subst hr
        obtain ⟨vs, hcells, hlen, hden⟩ := den_cells hx hl
        rw [hcells]
        have h1 := hs.fresh (w' := { w with heap := w.heap.push (.cells vs.toArray t (0, 0)) }) d ⟨boxE P t, false, true, l.map (kill0 d)⟩ rfl rfl rfl (by simp) (heap_push_lt w _) (heap_push w _) (by simp) (by simp [hlen]) (by simp [hlen]) (fun j u x hu hx => ⟨fun h => (by cases h), fun _ => by
          simp only [List.getElem?_map] at hx
          cases hj : l[j]? with
          | none => rw [hj] at hx; cases hx
          | some y => rw [hj] at hx; injection hx with hx; subst hx; exact ⟨y, rfl, hden j u y (by simpa using hu) hj⟩⟩)
        exact ⟨_, putD_ok h1 (.addr d 0 _ _ _ (info_install d _ _)) hs'⟩
      · cases hr
    · cases hr

-- rows that are written no more

def ids0 : AV → List Nat
  | .ref i => [i]
  | .pre i _ => [i]
  | .win i _ _ => [i]
  | .addr i _ => [i]
  | _ => []
def ids1 : AV → List Nat
  | .agg cs => cs.flatMap ids0
  | x => ids0 x
def thawAll : AS → List Nat → Option AS
  | s, [] => some s
  | s, i :: l => match look s.H i with
    | some r => (match r.pure with | true => thawAll (thaw i r s) l | false => none)
    | none => thawAll s l
theorem thawAll_ok {S0 : Nat → Prop} {w0 w : World} {a : Act} : ∀ (l : List Nat) (s s' : AS) (φ : Nat → Option Nat), thawAll s l = some s' → SimO S0 w0 n [] s a w φ → ∃ φ', SimO S0 w0 n [] s' a w φ'
  | [], s, s', φ, h, hs => by cases h; exact ⟨φ, hs⟩
  | i :: l, s, s', φ, h, hs => by
    simp only [thawAll] at h
    split at h
    · rename_i r hr
      split at h
      · rename_i hp
        exact thawAll_ok l _ s' _ h (hs.thaw_ hr hp)
      · cases h
    · exact thawAll_ok l s s' φ h hs
def plain0 : AV → Bool
  | .val u => u.oneCell'
  | .nil => true
  | .sl _ _ => true
  | .ptr _ _ => true
  | _ => false
def plainL : List AV → Bool
  | [] => true
  | x :: l => match plain0 x with | true => plainL l | false => false
theorem plain0_rep {I : Info} {S : Nat → Prop} {w : World} {v : Value} {x : AV} (hd : Den I S w v x) (hp : plain0 x = true) : Rep S w v x ∧ v.oneCell' = true := by
  cases hd with
  | rep h => refine ⟨h, ?_⟩; cases h <;> first | exact hp | rfl | cases hp
  | _ => cases hp
theorem plainL_at : ∀ {l : List AV} {j : Nat} {x : AV}, plainL l = true → l[j]? = some x → plain0 x = true
  | [], j, x, _, h => by simp at h
  | y :: l, j, x, hp, h => by
    simp only [plainL] at hp
    split at hp
    · rename_i hy
      cases j with
      | zero => simp at h; subst h; exact hy
      | succ j => exact plainL_at hp (by simpa using h)
    · cases hp

/-- The cells of the parts of a literal, which must come in order, none missing. -/
def litCells (s : AS) (z : Nat) : Nat → List (Nat × Operand) → Option (List AV)
  | _, [] => some []
  | i, (j, x) :: l => match Nat.beq i j, avCells (opd s x), litCells s z (i + 1) l with
    | true, some c, some m => (match Nat.beq c.length z with | true => some (c ++ m) | false => none)
    | _, _, _ => none
def evLit (P : Program) (n : Nat) (s : AS) (d t len : Nat) (parts : List (Nat × Operand)) (h : Hint) : Option (AS × List Prop) :=
  match P.underlying t with
  | some (.slice el) => (match sizeT P el, (P.info? el).bind (·.zero), thawAll s (parts.flatMap fun p => ids1 (opd s p.2)) with
    | some (z + 1), some zero, some s1 => (match litCells s1 (z + 1) 0 parts, Nat.beq parts.length len, Nat.ble (len * (z + 1)) 16777216 with
      | some cells, true, true => (match Nat.beq zero.cells.size (z + 1) with
        | true => (match h.av with
          | some (.arr row) => (match plainL cells, putD n (install s1 d ⟨z + 1, true, true, row⟩) (some d) (.ref d) with | true, some s' => some (s', [cells = row]) | _, _ => none)
          | _ => (match plainL cells, putD n (install s1 d ⟨z + 1, true, true, cells⟩) (some d) (.ref d) with | true, some s' => some (s', []) | _, _ => none))
        | false => none)
      | _, _, _ => none)
    | _, _, _ => none)
  | _ => none
theorem lit_ok {S0 : Nat → Prop} {w0 w : World} {a : Act} {φ : Nat → Option Nat} (hs : SimO S0 w0 n [] s a w φ) (z : Nat) : ∀ (parts : List (Nat × Operand)) (i : Nat) (cells : List AV) (cur : Array Value), litCells s z i parts = some cells → plainL cells = true → i * z + parts.length * z = cur.size →
    cells.length = parts.length * z ∧ ∃ us : Array Value, Instr.fill (fun i => some (i * z, z)) cur (parts.map fun p => (p.1, a.eval p.2)) = some us ∧ us.size = cur.size ∧ (∀ j, j < i * z → us[j]? = cur[j]?) ∧ ∀ (j : Nat) u x, us[i * z + j]? = some u → cells[j]? = some x → Rep (Free S0 w φ []) w u x
  | [], i, cells, cur, hc, hp, hsz => by cases hc; exact ⟨by simp, cur, rfl, rfl, fun _ _ => rfl, fun j u x _ hx => by simp at hx⟩
  | (j, x) :: l, i, cells, cur, hc, hp, hsz => by
    simp only [litCells] at hc
    split at hc
    · rename_i c m hij hcx hm
      split at hc
      · rename_i hcz
        cases hc
        have hij := Nat.eq_of_beq_eq_true hij
        have hcz := Nat.eq_of_beq_eq_true hcz
        subst hij
        obtain ⟨vs, hv, hlen, hden⟩ := den_cells (hs.opd x) hcx
        have hpm : plainL m = true := by
          have key : ∀ (c m : List AV), plainL (c ++ m) = true → plainL m = true := by
            intro c
            induction c with
            | nil => intro m h; exact h
            | cons y c ih =>
              intro m h
              simp only [List.cons_append, plainL] at h
              split at h
              · exact ih m h
              · cases h
          exact key c m hp
        simp only [List.length_cons] at hsz
        have hz2 : (l.length + 1) * z = l.length * z + z := by rw [Nat.add_mul, Nat.one_mul]
        have hi2 : (i + 1) * z = i * z + z := by rw [Nat.add_mul, Nat.one_mul]
        have hfold : ((a.eval x).cells.zipIdx.foldl (fun cs (cj : Value × Nat) => cs.setIfInBounds (i * z + cj.2) cj.1) cur) = (vs.zipIdx.foldl (fun cs (cj : Value × Nat) => cs.setIfInBounds (i * z + cj.2) cj.1) cur) := by rw [hv]; simp
        obtain ⟨hl1, us, hus, hus1, hus2, hus3⟩ := lit_ok hs z l (i + 1) m (vs.zipIdx.foldl (fun cs (cj : Value × Nat) => cs.setIfInBounds (i * z + cj.2) cj.1) cur) hm hpm (by rw [foldl_size]; omega)
        rw [foldl_size] at hus1
        refine ⟨by rw [List.length_append, List.length_cons, hl1, hcz]; omega, us, ?_, hus1, fun j hj => ?_, fun j u y hu hy => ?_⟩
        · rw [List.map_cons]
          unfold Instr.fill
          simp only
          have hvz : (a.eval x).cells.size = z := by rw [hv]; simp; omega
          rw [if_neg (by rw [hvz]; simp; omega), hfold]
          exact hus
        · rw [hus2 j (by omega), foldl_set, if_neg (by omega)]
        · by_cases hj : j < z
          · rw [hus2 _ (by omega), foldl_set, if_pos (by omega)] at hu
            rw [List.getElem?_append_left (by omega)] at hy
            have hu' : vs[j]? = some u := by rw [← hu]; congr 1; omega
            exact (plain0_rep (hden j u y hu' hy) (plainL_at (l := c ++ m) (j := j) hp (by rw [List.getElem?_append_left (by omega)]; exact hy))).1
          · rw [List.getElem?_append_right (by omega)] at hy
            refine hus3 (j - z) u y ?_ (by rw [← hy, hcz])
            rw [← hu]; congr 1; omega
      · cases hc
    · cases hc
theorem evLit_ok {t d len : Nat} {parts : Array (Nat × Operand)} (ho : o.op = .buildSlice t len parts) (hd : o.dst = some d) (hr : evLit P n s d t len parts.toList h = some q) : OpOK P n s o q.1 q.2 := by
  intro hC S0 w0 a w Q ⟨φ0, hs0⟩
  unfold evLit at hr
  split at hr
  · rename_i el hu
    split at hr
    · rename_i z zero s1 hz hzero hthaw
      obtain ⟨φ, hs⟩ := thawAll_ok _ _ _ _ hthaw hs0
      split at hr
      · rename_i cells hcells hlen hbig
        split at hr
        · rename_i hzs
          have hzs := Nat.eq_of_beq_eq_true hzs
          have hlen := Nat.eq_of_beq_eq_true hlen
          have hbig : len * (z + 1) ≤ 16777216 := Nat.le_of_ble_eq_true hbig
          have hrun : plainL cells = true → ∃ us : Array Value, (execOp a.eval o).run P w = .ok (.value (.slice (some ⟨w.heap.size, 0, none⟩) len len)) { w with heap := w.heap.push (.cells us el (0, 0)) } ∧ us.size = cells.length ∧ cells.length = (z + 1) * len ∧ ∀ (j : Nat) u x, us[j]? = some u → cells[j]? = some x → Rep (Free S0 w φ []) w u x := by
            intro hp
            obtain ⟨h1, us, h2, h3, -, h4⟩ := lit_ok hs (z + 1) parts.toList 0 cells ((Array.range (len * (z + 1))).map (zero.cells[· % zero.cells.size]!)) hcells hp (by simp [← hlen])
            refine ⟨us, ?_, by rw [h3, h1, hlen]; simp, by rw [h1, hlen, Nat.mul_comm], fun j u x hu hx => h4 j u x (by simpa using hu) hx⟩
            have hz' : (sizeOf el).run P w = .ok (z + 1) w := run_sizeOf hz
            have hpl : (parts.map fun p => (p.1, a.eval p.2)).toList = parts.toList.map fun p => (p.1, a.eval p.2) := by simp
            unfold execOp
            simp only [ho, Instr.buildSlice, Sem.run_bind, run_underlying hu, Result.andThen_ok, hz', Sem.run_ite]
            rw [if_neg (by omega)]
            by_cases h0 : len * (z + 1) = 0
            · rw [if_pos h0]
              simp only [Sem.run_pure, Result.andThen_ok]
              have : (Array.range (len * (z + 1))).map (fun x => (#[] : Array Value)[x % (#[] : Array Value).size]!) = (Array.range (len * (z + 1))).map (fun x => zero.cells[x % zero.cells.size]!) := by rw [h0, map_range0, map_range0]
              rw [this, hpl, h2]
              rfl
            · rw [if_neg h0]
              simp only [run_zero hzero, Result.andThen_ok, Sem.run_pure]
              rw [hpl, h2]
              rfl
          have hm : len ≤ maxLen := by
            have : len ≤ len * (z + 1) := Nat.le_mul_of_pos_right _ (by omega)
            unfold maxLen; omega
          split at hr
          · rename_i row _
            split at hr
            · rename_i s' hp hs'
              injection hr with hr; subst hr
              obtain ⟨us, hrun, h1, h2, h3⟩ := hrun hp
              have e := hC.1
              subst e
              refine wp_of_run hrun ?_
              rw [hd]
              have hf := hs.fresh (w' := { w with heap := w.heap.push (.cells us el (0, 0)) }) d ⟨z + 1, true, true, cells⟩ rfl rfl rfl (by simp) (heap_push_lt w _) (heap_push w _) (by simp) (by simp [h1]) (by simp [h1]) (fun j u x hu hx => ⟨fun _ => h3 j u x hu hx, fun h => by cases h⟩)
              exact ⟨_, putD_ok hf (.ref d _ _ _ len len (info_install d _ _) h2 (Nat.le_refl _) hm (by unfold cellsLen; rw [heap_push]; show us.size = _; rw [h1, h2])) hs'⟩
            · cases hr
          · split at hr
            · rename_i s' hp hs'
              injection hr with hr; subst hr
              obtain ⟨us, hrun, h1, h2, h3⟩ := hrun hp
              refine wp_of_run hrun ?_
              rw [hd]
              have hf := hs.fresh (w' := { w with heap := w.heap.push (.cells us el (0, 0)) }) d ⟨z + 1, true, true, cells⟩ rfl rfl rfl (by simp) (heap_push_lt w _) (heap_push w _) (by simp) (by simp [h1]) (by simp [h1]) (fun j u x hu hx => ⟨fun _ => h3 j u x hu hx, fun h => by cases h⟩)
              exact ⟨_, putD_ok hf (.ref d _ _ _ len len (info_install d _ _) h2 (Nat.le_refl _) hm (by unfold cellsLen; rw [heap_push]; show us.size = _; rw [h1, h2])) hs'⟩
            · cases hr
        · cases hr
      · cases hr
    · cases hr
  · cases hr

/-- The zero values of a made slice. -/
def zrow (zs : List AV) (k : Nat) : List AV := match zs with | [x] => List.replicate k x | zs => (List.replicate k zs).flatten
theorem flat_at (zs : List AV) (e : Nat) (he : zs.length = e) (h0 : 0 < e) : ∀ (k j : Nat) (x : AV), ((List.replicate k zs).flatten)[j]? = some x → zs[j % e]? = some x
  | 0, j, x, h => by simp at h
  | k + 1, j, x, h => by
    rw [List.replicate_succ, List.flatten_cons] at h
    by_cases hj : j < e
    · rw [List.getElem?_append_left (by omega)] at h
      rw [Nat.mod_eq_of_lt hj]; exact h
    · rw [List.getElem?_append_right (by omega)] at h
      have := flat_at zs e he h0 k _ x h
      rw [he] at this
      rw [show j % e = (j - e) % e from ?_]
      · exact this
      · rw [Nat.mod_eq_sub_mod (by omega)]
theorem zrow_at (zs : List AV) (e : Nat) (he : zs.length = e) (h0 : 0 < e) (k j : Nat) (x : AV) (h : (zrow zs k)[j]? = some x) : zs[j % e]? = some x := by
  unfold zrow at h
  split at h
  · simp at he
    subst he
    rw [List.getElem?_replicate] at h
    split at h
    · injection h with h; subst h; simp [Nat.mod_one]
    · cases h
  · exact flat_at zs e he h0 k j x h
theorem zrow_len (zs : List AV) (e : Nat) (he : zs.length = e) (k : Nat) : (zrow zs k).length = e * k := by
  unfold zrow
  split
  · simp at he; subst he; simp
  · rw [List.length_flatten]; simp [he, Nat.mul_comm]
def evMake (P : Program) (n : Nat) (s : AS) (d t : Nat) (L C : Int) (h : Hint) : Option (AS × List Prop) :=
  match P.underlying t with
  | some (.slice el) => (match P.info? el with
    | some i => (match i.zero, i.size with
      | some zero, z + 1 => (match Nat.beq zero.cells.size (z + 1) with
        | true => (match putD n (install s d ⟨z + 1, true, false, (named h (zrow (zero.cells.toList.map constAV0) h.k)).1⟩) (some d) (.ref d) with
          | some s' => some (s', (named h (zrow (zero.cells.toList.map constAV0) h.k)).2 ++ [L = (h.k : Int), C = (h.m : Int), h.k ≤ h.m, i.bytes * h.m ≤ 281474976710656, h.m ≤ maxLen]) | none => none)
        | false => none)
      | _, _ => none)
    | none => none)
  | _ => none
theorem evMake_ok {t d : Nat} {l c : Operand} {kl kc : IntKind} {L C : Int} (ho : o.op = .makeSlice t l c) (hl : opd s l = .val (.int kl L)) (hc : opd s c = .val (.int kc C)) (hd : o.dst = some d) (hr : evMake P n s d t L C h = some q) : OpOK P n s o q.1 q.2 := by
  intro hC S0 w0 a w Q ⟨φ, hs⟩
  have el' : a.eval l = .int kl L := den_val (hl ▸ hs.opd l)
  have ec : a.eval c = .int kc C := den_val (hc ▸ hs.opd c)
  unfold evMake at hr
  split at hr
  · rename_i el hu
    split at hr
    · rename_i i hi
      split at hr
      · rename_i zero z hz hsz
        split at hr
        · rename_i hb
          have hb := Nat.eq_of_beq_eq_true hb
          split at hr
          · rename_i s' hs'
            injection hr with hr; subst hr
            obtain ⟨hnm, hC⟩ := named_ok hC
            rw [hnm] at hs'
            obtain ⟨h1, h2, h3, h4, h5, -⟩ := hC
            have hmx : h.m ≤ 9223372036854775807 := by have := h5; unfold maxLen at this; omega
            have wl : IntKind.i64.wrap L = (h.k : Int) := by rw [h1, IntKind.wrap_i64]; omega
            have wc : IntKind.i64.wrap C = (h.m : Int) := by rw [h2, IntKind.wrap_i64]; omega
            have hbm : ((i.bytes : Int) * (h.m : Int)) ≤ 281474976710656 := by
              have h4' : ((i.bytes * h.m : Nat) : Int) ≤ 281474976710656 := by omega
              rw [Int.natCast_mul] at h4'; exact h4'
            have hrun : ∃ cur : Array Value, (execOp a.eval o).run P w = .ok (.value (.slice (some ⟨w.heap.size, 0, none⟩) h.k h.m)) { w with heap := w.heap.push (.cells cur el (0, 0)) } ∧ cur.size = (z + 1) * h.m ∧ ∀ (j : Nat) u, cur[j]? = some u → zero.cells[j % (z + 1)]? = some u := by
              have hzv : (zeroValue el).run P w = .ok zero w := run_zero (by rw [hi]; exact hz)
              have hso : (sizeOf el).run P w = .ok (z + 1) w := by simp [sizeOf, typeInfo, hi, hsz]
              have hti : (typeInfo el).run P w = .ok i w := by simp [typeInfo, hi]
              have t1 : ¬ ((h.m : Int) < 0) := by omega
              have t2 : ¬ (281474976710656 < (i.bytes : Int) * (h.m : Int)) := by omega
              have t3 : ¬ ((h.k : Int) < 0) := by omega
              have t4 : ¬ ((h.m : Int) < (h.k : Int)) := by omega
              by_cases h0 : h.m * (z + 1) = 0
              · refine ⟨#[], ?_, by rw [Nat.mul_comm]; simp [h0], fun j u hu => by simp at hu⟩
                unfold execOp
                simp [ho, el', ec, Instr.makeSlice, run_underlying hu, hti, hso, asInt, asIntOf, wl, wc, t1, t2, t3, t4, newRow]
                have : h.m = 0 := by
                  rcases Nat.eq_zero_or_pos h.m with h6 | h6
                  · exact h6
                  · have := Nat.mul_pos h6 (show 0 < z + 1 by omega); omega
                simp [this, map_range0]
              · refine ⟨(Array.range (h.m * (z + 1))).map (zero.cells[· % zero.cells.size]!), ?_, by simp [Nat.mul_comm], fun j u hu => ?_⟩
                · unfold execOp
                  simp [ho, el', ec, Instr.makeSlice, run_underlying hu, hti, hso, asInt, asIntOf, wl, wc, t1, t2, t3, t4, newRow, hzv]
                  exact fun e => absurd e h0
                · simp only [Array.getElem?_map] at hu
                  cases hj : (Array.range (h.m * (z + 1)))[j]? with
                  | none => rw [hj] at hu; cases hu
                  | some k =>
                    have hk : k = j := by
                      have := Array.getElem?_eq_some_iff.1 hj
                      obtain ⟨hlt, he⟩ := this
                      rw [← he]; simp
                    subst hk
                    rw [hj] at hu
                    injection hu with hu
                    rw [hb] at hu
                    have hlt : k % (z + 1) < zero.cells.size := by rw [hb]; exact Nat.mod_lt _ (by omega)
                    simp [getElem!_pos, hlt] at hu
                    simp [hlt, hu]
            obtain ⟨cur, hrun, hcs, hcell⟩ := hrun
            refine wp_of_run hrun ?_
            rw [hd]
            have hzl : (zero.cells.toList.map constAV0).length = z + 1 := by simp [hb]
            have hrl := zrow_len (zero.cells.toList.map constAV0) (z + 1) hzl h.k
            have hle : (z + 1) * h.k ≤ (z + 1) * h.m := Nat.mul_le_mul_left _ h3
            have hf := hs.fresh (w' := { w with heap := w.heap.push (.cells cur el (0, 0)) }) d ⟨z + 1, true, false, zrow (zero.cells.toList.map constAV0) h.k⟩ rfl rfl rfl (by simp) (heap_push_lt w _) (heap_push w _) (by simp) (by simp only [hrl, hcs]; exact hle) (fun h => by cases h) (fun j u x hu hx => ⟨fun _ => by
              have h6 := zrow_at _ (z + 1) hzl (by omega) _ _ _ hx
              have h7 := hcell j u hu
              rw [List.getElem?_map] at h6
              have h8 : zero.cells.toList[j % (z + 1)]? = some u := by simpa using h7
              rw [h8] at h6; injection h6 with h6; subst h6; exact rep_const0 u, fun h => by cases h⟩)
            exact ⟨_, putD_ok hf (.ref d _ _ _ h.k h.m (info_install d _ _) hrl h3 h5 (by unfold cellsLen; rw [heap_push]; exact hcs)) hs'⟩
          · cases hr
        · cases hr
      · cases hr
    · cases hr
  · cases hr

/-- '[]byte(s)'. -/
def evBytes (P : Program) (n : Nat) (s : AS) (d src dst : Nat) (b : ByteArray) : Option (AS × List Prop) :=
  match P.underlying src, P.underlying dst with
  | some .string, some (.slice el) => (match P.underlying el with
    | some (.int .u8) => (match putD n (install s d ⟨1, true, false, bytesA b.data.toList⟩) (some d) (.ref d) with | some s' => some (s', [b.size ≤ maxLen]) | none => none)
    | _ => none)
  | _, _ => none
theorem evBytes_ok {src dst d : Nat} {x : Operand} {b : ByteArray} (ho : o.op = .convert src dst x) (hx : opd s x = .val (.string b)) (hd : o.dst = some d) (hr : evBytes P n s d src dst b = some q) : OpOK P n s o q.1 q.2 := by
  intro hC S0 w0 a w Q ⟨φ, hs⟩
  have ex : a.eval x = .string b := den_val (hx ▸ hs.opd x)
  unfold evBytes at hr
  split at hr
  · rename_i el h1 h2
    split at hr
    · rename_i h3
      split at hr
      · rename_i s' hs'
        injection hr with hr; subst hr
        have hsz := hC.1
        have hown := Own.of_string w b el hsz
        have hrun : (execOp a.eval o).run P w = .ok (.value (.slice (some ⟨w.heap.size, 0, none⟩) b.size (grownCap w b.size 0 el))) (w.drew.alloc (.cells (bytesRow b (grownCap w b.size 0 el)) el ((bytesRow b (grownCap w b.size 0 el)).size, (bytesRow b (grownCap w b.size 0 el)).size + 1))) := by
          unfold execOp
          simp [ho, ex, run_bytes_of_string w src dst el b h1 h2 h3]
        refine wp_of_run hrun ?_
        rw [hd]
        have hge := grownCap_ge w b.size 0 el
        have hcm : grownCap w b.size 0 el ≤ maxLen := grownCap_le_maxLen w _ 0 el hsz
        have hbsz : (bytesRow b (grownCap w b.size 0 el)).size = grownCap w b.size 0 el := by
          unfold bytesRow; simp only [Array.size_append, Array.size_map, Array.size_replicate]
          show b.size + _ = _
          omega
        have hbl : (bytesA b.data.toList).length = b.size := by rw [bytesA_len]; rfl
        have hnew : (w.drew.alloc (.cells (bytesRow b (grownCap w b.size 0 el)) el ((bytesRow b (grownCap w b.size 0 el)).size, (bytesRow b (grownCap w b.size 0 el)).size + 1))).heap[w.heap.size]? = some (.cells (bytesRow b (grownCap w b.size 0 el)) el ((bytesRow b (grownCap w b.size 0 el)).size, (bytesRow b (grownCap w b.size 0 el)).size + 1)) := heap_alloc_new w.drew _
        have hf := hs.fresh (w' := w.drew.alloc (.cells (bytesRow b (grownCap w b.size 0 el)) el ((bytesRow b (grownCap w b.size 0 el)).size, (bytesRow b (grownCap w b.size 0 el)).size + 1))) d ⟨1, true, false, bytesA b.data.toList⟩ rfl rfl rfl (by simp) (fun k hk => Below.heap_alloc w.drew _ k hk) hnew (fun j hj => by simp only; omega) (by simp only [hbl, hbsz]; exact hge) (fun h => by cases h) (fun j u x hu hx => ⟨fun _ => by
          have hj : j < b.size := by have := (List.getElem?_eq_some_iff.1 hx).1; rw [hbl] at this; exact this
          have hj' : j < b.data.toList.length := hj
          have hj2 : j < b.data.size := hj
          have e1 : (bytesRow b (grownCap w b.size 0 el))[j]? = some (.int .u8 (b.data.toList[j].toNat)) := by
            unfold bytesRow
            rw [Array.getElem?_append_left (by simpa using hj)]
            simp
            exact ⟨_, Array.getElem?_eq_getElem hj2, rfl⟩
          rw [e1] at hu; injection hu with hu; subst hu
          have e2 : (bytesA b.data.toList)[j]? = some (.val (.int .u8 (bv b.data.toList[j]))) := by
            simp [bytesA]
            exact ⟨_, Array.getElem?_eq_getElem hj2, rfl⟩
          rw [e2] at hx; injection hx with hx; subst hx
          exact .val _, fun h => by cases h⟩)
        exact ⟨_, putD_ok hf (.ref d 1 _ _ b.size (grownCap w b.size 0 el) (info_install d _ _) (by rw [Nat.one_mul]; exact hbl) hge hcm (by unfold cellsLen; rw [hnew]; simp only [hbsz, Nat.one_mul])) hs'⟩
      · cases hr
    · cases hr
  · cases hr
end
end Go.Proofs.Ytbehdllomepkdaa
