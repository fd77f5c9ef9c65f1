/-
  A region that draws its order, on plain states: its first operations in whatever order, its last ones behind them. Over any program. No condition.
-/
import Derived.Test.YtbehdllomepkdaaR13
import Derived.Test.YtbehdllomepkdaaRegionT
namespace Go.Proofs.Ytbehdllomepkdaa
open Go.RowKit

-- what a call has handed out, as something that is only read

def frz0 : AV → AV
  | .own e row => .sl e row
  | x => x
def frz1 : AV → AV
  | .agg cs => .agg (cs.map frz0)
  | x => frz0 x
def frz : AV → AV
  | .tup cs => .tup (cs.map frz1)
  | x => frz1 x
section
variable {S S' : Nat → Prop} {w : World}
theorem frz0_ok (hS : ∀ b, S b → S' b) {v : Value} {x : AV} {O : List Nat} (hO : ∀ g ∈ O, S' g) (h : Giv0 S w v x O) : Rep S' w v (frz0 x) := by
  cases h with
  | rep h =>
    have := h.mono fun b hb => ⟨hS b hb, rfl⟩
    cases h <;> exact this
  | nil e => exact sl_empty none 0 0 e (by simp) (by simp) (by simp)
  | own g l c e row cur te fr hg hf hl hc hm hs h =>
    exact sl_of_row (r := ⟨e, true, false, row⟩) hg (hO g (by simp)) row 0 (by rw [hl, hs, Nat.zero_add]; exact Nat.mul_le_mul_left _ hc) hl hc hm _ (fun _ => rfl) (fun j u x hu hx => (h j u x (by simpa using hu) hx).mono fun b hb => ⟨hS b hb, rfl⟩)
theorem frzL_ok {R : Value → AV → List Nat → Prop} {f : AV → AV} (hR : ∀ v x O, (∀ g ∈ O, S' g) → R v x O → Rep S' w v (f x)) {vs : List Value} {xs : List AV} {O : List Nat} (h : GivL R vs xs O) : (∀ g ∈ O, S' g) → vs.length = (xs.map f).length ∧ ∀ (j : Nat) v c, vs[j]? = some v → (xs.map f)[j]? = some c → Rep S' w v c := by
  induction h with
  | nil => intro _; exact ⟨rfl, fun j v c hv => by simp at hv⟩
  | cons h _ ih =>
    intro hO
    obtain ⟨h1, h2⟩ := ih fun g hg => hO g (by simp [hg])
    refine ⟨by simpa using h1, fun j v c hv hc => ?_⟩
    cases j with
    | zero => simp at hv hc; subst hv; subst hc; exact hR _ _ _ (fun g hg => hO g (by simp [hg])) h
    | succ j => exact h2 j v c (by simpa using hv) (by simpa using hc)
theorem frz1_ok (hS : ∀ b, S b → S' b) {v : Value} {x : AV} {O : List Nat} (hO : ∀ g ∈ O, S' g) (h : Giv1 S w v x O) : Rep S' w v (frz1 x) := by
  rcases h with h | ⟨vs, cs, rfl, rfl, hL⟩
  · by_cases hx : ∃ cs, x = .agg cs
    · obtain ⟨cs, rfl⟩ := hx
      cases h with
      | rep h => cases h with
        | agg vs _ hl h =>
          refine .agg vs _ (by simpa using hl) fun j v c hv hc => ?_
          rw [List.getElem?_map] at hc
          cases hj : cs[j]? with
          | none => rw [hj] at hc; cases hc
          | some y => rw [hj] at hc; injection hc with hc; subst hc; exact frz0_ok hS (O := []) (by simp) (.rep (h j v y hv hj))
    · have : frz1 x = frz0 x := by
        cases x with
        | agg cs => exact absurd ⟨cs, rfl⟩ hx
        | _ => rfl
      rw [this]; exact frz0_ok hS hO h
  · obtain ⟨h1, h2⟩ := frzL_ok (S' := S') (f := frz0) (fun v x O hO h => frz0_ok hS hO h) hL hO
    exact .agg vs _ h1 h2
theorem frz_ok (hS : ∀ b, S b → S' b) {v : Value} {x : AV} {O : List Nat} (hO : ∀ g ∈ O, S' g) (h : Giv S w v x O) : Rep S' w v (frz x) := by
  rcases h with h | ⟨vs, cs, rfl, rfl, hL⟩
  · by_cases hx : ∃ cs, x = .tup cs
    · obtain ⟨cs, rfl⟩ := hx
      rcases h with h | ⟨vs, cs', h1, h2, h3⟩
      · cases h with
        | rep h => cases h with
          | tup vs _ hl h =>
            refine .tup vs _ (by simpa using hl) fun j v c hv hc => ?_
            rw [List.getElem?_map] at hc
            cases hj : cs[j]? with
            | none => rw [hj] at hc; cases hc
            | some y => rw [hj] at hc; injection hc with hc; subst hc; exact frz1_ok hS (O := []) (by simp) (.inl (.rep (h j v y hv hj)))
      · cases h2
    · have : frz x = frz1 x := by
        cases x with
        | tup cs => exact absurd ⟨cs, rfl⟩ hx
        | _ => rfl
      rw [this]; exact frz1_ok hS hO h
  · obtain ⟨h1, h2⟩ := frzL_ok (S' := S') (f := frz1) (fun v x O hO h => frz1_ok hS hO h) hL hO
    exact .tup vs _ h1 h2
end

-- one operation

def evHead (P : Program) (s : AS) (o : Oper) (h : Hint) : Option (AV × List Prop) :=
  match o.op with
  | .buildSlice t len parts => (match P.underlying t with
    | some (.slice el) => (match sizeT P el, (P.info? el).bind (·.zero) with
      | some (z + 1), some zero => (match litCells s (z + 1) 0 parts.toList, Nat.beq parts.toList.length len, Nat.ble (len * (z + 1)) 16777216, Nat.beq zero.cells.size (z + 1) with
        | some cells, true, true, true => (match plainL cells with
          | true => some (.sl (z + 1) (named h cells).1, (named h cells).2)
          | false => none)
        | _, _, _, _ => none)
      | _, _ => none)
    | _ => none)
  | .call ⟨.builtin _, _, _⟩ => evPlain P s o h
  | .call ⟨c, xs, _⟩ => (match callee s c, h.av with
    | some f, some r => (match isEnter P f, h.b with
      | true, true => (match viewsL s (xs.toList.map (opd s)), flat r with
        | some vs, some C => some (frz r, Ret P f vs r :: C)
        | _, _ => none)
      | true, false => (match readyL (xs.toList.map (opd s)) with
        | true => some (frz r, [Ret P f (xs.toList.map (opd s)) r])
        | false => none)
      | _, _ => none)
    | _, _ => none)
  | _ => evPlain P s o h
/-- What the operation leaves, whatever the time. -/
def HeadOK (P : Program) (s : AS) (o : Oper) (x : AV) (C : List Prop) : Prop :=
  AllP C → ∀ S0 w0 n a w φ Q (b : Act), SimO S0 w0 n [] s a w φ → b.tmps = a.tmps → o.wp P b w (fun b' w' => ∃ v, b' = b.put o.dst v ∧ Below w.heap.size w w' ∧ Den (infoOf s.H φ) (Free S0 w' φ []) w' v x) Q
theorem eval_tmps {a b : Act} (h : b.tmps = a.tmps) : b.eval = a.eval := by
  funext x
  cases x <;> simp [Act.eval, h]
section
variable {P : Program} {s : AS} {o : Oper} {h : Hint} {r : AV × List Prop}
theorem head_plain (hp : PlainOK P s o r.1 r.2) : HeadOK P s o r.1 r.2 := by
  intro hC S0 w0 n a w φ Q b hs hb
  obtain ⟨v, hrun, hden⟩ := hp hC S0 w0 n [] a w φ hs
  rw [← eval_tmps hb] at hrun
  exact wp_of_run hrun ⟨v, rfl, Below.refl _ _, hden⟩
theorem free_grow {S0 : Nat → Prop} {w0 w w' : World} {n : Nat} {a : Act} {φ : Nat → Option Nat} (hs : SimO S0 w0 n [] s a w φ) (hb : Below w.heap.size w w') (b : Nat) (h : Free S0 w φ [] b ∨ (w.heap.size ≤ b ∧ b < w'.heap.size)) : Free S0 w' φ [] b := by
  rcases h with h | ⟨h1, h2⟩
  · exact ⟨by have := h.1; have := hb.size; omega, by simp, h.2.2⟩
  · exact ⟨h2, by simp, fun i hi => by have := (hs.rng i b hi).2; omega, hs.new b (by have := hs.bel.size; omega)⟩
theorem head_call {c : Callee} {xs : Array Operand} {ts : Array TypeId} {f : FuncId} {args : List AV} {x : AV} {C : List Prop} (ho : o.op = .call ⟨c, xs, ts⟩) (hc : callee s c = some f) (hE : isEnter P f = true) (hret : AllP C → Ret P f args x) (hl : args.length = xs.toList.length)
    (hG : AllP C → ∀ S0 w0 n a w φ, SimO S0 w0 n [] s a w φ → ∃ S : Nat → Prop, (∀ b, S b → b < w.heap.size) ∧ (∀ (j : Nat) v y, (xs.toList.map a.eval)[j]? = some v → args[j]? = some y → Rep S w v y) ∧ ∀ w' v O, Giv (fun b => S b ∨ (w.heap.size ≤ b ∧ b < w'.heap.size ∧ b ∉ O)) w' v x O → Giv (fun b => Free S0 w φ [] b ∨ (w.heap.size ≤ b ∧ b < w'.heap.size ∧ b ∉ O)) w' v x O) : HeadOK P s o (frz x) C := by
  intro hC S0 w0 n a w φ Q b hs hb
  have hrun := callee_ok (P := P) hs hc ho hE
  rw [← eval_tmps hb] at hrun
  obtain ⟨S, hS, hargs, hgiv⟩ := hG hC S0 w0 n a w φ hs
  unfold Oper.wp
  rw [hrun]
  have hcall := hret hC w S (xs.toList.map a.eval) hS (by simp [hl]) hargs
  have e : (xs.toList.map a.eval).toArray = xs.map b.eval := by rw [eval_tmps hb]; apply Array.ext'; simp
  rw [e] at hcall
  refine hcall.mono ?_
  rintro en w' ⟨v, O, rfl, hbl, hnd, hrg, hg⟩
  refine ⟨v, rfl, hbl, .rep (frz_ok (fun b hb => ?_) (fun g hg => ?_) (hgiv w' v O hg))⟩
  · exact free_grow hs hbl b (hb.imp id fun h => ⟨h.1, h.2.1⟩)
  · exact free_grow hs hbl g (.inr (hrg g hg))
theorem evHead_ok (hr : evHead P s o h = some r) : HeadOK P s o r.1 r.2 := by
  unfold evHead at hr
  split at hr
  · rename_i t len parts ho
    split at hr
    · rename_i el hu
      split at hr
      · rename_i z zero hz hzero
        split at hr
        · rename_i cells hcells hlen hbig hzs
          split at hr
          · rename_i hp
            cases hr
            intro hC S0 w0 n a w φ Q b hs hb
            have hlen := Nat.eq_of_beq_eq_true hlen
            have hbig : len * (z + 1) ≤ 16777216 := Nat.le_of_ble_eq_true hbig
            have hn : (named h cells).1 = cells := (named_ok (C := []) (by rw [List.append_nil]; exact hC)).1
            obtain ⟨h1, us, h2, h3, -, h4⟩ := lit_ok hs (z + 1) parts.toList 0 cells ((Array.range (len * (z + 1))).map (zero.cells[· % zero.cells.size]!)) hcells hp (by simp [← hlen])
            have hm : len ≤ maxLen := by
              have : len ≤ len * (z + 1) := Nat.le_mul_of_pos_right _ (by omega)
              unfold maxLen; omega
            have hrun : (execOp b.eval o).run P w = .ok (.value (.slice (some ⟨w.heap.size, 0, none⟩) len len)) { w with heap := w.heap.push (.cells us el (0, 0)) } := by
              have hz' : (sizeOf el).run P w = .ok (z + 1) w := run_sizeOf hz
              have hpl : (parts.map fun p => (p.1, a.eval p.2)).toList = parts.toList.map fun p => (p.1, a.eval p.2) := by simp
              rw [eval_tmps hb]
              unfold execOp
              simp only [ho, Instr.buildSlice, Sem.run_bind, run_underlying hu, Result.andThen_ok, hz', Sem.run_ite]
              rw [if_neg (by omega)]
              by_cases h0 : len * (z + 1) = 0
              · rw [if_pos h0]
                simp only [Sem.run_pure, Result.andThen_ok]
                have : (Array.range (len * (z + 1))).map (fun x => (#[] : Array Value)[x % (#[] : Array Value).size]!) = (Array.range (len * (z + 1))).map (fun x => zero.cells[x % zero.cells.size]!) := by rw [h0, map_range0, map_range0]
                rw [this, hpl, h2]
                rfl
              · rw [if_neg h0]
                simp only [run_zero hzero, Result.andThen_ok, Sem.run_pure]
                rw [hpl, h2]
                rfl
            have hbl : Below w.heap.size w { w with heap := w.heap.push (.cells us el (0, 0)) } := ⟨rfl, rfl, rfl, by simp, fun k hk => heap_push_lt w _ k hk⟩
            have hcl : cells.length = (z + 1) * len := by rw [h1, hlen, Nat.mul_comm]
            refine wp_of_run hrun ⟨_, rfl, hbl, ?_⟩
            simp only [hn]
            refine .rep (sl_of_row (r := ⟨z + 1, true, false, cells⟩) (heap_push w _) (free_grow hs hbl _ (.inr ⟨Nat.le_refl _, by simp⟩)) cells 0 (by rw [h3, hcl]; simp [Nat.mul_comm]) hcl (Nat.le_refl _) hm _ (fun _ => rfl) (fun j u x hu hx => ?_))
            exact (h4 j u x (by simpa using hu) hx).mono fun b hb => ⟨free_grow hs hbl b (.inl hb), heap_push_lt w _ b hb.1⟩
          · cases hr
        · cases hr
      · cases hr
    · cases hr
  · exact head_plain (evPlain_ok hr)
  · rename_i c xs ts _ ho
    split at hr
    · rename_i f x hc _
      split at hr
      · rename_i hE _
        split at hr
        · rename_i vs C hv hfl
          cases hr
          refine head_call ho hc hE (fun hC => hC.1) ?_ fun hC S0 w0 n a w φ hs => ?_
          · have key : ∀ (l : List AV) (m : List AV), viewsL s l = some m → m.length = l.length := by
              intro l
              induction l with
              | nil => intro m h; cases h; rfl
              | cons y l ih =>
                intro m h
                simp only [viewsL] at h
                split at h
                · rename_i y' m' _ hm
                  cases h
                  simp [ih m' hm]
                · cases h
            rw [key _ _ hv]; simp
          · exact ⟨fun b => b < w.heap.size, fun _ h => h, (viewsL_ok hs _ _ hv).2, fun w' v O hg => flat_ok hfl hC.2 hg⟩
        · cases hr
      · rename_i hE _
        split at hr
        · rename_i hrd
          cases hr
          refine head_call ho hc hE (fun hC => hC.1) (by simp) fun hC S0 w0 n a w φ hs => ⟨Free S0 w φ [], fun b hb => hb.1, fun j v x hv hx => ?_, fun w' v O hg => hg⟩
          have hrx := readyL_at hrd hx
          rw [List.getElem?_map] at hv hx
          cases hj : xs.toList[j]? with
          | none => rw [hj] at hv; cases hv
          | some y =>
            rw [hj] at hv hx
            injection hv with hv; injection hx with hx; subst hv; subst hx
            exact readyA_ok (hs.opd y) hrx
        · cases hr
      · cases hr
    · cases hr
  · exact head_plain (evPlain_ok hr)
end

-- the region

def keptF (ds : List Nat) : List (Nat × AV) → List (Nat × AV)
  | [] => []
  | (i, x) :: l => match ds.any (Nat.beq i) with | true => keptF ds l | false => (i, x) :: keptF ds l
theorem look_keptF (ds : List Nat) : ∀ (l : List (Nat × AV)) (i : Nat) (x : AV), look (keptF ds l) i = some x → look l i = some x ∧ i ∉ ds
  | [], i, x, h => by cases h
  | (k, y) :: l, i, x, h => by
    simp only [keptF] at h
    have ih := look_keptF ds l i x
    split at h
    · rename_i hk
      obtain ⟨h1, h2⟩ := ih h
      rw [look_cons]
      have hne : k ≠ i := fun e => by
        subst e
        obtain ⟨j, hj, hb⟩ := List.any_eq_true.1 hk
        have := Nat.eq_of_beq_eq_true hb
        subst this
        exact h2 hj
      rw [if_neg hne]; exact ⟨h1, h2⟩
    · rename_i hk
      rw [look_cons] at h ⊢
      by_cases hki : k = i
      · rw [if_pos hki] at h ⊢
        refine ⟨h, fun hm => ?_⟩
        have : ds.any (Nat.beq k) = true := List.any_eq_true.2 ⟨i, hm, by rw [hki]; exact Nat.beq_refl i⟩
        rw [hk] at this; cases this
      · rw [if_neg hki] at h ⊢
        exact ih h
def depF (ops : List Oper) (avs : List AV) : List Nat → List (Nat × AV)
  | [] => []
  | d :: l => match ops[d]?, avs[d]? with
    | some p, some x => (match p.dst with | some i => (i, x) :: depF ops avs l | none => depF ops avs l)
    | _, _ => depF ops avs l
theorem look_depF (ops : List Oper) (avs : List AV) : ∀ (l : List Nat) (i : Nat) (x : AV), look (depF ops avs l) i = some x → ∃ d p, d ∈ l ∧ ops[d]? = some p ∧ p.dst = some i ∧ avs[d]? = some x
  | [], i, x, h => by cases h
  | d :: l, i, x, h => by
    simp only [depF] at h
    have ih := look_depF ops avs l i x
    have step : look (depF ops avs l) i = some x → ∃ d' p, d' ∈ d :: l ∧ ops[d']? = some p ∧ p.dst = some i ∧ avs[d']? = some x := fun h => by
      obtain ⟨d', p, h1, h2⟩ := ih h
      exact ⟨d', p, by simp [h1], h2⟩
    split at h
    · rename_i p y hp hy
      split at h
      · rename_i k hk
        rw [look_cons] at h
        by_cases e : k = i
        · rw [if_pos e] at h; injection h with h; subst h; subst e
          exact ⟨d, p, by simp, hp, hk, hy⟩
        · rw [if_neg e] at h; exact step h
      · exact step h
    · exact step h
/-- The plain state in which an operation of the head is looked at. -/
def atOp (s : AS) (ds : List Nat) (ops : List Oper) (avs : List AV) (o : Oper) : AS := ⟨depF ops avs (depsOf o) ++ keptF ds s.F, s.H⟩
def evHG (P : Program) (ops : List Oper) (s : AS) (o : Oper) (h : Hint) : Option (AV × List Prop) :=
  match o.guard with
  | none => evHead P s o h
  | some (j, want) => (match ops[j]? with
    | some p => (match p.dst with
      | some d => (match getF s d with
        | .val (.bool b) => (match h.g == want with
          | true => (match evHead P s o h with | some (x, C) => some (x, (b = h.g) :: C) | none => none)
          | false => some (.dead, [b = h.g]))
        | _ => none)
      | none => none)
    | none => none)
def evHeads (P : Program) (s : AS) (ds : List Nat) (ops : List Oper) (hs : List (Nat × Hint)) : List Oper → Nat → List AV → Option (List AV × List Prop)
  | [], _, avs => some (avs, [])
  | o :: l, i, avs => match evHG P ops (atOp s ds ops avs o) o (hintAt hs i) with
    | some (x, C) => (match evHeads P s ds ops hs l (i + 1) (avs ++ [x]) with | some (avs', D) => some (avs', C ++ D) | none => none)
    | none => none
def headF : List Oper → List AV → List (Nat × AV)
  | o :: l, x :: m => (match o.dst with | some d => (d, x) :: headF l m | none => headF l m)
  | _, _ => []
def evDraw (P : Program) (n T : Nat) (ops : List Oper) (hs : List (Nat × Hint)) (s : AS) : Option (AS × List Prop) :=
  match P.follows .mixedOrders, factsB ops.toArray n, tailB ops.toArray T with
  | true, true, true => (match evHeads P s ((ops.take T).filterMap (·.dst)) ops hs (ops.take T) 0 [] with
    | some (avs, C) => (match evOps P n ops hs (ops.drop T) T ⟨headF (ops.take T) avs ++ keptF ((ops.take T).filterMap (·.dst)) s.F, s.H⟩ with | some (s', D) => some (s', C ++ D) | none => none)
    | none => none)
  | _, _, _ => none
end Go.Proofs.Ytbehdllomepkdaa
