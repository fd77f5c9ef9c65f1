/-
  The contract of a function on plain values (Ret); a call by its contract. Over any program. No condition.
-/
import Derived.Test.YtbehdllomepkdaaR11
namespace Go.Proofs.Ytbehdllomepkdaa
open Go.RowKit

/-- What a call hands out: v reads as x; the blocks O are new and named nowhere else. -/
inductive Giv0 (S : Nat → Prop) (w : World) : Value → AV → List Nat → Prop
  | rep {v : Value} {x : AV} (h : Rep S w v x) : Giv0 S w v x []
  | nil (e : Nat) : Giv0 S w (.slice none 0 0) (.own e []) []
  | own (g l c e : Nat) (row : List AV) (cur : Array Value) (te : TypeId) (fr : Nat × Nat) (hg : w.heap[g]? = some (.cells cur te fr)) (hf : ∀ j, j < cur.size → ¬ (fr.1 ≤ j ∧ j < fr.2)) (hl : row.length = e * l) (hc : l ≤ c) (hm : c ≤ maxLen) (hs : cur.size = e * c)
      (h : ∀ (j : Nat) u x, cur[j]? = some u → row[j]? = some x → Rep S w u x) : Giv0 S w (.slice (some ⟨g, 0, none⟩) l c) (.own e row) [g]
inductive GivL (R : Value → AV → List Nat → Prop) : List Value → List AV → List Nat → Prop
  | nil : GivL R [] [] []
  | cons {v : Value} {x : AV} {vs : List Value} {xs : List AV} {O1 O2 : List Nat} (h : R v x O1) (t : GivL R vs xs O2) : GivL R (v :: vs) (x :: xs) (O1 ++ O2)
def Giv1 (S : Nat → Prop) (w : World) (v : Value) (x : AV) (O : List Nat) : Prop := Giv0 S w v x O ∨ ∃ vs cs, v = .agg (List.toArray vs) ∧ x = .agg cs ∧ GivL (Giv0 S w) vs cs O
def Giv (S : Nat → Prop) (w : World) (v : Value) (x : AV) (O : List Nat) : Prop := Giv1 S w v x O ∨ ∃ vs cs, v = .tuple (List.toArray vs) ∧ x = .tup cs ∧ GivL (Giv1 S w) vs cs O

theorem GivL.imp {R R' : Value → AV → List Nat → Prop} (hR : ∀ v x O, R v x O → R' v x O) {vs : List Value} {xs : List AV} {O : List Nat} (h : GivL R vs xs O) : GivL R' vs xs O := by
  induction h with
  | nil => exact .nil
  | cons h _ ih => exact .cons (hR _ _ _ h) ih
section
variable {S S' : Nat → Prop} {w : World}
theorem Giv0.mono (hS : ∀ b, S b → S' b) {v : Value} {x : AV} {O : List Nat} (h : Giv0 S w v x O) : Giv0 S' w v x O := by
  cases h with
  | rep h => exact .rep (h.mono fun b hb => ⟨hS b hb, rfl⟩)
  | nil e => exact .nil e
  | own g l c e row cur te fr hg hf hl hc hm hs h => exact .own g l c e row cur te fr hg hf hl hc hm hs fun j u x hu hx => (h j u x hu hx).mono fun b hb => ⟨hS b hb, rfl⟩
theorem Giv1.mono (hS : ∀ b, S b → S' b) {v : Value} {x : AV} {O : List Nat} (h : Giv1 S w v x O) : Giv1 S' w v x O := by
  rcases h with h | ⟨vs, cs, h1, h2, h3⟩
  · exact .inl (h.mono hS)
  · exact .inr ⟨vs, cs, h1, h2, h3.imp fun _ _ _ h => h.mono hS⟩
theorem Giv.mono (hS : ∀ b, S b → S' b) {v : Value} {x : AV} {O : List Nat} (h : Giv S w v x O) : Giv S' w v x O := by
  rcases h with h | ⟨vs, cs, h1, h2, h3⟩
  · exact .inl (h.mono hS)
  · exact .inr ⟨vs, cs, h1, h2, h3.imp fun _ _ _ h => h.mono hS⟩
end

/-- The contract: called with arguments that read as args, the function f returns what reads as r; it turns nothing that was there; of old memory the result reads only what the arguments read. -/
def Ret (P : Program) (f : FuncId) (args : List AV) (r : AV) : Prop :=
  ∀ (w : World) (S : Nat → Prop) (vs : List Value), (∀ b, S b → b < w.heap.size) → vs.length = args.length → (∀ (j : Nat) v x, vs[j]? = some v → args[j]? = some x → Rep S w v x) →
    Calls P f vs.toArray w fun e w' => ∃ v O, e = .returned v ∧ Below w.heap.size w w' ∧ O.Nodup ∧ (∀ g ∈ O, w.heap.size ≤ g ∧ g < w'.heap.size) ∧ Giv (fun b => S b ∨ (w.heap.size ≤ b ∧ b < w'.heap.size ∧ b ∉ O)) w' v r O

-- results that read nothing of the arguments

def valR (row : List AV) : Prop := ∀ x ∈ row, ∃ v, x = .val v
theorem valR_bytes (l : List UInt8) : valR (bytesA l) := by
  intro x hx; simp only [bytesA, List.mem_map] at hx; obtain ⟨c, _, rfl⟩ := hx; exact ⟨_, rfl⟩
theorem valR_words (l : List UInt64) : valR (wordsA l) := by
  intro x hx; simp only [wordsA, List.mem_map] at hx; obtain ⟨c, _, rfl⟩ := hx; exact ⟨_, rfl⟩
theorem valR_ints (l : List Int) : valR (intsA l) := by
  intro x hx; simp only [intsA, List.mem_map] at hx; obtain ⟨c, _, rfl⟩ := hx; exact ⟨_, rfl⟩
def flat0 : AV → Option (List Prop)
  | .val _ => some []
  | .nil => some []
  | .own _ row => some [valR row]
  | _ => none
def flatL (f : AV → Option (List Prop)) : List AV → Option (List Prop)
  | [] => some []
  | x :: l => match f x, flatL f l with | some a, some b => some (a ++ b) | _, _ => none
def flat1 : AV → Option (List Prop)
  | .agg cs => flatL flat0 cs
  | x => flat0 x
def flat : AV → Option (List Prop)
  | .tup cs => flatL flat1 cs
  | x => flat1 x
theorem allP_app {C D : List Prop} : AllP (C ++ D) ↔ AllP C ∧ AllP D := by
  induction C with
  | nil => simp [AllP]
  | cons p C ih => simp only [List.cons_append, AllP, ih, and_assoc]
section
variable {S S' : Nat → Prop} {w : World}
theorem flat0_ok {v : Value} {x : AV} {O : List Nat} {C : List Prop} (hf : flat0 x = some C) (hC : AllP C) (h : Giv0 S w v x O) : Giv0 S' w v x O := by
  cases h with
  | rep h => cases h with
    | val v => exact .rep (.val v)
    | nil => exact .rep .nil
    | _ => cases hf
  | nil e => exact .nil e
  | own g l c e row cur te fr hg hfr hl hc hm hs h =>
    refine .own g l c e row cur te fr hg hfr hl hc hm hs fun j u x hu hx => ?_
    have hv : valR row := by injection hf with hf; subst hf; exact hC.1
    obtain ⟨v', rfl⟩ := hv x (List.mem_of_getElem? hx)
    have := h j u _ hu hx
    cases this
    exact .val _
theorem flatL_ok {R R' : Value → AV → List Nat → Prop} {f : AV → Option (List Prop)} (hR : ∀ v x O C, f x = some C → AllP C → R v x O → R' v x O) {vs : List Value} {xs : List AV} {O : List Nat} (h : GivL R vs xs O) : ∀ C, flatL f xs = some C → AllP C → GivL R' vs xs O := by
  induction h with
  | nil => intro _ _ _; exact .nil
  | cons h _ ih =>
    intro C hf hC
    simp only [flatL] at hf
    split at hf
    · rename_i a b ha hb
      cases hf
      obtain ⟨h1, h2⟩ := allP_app.1 hC
      exact .cons (hR _ _ _ _ ha h1 h) (ih b hb h2)
    · cases hf
theorem flat1_ok {v : Value} {x : AV} {O : List Nat} {C : List Prop} (hf : flat1 x = some C) (hC : AllP C) (h : Giv1 S w v x O) : Giv1 S' w v x O := by
  rcases h with h | ⟨vs, cs, h1, rfl, h3⟩
  · by_cases hx : ∃ cs, x = .agg cs
    · obtain ⟨cs, rfl⟩ := hx
      cases h with
      | rep h => cases h with
        | agg vs _ hl h =>
          -- a struct all of whose cells are values
          right
          refine ⟨vs, cs, rfl, rfl, ?_⟩
          have key : ∀ (vs : List Value) (cs : List AV) (C : List Prop), vs.length = cs.length → (∀ (j : Nat) v c, vs[j]? = some v → cs[j]? = some c → Rep S w v c) → flatL flat0 cs = some C → AllP C → GivL (Giv0 S' w) vs cs [] := by
            intro vs cs
            induction cs generalizing vs with
            | nil => intro C hl _ _ _; cases vs with | nil => exact .nil | cons => simp at hl
            | cons c cs ih =>
              intro C hl hr hf hC
              cases vs with
              | nil => simp at hl
              | cons v vs =>
                simp only [flatL] at hf
                split at hf
                · rename_i a b ha hb
                  cases hf
                  obtain ⟨h1, h2⟩ := allP_app.1 hC
                  exact GivL.cons (O1 := []) (O2 := []) (flat0_ok ha h1 (.rep (hr 0 v c rfl rfl))) (ih vs b (by simpa using hl) (fun j v c hv hc => hr (j + 1) v c (by simpa using hv) (by simpa using hc)) hb h2)
                · cases hf
          exact key vs cs C hl h hf hC
    · have : flat1 x = flat0 x := by
        cases x with
        | agg cs => exact absurd ⟨cs, rfl⟩ hx
        | _ => rfl
      rw [this] at hf
      exact .inl (flat0_ok hf hC h)
  · exact .inr ⟨vs, cs, h1, rfl, flatL_ok (f := flat0) (R' := Giv0 S' w) (fun _ _ _ _ a b c => flat0_ok a b c) h3 C hf hC⟩
theorem flat_ok {v : Value} {x : AV} {O : List Nat} {C : List Prop} (hf : flat x = some C) (hC : AllP C) (h : Giv S w v x O) : Giv S' w v x O := by
  rcases h with h | ⟨vs, cs, h1, rfl, h3⟩
  · by_cases hx : ∃ cs, x = .tup cs
    · obtain ⟨cs, rfl⟩ := hx
      rcases h with h | ⟨vs, cs', h1, h2, h3⟩
      · cases h with
        | rep h => cases h with
          | tup vs _ hl h =>
            right
            refine ⟨vs, cs, rfl, rfl, ?_⟩
            have key : ∀ (vs : List Value) (cs : List AV) (C : List Prop), vs.length = cs.length → (∀ (j : Nat) v c, vs[j]? = some v → cs[j]? = some c → Rep S w v c) → flatL flat1 cs = some C → AllP C → GivL (Giv1 S' w) vs cs [] := by
              intro vs cs
              induction cs generalizing vs with
              | nil => intro C hl _ _ _; cases vs with | nil => exact .nil | cons => simp at hl
              | cons c cs ih =>
                intro C hl hr hf hC
                cases vs with
                | nil => simp at hl
                | cons v vs =>
                  simp only [flatL] at hf
                  split at hf
                  · rename_i a b ha hb
                    cases hf
                    obtain ⟨h1, h2⟩ := allP_app.1 hC
                    exact GivL.cons (O1 := []) (O2 := []) (flat1_ok ha h1 (.inl (.rep (hr 0 v c rfl rfl)))) (ih vs b (by simpa using hl) (fun j v c hv hc => hr (j + 1) v c (by simpa using hv) (by simpa using hc)) hb h2)
                  · cases hf
            exact key vs cs C hl h hf hC
      · cases h2
    · have : flat x = flat1 x := by
        cases x with
        | tup cs => exact absurd ⟨cs, rfl⟩ hx
        | _ => rfl
      rw [this] at hf
      exact .inl (flat1_ok hf hC h)
  · exact .inr ⟨vs, cs, h1, rfl, flatL_ok (f := flat1) (R' := Giv1 S' w) (fun _ _ _ _ a b c => flat1_ok a b c) h3 C hf hC⟩
end

-- what a call has handed out becomes the caller's own

def adLeaf (id : Nat) : AV → AV × List (Nat × Row)
  | .own e row => (.ref id, [(id, ⟨e, true, false, row⟩)])
  | x => (x, [])
def adList (f : Nat → AV → AV × List (Nat × Row)) (step : Nat) : Nat → List AV → List AV × List (Nat × Row)
  | _, [] => ([], [])
  | id, x :: l => ((f id x).1 :: (adList f step (id + step) l).1, (adList f step (id + step) l).2 ++ (f id x).2)
def adAgg (id : Nat) : AV → AV × List (Nat × Row)
  | .agg cs => (.agg (adList adLeaf 100000 (id + 100000) cs).1, (adList adLeaf 100000 (id + 100000) cs).2)
  | x => adLeaf id x
def adTop (d : Nat) : AV → AV × List (Nat × Row)
  | .tup cs => (.tup (adList adAgg 1000 (d + 1000) cs).1, (adList adAgg 1000 (d + 1000) cs).2)
  | x => adAgg d x

section
variable {S0 : Nat → Prop} {w0 w : World} {n : Nat} {a : Act}
/-- The state s' knows all that s knows, and reads as much. -/
def Ext (S0 : Nat → Prop) (w : World) (s s' : AS) (φ φ' : Nat → Option Nat) (O O' : List Nat) : Prop :=
  (∀ i y, infoOf s.H φ i = some y → infoOf s'.H φ' i = some y) ∧ (∀ b, Free S0 w φ O b → Free S0 w φ' O' b)
theorem Ext.den {s s' : AS} {φ φ' : Nat → Option Nat} {O O' : List Nat} (h : Ext S0 w s s' φ φ' O O') {v : Value} {x : AV} (hd : Den (infoOf s.H φ) (Free S0 w φ O) w v x) : Den (infoOf s'.H φ') (Free S0 w φ' O') w v x :=
  hd.mono h.1 (fun b hb => ⟨h.2 b hb, rfl⟩) (fun _ _ _ _ _ => rfl)
theorem Ext.trans {s s1 s2 : AS} {φ φ1 φ2 : Nat → Option Nat} {O O1 O2 : List Nat} (h : Ext S0 w s s1 φ φ1 O O1) (k : Ext S0 w s1 s2 φ1 φ2 O1 O2) : Ext S0 w s s2 φ φ2 O O2 :=
  ⟨fun i y hi => k.1 i y (h.1 i y hi), fun b hb => k.2 b (h.2 b hb)⟩
/-- One way of taking over. -/
def Takes (S0 : Nat → Prop) (w0 w : World) (n : Nat) (a : Act) (R : (Nat → Prop) → Value → AV → List Nat → Prop) (f : Nat → AV → AV × List (Nat × Row)) : Prop :=
  ∀ (s : AS) (φ : Nat → Option Nat) (O1 O : List Nat) (v : Value) (x : AV) (id : Nat), SimO S0 w0 n (O1 ++ O) s a w φ → R (Free S0 w φ (O1 ++ O)) v x O1 → (O1 ++ O).Nodup → (∀ g ∈ O1, w0.heap.size ≤ g ∧ g < w.heap.size) → (∀ i ∈ (f id x).2.map (·.1), look s.H i = none) → ((f id x).2.map (·.1)).Nodup →
    ∃ φ', SimO S0 w0 n O ⟨s.F, (f id x).2 ++ s.H⟩ a w φ' ∧ Den (infoOf ((f id x).2 ++ s.H) φ') (Free S0 w φ' O) w v (f id x).1 ∧ Ext S0 w s ⟨s.F, (f id x).2 ++ s.H⟩ φ φ' (O1 ++ O) O
theorem takes_leaf : Takes S0 w0 w n a (fun S => Giv0 S w) adLeaf := by
  intro s φ O1 O v x id h hg hnd hrg hfr _
  cases hg with
  | rep hrep =>
    have hx : adLeaf id x = (x, []) := by
      cases hrep <;> rfl
    rw [hx]
    exact ⟨φ, h, .rep hrep, fun _ _ h => h, fun _ h => h⟩
  | nil e =>
    have hid : look s.H id = none := hfr id (by simp [adLeaf])
    have h1 := h.adopt_nil (id := id) (r := ⟨e, true, false, []⟩) hid rfl
    refine ⟨φ, h1, .refnil id e ?_, fun i y hi => ?_, fun _ h => h⟩
    · show infoOf ((id, ⟨e, true, false, []⟩) :: s.H) φ id = _
      rw [info_of (r := ⟨e, true, false, []⟩) (by rw [look_cons, if_pos rfl]), h.only id hid]; rfl
    · obtain ⟨e', m, b⟩ := y
      obtain ⟨q, hl, h1, h2, h3⟩ := info_some hi
      show infoOf ((id, _) :: s.H) φ i = _
      have hne : id ≠ i := fun e => by subst e; rw [hid] at hl; cases hl
      rw [info_of (r := q) (by rw [look_cons, if_neg hne, hl]), h1, h2, h3]
  | own g l c e row cur te fr hg hf hl hc hm hs hrep =>
    have hid : look s.H id = none := hfr id (by simp [adLeaf])
    have hgO : g ∉ O := by
      have := hnd
      simp only [List.cons_append, List.nil_append, List.nodup_cons] at this
      exact this.1
    have h1 := SimO.adopt (g := g) (id := id) (r := ⟨e, true, false, row⟩) h (hrg g (by simp)).1 (hrg g (by simp)).2 hgO hid ⟨cur, te, fr, hg, hf, by simp only [hl, hs]; exact Nat.mul_le_mul_left _ hc, fun h => (by cases h), fun j u x hu hx => by show Rep _ _ _ _; exact hrep j u x hu hx⟩
    refine ⟨_, h1, .ref id e row.length g l c ?_ hl hc hm (by unfold cellsLen; rw [hg]; exact hs), fun i y hi => ?_, fun b hb => (free_bind (h.only id hid) b).1 hb⟩
    · show infoOf ((id, ⟨e, true, false, row⟩) :: s.H) _ id = _
      rw [info_of (r := ⟨e, true, false, row⟩) (by rw [look_cons, if_pos rfl])]
      unfold bind_; rw [if_pos rfl]
    · obtain ⟨e', m, b⟩ := y
      obtain ⟨q, hl, h1, h2, h3⟩ := info_some hi
      show infoOf ((id, _) :: s.H) _ i = _
      have hne : id ≠ i := fun e => by subst e; rw [hid] at hl; cases hl
      rw [info_of (r := q) (by rw [look_cons, if_neg hne, hl]), h1, h2]
      unfold bind_; rw [if_neg (Ne.symm hne), h3]
theorem takes_list {R : (Nat → Prop) → Value → AV → List Nat → Prop} (hRm : ∀ S S' v x O, (∀ b, S b → S' b) → R S v x O → R S' v x O) {f : Nat → AV → AV × List (Nat × Row)} (hf : Takes S0 w0 w n a R f) (step : Nat) : ∀ (xs : List AV) (vs : List Value) (s : AS) (φ : Nat → Option Nat) (O1 O : List Nat) (id : Nat), SimO S0 w0 n (O1 ++ O) s a w φ → GivL (R (Free S0 w φ (O1 ++ O))) vs xs O1 → (O1 ++ O).Nodup → (∀ g ∈ O1, w0.heap.size ≤ g ∧ g < w.heap.size) → (∀ i ∈ (adList f step id xs).2.map (·.1), look s.H i = none) → ((adList f step id xs).2.map (·.1)).Nodup →
    ∃ φ', SimO S0 w0 n O ⟨s.F, (adList f step id xs).2 ++ s.H⟩ a w φ' ∧ vs.length = (adList f step id xs).1.length ∧ (∀ (j : Nat) v c, vs[j]? = some v → (adList f step id xs).1[j]? = some c → Den (infoOf ((adList f step id xs).2 ++ s.H) φ') (Free S0 w φ' O) w v c) ∧ Ext S0 w s ⟨s.F, (adList f step id xs).2 ++ s.H⟩ φ φ' (O1 ++ O) O
  | [], vs, s, φ, O1, O, id, h, hg, hnd, hrg, hfr, hn => by
    cases hg
    exact ⟨φ, h, rfl, fun j v c hv => by simp at hv, fun _ _ h => h, fun _ h => h⟩
  | x :: xs, vs, s, φ, O1, O, id, h, hg, hnd, hrg, hfr, hn => by
    cases hg with
    | cons hx ht =>
      rename_i v vs Oa Ob
      rw [List.append_assoc] at h hnd hx ht
      simp only [adList, List.map_append] at hfr hn ⊢
      obtain ⟨φ1, h1, hd1, he1⟩ := hf s φ Oa (Ob ++ O) v x id h hx hnd (fun g hg => hrg g (by simp [hg])) (fun i hi => hfr i (by simp [hi])) (List.nodup_append.1 hn).2.1
      have hnd2 : (Ob ++ O).Nodup := (List.nodup_append.1 hnd).2.1
      obtain ⟨φ2, h2, hl2, hd2, he2⟩ := takes_list hRm hf step xs vs ⟨s.F, (f id x).2 ++ s.H⟩ φ1 Ob O (id + step) h1 (ht.imp fun v x O hR => hRm _ _ v x O (fun b hb => he1.2 b hb) hR) hnd2 (fun g hg => hrg g (by simp [hg])) (fun i hi => by
        rw [look_append]
        have h3 : look (f id x).2 i = none := by
          have hno : i ∉ (f id x).2.map (·.1) := fun hm => (List.nodup_append.1 hn).2.2 i hi i hm rfl
          have key : ∀ (l : List (Nat × Row)), i ∉ l.map (·.1) → look l i = none := by
            intro l
            induction l with
            | nil => intro _; rfl
            | cons p l ih =>
              intro hm
              obtain ⟨k, r⟩ := p
              simp only [List.map_cons, List.mem_cons, not_or] at hm
              rw [look_cons, if_neg (Ne.symm hm.1), ih hm.2]
          exact key _ hno
        rw [h3, hfr i (by simp [hi])]; rfl) (List.nodup_append.1 hn).1
      have e1 : (adList f step (id + step) xs).2 ++ ((f id x).2 ++ s.H) = ((adList f step (id + step) xs).2 ++ (f id x).2) ++ s.H := by rw [List.append_assoc]
      rw [e1] at h2 hd2 he2
      rw [List.append_assoc Oa Ob O]
      refine ⟨φ2, h2, by simp [hl2], fun j v' c hv hc => ?_, he1.trans he2⟩
      cases j with
      | zero => simp at hv hc; subst hv; subst hc; exact he2.den hd1
      | succ j => exact hd2 j v' c (by simpa using hv) (by simpa using hc)
theorem takes_agg : Takes S0 w0 w n a (fun S => Giv1 S w) adAgg := by
  intro s φ O1 O v x id h hg hnd hrg hfr hn
  rcases hg with hg | ⟨vs, cs, rfl, rfl, hL⟩
  · by_cases hx : ∃ cs, x = .agg cs
    · obtain ⟨cs, rfl⟩ := hx
      cases hg with
      | rep hrep => cases hrep with
        | agg vs _ hl hrep =>
          have hL : GivL (Giv0 (Free S0 w φ ([] ++ O)) w) vs cs [] := by
            have key : ∀ (vs : List Value) (cs : List AV), vs.length = cs.length → (∀ (j : Nat) v c, vs[j]? = some v → cs[j]? = some c → Rep (Free S0 w φ ([] ++ O)) w v c) → GivL (Giv0 (Free S0 w φ ([] ++ O)) w) vs cs [] := by
              intro vs cs
              induction cs generalizing vs with
              | nil => intro hl _; cases vs with | nil => exact .nil | cons => simp at hl
              | cons c cs ih =>
                intro hl hr
                cases vs with
                | nil => simp at hl
                | cons v vs => exact GivL.cons (O1 := []) (O2 := []) (.rep (hr 0 v c rfl rfl)) (ih vs (by simpa using hl) fun j v c hv hc => hr (j + 1) v c (by simpa using hv) (by simpa using hc))
            exact key vs cs hl hrep
          obtain ⟨φ', h1, h2, h3, h4⟩ := takes_list (R := fun S => Giv0 S w) (fun S S' v x O hS h => h.mono hS) takes_leaf 100000 cs vs s φ [] O (id + 100000) h hL hnd hrg hfr hn
          exact ⟨φ', h1, .agg vs _ h2 h3, h4⟩
    · have : adAgg id x = adLeaf id x := by
        cases x with
        | agg cs => exact absurd ⟨cs, rfl⟩ hx
        | _ => rfl
      rw [this] at hfr hn ⊢
      exact takes_leaf s φ O1 O v x id h hg hnd hrg hfr hn
  · obtain ⟨φ', h1, h2, h3, h4⟩ := takes_list (R := fun S => Giv0 S w) (fun S S' v x O hS h => h.mono hS) takes_leaf 100000 cs vs s φ O1 O (id + 100000) h hL hnd hrg hfr hn
    exact ⟨φ', h1, .agg vs _ h2 h3, h4⟩
theorem takes_top : Takes S0 w0 w n a (fun S => Giv S w) adTop := by
  intro s φ O1 O v x id h hg hnd hrg hfr hn
  rcases hg with hg | ⟨vs, cs, rfl, rfl, hL⟩
  · by_cases hx : ∃ cs, x = .tup cs
    · obtain ⟨cs, rfl⟩ := hx
      rcases hg with hg | ⟨vs, cs', h1, h2, h3⟩
      · cases hg with
        | rep hrep => cases hrep with
          | tup vs _ hl hrep =>
            have hL : GivL (Giv1 (Free S0 w φ ([] ++ O)) w) vs cs [] := by
              have key : ∀ (vs : List Value) (cs : List AV), vs.length = cs.length → (∀ (j : Nat) v c, vs[j]? = some v → cs[j]? = some c → Rep (Free S0 w φ ([] ++ O)) w v c) → GivL (Giv1 (Free S0 w φ ([] ++ O)) w) vs cs [] := by
                intro vs cs
                induction cs generalizing vs with
                | nil => intro hl _; cases vs with | nil => exact .nil | cons => simp at hl
                | cons c cs ih =>
                  intro hl hr
                  cases vs with
                  | nil => simp at hl
                  | cons v vs => exact GivL.cons (O1 := []) (O2 := []) (.inl (.rep (hr 0 v c rfl rfl))) (ih vs (by simpa using hl) fun j v c hv hc => hr (j + 1) v c (by simpa using hv) (by simpa using hc))
              exact key vs cs hl hrep
            obtain ⟨φ', h1, h2, h3, h4⟩ := takes_list (R := fun S => Giv1 S w) (fun S S' v x O hS h => h.mono hS) takes_agg 1000 cs vs s φ [] O (id + 1000) h hL hnd hrg hfr hn
            exact ⟨φ', h1, .tup vs _ h2 h3, h4⟩
      · cases h2
    · have : adTop id x = adAgg id x := by
        cases x with
        | tup cs => exact absurd ⟨cs, rfl⟩ hx
        | _ => rfl
      rw [this] at hfr hn ⊢
      exact takes_agg s φ O1 O v x id h hg hnd hrg hfr hn
  · obtain ⟨φ', h1, h2, h3, h4⟩ := takes_list (R := fun S => Giv1 S w) (fun S S' v x O hS h => h.mono hS) takes_agg 1000 cs vs s φ O1 O (id + 1000) h hL hnd hrg hfr hn
    exact ⟨φ', h1, .tup vs _ h2 h3, h4⟩

def retireAll : AS → List Nat → AS
  | s, [] => s
  | s, i :: l => retireAll (retire i s) l
theorem retireAll_ok : ∀ (l : List Nat) (s : AS) (φ : Nat → Option Nat) (O : List Nat), SimO S0 w0 n O s a w φ → ∃ φ', SimO S0 w0 n O (retireAll s l) a w φ' ∧ (∀ b, Free S0 w φ O b → Free S0 w φ' O b) ∧ (∀ i, look s.H i = none ∨ i ∈ l → look (retireAll s l).H i = none)
  | [], s, φ, O, h => ⟨φ, h, fun _ h => h, fun i hi => hi.resolve_right (by simp)⟩
  | i :: l, s, φ, O, h => by
    have h1 : SimO S0 w0 n O (retire i s) a w (erase φ i) := by
      cases hφ : φ i with
      | none => exact h.retire_ i O (by rw [hφ])
      | some g => exact (h.retire_ i (g :: O) (by rw [hφ])).free_
    obtain ⟨φ', h2, h3, h4⟩ := retireAll_ok l _ _ _ h1
    refine ⟨φ', h2, fun b hb => h3 b ⟨hb.1, hb.2.1, fun j hj => ?_, hb.2.2.2⟩, fun j hj => h4 j ?_⟩
    · unfold erase at hj
      split at hj
      · cases hj
      · exact hb.2.2.1 j hj
    · by_cases e : j = i
      · subst e; exact .inl (look_retire_none j)
      · rcases hj with hj | hj
        · exact .inl (look_retire_other i j hj)
        · rcases List.mem_cons.1 hj with h | h
          · exact absurd h e
          · exact .inr h
theorem awaitAll_ok : ∀ (O' O : List Nat) (s : AS) (φ : Nat → Option Nat), SimO S0 w0 n O s a w φ → (∀ g ∈ O', w.heap.size ≤ g) → SimO S0 w0 n (O' ++ O) s a w φ
  | [], O, s, φ, h, _ => h
  | g :: O', O, s, φ, h, hg => (awaitAll_ok O' O s φ h fun g hm => hg g (by simp [hm])).await g (hg g (by simp))
end

-- the call

def nodupB : List Nat → Bool
  | [] => true
  | i :: l => match l.any (Nat.beq i) with | true => false | false => nodupB l
theorem nodupB_ok : ∀ {l : List Nat}, nodupB l = true → l.Nodup
  | [], _ => List.nodup_nil
  | i :: l, h => by
    simp only [nodupB] at h
    split at h
    · cases h
    · rename_i hn
      rw [List.nodup_cons]
      refine ⟨fun hm => ?_, nodupB_ok h⟩
      have : l.any (Nat.beq i) = true := List.any_eq_true.2 ⟨i, hm, Nat.beq_refl i⟩
      rw [hn] at this; cases this
def viewsL (s : AS) : List AV → Option (List AV)
  | [] => some []
  | x :: l => match view s x, viewsL s l with | some y, some m => some (y :: m) | _, _ => none
def readyA : AV → Bool
  | .agg cs => plainL cs
  | .arr _ => true
  | x => plain0 x
def readyL : List AV → Bool
  | [] => true
  | x :: l => match readyA x with | true => readyL l | false => false
/-- Is the function one of the program's own, with a text? -/
def isEnter (P : Program) (f : FuncId) : Bool := match P.funcs[f]? with | some fn => fn.body.isSome && !(fn.name == "runtime.NumGoroutine") | none => false
theorem isEnter_ok {P : Program} {f : FuncId} (h : isEnter P f = true) (args : Array Value) (w : World) : (callFunc f args).run P w = .ok (.enter f args) w := by
  unfold isEnter at h
  split at h
  · rename_i fn hf
    simp only [Bool.and_eq_true, Bool.not_eq_true', Option.isSome_iff_exists] at h
    obtain ⟨⟨c, hc⟩, hn⟩ := h
    have hn' : ¬ fn.name = "runtime.NumGoroutine" := by simpa using hn
    simp [callFunc, hf, hc, hn']
  · cases h
def callee (s : AS) : Callee → Option FuncId
  | .value (.func f) => some f
  | .value x => (match opd s x with | .val (.func (.func f) ⟨[]⟩ ⟨[]⟩) => some f | _ => none)
  | _ => none
def evCall (P : Program) (n : Nat) (s : AS) (d : Option Nat) (c : Callee) (args : List Operand) (h : Hint) : Option (AS × List Prop) :=
  match callee s c, h.av with
  | some f, some r => (match isEnter P f with
    | true => (match h.b with
      | true => (match viewsL s (args.map (opd s)), flat r, d with
        | some vs, some C, some d => (match nodupB ((adTop d r).2.map (·.1)), putD n ⟨(retireAll s ((adTop d r).2.map (·.1))).F, (adTop d r).2 ++ (retireAll s ((adTop d r).2.map (·.1))).H⟩ (some d) (adTop d r).1 with
          | true, some s' => some (s', Ret P f vs r :: C)
          | _, _ => none)
        | some vs, some C, none => some (s, Ret P f vs r :: C)
        | _, _, _ => none)
      | false => (match thawAll s ((args.map (opd s)).flatMap ids1) with
        | some s1 => (match readyL (args.map (opd s1)), d with
          | true, some d => (match nodupB ((adTop d r).2.map (·.1)), putD n ⟨(retireAll s1 ((adTop d r).2.map (·.1))).F, (adTop d r).2 ++ (retireAll s1 ((adTop d r).2.map (·.1))).H⟩ (some d) (adTop d r).1 with
            | true, some s' => some (s', [Ret P f (args.map (opd s1)) r])
            | _, _ => none)
          | true, none => some (s1, [Ret P f (args.map (opd s1)) r])
          | _, _ => none)
        | none => none))
    | false => none)
  | _, _ => none
section
variable {P : Program} {n : Nat} {s : AS} {o : Oper} {h : Hint} {q : AS × List Prop}
theorem viewsL_ok {S0 : Nat → Prop} {w0 w : World} {O : List Nat} {a : Act} {φ : Nat → Option Nat} (hs : SimO S0 w0 n O s a w φ) : ∀ (xs : List Operand) (ys : List AV), viewsL s (xs.map (opd s)) = some ys → ys.length = xs.length ∧ ∀ (j : Nat) v y, (xs.map a.eval)[j]? = some v → ys[j]? = some y → Rep (fun b => b < w.heap.size) w v y
  | [], ys, h => by cases h; exact ⟨rfl, fun j v y hv => by simp at hv⟩
  | x :: xs, ys, h => by
    simp only [List.map_cons, viewsL] at h
    split at h
    · rename_i y m hy hm
      cases h
      obtain ⟨h1, h2⟩ := viewsL_ok hs xs m hm
      refine ⟨by simp [h1], fun j v y' hv hy' => ?_⟩
      cases j with
      | zero => simp at hv hy'; subst hv; subst hy'; exact view_ok hs (hs.opd x) hy
      | succ j => exact h2 j v y' (by simpa using hv) (by simpa using hy')
    · cases h
theorem readyA_ok {I : Info} {S : Nat → Prop} {w : World} {v : Value} {x : AV} (hd : Den I S w v x) (hr : readyA x = true) : Rep S w v x := by
  by_cases hc : ∃ cs, x = .agg cs
  · obtain ⟨cs, rfl⟩ := hc
    obtain ⟨vs, rfl, hl, hd⟩ := den_agg hd
    exact .agg vs cs hl fun j v c hv hc => (plain0_rep (hd j v c hv hc) (plainL_at hr hc)).1
  · by_cases ha : ∃ cs, x = .arr cs
    · obtain ⟨cs, rfl⟩ := ha
      obtain ⟨vs, rfl, hl, hd⟩ := den_arr hd
      exact .arr vs cs hl hd
    · have : readyA x = plain0 x := by
        cases x with
        | agg cs => exact absurd ⟨cs, rfl⟩ hc
        | arr cs => exact absurd ⟨cs, rfl⟩ ha
        | _ => rfl
      rw [this] at hr
      exact (plain0_rep hd hr).1
theorem readyL_at : ∀ {l : List AV} {j : Nat} {x : AV}, readyL l = true → l[j]? = some x → readyA x = true
  | [], j, x, _, h => by simp at h
  | y :: l, j, x, hp, h => by
    simp only [readyL] at hp
    split at hp
    · rename_i hy
      cases j with
      | zero => simp at h; subst h; exact hy
      | succ j => exact readyL_at hp (by simpa using h)
    · cases hp
theorem callee_ok {S0 : Nat → Prop} {w0 w : World} {O : List Nat} {a : Act} {φ : Nat → Option Nat} (hs : SimO S0 w0 n O s a w φ) {c : Callee} {f : FuncId} (hc : callee s c = some f) {xs : Array Operand} {ts : Array TypeId} (ho : o.op = .call ⟨c, xs, ts⟩) (hE : isEnter P f = true) :
    (execOp a.eval o).run P w = .ok (.enter f (xs.map a.eval)) w := by
  have key : ∃ x, c = .value x ∧ a.eval x = .func (.func f) #[] #[] := by
    unfold callee at hc
    split at hc
    · cases hc; exact ⟨_, rfl, rfl⟩
    · rename_i x _
      split at hc
      · rename_i f' he
        cases hc
        exact ⟨x, rfl, den_val (he ▸ hs.opd x)⟩
      · cases hc
    · cases hc
  obtain ⟨x, rfl, hx⟩ := key
  unfold execOp
  simp [ho, resolve, hx, Deferred.ofValue, invoke, isEnter_ok hE]
/-- What is behind a call. -/
theorem call_wp {S0 : Nat → Prop} {w0 w : World} {a : Act} {φ : Nat → Option Nat} {Q : Exit → Act → World → Prop} (hs : SimO S0 w0 n [] s a w φ) {f : FuncId} {xs : Array Operand} (hrun : (execOp a.eval o).run P w = .ok (.enter f (xs.map a.eval)) w) {S : Nat → Prop} {args : List AV} {r : AV} (hret : Ret P f args r) (hS : ∀ b, S b → b < w.heap.size) (hl : args.length = xs.toList.length) (hargs : ∀ (j : Nat) v x, (xs.toList.map a.eval)[j]? = some v → args[j]? = some x → Rep S w v x)
    (hG : ∀ w' v O, Below w.heap.size w w' → (∀ g ∈ O, w.heap.size ≤ g ∧ g < w'.heap.size) → Giv (fun b => S b ∨ (w.heap.size ≤ b ∧ b < w'.heap.size ∧ b ∉ O)) w' v r O → Giv (Free S0 w' φ O) w' v r O) {s' : AS}
    (hd : (∃ d, o.dst = some d ∧ nodupB ((adTop d r).2.map (·.1)) = true ∧ putD n ⟨(retireAll s ((adTop d r).2.map (·.1))).F, (adTop d r).2 ++ (retireAll s ((adTop d r).2.map (·.1))).H⟩ (some d) (adTop d r).1 = some s') ∨ (o.dst = none ∧ s' = s)) :
    o.wp P a w (fun a' w' => Sim S0 w0 n s' a' w') Q := by
  unfold Oper.wp
  rw [hrun]
  have hcall := hret w S (xs.toList.map a.eval) hS (by simp [hl]) hargs
  have e : (xs.toList.map a.eval).toArray = xs.map a.eval := by apply Array.ext'; simp
  rw [e] at hcall
  refine hcall.mono ?_
  rintro en w' ⟨v, O, rfl, hb, hnd, hrg, hgiv⟩
  show Sim S0 w0 n s' (a.put o.dst v) w'
  have hgiv := hG w' v O hb hrg hgiv
  have h1 := awaitAll_ok O [] s φ hs (fun g hg => (hrg g hg).1)
  rw [List.append_nil] at h1
  have h2 := h1.touch (fun g hg => Nat.le_trans hs.bel.size (hrg g hg).1) hb.os hb.tape hb.output hb.size (fun b hb1 _ => hb.block b hb1)
  rcases hd with ⟨d, hd, hnb, hput⟩ | ⟨hd, rfl⟩
  · obtain ⟨φ2, h3, hF, hnone⟩ := retireAll_ok ((adTop d r).2.map (·.1)) s φ O h2
    have h3' : SimO S0 w0 n (O ++ []) (retireAll s ((adTop d r).2.map (·.1))) a w' φ2 := by rw [List.append_nil]; exact h3
    obtain ⟨φ3, h4, h5, h6⟩ := takes_top (retireAll s ((adTop d r).2.map (·.1))) φ2 O [] v r d h3' (by rw [List.append_nil]; exact hgiv.mono hF) (by rw [List.append_nil]; exact hnd) (fun g hg => ⟨Nat.le_trans hs.bel.size (hrg g hg).1, (hrg g hg).2⟩) (fun i hi => hnone i (.inr hi)) (nodupB_ok hnb)
    rw [hd]
    exact ⟨φ3, putD_ok h4 h5 hput⟩
  · rw [hd]
    have key : ∀ (O : List Nat), SimO S0 w0 n O s' a w' φ → SimO S0 w0 n [] s' a w' φ := by
      intro O
      induction O with
      | nil => exact fun h => h
      | cons g O ih => exact fun h => ih h.free_
    have h3 := key O h2
    exact ⟨φ, ⟨h3.tsz, h3.dfr, h3.bel, h3.slots, h3.rows, h3.only, h3.inj, h3.rng, h3.apart, h3.new⟩⟩
theorem evCall_ok {c : Callee} {xs : Array Operand} {ts : Array TypeId} (ho : o.op = .call ⟨c, xs, ts⟩) (hr : evCall P n s o.dst c xs.toList h = some q) : OpOK P n s o q.1 q.2 := by
  intro hC S0 w0 a w Q ⟨φ, hs⟩
  unfold evCall at hr
  split at hr
  · rename_i f r hc _
    split at hr
    · rename_i hE
      split at hr
      · -- a result that reads nothing of the arguments
        split at hr
        · rename_i vs C d hv hfl hd
          split at hr
          · rename_i s' hn hp
            cases hr
            obtain ⟨hret, hC⟩ := hC
            obtain ⟨hl, hrep⟩ := viewsL_ok hs _ _ hv
            exact call_wp hs (callee_ok hs hc ho hE) hret (S := fun b => b < w.heap.size) (fun _ h => h) hl hrep (fun w' v O _ _ hg => flat_ok hfl hC hg) (.inl ⟨d, hd, hn, hp⟩)
          · cases hr
        · rename_i vs C hv hfl hd
          cases hr
          obtain ⟨hret, hC⟩ := hC
          obtain ⟨hl, hrep⟩ := viewsL_ok hs _ _ hv
          exact call_wp hs (callee_ok hs hc ho hE) hret (S := fun b => b < w.heap.size) (fun _ h => h) hl hrep (fun w' v O _ _ hg => flat_ok hfl hC hg) (.inr ⟨hd, rfl⟩)
        · cases hr
      · split at hr
        · rename_i s1 hth
          obtain ⟨φ1, hs1⟩ := thawAll_ok _ _ _ _ hth hs
          have rdy : readyL (xs.toList.map (opd s1)) = true → ∀ (j : Nat) v x, (xs.toList.map a.eval)[j]? = some v → (xs.toList.map (opd s1))[j]? = some x → Rep (Free S0 w φ1 []) w v x := by
            intro hrd j v x hv hx
            have hrx := readyL_at hrd hx
            rw [List.getElem?_map] at hv hx
            cases hj : xs.toList[j]? with
            | none => rw [hj] at hv; cases hv
            | some y =>
              rw [hj] at hv hx
              injection hv with hv; injection hx with hx; subst hv; subst hx
              exact readyA_ok (hs1.opd y) hrx
          have hG : ∀ w' v O, Below w.heap.size w w' → (∀ g ∈ O, w.heap.size ≤ g ∧ g < w'.heap.size) → Giv (fun b => Free S0 w φ1 [] b ∨ (w.heap.size ≤ b ∧ b < w'.heap.size ∧ b ∉ O)) w' v r O → Giv (Free S0 w' φ1 O) w' v r O := by
            intro w' v O hb hrg hg
            refine hg.mono fun b hb' => ?_
            rcases hb' with hb' | ⟨h1, h2, h3⟩
            · exact ⟨by have := hb'.1; have := hb.size; omega, fun hm => by have := (hrg b hm).1; have := hb'.1; omega, hb'.2.2⟩
            · exact ⟨h2, h3, fun i hi => by have := (hs1.rng i b hi).2; omega, hs1.new b (by have := hs1.bel.size; omega)⟩
          split at hr
          · rename_i d hrd hd
            split at hr
            · rename_i s' hn hp
              cases hr
              obtain ⟨hret, -⟩ := hC
              exact call_wp hs1 (callee_ok hs hc ho hE) hret (fun b hb => hb.1) (by simp) (rdy hrd) hG (.inl ⟨d, hd, hn, hp⟩)
            · cases hr
          · rename_i hrd hd
            cases hr
            obtain ⟨hret, -⟩ := hC
            exact call_wp hs1 (callee_ok hs hc ho hE) hret (fun b hb => hb.1) (by simp) (rdy hrd) hG (.inr ⟨hd, rfl⟩)
          · cases hr
        · cases hr
    · cases hr
  · cases hr
end
end Go.Proofs.Ytbehdllomepkdaa
