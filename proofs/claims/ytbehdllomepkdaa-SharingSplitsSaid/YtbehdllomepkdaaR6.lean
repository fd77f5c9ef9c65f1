/-
  Parts of structs, structs put together, lengths; all plain operations in one. Over any program. No condition.
-/
import Derived.Test.YtbehdllomepkdaaR5
namespace Go.Proofs.Ytbehdllomepkdaa
open Go.RowKit

section
variable {P : Program} {s : AS} {o : Oper} {h : Hint} {r : AV × List Prop}

/-- The part of a struct at a cell. -/
def evPart (P : Program) (t : TypeId) (cs : List AV) (off : Nat) (h : Hint) : Option (AV × List Prop) :=
  match sizeT P t, P.underlying t with
  | some sz, some d =>
    (match d with
    | .struct _ | .array _ _ => (match Nat.beq ((cs.drop off).take sz).length sz with | true => some (.agg ((cs.drop off).take sz), []) | false => none)
    | _ => (match h.av with
      | some y => some (y, [cs[off]? = some y])
      | none => (match cs[off]? with | some y => some (y, []) | none => none)))
  | _, _ => none
theorem evPart_ok {I : Info} {S : Nat → Prop} {w : World} {t : TypeId} {cs : List AV} {off : Nat} (hr : evPart P t cs off h = some r) (hC : AllP r.2) (vs : List Value) (hl : vs.length = cs.length) (hd : ∀ (j : Nat) v c, vs[j]? = some v → cs[j]? = some c → Den I S w v c) :
    ∃ v, (part t vs.toArray off).run P w = .ok v w ∧ Den I S w v r.1 := by
  unfold evPart at hr
  split at hr
  · rename_i sz d hsz hu
    have hz : (sizeOf t).run P w = .ok sz w := run_sizeOf hsz
    have agg : isAggT P t = true → Nat.beq ((cs.drop off).take sz).length sz = true → r = (.agg ((cs.drop off).take sz), []) → ∃ v, (part t vs.toArray off).run P w = .ok v w ∧ Den I S w v r.1 := by
      intro ha hb hr
      subst hr
      have hlen := Nat.eq_of_beq_eq_true hb
      rw [List.length_take, List.length_drop] at hlen
      refine ⟨.agg (vs.toArray.extract off (off + sz)), ?_, ?_⟩
      · simp [part, run_isAgg ⟨d, hu⟩, ha, hz]
      · have e : vs.toArray.extract off (off + sz) = ((vs.drop off).take sz).toArray := by
          simp [List.extract_eq_take_drop]
        rw [e]
        exact .agg _ _ (by rw [List.length_take, List.length_drop, List.length_take, List.length_drop]; omega) fun j v c hv hc => hd (off + j) v c (drop_take_get _ _ _ _ _ hv) (drop_take_get _ _ _ _ _ hc)
    have one : ∀ y, isAggT P t = false → cs[off]? = some y → ∃ v, (part t vs.toArray off).run P w = .ok v w ∧ Den I S w v y := by
      intro y ha hy
      have hlt : off < vs.length := by have := (List.getElem?_eq_some_iff.1 hy).1; omega
      have hv : vs[off]? = some vs[off] := List.getElem?_eq_getElem hlt
      refine ⟨vs[off], ?_, hd off _ y hv hy⟩
      simp [part, run_isAgg ⟨d, hu⟩, ha, hlt]
    split at hr
    · have ha : isAggT P t = true := by unfold isAggT; rw [hu]
      split at hr
      · rename_i hb; injection hr with hr; exact agg ha hb hr.symm
      · cases hr
    · have ha : isAggT P t = true := by unfold isAggT; rw [hu]
      split at hr
      · rename_i hb; injection hr with hr; exact agg ha hb hr.symm
      · cases hr
    · rename_i hn1 hn2
      have ha : isAggT P t = false := by
        unfold isAggT; rw [hu]
        cases d <;> first | rfl | exact absurd rfl (hn1 _) | exact absurd rfl (hn2 _ _)
      split at hr
      · injection hr with hr; subst hr
        exact one _ ha hC.1
      · split at hr
        · rename_i y hy
          injection hr with hr; subst hr
          exact one _ ha hy
        · cases hr
  · cases hr

def evField (P : Program) (t : TypeId) (x : AV) (f : Nat) (h : Hint) : Option (AV × List Prop) :=
  match P.underlying t, x with
  | some (.struct fields), .agg cs => (match fields[f]? with | some fd => evPart P fd.type cs fd.offset h | none => none)
  | _, _ => none
theorem evField_ok {t : TypeId} {x : Operand} {f : Nat} (ho : o.op = .field t x f) (hr : evField P t (opd s x) f h = some r) : PlainOK P s o r.1 r.2 := by
  intro hC S0 w0 n O a w φ hs
  have hx := hs.opd x
  unfold evField at hr
  split at hr
  · rename_i fields cs hu he
    split at hr
    · rename_i fd hf
      rw [he] at hx
      obtain ⟨vs, hv, hl, hd⟩ := den_agg hx
      obtain ⟨v, h1, h2⟩ := evPart_ok hr hC vs hl hd
      refine ⟨v, ?_, h2⟩
      unfold execOp
      simp [ho, Instr.field, run_underlying hu, hf, hv, asAgg, h1]
    · cases hr
  · cases hr

def evExtract (x : AV) (i : Nat) : Option (AV × List Prop) :=
  match x with
  | .tup cs => (match cs[i]? with | some y => some (y, []) | none => none)
  | _ => none
theorem evExtract_ok {x : Operand} {i : Nat} (ho : o.op = .extract x i) (hr : evExtract (opd s x) i = some r) : PlainOK P s o r.1 r.2 := by
  intro hC S0 w0 n O a w φ hs
  have hx := hs.opd x
  unfold evExtract at hr
  split at hr
  · rename_i cs he
    split at hr
    · rename_i y hy
      injection hr with hr; subst hr
      rw [he] at hx
      obtain ⟨vs, hv, hl, hd⟩ := den_tup hx
      have hlt : i < vs.length := by have := (List.getElem?_eq_some_iff.1 hy).1; omega
      have hvi : vs[i]? = some vs[i] := List.getElem?_eq_getElem hlt
      refine ⟨vs[i], ?_, hd i _ y hvi hy⟩
      unfold execOp
      simp [ho, Instr.extract, hv, hlt]
    · cases hr
  · cases hr

def evIndex (P : Program) (t : TypeId) (x : AV) (n : Int) (h : Hint) : Option (AV × List Prop) :=
  match P.underlying t, x with
  | some (.array len el), .agg cs => (match sizeT P el with | some z => (match evPart P el cs (mul1 h.k z) h with | some r => some (r.1, (n = (h.k : Int)) :: (h.k < len) :: r.2) | none => none) | none => none)
  | some (.array len el), .arr cs => (match sizeT P el with | some z => (match evPart P el cs (mul1 h.k z) h with | some r => some (r.1, (n = (h.k : Int)) :: (h.k < len) :: r.2) | none => none) | none => none)
  | some .string, .val (.string b) => some (fin h (.val (.int .u8 (bv (b.data.toList.getD h.k 0))), [n = (h.k : Int), h.k < b.size]))
  | _, _ => none
theorem den_arr {I : Info} {S : Nat → Prop} {w : World} {v : Value} {cs : List AV} (h : Den I S w v (.arr cs)) : ∃ vs : List Value, v = .agg vs.toArray ∧ vs.length = cs.length ∧ ∀ (j : Nat) v c, vs[j]? = some v → cs[j]? = some c → Rep S w v c := by
  cases h with
  | rep h => cases h with | arr vs _ hl h => exact ⟨vs, rfl, hl, h⟩
theorem evIndex_ok {t : TypeId} {x i : Operand} {k : IntKind} {n : Int} (ho : o.op = .index t x i) (hi : opd s i = .val (.int k n)) (hr : evIndex P t (opd s x) n h = some r) : PlainOK P s o r.1 r.2 := by
  unfold evIndex at hr
  have arr : ∀ (len : Nat) (el : TypeId) (z : Nat) (q : AV × List Prop) (cs : List AV), P.underlying t = some (.array len el) → sizeT P el = some z → evPart P el cs (mul1 h.k z) h = some q → r = (q.1, (n = (h.k : Int)) :: (h.k < len) :: q.2) →
      (∀ S0 w0 n O a w φ, SimO S0 w0 n O s a w φ → ∃ vs : List Value, a.eval x = .agg vs.toArray ∧ vs.length = cs.length ∧ ∀ (j : Nat) v c, vs[j]? = some v → cs[j]? = some c → Den (infoOf s.H φ) (Free S0 w φ O) w v c) → PlainOK P s o r.1 r.2 := by
    intro len el z q cs hu hz hq hr hX
    subst hr
    intro hC S0 w0 n' O a w φ hs
    obtain ⟨h1, h2, hC⟩ := hC
    have ei : a.eval i = .int k n := den_val (hi ▸ hs.opd i)
    obtain ⟨vs, hv, hl, hd⟩ := hX S0 w0 n' O a w φ hs
    obtain ⟨v, h3, h4⟩ := evPart_ok hq hC vs hl hd
    refine ⟨v, ?_, h4⟩
    have hbd : 0 ≤ n ∧ n < (len : Int) := by omega
    have hk : n.toNat = h.k := by omega
    have hz' : (sizeOf el).run P w = .ok z w := run_sizeOf hz
    rw [mul1_eq] at h3
    unfold execOp
    simp [ho, Instr.index, run_underlying hu, hv, asIntOf, ei, hbd, hk, hz', h3]
  split at hr
  · rename_i len el cs hu he
    split at hr
    · rename_i z hz
      split at hr
      · rename_i q hq
        injection hr with hr
        refine arr len el z q cs hu hz hq hr.symm fun S0 w0 n O a w φ hs => ?_
        have hx := hs.opd x
        rw [he] at hx
        exact den_agg hx
      · cases hr
    · cases hr
  · rename_i len el cs hu he
    split at hr
    · rename_i z hz
      split at hr
      · rename_i q hq
        injection hr with hr
        refine arr len el z q cs hu hz hq hr.symm fun S0 w0 n O a w φ hs => ?_
        have hx := hs.opd x
        rw [he] at hx
        obtain ⟨vs, h1, h2, h3⟩ := den_arr hx
        exact ⟨vs, h1, h2, fun j v c hv hc => .rep (h3 j v c hv hc)⟩
      · cases hr
    · cases hr
  · rename_i b hu he
    injection hr with hr; subst hr
    refine fin_ok ?_
    intro hC S0 w0 n' O a w φ hs
    obtain ⟨h1, h2, -⟩ := hC
    have ei : a.eval i = .int k n := den_val (hi ▸ hs.opd i)
    have ex : a.eval x = .string b := den_val (he ▸ hs.opd x)
    refine ⟨_, ?_, .rep (.val _)⟩
    have h0 : 0 ≤ n := by omega
    have hk : n.toNat = h.k := by omega
    unfold execOp
    simp [ho, Instr.index, run_underlying hu, ex, asIntOf, ei, h0, hk, h2]
    rfl
  · cases hr

def evNil (x : AV) : Option (AV × List Prop) :=
  match x with
  | .ptr row off => some (.ptr row off, [])
  | .addr id off => some (.addr id off, [])
  | .val (.func (.func f) l c) => some (.val (.func (.func f) l c), [])
  | _ => none
theorem evNil_ok {x : Operand} (ho : o.op = .nilCheck x) (hr : evNil (opd s x) = some r) : PlainOK P s o r.1 r.2 := by
  intro hC S0 w0 n O a w φ hs
  have hx := hs.opd x
  unfold evNil at hr
  split at hr
  · rename_i row off he
    injection hr with hr; subst hr
    rw [he] at hx
    obtain ⟨ad, us, hv, -⟩ := den_ptr hx
    refine ⟨a.eval x, ?_, hx⟩
    unfold execOp
    simp [ho, hv]
  · rename_i id off he
    injection hr with hr; subst hr
    rw [he] at hx
    obtain ⟨e, m, g, -, hv⟩ := den_addr hx
    refine ⟨a.eval x, ?_, hx⟩
    unfold execOp
    simp [ho, hv]
  · rename_i f l c he
    injection hr with hr; subst hr
    rw [he] at hx
    have hv := den_val hx
    refine ⟨a.eval x, ?_, hx⟩
    unfold execOp
    simp [ho, hv]
  · cases hr

def evPick (s : AS) (c x y : Operand) (h : Hint) : Option (AV × List Prop) :=
  match opd s c with
  | .val (.bool b) => (match h.b with | true => some (opd s x, [b = true]) | false => some (opd s y, [b = false]))
  | _ => none
theorem evPick_ok {c x y : Operand} {h : Hint} (ho : o.op = .pick c x y) (hr : evPick s c x y h = some r) : PlainOK P s o r.1 r.2 := by
  intro hC S0 w0 n O a w φ hs
  unfold evPick at hr
  split at hr
  · rename_i b he
    split at hr
    · cases hr
      have ec : a.eval c = .bool true := by
        have h1 : a.eval c = .bool b := den_val (he ▸ hs.opd c)
        rw [h1, show b = true from hC.1]
      refine ⟨a.eval x, ?_, hs.opd x⟩
      unfold execOp
      simp [ho, ec, asBool]
    · cases hr
      have ec : a.eval c = .bool false := by
        have h1 : a.eval c = .bool b := den_val (he ▸ hs.opd c)
        rw [h1, show b = false from hC.1]
      refine ⟨a.eval y, ?_, hs.opd y⟩
      unfold execOp
      simp [ho, ec, asBool]
  · cases hr

-- lengths

def evLen (P : Program) (s : AS) (ts : Array TypeId) (ty : TypeId) (x : AV) (h : Hint) : Option (AV × List Prop) :=
  match x with
  | .val u => (match semEval P (Builtin.len_ ts ty #[u]) with | some z => some (fin h (.val z, [])) | none => none)
  | x => (match ts[0]? with
    | some t => (match P.underlying t with
      | some (.slice _) => (match x with
        | .nil => some (.val (.int .i64 0), [])
        | .sl (e + 1) row => some (.val (.int .i64 h.k), [row.length = mul1 h.k (e + 1)])
        | .ref id => (match look s.H id with | some ⟨e + 1, _, _, cells⟩ => some (.val (.int .i64 h.k), [cells.length = mul1 h.k (e + 1)]) | _ => none)
        | .pre id l => (match look s.H id with | some ⟨e + 1, _, _, _⟩ => some (.val (.int .i64 h.k), [l = mul1 h.k (e + 1)]) | _ => none)
        | .win id _ l => (match look s.H id with | some ⟨e + 1, _, _, _⟩ => some (.val (.int .i64 h.k), [l = mul1 h.k (e + 1)]) | _ => none)
        | _ => none)
      | some (.array n _) => some (.val (.int .i64 n), [])
      | _ => none)
    | none => none)
theorem len_eq {q e l k : Nat} (h1 : q = mul1 k (e + 1)) (h2 : q = (e + 1) * l) : l = k := by
  rw [mul1_eq, h2, Nat.mul_comm k] at h1
  exact Nat.eq_of_mul_eq_mul_left (by omega) h1
theorem evLen_ok {x : Operand} {ts : Array TypeId} (ho : o.op = .call { callee := .builtin .len, args := #[x], argTypes := ts }) (hr : evLen P s ts o.type (opd s x) h = some r) : PlainOK P s o r.1 r.2 := by
  unfold evLen at hr
  split at hr
  · rename_i u he
    split at hr
    · rename_i z hz
      injection hr with hr; subst hr
      refine fin_ok ?_
      intro hC S0 w0 n O a w φ hs
      have ex : a.eval x = u := den_val (he ▸ hs.opd x)
      refine ⟨z, ?_, .rep (.val _)⟩
      unfold execOp
      simp [ho, resolve, invoke, builtin, ex, semEval_run w hz]
    · cases hr
  · split at hr
    · rename_i t ht
      split at hr
      · rename_i el hu
        have run : ∀ (a : Act) (w : World) (A : Option Addr) (l c : Nat), a.eval x = .slice A l c → (execOp a.eval o).run P w = .ok (.value (.int .i64 l)) w := by
          intro a w A l c hv
          unfold execOp
          simp [ho, resolve, invoke, builtin, hv, Builtin.len_, ht, run_underlying hu, goInt]
        split at hr
        · rename_i he
          injection hr with hr; subst hr
          intro hC S0 w0 n O a w φ hs
          have hx := hs.opd x
          rw [he] at hx
          generalize hV : a.eval x = V at hx
          cases hx with | rep h => cases h with | nil => exact ⟨_, run a w _ _ _ hV, .rep (.val _)⟩
        · rename_i e row he
          injection hr with hr; subst hr
          intro hC S0 w0 n O a w φ hs
          have hx := hs.opd x
          rw [he] at hx
          have hrep := den_sl hx
          generalize hV : a.eval x = V at hrep
          cases hrep with
          | sl A l c _ us _ hl hn hc hm ha h' =>
            have := len_eq hC.1 hn
            subst this
            exact ⟨_, run a w _ _ _ hV, .rep (.val _)⟩
        · rename_i id he
          split at hr
          · rename_i e pu fu cells hq
            injection hr with hr; subst hr
            intro hC S0 w0 n O a w φ hs
            have hx := hs.opd x
            rw [he] at hx
            generalize hV : a.eval x = V at hx
            cases hx with
            | rep h => cases h
            | ref _ e m g l c hi hm hc hx hs' =>
              rw [info_of hq] at hi
              injection hi with hi; injection hi with h1 hi; injection hi with h2 h3
              have := len_eq hC.1 (by rw [show cells.length = m from h2, hm, ← h1])
              subst this
              exact ⟨_, run a w _ _ _ hV, .rep (.val _)⟩
            | refnil _ e hi =>
              rw [info_of hq] at hi
              injection hi with hi; injection hi with h1 hi; injection hi with h2 h3
              have := len_eq (l := 0) hC.1 (by rw [show cells.length = 0 from h2]; simp)
              rw [← this]
              exact ⟨_, run a w _ _ _ hV, .rep (.val _)⟩
          · cases hr
        · rename_i id l' he
          split at hr
          · rename_i e pu fu cells hq
            injection hr with hr; subst hr
            intro hC S0 w0 n O a w φ hs
            have hx := hs.opd x
            rw [he] at hx
            generalize hV : a.eval x = V at hx
            cases hx with
            | rep h => cases h
            | pre _ _ e m g l c hi hn hm hc hx hs' =>
              rw [info_of hq] at hi
              injection hi with hi; injection hi with h1 hi; injection hi with h2 h3
              have := len_eq hC.1 (by rw [hn, ← h1])
              subst this
              exact ⟨_, run a w _ _ _ hV, .rep (.val _)⟩
            | prenil _ e hi =>
              have := len_eq (l := 0) hC.1 (by simp)
              rw [← this]
              exact ⟨_, run a w _ _ _ hV, .rep (.val _)⟩
          · cases hr
        · rename_i id off l' he
          split at hr
          · rename_i e pu fu cells hq
            injection hr with hr; subst hr
            intro hC S0 w0 n O a w φ hs
            have hx := hs.opd x
            rw [he] at hx
            generalize hV : a.eval x = V at hx
            cases hx with
            | rep h => cases h
            | win _ _ _ e m l c g A hi hn hm hc hx ha =>
              rw [info_of hq] at hi
              injection hi with hi; injection hi with h1 hi; injection hi with h2 h3
              have := len_eq hC.1 (by rw [hn, ← h1])
              subst this
              exact ⟨_, run a w _ _ _ hV, .rep (.val _)⟩
          · cases hr
        · cases hr
      · rename_i n' el hu
        injection hr with hr; subst hr
        intro hC S0 w0 n O a w φ hs
        refine ⟨.int .i64 n', ?_, .rep (.val _)⟩
        unfold execOp
        simp [ho, resolve, invoke, builtin, Builtin.len_, ht, run_underlying hu, goInt]
      · cases hr
    · cases hr

def valsOf (s : AS) : List Operand → Option (List Value)
  | [] => some []
  | x :: l => match opd s x, valsOf s l with | .val u, some m => some (u :: m) | _, _ => none
theorem valsOf_ok {S0 : Nat → Prop} {w0 w : World} {n : Nat} {O : List Nat} {a : Act} {φ : Nat → Option Nat} (hs : SimO S0 w0 n O s a w φ) : ∀ (xs : List Operand) (us : List Value), valsOf s xs = some us → xs.map a.eval = us
  | [], us, h => by cases h; rfl
  | x :: l, us, h => by
    simp only [valsOf] at h
    split at h
    · rename_i u m hu hm
      injection h with h; subst h
      rw [List.map_cons, valsOf_ok hs l m hm, show a.eval x = u from den_val (hu ▸ hs.opd x)]
    · cases h
def evMM (P : Program) (b : Builtin) (ts : Array TypeId) (ty : TypeId) (us : List Value) : Option (AV × List Prop) :=
  match b with
  | .min => (match semEval P (Builtin.min_ ts ty us.toArray) with | some z => some (.val z, []) | none => none)
  | .max => (match semEval P (Builtin.max_ ts ty us.toArray) with | some z => some (.val z, []) | none => none)
  | _ => none
theorem evMM_ok {b : Builtin} {xs : Array Operand} {ts : Array TypeId} {us : List Value} (ho : o.op = .call { callee := .builtin b, args := xs, argTypes := ts }) (hu : valsOf s xs.toList = some us) (hr : evMM P b ts o.type us = some r) : PlainOK P s o r.1 r.2 := by
  intro hC S0 w0 n O a w φ hs
  have e := valsOf_ok hs _ _ hu
  have e2 : xs.map a.eval = us.toArray := Array.toList_inj.1 (by rw [Array.toList_map, e])
  unfold evMM at hr
  split at hr
  · split at hr
    · rename_i z hz
      injection hr with hr; subst hr
      refine ⟨z, ?_, .rep (.val _)⟩
      unfold execOp
      simp [ho, resolve, invoke, builtin, e2, semEval_run w hz]
    · cases hr
  · split at hr
    · rename_i z hz
      injection hr with hr; subst hr
      refine ⟨z, ?_, .rep (.val _)⟩
      unfold execOp
      simp [ho, resolve, invoke, builtin, e2, semEval_run w hz]
    · cases hr
  · cases hr
end
end Go.Proofs.Ytbehdllomepkdaa
