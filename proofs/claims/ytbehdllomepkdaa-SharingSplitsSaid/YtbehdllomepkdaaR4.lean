/-
  Plain operations that read memory or make addresses, slices and structs of what is there; what they leave, computed on plain states. Over any program. No condition.
-/
import Derived.Test.YtbehdllomepkdaaR3
namespace Go.Proofs.Ytbehdllomepkdaa
open Go.RowKit

def mul1 : Nat → Nat → Nat
  | k, 1 => k
  | k, e => k * e
theorem mul1_eq (k e : Nat) : mul1 k e = k * e := by
  unfold mul1
  split <;> simp

-- loads

def evRead (P : Program) (t : TypeId) (pure : Bool) (cells : List AV) (off : Nat) (h : Hint) : Option (AV × List Prop) :=
  match sizeT P t, P.underlying t with
  | some sz, some d =>
    (match d with
    | .struct _ => (match h.av with
      | some (.agg cs) => some (.agg cs, [(cells.drop off).take sz = cs, cs.length = sz])
      | some _ => none
      | none => (match Nat.beq ((cells.drop off).take sz).length sz with | true => some (.agg ((cells.drop off).take sz), []) | false => none))
    | .array _ _ => (match h.av, pure with
      | some (.arr cs), true => some (.arr cs, [(cells.drop off).take sz = cs, cs.length = sz])
      | some (.agg cs), _ => some (.agg cs, [(cells.drop off).take sz = cs, cs.length = sz])
      | _, _ => none)
    | _ => (match h.av with
      | some y => some (y, [cells[off]? = some y])
      | none => (match cells[off]? with | some y => some (y, []) | none => none)))
  | _, _ => none

section
variable {P : Program} {w : World} {I : Info} {S : Nat → Prop}
theorem run_loadVar_agg {t : TypeId} {p : Addr} {vs : List Value} {d : TypeDesc} (hd : P.underlying t = some d) (ha : isAggT P t = true) (hs : sizeT P t = some vs.length) (h : ∀ (j : Nat) v, vs[j]? = some v → w.cell? (p.add j) = some v) :
    (loadVar t p).run P w = .ok (.agg vs.toArray) w := by
  unfold loadVar
  rw [Sem.run_bind, run_isAgg ⟨d, hd⟩]
  simp only [Result.andThen_ok, ha, if_true]
  rw [Sem.run_bind, run_sizeOf hs]
  simp only [Result.andThen_ok]
  rw [Sem.run_bind, run_loadCells_list w p vs h]
  rfl
theorem run_loadVar_one {t : TypeId} {p : Addr} {v : Value} {d : TypeDesc} (hd : P.underlying t = some d) (ha : isAggT P t = false) (h : w.cell? p = some v) :
    (loadVar t p).run P w = .ok v w := by
  unfold loadVar
  rw [Sem.run_bind, run_isAgg ⟨d, hd⟩]
  simp [ha, h]
theorem drop_take_get {α : Type} (l : List α) (off k j : Nat) (x : α) (hx : ((l.drop off).take k)[j]? = some x) : l[off + j]? = some x := by
  have := take_get _ _ _ _ hx
  rw [List.getElem?_drop] at this; exact this
theorem add_zero_addr (p : Addr) : p.add 0 = p := by simp [Addr.add]
/-- A read at the address p, behind which cells lie that read as 'cells' from off on. -/
theorem evRead_ok {t : TypeId} {pure : Bool} {cells : List AV} {off : Nat} {h : Hint} {r : AV × List Prop} (hr : evRead P t pure cells off h = some r) (hC : AllP r.2) (p : Addr) (us : List Value) (hl : cells.length ≤ us.length)
    (hcell : ∀ (j : Nat) u, us[off + j]? = some u → w.cell? (p.add j) = some u) (hd : ∀ (j : Nat) u x, us[j]? = some u → cells[j]? = some x → CellDen I S w pure u x) :
    ∃ v, (loadVar t p).run P w = .ok v w ∧ Den I S w v r.1 := by
  have den : ∀ (j : Nat) u x, us[j]? = some u → cells[j]? = some x → Den I S w u x := by
    intro j u x hu hx
    have := hd j u x hu hx
    unfold CellDen at this
    cases pure with
    | true => exact .rep this
    | false => exact this
  unfold evRead at hr
  split at hr
  · rename_i sz d hsz hu
    have agg : ∀ (cs : List AV), isAggT P t = true → (cells.drop off).take sz = cs → cs.length = sz → ∃ vs : List Value, vs = (us.drop off).take sz ∧ (loadVar t p).run P w = .ok (.agg vs.toArray) w ∧ vs.length = cs.length ∧ (∀ (j : Nat) v c, vs[j]? = some v → cs[j]? = some c → us[off + j]? = some v ∧ cells[off + j]? = some c) := by
      intro cs ha he hlen
      have hlc : cs.length = min sz (cells.length - off) := by rw [← he, List.length_take, List.length_drop]
      have hlv : ((us.drop off).take sz).length = sz := by rw [List.length_take, List.length_drop]; omega
      refine ⟨_, rfl, run_loadVar_agg hu ha (by rw [hlv]; exact hsz) (fun j v hv => hcell j v (drop_take_get _ _ _ _ _ hv)), by omega, fun j v c hv hc => ⟨drop_take_get _ _ _ _ _ hv, ?_⟩⟩
      rw [← he] at hc; exact drop_take_get _ _ _ _ _ hc
    have one : ∀ y, isAggT P t = false → cells[off]? = some y → ∃ v, (loadVar t p).run P w = .ok v w ∧ Den I S w v y := by
      intro y ha hy
      have hlt : off < us.length := by have := (List.getElem?_eq_some_iff.1 hy).1; omega
      have hv : us[off]? = some us[off] := List.getElem?_eq_getElem hlt
      refine ⟨us[off], run_loadVar_one hu ha ?_, den off _ y hv hy⟩
      have := hcell 0 us[off] (by simp)
      rw [add_zero_addr] at this; exact this
    split at hr
    · have ha : isAggT P t = true := by unfold isAggT; rw [hu]
      split at hr
      · rename_i cs _
        injection hr with hr; subst hr
        obtain ⟨vs, -, h1, h2, h3⟩ := agg cs ha hC.1 hC.2.1
        exact ⟨_, h1, .agg vs cs h2 fun j v c hv hc => den _ _ _ (h3 j v c hv hc).1 (h3 j v c hv hc).2⟩
      · cases hr
      · split at hr
        · rename_i hb
          injection hr with hr; subst hr
          obtain ⟨vs, -, h1, h2, h3⟩ := agg _ ha rfl (Nat.eq_of_beq_eq_true hb)
          exact ⟨_, h1, .agg vs _ h2 fun j v c hv hc => den _ _ _ (h3 j v c hv hc).1 (h3 j v c hv hc).2⟩
        · cases hr
    · have ha : isAggT P t = true := by unfold isAggT; rw [hu]
      split at hr
      · rename_i cs _
        injection hr with hr; subst hr
        obtain ⟨vs, -, h1, h2, h3⟩ := agg cs ha hC.1 hC.2.1
        exact ⟨_, h1, .rep (.arr vs cs h2 fun j v c hv hc => by have := hd _ _ _ (h3 j v c hv hc).1 (h3 j v c hv hc).2; exact this)⟩
      · rename_i cs _
        injection hr with hr; subst hr
        obtain ⟨vs, -, h1, h2, h3⟩ := agg cs ha hC.1 hC.2.1
        exact ⟨_, h1, .agg vs cs h2 fun j v c hv hc => den _ _ _ (h3 j v c hv hc).1 (h3 j v c hv hc).2⟩
      · cases hr
    · rename_i hn1 hn2
      have ha : isAggT P t = false := by
        unfold isAggT; rw [hu]
        cases d <;> first | rfl | exact absurd rfl (hn1 _) | exact absurd rfl (hn2 _ _)
      split at hr
      · injection hr with hr; subst hr
        exact one _ ha hC.1
      · split at hr
        · rename_i y hy
          injection hr with hr; subst hr
          exact one _ ha hy
        · cases hr
  · cases hr
end

def evLoad (P : Program) (s : AS) (t : TypeId) (x : AV) (h : Hint) : Option (AV × List Prop) :=
  match x with
  | .ptr row off => evRead P t true row off h
  | .addr id off => (match look s.H id with | some r => evRead P t r.pure r.cells off h | none => none)
  | _ => none

section
variable {P : Program} {s : AS} {o : Oper} {h : Hint} {r : AV × List Prop}
theorem den_ptr {I : Info} {S : Nat → Prop} {w : World} {v : Value} {row : List AV} {off : Nat} (h : Den I S w v (.ptr row off)) : ∃ (ad : Addr) (us : List Value), v = .pointer (some (ad.add off)) ∧ us.length = row.length ∧ S ad.block ∧ (∀ (j : Nat) u, us[j]? = some u → w.cell? (ad.add j) = some u) ∧ ∀ (j : Nat) u x, us[j]? = some u → row[j]? = some x → Rep S w u x := by
  cases h with | rep h => cases h with | ptr ad us _ _ hl hs ha h => exact ⟨ad, us, rfl, hl, hs, ha, h⟩
theorem den_addr {I : Info} {S : Nat → Prop} {w : World} {v : Value} {id off : Nat} (h : Den I S w v (.addr id off)) : ∃ e m g, I id = some (e, m, some g) ∧ v = .pointer (some ⟨g, off, none⟩) := by
  cases h with
  | rep h => cases h
  | addr id off e m g hi => exact ⟨e, m, g, hi, rfl⟩
theorem addr_add (g o j : Nat) : (⟨g, o, none⟩ : Addr).add j = ⟨g, o + j, none⟩ := by unfold Addr.add; split <;> simp_all
theorem evLoad_ok {t : TypeId} {x : Operand} (ho : o.op = .load t x) (hr : evLoad P s t (opd s x) h = some r) : PlainOK P s o r.1 r.2 := by
  intro hC S0 w0 n O a w φ hs
  have hx := hs.opd x
  unfold execOp
  simp only [ho]
  unfold evLoad at hr
  split at hr
  · rename_i row off he
    rw [he] at hx
    obtain ⟨ad, us, hv, hl, hS, hcell, hrep⟩ := den_ptr hx
    obtain ⟨v, h1, h2⟩ := evRead_ok (I := infoOf s.H φ) (S := Free S0 w φ O) hr hC (ad.add off) us (by omega) (fun j u hu => by rw [add_of_add]; exact hcell _ u hu) (fun j u x hu hx => by show Rep _ _ _ _; exact hrep j u x hu hx)
    refine ⟨v, ?_, h2⟩
    simp only [Instr.loadAt, hv, Instr.sureAddr, Sem.run_bind, Sem.run_pure, Result.andThen_ok, h1]
  · rename_i id off he
    rw [he] at hx
    obtain ⟨e, m, g, hi, hv⟩ := den_addr hx
    obtain ⟨q, hq, -, -, hφ⟩ := info_some hi
    rw [hq] at hr
    have hrow := hs.rows id q hq
    unfold RowDen at hrow
    rw [hφ] at hrow
    obtain ⟨cur, te, fr, hg, hf, hl, -, hc⟩ := hrow
    obtain ⟨v, h1, h2⟩ := evRead_ok (I := infoOf s.H φ) (S := Free S0 w φ O) hr hC ⟨g, off, none⟩ cur.toList hl (fun j u hu => by rw [addr_add, cell_of_row w g _ cur te fr hg]; simpa using hu) (fun j u x hu hx => hc j u x (by simpa using hu) hx)
    refine ⟨v, ?_, h2⟩
    simp only [Instr.loadAt, hv, Instr.sureAddr, Sem.run_bind, Sem.run_pure, Result.andThen_ok, h1]
  · cases hr

-- addresses

def evFieldAddr (P : Program) (t : TypeId) (x : AV) (f : Nat) : Option (AV × List Prop) :=
  match P.underlying t with
  | some (.struct fields) =>
    (match fields[f]? with
    | some fd => (match sizeT P fd.type with
      | some (_ + 1) => (match x with
        | .ptr row off => some (.ptr row (off + fd.offset), [])
        | .addr id off => some (.addr id (off + fd.offset), [])
        | _ => none)
      | _ => none)
    | none => none)
  | _ => none
theorem evFieldAddr_ok {t : TypeId} {x : Operand} {f : Nat} (ho : o.op = .fieldAddr t x f) (hr : evFieldAddr P t (opd s x) f = some r) : PlainOK P s o r.1 r.2 := by
  intro hC S0 w0 n O a w φ hs
  have hx := hs.opd x
  unfold execOp
  simp only [ho]
  unfold evFieldAddr at hr
  split at hr
  · rename_i fields hu
    split at hr
    · rename_i fd hf
      split at hr
      · rename_i k hsz
        have hz : (sizeOf fd.type).run P w = .ok (k + 1) w := run_sizeOf hsz
        split at hr
        · rename_i row off he
          injection hr with hr; subst hr
          rw [he] at hx
          obtain ⟨ad, us, hv, hl, hS, hcell, hrep⟩ := den_ptr hx
          refine ⟨.pointer (some (ad.add (off + fd.offset))), ?_, .rep (.ptr ad us row _ hl hS hcell hrep)⟩
          simp [Instr.fieldAt, run_underlying hu, hf, hv, Instr.sureAddr, fieldPlace, hz, add_of_add]
        · rename_i id off he
          injection hr with hr; subst hr
          rw [he] at hx
          obtain ⟨e, m, g, hi, hv⟩ := den_addr hx
          refine ⟨.pointer (some ⟨g, off + fd.offset, none⟩), ?_, .addr id _ e m g hi⟩
          simp [Instr.fieldAt, run_underlying hu, hf, hv, Instr.sureAddr, fieldPlace, hz, addr_add]
        · cases hr
      · cases hr
    · cases hr
  · cases hr

def evIdx (P : Program) (s : AS) (t : TypeId) (x : AV) (n : Int) (h : Hint) : Option (AV × List Prop) :=
  match P.underlying t with
  | some (.slice el) =>
    (match sizeT P el with
    | some (z + 1) => (match x with
      | .sl e row => (match Nat.beq e (z + 1) with | true => some (.ptr row (mul1 h.k (z + 1)), [n = (h.k : Int), mul1 h.k (z + 1) < row.length]) | false => none)
      | .ref id => (match look s.H id with | some q => (match Nat.beq q.e (z + 1) with | true => some (.addr id (mul1 h.k (z + 1)), [n = (h.k : Int), mul1 h.k (z + 1) < q.cells.length]) | false => none) | none => none)
      | .pre id l => (match look s.H id with | some q => (match Nat.beq q.e (z + 1) with | true => some (.addr id (mul1 h.k (z + 1)), [n = (h.k : Int), mul1 h.k (z + 1) < l]) | false => none) | none => none)
      | .win id off l => (match look s.H id with | some q => (match Nat.beq q.e (z + 1) with | true => some (.addr id (mul1 h.k (z + 1) + off), [n = (h.k : Int), mul1 h.k (z + 1) < l]) | false => none) | none => none)
      | _ => none)
    | _ => none)
  | some (.array len el) =>
    (match sizeT P el with
    | some (z + 1) => (match x with
      | .ptr row off => some (.ptr row (mul1 h.k (z + 1) + off), [n = (h.k : Int), h.k < len])
      | .addr id off => some (.addr id (mul1 h.k (z + 1) + off), [n = (h.k : Int), h.k < len])
      | _ => none)
    | _ => none)
  | _ => none
theorem den_sl {I : Info} {S : Nat → Prop} {w : World} {v : Value} {e : Nat} {row : List AV} (h : Den I S w v (.sl e row)) : Rep S w v (.sl e row) := by
  cases h with | rep h => exact h
theorem lt_of_mul {k z l e m : Nat} (h : mul1 k (z + 1) < m) (hm : m = e * l) (he : e = z + 1) : k < l := by
  rw [mul1_eq, hm, he, Nat.mul_comm] at h
  exact Nat.lt_of_mul_lt_mul_left h
theorem evIdx_ok {t : TypeId} {x i : Operand} {k : IntKind} {n : Int} (ho : o.op = .indexAddr t x i) (hi : opd s i = .val (.int k n)) (hr : evIdx P s t (opd s x) n h = some r) : PlainOK P s o r.1 r.2 := by
  intro hC S0 w0 n' O a w φ hs
  have hx := hs.opd x
  have ei : a.eval i = .int k n := den_val (hi ▸ hs.opd i)
  unfold execOp
  simp only [ho, ei]
  unfold evIdx at hr
  split at hr
  · rename_i el hu
    split at hr
    · rename_i z hsz
      have hz : (sizeOf el).run P w = .ok (z + 1) w := run_sizeOf hsz
      split at hr
      · rename_i e row he
        rw [he] at hx
        split at hr
        · rename_i hb
          have hb' : e = z + 1 := Nat.eq_of_beq_eq_true hb
          injection hr with hr; subst hr
          obtain ⟨hn, hlt, -⟩ := hC
          have hrep := den_sl hx
          cases hval : a.eval x with
          | slice A l c =>
            rw [hval] at hrep
            cases hrep with
            | sl _ _ _ _ us _ hl hn' hc hm ha hrep =>
              have hkl : h.k < l := lt_of_mul hlt hn' hb'
              obtain ⟨ad, rfl, hS, hcell⟩ := ha (by omega)
              refine ⟨.pointer (some (ad.add (mul1 h.k (z + 1)))), ?_, .rep (.ptr ad us row _ hl hS hcell hrep)⟩
              have hbd : 0 ≤ n ∧ n < (l : Int) := by omega
              have hk : n.toNat = h.k := by omega
              simp [Instr.indexAt, run_underlying hu, asIntOf, hbd, hz, hk, mul1_eq]
          | _ => rw [hval] at hrep; cases hrep
        · cases hr
      · rename_i id he
        rw [he] at hx
        split at hr
        · rename_i q hq
          split at hr
          · rename_i hb
            have hb' : q.e = z + 1 := Nat.eq_of_beq_eq_true hb
            injection hr with hr; subst hr
            obtain ⟨hn, hlt, -⟩ := hC
            generalize a.eval x = V at hx
            cases hx with
            | rep h => cases h
            | ref _ e m g l c hi hm hc hx hs' =>
              rw [info_of hq] at hi
              injection hi with hi; injection hi with h1 hi; injection hi with h2 h3
              have hkl : h.k < l := lt_of_mul hlt (by rw [h2]; exact hm) (by rw [← h1]; exact hb')
              refine ⟨.pointer (some ⟨g, mul1 h.k (z + 1), none⟩), ?_, .addr id _ q.e q.cells.length g (by rw [info_of hq, h3])⟩
              have hbd : 0 ≤ n ∧ n < (l : Int) := by omega
              have hk : n.toNat = h.k := by omega
              simp [Instr.indexAt, run_underlying hu, asIntOf, hbd, hz, hk, mul1_eq, addr0_add]
            | refnil _ e hi =>
              rw [info_of hq] at hi
              injection hi with hi; injection hi with h1 hi; injection hi with h2 h3
              omega
          · cases hr
        · cases hr
      · rename_i id l' he
        rw [he] at hx
        split at hr
        · rename_i q hq
          split at hr
          · rename_i hb
            have hb' : q.e = z + 1 := Nat.eq_of_beq_eq_true hb
            injection hr with hr; subst hr
            obtain ⟨hn, hlt, -⟩ := hC
            generalize a.eval x = V at hx
            cases hx with
            | rep h => cases h
            | pre _ _ e m g l c hi hn' hm hc hx hs' =>
              rw [info_of hq] at hi
              injection hi with hi; injection hi with h1 hi; injection hi with h2 h3
              have hkl : h.k < l := lt_of_mul hlt hn' (by rw [← h1]; exact hb')
              refine ⟨.pointer (some ⟨g, mul1 h.k (z + 1), none⟩), ?_, .addr id _ q.e q.cells.length g (by rw [info_of hq, h3])⟩
              have hbd : 0 ≤ n ∧ n < (l : Int) := by omega
              have hk : n.toNat = h.k := by omega
              simp [Instr.indexAt, run_underlying hu, asIntOf, hbd, hz, hk, mul1_eq, addr0_add]
            | prenil _ e hi => omega
          · cases hr
        · cases hr
      · rename_i id off l' he
        rw [he] at hx
        split at hr
        · rename_i q hq
          split at hr
          · rename_i hb
            have hb' : q.e = z + 1 := Nat.eq_of_beq_eq_true hb
            injection hr with hr; subst hr
            obtain ⟨hn, hlt, -⟩ := hC
            generalize a.eval x = V at hx
            cases hx with
            | rep h => cases h
            | win _ _ _ e m l c g A hi hn' hm hc hx ha =>
              rw [info_of hq] at hi
              injection hi with hi; injection hi with h1 hi; injection hi with h2 h3
              have hkl : h.k < l := lt_of_mul hlt hn' (by rw [← h1]; exact hb')
              obtain ⟨b, hb1, rfl⟩ := ha (by omega)
              refine ⟨.pointer (some ⟨b, mul1 h.k (z + 1) + off, none⟩), ?_, .addr id _ q.e q.cells.length b (by rw [info_of hq, h3, hb1])⟩
              have hbd : 0 ≤ n ∧ n < (l : Int) := by omega
              have hk : n.toNat = h.k := by omega
              simp [Instr.indexAt, run_underlying hu, asIntOf, hbd, hz, hk, mul1_eq, addr_add, Nat.add_comm]
          · cases hr
        · cases hr
      · cases hr
    · cases hr
  · rename_i len el hu
    split at hr
    · rename_i z hsz
      have hz : (sizeOf el).run P w = .ok (z + 1) w := run_sizeOf hsz
      split at hr
      · rename_i row off he
        rw [he] at hx
        injection hr with hr; subst hr
        obtain ⟨hn, hlt, -⟩ := hC
        obtain ⟨ad, us, hv, hl, hS, hcell, hrep⟩ := den_ptr hx
        refine ⟨.pointer (some (ad.add (mul1 h.k (z + 1) + off))), ?_, .rep (.ptr ad us row _ hl hS hcell hrep)⟩
        have hbd : 0 ≤ n ∧ n < (len : Int) := by omega
        have hk : n.toNat = h.k := by omega
        simp [Instr.indexAt, run_underlying hu, asIntOf, hbd, hz, hk, hv, Instr.sureAddr, mul1_eq, add_of_add, Nat.add_comm]
      · rename_i id off he
        rw [he] at hx
        injection hr with hr; subst hr
        obtain ⟨hn, hlt, -⟩ := hC
        obtain ⟨e, m, g, hi, hv⟩ := den_addr hx
        refine ⟨.pointer (some ⟨g, mul1 h.k (z + 1) + off, none⟩), ?_, .addr id _ e m g hi⟩
        have hbd : 0 ≤ n ∧ n < (len : Int) := by omega
        have hk : n.toNat = h.k := by omega
        simp [Instr.indexAt, run_underlying hu, asIntOf, hbd, hz, hk, hv, Instr.sureAddr, mul1_eq, addr_add, Nat.add_comm]
      · cases hr
    · cases hr
  · cases hr
end
end Go.Proofs.Ytbehdllomepkdaa
