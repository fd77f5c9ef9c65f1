/-
  What a plain operation leaves, computed on plain states, and that this is right. Over any program. No condition.
-/
import Derived.Test.YtbehdllomepkdaaR2
import Derived.Calls
import Derived.Laws.Cells
namespace Go.Proofs.Ytbehdllomepkdaa
open Go.RowKit

def AllP : List Prop → Prop
  | [] => True
  | p :: l => p ∧ AllP l
/-- What is said ahead of an operation: the value that it leaves, numbers, the outcome of its guard. -/
structure Hint where
  av : Option AV := none
  k : Nat := 0
  m : Nat := 0
  b : Bool := true
  g : Bool := true

/-- What a step that asks nothing of the memory leaves. -/
def semEval {α : Type} (P : Program) : Sem α → Option α
  | .pure a => some a
  | .program k => semEval P (k P)
  | .mark _ k => semEval P k
  | _ => none
theorem semEval_run {α : Type} {P : Program} (w : World) : ∀ {x : Sem α} {a : α}, semEval P x = some a → x.run P w = .ok a w
  | .pure a, _, h => by injection h with h; subst h; rfl
  | .program k, a, h => by show (k P).run P w = _; exact semEval_run w h
  | .mark _ k, a, h => by show k.run P w = _; exact semEval_run w h
  | .load .., _, h | .store .., _, h | .new .., _, h | .shape .., _, h | .freeze .., _, h | .frozen .., _, h | .getObj .., _, h | .setObj .., _, h | .choose .., _, h | .sys .., _, h | .halt .., _, h => by cases h

def constAV0 : Value → AV
  | .slice none 0 0 => .nil
  | v => .val v
def constAV : Value → AV
  | .agg cs => .agg (cs.toList.map constAV0)
  | v => constAV0 v
def opd (s : AS) : Operand → AV
  | .tmp t => getF s t
  | .const v => constAV v
  | .global _ => .dead
  | .func f => .val (.func (.func f) #[] #[])

section
variable {I : Info} {S : Nat → Prop} {w : World}
theorem rep_const0 (v : Value) : Rep S w v (constAV0 v) := by
  unfold constAV0
  split
  · exact .nil
  · exact .val _
theorem rep_const (v : Value) : Rep S w v (constAV v) := by
  unfold constAV
  split
  · rename_i cs
    have := Rep.agg (S := S) (w := w) cs.toList (cs.toList.map constAV0) (by simp) (fun j v c hv hc => by
      rw [List.getElem?_map, hv] at hc
      injection hc with hc; subst hc; exact rep_const0 v)
    simpa using this
  · exact rep_const0 _
end

section
variable {S0 : Nat → Prop} {w0 w : World} {n : Nat} {O : List Nat} {s : AS} {a : Act} {φ : Nat → Option Nat} {P : Program}
theorem SimO.opd (h : SimO S0 w0 n O s a w φ) (x : Operand) : Den (infoOf s.H φ) (Free S0 w φ O) w (a.eval x) (opd s x) := by
  cases x with
  | tmp t => exact h.get t
  | const v => exact .rep (rep_const v)
  | global g => exact .dead _
  | func f => exact .rep (.val _)
end
theorem den_val {I : Info} {S : Nat → Prop} {w : World} {v u : Value} (h : Den I S w v (.val u)) : v = u := by
  cases h with | rep h => cases h; rfl

/-- The operation o leaves x, if C holds. -/
def PlainOK (P : Program) (s : AS) (o : Oper) (x : AV) (C : List Prop) : Prop :=
  AllP C → ∀ S0 w0 n O a w φ, SimO S0 w0 n O s a w φ → ∃ v, (execOp a.eval o).run P w = .ok (.value v) w ∧ Den (infoOf s.H φ) (Free S0 w φ O) w v x

/-- The value may be said otherwise. -/
def fin (h : Hint) (r : AV × List Prop) : AV × List Prop := match h.av with | none => r | some y => (y, (r.1 = y) :: r.2)
theorem fin_ok {P : Program} {s : AS} {o : Oper} {h : Hint} {r : AV × List Prop} (hr : PlainOK P s o r.1 r.2) : PlainOK P s o (fin h r).1 (fin h r).2 := by
  unfold fin
  split
  · exact hr
  · rename_i y _
    intro hC
    obtain ⟨rfl, hC⟩ := hC
    exact hr hC

def sizeT (P : Program) (t : TypeId) : Option Nat := (P.info? t).map (·.size)
def isAggT (P : Program) (t : TypeId) : Bool := match P.underlying t with | some (.struct _) | some (.array _ _) => true | _ => false
def isArrT (P : Program) (t : TypeId) : Bool := match P.underlying t with | some (.array _ _) => true | _ => false
def elemT (P : Program) (t : TypeId) : Option TypeId := match P.underlying t with | some (.slice e) => some e | _ => none

section
variable {P : Program} {w : World}
theorem run_sizeOf {t : TypeId} {k : Nat} (h : sizeT P t = some k) : (sizeOf t).run P w = .ok k w := by
  unfold sizeT at h
  cases hi : P.info? t with
  | none => rw [hi] at h; cases h
  | some i => rw [hi] at h; injection h with h; simp [sizeOf, typeInfo, hi, h]
theorem run_isAgg {t : TypeId} (hu : ∃ d, P.underlying t = some d) : (isAgg t).run P w = .ok (isAggT P t) w := by
  obtain ⟨d, hd⟩ := hu
  unfold isAgg isAggT
  simp only [Sem.run_bind, run_underlying hd, Result.andThen_ok, hd]
  cases d <;> rfl
end

-- the operations on values

def evBin (P : Program) (op : BinOp) (t : TypeId) (x y : Operand) (u v : Value) : Option (AV × List Prop) :=
  match op, u, v with
  | .quo, .int k a, .int k' b => if k = k' then some (.val (.int k (k.wrap (a.tdiv b))), [b ≠ 0]) else none
  | .rem, .int k a, .int k' b => if k = k' then some (.val (.int k (a.tmod b)), [b ≠ 0]) else none
  | .shl, .int k a, .int _ b => some (.val (.int k (k.wrap (a * 2 ^ min b.toNat k.bits))), [0 ≤ b])
  | .shr, .int k a, .int _ b => some (.val (.int k (a.fdiv (2 ^ min b.toNat k.bits))), [0 ≤ b])
  | op, u, v => match semEval P (do eqGuard op t x y u v; binOp op t u v) with | some z => some (.val z, []) | none => none
theorem evBin_ok {P : Program} {s : AS} {o : Oper} {op : BinOp} {t t' : TypeId} {x y : Operand} {u v : Value} {r : AV × List Prop} (ho : o.op = .binOp op t x y t') (hx : opd s x = .val u) (hy : opd s y = .val v) (h : evBin P op t x y u v = some r) : PlainOK P s o r.1 r.2 := by
  intro hC S0 w0 n O a w φ hs
  have ex : a.eval x = u := den_val (hx ▸ hs.opd x)
  have ey : a.eval y = v := den_val (hy ▸ hs.opd y)
  unfold execOp
  simp only [ho, ex, ey]
  unfold evBin at h
  split at h
  · split at h
    · rename_i hk
      injection h with h; subst h; subst hk
      have hb := hC.1
      refine ⟨_, ?_, .rep (.val _)⟩
      simp [eqGuard, binOp, Op.intDiv, hb]
    · cases h
  · split at h
    · rename_i hk
      injection h with h; subst h; subst hk
      have hb := hC.1
      refine ⟨_, ?_, .rep (.val _)⟩
      simp [eqGuard, binOp, Op.intDiv, hb]
    · cases h
  · injection h with h; subst h
    have hb : ¬ (_ : Int) < 0 := Int.not_lt.2 hC.1
    refine ⟨_, ?_, .rep (.val _)⟩
    simp [eqGuard, binOp, Op.shift, hb]
  · injection h with h; subst h
    have hb : ¬ (_ : Int) < 0 := Int.not_lt.2 hC.1
    refine ⟨_, ?_, .rep (.val _)⟩
    simp [eqGuard, binOp, Op.shift, hb]
  · split at h
    · rename_i z hz
      injection h with h; subst h
      refine ⟨z, ?_, .rep (.val _)⟩
      rw [Sem.run_bind, semEval_run w hz]; rfl
    · cases h

def evUn (P : Program) (op : UnOp) (u : Value) : Option (AV × List Prop) := match semEval P (Op.unary op u) with | some z => some (.val z, []) | none => none
theorem evUn_ok {P : Program} {s : AS} {o : Oper} {op : UnOp} {t : TypeId} {x : Operand} {u : Value} {r : AV × List Prop} (ho : o.op = .unOp op t x) (hx : opd s x = .val u) (h : evUn P op u = some r) : PlainOK P s o r.1 r.2 := by
  intro hC S0 w0 n O a w φ hs
  have ex : a.eval x = u := den_val (hx ▸ hs.opd x)
  unfold execOp
  simp only [ho, ex]
  unfold evUn at h
  split at h
  · rename_i z hz
    injection h with h; subst h
    refine ⟨z, ?_, .rep (.val _)⟩
    rw [Sem.run_bind, semEval_run w hz]; rfl
  · cases h

/-- What nobody writes while it is read: slices of own rows as plain slices. -/
def view0 (s : AS) : AV → Option AV
  | .ref id => match look s.H id with | some r => (match r.pure with | true => some (.sl r.e r.cells) | false => none) | none => none
  | .pre id n => match look s.H id with | some r => (match r.pure with | true => some (.sl r.e (r.cells.take n)) | false => none) | none => none
  | .win id o n => match look s.H id with | some r => (match r.pure with | true => some (.sl r.e ((r.cells.drop o).take n)) | false => none) | none => none
  | .addr id o => match look s.H id with | some r => (match r.pure with | true => some (.ptr r.cells o) | false => none) | none => none
  | .agg _ => none
  | .tup _ => none
  | .dead => none
  | .own _ _ => none
  | x => some x
def viewL (s : AS) : List AV → Option (List AV)
  | [] => some []
  | x :: l => match view0 s x, viewL s l with | some y, some m => some (y :: m) | _, _ => none
def view (s : AS) : AV → Option AV
  | .agg cs => match viewL s cs with | some l => some (.agg l) | none => none
  | x => view0 s x

section
variable {S0 : Nat → Prop} {w0 w : World} {n : Nat} {O : List Nat} {s : AS} {a : Act} {φ : Nat → Option Nat} {P : Program}
theorem row_pure (h : SimO S0 w0 n O s a w φ) {id : Nat} {r : Row} {g : Nat} (hr : look s.H id = some r) (hp : r.pure = true) (hg : φ id = some g) :
    ∃ cur te fr, w.heap[g]? = some (.cells cur te fr) ∧ (∀ j, j < cur.size → ¬ (fr.1 ≤ j ∧ j < fr.2)) ∧ r.cells.length ≤ cur.size ∧ ∀ (j : Nat) u x, cur[j]? = some u → r.cells[j]? = some x → Rep (Free S0 w φ O) w u x := by
  have hrow := h.rows id r hr
  unfold RowDen at hrow
  rw [hg] at hrow
  obtain ⟨cur, te, fr, hg', hf, hl, -, hc⟩ := hrow
  refine ⟨cur, te, fr, hg', hf, hl, fun j u x hu hx => ?_⟩
  have := hc j u x hu hx
  unfold CellDen at this; rw [hp] at this
  exact this
theorem free_lt (b : Nat) (h : Free S0 w φ O b) : b < w.heap.size ∧ w.heap[b]? = w.heap[b]? := ⟨h.1, rfl⟩
theorem take_get {α : Type} (l : List α) (k j : Nat) (x : α) (hx : (l.take k)[j]? = some x) : l[j]? = some x := by
  rw [List.getElem?_take] at hx
  split at hx
  · exact hx
  · cases hx
theorem sl_empty {S : Nat → Prop} (A : Option Addr) (l c e : Nat) (hn : 0 = e * l) (hc : l ≤ c) (hm : c ≤ maxLen) : Rep S w (.slice A l c) (.sl e []) :=
  .sl A l c e [] [] rfl hn hc hm (fun h => by simp at h) (fun j u x hu => by simp at hu)
/-- What a slice or an address in a row of the call's own reads, for every reader. -/
theorem view0_ok (h : SimO S0 w0 n O s a w φ) {v : Value} {x y : AV} (hx : Den (infoOf s.H φ) (Free S0 w φ O) w v x) (hv : view0 s x = some y) : Rep (fun b => b < w.heap.size) w v y := by
  cases hx with
  | rep h =>
    have := h.mono (free_lt (w := w) (φ := φ) (O := O))
    cases h <;> simp [view0] at hv <;> subst hv <;> exact this
  | agg vs cs _ _ => simp [view0] at hv
  | tup vs cs _ _ => simp [view0] at hv
  | dead v => simp [view0] at hv
  | ref id e m g l c hi hm hc hx hs =>
    obtain ⟨r, hr, he, hml, hφ⟩ := info_some hi
    simp only [view0, hr] at hv
    cases hp : r.pure with
    | false => rw [hp] at hv; cases hv
    | true =>
      rw [hp] at hv; injection hv with hv; subst hv
      obtain ⟨cur, te, fr, hg, hf, hl, hc'⟩ := row_pure h hr hp hφ
      exact sl_of_row (r := r) hg (h.rng id g hφ).2 r.cells 0 (by omega) (by rw [hml, he]; exact hm) hc hx _ (fun _ => rfl) (fun j u x hu hx => (hc' j u x (by simpa using hu) hx).mono free_lt)
  | refnil id e hi =>
    obtain ⟨r, hr, he, hml, hφ⟩ := info_some hi
    simp only [view0, hr] at hv
    cases hp : r.pure with
    | false => rw [hp] at hv; cases hv
    | true =>
      rw [hp] at hv; injection hv with hv; subst hv
      rw [List.length_eq_zero_iff.1 hml]
      exact sl_empty _ _ _ _ (by simp) (by simp) (by simp)
  | pre id k e m g l c hi hn hm hc hx hs =>
    obtain ⟨r, hr, he, hml, hφ⟩ := info_some hi
    simp only [view0, hr] at hv
    cases hp : r.pure with
    | false => rw [hp] at hv; cases hv
    | true =>
      rw [hp] at hv; injection hv with hv; subst hv
      obtain ⟨cur, te, fr, hg, hf, hl, hc'⟩ := row_pure h hr hp hφ
      exact sl_of_row (r := r) hg (h.rng id g hφ).2 (r.cells.take k) 0 (by rw [List.length_take]; omega) (by rw [List.length_take, he, ← hn]; omega) hc hx _ (fun _ => rfl) (fun j u x hu hx => (hc' j u x (by simpa using hu) (take_get _ _ _ _ hx)).mono free_lt)
  | prenil id e hi =>
    obtain ⟨r, hr, he, hml, hφ⟩ := info_some hi
    simp only [view0, hr] at hv
    cases hp : r.pure with
    | false => rw [hp] at hv; cases hv
    | true =>
      rw [hp] at hv; injection hv with hv; subst hv
      simp only [List.take_zero]
      exact sl_empty _ _ _ _ (by simp) (by simp) (by simp)
  | win id off k e m l c g A hi hn hm hc hx ha =>
    obtain ⟨r, hr, he, hml, hφ⟩ := info_some hi
    simp only [view0, hr] at hv
    cases hp : r.pure with
    | false => rw [hp] at hv; cases hv
    | true =>
      rw [hp] at hv; injection hv with hv; subst hv
      have hlen : ((r.cells.drop off).take k).length = k := by rw [List.length_take, List.length_drop]; omega
      by_cases hk : 0 < k
      · obtain ⟨b, hb, hA⟩ := ha hk
        rw [hb] at hφ
        obtain ⟨cur, te, fr, hg, hf, hl, hc'⟩ := row_pure h hr hp hφ
        exact sl_of_row (r := r) hg (h.rng id b hφ).2 ((r.cells.drop off).take k) off (by rw [hlen]; omega) (by rw [hlen, he, ← hn]) hc hx _ (fun _ => hA) (fun j u x hu hx => (hc' (off + j) u x hu (by have := take_get _ _ _ _ hx; rw [List.getElem?_drop] at this; exact this)).mono free_lt)
      · rw [show (r.cells.drop off).take k = [] from List.length_eq_zero_iff.1 (by omega)]
        exact sl_empty _ _ _ _ (by rw [he]; omega) hc hx
  | addr id off e m g hi =>
    obtain ⟨r, hr, he, hml, hφ⟩ := info_some hi
    simp only [view0, hr] at hv
    cases hp : r.pure with
    | false => rw [hp] at hv; cases hv
    | true =>
      rw [hp] at hv; injection hv with hv; subst hv
      obtain ⟨cur, te, fr, hg, hf, hl, hc'⟩ := row_pure h hr hp hφ
      exact ptr_of_row hg (h.rng id g hφ).2 r.cells hl (fun j u x hu hx => (hc' j u x hu hx).mono free_lt)
theorem viewL_ok (h : SimO S0 w0 n O s a w φ) : ∀ (cs l : List AV) (vs : List Value), viewL s cs = some l → vs.length = cs.length → (∀ (j : Nat) v c, vs[j]? = some v → cs[j]? = some c → Den (infoOf s.H φ) (Free S0 w φ O) w v c) →
    l.length = cs.length ∧ ∀ (j : Nat) v c, vs[j]? = some v → l[j]? = some c → Rep (fun b => b < w.heap.size) w v c
  | [], l, vs, hv, hl, hd => by simp [viewL] at hv; subst hv; exact ⟨rfl, fun j v c _ hc => by simp at hc⟩
  | x :: cs, l, [], hv, hl, hd => by simp at hl
  | x :: cs, l, v0 :: vs, hv, hl, hd => by
    simp only [viewL] at hv
    cases h1 : view0 s x with
    | none => rw [h1] at hv; cases hv
    | some y =>
      cases h2 : viewL s cs with
      | none => rw [h1, h2] at hv; cases hv
      | some m =>
        rw [h1, h2] at hv; injection hv with hv; subst hv
        obtain ⟨e1, e2⟩ := viewL_ok h cs m vs h2 (by simpa using hl) fun j v c hv hc => hd (j + 1) v c (by simpa using hv) (by simpa using hc)
        refine ⟨by simp [e1], fun j v c hv hc => ?_⟩
        cases j with
        | zero => simp at hv hc; subst hv; subst hc; exact view0_ok h (hd 0 _ _ rfl rfl) h1
        | succ j => exact e2 j v c (by simpa using hv) (by simpa using hc)
theorem view_ok (h : SimO S0 w0 n O s a w φ) {v : Value} {x y : AV} (hx : Den (infoOf s.H φ) (Free S0 w φ O) w v x) (hv : view s x = some y) : Rep (fun b => b < w.heap.size) w v y := by
  by_cases hc : ∃ cs, x = .agg cs
  · obtain ⟨cs, rfl⟩ := hc
    obtain ⟨vs, rfl, hl, hd⟩ := den_agg hx
    simp only [view] at hv
    cases h1 : viewL s cs with
    | none => rw [h1] at hv; cases hv
    | some l =>
      rw [h1] at hv; injection hv with hv; subst hv
      obtain ⟨e1, e2⟩ := viewL_ok h cs l vs h1 hl hd
      exact .agg vs l (by omega) e2
  · have : view s x = view0 s x := by
      cases x with
      | agg cs => exact absurd ⟨cs, rfl⟩ hc
      | _ => rfl
    rw [this] at hv
    exact view0_ok h hx hv
end

def bytesA (bs : List UInt8) : List AV := bs.map fun c => .val (.int .u8 (bv c))
def wordsA (l : List UInt64) : List AV := l.map fun c => .val (.int .u64 (wv c))
def intsA (l : List Int) : List AV := l.map fun c => .val (.int .i64 c)
theorem bytesA_len (l : List UInt8) : (bytesA l).length = l.length := by simp [bytesA]
theorem wordsA_len (l : List UInt64) : (wordsA l).length = l.length := by simp [wordsA]
theorem intsA_len (l : List Int) : (intsA l).length = l.length := by simp [intsA]

/-- A plain slice of bytes, as the walks read it. -/
theorem rep_bytes {S : Nat → Prop} {w : World} {v : Value} {bs : List UInt8} (h : Rep S w v (.sl 1 (bytesA bs))) (hS : ∀ b, S b → b < w.heap.size) : SliceAt w v (bvs bs) := by
  cases h with
  | sl A n c e us row hl hn hc hm ha h =>
    have hus : us = bvs bs := by
      apply List.ext_getElem?
      intro j
      cases hu : us[j]? with
      | none =>
        have : us.length ≤ j := List.getElem?_eq_none_iff.1 hu
        rw [List.getElem?_eq_none (by rw [bvs_len]; rw [bytesA_len] at hl; omega)]
      | some u =>
        have hj : j < bs.length := by have := (List.getElem?_eq_some_iff.1 hu).1; rw [hl, bytesA_len] at this; exact this
        have hx : (bytesA bs)[j]? = some (.val (.int .u8 (bv bs[j]))) := by simp [bytesA, hj]
        have := h j u _ hu hx
        cases this
        simp [bvs, hj]
    subst hus
    rw [bytesA_len] at hn ha
    have hn' : bs.length = n := by omega
    subst hn'
    refine ⟨A, c, by rw [bvs_len], by rw [bvs_len]; exact hc, hm, by rw [bvs_len], fun h0 => ?_⟩
    rw [bvs_len] at h0
    obtain ⟨ad, e, hs, hcell⟩ := ha h0
    exact ⟨ad, e, hS _ hs, hcell⟩

def evConv (P : Program) (s : AS) (src dst : TypeId) (x : AV) (h : Hint) : Option (AV × List Prop) :=
  match x with
  | .val u => (match semEval P (convert src dst u) with | some z => some (fin h (.val z, [])) | none => none)
  | x =>
    match P.underlying src, P.underlying dst, view s x, h.av with
    | some (.slice e), some .string, some (.sl 1 row), some (.val (.string b)) =>
      (match P.underlying e with | some (.int .u8) => some (.val (.string b), [row = bytesA b.data.toList]) | _ => none)
    | _, _, _, _ => none
theorem evConv_ok {P : Program} {s : AS} {o : Oper} {src dst : TypeId} {x : Operand} {h : Hint} {r : AV × List Prop} (ho : o.op = .convert src dst x) (hr : evConv P s src dst (opd s x) h = some r) : PlainOK P s o r.1 r.2 := by
  unfold evConv at hr
  split at hr
  · rename_i u hx
    split at hr
    · rename_i z hz
      injection hr with hr; subst hr
      apply fin_ok
      intro hC S0 w0 n O a w φ hs
      have ex : a.eval x = u := den_val (hx ▸ hs.opd x)
      unfold execOp
      simp only [ho, ex]
      refine ⟨z, ?_, .rep (.val _)⟩
      rw [Sem.run_bind, semEval_run w hz]; rfl
    · cases hr
  · split at hr
    · rename_i e row b h1 h2 h3 h4
      split at hr
      · rename_i h5
        injection hr with hr; subst hr
        intro hC S0 w0 n O a w φ hs
        have hv := view_ok hs (hs.opd x) h3
        rw [hC.1] at hv
        have hrun := run_string_of (P := P) (rep_bytes hv (fun _ h => h)) src dst e h1 h5 h2
        unfold execOp
        simp only [ho]
        refine ⟨.string b, ?_, .rep (.val _)⟩
        rw [Sem.run_bind, hrun]; rfl
      · cases hr
    · cases hr
end Go.Proofs.Ytbehdllomepkdaa
