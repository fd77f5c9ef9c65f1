/-
  One operation, and a region in its order, on plain states. Over any program. No condition.
-/
import Derived.Test.YtbehdllomepkdaaR12
import Derived.Orders
namespace Go.Proofs.Ytbehdllomepkdaa
open Go.RowKit

def evPut (P : Program) (n : Nat) (s : AS) (o : Oper) (h : Hint) : Option (AS × List Prop) :=
  match evPlain P s o h with
  | some (x, C) => (match putD n s o.dst x with | some s' => some (s', C) | none => none)
  | none => none
def evOp (P : Program) (n : Nat) (s : AS) (o : Oper) (h : Hint) : Option (AS × List Prop) :=
  match o.op with
  | .alloc t => (match o.dst with | some d => evAlloc P n s d t h | none => none)
  | .box t x => (match o.dst with | some d => evBox P n s d t (opd s x) | none => none)
  | .buildSlice t len parts => (match o.dst with | some d => evLit P n s d t len parts.toList h | none => none)
  | .makeSlice t l c => (match opd s l, opd s c, o.dst with | .val (.int _ L), .val (.int _ C), some d => evMake P n s d t L C h | _, _, _ => none)
  | .convert src dst x => (match opd s x, P.underlying dst, o.dst with | .val (.string b), some (.slice _), some d => evBytes P n s d src dst b | _, _, _ => evPut P n s o h)
  | .store t x y => (match o.dst with | none => evStore P s t x y h | some _ => none)
  | .call ⟨.builtin .append, ⟨[x, y]⟩, ⟨[t, xt]⟩⟩ => (match o.dst with | some d => evAppend P n s d t xt (opd s x) (opd s y) h | none => none)
  | .call ⟨.builtin .copy, ⟨[x, y]⟩, ⟨[t, xt]⟩⟩ => evCopy P n s o.dst t xt (opd s x) (opd s y) h
  | .call ⟨.builtin _, _, _⟩ => evPut P n s o h
  | .call ⟨c, xs, _⟩ => evCall P n s o.dst c xs.toList h
  | _ => evPut P n s o h
section
variable {P : Program} {n : Nat} {s : AS} {o : Oper} {h : Hint} {q : AS × List Prop}
theorem evPut_ok (hr : evPut P n s o h = some q) : OpOK P n s o q.1 q.2 := by
  unfold evPut at hr
  split at hr
  · rename_i x C hp
    split at hr
    · rename_i s' hs'
      cases hr
      exact plain_op (evPlain_ok hp) hs'
    · cases hr
  · cases hr
theorem evOp_ok (hr : evOp P n s o h = some q) : OpOK P n s o q.1 q.2 := by
  unfold evOp at hr
  split at hr
  · rename_i ho
    split at hr
    · rename_i hd; exact evAlloc_ok ho hd hr
    · cases hr
  · rename_i ho
    split at hr
    · rename_i hd; exact evBox_ok ho hd hr
    · cases hr
  · rename_i ho
    split at hr
    · rename_i hd; exact evLit_ok ho hd hr
    · cases hr
  · rename_i ho
    split at hr
    · rename_i hl hc hd; exact evMake_ok ho hl hc hd hr
    · cases hr
  · rename_i ho
    split at hr
    · rename_i hx _ hd; exact evBytes_ok ho hx hd hr
    · exact evPut_ok hr
  · rename_i ho
    split at hr
    · rename_i hd; exact evStore_ok ho hd hr
    · cases hr
  · rename_i ho
    split at hr
    · rename_i hd; exact evAppend_ok ho hd hr
    · cases hr
  · rename_i ho; exact evCopy_ok ho hr
  · exact evPut_ok hr
  · rename_i ho; exact evCall_ok ho hr
  · exact evPut_ok hr
end

/-- An operation with its guard. -/
def evG (P : Program) (n : Nat) (ops : List Oper) (s : AS) (o : Oper) (h : Hint) : Option (AS × List Prop) :=
  match o.guard with
  | none => evOp P n s o h
  | some (j, want) => (match ops[j]? with
    | some p => (match p.dst with
      | some d => (match getF s d with
        | .val (.bool b) => (match h.g == want with
          | true => (match evOp P n s o h with | some (s', C) => some (s', (b = h.g) :: C) | none => none)
          | false => (match putD n s o.dst .dead with | some s' => some (s', [b = h.g]) | none => none))
        | _ => none)
      | none => none)
    | none => none)
def hintAt (hs : List (Nat × Hint)) (i : Nat) : Hint := match look hs i with | some h => h | none => {}
def evOps (P : Program) (n : Nat) (ops : List Oper) (hs : List (Nat × Hint)) : List Oper → Nat → AS → Option (AS × List Prop)
  | [], _, s => some (s, [])
  | o :: l, i, s => match evG P n ops s o (hintAt hs i) with
    | some (s1, C) => (match evOps P n ops hs l (i + 1) s1 with | some (s2, D) => some (s2, C ++ D) | none => none)
    | none => none
section
variable {P : Program} {n : Nat} {ops : List Oper} {S0 : Nat → Prop} {w0 : World} {Q : Exit → Act → World → Prop}
theorem den_bool {I : Info} {S : Nat → Prop} {w : World} {a : Act} {d : Nat} {b : Bool} (h : Den I S w (a.tmps.getD d undef) (.val (.bool b))) : a.tmps[d]? = some (.bool b) := by
  have h' := den_val h
  cases ht : a.tmps[d]? with
  | none => simp [ht, undef] at h'
  | some u => simp [ht] at h'; rw [h']
theorem yielded_at {a : Act} {j d : Nat} {p : Oper} {b : Bool} (hp : ops[j]? = some p) (hd : p.dst = some d) (ht : a.tmps[d]? = some (.bool b)) : yielded ops.toArray a.tmps j = some b := by
  unfold yielded
  simp [hp, hd, ht]
/-- What an operation with its guard does. -/
theorem evG_ok {s : AS} {o : Oper} {h : Hint} {q : AS × List Prop} (hr : evG P n ops s o h = some q) (hC : AllP q.2) {a : Act} {w : World} (hs : Sim S0 w0 n s a w) (K : Act → World → Prop) (hK : ∀ a' w', Sim S0 w0 n q.1 a' w' → K a' w') :
    if Region.wanted o (yielded ops.toArray a.tmps) then o.wp P a w K Q ∨ (o.asks P a w ∧ LetsOut Q) else K (a.put o.dst undef) w := by
  unfold evG at hr
  split at hr
  · rename_i hg
    have hw : Region.wanted o (yielded ops.toArray a.tmps) = true := by unfold Region.wanted; rw [hg]
    rw [if_pos hw]
    exact .inl (Oper.wp_mono hK (evOp_ok hr hC S0 w0 a w Q hs))
  · rename_i j want hg
    split at hr
    · rename_i p hp
      split at hr
      · rename_i d hd
        split at hr
        · rename_i b hb
          obtain ⟨φ, hs'⟩ := hs
          have ht := hs'.get d
          rw [hb] at ht
          have hy := yielded_at (ops := ops) hp hd (den_bool ht)
          split at hr
          · rename_i hwant
            split at hr
            · rename_i s' C he
              cases hr
              obtain ⟨hbg, hC⟩ := hC
              have hw : Region.wanted o (yielded ops.toArray a.tmps) = true := by
                unfold Region.wanted; rw [hg]; simp only [hy, hbg]
                have : h.g = want := by simpa using hwant
                rw [this]; simp
              rw [if_pos hw]
              exact .inl (Oper.wp_mono hK (evOp_ok he hC S0 w0 a w Q ⟨φ, hs'⟩))
            · cases hr
          · rename_i hwant
            split at hr
            · rename_i s' hp'
              cases hr
              obtain ⟨hbg, -⟩ := hC
              have hw : ¬ Region.wanted o (yielded ops.toArray a.tmps) = true := by
                unfold Region.wanted; rw [hg]; simp only [hy, hbg]
                have : ¬ h.g = want := by simpa using hwant
                simpa using this
              rw [if_neg hw]
              exact hK _ _ ⟨φ, putD_ok hs' (.dead _) hp'⟩
            · cases hr
        · cases hr
      · cases hr
    · cases hr
theorem evOps_ok {hs : List (Nat × Hint)} : ∀ (l : List Oper) (i : Nat) (s s' : AS) (C : List Prop), evOps P n ops hs l i s = some (s', C) → AllP C → ∀ (a : Act) (w : World), Sim S0 w0 n s a w → (∀ a' w', Sim S0 w0 n s' a' w' → Q .normal a' w') → wpList P ops.toArray Q l a w
  | [], i, s, s', C, he, hC, a, w, hs, hQ => by cases he; exact hQ a w hs
  | o :: l, i, s, s', C, he, hC, a, w, hs, hQ => by
    simp only [evOps] at he
    split at he
    · rename_i s1 C1 h1
      split at he
      · rename_i s2 D h2
        cases he
        obtain ⟨hC1, hD⟩ := allP_app.1 hC
        have := evG_ok (S0 := S0) (w0 := w0) (Q := Q) h1 hC1 hs (wpList P ops.toArray Q l) (fun a' w' h' => evOps_ok l (i + 1) s1 s' D h2 hD a' w' h' hQ)
        unfold wpList
        exact this
      · cases he
    · cases he
end
end Go.Proofs.Ytbehdllomepkdaa
