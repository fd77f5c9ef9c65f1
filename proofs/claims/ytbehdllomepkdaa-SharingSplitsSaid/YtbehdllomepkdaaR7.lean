/-
  Structs put together; new memory: variables, literals, make, bytes of a string. What the plain state becomes, and that this is right. Over any program. No condition.
-/
import Derived.Test.YtbehdllomepkdaaR6
namespace Go.Proofs.Ytbehdllomepkdaa
open Go.RowKit

def avCells : AV → Option (List AV)
  | .val u => (match u.oneCell' with | true => some [.val u] | false => none)
  | .agg cs => some cs
  | .arr cs => some cs
  | .tup _ => none
  | .dead => none
  | .own _ _ => none
  | x => some [x]
theorem one_cells {v : Value} (h : v.oneCell' = true) : v.cells = [v].toArray := by
  cases v <;> first | rfl | cases h
theorem den_cells {I : Info} {S : Nat → Prop} {w : World} {v : Value} {x : AV} {l : List AV} (hd : Den I S w v x) (hl : avCells x = some l) :
    ∃ vs : List Value, v.cells = vs.toArray ∧ vs.length = l.length ∧ ∀ (j : Nat) u c, vs[j]? = some u → l[j]? = some c → Den I S w u c := by
  have single : ∀ y, Den I S w v y → v.oneCell' = true → l = [y] → ∃ vs : List Value, v.cells = vs.toArray ∧ vs.length = l.length ∧ ∀ (j : Nat) u c, vs[j]? = some u → l[j]? = some c → Den I S w u c := by
    intro y hy ho hl
    subst hl
    refine ⟨[v], one_cells ho, rfl, fun j u c hu hc => ?_⟩
    cases j with
    | zero => simp at hu hc; subst hu; subst hc; exact hy
    | succ j => simp at hu
  have hd0 := hd
  cases hd with
  | rep h => cases h with
    | val v =>
      unfold avCells at hl
      simp only at hl
      split at hl
      · rename_i ho; injection hl with hl; exact single _ hd0 ho hl.symm
      · cases hl
    | nil => injection hl with hl; exact single _ hd0 rfl hl.symm
    | agg vs cs hlen h => injection hl with hl; subst hl; exact ⟨vs, rfl, hlen, fun j u c hu hc => .rep (h j u c hu hc)⟩
    | tup vs cs hlen h => cases hl
    | arr vs cs hlen h => injection hl with hl; subst hl; exact ⟨vs, rfl, hlen, fun j u c hu hc => .rep (h j u c hu hc)⟩
    | sl => injection hl with hl; exact single _ hd0 rfl hl.symm
    | ptr => injection hl with hl; exact single _ hd0 rfl hl.symm
  | agg vs cs hlen h => injection hl with hl; subst hl; exact ⟨vs, rfl, hlen, h⟩
  | tup => cases hl
  | dead => cases hl
  | ref => injection hl with hl; exact single _ hd0 rfl hl.symm
  | refnil => injection hl with hl; exact single _ hd0 rfl hl.symm
  | pre => injection hl with hl; exact single _ hd0 rfl hl.symm
  | prenil => injection hl with hl; exact single _ hd0 rfl hl.symm
  | win => injection hl with hl; exact single _ hd0 rfl hl.symm
  | addr => injection hl with hl; exact single _ hd0 rfl hl.symm

-- build

def fillA (place : Nat → Option (Nat × Nat)) (cells : List AV) : List (Nat × AV) → Option (List AV)
  | [] => some cells
  | (i, x) :: rest => match place i, avCells x with
    | some (off, size), some l => (match Nat.beq l.length size, Nat.ble (off + l.length) cells.length with
      | true, true => fillA place (cells.take off ++ l ++ cells.drop (off + l.length)) rest
      | _, _ => none)
    | _, _ => none
theorem foldl_set (off : Nat) : ∀ (vs : List Value) (k : Nat) (cells : Array Value) (p : Nat), ((vs.zipIdx k).foldl (fun cs (cj : Value × Nat) => cs.setIfInBounds (off + cj.2) cj.1) cells)[p]? = if off + k ≤ p ∧ p < off + k + vs.length ∧ p < cells.size then vs[p - (off + k)]? else cells[p]?
  | [], k, cells, p => by simp; omega
  | v :: vs, k, cells, p => by
    simp only [List.zipIdx_cons, List.foldl_cons]
    rw [foldl_set off vs (k + 1)]
    simp only [Array.size_setIfInBounds, List.length_cons]
    by_cases h1 : off + (k + 1) ≤ p ∧ p < off + (k + 1) + vs.length ∧ p < cells.size
    · rw [if_pos h1, if_pos (by omega)]
      rw [show p - (off + k) = (p - (off + (k + 1))) + 1 by omega, List.getElem?_cons_succ]
    · rw [if_neg h1]
      by_cases h2 : off + k = p
      · subst h2
        by_cases h3 : off + k < cells.size
        · rw [Array.getElem?_setIfInBounds_self_of_lt h3, if_pos (by omega)]; simp
        · rw [if_neg (by omega), Array.getElem?_eq_none (by simp; omega), Array.getElem?_eq_none (by omega)]
      · rw [Array.getElem?_setIfInBounds_ne h2, if_neg (by omega)]
theorem foldl_size (off : Nat) : ∀ (vs : List (Value × Nat)) (cells : Array Value), (vs.foldl (fun cs (cj : Value × Nat) => cs.setIfInBounds (off + cj.2) cj.1) cells).size = cells.size
  | [], _ => rfl
  | v :: vs, cells => by rw [List.foldl_cons, foldl_size off vs]; simp
theorem fill_ok {I : Info} {S : Nat → Prop} {w : World} (place : Nat → Option (Nat × Nat)) : ∀ (parts : List (Nat × AV)) (vparts : List (Nat × Value)) (cells out : List AV) (cs : Array Value), fillA place cells parts = some out → vparts.map (·.1) = parts.map (·.1) →
    (∀ (j : Nat) v x, vparts[j]? = some v → parts[j]? = some x → Den I S w v.2 x.2) → cs.size = cells.length → (∀ (j : Nat) u c, cs[j]? = some u → cells[j]? = some c → Den I S w u c) →
    ∃ us : List Value, Instr.fill place cs vparts = some us.toArray ∧ us.length = out.length ∧ ∀ (j : Nat) u c, us[j]? = some u → out[j]? = some c → Den I S w u c
  | [], vparts, cells, out, cs, hf, hm, hp, hs, hd => by
    have : vparts = [] := by simpa using hm
    subst this
    injection hf with hf; subst hf
    exact ⟨cs.toList, by simp [Instr.fill], by simpa using hs, fun j u c hu hc => hd j u c (by simpa using hu) hc⟩
  | (i, x) :: parts, vparts, cells, out, cs, hf, hm, hp, hs, hd => by
    cases vparts with
    | nil => simp at hm
    | cons p vparts =>
      obtain ⟨i', v⟩ := p
      simp only [List.map_cons, List.cons.injEq] at hm
      obtain ⟨hi, hm⟩ := hm
      subst hi
      have hv := hp 0 (i', v) (i', x) rfl rfl
      simp only [fillA] at hf
      split at hf
      · rename_i off size l hpl hl
        split at hf
        · rename_i hb1 hb2
          have h1 := Nat.eq_of_beq_eq_true hb1
          have h2 : off + l.length ≤ cells.length := Nat.le_of_ble_eq_true hb2
          obtain ⟨vs, hvs, hlen, hden⟩ := den_cells hv hl
          have hz : v.cells.zipIdx.foldl (fun cs (cj : Value × Nat) => cs.setIfInBounds (off + cj.2) cj.1) cs = (vs.zipIdx).foldl (fun cs (cj : Value × Nat) => cs.setIfInBounds (off + cj.2) cj.1) cs := by
            rw [hvs]; simp
          have ih := fill_ok (I := I) (S := S) (w := w) place parts vparts (cells.take off ++ l ++ cells.drop (off + l.length)) out ((vs.zipIdx).foldl (fun cs (cj : Value × Nat) => cs.setIfInBounds (off + cj.2) cj.1) cs) hf hm (fun j v x hv hx => hp (j + 1) v x (by simpa using hv) (by simpa using hx)) (by
              rw [foldl_size, hs]; simp only [List.length_append, List.length_take, List.length_drop]; omega) (fun j u c hu hc => by
              rw [foldl_set off vs 0 cs j] at hu
              simp only [Nat.add_zero] at hu
              split at hu
              · rename_i hj
                rw [List.getElem?_append_left (by simp only [List.length_append, List.length_take]; omega), List.getElem?_append_right (by simp only [List.length_take]; omega)] at hc
                refine hden _ u c hu ?_
                rw [← hc]; congr 1; simp only [List.length_take]; omega
              · rename_i hj
                have hjs : j < cs.size := by
                  rcases Nat.lt_or_ge j cs.size with h | h
                  · exact h
                  · rw [Array.getElem?_eq_none h] at hu; cases hu
                refine hd j u c hu ?_
                by_cases hjo : j < off
                · rw [List.getElem?_append_left (by simp only [List.length_append, List.length_take]; omega), List.getElem?_append_left (by simp only [List.length_take]; omega), List.getElem?_take, if_pos hjo] at hc
                  exact hc
                · rw [List.getElem?_append_right (by simp only [List.length_append, List.length_take]; omega), List.getElem?_drop] at hc
                  rw [← hc]; congr 1; simp only [List.length_append, List.length_take]; omega)
          obtain ⟨us, hus, r⟩ := ih
          refine ⟨us, ?_, r⟩
          have hvz : v.cells.size = l.length := by rw [hvs]; simpa using hlen
          unfold Instr.fill
          rw [hpl]
          simp only
          rw [if_neg (by rw [hvz, ← h1, hs]; simp; omega), hz]
          exact hus
        · cases hf
      · cases hf

def placesA (P : Program) : List Field → Option (List (Nat × Nat))
  | [] => some []
  | f :: l => match sizeT P f.type, placesA P l with | some z, some m => some ((f.offset, z) :: m) | _, _ => none
theorem run_places {P : Program} {w : World} : ∀ (l : List Field) (m : List (Nat × Nat)), placesA P l = some m → (l.mapM fun f => (do pure (f.offset, ← sizeOf f.type) : Sem (Nat × Nat))).run P w = .ok m w
  | [], m, h => by cases h; rfl
  | f :: l, m, h => by
    simp only [placesA] at h
    split at h
    · rename_i z q hz hq
      cases h
      have := run_places (w := w) l q hq
      have hz' : (sizeOf f.type).run P w = .ok z w := run_sizeOf hz
      simp only [List.mapM_cons, Sem.run_bind, hz', Result.andThen_ok, Sem.run_pure, this]
    · cases h
def partsOf (s : AS) : List (Nat × Operand) → List (Nat × AV)
  | [] => []
  | (i, x) :: l => (i, opd s x) :: partsOf s l
def evBuild (P : Program) (s : AS) (t : TypeId) (parts : List (Nat × Operand)) : Option (AV × List Prop) :=
  match (P.info? t).bind (·.zero), P.underlying t with
  | some z, some (.struct fields) => (match placesA P fields.toList with
    | some places => (match fillA (fun i => places[i]?) (z.cells.toList.map constAV0) (partsOf s parts) with | some l => some (.agg l, []) | none => none)
    | none => none)
  | some z, some (.array _ el) => (match sizeT P el with
    | some k => (match fillA (fun i => some (i * k, k)) (z.cells.toList.map constAV0) (partsOf s parts) with | some l => some (.agg l, []) | none => none)
    | none => none)
  | _, _ => none
section
variable {P : Program} {s : AS} {o : Oper} {h : Hint} {r : AV × List Prop}
theorem partsOf_fst (parts : List (Nat × Operand)) (f : Operand → Value) : (parts.map fun p => (p.1, f p.2)).map (·.1) = (partsOf s parts).map (·.1) := by
  induction parts with
  | nil => rfl
  | cons p l ih => obtain ⟨i, x⟩ := p; simp only [List.map_cons, partsOf, ih]
theorem partsOf_den {S0 : Nat → Prop} {w0 w : World} {n : Nat} {O : List Nat} {a : Act} {φ : Nat → Option Nat} (hs : SimO S0 w0 n O s a w φ) : ∀ (parts : List (Nat × Operand)) (j : Nat) (v : Nat × Value) (x : Nat × AV), (parts.map fun p => (p.1, a.eval p.2))[j]? = some v → (partsOf s parts)[j]? = some x → Den (infoOf s.H φ) (Free S0 w φ O) w v.2 x.2
  | [], j, v, x, hv, hx => by simp at hv
  | (i, y) :: l, j, v, x, hv, hx => by
    cases j with
    | zero => simp [partsOf] at hv hx; subst hv; subst hx; exact hs.opd y
    | succ j => exact partsOf_den hs l j v x (by simpa using hv) (by simpa [partsOf] using hx)
theorem run_zero {w : World} {t : TypeId} {z : Value} (h : (P.info? t).bind (·.zero) = some z) : (zeroValue t).run P w = .ok z w := by
  cases hi : P.info? t with
  | none => rw [hi] at h; cases h
  | some i => rw [hi] at h; simp at h; simp [zeroValue, typeInfo, hi, h]
theorem zero_cells {I : Info} {S : Nat → Prop} {w : World} (z : Value) (j : Nat) (u : Value) (c : AV) (hu : z.cells[j]? = some u) (hc : (z.cells.toList.map constAV0)[j]? = some c) : Den I S w u c := by
  rw [List.getElem?_map] at hc
  have : z.cells.toList[j]? = some u := by simpa using hu
  rw [this] at hc
  injection hc with hc; subst hc
  exact .rep (rep_const0 u)
theorem evBuild_ok {t : TypeId} {parts : Array (Nat × Operand)} (ho : o.op = .build t parts) (hr : evBuild P s t parts.toList = some r) : PlainOK P s o r.1 r.2 := by
  intro hC S0 w0 n O a w φ hs
  unfold evBuild at hr
  have hpl : (parts.map fun p => (p.1, a.eval p.2)).toList = parts.toList.map fun p => (p.1, a.eval p.2) := by simp
  split at hr
  · rename_i z fields hz hu
    split at hr
    · rename_i places hp
      split at hr
      · rename_i l hl
        injection hr with hr; subst hr
        obtain ⟨us, hus, hlen, hden⟩ := fill_ok (I := infoOf s.H φ) (S := Free S0 w φ O) (w := w) (fun i => places[i]?) (partsOf s parts.toList) (parts.toList.map fun p => (p.1, a.eval p.2)) _ l z.cells hl (partsOf_fst _ _) (partsOf_den hs parts.toList) (by simp) (zero_cells z)
        refine ⟨.agg us.toArray, ?_, .agg us l hlen hden⟩
        have hm : (fields.mapM fun f => (do pure (f.offset, ← sizeOf f.type) : Sem (Nat × Nat))).run P w = .ok places.toArray w := by
          rw [Array.mapM_eq_mapM_toList, Sem.run_map, run_places _ _ hp]; rfl
        have hfill : Instr.fill (fun i => places.toArray[i]?) z.cells (parts.map fun p => (p.1, a.eval p.2)).toList = some us.toArray := by
          rw [hpl, ← hus]; congr 1; funext i; simp
        unfold execOp
        simp only [ho, Instr.build, Sem.run_bind, run_zero hz, Result.andThen_ok, run_underlying hu]
        rw [hm]
        simp only [Result.andThen_ok]
        rw [hfill]
        rfl
      · cases hr
    · cases hr
  · rename_i z n' el hz hu
    split at hr
    · rename_i k hk
      split at hr
      · rename_i l hl
        injection hr with hr; subst hr
        obtain ⟨us, hus, hlen, hden⟩ := fill_ok (I := infoOf s.H φ) (S := Free S0 w φ O) (w := w) (fun i => some (i * k, k)) (partsOf s parts.toList) (parts.toList.map fun p => (p.1, a.eval p.2)) _ l z.cells hl (partsOf_fst _ _) (partsOf_den hs parts.toList) (by simp) (zero_cells z)
        refine ⟨.agg us.toArray, ?_, .agg us l hlen hden⟩
        have hk' : (sizeOf el).run P w = .ok k w := run_sizeOf hk
        unfold execOp
        simp only [ho, Instr.build, Sem.run_bind, run_zero hz, Result.andThen_ok, run_underlying hu, hk']
        rw [hpl, hus]
        rfl
      · cases hr
    · cases hr
  · cases hr

/-- A plain operation. -/
def evPlain (P : Program) (s : AS) (o : Oper) (h : Hint) : Option (AV × List Prop) :=
  match o.op with
  | .move x => some (fin h (opd s x, []))
  | .assign x => some (fin h (opd s x, []))
  | .binOp op t x y _ => (match opd s x, opd s y with | .val u, .val v => (match evBin P op t x y u v with | some r => some (fin h r) | none => none) | _, _ => none)
  | .unOp op _ x => (match opd s x with | .val u => (match evUn P op u with | some r => some (fin h r) | none => none) | _ => none)
  | .convert src dst x => evConv P s src dst (opd s x) h
  | .load t x => evLoad P s t (opd s x) h
  | .fieldAddr t x f => evFieldAddr P t (opd s x) f
  | .indexAddr t x i => (match opd s i with | .val (.int _ n) => evIdx P s t (opd s x) n h | _ => none)
  | .index t x i => (match opd s i with | .val (.int _ n) => evIndex P t (opd s x) n h | _ => none)
  | .slice t x lo hi mx => (match cutOf s lo hi mx with | some c => evSlice P s t (opd s x) c h | none => none)
  | .field t x f => evField P t (opd s x) f h
  | .extract x i => evExtract (opd s x) i
  | .nilCheck x => evNil (opd s x)
  | .pick c x y => (match evPick s c x y h with | some r => some (fin h r) | none => none)
  | .build t parts => evBuild P s t parts.toList
  | .call ⟨.builtin .len, ⟨[x]⟩, ts⟩ => evLen P s ts o.type (opd s x) h
  | .call ⟨.builtin b, xs, ts⟩ => (match valsOf s xs.toList with | some us => (match evMM P b ts o.type us with | some r => some (fin h r) | none => none) | none => none)
  | _ => none
theorem evPlain_ok (hr : evPlain P s o h = some r) : PlainOK P s o r.1 r.2 := by
  unfold evPlain at hr
  split at hr
  · rename_i x ho
    injection hr with hr; subst hr
    refine fin_ok fun _ S0 w0 n O a w φ hs => ⟨a.eval x, ?_, hs.opd x⟩
    unfold execOp; simp only [ho]; rfl
  · rename_i x ho
    injection hr with hr; subst hr
    refine fin_ok fun _ S0 w0 n O a w φ hs => ⟨a.eval x, ?_, hs.opd x⟩
    unfold execOp; simp only [ho]; rfl
  · rename_i op t x y t' ho
    split at hr
    · rename_i u v hu hv
      split at hr
      · rename_i q hq
        injection hr with hr; subst hr
        exact fin_ok (evBin_ok ho hu hv hq)
      · cases hr
    · cases hr
  · rename_i op t x ho
    split at hr
    · rename_i u hu
      split at hr
      · rename_i q hq
        injection hr with hr; subst hr
        exact fin_ok (evUn_ok ho hu hq)
      · cases hr
    · cases hr
  · rename_i ho; exact evConv_ok ho hr
  · rename_i ho; exact evLoad_ok ho hr
  · rename_i ho; exact evFieldAddr_ok ho hr
  · rename_i ho
    split at hr
    · rename_i hi; exact evIdx_ok ho hi hr
    · cases hr
  · rename_i ho
    split at hr
    · rename_i hi; exact evIndex_ok ho hi hr
    · cases hr
  · rename_i ho
    split at hr
    · rename_i hc; exact evSlice_ok ho hc hr
    · cases hr
  · rename_i ho; exact evField_ok ho hr
  · rename_i ho; exact evExtract_ok ho hr
  · rename_i ho; exact evNil_ok ho hr
  · rename_i ho
    split at hr
    · rename_i q hq
      injection hr with hr; subst hr
      exact fin_ok (evPick_ok ho hq)
    · cases hr
  · rename_i ho; exact evBuild_ok ho hr
  · rename_i ho; exact evLen_ok ho hr
  · rename_i b xs ts _ ho
    split at hr
    · rename_i us hu
      split at hr
      · rename_i q hq
        injection hr with hr; subst hr
        exact fin_ok (evMM_ok ho hu hq)
      · cases hr
    · cases hr
  · cases hr
end
end Go.Proofs.Ytbehdllomepkdaa
