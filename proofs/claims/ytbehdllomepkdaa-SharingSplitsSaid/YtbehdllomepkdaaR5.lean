/-
  More plain operations: slices of slices, parts of structs, structs put together, lengths; and all of them in one. Over any program. No condition.
-/
import Derived.Test.YtbehdllomepkdaaR4
namespace Go.Proofs.Ytbehdllomepkdaa
open Go.RowKit

section
variable {P : Program} {s : AS} {o : Oper} {h : Hint} {r : AV × List Prop}

-- parts of slices

/-- The bounds of 'x[lo:hi]'. -/
inductive Cut where
  | all | to (n : Int) | from_ (n : Int) | both (n m : Int)
def intAV : AV → Option Int
  | .val (.int _ n) => some n
  | _ => none
def cutOf (s : AS) (lo hi mx : Option Operand) : Option Cut :=
  match lo, hi, mx with
  | none, none, none => some .all
  | none, some y, none => (match intAV (opd s y) with | some m => some (.to m) | none => none)
  | some x, none, none => (match intAV (opd s x) with | some n => some (.from_ n) | none => none)
  | some x, some y, none => (match intAV (opd s x), intAV (opd s y) with | some n, some m => some (.both n m) | _, _ => none)
  | _, _, _ => none
/-- x[lo:hi] over a row of which q cells count, from cell o on: which cells, and what must hold. -/
def cutCells (c : Cut) (k m e o q : Nat) : Nat × Nat × List Prop :=
  match c with
  | .all => (o, q, [])
  | .to n => (o, mul1 m e, [n = (m : Int), mul1 m e ≤ q])
  | .from_ n => (mul1 k e + o, q - mul1 k e, [n = (k : Int), mul1 k e ≤ q])
  | .both n n' => (mul1 k e + o, mul1 (m - k) e, [n = (k : Int), n' = (m : Int), k ≤ m, mul1 m e ≤ q])
def evSlice (P : Program) (s : AS) (t : TypeId) (x : AV) (c : Cut) (h : Hint) : Option (AV × List Prop) :=
  match P.underlying t with
  | some .string =>
    (match x, c with
    | .val (.string b), .all => some (.val (.string b), [])
    | .val (.string b), .to n => some (fin h (.val (.string (b.extract 0 h.m)), [n = (h.m : Int), h.m ≤ b.size]))
    | .val (.string b), .from_ n => some (fin h (.val (.string (b.extract h.k b.size)), [n = (h.k : Int), h.k ≤ b.size]))
    | .val (.string b), .both n n' => some (fin h (.val (.string (b.extract h.k h.m)), [n = (h.k : Int), n' = (h.m : Int), h.k ≤ h.m, h.m ≤ b.size]))
    | _, _ => none)
  | some (.slice el) =>
    (match sizeT P el with
    | some (z + 1) => (match x, c with
      | .sl e row, .all => some (fin h (.sl e row, []))
      | .sl e row, .to n => (match Nat.beq e (z + 1) with | true => some (fin h (.sl e (row.take (mul1 h.m e)), [n = (h.m : Int), mul1 h.m e ≤ row.length])) | false => none)
      | .sl e row, .from_ n => (match Nat.beq e (z + 1) with | true => some (fin h (.sl e (row.drop (mul1 h.k e)), [n = (h.k : Int), mul1 h.k e ≤ row.length])) | false => none)
      | .sl e row, .both n n' => (match Nat.beq e (z + 1) with | true => some (fin h (.sl e ((row.drop (mul1 h.k e)).take (mul1 (h.m - h.k) e)), [n = (h.k : Int), n' = (h.m : Int), h.k ≤ h.m, mul1 h.m e ≤ row.length])) | false => none)
      | .ref id, .all => some (.ref id, [])
      | .ref id, .to n => (match look s.H id with | some q => (match Nat.beq q.e (z + 1) with | true => some (.pre id (mul1 h.m q.e), [n = (h.m : Int), mul1 h.m q.e ≤ q.cells.length]) | false => none) | none => none)
      | .ref id, .from_ n => (match look s.H id with | some q => (match Nat.beq q.e (z + 1) with | true => some (.win id (mul1 h.k q.e) (q.cells.length - mul1 h.k q.e), [n = (h.k : Int), mul1 h.k q.e ≤ q.cells.length]) | false => none) | none => none)
      | .ref id, .both n n' => (match look s.H id with | some q => (match Nat.beq q.e (z + 1) with | true => some (.win id (mul1 h.k q.e) (mul1 (h.m - h.k) q.e), [n = (h.k : Int), n' = (h.m : Int), h.k ≤ h.m, mul1 h.m q.e ≤ q.cells.length]) | false => none) | none => none)
      | .pre id l, .all => some (.pre id l, [])
      | .pre id l, .to n => (match look s.H id with | some q => (match Nat.beq q.e (z + 1) with | true => some (.pre id (mul1 h.m q.e), [n = (h.m : Int), mul1 h.m q.e ≤ l]) | false => none) | none => none)
      | _, _ => none)
    | _ => none)
  | some (.array len el) =>
    (match sizeT P el with
    | some (z + 1) => (match x, c with
      | .addr id 0, .all => (match look s.H id with | some q => (match Nat.beq q.e (z + 1), q.full with | true, true => some (.ref id, [q.cells.length = mul1 len q.e, len ≤ maxLen]) | _, _ => none) | none => none)
      | .addr id 0, .to n => (match look s.H id with | some q => (match Nat.beq q.e (z + 1), q.full with | true, true => some (.pre id (mul1 h.m q.e), [n = (h.m : Int), h.m ≤ len, q.cells.length = mul1 len q.e, len ≤ maxLen]) | _, _ => none) | none => none)
      | .addr id 0, .from_ n => (match look s.H id with | some q => (match Nat.beq q.e (z + 1), q.full with | true, true => some (.win id (mul1 h.k q.e) (mul1 (len - h.k) q.e), [n = (h.k : Int), h.k ≤ len, q.cells.length = mul1 len q.e, len ≤ maxLen]) | _, _ => none) | none => none)
      | .addr id 0, .both n n' => (match look s.H id with | some q => (match Nat.beq q.e (z + 1), q.full with | true, true => some (.win id (mul1 h.k q.e) (mul1 (h.m - h.k) q.e), [n = (h.k : Int), n' = (h.m : Int), h.k ≤ h.m, h.m ≤ len, q.cells.length = mul1 len q.e, len ≤ maxLen]) | _, _ => none) | none => none)
      | _, _ => none)
    | _ => none)
  | _ => none

/-- What sliceBounds returns. -/
def Bounds (c : Cut) (len cap : Nat) (l hi : Nat) : Prop :=
  match c with
  | .all => l = 0 ∧ hi = len
  | .to n => l = 0 ∧ n = (hi : Int) ∧ hi ≤ cap
  | .from_ n => n = (l : Int) ∧ l ≤ len ∧ hi = len
  | .both n n' => n = (l : Int) ∧ n' = (hi : Int) ∧ l ≤ hi ∧ hi ≤ cap
theorem intAV_some {x : AV} {n : Int} (h : intAV x = some n) : ∃ k, x = .val (.int k n) := by
  unfold intAV at h
  split at h
  · injection h with h; subst h; exact ⟨_, rfl⟩
  · cases h
theorem run_sliceBound {w : World} {k : IntKind} {n : Int} {y l : Nat} {code : BoundsCode} (h1 : n = (l : Int)) (h2 : l ≤ y) : (Instr.sliceBound (.int k n) y code).run P w = .ok l w := by
  have : 0 ≤ n ∧ n ≤ (y : Int) := by omega
  have e : n.toNat = l := by omega
  simp [Instr.sliceBound, asIntOf, this, e]
theorem run_bounds {S0 : Nat → Prop} {w0 w : World} {n : Nat} {O : List Nat} {a : Act} {φ : Nat → Option Nat} (hs : SimO S0 w0 n O s a w φ) {lo hi mx : Option Operand} {c : Cut} (hc : cutOf s lo hi mx = some c) (isSl : Bool) {len cap l m : Nat} (hb : Bounds c len cap l m) (hle : len ≤ cap) :
    mx = none ∧ (Instr.sliceBounds isSl len cap (lo.map a.eval) (hi.map a.eval) none).run P w = .ok (l, m, cap) w := by
  have ev : ∀ x z, intAV (opd s x) = some z → ∃ k, a.eval x = .int k z := fun x z hx => by
    obtain ⟨k, e⟩ := intAV_some hx
    exact ⟨k, den_val (e ▸ hs.opd x)⟩
  unfold cutOf at hc
  split at hc
  · injection hc with hc; subst hc
    obtain ⟨rfl, rfl⟩ := hb
    exact ⟨rfl, by simp [Instr.sliceBounds]⟩
  · split at hc
    · rename_i z hz
      injection hc with hc; subst hc
      obtain ⟨rfl, h1, h2⟩ := hb
      obtain ⟨k, e⟩ := ev _ _ hz
      exact ⟨rfl, by simp [Instr.sliceBounds, e, run_sliceBound h1 h2]⟩
    · cases hc
  · split at hc
    · rename_i z hz
      injection hc with hc; subst hc
      obtain ⟨h1, h2, rfl⟩ := hb
      obtain ⟨k, e⟩ := ev _ _ hz
      exact ⟨rfl, by simp [Instr.sliceBounds, e, run_sliceBound h1 h2]⟩
    · cases hc
  · split at hc
    · rename_i z z' hz hz'
      injection hc with hc; subst hc
      obtain ⟨h1, h1', h2, h3⟩ := hb
      obtain ⟨k, e⟩ := ev _ _ hz
      obtain ⟨k', e'⟩ := ev _ _ hz'
      exact ⟨rfl, by simp [Instr.sliceBounds, e, e', run_sliceBound h1' h3, run_sliceBound h1 h2]⟩
    · cases hc
  · cases hc
/-- x[l:m] of a slice. -/
theorem run_slice_of {S0 : Nat → Prop} {w0 w : World} {n : Nat} {O : List Nat} {a : Act} {φ : Nat → Option Nat} (hs : SimO S0 w0 n O s a w φ) {t el : TypeId} {x : Operand} {lo hi mx : Option Operand} {c : Cut} (ho : o.op = .slice t x lo hi mx) (hc : cutOf s lo hi mx = some c) (hu : P.underlying t = some (.slice el)) {z : Nat} (hz : sizeT P el = some z)
    {A : Option Addr} {len cap l m : Nat} (hx : a.eval x = .slice A len cap) (hb : Bounds c len cap l m) (hle : len ≤ cap) :
    (execOp a.eval o).run P w = .ok (.value (.slice (if cap = l then A else A.map (·.add (l * z))) (m - l) (cap - l))) w := by
  obtain ⟨rfl, hr⟩ := run_bounds (P := P) hs hc true hb hle
  unfold execOp
  simp only [ho, hx]
  have hz' : (sizeOf el).run P w = .ok z w := run_sizeOf hz
  simp [Instr.sliceAt, Instr.slice, run_underlying hu, hr, hz']
theorem run_slice_arr {S0 : Nat → Prop} {w0 w : World} {n : Nat} {O : List Nat} {a : Act} {φ : Nat → Option Nat} (hs : SimO S0 w0 n O s a w φ) {t el : TypeId} {x : Operand} {lo hi mx : Option Operand} {c : Cut} (ho : o.op = .slice t x lo hi mx) (hc : cutOf s lo hi mx = some c) {len : Nat} (hu : P.underlying t = some (.array len el)) {z : Nat} (hz : sizeT P el = some z)
    {p : Addr} {l m : Nat} (hx : a.eval x = .pointer (some p)) (hb : Bounds c len len l m) :
    (execOp a.eval o).run P w = .ok (.value (.slice (some (if len = l then p else p.add (l * z))) (m - l) (len - l))) w := by
  obtain ⟨rfl, hr⟩ := run_bounds (P := P) hs hc false hb (Nat.le_refl _)
  unfold execOp
  simp only [ho, hx]
  have hz' : (sizeOf el).run P w = .ok z w := run_sizeOf hz
  simp [Instr.sliceAt, Instr.sureAddr, run_underlying hu, hr, hz']
theorem run_slice_str {S0 : Nat → Prop} {w0 w : World} {n : Nat} {O : List Nat} {a : Act} {φ : Nat → Option Nat} (hs : SimO S0 w0 n O s a w φ) {t : TypeId} {x : Operand} {lo hi mx : Option Operand} {c : Cut} (ho : o.op = .slice t x lo hi mx) (hc : cutOf s lo hi mx = some c) (hu : P.underlying t = some .string)
    {b : ByteArray} {l m : Nat} (hx : a.eval x = .string b) (hb : Bounds c b.size b.size l m) :
    (execOp a.eval o).run P w = .ok (.value (.string (b.extract l m))) w := by
  obtain ⟨rfl, hr⟩ := run_bounds (P := P) hs hc false hb (Nat.le_refl _)
  unfold execOp
  simp only [ho, hx]
  simp [Instr.sliceAt, Instr.slice, run_underlying hu, hr]
/-- A part of a plain slice. -/
theorem rep_part {S : Nat → Prop} {w : World} {A : Option Addr} {len cap e z : Nat} {row : List AV} (hrep : Rep S w (.slice A len cap) (.sl e row)) (he : e = z + 1) (l m : Nat) (hlm : l ≤ m) (hm : m ≤ len) :
    Rep S w (.slice (if cap = l then A else A.map (·.add (l * (z + 1)))) (m - l) (cap - l)) (.sl e ((row.drop (l * e)).take ((m - l) * e))) := by
  cases hrep with
  | sl _ _ _ _ us _ hl hn hc hx ha h =>
    have hle : (m - l) * e ≤ row.length - l * e := by
      rw [hn, Nat.sub_mul, Nat.mul_comm e len]
      have := Nat.mul_le_mul_right e hm
      omega
    have hlen : ((row.drop (l * e)).take ((m - l) * e)).length = (m - l) * e := by rw [List.length_take, List.length_drop]; omega
    refine .sl _ _ _ _ ((us.drop (l * e)).take ((m - l) * e)) _ (by rw [hlen, List.length_take, List.length_drop]; omega) (by rw [hlen, Nat.mul_comm]) (by omega) (by omega) (fun h0 => ?_) (fun j u x hu hx => h (l * e + j) u x (drop_take_get _ _ _ _ _ hu) (drop_take_get _ _ _ _ _ hx))
    rw [hlen] at h0
    have hne : cap ≠ l := by
      intro e'
      have : m - l = 0 := by omega
      rw [this, Nat.zero_mul] at h0; omega
    have hrl : 0 < row.length := by omega
    obtain ⟨ad, rfl, hS, hcell⟩ := ha hrl
    rw [if_neg hne]
    refine ⟨ad.add (l * (z + 1)), rfl, by rw [block_of_add]; exact hS, fun j u hu => ?_⟩
    rw [add_of_add, ← he]
    exact hcell _ u (drop_take_get _ _ _ _ _ hu)
theorem mul1_le {m len e q : Nat} (h : mul1 m e ≤ q) (hq : q = e * len) (he : 0 < e) : m ≤ len := by
  rw [mul1_eq, hq, Nat.mul_comm] at h
  exact Nat.le_of_mul_le_mul_left h he
theorem zero_of {m z : Nat} (h : m * (z + 1) ≤ 0) : m = 0 := by
  rcases Nat.eq_zero_or_pos m with h5 | h5
  · exact h5
  · have := Nat.mul_pos h5 (show 0 < z + 1 by omega); omega
theorem evSlice_ok {t : TypeId} {x : Operand} {lo hi mx : Option Operand} {c : Cut} (ho : o.op = .slice t x lo hi mx) (hc : cutOf s lo hi mx = some c) (hr : evSlice P s t (opd s x) c h = some r) : PlainOK P s o r.1 r.2 := by
  unfold evSlice at hr
  split at hr
  · rename_i hu
    split at hr
    · rename_i b he
      injection hr with hr; subst hr
      intro hC S0 w0 n O a w φ hs
      have ex : a.eval x = .string b := den_val (he ▸ hs.opd x)
      refine ⟨_, run_slice_str hs ho hc hu ex ⟨rfl, rfl⟩, ?_⟩
      have : b.extract 0 b.size = b := by simp
      rw [this]; exact .rep (.val _)
    · rename_i b n he
      injection hr with hr; subst hr
      refine fin_ok ?_
      intro hC S0 w0 n' O a w φ hs
      have ex : a.eval x = .string b := den_val (he ▸ hs.opd x)
      exact ⟨_, run_slice_str hs ho hc hu ex ⟨rfl, hC.1, hC.2.1⟩, .rep (.val _)⟩
    · rename_i b n he
      injection hr with hr; subst hr
      refine fin_ok ?_
      intro hC S0 w0 n' O a w φ hs
      have ex : a.eval x = .string b := den_val (he ▸ hs.opd x)
      exact ⟨_, run_slice_str hs ho hc hu ex ⟨hC.1, hC.2.1, rfl⟩, .rep (.val _)⟩
    · rename_i b n n2 he
      injection hr with hr; subst hr
      refine fin_ok ?_
      intro hC S0 w0 n' O a w φ hs
      have ex : a.eval x = .string b := den_val (he ▸ hs.opd x)
      exact ⟨_, run_slice_str hs ho hc hu ex ⟨hC.1, hC.2.1, hC.2.2.1, hC.2.2.2.1⟩, .rep (.val _)⟩
    · cases hr
  · rename_i el hu
    split at hr
    · rename_i z hsz
      have sl : ∀ (e : Nat) (row : List AV) (X : AV) (C : List Prop), opd s x = .sl e row → e = z + 1 → (AllP C → ∃ l m, (∀ len cap, row.length = e * len → len ≤ cap → Bounds c len cap l m ∧ m ≤ len) ∧ l ≤ m ∧ X = .sl e ((row.drop (l * e)).take ((m - l) * e)) ∨ (c = .all ∧ X = .sl e row)) → PlainOK P s o X C := by
        intro e row X C he hez hX hC S0 w0 n O a w φ hs
        have hx := hs.opd x
        rw [he] at hx
        have hrep := den_sl hx
        cases hval : a.eval x with
        | slice A len cap =>
          rw [hval] at hrep
          have hrep' := hrep
          cases hrep' with
          | sl _ _ _ _ us _ hl hn hc' hx' ha h' =>
            obtain ⟨l, m, h1⟩ := hX hC
            rcases h1 with ⟨hb, hlm, rfl⟩ | ⟨rfl, rfl⟩
            · obtain ⟨hb, hm⟩ := hb len cap hn hc'
              exact ⟨_, run_slice_of hs ho hc hu hsz hval hb hc', .rep (rep_part hrep hez l m hlm hm)⟩
            · refine ⟨_, run_slice_of hs ho hc hu hsz hval (l := 0) (m := len) ⟨rfl, rfl⟩ hc', ?_⟩
              have : (if cap = 0 then A else A.map (·.add (0 * (z + 1)))) = A := by
                split
                · rfl
                · cases A <;> simp [add_zero_addr]
              rw [this]; exact .rep hrep
        | _ => rw [hval] at hrep; cases hrep
      split at hr
      · rename_i e row he
        injection hr with hr; subst hr
        refine fin_ok ?_
        -- all: e need not be known
        intro hC S0 w0 n O a w φ hs
        have hx := hs.opd x
        rw [he] at hx
        have hrep := den_sl hx
        cases hval : a.eval x with
        | slice A len cap =>
          rw [hval] at hrep
          have hrep' := hrep
          cases hrep' with
          | sl _ _ _ _ us _ hl hn hc' hx' ha h' =>
            refine ⟨_, run_slice_of hs ho hc hu hsz hval (l := 0) (m := len) ⟨rfl, rfl⟩ hc', ?_⟩
            have : (if cap = 0 then A else A.map (·.add (0 * (z + 1)))) = A := by
              split
              · rfl
              · cases A <;> simp [add_zero_addr]
            rw [this]; exact .rep hrep
        | _ => rw [hval] at hrep; cases hrep
      · rename_i e row n he
        split at hr
        · rename_i hb
          have hez : e = z + 1 := Nat.eq_of_beq_eq_true hb
          injection hr with hr; subst hr
          refine fin_ok (sl e row _ _ he hez fun hC => ⟨0, h.m, .inl ⟨fun len cap hn hcap => ?_, Nat.zero_le _, by simp [mul1_eq]⟩⟩)
          have := mul1_le hC.2.1 hn (by omega)
          exact ⟨⟨rfl, hC.1, by omega⟩, this⟩
        · cases hr
      · rename_i e row n he
        split at hr
        · rename_i hb
          have hez : e = z + 1 := Nat.eq_of_beq_eq_true hb
          injection hr with hr; subst hr
          refine fin_ok ?_
          intro hC S0 w0 n' O a w φ hs
          have hx := hs.opd x
          rw [he] at hx
          have hrep := den_sl hx
          cases hval : a.eval x with
          | slice A len cap =>
            rw [hval] at hrep
            have hrep' := hrep
            cases hrep' with
            | sl _ _ _ _ us _ hl hn hc' hx' ha h' =>
              have hk := mul1_le hC.2.1 hn (by omega)
              refine ⟨_, run_slice_of hs ho hc hu hsz hval (l := h.k) (m := len) ⟨hC.1, hk, rfl⟩ hc', ?_⟩
              have := rep_part hrep hez h.k len hk (Nat.le_refl _)
              have e2 : (row.drop (h.k * e)).take ((len - h.k) * e) = row.drop (mul1 h.k e) := by
                rw [mul1_eq, List.take_of_length_le]
                rw [List.length_drop, hn, Nat.sub_mul, Nat.mul_comm e len]
                exact Nat.le_refl _
              rw [e2] at this
              exact .rep this
          | _ => rw [hval] at hrep; cases hrep
        · cases hr
      · rename_i e row n n2 he
        split at hr
        · rename_i hb
          have hez : e = z + 1 := Nat.eq_of_beq_eq_true hb
          injection hr with hr; subst hr
          refine fin_ok (sl e row _ _ he hez fun hC => ⟨h.k, h.m, .inl ⟨fun len cap hn hcap => ?_, hC.2.2.1, by simp [mul1_eq]⟩⟩)
          have := mul1_le hC.2.2.2.1 hn (by omega)
          exact ⟨⟨hC.1, hC.2.1, hC.2.2.1, by omega⟩, this⟩
        · cases hr
      · rename_i id he
        injection hr with hr; subst hr
        intro hC S0 w0 n O a w φ hs
        have hx := hs.opd x
        rw [he] at hx
        generalize hV : a.eval x = V at hx
        cases hx with
        | rep h => cases h
        | ref _ e m g l c' hi hm hc' hx hs' =>
          refine ⟨_, run_slice_of hs ho hc hu hsz hV (l := 0) (m := l) ⟨rfl, rfl⟩ hc', ?_⟩
          have : (if c' = 0 then (some ⟨g, 0, none⟩ : Option Addr) else (some ⟨g, 0, none⟩ : Option Addr).map (·.add (0 * (z + 1)))) = some ⟨g, 0, none⟩ := by simp [add_zero_addr]
          rw [this]
          exact .ref id e m g l c' hi hm hc' hx hs'
        | refnil _ e hi =>
          refine ⟨_, run_slice_of hs ho hc hu hsz hV (l := 0) (m := 0) ⟨rfl, rfl⟩ (Nat.le_refl _), ?_⟩
          simp only [if_true]
          exact .refnil id e hi
      · rename_i id n he
        split at hr
        · rename_i q hq
          split at hr
          · rename_i hb
            have hez : q.e = z + 1 := Nat.eq_of_beq_eq_true hb
            injection hr with hr; subst hr
            intro hC S0 w0 n' O a w φ hs
            have hx := hs.opd x
            rw [he] at hx
            generalize hV : a.eval x = V at hx
            cases hx with
            | rep h => cases h
            | ref _ e m g l c' hi hm hc' hx hs' =>
              obtain ⟨q', hq', h1, h2, h3⟩ := info_some hi
              rw [hq] at hq'; injection hq' with hq'; subst hq'
              subst h1
              have hk := mul1_le hC.2.1 (by rw [h2]; exact hm) (by omega)
              refine ⟨_, run_slice_of hs ho hc hu hsz hV (l := 0) (m := h.m) ⟨rfl, hC.1, by omega⟩ hc', ?_⟩
              have : (if c' = 0 then (some ⟨g, 0, none⟩ : Option Addr) else (some ⟨g, 0, none⟩ : Option Addr).map (·.add (0 * (z + 1)))) = some ⟨g, 0, none⟩ := by simp [add_zero_addr]
              rw [this]
              exact .pre id _ q.e m g h.m c' hi (by rw [mul1_eq, Nat.mul_comm]) (by rw [← h2]; exact hC.2.1) (by omega) hx hs'
            | refnil _ e hi =>
              obtain ⟨q', hq', h1, h2, h3⟩ := info_some hi
              rw [hq] at hq'; injection hq' with hq'; subst hq'
              have hk : h.m = 0 := by
                have h4 := hC.2.1
                rw [mul1_eq, h2, hez] at h4
                exact zero_of h4
              refine ⟨_, run_slice_of hs ho hc hu hsz hV (l := 0) (m := h.m) ⟨rfl, hC.1, by omega⟩ (Nat.le_refl _), ?_⟩
              rw [hk]
              simp only [if_true]
              have e0 : mul1 0 q.e = 0 := by rw [mul1_eq]; simp
              rw [e0]
              exact .prenil id e hi
          · cases hr
        · cases hr
      · rename_i id n he
        split at hr
        · rename_i q hq
          split at hr
          · rename_i hb
            have hez : q.e = z + 1 := Nat.eq_of_beq_eq_true hb
            injection hr with hr; subst hr
            intro hC S0 w0 n' O a w φ hs
            have hx := hs.opd x
            rw [he] at hx
            generalize hV : a.eval x = V at hx
            cases hx with
            | rep h => cases h
            | ref _ e m g l c' hi hm hc' hx hs' =>
              obtain ⟨q', hq', h1, h2, h3⟩ := info_some hi
              rw [hq] at hq'; injection hq' with hq'; subst hq'
              subst h1
              have hk := mul1_le hC.2.1 (by rw [h2]; exact hm) (by omega)
              have hle := hC.2.1
              rw [mul1_eq] at hle
              refine ⟨_, run_slice_of hs ho hc hu hsz hV (l := h.k) (m := l) ⟨hC.1, hk, rfl⟩ hc', ?_⟩
              rw [mul1_eq]
              refine .win id _ _ q.e m (l - h.k) (c' - h.k) (some g) _ hi (by rw [h2, hm, Nat.mul_sub, Nat.mul_comm h.k]) (by omega) (by omega) (by omega) (fun h0 => ⟨g, rfl, ?_⟩)
              have hne : c' ≠ h.k := by
                intro e'
                have : l = h.k := by omega
                rw [h2, hm, this, Nat.mul_comm, Nat.sub_self] at h0; omega
              rw [if_neg hne]
              simp [addr0_add, hez]
            | refnil _ e hi =>
              obtain ⟨q', hq', h1, h2, h3⟩ := info_some hi
              rw [hq] at hq'; injection hq' with hq'; subst hq'
              have hk : h.k = 0 := by
                have h4 := hC.2.1
                rw [mul1_eq, h2, hez] at h4
                exact zero_of h4
              refine ⟨_, run_slice_of hs ho hc hu hsz hV (l := 0) (m := 0) ⟨by rw [hC.1, hk], Nat.le_refl _, rfl⟩ (Nat.le_refl _), ?_⟩
              rw [hk, h2]
              have e0 : mul1 0 q.e = 0 := by rw [mul1_eq]; simp
              rw [e0]
              simp only [if_true]
              exact .win id 0 _ e 0 0 0 none none hi (by simp) (by simp) (by simp) (by simp) (fun h => by simp at h)
          · cases hr
        · cases hr
      · rename_i id n n2 he
        split at hr
        · rename_i q hq
          split at hr
          · rename_i hb
            have hez : q.e = z + 1 := Nat.eq_of_beq_eq_true hb
            injection hr with hr; subst hr
            intro hC S0 w0 n' O a w φ hs
            have hx := hs.opd x
            rw [he] at hx
            obtain ⟨hC1, hC2, hC3, hC4, -⟩ := hC
            generalize hV : a.eval x = V at hx
            cases hx with
            | rep h => cases h
            | ref _ e m g l c' hi hm hc' hx hs' =>
              obtain ⟨q', hq', h1, h2, h3⟩ := info_some hi
              rw [hq] at hq'; injection hq' with hq'; subst hq'
              subst h1
              have hk := mul1_le hC4 (by rw [h2]; exact hm) (by omega)
              rw [mul1_eq] at hC4
              refine ⟨_, run_slice_of hs ho hc hu hsz hV (l := h.k) (m := h.m) ⟨hC1, hC2, hC3, by omega⟩ hc', ?_⟩
              rw [mul1_eq, mul1_eq]
              have hmul : h.k * q.e ≤ h.m * q.e := Nat.mul_le_mul_right _ hC3
              refine .win id _ _ q.e m (h.m - h.k) (c' - h.k) (some g) _ hi (by rw [Nat.mul_comm]) (by rw [Nat.sub_mul]; omega) (by omega) (by omega) (fun h0 => ⟨g, rfl, ?_⟩)
              have hne : c' ≠ h.k := by
                intro e'
                have : h.m - h.k = 0 := by omega
                rw [this, Nat.zero_mul] at h0; omega
              rw [if_neg hne]
              simp [addr0_add, hez]
            | refnil _ e hi =>
              obtain ⟨q', hq', h1, h2, h3⟩ := info_some hi
              rw [hq] at hq'; injection hq' with hq'; subst hq'
              have hk : h.m = 0 := by
                rw [mul1_eq, h2, hez] at hC4
                exact zero_of hC4
              have hk0 : h.k = 0 := by omega
              refine ⟨_, run_slice_of hs ho hc hu hsz hV (l := 0) (m := 0) ⟨by rw [hC1, hk0], by rw [hC2, hk], Nat.le_refl _, Nat.le_refl _⟩ (Nat.le_refl _), ?_⟩
              rw [hk0, hk]
              have e0 : mul1 0 q.e = 0 := by rw [mul1_eq]; simp
              simp only [Nat.sub_self, e0, if_true]
              exact .win id 0 0 e 0 0 0 none none hi (by simp) (by simp) (by simp) (by simp) (fun h => by simp at h)
          · cases hr
        · cases hr
      · rename_i id l' he
        injection hr with hr; subst hr
        intro hC S0 w0 n O a w φ hs
        have hx := hs.opd x
        rw [he] at hx
        generalize hV : a.eval x = V at hx
        cases hx with
        | rep h => cases h
        | pre _ _ e m g l c' hi hn' hm hc' hx hs' =>
          refine ⟨_, run_slice_of hs ho hc hu hsz hV (l := 0) (m := l) ⟨rfl, rfl⟩ hc', ?_⟩
          have : (if c' = 0 then (some ⟨g, 0, none⟩ : Option Addr) else (some ⟨g, 0, none⟩ : Option Addr).map (·.add (0 * (z + 1)))) = some ⟨g, 0, none⟩ := by simp [add_zero_addr]
          rw [this]
          exact .pre id _ e m g l c' hi hn' hm hc' hx hs'
        | prenil _ e hi =>
          refine ⟨_, run_slice_of hs ho hc hu hsz hV (l := 0) (m := 0) ⟨rfl, rfl⟩ (Nat.le_refl _), ?_⟩
          simp only [if_true]
          exact .prenil id e hi
      · rename_i id l' n he
        split at hr
        · rename_i q hq
          split at hr
          · rename_i hb
            have hez : q.e = z + 1 := Nat.eq_of_beq_eq_true hb
            injection hr with hr; subst hr
            intro hC S0 w0 n' O a w φ hs
            have hx := hs.opd x
            rw [he] at hx
            generalize hV : a.eval x = V at hx
            cases hx with
            | rep h => cases h
            | pre _ _ e m g l c' hi hn' hm hc' hx hs' =>
              obtain ⟨q', hq', h1, h2, h3⟩ := info_some hi
              rw [hq] at hq'; injection hq' with hq'; subst hq'
              subst h1
              have hk := mul1_le hC.2.1 hn' (by omega)
              refine ⟨_, run_slice_of hs ho hc hu hsz hV (l := 0) (m := h.m) ⟨rfl, hC.1, by omega⟩ hc', ?_⟩
              have : (if c' = 0 then (some ⟨g, 0, none⟩ : Option Addr) else (some ⟨g, 0, none⟩ : Option Addr).map (·.add (0 * (z + 1)))) = some ⟨g, 0, none⟩ := by simp [add_zero_addr]
              rw [this]
              exact .pre id _ q.e m g h.m c' hi (by rw [mul1_eq, Nat.mul_comm]) (by have := hC.2.1; omega) (by omega) hx hs'
            | prenil _ e hi =>
              have hk : h.m = 0 := by
                have h4 := hC.2.1
                rw [mul1_eq, hez] at h4
                exact zero_of h4
              refine ⟨_, run_slice_of hs ho hc hu hsz hV (l := 0) (m := h.m) ⟨rfl, hC.1, by omega⟩ (Nat.le_refl _), ?_⟩
              rw [hk]
              simp only [if_true]
              have e0 : mul1 0 q.e = 0 := by rw [mul1_eq]; simp
              rw [e0]
              exact .prenil id e hi
          · cases hr
        · cases hr
      · cases hr
    · cases hr
  · rename_i len el hu
    split at hr
    · rename_i z hsz
      have arr : ∀ (id : Nat) (q : Row), opd s x = .addr id 0 → look s.H id = some q → q.full = true → ∀ S0 w0 n O a w φ, SimO S0 w0 n O s a w φ → ∃ g, a.eval x = .pointer (some ⟨g, 0, none⟩) ∧ infoOf s.H φ id = some (q.e, q.cells.length, some g) ∧ cellsLen w g = q.cells.length := by
        intro id q he hq hf S0 w0 n O a w φ hs
        have hx := hs.opd x
        rw [he] at hx
        obtain ⟨e, m, g, hi, hv⟩ := den_addr hx
        obtain ⟨q', hq', h1, h2, h3⟩ := info_some hi
        rw [hq] at hq'; injection hq' with hq'; subst hq'
        refine ⟨g, hv, by rw [info_of hq, h3], ?_⟩
        have hrow := hs.rows id q hq
        unfold RowDen at hrow
        rw [h3] at hrow
        obtain ⟨cur, te, fr, hg, -, -, hfu, -⟩ := hrow
        unfold cellsLen; rw [hg]
        exact hfu hf
      split at hr
      · rename_i id he
        split at hr
        · rename_i q hq
          split at hr
          · rename_i hb hf
            have hez : q.e = z + 1 := Nat.eq_of_beq_eq_true hb
            injection hr with hr; subst hr
            intro hC S0 w0 n O a w φ hs
            obtain ⟨g, hv, hi, hcl⟩ := arr id q he hq hf S0 w0 n O a w φ hs
            obtain ⟨hC1, hC2, -⟩ := hC
            rw [mul1_eq] at hC1
            refine ⟨_, run_slice_arr hs ho hc hu hsz hv (l := 0) (m := len) ⟨rfl, rfl⟩, ?_⟩
            have : (if len = 0 then (⟨g, 0, none⟩ : Addr) else (⟨g, 0, none⟩ : Addr).add (0 * (z + 1))) = ⟨g, 0, none⟩ := by simp [add_zero_addr]
            rw [this]
            exact .ref id q.e _ g len len hi (by rw [hC1, Nat.mul_comm]) (Nat.le_refl _) hC2 (by rw [hcl, hC1, Nat.mul_comm])
          · cases hr
        · cases hr
      · rename_i id n he
        split at hr
        · rename_i q hq
          split at hr
          · rename_i hb hf
            have hez : q.e = z + 1 := Nat.eq_of_beq_eq_true hb
            injection hr with hr; subst hr
            intro hC S0 w0 n' O a w φ hs
            obtain ⟨g, hv, hi, hcl⟩ := arr id q he hq hf S0 w0 n' O a w φ hs
            obtain ⟨hC0, hC3, hC1, hC2, -⟩ := hC
            rw [mul1_eq] at hC1
            refine ⟨_, run_slice_arr hs ho hc hu hsz hv (l := 0) (m := h.m) ⟨rfl, hC0, hC3⟩, ?_⟩
            have : (if len = 0 then (⟨g, 0, none⟩ : Addr) else (⟨g, 0, none⟩ : Addr).add (0 * (z + 1))) = ⟨g, 0, none⟩ := by simp [add_zero_addr]
            rw [this, mul1_eq]
            exact .pre id _ q.e _ g h.m len hi (by rw [Nat.mul_comm]) (by rw [hC1]; exact Nat.mul_le_mul_right _ hC3) hC3 hC2 (by rw [hcl, hC1, Nat.mul_comm])
          · cases hr
        · cases hr
      · rename_i id n he
        split at hr
        · rename_i q hq
          split at hr
          · rename_i hb hf
            have hez : q.e = z + 1 := Nat.eq_of_beq_eq_true hb
            injection hr with hr; subst hr
            intro hC S0 w0 n' O a w φ hs
            obtain ⟨g, hv, hi, hcl⟩ := arr id q he hq hf S0 w0 n' O a w φ hs
            obtain ⟨hC0, hC3, hC1, hC2, -⟩ := hC
            rw [mul1_eq] at hC1
            refine ⟨_, run_slice_arr hs ho hc hu hsz hv (l := h.k) (m := len) ⟨hC0, hC3, rfl⟩, ?_⟩
            rw [mul1_eq, mul1_eq]
            have hmul : h.k * q.e ≤ len * q.e := Nat.mul_le_mul_right _ hC3
            refine .win id _ _ q.e _ (len - h.k) (len - h.k) (some g) _ hi (by rw [Nat.mul_comm]) (by rw [Nat.sub_mul, hC1]; omega) (by omega) (by omega) (fun h0 => ⟨g, rfl, ?_⟩)
            have hne : len ≠ h.k := by
              intro e'
              have : len - h.k = 0 := by omega
              rw [this, Nat.zero_mul] at h0; omega
            rw [if_neg hne]
            simp [addr0_add, hez]
          · cases hr
        · cases hr
      · rename_i id n n2 he
        split at hr
        · rename_i q hq
          split at hr
          · rename_i hb hf
            have hez : q.e = z + 1 := Nat.eq_of_beq_eq_true hb
            injection hr with hr; subst hr
            intro hC S0 w0 n' O a w φ hs
            obtain ⟨g, hv, hi, hcl⟩ := arr id q he hq hf S0 w0 n' O a w φ hs
            obtain ⟨hC0, hC4, hC5, hC3, hC1, hC2, -⟩ := hC
            rw [mul1_eq] at hC1
            refine ⟨_, run_slice_arr hs ho hc hu hsz hv (l := h.k) (m := h.m) ⟨hC0, hC4, hC5, hC3⟩, ?_⟩
            rw [mul1_eq, mul1_eq]
            have hmul : h.k * q.e ≤ h.m * q.e := Nat.mul_le_mul_right _ hC5
            have hmul2 : h.m * q.e ≤ len * q.e := Nat.mul_le_mul_right _ hC3
            refine .win id _ _ q.e _ (h.m - h.k) (len - h.k) (some g) _ hi (by rw [Nat.mul_comm]) (by rw [Nat.sub_mul, hC1]; omega) (by omega) (by omega) (fun h0 => ⟨g, rfl, ?_⟩)
            have hne : len ≠ h.k := by
              intro e'
              have : h.m - h.k = 0 := by omega
              rw [this, Nat.zero_mul] at h0; omega
            rw [if_neg hne]
            simp [addr0_add, hez]
          · cases hr
        · cases hr
      · cases hr
    · cases hr
  · cases hr
end
end Go.Proofs.Ytbehdllomepkdaa
