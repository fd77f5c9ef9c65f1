/-
  Elimination over the field: it ends, and what it ends with solves the equations. In plain words. No condition.
-/
import Derived.Test.YtgjbkdlbhbfeiaaShLag
namespace Go.Proofs.Ytgjbkdlbhbfeiaa
open Go.RowKit

def cel (m : List (List UInt8)) (i j : Nat) : UInt8 := (m.getD i []).getD j 0
/-- A row times a factor; the sum of two rows. -/
def gsc (a : List UInt8) (f : UInt8) : List UInt8 := a.map fun y => gmul y f
def gad (a b : List UInt8) : List UInt8 := (List.range a.length).map fun i => a.getD i 0 ^^^ b.getD i 0
theorem gsc_len (a : List UInt8) (f : UInt8) : (gsc a f).length = a.length := by simp [gsc]
theorem gad_len (a b : List UInt8) : (gad a b).length = a.length := by simp [gad]
theorem gsc_at (a : List UInt8) (f : UInt8) (j : Nat) : (gsc a f).getD j 0 = gmul (a.getD j 0) f := by
  unfold gsc
  rw [List.getD_eq_getElem?_getD, List.getD_eq_getElem?_getD, List.getElem?_map]
  cases a[j]? with
  | none => exact (zero_gmul f).symm
  | some y => rfl
theorem gad_at {a b : List UInt8} {j : Nat} (h : j < a.length) : (gad a b).getD j 0 = a.getD j 0 ^^^ b.getD j 0 := by
  unfold gad
  rw [List.getD_eq_getElem?_getD, List.getElem?_map, List.getElem?_range h]; rfl
theorem row_set {m : List (List UInt8)} {i : Nat} (h : i < m.length) (r : List UInt8) (k : Nat) : (m.set i r).getD k [] = if k = i then r else m.getD k [] := by
  rw [List.getD_eq_getElem?_getD, List.getElem?_set]
  by_cases e : i = k
  · subst e; rw [if_pos rfl, if_pos rfl, if_pos h]; rfl
  · rw [if_neg e, if_neg (fun h => e h.symm), List.getD_eq_getElem?_getD]
theorem cel_set {m : List (List UInt8)} {i : Nat} (h : i < m.length) (r : List UInt8) (k j : Nat) : cel (m.set i r) k j = if k = i then r.getD j 0 else cel m k j := by
  unfold cel
  rw [row_set h]; split <;> rfl
/-- A row and a column of factors. -/
def dotV (r v : Nat → UInt8) (W : Nat) : UInt8 := xsum (fun j => gmul (r j) (v j)) W
theorem dot_congr {r s v : Nat → UInt8} {W : Nat} (h : ∀ j, j < W → r j = s j) : dotV r v W = dotV s v W := xsum_congr fun j hj => by rw [h j hj]
theorem dot_smul (r v : Nat → UInt8) (f : UInt8) (W : Nat) : dotV (fun j => gmul (r j) f) v W = gmul (dotV r v W) f := by
  unfold dotV
  rw [xsum_mul]
  exact xsum_congr fun j _ => by rw [gmul_assoc, gmul_assoc, gmul_comm f]
theorem dot_add (r s v : Nat → UInt8) (W : Nat) : dotV (fun j => r j ^^^ s j) v W = dotV r v W ^^^ dotV s v W := by
  unfold dotV
  rw [← xsum_add]
  exact xsum_congr fun j _ => gmul_addL _ _ _
theorem xsum_split (f : Nat → UInt8) (n : Nat) : ∀ d, xsum f (n + d) = xsum f n ^^^ xsum (fun t => f (n + t)) d
  | 0 => by simp [xsum]
  | d + 1 => by
    show xsum f (n + d) ^^^ f (n + d) = _
    rw [xsum_split f n d, xsum, UInt8.xor_assoc]
theorem xsum_tail {f : Nat → UInt8} {n W : Nat} (hn : n ≤ W) (h : ∀ t, n ≤ t → f t = 0) : xsum f W = xsum f n := by
  obtain ⟨d, rfl⟩ : ∃ d, W = n + d := ⟨W - n, by omega⟩
  rw [xsum_split, xsum_congr (g := fun _ => 0) (fun t _ => h (n + t) (by omega)), xsum_zero, UInt8.xor_zero]
theorem xsum_pick {f g : Nat → UInt8} {n k : Nat} (hk : k < n) (h : ∀ t, t < n → f t = if t = k then g t else 0) : xsum f n = g k := by
  rw [xsum_congr h, xsum_one (k := k) (fun i hi => by rw [if_neg hi]), if_pos hk, if_pos rfl]
/-- A polynomial of low degree that is zero everywhere has no coefficient but zero. -/
theorem coef_zero : ∀ (n : Nat) (v : Nat → UInt8), n ≤ 200 → (∀ x, xsum (fun d => gmul (v d) (gpow x d)) n = 0) → ∀ d, d < n → v d = 0
  | 0, _, _, _, d, h => by omega
  | n + 1, v, hn, h, d, hd => by
    have hx : ∀ x, xsum (fun d => gmul (v d) (gpow x d)) (n + 1) = v 0 ^^^ gmul (xsum (fun d => gmul (v (d + 1)) (gpow x d)) n) x := fun x => by
      rw [xsum_front, xsum_mul]
      congr 1
      · rw [gpow, gmul_one]
      · exact xsum_congr fun i _ => by rw [gmul_assoc, gpow_succ]
    have h0 : v 0 = 0 := by
      have := h 0
      rwa [hx, gmul_zero, UInt8.xor_zero] at this
    have hg : ∀ x, x ≠ 0 → xsum (fun d => gmul (v (d + 1)) (gpow x d)) n = 0 := fun x hne => by
      have := h x
      rw [hx, h0, UInt8.zero_xor] at this
      exact gmul_eq_zero this hne
    have hp : PolyLt n (fun x => xsum (fun d => gmul (v (d + 1)) (gpow x d)) n) := ⟨fun d => v (d + 1), fun _ => rfl⟩
    have ne (i : Nat) (hi : i < 200) : (UInt8.ofNat (i + 1)).toNat = i + 1 := by
      rw [UInt8.toNat_ofNat']; omega
    have hz := hp.zeros (fun i => UInt8.ofNat (i + 1)) (fun i j hi hj hne e => hne (by
      have := congrArg UInt8.toNat e
      rw [ne i (by omega), ne j (by omega)] at this
      omega)) (fun i hi => hg _ (fun e => by
      have := congrArg UInt8.toNat e
      rw [ne i (by omega)] at this
      have h0 : (0 : UInt8).toNat = 0 := rfl
      omega))
    cases d with
    | zero => exact h0
    | succ d => exact coef_zero n (fun d => v (d + 1)) (by omega) hz d (by omega)
section
variable {n W c i : Nat} {M0 : Nat → Nat → UInt8} {m : List (List UInt8)}
/-- The rows after c columns. -/
structure GI (n W c : Nat) (M0 : Nat → Nat → UInt8) (m : List (List UInt8)) : Prop where
  len : m.length = n
  row : ∀ i, i < n → (m.getD i []).length = W
  ker : ∀ v : Nat → UInt8, (∀ k, k < n → dotV (cel m k) v W = 0) → ∀ i, i < n → dotV (M0 i) v W = 0
  one : ∀ k j, k < n → j < c → cel m k j = if k = j then 1 else 0
/-- The rows in column c, cleared above row i. -/
structure GJ (n W c i : Nat) (M0 : Nat → Nat → UInt8) (m : List (List UInt8)) : Prop extends GI n W c M0 m where
  piv : cel m c c = 1
  zer : ∀ k, k < i → k ≠ c → cel m k c = 0
theorem GI.pivot (h : GI n W c M0 m) (hc : c < n) (hn : n ≤ W) (h200 : n ≤ 200) {x : Nat → UInt8} (hx : ∀ i, i < n → x i ≠ 0) (hd : ∀ i j, i < n → j < n → i ≠ j → x i ≠ x j)
    (hM : ∀ i j, i < n → j < n → M0 i j = gpow (x i) (j + 1)) (hz : ∀ p, c ≤ p → p < n → cel m p c = 0) : False := by
  let v : Nat → UInt8 := fun t => if t < c then cel m t c else if t = c then 1 else 0
  have v1 : ∀ t, t < c → v t = cel m t c := fun t ht => if_pos ht
  have v2 : v c = 1 := by show (if c < c then _ else _) = _; rw [if_neg (by omega), if_pos rfl]
  have v3 : ∀ t, c + 1 ≤ t → v t = 0 := fun t ht => by show (if t < c then _ else _) = _; rw [if_neg (by omega), if_neg (by omega)]
  have tail : ∀ r : Nat → UInt8, dotV r v W = xsum (fun t => gmul (r t) (v t)) c ^^^ r c := fun r => by
    unfold dotV
    rw [xsum_tail (n := c + 1) (by omega) (fun t ht => by rw [v3 t ht, gmul_zero]), xsum, v2, gmul_one]
  have hk := h.ker v fun k hk => by
    rw [tail]
    by_cases hkc : k < c
    · rw [xsum_pick (g := fun t => cel m t c) hkc fun t ht => by
        rw [h.one k t hk ht, v1 t ht]
        by_cases e : k = t
        · rw [if_pos e, if_pos e.symm, one_gmul]
        · rw [if_neg e, if_neg (fun e2 => e e2.symm), zero_gmul], UInt8.xor_self]
    · rw [xsum_congr (g := fun _ => 0) (fun t ht => by rw [h.one k t hk ht, if_neg (by omega), zero_gmul]), xsum_zero, UInt8.zero_xor, hz k (by omega) hk]
  have hp : PolyLt (c + 1) (fun y => xsum (fun d => gmul (v d) (gpow y d)) (c + 1)) := ⟨v, fun _ => rfl⟩
  have h0 := hp.zeros x (fun i j hi hj => hd i j (by omega) (by omega)) (fun i hi => by
    have := hk i (by omega)
    refine gmul_eq_zero ?_ (hx i (by omega))
    rw [xsum_mul, ← this]
    unfold dotV
    rw [xsum_tail (n := c + 1) (W := W) (by omega) (fun t ht => by rw [v3 t ht, gmul_zero])]
    exact xsum_congr fun t ht => by rw [hM i t (by omega) (by omega), gmul_assoc, ← gpow_succ, gmul_comm])
  have := coef_zero (c + 1) v (by omega) h0 c (by omega)
  rw [v2] at this
  exact absurd this (by decide)
theorem GI.swap (h : GI n W c M0 m) {p : Nat} (hc : c ≤ p) (hp : p < n) (hne : cel m p c ≠ 0) : GJ n W c 0 M0 ((m.set p (m.getD c [])).set c (gsc (m.getD p []) (ginv ((m.getD p []).getD c 0)))) := by
  have hne : (m.getD p []).getD c 0 ≠ 0 := hne
  have hl := h.len
  have hq : ginv ((m.getD p []).getD c 0) ≠ 0 := fun e => by
    have := gmul_ginv hne
    rw [e, gmul_zero] at this
    exact absurd this (by decide)
  have at_ : ∀ k j, cel ((m.set p (m.getD c [])).set c (gsc (m.getD p []) (ginv ((m.getD p []).getD c 0)))) k j = if k = c then gmul (cel m p j) (ginv ((m.getD p []).getD c 0)) else if k = p then cel m c j else cel m k j := fun k j => by
    rw [cel_set (by rw [List.length_set]; omega), cel_set (by omega), gsc_at]; rfl
  refine ⟨⟨by simp [hl], fun i hi => ?_, fun v hv => h.ker v fun k hk => ?_, fun k j hk hj => ?_⟩, ?_, fun k hk => by omega⟩
  · rw [row_set (by rw [List.length_set]; omega), row_set (by omega)]
    split
    · rw [gsc_len]; exact h.row p hp
    · split
      · exact h.row c (by omega)
      · exact h.row i hi
  · by_cases e1 : k = p
    · subst e1
      have := hv c (by omega)
      rw [dot_congr (s := fun j => gmul (cel m k j) (ginv ((m.getD k []).getD c 0))) (fun j _ => by rw [at_, if_pos rfl]), dot_smul] at this
      exact gmul_eq_zero this hq
    · by_cases e2 : k = c
      · subst e2
        have := hv p hp
        rwa [dot_congr (s := cel m k) (fun j _ => by rw [at_, if_neg (fun e => e1 e.symm), if_pos rfl])] at this
      · have := hv k hk
        rwa [dot_congr (s := cel m k) (fun j _ => by rw [at_, if_neg e2, if_neg e1])] at this
  · rw [at_]
    by_cases e1 : k = c
    · rw [if_pos e1, h.one p j hp hj, if_neg (by omega), zero_gmul, if_neg (by omega)]
    · rw [if_neg e1]
      by_cases e2 : k = p
      · rw [if_pos e2, h.one c j (by omega) hj, if_neg (by omega), if_neg (by omega)]
      · rw [if_neg e2]; exact h.one k j hk hj
  · rw [at_, if_pos rfl]
    exact gmul_ginv hne
theorem GJ.add (h : GJ n W c i M0 m) (hc : c < n) (hi : i < n) (hW : c < W) (hic : i ≠ c) : GJ n W c (i + 1) M0 (m.set i (gad (m.getD i []) (gsc (m.getD c []) ((m.getD i []).getD c 0)))) := by
  have hl := h.len
  have at_ : ∀ k j, j < W → cel (m.set i (gad (m.getD i []) (gsc (m.getD c []) ((m.getD i []).getD c 0)))) k j = if k = i then cel m i j ^^^ gmul (cel m c j) (cel m i c) else cel m k j := fun k j hj => by
    rw [cel_set (by omega), gad_at (by rw [h.row i hi]; exact hj), gsc_at]; rfl
  refine ⟨⟨by simp [hl], fun k hk => ?_, fun v hv => h.ker v fun k hk => ?_, fun k j hk hj => ?_⟩, ?_, fun k hk hkc => ?_⟩
  · rw [row_set (by omega)]
    split
    · rw [gad_len]; exact h.row i hi
    · exact h.row k hk
  · have hcv := hv c hc
    rw [dot_congr (s := cel m c) (fun j hj => by rw [at_ c j hj, if_neg (fun e => hic e.symm)])] at hcv
    have := hv k hk
    by_cases e : k = i
    · subst e
      rw [dot_congr (s := fun j => cel m k j ^^^ gmul (cel m c j) (cel m k c)) (fun j hj => by rw [at_ k j hj, if_pos rfl]), dot_add, dot_smul, hcv, zero_gmul, UInt8.xor_zero] at this
      exact this
    · rwa [dot_congr (s := cel m k) (fun j hj => by rw [at_ k j hj, if_neg e])] at this
  · rw [at_ k j (by omega)]
    split
    · rename_i e
      subst e
      rw [h.one k j hk hj, h.one c j hc hj, if_neg (show c ≠ j by omega), zero_gmul, UInt8.xor_zero]
    · exact h.one k j hk hj
  · rw [at_ c c hW, if_neg (fun e => hic e.symm)]; exact h.piv
  · rw [at_ k c hW]
    split
    · rw [h.piv, one_gmul, UInt8.xor_self]
    · exact h.zer k (by omega) hkc
theorem GJ.skip (h : GJ n W c c M0 m) : GJ n W c (c + 1) M0 m := ⟨h.toGI, h.piv, fun k hk hkc => h.zer k (by omega) hkc⟩
theorem GJ.next (h : GJ n W c n M0 m) : GI n W (c + 1) M0 m := ⟨h.len, h.row, h.ker, fun k j hk hj => by
  by_cases e : j = c
  · subst e
    by_cases e2 : k = j
    · subst e2; rw [if_pos rfl]; exact h.piv
    · rw [if_neg e2]; exact h.zer k hk e2
  · exact h.one k j hk (by omega)⟩
theorem GI.solves (h : GI n W n M0 m) {j : Nat} (hj : n + j < W) {i : Nat} (hi : i < n) : M0 i (n + j) = xsum (fun d => gmul (M0 i d) (cel m d (n + j))) n := by
  let v : Nat → UInt8 := fun t => if t < n then cel m t (n + j) else if t = n + j then 1 else 0
  have v1 : ∀ t, t < n → v t = cel m t (n + j) := fun t ht => if_pos ht
  have sp : ∀ r : Nat → UInt8, dotV r v W = xsum (fun t => gmul (r t) (v t)) n ^^^ r (n + j) := fun r => by
    unfold dotV
    obtain ⟨d, rfl⟩ : ∃ d, W = n + d := ⟨W - n, by omega⟩
    rw [xsum_split]
    congr 1
    rw [xsum_pick (g := fun t => r (n + t)) (k := j) (by omega) fun t ht => by
      have e : v (n + t) = if t = j then 1 else 0 := by
        show (if n + t < n then _ else _) = _
        rw [if_neg (by omega)]
        by_cases e : t = j
        · rw [if_pos e, if_pos (by omega)]
        · rw [if_neg e, if_neg (by omega)]
      rw [e]
      split
      · exact gmul_one _
      · exact gmul_zero _]
  have hk := h.ker v (fun k hk => by
    rw [sp, xsum_pick (g := fun t => cel m t (n + j)) hk fun t ht => by
      rw [h.one k t hk ht, v1 t ht]
      by_cases e : k = t
      · rw [if_pos e, if_pos e.symm, one_gmul]
      · rw [if_neg e, if_neg (fun e2 => e e2.symm), zero_gmul], UInt8.xor_self]) i hi
  rw [sp, xsum_congr (g := fun d => gmul (M0 i d) (cel m d (n + j))) (fun t ht => by rw [v1 t ht])] at hk
  have e := congrArg (fun z => z ^^^ M0 i (n + j)) hk
  simp only [UInt8.xor_assoc, UInt8.xor_self, UInt8.xor_zero, UInt8.zero_xor] at e
  exact e.symm
theorem GI.start (hl : m.length = n) (hr : ∀ i, i < n → (m.getD i []).length = W) (hM : ∀ i j, i < n → j < W → M0 i j = cel m i j) : GI n W 0 M0 m :=
  ⟨hl, hr, fun v hv i hi => by rw [dot_congr (hM i · hi)]; exact hv i hi, fun k j _ hj => by omega⟩
end
end Go.Proofs.Ytgjbkdlbhbfeiaa
