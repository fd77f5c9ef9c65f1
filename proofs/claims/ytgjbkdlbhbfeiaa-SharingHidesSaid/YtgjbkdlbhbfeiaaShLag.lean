/-
  Lagrange's formula over the field with 256 elements. No condition.
-/
import Derived.Test.YtgjbkdlbhbfeiaaShP
namespace Go.Proofs.Ytgjbkdlbhbfeiaa
open Go.RowKit

/-- The function f is a polynomial of degree below n. -/
def PolyLt (n : Nat) (f : UInt8 → UInt8) : Prop := ∃ c : Nat → UInt8, ∀ x, f x = xsum (fun d => gmul (c d) (gpow x d)) n
theorem xsum_zero : ∀ n, xsum (fun _ => 0) n = 0
  | 0 => rfl
  | n + 1 => by rw [xsum, xsum_zero n]; rfl
theorem xsum_mulL (f : Nat → UInt8) (x : UInt8) (n : Nat) : gmul x (xsum f n) = xsum (fun i => gmul x (f i)) n := by
  rw [gmul_comm, xsum_mul]; exact xsum_congr fun i _ => gmul_comm _ _
theorem PolyLt.zero (n : Nat) : PolyLt n (fun _ => 0) := ⟨fun _ => 0, fun x => by
  rw [xsum_congr (g := fun _ => 0) (fun i _ => zero_gmul _), xsum_zero]⟩
theorem PolyLt.add {n : Nat} {f g : UInt8 → UInt8} (hf : PolyLt n f) (hg : PolyLt n g) : PolyLt n (fun x => f x ^^^ g x) := by
  obtain ⟨c, hc⟩ := hf
  obtain ⟨d, hd⟩ := hg
  exact ⟨fun i => c i ^^^ d i, fun x => by show f x ^^^ g x = _; rw [hc, hd, ← xsum_add]; exact xsum_congr fun i _ => (gmul_addL ..).symm⟩
theorem PolyLt.smul {n : Nat} {f : UInt8 → UInt8} (hf : PolyLt n f) (k : UInt8) : PolyLt n (fun x => gmul k (f x)) := by
  obtain ⟨c, hc⟩ := hf
  exact ⟨fun i => gmul k (c i), fun x => by show gmul k (f x) = _; rw [hc, xsum_mulL]; exact xsum_congr fun i _ => (gmul_assoc ..).symm⟩
theorem PolyLt.up {n : Nat} {f : UInt8 → UInt8} (hf : PolyLt n f) : PolyLt (n + 1) f := by
  obtain ⟨c, hc⟩ := hf
  refine ⟨fun i => if i < n then c i else 0, fun x => ?_⟩
  rw [hc, xsum]
  simp only [Nat.lt_irrefl, if_false, zero_gmul, UInt8.xor_zero]
  exact xsum_congr fun i hi => by rw [if_pos hi]
theorem PolyLt.mono {n m : Nat} {f : UInt8 → UInt8} (hf : PolyLt n f) (h : n ≤ m) : PolyLt m f := by
  induction h with
  | refl => exact hf
  | step _ ih => exact ih.up
theorem PolyLt.const (k : UInt8) : PolyLt 1 (fun _ => k) := ⟨fun _ => k, fun x => by simp [xsum, gpow, gmul_one]⟩
/-- Times x. -/
theorem PolyLt.mulx {n : Nat} {f : UInt8 → UInt8} (hf : PolyLt n f) : PolyLt (n + 1) (fun x => gmul (f x) x) := by
  obtain ⟨c, hc⟩ := hf
  refine ⟨fun i => if i = 0 then 0 else c (i - 1), fun x => ?_⟩
  show gmul (f x) x = _
  rw [hc, xsum_mul, xsum_front]
  simp only [if_true, zero_gmul, UInt8.zero_xor, Nat.add_sub_cancel]
  exact xsum_congr fun i _ => by rw [if_neg (by omega), gmul_assoc, gpow_succ]
theorem PolyLt.lin {n : Nat} {f : UInt8 → UInt8} (hf : PolyLt n f) (a : UInt8) : PolyLt (n + 1) (fun x => gmul (f x) (x ^^^ a)) := by
  obtain ⟨c, hc⟩ := (hf.mulx.add (hf.smul a).up)
  exact ⟨c, fun x => by show gmul (f x) (x ^^^ a) = _; rw [← hc, gmul_addR, gmul_comm (f x) a]⟩
theorem PolyLt.congr {n : Nat} {f g : UInt8 → UInt8} (hf : PolyLt n f) (h : ∀ x, g x = f x) : PolyLt n g := by
  obtain ⟨c, hc⟩ := hf
  exact ⟨c, fun x => (h x).trans (hc x)⟩
/-- The constant part. -/
theorem PolyLt.split {n : Nat} {f : UInt8 → UInt8} (hf : PolyLt (n + 1) f) : ∃ (k : UInt8) (g : UInt8 → UInt8), PolyLt n g ∧ ∀ x, f x = k ^^^ gmul (g x) x := by
  obtain ⟨c, hc⟩ := hf
  refine ⟨c 0, fun x => xsum (fun d => gmul (c (d + 1)) (gpow x d)) n, ⟨fun d => c (d + 1), fun x => rfl⟩, fun x => ?_⟩
  rw [hc, xsum_front, xsum_mul]
  congr 1
  · rw [gpow, gmul_one]
  · exact xsum_congr fun i _ => by rw [gmul_assoc, gpow_succ]
theorem PolyLt.root : ∀ {n : Nat} {f : UInt8 → UInt8}, PolyLt (n + 1) f → ∀ a, ∃ g, PolyLt n g ∧ ∀ x, f x ^^^ f a = gmul (g x) (x ^^^ a)
  | 0, f, hf, a => by
    obtain ⟨k, g, ⟨c, hg⟩, hk⟩ := hf.split
    refine ⟨fun _ => 0, PolyLt.zero 0, fun x => ?_⟩
    rw [hk, hk, hg, hg]
    simp [xsum, zero_gmul]
  | n + 1, f, hf, a => by
    obtain ⟨k, g, hg, hk⟩ := hf.split
    obtain ⟨q, hq, hqe⟩ := hg.root a
    refine ⟨fun x => g x ^^^ gmul a (q x), hg.add (hq.smul a).up, fun x => ?_⟩
    rw [hk, hk, xor4, UInt8.xor_self, UInt8.zero_xor, gmul_addL, gmul_assoc, ← hqe, gmul_addR, gmul_addR, gmul_comm a (g x), gmul_comm a (g a)]
    rw [UInt8.xor_assoc, ← UInt8.xor_assoc (gmul (g x) a), UInt8.xor_self, UInt8.zero_xor]
theorem gmul_eq_zero {a b : UInt8} (h : gmul a b = 0) (hb : b ≠ 0) : a = 0 := by
  have : gmul (gmul a b) (ginv b) = 0 := by rw [h, zero_gmul]
  rwa [gmul_assoc, gmul_ginv hb, gmul_one] at this
theorem xor_ne {a b : UInt8} (h : a ≠ b) : a ^^^ b ≠ 0 := fun h0 => h (by
  have : a ^^^ b ^^^ b = 0 ^^^ b := by rw [h0]
  rwa [UInt8.xor_assoc, UInt8.xor_self, UInt8.xor_zero, UInt8.zero_xor] at this)
/-- A polynomial of degree below n with n zeros is zero. -/
theorem PolyLt.zeros : ∀ {n : Nat} {f : UInt8 → UInt8}, PolyLt n f → ∀ (a : Nat → UInt8), (∀ i j, i < n → j < n → i ≠ j → a i ≠ a j) → (∀ i, i < n → f (a i) = 0) → ∀ x, f x = 0
  | 0, f, ⟨c, hc⟩, _, _, _, x => by rw [hc]; rfl
  | n + 1, f, hf, a, ha, hz, x => by
    obtain ⟨g, hg, hge⟩ := hf.root (a n)
    rw [hz n (by omega)] at hge
    simp only [UInt8.xor_zero] at hge
    have := hg.zeros a (fun i j hi hj => ha i j (by omega) (by omega)) (fun i hi => by
      have h1 := hge (a i)
      rw [hz i (by omega)] at h1
      exact gmul_eq_zero h1.symm (xor_ne (ha i n (by omega) (by omega) (by omega)))) x
    rw [hge, this, zero_gmul]
section
variable (l : List Sh)
theorem ovr_poly (i : Nat) : ∀ m, (m ≤ i → PolyLt (m + 1) (fun x => ovr l x i m)) ∧ (i < m → PolyLt m (fun x => ovr l x i m))
  | 0 => ⟨fun _ => PolyLt.const 1, fun h => by omega⟩
  | m + 1 => by
    obtain ⟨h1, h2⟩ := ovr_poly i m
    refine ⟨fun h => ?_, fun h => ?_⟩
    · exact ((h1 (by omega)).lin (u8 (l.getD m default).1)).congr fun x => by rw [ovr, if_pos (by omega)]
    · by_cases hm : m = i
      · subst hm
        exact (h1 (Nat.le_refl _)).congr fun x => by rw [ovr, if_neg (by omega)]
      · exact ((h2 (by omega)).lin (u8 (l.getD m default).1)).congr fun x => by rw [ovr, if_pos hm]
theorem ovr_ne (x : UInt8) (i : Nat) : ∀ m, (∀ t, t < m → t ≠ i → x ≠ u8 (l.getD t default).1) → ovr l x i m ≠ 0
  | 0, _ => by simp [ovr]
  | m + 1, h => by
    have h1 := ovr_ne x i m (fun t ht => h t (by omega))
    rw [ovr]
    split
    · rename_i hm
      exact fun h0 => h1 (gmul_eq_zero h0 (xor_ne (h m (by omega) hm)))
    · exact h1
theorem ovr_zero (x : UInt8) (i t : Nat) : ∀ m, t < m → t ≠ i → x = u8 (l.getD t default).1 → ovr l x i m = 0
  | 0, h, _, _ => by omega
  | m + 1, h, hti, hx => by
    rw [ovr]
    by_cases hm : m = t
    · subst hm; rw [if_pos hti, hx, UInt8.xor_self, gmul_zero]
    · have := ovr_zero x i t m (by omega) hti hx
      split
      · rw [this, zero_gmul]
      · exact this
/-- The value at x by Lagrange's formula. -/
def lag (v : Nat → UInt8) (x : UInt8) (n : Nat) : UInt8 := xsum (fun i => gmul (wgt l x i) (v i)) n
theorem lag_poly (v : Nat → UInt8) : ∀ n, n ≤ l.length → PolyLt l.length (fun x => lag l v x n)
  | 0, _ => (PolyLt.zero _).congr fun _ => rfl
  | n + 1, h => by
    refine ((lag_poly v n (by omega)).add ((((ovr_poly l n l.length).2 (by omega)).smul (gmul (ginv (ovr l (u8 (l.getD n default).1) n l.length)) (v n))))).congr fun x => ?_
    show lag l v x n ^^^ gmul (wgt l x n) (v n) = _
    congr 1
    rw [wgt, gmul_assoc, gmul_comm]
theorem xsum_one {f : Nat → UInt8} {k : Nat} (h : ∀ i, i ≠ k → f i = 0) : ∀ n, xsum f n = if k < n then f k else 0
  | 0 => by simp [xsum]
  | n + 1 => by
    rw [xsum, xsum_one h n]
    by_cases h1 : k < n
    · rw [if_pos h1, if_pos (by omega), h n (by omega), UInt8.xor_zero]
    · by_cases h2 : k = n
      · subst h2; simp
      · rw [if_neg h1, if_neg (by omega), h n (fun e => h2 e.symm)]; rfl
theorem lag_at (v : Nat → UInt8) (hd : ∀ i j, i < l.length → j < l.length → i ≠ j → u8 (l.getD i default).1 ≠ u8 (l.getD j default).1) (k : Nat) (hk : k < l.length) : lag l v (u8 (l.getD k default).1) l.length = v k := by
  have hw : ∀ i, gmul (wgt l (u8 (l.getD k default).1) i) (v i) = if i = k then v k else 0 := by
    intro i
    split
    · rename_i e
      subst e
      rw [wgt, gmul_ginv (ovr_ne l _ _ _ fun t ht hti => hd i t hk ht (fun e => hti e.symm)), one_gmul]
    · rename_i e
      rw [wgt, ovr_zero l _ i k l.length hk (fun h => e h.symm) rfl, zero_gmul, zero_gmul]
  unfold lag
  rw [xsum_congr (fun i _ => hw i), xsum_one (k := k) (fun i hi => by rw [if_neg hi]), if_pos hk, if_pos rfl]
/-- Lagrange's formula gives back a polynomial of low degree. -/
theorem lag_eq {p : UInt8 → UInt8} (hp : PolyLt l.length p) (hd : ∀ i j, i < l.length → j < l.length → i ≠ j → u8 (l.getD i default).1 ≠ u8 (l.getD j default).1) (x : UInt8) : lag l (fun i => p (u8 (l.getD i default).1)) x l.length = p x := by
  have hz := ((lag_poly l (fun i => p (u8 (l.getD i default).1)) l.length (Nat.le_refl _)).add hp).zeros (fun i => u8 (l.getD i default).1) hd (fun i hi => by rw [lag_at l _ hd i hi, UInt8.xor_self]) x
  have : lag l (fun i => p (u8 (l.getD i default).1)) x l.length ^^^ p x ^^^ p x = 0 ^^^ p x := by rw [hz]
  rwa [UInt8.xor_assoc, UInt8.xor_self, UInt8.xor_zero, UInt8.zero_xor] at this
end
/-- The values that At computes. -/
theorem ares_lag (l : List Sh) (x : UInt8) (j : Nat) (hj : j < (l.getD 0 default).2.length) : ∀ n, (ares l x n).getD j 0 = lag l (fun i => (l.getD i default).2.getD j 0) x n
  | 0 => by rw [ares, List.getD_eq_getElem?_getD, List.getElem?_replicate, if_pos hj]; rfl
  | n + 1 => by rw [ares_next l x n j hj, ares_lag l x j hj n]; rfl
/-- The share's byte as a polynomial. -/
theorem splitB_poly (s r : List UInt8) (need : Nat) (hn : 1 ≤ need) (j : Nat) : PolyLt need (fun x => splitB s r need x j) := by
  refine ⟨fun d => if d = 0 then s.getD j 0 else r.getD ((d - 1) * s.length + j) 0, fun x => ?_⟩
  obtain ⟨m, rfl⟩ : ∃ m, need = m + 1 := ⟨need - 1, by omega⟩
  show splitB s r (m + 1) x j = _
  rw [splitB, hst_eq _ _ _ _ _ _ (Nat.le_refl _), xsum_front, UInt8.xor_comm]
  simp only [if_true, gpow, gmul_one, Nat.sub_self, Nat.zero_add, Nat.add_sub_cancel]
  congr 1
theorem splitB_zero (s r : List UInt8) (need : Nat) (j : Nat) : splitB s r need 0 j = s.getD j 0 := by
  rw [splitB, hst_eq _ _ _ _ _ _ (Nat.le_refl _)]
  rw [xsum_congr (g := fun _ => 0) (fun i _ => by rw [gpow_succ, gmul_zero, gmul_zero]), xsum_zero, UInt8.zero_xor]
end Go.Proofs.Ytgjbkdlbhbfeiaa
