/-
  One-time signatures: digits, chains, public words, signatures, in plain words. No condition.
-/
import Derived.Test.YtjmmhpiadafahaaDR
import Derived.Test.YtjmmhpiadafahaaRX
namespace Go.Proofs.Ytjmmhpiadafahaa
open Go.RowKit

def nib (m : UInt64) (k : Nat) : Nat := m.toNat / 2 ^ (60 - 4 * k) % 16
def nibSum (m : UInt64) : Nat → Nat
  | 0 => 0
  | k + 1 => nibSum m k + (15 - nib m k)
def digs (m : UInt64) : List Int := (List.range 16).map (fun k => (nib m k : Int)) ++ [((nibSum m 16 / 16 : Nat) : Int), ((nibSum m 16 % 16 : Nat) : Int)]
theorem nib_lt (m : UInt64) (k : Nat) : nib m k < 16 := Nat.mod_lt _ (by decide)
theorem nibSum_le (m : UInt64) (k : Nat) : nibSum m k ≤ 15 * k := by
  induction k with
  | zero => simp [nibSum]
  | succ k ih => simp only [nibSum]; omega
theorem digs_len (m : UInt64) : (digs m).length = 18 := by simp [digs]
theorem nib_val (m : UInt64) (k : Nat) : bits BinOp.and IntKind.u64 (wv m / 2 ^ (60 - 4 * k)) 15 = (nib m k : Int) := by
  by_cases hk : k ≤ 15
  · rw [wv_shr m _ (by omega)]
    have := wv_and (m >>> UInt64.ofNat (60 - 4 * k)) 15
    rw [show (15 : Int) = wv 15 from rfl, this]
    unfold wv nib
    rw [UInt64.toNat_and, UInt64.toNat_shiftRight, UInt64.toNat_ofNat_of_lt' (by show _ < 2 ^ 64; omega), Nat.mod_eq_of_lt (by omega), Nat.shiftRight_eq_div_pow]
    rw [show (15 : UInt64).toNat = 2 ^ 4 - 1 from rfl, Nat.and_two_pow_sub_one_eq_mod]
  · rw [show 60 - 4 * k = 0 by omega]
    have := wv_and m 15
    rw [show (15 : Int) = wv 15 from rfl, show wv m / 2 ^ 0 = wv m by simp, this]
    unfold wv nib
    rw [show 60 - 4 * k = 0 by omega, UInt64.toNat_and, show (15 : UInt64).toNat = 2 ^ 4 - 1 from rfl, Nat.and_two_pow_sub_one_eq_mod]
    simp
def digRev (m : UInt64) (k : Nat) : List Int := (List.range k).map fun j => (nib m j : Int)
theorem digRev_succ (m : UInt64) (k : Nat) : digRev m (k + 1) = digRev m k ++ [(nib m k : Int)] := by simp [digRev, List.range_succ]
theorem digRev_len (m : UInt64) (k : Nat) : (digRev m k).length = k := by simp [digRev]
theorem digs_eq (m : UInt64) : digs m = digRev m 16 ++ [((nibSum m 16 / 16 : Nat) : Int), ((nibSum m 16 % 16 : Nat) : Int)] := rfl
def stepC (leaf chain : Int) (p : Int) (x : UInt64) : UInt64 := hash 1 (words [u64 leaf, u64 chain, u64 p, x])
/-- n steps of a chain from position p on. -/
def runC (leaf chain : Int) (p : Int) (x : UInt64) : Nat → UInt64
  | 0 => x
  | n + 1 => stepC leaf chain (p + n) (runC leaf chain p x n)
theorem runC_succ (leaf chain : Int) (p : Int) (x : UInt64) (n : Nat) : runC leaf chain p x (n + 1) = hash 1 (words [u64 leaf, u64 chain, u64 (p + n), runC leaf chain p x n]) := rfl
def run (leaf chain src dst : Int) (x : UInt64) : UInt64 := runC leaf chain (max src 0) x (min dst 15 - max src 0).toNat
theorem runC_add (leaf chain p : Int) (x : UInt64) (a b : Nat) : runC leaf chain p x (a + b) = runC leaf chain (p + a) (runC leaf chain p x a) b := by
  induction b with
  | zero => rfl
  | succ b ih =>
    show runC leaf chain p x (a + b + 1) = _
    rw [runC_succ, runC_succ, ih, show p + ((a + b : Nat) : Int) = p + a + b by omega]
theorem run_split (leaf chain p q r : Int) (x : UInt64) (h0 : 0 ≤ p) (h1 : p ≤ q) (h2 : q ≤ r) (hp : p ≤ 15) : run leaf chain p r x = run leaf chain q r (run leaf chain p q x) := by
  unfold run
  rw [show max p 0 = p by omega, show max q 0 = q by omega]
  by_cases hq : q ≤ 15
  · have e : (min r 15 - p).toNat = (q - p).toNat + (min r 15 - q).toNat := by omega
    rw [e, runC_add, show min q 15 = q by omega, show p + ((q - p).toNat : Int) = q by omega]
  · rw [show (min r 15 - q).toNat = 0 by omega, show min r 15 = 15 by omega, show min q 15 = 15 by omega]; rfl
theorem digs_nib (m : UInt64) (j : Nat) (h : j < 16) : (digs m).getD j 0 = (nib m j : Int) := by
  simp [digs, List.getElem?_append, h]
theorem digs_16 (m : UInt64) : (digs m).getD 16 0 = ((nibSum m 16 / 16 : Nat) : Int) := by simp [digs]
theorem digs_17 (m : UInt64) : (digs m).getD 17 0 = ((nibSum m 16 % 16 : Nat) : Int) := by simp [digs]
def secret (seed : UInt64) (leaf c : Int) : UInt64 := mac seed 1 (words [u64 leaf, u64 c])
def combine (leaf : Int) (l : List UInt64) : UInt64 := hash 2 (words (u64 leaf :: l))
def pubEnds (seed : UInt64) (leaf : Int) (n : Nat) : List UInt64 := (List.range n).map fun (i : Nat) => run leaf i 0 15 (secret seed leaf i)
def signL (seed : UInt64) (leaf : Int) (m : UInt64) (n : Nat) : List UInt64 := (List.range n).map fun (i : Nat) => run leaf i 0 ((digs m).getD i 0) (secret seed leaf i)
def recL (leaf : Int) (m : UInt64) (s : List UInt64) (n : Nat) : List UInt64 := (List.range n).map fun (i : Nat) => run leaf i ((digs m).getD i 0) 15 (s.getD i 0)
theorem pubEnds_len (seed : UInt64) (leaf : Int) (n : Nat) : (pubEnds seed leaf n).length = n := by simp [pubEnds]
theorem signL_len (seed : UInt64) (leaf : Int) (m : UInt64) (n : Nat) : (signL seed leaf m n).length = n := by simp [signL]
theorem recL_len (leaf : Int) (m : UInt64) (s : List UInt64) (n : Nat) : (recL leaf m s n).length = n := by simp [recL]
theorem pubEnds_succ (seed : UInt64) (leaf : Int) (n : Nat) : pubEnds seed leaf (n + 1) = pubEnds seed leaf n ++ [run leaf n 0 15 (secret seed leaf n)] := by simp [pubEnds, List.range_succ]
theorem signL_succ (seed : UInt64) (leaf : Int) (m : UInt64) (n : Nat) : signL seed leaf m (n + 1) = signL seed leaf m n ++ [run leaf n 0 ((digs m).getD n 0) (secret seed leaf n)] := by simp [signL, List.range_succ]
theorem recL_succ (leaf : Int) (m : UInt64) (s : List UInt64) (n : Nat) : recL leaf m s (n + 1) = recL leaf m s n ++ [run leaf n ((digs m).getD n 0) 15 (s.getD n 0)] := by simp [recL, List.range_succ]
theorem digs_bd (m : UInt64) (i : Nat) : 0 ≤ (digs m).getD i 0 ∧ (digs m).getD i 0 ≤ 15 := by
  have hs := nibSum_le m 16
  by_cases h : i < 16
  · have := nib_lt m i
    have e : (digs m).getD i 0 = (nib m i : Int) := by simp [digs, List.getElem?_append, h]
    omega
  · by_cases h16 : i = 16
    · subst h16
      have e : (digs m).getD 16 0 = ((nibSum m 16 / 16 : Nat) : Int) := by simp [digs]
      omega
    · by_cases h17 : i = 17
      · subst h17
        have e : (digs m).getD 17 0 = ((nibSum m 16 % 16 : Nat) : Int) := by simp [digs]
        omega
      · have e : (digs m).getD i 0 = 0 := by
          rw [List.getD_eq_getElem?_getD, List.getElem?_eq_none (by rw [digs_len]; omega)]; rfl
        omega
theorem rec_sign (seed : UInt64) (leaf : Int) (m : UInt64) : recL leaf m (signL seed leaf m 18) 18 = pubEnds seed leaf 18 := by
  unfold recL pubEnds
  apply List.map_congr_left
  intro i hi
  have hi' := List.mem_range.1 hi
  have hb := digs_bd m i
  have e : (signL seed leaf m 18).getD i 0 = run leaf i 0 ((digs m).getD i 0) (secret seed leaf i) := by simp [signL, hi']
  rw [e, ← run_split leaf i 0 _ 15 _ (by omega) hb.1 hb.2 (by omega)]

/-- The digits up to digit k; behind them zeros. -/
def digP (m : UInt64) (k : Nat) : List Int := (List.range 18).map fun j => if j < k then (nib m j : Int) else 0
theorem digP_len (m : UInt64) (k : Nat) : (digP m k).length = 18 := by simp [digP]
theorem digP_zero (m : UInt64) : digP m 0 = List.replicate 18 0 := by simp [digP, List.range_succ]
theorem digP_at (m : UInt64) (k j : Nat) (hj : j < 18) : (digP m k).getD j 0 = if j < k then (nib m j : Int) else 0 := by
  rw [List.getD_eq_getElem?_getD]; simp [digP, hj]
theorem digP_set (m : UInt64) (k : Nat) : (digP m k).set k (nib m k : Int) = digP m (k + 1) := by
  apply List.ext_getElem (by simp [digP])
  intro j h1 h2
  rw [List.getElem_set]
  simp only [digP, List.getElem_map, List.getElem_range]
  by_cases hk : k = j
  · subst hk; rw [if_pos rfl, if_pos (by omega)]
  · rw [if_neg hk]
    by_cases h : j < k
    · rw [if_pos h, if_pos (by omega)]
    · rw [if_neg h, if_neg (by omega)]
theorem digP_end (m : UInt64) : ((digP m 16).set 16 ((nibSum m 16 / 16 : Nat) : Int)).set 17 ((nibSum m 16 % 16 : Nat) : Int) = digs m := by
  simp [digP, digs, List.range_succ]
/-- Words up to word k; behind them zeros. -/
def fillZ (n : Nat) (l : List UInt64) (k : Nat) : List UInt64 := l.take k ++ List.replicate (n - k) 0
theorem fillZ_len {n k : Nat} {l : List UInt64} (hl : l.length = n) (hk : k ≤ n) : (fillZ n l k).length = n := by simp [fillZ]; omega
theorem fillZ_zero (n : Nat) (l : List UInt64) : fillZ n l 0 = List.replicate n 0 := by simp [fillZ]
theorem fillZ_full {n : Nat} {l : List UInt64} (hl : l.length = n) : fillZ n l n = l := by simp [fillZ, ← hl]
theorem fillZ_set {n k : Nat} {l : List UInt64} (hl : l.length = n) (hk : k < n) : (fillZ n l k).set k (l.getD k 0) = fillZ n l (k + 1) := by
  apply List.ext_getElem (by simp [fillZ]; omega)
  intro j h1 h2
  have hj : j < n := by rw [List.length_set, fillZ_len hl (by omega)] at h1; exact h1
  rw [List.getElem_set]
  by_cases h : k = j
  · subst h
    simp [fillZ, hl, hk, List.getElem_append]
    omega
  · rw [if_neg h]
    simp only [fillZ, List.getElem_append, List.length_take, hl]
    by_cases hjk : j < k
    · simp [show j < min k n by omega, show j < min (k + 1) n by omega]
    · simp [show ¬ j < min k n by omega, show ¬ j < min (k + 1) n by omega]
theorem signL_at (seed : UInt64) (leaf : Int) (m : UInt64) (i : Nat) (h : i < 18) : (signL seed leaf m 18).getD i 0 = run leaf i 0 ((digs m).getD i 0) (secret seed leaf i) := by simp [signL, h]
theorem recL_at (leaf : Int) (m : UInt64) (s : List UInt64) (i : Nat) (h : i < 18) : (recL leaf m s 18).getD i 0 = run leaf i ((digs m).getD i 0) 15 (s.getD i 0) := by simp [recL, h]
theorem pubEnds_at (seed : UInt64) (leaf : Int) (i : Nat) (h : i < 18) : (pubEnds seed leaf 18).getD i 0 = run leaf i 0 15 (secret seed leaf i) := by simp [pubEnds, h]
/-- The digit of a word at a place. -/
theorem nib_shr (m : UInt64) (k : Nat) (hk : k ≤ 15) : wv ((m >>> UInt64.ofNat (60 - 4 * k)) &&& 15) = (nib m k : Int) := by
  unfold wv nib
  rw [UInt64.toNat_and, UInt64.toNat_shiftRight, UInt64.toNat_ofNat_of_lt' (by show _ < 2 ^ 64; omega), Nat.mod_eq_of_lt (by omega), Nat.shiftRight_eq_div_pow]
  rw [show (15 : UInt64).toNat = 2 ^ 4 - 1 from rfl, Nat.and_two_pow_sub_one_eq_mod]
end Go.Proofs.Ytjmmhpiadafahaa
