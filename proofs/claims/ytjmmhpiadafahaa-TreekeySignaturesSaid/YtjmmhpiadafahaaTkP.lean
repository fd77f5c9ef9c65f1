/-
  The bytes of a signature are read back as that signature. In plain words. No condition.
-/
import Derived.Test.YtjmmhpiadafahaaTk8
import Derived.Test.YtjmmhpiadafahaaTk9
namespace Go.Proofs.Ytjmmhpiadafahaa
open Go.RowKit

theorem wstep_nat (x : UInt64) (c : UInt8) (h : x.toNat < 72057594037927936) : (wstep x c).toNat = x.toNat * 256 + c.toNat := by
  have hc := c.toNat_lt
  unfold wstep
  have h1 : (x <<< (8 : UInt64)).toNat = x.toNat * 256 := by
    rw [UInt64.toNat_shiftLeft]
    show x.toNat <<< 8 % 18446744073709551616 = _
    rw [Nat.shiftLeft_eq, show (2 : Nat) ^ 8 = 256 from rfl, Nat.mod_eq_of_lt (by omega)]
  rw [UInt64.toNat_or, h1, UInt8.toNat_toUInt64]
  have := Nat.shiftLeft_add_eq_or_of_lt (b := c.toNat) (i := 8) (by simpa using hc) x.toNat
  rw [Nat.shiftLeft_eq] at this
  exact this.symm
theorem wordOf_nat (a b c d e f g h : UInt8) : (wordOf [a, b, c, d, e, f, g, h]).toNat = ((((((a.toNat * 256 + b.toNat) * 256 + c.toNat) * 256 + d.toNat) * 256 + e.toNat) * 256 + f.toNat) * 256 + g.toNat) * 256 + h.toNat := by
  have ha := a.toNat_lt; have hb := b.toNat_lt; have hc := c.toNat_lt; have hd := d.toNat_lt; have he := e.toNat_lt; have hf := f.toNat_lt; have hg := g.toNat_lt
  have e1 : (wstep 0 a).toNat = a.toNat := by rw [wstep_nat 0 a (by decide)]; simp
  have e2 : (wstep (wstep 0 a) b).toNat = a.toNat * 256 + b.toNat := by rw [wstep_nat _ b (by omega), e1]
  have e3 := wstep_nat (wstep (wstep 0 a) b) c (by omega)
  rw [e2] at e3
  have e4 := wstep_nat (wstep (wstep (wstep 0 a) b) c) d (by omega)
  rw [e3] at e4
  have e5 := wstep_nat (wstep (wstep (wstep (wstep 0 a) b) c) d) e (by omega)
  rw [e4] at e5
  have e6 := wstep_nat (wstep (wstep (wstep (wstep (wstep 0 a) b) c) d) e) f (by omega)
  rw [e5] at e6
  have e7 := wstep_nat (wstep (wstep (wstep (wstep (wstep (wstep 0 a) b) c) d) e) f) g (by omega)
  rw [e6] at e7
  have e8 := wstep_nat (wstep (wstep (wstep (wstep (wstep (wstep (wstep 0 a) b) c) d) e) f) g) h (by omega)
  rw [e7] at e8
  exact e8
theorem shr8_nat (x : UInt64) (k : Nat) (hk : k < 64) : (x >>> UInt64.ofNat k).toUInt8.toNat = x.toNat / 2 ^ k % 256 := by
  rw [UInt64.toNat_toUInt8, UInt64.toNat_shiftRight, UInt64.toNat_ofNat_of_lt' (by show k < 2 ^ 64; omega), Nat.mod_eq_of_lt hk, Nat.shiftRight_eq_div_pow]
theorem wordOf_words (x : UInt64) : wordOf (words [x]) = x := by
  apply UInt64.toNat_inj.1
  have hx := x.toNat_lt
  have e : words [x] = be x := by simp [words]
  rw [e]
  unfold be
  rw [wordOf_nat]
  have k7 := shr8_nat x 56 (by omega); have k6 := shr8_nat x 48 (by omega); have k5 := shr8_nat x 40 (by omega); have k4 := shr8_nat x 32 (by omega)
  have k3 := shr8_nat x 24 (by omega); have k2 := shr8_nat x 16 (by omega); have k1 := shr8_nat x 8 (by omega); have k0 := shr8_nat x 0 (by omega)
  simp only [show UInt64.ofNat 56 = 56 from rfl, show UInt64.ofNat 48 = 48 from rfl, show UInt64.ofNat 40 = 40 from rfl, show UInt64.ofNat 32 = 32 from rfl, show UInt64.ofNat 24 = 24 from rfl, show UInt64.ofNat 16 = 16 from rfl, show UInt64.ofNat 8 = 8 from rfl, show UInt64.ofNat 0 = 0 from rfl] at k7 k6 k5 k4 k3 k2 k1 k0
  rw [k7, k6, k5, k4, k3, k2, k1, k0]
  omega
theorem words_drop (l : List UInt64) (i : Nat) : (words l).drop (8 * i) = words (l.drop i) := by
  induction l generalizing i with
  | nil => simp [words]
  | cons x l ih =>
    cases i with
    | zero => rfl
    | succ i =>
      rw [show 8 * (i + 1) = 8 + 8 * i by omega, ← List.drop_drop]
      exact ih i
theorem words_take8 (x : UInt64) (l : List UInt64) : (words (x :: l)).take 8 = words [x] := by simp [words, be]
theorem word_at (l : List UInt64) (i : Nat) (h : i < l.length) : wordOf (((words l).drop (8 * i)).take 8) = l.getD i 0 := by
  rw [words_drop, List.drop_eq_getElem_cons h, words_take8, wordOf_words, List.getD_eq_getElem?_getD, List.getElem?_eq_getElem h]
  rfl
theorem u8_nat (n : Nat) (h : n < 256) : bv (u8 (n : Int)) = (n : Int) := by
  show ((UInt8.ofNat ((n : Int) % 2 ^ 8).toNat).toNat : Int) = _
  rw [UInt8.toNat_ofNat']
  show ((((n : Int) % 256).toNat % 256 : Nat) : Int) = _
  omega
theorem ds_es (leaf : Int) (C P : List UInt64) (h : esE leaf C P = 0) : dsE (esB leaf C P) = 0 ∧ dsL (esB leaf C P) = leaf ∧ dsC (esB leaf C P) = C ∧ dsP (esB leaf C P) = P := by
  have hb : ¬ badL (P.length : Int) leaf := by intro hb; rw [esE, if_pos hb] at h; exact absurd h (by decide)
  have hC : C.length = 18 := by
    rw [esE, if_neg hb] at h
    apply Decidable.byContradiction
    intro hC
    rw [if_pos hC] at h; exact absurd h (by decide)
  have e : esB leaf C P = [u8 leaf, u8 (P.length : Int)] ++ words C ++ words P := if_neg (by rintro (h | h); exact hb h; exact h hC)
  have hb' := hb
  unfold badL badH at hb
  rw [Int.toNat_natCast] at hb
  have hk : P.length ≤ 4 := by omega
  have hp : 2 ^ P.length ≤ 16 := Nat.pow_le_pow_right (by decide) hk
  obtain ⟨m, rfl⟩ : ∃ m : Nat, leaf = (m : Int) := ⟨leaf.toNat, by omega⟩
  have e0 : bv ((esB (m : Int) C P).getD 0 0) = (m : Int) := by rw [e]; exact u8_nat m (by omega)
  have e1 : bv ((esB (m : Int) C P).getD 1 0) = (P.length : Int) := by rw [e]; exact u8_nat _ (by omega)
  have e2 : ((esB (m : Int) C P).getD 1 0).toNat = P.length := Int.ofNat.inj e1
  have el : (esB (m : Int) C P).length = 2 + 8 * (18 + P.length) := by rw [e]; simp [words_len, hC]; omega
  have hd : ¬ dsBad (esB (m : Int) C P) := by
    unfold dsBad
    rw [e0, e1, e2, el]
    rintro (h | h | h)
    · omega
    · exact hb' h
    · omega
  have hw (i : Nat) (hi : i < 18 + P.length) : dsW (esB (m : Int) C P) i = (C ++ P).getD i 0 := by
    unfold dsW
    rw [← List.drop_drop, e, List.append_assoc, ← words_app]
    exact word_at (C ++ P) i (by simp [hC]; omega)
  refine ⟨if_neg hd, (if_neg hd).trans e0, (if_neg hd).trans ?_, (if_neg hd).trans ?_⟩
  · apply List.ext_getElem (by rw [dsCn_len, hC])
    intro i h1 h2
    rw [dsCn_len] at h1
    simp only [dsCn, List.getElem_map, List.getElem_range]
    rw [hw i (by omega), List.getD_eq_getElem?_getD, List.getElem?_append_left h2, List.getElem?_eq_getElem h2]
    rfl
  · rw [e2]
    apply List.ext_getElem (by rw [dsPn_len])
    intro i h1 h2
    simp only [dsPn, List.getElem_map, List.getElem_range]
    rw [hw (18 + i) (by omega), List.getD_eq_getElem?_getD, List.getElem?_append_right (by omega), hC, Nat.add_sub_cancel_left, List.getElem?_eq_getElem h2]
    rfl
end Go.Proofs.Ytjmmhpiadafahaa
