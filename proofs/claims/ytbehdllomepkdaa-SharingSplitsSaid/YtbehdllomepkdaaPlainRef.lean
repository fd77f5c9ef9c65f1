/-
  That the reference takes in the same words as digest.Sum does. Plain; no condition.
-/
import Derived.Test.YtbehdllomepkdaaPlainDig
namespace Go.Proofs.Ytbehdllomepkdaa

/-- What the reference takes in: eight bytes from above. -/
def fromAbove (f : Nat → UInt8) : Nat → UInt64
  | 0 => 0
  | t + 1 => fromAbove f t <<< 8 ||| (f (7 - t)).toUInt64
theorem fromAbove_8 (f : Nat → UInt8) : fromAbove f 8 = le [f 0, f 1, f 2, f 3, f 4, f 5, f 6, f 7] := rfl
/-- Byte k of word j: of the bytes, of their number, or 0. -/
def byteAt (b : List UInt8) (j k : Nat) : UInt8 := if 8 * j + k < b.length then b.getD (8 * j + k) 0 else if k = 7 then UInt8.ofNat b.length else 0
theorem list8 (f : Nat → UInt8) : [f 0, f 1, f 2, f 3, f 4, f 5, f 6, f 7] = (List.range 8).map f := rfl
theorem word_full (b : List UInt8) (j : Nat) (h : 8 * j + 8 ≤ b.length) : fromAbove (byteAt b j) 8 = le ((b.drop (8 * j)).take 8) := by
  rw [fromAbove_8, list8]
  congr 1
  apply List.ext_getElem?
  intro i
  by_cases hi : i < 8
  · rw [List.getElem?_map, List.getElem?_range hi, List.getElem?_take, if_pos hi, List.getElem?_drop]
    simp [byteAt, show 8 * j + i < b.length by omega]
  · rw [List.getElem?_eq_none (by simp; omega), List.getElem?_eq_none (by simp; omega)]
theorem len_byte (n : Nat) : (UInt8.ofNat n).toUInt64 <<< 56 = UInt64.ofNat n <<< 56 := by
  apply UInt64.toNat_inj.1
  rw [UInt64.toNat_shiftLeft, UInt64.toNat_shiftLeft, UInt8.toNat_toUInt64]
  simp only [UInt8.toNat_ofNat', UInt64.toNat_ofNat', Nat.shiftLeft_eq]
  show n % 256 * 72057594037927936 % 18446744073709551616 = n % 18446744073709551616 * 72057594037927936 % 18446744073709551616
  omega
theorem word_last (b : List UInt8) : fromAbove (byteAt b (b.length / 8)) 8 = lastWord b := by
  have hsplit : (List.range 8).map (byteAt b (b.length / 8)) = (b.drop (8 * (b.length / 8)) ++ List.replicate (7 - b.length % 8) 0) ++ [UInt8.ofNat b.length] := by
    apply List.ext_getElem?
    intro i
    by_cases hi : i < 8
    · rw [List.getElem?_map, List.getElem?_range hi, List.getElem?_append, List.getElem?_append]
      have hl : (b.drop (8 * (b.length / 8))).length = b.length % 8 := by simp; omega
      simp only [List.length_append, hl, List.length_replicate, Option.map_some]
      by_cases h1 : i < b.length % 8
      · rw [if_pos (by omega), if_pos h1, List.getElem?_drop]
        simp [byteAt, show 8 * (b.length / 8) + i < b.length by omega]
      · by_cases h2 : i < 7
        · rw [if_pos (by omega), if_neg h1, List.getElem?_replicate, if_pos (by omega)]
          simp [byteAt, show ¬ 8 * (b.length / 8) + i < b.length by omega, show i ≠ 7 by omega]
        · obtain rfl : i = 7 := by omega
          rw [if_neg (by omega)]
          simp [byteAt, show ¬ 8 * (b.length / 8) + 7 < b.length by omega, show 7 - (b.length % 8 + (7 - b.length % 8)) = 0 by omega]
    · rw [List.getElem?_eq_none (by simp; omega), List.getElem?_eq_none (by simp; omega)]
  rw [fromAbove_8, list8, hsplit, le_snoc _ _ (by simp; omega), le_zero _ _ (by simp; omega)]
  have h56 : 8 * (b.drop (8 * (b.length / 8)) ++ List.replicate (7 - b.length % 8) (0 : UInt8)).length = 56 := by simp; omega
  rw [h56]
  unfold lastWord
  rw [← len_byte]
  rfl
/-- The reference's state behind j words. -/
def absR (k0 k1 : UInt64) (b : List UInt8) (j : Nat) : St := if j ≤ b.length / 8 then absN k0 k1 b j else absorb (absN k0 k1 b (b.length / 8)) (lastWord b)
theorem absR_succ (k0 k1 : UInt64) (b : List UInt8) (j : Nat) (h : j ≤ b.length / 8) : absR k0 k1 b (j + 1) = absorb (absR k0 k1 b j) (fromAbove (byteAt b j) 8) := by
  unfold absR
  rw [if_pos h]
  by_cases h2 : j + 1 ≤ b.length / 8
  · rw [if_pos h2, word_full b j (by omega)]; rfl
  · obtain rfl : j = b.length / 8 := by omega
    rw [if_neg h2, word_last]
theorem absR_last (k0 k1 : UInt64) (b : List UInt8) : finD (absR k0 k1 b (b.length / 8 + 1)) = sum k0 k1 b := by
  unfold absR sum; rw [if_neg (by omega)]
end Go.Proofs.Ytbehdllomepkdaa
