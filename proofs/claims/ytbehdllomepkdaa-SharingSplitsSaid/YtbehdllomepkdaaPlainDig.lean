/-
  The hash SipHash-2-4 on plain words and bytes, with no program in sight; and that taking eight bytes from above or from below gives one word. No condition.
-/
import Derived.Test.YtbehdllomepkdaaWord
namespace Go.Proofs.Ytbehdllomepkdaa

structure St where
  v0 : UInt64
  v1 : UInt64
  v2 : UInt64
  v3 : UInt64

def rotl (x k : UInt64) : UInt64 := x <<< k ||| x >>> (64 - k)
def rnd (s : St) : St :=
  let a0 := s.v0 + s.v1
  let a1 := rotl s.v1 13 ^^^ a0
  let b0 := rotl a0 32
  let a2 := s.v2 + s.v3
  let a3 := rotl s.v3 16 ^^^ a2
  let c0 := b0 + a3
  let b3 := rotl a3 21 ^^^ c0
  let b2 := a2 + a1
  let b1 := rotl a1 17 ^^^ b2
  let c2 := rotl b2 32
  ⟨c0, b1, c2, b3⟩
def rnds : Nat → St → St
  | 0, s => s
  | n + 1, s => rnd (rnds n s)
def xor3 (s : St) (m : UInt64) : St := ⟨s.v0, s.v1, s.v2, s.v3 ^^^ m⟩
def xor0 (s : St) (m : UInt64) : St := ⟨s.v0 ^^^ m, s.v1, s.v2, s.v3⟩
def xor2 (s : St) (m : UInt64) : St := ⟨s.v0, s.v1, s.v2 ^^^ m, s.v3⟩
def absorb (s : St) (m : UInt64) : St := xor0 (rnds 2 (xor3 s m)) m
def start (k0 k1 : UInt64) : St := ⟨k0 ^^^ 8317987319222330741, k1 ^^^ 7237128888997146477, k0 ^^^ 7816392313619706465, k1 ^^^ 8387220255154660723⟩
/-- The word of at most eight bytes, the least significant byte first. -/
def le : List UInt8 → UInt64
  | [] => 0
  | b :: bs => le bs <<< 8 ||| b.toUInt64
/-- The state when the first i words of b have been taken in. -/
def absN (k0 k1 : UInt64) (b : List UInt8) : Nat → St
  | 0 => start k0 k1
  | i + 1 => absorb (absN k0 k1 b i) (le ((b.drop (8 * i)).take 8))
def lastWord (b : List UInt8) : UInt64 := le (b.drop (8 * (b.length / 8))) ||| UInt64.ofNat b.length <<< 56
def finD (s : St) : UInt64 := let t := rnds 4 (xor2 s 255); t.v0 ^^^ t.v1 ^^^ t.v2 ^^^ t.v3
def sum (k0 k1 : UInt64) (b : List UInt8) : UInt64 := finD (absorb (absN k0 k1 b (b.length / 8)) (lastWord b))
attribute [irreducible] sum
/-- The bytes of words, the most significant byte first. -/
def be (x : UInt64) : List UInt8 := [(x >>> 56).toUInt8, (x >>> 48).toUInt8, (x >>> 40).toUInt8, (x >>> 32).toUInt8, (x >>> 24).toUInt8, (x >>> 16).toUInt8, (x >>> 8).toUInt8, (x >>> 0).toUInt8]
def words : List UInt64 → List UInt8
  | [] => []
  | x :: l => be x ++ words l
theorem words_app (l m : List UInt64) : words (l ++ m) = words l ++ words m := by
  induction l with
  | nil => rfl
  | cons x l ih => simp [words, ih]
theorem words_len (l : List UInt64) : (words l).length = 8 * l.length := by
  induction l with
  | nil => rfl
  | cons x l ih => simp [words, be, ih]; omega

theorem shl_or (a b c : UInt64) : (a ||| b) <<< c = a <<< c ||| b <<< c := by
  apply UInt64.eq_of_toBitVec_eq; simp [BitVec.shiftLeft_or_distrib]
theorem shl_shl (c : UInt64) (n : Nat) (h : n + 8 < 64) : (c <<< UInt64.ofNat n) <<< 8 = c <<< UInt64.ofNat (n + 8) := by
  rw [show UInt64.ofNat (n + 8) = UInt64.ofNat n + 8 by rw [UInt64.ofNat_add]; rfl]
  rw [UInt64.shiftLeft_add (by rw [UInt64.lt_iff_toNat_lt, UInt64.toNat_ofNat_of_lt' (by show n < 2 ^ 64; omega)]; show n < 64; omega) (by decide) (by
    rw [UInt64.lt_iff_toNat_lt, UInt64.toNat_add, UInt64.toNat_ofNat_of_lt' (by show n < 2 ^ 64; omega)]; show (n + 8) % 2 ^ 64 < 64; omega)]
theorem le_snoc (bs : List UInt8) (c : UInt8) (h : bs.length < 8) : le (bs ++ [c]) = le bs ||| c.toUInt64 <<< UInt64.ofNat (8 * bs.length) := by
  induction bs with
  | nil => simp [le]
  | cons b bs ih =>
    simp only [List.length_cons] at h
    simp only [List.cons_append, le, ih (by omega), List.length_cons]
    rw [shl_or, shl_shl _ _ (by omega), UInt64.or_assoc, UInt64.or_comm (c.toUInt64 <<< _), ← UInt64.or_assoc]
    rfl
theorem le_zero (bs : List UInt8) (k : Nat) (h : bs.length + k ≤ 8) : le (bs ++ List.replicate k 0) = le bs := by
  induction k with
  | zero => simp
  | succ k ih =>
    rw [List.replicate_succ', ← List.append_assoc, le_snoc _ _ (by simp; omega), ih (by omega)]
    simp
end Go.Proofs.Ytbehdllomepkdaa
