/-
  Authenticator data: what is encoded is read back, and what is read is the encoding. In plain words. No condition.
-/
import Derived.Test.YtmmnkloadooobaaAu2
namespace Go.Proofs.Ytmmnkloadooobaa
open Go.RowKit

theorem wstep_nat (x : UInt64) (c : UInt8) (h : x.toNat < 72057594037927936) : (wstep x c).toNat = x.toNat * 256 + c.toNat := by
  have hc := c.toNat_lt
  unfold wstep
  have h1 : (x <<< (8 : UInt64)).toNat = x.toNat * 256 := by
    rw [UInt64.toNat_shiftLeft]
    show x.toNat <<< 8 % 18446744073709551616 = _
    rw [Nat.shiftLeft_eq, show (2 : Nat) ^ 8 = 256 from rfl, Nat.mod_eq_of_lt (by omega)]
  rw [UInt64.toNat_or, h1, UInt8.toNat_toUInt64]
  have := Nat.shiftLeft_add_eq_or_of_lt (b := c.toNat) (i := 8) (by simpa using hc) x.toNat
  rw [Nat.shiftLeft_eq] at this
  exact this.symm
theorem wordOf_nat (a b c d e f g h : UInt8) : (wordOf [a, b, c, d, e, f, g, h]).toNat = ((((((a.toNat * 256 + b.toNat) * 256 + c.toNat) * 256 + d.toNat) * 256 + e.toNat) * 256 + f.toNat) * 256 + g.toNat) * 256 + h.toNat := by
  have ha := a.toNat_lt; have hb := b.toNat_lt; have hc := c.toNat_lt; have hd := d.toNat_lt; have he := e.toNat_lt; have hf := f.toNat_lt; have hg := g.toNat_lt
  have e1 : (wstep 0 a).toNat = a.toNat := by rw [wstep_nat 0 a (by decide)]; simp
  have e2 : (wstep (wstep 0 a) b).toNat = a.toNat * 256 + b.toNat := by rw [wstep_nat _ b (by omega), e1]
  have e3 := wstep_nat (wstep (wstep 0 a) b) c (by omega)
  rw [e2] at e3
  have e4 := wstep_nat (wstep (wstep (wstep 0 a) b) c) d (by omega)
  rw [e3] at e4
  have e5 := wstep_nat (wstep (wstep (wstep (wstep 0 a) b) c) d) e (by omega)
  rw [e4] at e5
  have e6 := wstep_nat (wstep (wstep (wstep (wstep (wstep 0 a) b) c) d) e) f (by omega)
  rw [e5] at e6
  have e7 := wstep_nat (wstep (wstep (wstep (wstep (wstep (wstep 0 a) b) c) d) e) f) g (by omega)
  rw [e6] at e7
  have e8 := wstep_nat (wstep (wstep (wstep (wstep (wstep (wstep (wstep 0 a) b) c) d) e) f) g) h (by omega)
  rw [e7] at e8
  exact e8
theorem shr8_nat (x : UInt64) (k : Nat) (hk : k < 64) : (x >>> UInt64.ofNat k).toUInt8.toNat = x.toNat / 2 ^ k % 256 := by
  rw [UInt64.toNat_toUInt8, UInt64.toNat_shiftRight, UInt64.toNat_ofNat_of_lt' (by show k < 2 ^ 64; omega), Nat.mod_eq_of_lt hk, Nat.shiftRight_eq_div_pow]
theorem wordOf_words (x : UInt64) : wordOf (words [x]) = x := by
  apply UInt64.toNat_inj.1
  have hx := x.toNat_lt
  have e : words [x] = be x := by simp [words]
  rw [e]
  unfold be
  rw [wordOf_nat]
  have k7 := shr8_nat x 56 (by omega); have k6 := shr8_nat x 48 (by omega); have k5 := shr8_nat x 40 (by omega); have k4 := shr8_nat x 32 (by omega)
  have k3 := shr8_nat x 24 (by omega); have k2 := shr8_nat x 16 (by omega); have k1 := shr8_nat x 8 (by omega); have k0 := shr8_nat x 0 (by omega)
  simp only [show UInt64.ofNat 56 = 56 from rfl, show UInt64.ofNat 48 = 48 from rfl, show UInt64.ofNat 40 = 40 from rfl, show UInt64.ofNat 32 = 32 from rfl, show UInt64.ofNat 24 = 24 from rfl, show UInt64.ofNat 16 = 16 from rfl, show UInt64.ofNat 8 = 8 from rfl, show UInt64.ofNat 0 = 0 from rfl] at k7 k6 k5 k4 k3 k2 k1 k0
  rw [k7, k6, k5, k4, k3, k2, k1, k0]
  omega
theorem list8_of {l : List UInt8} (h : l.length = 8) : ∃ a b c d e f g i, l = [a, b, c, d, e, f, g, i] := by
  match l, h with
  | [a, b, c, d, e, f, g, i], _ => exact ⟨a, b, c, d, e, f, g, i, rfl⟩
theorem dv256 (t : Nat) {b : Nat} (h : b < 256) : (t * 256 + b) / 256 = t := by omega
theorem md256 (t : Nat) {b : Nat} (h : b < 256) : (t * 256 + b) % 256 = b := by omega
theorem words_wordOf {l : List UInt8} (h : l.length = 8) : words [wordOf l] = l := by
  obtain ⟨a, b, c, d, e, f, g, i, rfl⟩ := list8_of h
  have hw := wordOf_nat a b c d e f g i
  generalize wordOf [a, b, c, d, e, f, g, i] = x at *
  have ex : words [x] = be x := by simp [words]
  rw [ex]
  unfold be
  have ha := a.toNat_lt; have hb := b.toNat_lt; have hc := c.toNat_lt; have hd := d.toNat_lt; have he := e.toNat_lt; have hf := f.toNat_lt; have hg := g.toNat_lt; have hi := i.toNat_lt
  have ea : a.toNat % 256 = a.toNat := Nat.mod_eq_of_lt ha
  have j0 : (x >>> 0).toUInt8 = i := UInt8.toNat_inj.1 (by
    rw [show (0 : UInt64) = UInt64.ofNat 0 from rfl, shr8_nat x 0 (by decide), hw, show (2 : Nat) ^ 0 = 1 from rfl, Nat.div_one, md256 _ hi])
  have j1 : (x >>> 8).toUInt8 = g := UInt8.toNat_inj.1 (by
    rw [show (8 : UInt64) = UInt64.ofNat 8 from rfl, shr8_nat x 8 (by decide), hw, show (2 : Nat) ^ 8 = 256 from rfl, dv256 _ hi, md256 _ hg])
  have j2 : (x >>> 16).toUInt8 = f := UInt8.toNat_inj.1 (by
    rw [show (16 : UInt64) = UInt64.ofNat 16 from rfl, shr8_nat x 16 (by decide), hw, show (2 : Nat) ^ 16 = 256 * 256 from rfl, ← Nat.div_div_eq_div_mul, dv256 _ hi, dv256 _ hg, md256 _ hf])
  have j3 : (x >>> 24).toUInt8 = e := UInt8.toNat_inj.1 (by
    rw [show (24 : UInt64) = UInt64.ofNat 24 from rfl, shr8_nat x 24 (by decide), hw, show (2 : Nat) ^ 24 = 256 * 256 * 256 from rfl, ← Nat.div_div_eq_div_mul, ← Nat.div_div_eq_div_mul, dv256 _ hi, dv256 _ hg, dv256 _ hf, md256 _ he])
  have j4 : (x >>> 32).toUInt8 = d := UInt8.toNat_inj.1 (by
    rw [show (32 : UInt64) = UInt64.ofNat 32 from rfl, shr8_nat x 32 (by decide), hw, show (2 : Nat) ^ 32 = 256 * 256 * 256 * 256 from rfl, ← Nat.div_div_eq_div_mul, ← Nat.div_div_eq_div_mul, ← Nat.div_div_eq_div_mul, dv256 _ hi, dv256 _ hg, dv256 _ hf, dv256 _ he, md256 _ hd])
  have j5 : (x >>> 40).toUInt8 = c := UInt8.toNat_inj.1 (by
    rw [show (40 : UInt64) = UInt64.ofNat 40 from rfl, shr8_nat x 40 (by decide), hw, show (2 : Nat) ^ 40 = 256 * 256 * 256 * 256 * 256 from rfl, ← Nat.div_div_eq_div_mul, ← Nat.div_div_eq_div_mul, ← Nat.div_div_eq_div_mul, ← Nat.div_div_eq_div_mul, dv256 _ hi, dv256 _ hg, dv256 _ hf, dv256 _ he, dv256 _ hd, md256 _ hc])
  have j6 : (x >>> 48).toUInt8 = b := UInt8.toNat_inj.1 (by
    rw [show (48 : UInt64) = UInt64.ofNat 48 from rfl, shr8_nat x 48 (by decide), hw, show (2 : Nat) ^ 48 = 256 * 256 * 256 * 256 * 256 * 256 from rfl, ← Nat.div_div_eq_div_mul, ← Nat.div_div_eq_div_mul, ← Nat.div_div_eq_div_mul, ← Nat.div_div_eq_div_mul, ← Nat.div_div_eq_div_mul, dv256 _ hi, dv256 _ hg, dv256 _ hf, dv256 _ he, dv256 _ hd, dv256 _ hc, md256 _ hb])
  have j7 : (x >>> 56).toUInt8 = a := UInt8.toNat_inj.1 (by
    rw [show (56 : UInt64) = UInt64.ofNat 56 from rfl, shr8_nat x 56 (by decide), hw, show (2 : Nat) ^ 56 = 256 * 256 * 256 * 256 * 256 * 256 * 256 from rfl, ← Nat.div_div_eq_div_mul, ← Nat.div_div_eq_div_mul, ← Nat.div_div_eq_div_mul, ← Nat.div_div_eq_div_mul, ← Nat.div_div_eq_div_mul, ← Nat.div_div_eq_div_mul, dv256 _ hi, dv256 _ hg, dv256 _ hf, dv256 _ he, dv256 _ hd, dv256 _ hc, dv256 _ hb, ea])
  rw [j7, j6, j5, j4, j3, j2, j1, j0]
end Go.Proofs.Ytmmnkloadooobaa
