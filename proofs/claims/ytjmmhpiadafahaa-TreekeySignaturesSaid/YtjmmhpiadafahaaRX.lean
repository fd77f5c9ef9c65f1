/-
  More plain forms of numbers: quotients and remainders of words and bytes. No condition.
-/
import Derived.Test.YtjmmhpiadafahaaRC
namespace Go.Proofs.Ytjmmhpiadafahaa
open Go.RowKit

theorem avw_div (x y : UInt64) : AV.val (.int .u64 (IntKind.u64.wrap ((wv x).tdiv (wv y)))) = aw (x / y) := by
  have e : (wv x).tdiv (wv y) = wv (x / y) := by
    unfold wv; rw [UInt64.toNat_div, Int.tdiv_eq_ediv_of_nonneg (by omega)]; rfl
  rw [e]; exact avw_self _
theorem avw_mod (x y : UInt64) : AV.val (.int .u64 ((wv x).tmod (wv y))) = aw (x % y) := by
  have e : (wv x).tmod (wv y) = wv (x % y) := by
    unfold wv; rw [UInt64.toNat_mod, Int.tmod_eq_emod_of_nonneg (by omega)]; rfl
  rw [e]
theorem avb_mod (x y : UInt8) : AV.val (.int .u8 ((bv x).tmod (bv y))) = ab (x % y) := by
  have e : (bv x).tmod (bv y) = bv (x % y) := by
    unfold bv; rw [UInt8.toNat_mod, Int.tmod_eq_emod_of_nonneg (by omega)]; rfl
  rw [e]
/-- What is left of a number under a mask. -/
def msk (a : Int) (m : Nat) : Nat := (BitVec.ofInt IntKind.i64.bits a &&& BitVec.ofInt IntKind.i64.bits (m : Int)).toNat
theorem msk_le (a : Int) (m : Nat) (hm : m ≤ 9223372036854775807) : msk a m ≤ m := by
  have e : (BitVec.ofInt IntKind.i64.bits (m : Int)).toNat = m := by
    rw [BitVec.toNat_ofInt]
    show ((m : Int) % (2 ^ 64 : Nat)).toNat = m
    omega
  have h : msk a m ≤ (BitVec.ofInt IntKind.i64.bits (m : Int)).toNat := by unfold msk; rw [BitVec.toNat_and]; exact Nat.and_le_right
  omega
theorem avi_msk (a : Int) (m : Nat) (hm : m ≤ 9223372036854775807) : AV.val (.int .i64 (IntKind.i64.wrap ((BitVec.ofInt IntKind.i64.bits a &&& BitVec.ofInt IntKind.i64.bits (m : Int)).toNat : Nat))) = ai (msk a m) := by
  have h := msk_le a m hm
  exact av_i64 (n := ((msk a m : Nat) : Int)) (by omega) (by omega)
/-- A number shifted to the right. -/
def sar (a : Int) (k : Nat) : Int := a.fdiv (2 ^ k)
theorem avi_sar (a : Int) (k : Nat) (hk : k ≤ 64) : AV.val (.int .i64 (a.fdiv (2 ^ min (k : Int).toNat IntKind.i64.bits))) = ai (sar a k) := by
  have e : min (k : Int).toNat IntKind.i64.bits = k := by show min (k : Int).toNat 64 = k; omega
  rw [e]; rfl
abbrev au0 : AV := .val (.int .u64 0)
/-- Regions, and what is kept of the state behind them. -/
def evRegsP (P : Program) (n : Nat) (l : List Said) (wl : List Wk) (c : Code) (s : AS) : Option (AS × List Prop) :=
  match evRegs P n l c s with
  | some (s1, C) => (match wk wl s1 with | some s2 => some (s2, C) | none => none)
  | none => none
theorem AWP.regsP {P : Program} {n : Nat} {c : Code} {Q : Exit → AS → Prop} {s s' : AS} {C : List Prop} (k : Nat) (l : List Said) (wl : List Wk) (hk : Nat.beq l.length k = true) (he : evRegsP P n l wl c s = some (s', C)) (hC : AllP C) (h : AWP P n (dropC k c) Q s') : AWP P n c Q s := by
  unfold evRegsP at he
  split at he
  · rename_i s1 C1 h1
    split at he
    · rename_i s2 h2
      cases he
      exact AWP.regsK k l hk h1 hC (AWP.wk wl h2 h)
    · cases he
  · cases he
end Go.Proofs.Ytjmmhpiadafahaa
