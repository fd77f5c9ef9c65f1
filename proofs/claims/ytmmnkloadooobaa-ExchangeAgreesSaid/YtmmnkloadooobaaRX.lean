/-
  More plain forms of numbers: quotients and remainders of words and bytes. No condition.
-/
import Derived.Test.YtmmnkloadooobaaRC
namespace Go.Proofs.Ytmmnkloadooobaa
open Go.RowKit

theorem avw_div (x y : UInt64) : AV.val (.int .u64 (IntKind.u64.wrap ((wv x).tdiv (wv y)))) = aw (x / y) := by
  have e : (wv x).tdiv (wv y) = wv (x / y) := by
    unfold wv; rw [UInt64.toNat_div, Int.tdiv_eq_ediv_of_nonneg (by omega)]; rfl
  rw [e]; exact avw_self _
theorem avw_mod (x y : UInt64) : AV.val (.int .u64 ((wv x).tmod (wv y))) = aw (x % y) := by
  have e : (wv x).tmod (wv y) = wv (x % y) := by
    unfold wv; rw [UInt64.toNat_mod, Int.tmod_eq_emod_of_nonneg (by omega)]; rfl
  rw [e]
theorem avb_mod (x y : UInt8) : AV.val (.int .u8 ((bv x).tmod (bv y))) = ab (x % y) := by
  have e : (bv x).tmod (bv y) = bv (x % y) := by
    unfold bv; rw [UInt8.toNat_mod, Int.tmod_eq_emod_of_nonneg (by omega)]; rfl
  rw [e]
end Go.Proofs.Ytmmnkloadooobaa
