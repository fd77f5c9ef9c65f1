/-
  The contract of the reference's SameData, for equal data. No condition.
-/
import Derived.Test.YtmmnkloadooobaaAu6
import Derived.Test.YtmmnkloadooobaaAu3
import Derived.Test.YtmmnkloadooobaaAu4
namespace Go.Proofs.Ytmmnkloadooobaa
open Go.RowKit
set_option maxRecDepth 100000
set_option maxHeartbeats 4000000
set_option linter.unusedVariables false
--@au0

theorem samedata_ret (rp : UInt64) (fl co ra : Int) (mo : UInt64) (id : List UInt8) (kh : Int) (kr : UInt64) : Ret Try.prog 35 [.agg [aw rp, ai fl, ai co, ai ra, aw mo, .sl 1 (bytesA id), ai kh, aw kr], .agg [aw rp, ai fl, ai co, ai ra, aw mo, .sl 1 (bytesA id), ai kh, aw kr]] (ao true) := by
  refine Ret.of_fn Try.func35 (by kernel_rfl) 54 (by kernel_rfl) (by kernel_rfl) ?_
  refine AWP.regsP 2 [{  }, { hs := [(4, { av := some (ao (rp == rp)) }), (31, { av := some (ao (mo == mo)) }), (36, { av := some (AV.val (Value.string (ByteArray.mk id.toArray))) }), (39, { av := some (AV.val (Value.string (ByteArray.mk id.toArray))) }), (40, { av := some (ao (id == id)) })] }] [.keep [4, 3, 2, 0, 1] [3, 2]] (by kernel_rfl) (s' := AS.mk [(4, ao (kh == kh && (wv kr == wv kr && true))), (3, AV.addr 3 0), (2, AV.addr 2 0), (0, AV.agg [aw rp, ai fl, ai co, ai ra, aw mo, AV.sl 1 (bytesA id), ai kh, aw kr]), (1, AV.agg [aw rp, ai fl, ai co, ai ra, aw mo, AV.sl 1 (bytesA id), ai kh, aw kr])] [(3, Row.mk 1 false true [aw rp, ai fl, ai co, ai ra, aw mo, AV.sl 1 (bytesA id), ai kh, aw kr]), (2, Row.mk 1 false true [aw rp, ai fl, ai co, ai ra, aw mo, AV.sl 1 (bytesA id), ai kh, aw kr])]) (C := [ao (wv rp == wv rp) = ao (rp == rp), (rp == rp) = true, (rp == rp) = true, (rp == rp) = true, (rp == rp) = true, (rp == rp) = true, (rp == rp) = true, (fl == fl) = true, (fl == fl) = true, (fl == fl) = true, (fl == fl) = true, (fl == fl) = true, (fl == fl) = true, (co == co) = true, (co == co) = true, (co == co) = true, (co == co) = true, (co == co) = true, (co == co) = true, (ra == ra) = true, (ra == ra) = true, (ra == ra) = true, (ra == ra) = true, (ra == ra) = true, ao (wv mo == wv mo) = ao (mo == mo), (ra == ra) = true, (mo == mo) = true, (mo == mo) = true, (mo == mo) = true, bytesA id = bytesA id.toArray.toList, (mo == mo) = true, (mo == mo) = true, (mo == mo) = true, bytesA id = bytesA id.toArray.toList, (mo == mo) = true, ao ((ByteArray.mk id.toArray).toList == (ByteArray.mk id.toArray).toList) = ao (id == id), (mo == mo) = true, (id == id) = true, (id == id) = true, (id == id) = true, (id == id) = true, (id == id) = true, (id == id) = true]) (by kernel_rfl) ⟨(avw_eq (rp) (rp)), (by simp_all), (by simp_all), (by simp_all), (by simp_all), (by simp_all), (by simp_all), (decide_eq_true (by omega)), (decide_eq_true (by omega)), (decide_eq_true (by omega)), (decide_eq_true (by omega)), (decide_eq_true (by omega)), (decide_eq_true (by omega)), (decide_eq_true (by omega)), (decide_eq_true (by omega)), (decide_eq_true (by omega)), (decide_eq_true (by omega)), (decide_eq_true (by omega)), (decide_eq_true (by omega)), (decide_eq_true (by omega)), (decide_eq_true (by omega)), (decide_eq_true (by omega)), (decide_eq_true (by omega)), (decide_eq_true (by omega)), (avw_eq (mo) (mo)), (decide_eq_true (by omega)), (by simp_all), (by simp_all), (by simp_all), (by simp_all), (by simp_all), (by simp_all), (by simp_all), (by simp_all), (by simp_all), (by simp_all), (by simp_all), (by simp_all), (by simp_all), (by simp_all), (by simp_all), (by simp_all), (by simp_all), trivial⟩ ?_
  refine AWP.ret (by kernel_rfl) ?_
  refine Done.ret_ (C := [Value.bool (kh == kh && (wv kr == wv kr && true)) = Value.bool true]) (by kernel_rfl) ⟨(by simp), trivial⟩
theorem and16 (a : Int) : ∃ j : Nat, IntKind.i64.wrap ((BitVec.ofInt IntKind.i64.bits a &&& BitVec.ofInt IntKind.i64.bits 65535).toNat : Int) = j ∧ j < 65536 := by
  have h : (BitVec.ofInt IntKind.i64.bits a &&& BitVec.ofInt IntKind.i64.bits 65535).toNat ≤ 65535 := by
    rw [BitVec.toNat_and]; exact Nat.and_le_right
  refine ⟨(BitVec.ofInt IntKind.i64.bits a &&& BitVec.ofInt IntKind.i64.bits 65535).toNat, ?_, by omega⟩
  rw [IntKind.wrap_i64]; omega
end Go.Proofs.Ytmmnkloadooobaa
