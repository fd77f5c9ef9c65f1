/-
  The contract of the law AuthdataBack. No condition.
-/
import Derived.Test.YtmmnkloadooobaaAu8a
import Derived.Test.YtmmnkloadooobaaAuQ
namespace Go.Proofs.Ytmmnkloadooobaa
open Go.RowKit
set_option maxRecDepth 100000
set_option maxHeartbeats 4000000
set_option linter.unusedVariables false
--@au0

theorem wrap_ok (n : Int) : i64ok (IntKind.i64.wrap n) := by
  rw [IntKind.wrap_i64]; unfold i64ok; omega
theorem mFl_ok (n : Int) : i64ok (mFl n) := by
  have h0 : i64ok (mF0 n) := by unfold mF0 ior; exact wrap_ok _
  have h1 : i64ok (mF1 n) := by
    unfold mF1 ior
    split
    · exact wrap_ok _
    · exact h0
  have h2 : i64ok (mF2 n) := by
    unfold mF2 ior
    split
    · exact wrap_ok _
    · exact h1
  unfold mFl ixor
  split
  · exact wrap_ok _
  · exact h2
theorem authdataBack_law (n : Int) (rp : UInt64) (_ : i64ok n) : Ret Try.prog 12 [ai n, aw rp] (ao true) := by
  have hm := made_ret n rp
  have hf := mFl_ok n
  generalize mFl n = zfl at *
  generalize mCo n = zco at *
  generalize mRa n = zra at *
  generalize mMo n = zmo at *
  generalize mId n = zid at *
  generalize mKh n = zkh at *
  generalize mKr n rp = zkr at *
  by_cases hE : adE zfl zco zra zmo zid zkh zkr = 0
  case neg =>
    have ed : adD rp zfl zco zra zmo zid zkh zkr = [] := by rw [adD, if_pos hE]
    have he := encode14_ret rp zfl zco zra zmo zid zkh zkr
    rw [ed] at he
    refine Ret.of_fn Try.func12 (by kernel_rfl) 58 (by kernel_rfl) (by kernel_rfl) ?_
    refine AWP.regsP 3 [{  }, { hs := [(2, { av := some (AV.agg [aw rp, ai zfl, ai zco, ai zra, aw zmo, AV.own 1 (bytesA zid), ai zkh, aw zkr]) })] }, { hs := [(1, { av := some (AV.tup [AV.own 1 (bytesA []), ai (adE zfl zco zra zmo zid zkh zkr)]) })] }] [.keep [7, 6, 5, 4, 0, 1] [1016, 5, 600013]] (by kernel_rfl) (s' := AS.mk [(7, ai (adE zfl zco zra zmo zid zkh zkr)), (6, AV.ref 1016), (5, AV.addr 5 0), (4, ao false), (0, ai n), (1, aw rp)] [(1016, Row.mk 1 true false (bytesA [])), (5, Row.mk 1 false true [aw rp, ai zfl, ai zco, ai zra, aw zmo, AV.ref 600013, ai zkh, aw zkr]), (600013, Row.mk 1 true false (bytesA zid))]) (C := [Ret Try.prog (15 : Nat) [ai n, aw rp] (AV.agg [aw rp, ai zfl, ai zco, ai zra, aw zmo, AV.own 1 (bytesA zid), ai zkh, aw zkr]), valR (bytesA zid), (8 : Nat) ≤ (8 : Nat), Ret Try.prog (16 : Nat) [AV.agg [aw rp, ai zfl, ai zco, ai zra, aw zmo, AV.sl 1 (bytesA zid), ai zkh, aw zkr]] (AV.tup [AV.own 1 (bytesA []), ai (adE zfl zco zra zmo zid zkh zkr)]), valR (bytesA [])]) (by kernel_rfl) ⟨(hm), (valR_bytes _), (by omega), (he), (valR_bytes _), trivial⟩ ?_
    refine AWP.seq (by kernel_rfl) ?_
    refine AWP.regsP 1 [{  }] [.keep [20, 7, 6, 5, 4, 0, 1] [1016, 5, 600013]] (by kernel_rfl) (s' := AS.mk [(20, ao (adE zfl zco zra zmo zid zkh zkr != (0 : Int))), (7, ai (adE zfl zco zra zmo zid zkh zkr)), (6, AV.ref 1016), (5, AV.addr 5 0), (4, ao false), (0, ai n), (1, aw rp)] [(1016, Row.mk 1 true false (bytesA [])), (5, Row.mk 1 false true [aw rp, ai zfl, ai zco, ai zra, aw zmo, AV.ref 600013, ai zkh, aw zkr]), (600013, Row.mk 1 true false (bytesA zid))]) (C := []) (by kernel_rfl) trivial ?_
    refine AWP.condT (x := .tmp 20) (b := adE zfl zco zra zmo zid zkh zkr != (0 : Int)) (by kernel_rfl) (by kernel_rfl) (by simp_all) ?_
    refine AWP.regsP 1 [{ hs := [(2, { av := some (ai (adE zfl zco zra zmo zid zkh zkr)) }), (6, { k := 0 }), (10, { av := some (ao true) })] }] [.keep [4, 20, 7, 6, 5, 0, 1] [1016, 5, 600013]] (by kernel_rfl) (s' := AS.mk [(4, ao true), (20, ao (adE zfl zco zra zmo zid zkh zkr != (0 : Int))), (7, ai (adE zfl zco zra zmo zid zkh zkr)), (6, AV.ref 1016), (5, AV.addr 5 0), (0, ai n), (1, aw rp)] [(1016, Row.mk 1 true false (bytesA [])), (5, Row.mk 1 false true [aw rp, ai zfl, ai zco, ai zra, aw zmo, AV.ref 600013, ai zkh, aw zkr]), (600013, Row.mk 1 true false (bytesA zid))]) (C := [Ret Try.prog (19 : Nat) [AV.agg [aw rp, ai zfl, ai zco, ai zra, aw zmo, AV.sl 1 (bytesA zid), ai zkh, aw zkr]] (ai (adE zfl zco zra zmo zid zkh zkr)), (adE zfl zco zra zmo zid zkh zkr == adE zfl zco zra zmo zid zkh zkr) = true, (adE zfl zco zra zmo zid zkh zkr == adE zfl zco zra zmo zid zkh zkr) = true, (bytesA []).length = (0 : Nat), (adE zfl zco zra zmo zid zkh zkr == adE zfl zco zra zmo zid zkh zkr) = true, (adE zfl zco zra zmo zid zkh zkr == adE zfl zco zra zmo zid zkh zkr) = true, ((↑(0 : Nat) : Int) == (0 : Int)) = true, Ret Try.prog (14 : Nat) [] (ao true), ((↑(0 : Nat) : Int) == (0 : Int)) = true]) (by kernel_rfl) ⟨(refvalidate_ret (rp) (zfl) (zco) (zra) (zmo) (zid) (zkh) (zkr)), (decide_eq_true (by omega)), (decide_eq_true (by omega)), rfl, (decide_eq_true (by omega)), (decide_eq_true (by omega)), (decide_eq_true (by omega)), (awake14_ret), (decide_eq_true (by omega)), trivial⟩ ?_
    refine AWP.ret (by kernel_rfl) ?_
    refine then_r ?_
    refine Done.ret_ (C := [Value.bool true = Value.bool true]) (by kernel_rfl) ⟨rfl, trivial⟩
  obtain ⟨e1, e2, e3, e4, e5, e6, e7, e8, e9, e10⟩ := ad_back (rp := rp) hf hE rfl
  have he := encode14_ret rp zfl zco zra zmo zid zkh zkr
  rw [hE] at he
  have hd := decode14_ret (adD rp zfl zco zra zmo zid zkh zkr)
  rw [e1, e2, e3, e4, e5, e6, e7, e8, e9] at hd
  generalize adD rp zfl zco zra zmo zid zkh zkr = c at *
  clear e1 e2 e3 e4 e5 e6 e7 e8 e9
  by_cases hs : msk zfl 64 = 0
  · rw [if_pos hs] at e10
    refine Ret.of_fn Try.func12 (by kernel_rfl) 58 (by kernel_rfl) (by kernel_rfl) ?_
    refine AWP.regsP 3 [{  }, { hs := [(2, { av := some (AV.agg [aw rp, ai zfl, ai zco, ai zra, aw zmo, AV.own 1 (bytesA zid), ai zkh, aw zkr]) })] }, { hs := [(1, { av := some (AV.tup [AV.own 1 (bytesA c), ai 0]) })] }] [.keep [7, 6, 5, 4, 0, 1] [1016, 5, 600013]] (by kernel_rfl) (s' := AS.mk [(7, ai 0), (6, AV.ref 1016), (5, AV.addr 5 0), (4, ao false), (0, ai n), (1, aw rp)] [(1016, Row.mk 1 true false (bytesA c)), (5, Row.mk 1 false true [aw rp, ai zfl, ai zco, ai zra, aw zmo, AV.ref 600013, ai zkh, aw zkr]), (600013, Row.mk 1 true false (bytesA zid))]) (C := [Ret Try.prog (15 : Nat) [ai n, aw rp] (AV.agg [aw rp, ai zfl, ai zco, ai zra, aw zmo, AV.own 1 (bytesA zid), ai zkh, aw zkr]), valR (bytesA zid), (8 : Nat) ≤ (8 : Nat), Ret Try.prog (16 : Nat) [AV.agg [aw rp, ai zfl, ai zco, ai zra, aw zmo, AV.sl 1 (bytesA zid), ai zkh, aw zkr]] (AV.tup [AV.own 1 (bytesA c), ai 0]), valR (bytesA c)]) (by kernel_rfl) ⟨(hm), (valR_bytes _), (by omega), (he), (valR_bytes _), trivial⟩ ?_
    refine AWP.seq (by kernel_rfl) ?_
    refine AWP.regsK 1 [{  }] (by kernel_rfl) (s' := AS.mk [(20, ao ((0 : Int) != (0 : Int))), (19, ai 0), (7, ai 0), (6, AV.ref 1016), (5, AV.addr 5 0), (4, ao false), (0, ai n), (1, aw rp)] [(1016, Row.mk 1 true false (bytesA c)), (5, Row.mk 1 false true [aw rp, ai zfl, ai zco, ai zra, aw zmo, AV.ref 600013, ai zkh, aw zkr]), (600013, Row.mk 1 true false (bytesA zid))]) (C := []) (by kernel_rfl) trivial ?_
    refine AWP.condF (x := .tmp 20) (b := (0 : Int) != (0 : Int)) (by kernel_rfl) (by kernel_rfl) rfl ?_
    refine AWP.skip (by kernel_rfl) ?_
    refine then_n ?_
    refine AWP.regsK 1 [{  }] (by kernel_rfl) (s' := AS.mk [(8, ai 11), (20, ao ((0 : Int) != (0 : Int))), (19, ai 0), (7, ai 0), (6, AV.ref 1016), (5, AV.addr 5 0), (4, ao false), (0, ai n), (1, aw rp)] [(1016, Row.mk 1 true false (bytesA c)), (5, Row.mk 1 false true [aw rp, ai zfl, ai zco, ai zra, aw zmo, AV.ref 600013, ai zkh, aw zkr]), (600013, Row.mk 1 true false (bytesA zid))]) (C := []) (by kernel_rfl) trivial ?_
    refine AWP.seq (by kernel_rfl) ?_
    refine AWP.regsP 1 [{ hs := [(2, { av := some (ai (↑(msk zfl (64 : Nat)) : Int)) })] }] [.keep [36, 8, 20, 7, 6, 5, 4, 0, 1] [1016, 5, 600013]] (by kernel_rfl) (s' := AS.mk [(36, ao ((↑(msk zfl (64 : Nat)) : Int) != (0 : Int))), (8, ai 11), (20, ao ((0 : Int) != (0 : Int))), (7, ai 0), (6, AV.ref 1016), (5, AV.addr 5 0), (4, ao false), (0, ai n), (1, aw rp)] [(1016, Row.mk 1 true false (bytesA c)), (5, Row.mk 1 false true [aw rp, ai zfl, ai zco, ai zra, aw zmo, AV.ref 600013, ai zkh, aw zkr]), (600013, Row.mk 1 true false (bytesA zid))]) (C := [ai (IntKind.i64.wrap (↑(BitVec.ofInt IntKind.i64.bits zfl &&& BitVec.ofInt IntKind.i64.bits (64 : Int)).toNat : Int)) = ai (↑(msk zfl (64 : Nat)) : Int)]) (by kernel_rfl) ⟨(avi_msk (zfl) 64 (by omega)), trivial⟩ ?_
    refine AWP.condF (x := .tmp 36) (b := (↑(msk zfl (64 : Nat)) : Int) != (0 : Int)) (by kernel_rfl) (by kernel_rfl) (by simp_all) ?_
    refine AWP.skip (by kernel_rfl) ?_
    refine then_n ?_
    refine AWP.regsP 2 [{ hs := [(1, { av := some (AV.tup [AV.agg [aw rp, ai zfl, ai zco, ai zra, aw zmo, AV.own 1 (bytesA zid), ai zkh, aw zkr], ai 0]) })] }, { hs := [(4, { k := c.length }), (11, { av := some (ao true) }), (14, { av := some (ao true) })] }] [.keep [4, 10, 9, 36, 8, 20, 7, 6, 5, 0, 1] [9, 601039, 1016, 5, 600013]] (by kernel_rfl) (s' := AS.mk [(4, ao true), (10, ai 0), (9, AV.addr 9 0), (36, ao ((↑(msk zfl (64 : Nat)) : Int) != (0 : Int))), (8, ai 11), (20, ao ((0 : Int) != (0 : Int))), (7, ai 0), (6, AV.ref 1016), (5, AV.addr 5 0), (0, ai n), (1, aw rp)] [(9, Row.mk 1 false true [aw rp, ai zfl, ai zco, ai zra, aw zmo, AV.ref 601039, ai zkh, aw zkr]), (601039, Row.mk 1 true false (bytesA zid)), (1016, Row.mk 1 true false (bytesA c)), (5, Row.mk 1 false true [aw rp, ai zfl, ai zco, ai zra, aw zmo, AV.ref 600013, ai zkh, aw zkr]), (600013, Row.mk 1 true false (bytesA zid))]) (C := [Ret Try.prog (34 : Nat) [AV.sl 1 (bytesA c)] (AV.tup [AV.agg [aw rp, ai zfl, ai zco, ai zra, aw zmo, AV.own 1 (bytesA zid), ai zkh, aw zkr], ai 0]), valR (bytesA zid), (8 : Nat) ≤ (8 : Nat), ((0 : Int) == (0 : Int)) = true, ((0 : Int) == (0 : Int)) = true, (bytesA c).length = c.length, ((0 : Int) == (0 : Int)) = true, ((0 : Int) == (0 : Int)) = true, ((0 : Int) == (0 : Int)) = true, ((↑c.length : Int) == (11 : Int)) = true, ((↑c.length : Int) == (11 : Int)) = true, ((↑c.length : Int) == (11 : Int)) = true, Ret Try.prog (35 : Nat) [AV.agg [aw rp, ai zfl, ai zco, ai zra, aw zmo, AV.sl 1 (bytesA zid), ai zkh, aw zkr], AV.agg [aw rp, ai zfl, ai zco, ai zra, aw zmo, AV.sl 1 (bytesA zid), ai zkh, aw zkr]] (ao true), ((↑c.length : Int) == (11 : Int)) = true, true = true, Ret Try.prog (14 : Nat) [] (ao true), true = true]) (by kernel_rfl) ⟨(hd), (valR_bytes _), (by omega), (decide_eq_true (by omega)), (decide_eq_true (by omega)), (bytesA_len _), (decide_eq_true (by omega)), (decide_eq_true (by omega)), (decide_eq_true (by omega)), (decide_eq_true (by omega)), (decide_eq_true (by omega)), (decide_eq_true (by omega)), (samedata_ret (rp) (zfl) (zco) (zra) (zmo) (zid) (zkh) (zkr)), (decide_eq_true (by omega)), rfl, (awake14_ret), rfl, trivial⟩ ?_
    refine AWP.ret (by kernel_rfl) ?_
    refine Done.ret_ (C := [Value.bool true = Value.bool true]) (by kernel_rfl) ⟨rfl, trivial⟩
  · rw [if_neg hs] at e10
    refine Ret.of_fn Try.func12 (by kernel_rfl) 58 (by kernel_rfl) (by kernel_rfl) ?_
    refine AWP.regsP 3 [{  }, { hs := [(2, { av := some (AV.agg [aw rp, ai zfl, ai zco, ai zra, aw zmo, AV.own 1 (bytesA zid), ai zkh, aw zkr]) })] }, { hs := [(1, { av := some (AV.tup [AV.own 1 (bytesA c), ai 0]) })] }] [.keep [7, 6, 5, 4, 0, 1] [1016, 5, 600013]] (by kernel_rfl) (s' := AS.mk [(7, ai 0), (6, AV.ref 1016), (5, AV.addr 5 0), (4, ao false), (0, ai n), (1, aw rp)] [(1016, Row.mk 1 true false (bytesA c)), (5, Row.mk 1 false true [aw rp, ai zfl, ai zco, ai zra, aw zmo, AV.ref 600013, ai zkh, aw zkr]), (600013, Row.mk 1 true false (bytesA zid))]) (C := [Ret Try.prog (15 : Nat) [ai n, aw rp] (AV.agg [aw rp, ai zfl, ai zco, ai zra, aw zmo, AV.own 1 (bytesA zid), ai zkh, aw zkr]), valR (bytesA zid), (8 : Nat) ≤ (8 : Nat), Ret Try.prog (16 : Nat) [AV.agg [aw rp, ai zfl, ai zco, ai zra, aw zmo, AV.sl 1 (bytesA zid), ai zkh, aw zkr]] (AV.tup [AV.own 1 (bytesA c), ai 0]), valR (bytesA c)]) (by kernel_rfl) ⟨(hm), (valR_bytes _), (by omega), (he), (valR_bytes _), trivial⟩ ?_
    refine AWP.seq (by kernel_rfl) ?_
    refine AWP.regsK 1 [{  }] (by kernel_rfl) (s' := AS.mk [(20, ao ((0 : Int) != (0 : Int))), (19, ai 0), (7, ai 0), (6, AV.ref 1016), (5, AV.addr 5 0), (4, ao false), (0, ai n), (1, aw rp)] [(1016, Row.mk 1 true false (bytesA c)), (5, Row.mk 1 false true [aw rp, ai zfl, ai zco, ai zra, aw zmo, AV.ref 600013, ai zkh, aw zkr]), (600013, Row.mk 1 true false (bytesA zid))]) (C := []) (by kernel_rfl) trivial ?_
    refine AWP.condF (x := .tmp 20) (b := (0 : Int) != (0 : Int)) (by kernel_rfl) (by kernel_rfl) rfl ?_
    refine AWP.skip (by kernel_rfl) ?_
    refine then_n ?_
    refine AWP.regsK 1 [{  }] (by kernel_rfl) (s' := AS.mk [(8, ai 11), (20, ao ((0 : Int) != (0 : Int))), (19, ai 0), (7, ai 0), (6, AV.ref 1016), (5, AV.addr 5 0), (4, ao false), (0, ai n), (1, aw rp)] [(1016, Row.mk 1 true false (bytesA c)), (5, Row.mk 1 false true [aw rp, ai zfl, ai zco, ai zra, aw zmo, AV.ref 600013, ai zkh, aw zkr]), (600013, Row.mk 1 true false (bytesA zid))]) (C := []) (by kernel_rfl) trivial ?_
    refine AWP.seq (by kernel_rfl) ?_
    refine AWP.regsP 1 [{ hs := [(2, { av := some (ai (↑(msk zfl (64 : Nat)) : Int)) })] }] [.keep [36, 8, 20, 7, 6, 5, 4, 0, 1] [1016, 5, 600013]] (by kernel_rfl) (s' := AS.mk [(36, ao ((↑(msk zfl (64 : Nat)) : Int) != (0 : Int))), (8, ai 11), (20, ao ((0 : Int) != (0 : Int))), (7, ai 0), (6, AV.ref 1016), (5, AV.addr 5 0), (4, ao false), (0, ai n), (1, aw rp)] [(1016, Row.mk 1 true false (bytesA c)), (5, Row.mk 1 false true [aw rp, ai zfl, ai zco, ai zra, aw zmo, AV.ref 600013, ai zkh, aw zkr]), (600013, Row.mk 1 true false (bytesA zid))]) (C := [ai (IntKind.i64.wrap (↑(BitVec.ofInt IntKind.i64.bits zfl &&& BitVec.ofInt IntKind.i64.bits (64 : Int)).toNat : Int)) = ai (↑(msk zfl (64 : Nat)) : Int)]) (by kernel_rfl) ⟨(avi_msk (zfl) 64 (by omega)), trivial⟩ ?_
    refine AWP.condT (x := .tmp 36) (b := (↑(msk zfl (64 : Nat)) : Int) != (0 : Int)) (by kernel_rfl) (by kernel_rfl) (by simp_all) ?_
    refine AWP.reg {  } (s' := AS.mk [(8, ai 204), (36, ao ((↑(msk zfl (64 : Nat)) : Int) != (0 : Int))), (20, ao ((0 : Int) != (0 : Int))), (7, ai 0), (6, AV.ref 1016), (5, AV.addr 5 0), (4, ao false), (0, ai n), (1, aw rp)] [(1016, Row.mk 1 true false (bytesA c)), (5, Row.mk 1 false true [aw rp, ai zfl, ai zco, ai zra, aw zmo, AV.ref 600013, ai zkh, aw zkr]), (600013, Row.mk 1 true false (bytesA zid))]) (C := []) (by kernel_rfl) trivial ?_
    refine then_n ?_
    refine AWP.regsP 2 [{ hs := [(1, { av := some (AV.tup [AV.agg [aw rp, ai zfl, ai zco, ai zra, aw zmo, AV.own 1 (bytesA zid), ai zkh, aw zkr], ai 0]) })] }, { hs := [(4, { k := c.length }), (11, { av := some (ao true) }), (14, { av := some (ao true) })] }] [.keep [4, 10, 9, 8, 36, 20, 7, 6, 5, 0, 1] [9, 601039, 1016, 5, 600013]] (by kernel_rfl) (s' := AS.mk [(4, ao true), (10, ai 0), (9, AV.addr 9 0), (8, ai 204), (36, ao ((↑(msk zfl (64 : Nat)) : Int) != (0 : Int))), (20, ao ((0 : Int) != (0 : Int))), (7, ai 0), (6, AV.ref 1016), (5, AV.addr 5 0), (0, ai n), (1, aw rp)] [(9, Row.mk 1 false true [aw rp, ai zfl, ai zco, ai zra, aw zmo, AV.ref 601039, ai zkh, aw zkr]), (601039, Row.mk 1 true false (bytesA zid)), (1016, Row.mk 1 true false (bytesA c)), (5, Row.mk 1 false true [aw rp, ai zfl, ai zco, ai zra, aw zmo, AV.ref 600013, ai zkh, aw zkr]), (600013, Row.mk 1 true false (bytesA zid))]) (C := [Ret Try.prog (34 : Nat) [AV.sl 1 (bytesA c)] (AV.tup [AV.agg [aw rp, ai zfl, ai zco, ai zra, aw zmo, AV.own 1 (bytesA zid), ai zkh, aw zkr], ai 0]), valR (bytesA zid), (8 : Nat) ≤ (8 : Nat), ((0 : Int) == (0 : Int)) = true, ((0 : Int) == (0 : Int)) = true, (bytesA c).length = c.length, ((0 : Int) == (0 : Int)) = true, ((0 : Int) == (0 : Int)) = true, ((0 : Int) == (0 : Int)) = true, ((↑c.length : Int) == (204 : Int)) = true, ((↑c.length : Int) == (204 : Int)) = true, ((↑c.length : Int) == (204 : Int)) = true, Ret Try.prog (35 : Nat) [AV.agg [aw rp, ai zfl, ai zco, ai zra, aw zmo, AV.sl 1 (bytesA zid), ai zkh, aw zkr], AV.agg [aw rp, ai zfl, ai zco, ai zra, aw zmo, AV.sl 1 (bytesA zid), ai zkh, aw zkr]] (ao true), ((↑c.length : Int) == (204 : Int)) = true, true = true, Ret Try.prog (14 : Nat) [] (ao true), true = true]) (by kernel_rfl) ⟨(hd), (valR_bytes _), (by omega), (decide_eq_true (by omega)), (decide_eq_true (by omega)), (bytesA_len _), (decide_eq_true (by omega)), (decide_eq_true (by omega)), (decide_eq_true (by omega)), (decide_eq_true (by omega)), (decide_eq_true (by omega)), (decide_eq_true (by omega)), (samedata_ret (rp) (zfl) (zco) (zra) (zmo) (zid) (zkh) (zkr)), (decide_eq_true (by omega)), rfl, (awake14_ret), rfl, trivial⟩ ?_
    refine AWP.ret (by kernel_rfl) ?_
    refine Done.ret_ (C := [Value.bool true = Value.bool true]) (by kernel_rfl) ⟨rfl, trivial⟩
end Go.Proofs.Ytmmnkloadooobaa
