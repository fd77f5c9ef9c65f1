/-
  The contracts of authdata.Encode, RPHash, Message and of the reference's. No condition.
-/
import Derived.Test.YtmmnkloadooobaaAu1
import Derived.Test.YtmmnkloadooobaaCc
namespace Go.Proofs.Ytmmnkloadooobaa
open Go.RowKit
set_option maxRecDepth 100000
set_option maxHeartbeats 4000000
set_option linter.unusedVariables false

/-- The bytes of authenticator data. -/
def adD (rp : UInt64) (fl co ra : Int) (mo : UInt64) (id : List UInt8) (kh : Int) (kr : UInt64) : List UInt8 := if adE fl co ra mo id kh kr ≠ 0 then [] else words [rp] ++ [u8 fl, u8 co, u8 ra] ++ (if msk fl 64 = 0 then [] else words [mo] ++ id ++ keyD kh kr)
theorem concat4_ret (a b c d : List UInt8) (h : a.length + b.length + c.length + d.length ≤ 1000000) : Ret Try.prog 40 [.sl 1 [.sl 1 (bytesA a), .sl 1 (bytesA b), .sl 1 (bytesA c), .sl 1 (bytesA d)]] (.own 1 (bytesA (a ++ (b ++ (c ++ d))))) := by
  have := concat_ret [a, b, c, d] (by simp [lensum]; omega) (by simp)
  simpa [encA, bytesC] using this
theorem concat2_ret (a b : List UInt8) (h : a.length + b.length ≤ 1000000) : Ret Try.prog 40 [.sl 1 [.sl 1 (bytesA a), .sl 1 (bytesA b)]] (.own 1 (bytesA (a ++ b))) := by
  have := concat_ret [a, b] (by simp [lensum]; omega) (by simp)
  simpa [encA, bytesC] using this
theorem encode14_ret (rp : UInt64) (fl co ra : Int) (mo : UInt64) (id : List UInt8) (kh : Int) (kr : UInt64) : Ret Try.prog 16 [.agg [aw rp, ai fl, ai co, ai ra, aw mo, .sl 1 (bytesA id), ai kh, aw kr]] (.tup [.own 1 (bytesA (adD rp fl co ra mo id kh kr)), ai (adE fl co ra mo id kh kr)]) := by
  have hw : (words [rp]).length = 8 := by rw [words_len]; rfl
  have hm : (words [mo]).length = 8 := by rw [words_len]; rfl
  by_cases h1 : adE fl co ra mo id kh kr = 0
  case neg =>
    have ed : adD rp fl co ra mo id kh kr = [] := by rw [adD, if_pos h1]
    refine Ret.of_fn Try.func16 (by kernel_rfl) 51 (by kernel_rfl) (by kernel_rfl) ?_
    skip
    refine AWP.regsK 1 [{  }] (by kernel_rfl) (s' := AS.mk [(3, ai 0), (2, AV.nil), (1, AV.addr 1 0), (0, AV.agg [aw rp, ai fl, ai co, ai ra, aw mo, AV.sl 1 (bytesA id), ai kh, aw kr])] [(1, Row.mk 1 false true [aw rp, ai fl, ai co, ai ra, aw mo, AV.sl 1 (bytesA id), ai kh, aw kr])]) (C := []) (by kernel_rfl) trivial ?_
    refine AWP.seq (by kernel_rfl) ?_
    refine AWP.regsP 2 [{ hs := [(1, { av := some (ai (adE fl co ra mo id kh kr)) })] }, {  }] [.keep [11, 4, 3, 2, 1, 0] [1]] (by kernel_rfl) (s' := AS.mk [(11, ao (adE fl co ra mo id kh kr != (0 : Int))), (4, ai (adE fl co ra mo id kh kr)), (3, ai 0), (2, AV.nil), (1, AV.addr 1 0), (0, AV.agg [aw rp, ai fl, ai co, ai ra, aw mo, AV.sl 1 (bytesA id), ai kh, aw kr])] [(1, Row.mk 1 false true [aw rp, ai fl, ai co, ai ra, aw mo, AV.sl 1 (bytesA id), ai kh, aw kr])]) (C := [Ret Try.prog (18 : Nat) [AV.agg [aw rp, ai fl, ai co, ai ra, aw mo, AV.sl 1 (bytesA id), ai kh, aw kr]] (ai (adE fl co ra mo id kh kr))]) (by kernel_rfl) ⟨(validate_ret (rp) (fl) (co) (ra) (mo) (id) (kh) (kr)), trivial⟩ ?_
    refine AWP.condT (x := Operand.tmp (11 : Nat)) (b := adE fl co ra mo id kh kr != (0 : Int)) (by kernel_rfl) (by kernel_rfl) (by simp_all; done) ?_
    refine AWP.regsK 1 [{  }] (by kernel_rfl) (s' := AS.mk [(3, ai (adE fl co ra mo id kh kr)), (2, AV.nil), (12, ai (adE fl co ra mo id kh kr)), (11, ao (adE fl co ra mo id kh kr != (0 : Int))), (4, ai (adE fl co ra mo id kh kr)), (1, AV.addr 1 0), (0, AV.agg [aw rp, ai fl, ai co, ai ra, aw mo, AV.sl 1 (bytesA id), ai kh, aw kr])] [(1, Row.mk 1 false true [aw rp, ai fl, ai co, ai ra, aw mo, AV.sl 1 (bytesA id), ai kh, aw kr])]) (C := []) (by kernel_rfl) trivial ?_
    refine AWP.ret (by kernel_rfl) ?_
    skip
    refine then_r ?_
    refine Done.ret_ (C := [bytesA (adD rp fl co ra mo id kh kr) = [], Value.int IntKind.i64 (adE fl co ra mo id kh kr) = Value.int IntKind.i64 (adE fl co ra mo id kh kr)]) (by kernel_rfl) ⟨(by rw [ed]; rfl), rfl, trivial⟩
  by_cases h2 : msk fl 64 = 0
  · have ed : adD rp fl co ra mo id kh kr = words [rp] ++ [u8 fl, u8 co, u8 ra] := by rw [adD, if_neg (fun h => h h1), if_pos h2, List.append_nil]
    refine Ret.of_fn Try.func16 (by kernel_rfl) 51 (by kernel_rfl) (by kernel_rfl) ?_
    skip
    refine AWP.regsK 1 [{  }] (by kernel_rfl) (s' := AS.mk [(3, ai 0), (2, AV.nil), (1, AV.addr 1 0), (0, AV.agg [aw rp, ai fl, ai co, ai ra, aw mo, AV.sl 1 (bytesA id), ai kh, aw kr])] [(1, Row.mk 1 false true [aw rp, ai fl, ai co, ai ra, aw mo, AV.sl 1 (bytesA id), ai kh, aw kr])]) (C := []) (by kernel_rfl) trivial ?_
    refine AWP.seq (by kernel_rfl) ?_
    refine AWP.regsP 2 [{ hs := [(1, { av := some (ai (adE fl co ra mo id kh kr)) })] }, {  }] [.keep [11, 4, 3, 2, 1, 0] [1]] (by kernel_rfl) (s' := AS.mk [(11, ao (adE fl co ra mo id kh kr != (0 : Int))), (4, ai (adE fl co ra mo id kh kr)), (3, ai 0), (2, AV.nil), (1, AV.addr 1 0), (0, AV.agg [aw rp, ai fl, ai co, ai ra, aw mo, AV.sl 1 (bytesA id), ai kh, aw kr])] [(1, Row.mk 1 false true [aw rp, ai fl, ai co, ai ra, aw mo, AV.sl 1 (bytesA id), ai kh, aw kr])]) (C := [Ret Try.prog (18 : Nat) [AV.agg [aw rp, ai fl, ai co, ai ra, aw mo, AV.sl 1 (bytesA id), ai kh, aw kr]] (ai (adE fl co ra mo id kh kr))]) (by kernel_rfl) ⟨(validate_ret (rp) (fl) (co) (ra) (mo) (id) (kh) (kr)), trivial⟩ ?_
    refine AWP.condF (x := Operand.tmp (11 : Nat)) (b := adE fl co ra mo id kh kr != (0 : Int)) (by kernel_rfl) (by kernel_rfl) (by simp_all; done) ?_
    refine AWP.skip (by kernel_rfl) ?_
    skip
    refine then_n ?_
    refine AWP.seq (by kernel_rfl) ?_
    refine AWP.regO 14 [3] [(2, { av := some (AV.arr (wordsA [rp])) }), (3, { av := some (AV.own 1 (bytesA (words [rp]))) }), (6, { av := some (ab (u8 fl)) }), (9, { av := some (ab (u8 co)) }), (12, { av := some (ab (u8 ra)) }), (13, { av := some (AV.arr (bytesA [u8 fl, u8 co, u8 ra])) }), (14, { av := some (AV.arr (bytesA (words [rp] ++ [u8 fl, u8 co, u8 ra]))) })] (s' := AS.mk [(5, AV.ref 27), (27, AV.ref 27), (16, AV.dead), (13, AV.addr 1 0), (14, aw rp), (15, AV.sl 1 (wordsA [rp])), (16, AV.dead), (17, AV.addr 1 1), (18, ai fl), (19, ab (u8 fl)), (20, AV.addr 1 2), (21, ai co), (22, ab (u8 co)), (23, AV.addr 1 3), (24, ai ra), (25, ab (u8 ra)), (26, AV.sl 1 (bytesA [u8 fl, u8 co, u8 ra])), (11, ao (adE fl co ra mo id kh kr != (0 : Int))), (4, ai (adE fl co ra mo id kh kr)), (3, ai 0), (2, AV.nil), (1, AV.addr 1 0), (0, AV.agg [aw rp, ai fl, ai co, ai ra, aw mo, AV.sl 1 (bytesA id), ai kh, aw kr])] [(27, Row.mk 1 true false (bytesA (words [rp] ++ [u8 fl, u8 co, u8 ra]))), (1, Row.mk 1 false true [aw rp, ai fl, ai co, ai ra, aw mo, AV.sl 1 (bytesA id), ai kh, aw kr])]) (C := [[aw rp] = wordsA [rp], Ret Try.prog (37 : Nat) [AV.sl 1 (wordsA [rp])] (AV.own 1 (bytesA (words [rp]))), valR (bytesA (words [rp])), valR (bytesA (words [rp])), AV.val (Value.int IntKind.u8 (IntKind.u8.wrap fl)) = ab (u8 fl), AV.val (Value.int IntKind.u8 (IntKind.u8.wrap co)) = ab (u8 co), AV.val (Value.int IntKind.u8 (IntKind.u8.wrap ra)) = ab (u8 ra), [ab (u8 fl), ab (u8 co), ab (u8 ra)] = bytesA [u8 fl, u8 co, u8 ra], bytesA (words [rp]) ++ bytesA [u8 fl, u8 co, u8 ra] = bytesA (words [rp] ++ [u8 fl, u8 co, u8 ra]), ((bytesA (words [rp])).length + (bytesA [u8 fl, u8 co, u8 ra]).length) * (1 : Nat) ≤ (140737488355328 : Nat)]) (by kernel_rfl) ⟨rfl, (words_ret ([rp]) (by simp only [List.length_cons, List.length_nil]; omega)), (valR_bytes _), (valR_bytes _), (avb_conv (fl)), (avb_conv (co)), (avb_conv (ra)), rfl, (bytesA_app _ _), (by simp only [bytesA_len, List.length_cons, List.length_nil]; omega), trivial⟩ ?_
    refine then_n ?_
    refine AWP.wk [.keep [5, 11, 4, 3, 2, 1, 0] [27, 1]] (s' := AS.mk [(5, AV.ref 27), (11, ao (adE fl co ra mo id kh kr != (0 : Int))), (4, ai (adE fl co ra mo id kh kr)), (3, ai 0), (2, AV.nil), (1, AV.addr 1 0), (0, AV.agg [aw rp, ai fl, ai co, ai ra, aw mo, AV.sl 1 (bytesA id), ai kh, aw kr])] [(27, Row.mk 1 true false (bytesA (words [rp] ++ [u8 fl, u8 co, u8 ra]))), (1, Row.mk 1 false true [aw rp, ai fl, ai co, ai ra, aw mo, AV.sl 1 (bytesA id), ai kh, aw kr])]) (by kernel_rfl) ?_
    refine AWP.seq (by kernel_rfl) ?_
    refine AWP.regsP 1 [{ hs := [(1, { av := some (ao ((↑(msk fl (64 : Nat)) : Int) != (0 : Int))) })] }] [.keep [30, 5, 11, 4, 3, 2, 1, 0] [27, 1]] (by kernel_rfl) (s' := AS.mk [(30, ao (!(↑(msk fl (64 : Nat)) : Int) != (0 : Int))), (5, AV.ref 27), (11, ao (adE fl co ra mo id kh kr != (0 : Int))), (4, ai (adE fl co ra mo id kh kr)), (3, ai 0), (2, AV.nil), (1, AV.addr 1 0), (0, AV.agg [aw rp, ai fl, ai co, ai ra, aw mo, AV.sl 1 (bytesA id), ai kh, aw kr])] [(27, Row.mk 1 true false (bytesA (words [rp] ++ [u8 fl, u8 co, u8 ra]))), (1, Row.mk 1 false true [aw rp, ai fl, ai co, ai ra, aw mo, AV.sl 1 (bytesA id), ai kh, aw kr])]) (C := [Ret Try.prog (38 : Nat) [AV.agg [aw rp, ai fl, ai co, ai ra, aw mo, AV.sl 1 (bytesA id), ai kh, aw kr], ai 64] (ao ((↑(msk fl (64 : Nat)) : Int) != (0 : Int)))]) (by kernel_rfl) ⟨(has64_ret (rp) (fl) (co) (ra) (mo) (id) (kh) (kr)), trivial⟩ ?_
    refine AWP.condT (x := Operand.tmp (30 : Nat)) (b := !(↑(msk fl (64 : Nat)) : Int) != (0 : Int)) (by kernel_rfl) (by kernel_rfl) (by simp_all; done) ?_
    refine AWP.regsK 1 [{  }] (by kernel_rfl) (s' := AS.mk [(3, ai 0), (2, AV.ref 27), (31, AV.ref 27), (30, ao (!(↑(msk fl (64 : Nat)) : Int) != (0 : Int))), (5, AV.ref 27), (11, ao (adE fl co ra mo id kh kr != (0 : Int))), (4, ai (adE fl co ra mo id kh kr)), (1, AV.addr 1 0), (0, AV.agg [aw rp, ai fl, ai co, ai ra, aw mo, AV.sl 1 (bytesA id), ai kh, aw kr])] [(27, Row.mk 1 true false (bytesA (words [rp] ++ [u8 fl, u8 co, u8 ra]))), (1, Row.mk 1 false true [aw rp, ai fl, ai co, ai ra, aw mo, AV.sl 1 (bytesA id), ai kh, aw kr])]) (C := []) (by kernel_rfl) trivial ?_
    refine AWP.ret (by kernel_rfl) ?_
    skip
    refine then_r ?_
    refine Done.ret_ (C := [bytesA (words [rp] ++ [u8 fl, u8 co, u8 ra]) = bytesA (adD rp fl co ra mo id kh kr), Value.int IntKind.i64 (0 : Int) = Value.int IntKind.i64 (adE fl co ra mo id kh kr)]) (by kernel_rfl) ⟨(by rw [ed]), (by rw [h1]), trivial⟩
  have hk : keyE kh = 0 ∧ id.length = 176 := by
    rw [adE] at h1
    split at h1
    · cases h1
    split at h1
    · cases h1
    split at h1
    · cases h1
    rename_i h; exact ⟨h1, by omega⟩
  obtain ⟨hk, hi⟩ := hk
  have hkd : (keyD kh kr).length = 9 := by
    have : ¬ badH kh := fun h => by rw [keyE, if_pos h] at hk; cases hk
    rw [keyD, if_neg this, List.length_cons, words_len]; rfl
  have ed : adD rp fl co ra mo id kh kr = words [rp] ++ [u8 fl, u8 co, u8 ra] ++ (words [mo] ++ id ++ keyD kh kr) := by rw [adD, if_neg (fun h => h h1), if_neg h2]
  refine Ret.of_fn Try.func16 (by kernel_rfl) 51 (by kernel_rfl) (by kernel_rfl) ?_
  skip
  refine AWP.regsK 1 [{  }] (by kernel_rfl) (s' := AS.mk [(3, ai 0), (2, AV.nil), (1, AV.addr 1 0), (0, AV.agg [aw rp, ai fl, ai co, ai ra, aw mo, AV.sl 1 (bytesA id), ai kh, aw kr])] [(1, Row.mk 1 false true [aw rp, ai fl, ai co, ai ra, aw mo, AV.sl 1 (bytesA id), ai kh, aw kr])]) (C := []) (by kernel_rfl) trivial ?_
  refine AWP.seq (by kernel_rfl) ?_
  refine AWP.regsP 2 [{ hs := [(1, { av := some (ai (adE fl co ra mo id kh kr)) })] }, {  }] [.keep [11, 4, 3, 2, 1, 0] [1]] (by kernel_rfl) (s' := AS.mk [(11, ao (adE fl co ra mo id kh kr != (0 : Int))), (4, ai (adE fl co ra mo id kh kr)), (3, ai 0), (2, AV.nil), (1, AV.addr 1 0), (0, AV.agg [aw rp, ai fl, ai co, ai ra, aw mo, AV.sl 1 (bytesA id), ai kh, aw kr])] [(1, Row.mk 1 false true [aw rp, ai fl, ai co, ai ra, aw mo, AV.sl 1 (bytesA id), ai kh, aw kr])]) (C := [Ret Try.prog (18 : Nat) [AV.agg [aw rp, ai fl, ai co, ai ra, aw mo, AV.sl 1 (bytesA id), ai kh, aw kr]] (ai (adE fl co ra mo id kh kr))]) (by kernel_rfl) ⟨(validate_ret (rp) (fl) (co) (ra) (mo) (id) (kh) (kr)), trivial⟩ ?_
  refine AWP.condF (x := Operand.tmp (11 : Nat)) (b := adE fl co ra mo id kh kr != (0 : Int)) (by kernel_rfl) (by kernel_rfl) (by simp_all; done) ?_
  refine AWP.skip (by kernel_rfl) ?_
  skip
  refine then_n ?_
  refine AWP.seq (by kernel_rfl) ?_
  refine AWP.regO 14 [3] [(2, { av := some (AV.arr (wordsA [rp])) }), (3, { av := some (AV.own 1 (bytesA (words [rp]))) }), (6, { av := some (ab (u8 fl)) }), (9, { av := some (ab (u8 co)) }), (12, { av := some (ab (u8 ra)) }), (13, { av := some (AV.arr (bytesA [u8 fl, u8 co, u8 ra])) }), (14, { av := some (AV.arr (bytesA (words [rp] ++ [u8 fl, u8 co, u8 ra]))) })] (s' := AS.mk [(5, AV.ref 27), (27, AV.ref 27), (16, AV.dead), (13, AV.addr 1 0), (14, aw rp), (15, AV.sl 1 (wordsA [rp])), (16, AV.dead), (17, AV.addr 1 1), (18, ai fl), (19, ab (u8 fl)), (20, AV.addr 1 2), (21, ai co), (22, ab (u8 co)), (23, AV.addr 1 3), (24, ai ra), (25, ab (u8 ra)), (26, AV.sl 1 (bytesA [u8 fl, u8 co, u8 ra])), (11, ao (adE fl co ra mo id kh kr != (0 : Int))), (4, ai (adE fl co ra mo id kh kr)), (3, ai 0), (2, AV.nil), (1, AV.addr 1 0), (0, AV.agg [aw rp, ai fl, ai co, ai ra, aw mo, AV.sl 1 (bytesA id), ai kh, aw kr])] [(27, Row.mk 1 true false (bytesA (words [rp] ++ [u8 fl, u8 co, u8 ra]))), (1, Row.mk 1 false true [aw rp, ai fl, ai co, ai ra, aw mo, AV.sl 1 (bytesA id), ai kh, aw kr])]) (C := [[aw rp] = wordsA [rp], Ret Try.prog (37 : Nat) [AV.sl 1 (wordsA [rp])] (AV.own 1 (bytesA (words [rp]))), valR (bytesA (words [rp])), valR (bytesA (words [rp])), AV.val (Value.int IntKind.u8 (IntKind.u8.wrap fl)) = ab (u8 fl), AV.val (Value.int IntKind.u8 (IntKind.u8.wrap co)) = ab (u8 co), AV.val (Value.int IntKind.u8 (IntKind.u8.wrap ra)) = ab (u8 ra), [ab (u8 fl), ab (u8 co), ab (u8 ra)] = bytesA [u8 fl, u8 co, u8 ra], bytesA (words [rp]) ++ bytesA [u8 fl, u8 co, u8 ra] = bytesA (words [rp] ++ [u8 fl, u8 co, u8 ra]), ((bytesA (words [rp])).length + (bytesA [u8 fl, u8 co, u8 ra]).length) * (1 : Nat) ≤ (140737488355328 : Nat)]) (by kernel_rfl) ⟨rfl, (words_ret ([rp]) (by simp only [List.length_cons, List.length_nil]; omega)), (valR_bytes _), (valR_bytes _), (avb_conv (fl)), (avb_conv (co)), (avb_conv (ra)), rfl, (bytesA_app _ _), (by simp only [bytesA_len, List.length_cons, List.length_nil]; omega), trivial⟩ ?_
  refine then_n ?_
  refine AWP.wk [.keep [5, 11, 4, 3, 2, 1, 0] [27, 1]] (s' := AS.mk [(5, AV.ref 27), (11, ao (adE fl co ra mo id kh kr != (0 : Int))), (4, ai (adE fl co ra mo id kh kr)), (3, ai 0), (2, AV.nil), (1, AV.addr 1 0), (0, AV.agg [aw rp, ai fl, ai co, ai ra, aw mo, AV.sl 1 (bytesA id), ai kh, aw kr])] [(27, Row.mk 1 true false (bytesA (words [rp] ++ [u8 fl, u8 co, u8 ra]))), (1, Row.mk 1 false true [aw rp, ai fl, ai co, ai ra, aw mo, AV.sl 1 (bytesA id), ai kh, aw kr])]) (by kernel_rfl) ?_
  refine AWP.seq (by kernel_rfl) ?_
  refine AWP.regsP 1 [{ hs := [(1, { av := some (ao ((↑(msk fl (64 : Nat)) : Int) != (0 : Int))) })] }] [.keep [30, 5, 11, 4, 3, 2, 1, 0] [27, 1]] (by kernel_rfl) (s' := AS.mk [(30, ao (!(↑(msk fl (64 : Nat)) : Int) != (0 : Int))), (5, AV.ref 27), (11, ao (adE fl co ra mo id kh kr != (0 : Int))), (4, ai (adE fl co ra mo id kh kr)), (3, ai 0), (2, AV.nil), (1, AV.addr 1 0), (0, AV.agg [aw rp, ai fl, ai co, ai ra, aw mo, AV.sl 1 (bytesA id), ai kh, aw kr])] [(27, Row.mk 1 true false (bytesA (words [rp] ++ [u8 fl, u8 co, u8 ra]))), (1, Row.mk 1 false true [aw rp, ai fl, ai co, ai ra, aw mo, AV.sl 1 (bytesA id), ai kh, aw kr])]) (C := [Ret Try.prog (38 : Nat) [AV.agg [aw rp, ai fl, ai co, ai ra, aw mo, AV.sl 1 (bytesA id), ai kh, aw kr], ai 64] (ao ((↑(msk fl (64 : Nat)) : Int) != (0 : Int)))]) (by kernel_rfl) ⟨(has64_ret (rp) (fl) (co) (ra) (mo) (id) (kh) (kr)), trivial⟩ ?_
  refine AWP.condF (x := Operand.tmp (30 : Nat)) (b := !(↑(msk fl (64 : Nat)) : Int) != (0 : Int)) (by kernel_rfl) (by kernel_rfl) (by simp_all; done) ?_
  refine AWP.skip (by kernel_rfl) ?_
  skip
  refine then_n ?_
  refine AWP.regsP 1 [{ hs := [(2, { av := some (AV.tup [AV.own 1 (bytesA (keyD kh kr)), ai (keyE kh)]) })] }] [.keep [7, 6, 30, 5, 11, 4, 3, 2, 1, 0] [1035, 27, 1]] (by kernel_rfl) (s' := AS.mk [(7, ai (keyE kh)), (6, AV.ref 1035), (30, ao (!(↑(msk fl (64 : Nat)) : Int) != (0 : Int))), (5, AV.ref 27), (11, ao (adE fl co ra mo id kh kr != (0 : Int))), (4, ai (adE fl co ra mo id kh kr)), (3, ai 0), (2, AV.nil), (1, AV.addr 1 0), (0, AV.agg [aw rp, ai fl, ai co, ai ra, aw mo, AV.sl 1 (bytesA id), ai kh, aw kr])] [(1035, Row.mk 1 true false (bytesA (keyD kh kr))), (27, Row.mk 1 true false (bytesA (words [rp] ++ [u8 fl, u8 co, u8 ra]))), (1, Row.mk 1 false true [aw rp, ai fl, ai co, ai ra, aw mo, AV.sl 1 (bytesA id), ai kh, aw kr])]) (C := [Ret Try.prog (39 : Nat) [AV.agg [ai kh, aw kr]] (AV.tup [AV.own 1 (bytesA (keyD kh kr)), ai (keyE kh)]), valR (bytesA (keyD kh kr))]) (by kernel_rfl) ⟨(encodekey_ret (kh) (kr)), (valR_bytes _), trivial⟩ ?_
  refine AWP.seq (by kernel_rfl) ?_
  refine AWP.regsK 1 [{  }] (by kernel_rfl) (s' := AS.mk [(39, ao (keyE kh != (0 : Int))), (38, ai (keyE kh)), (7, ai (keyE kh)), (6, AV.ref 1035), (30, ao (!(↑(msk fl (64 : Nat)) : Int) != (0 : Int))), (5, AV.ref 27), (11, ao (adE fl co ra mo id kh kr != (0 : Int))), (4, ai (adE fl co ra mo id kh kr)), (3, ai 0), (2, AV.nil), (1, AV.addr 1 0), (0, AV.agg [aw rp, ai fl, ai co, ai ra, aw mo, AV.sl 1 (bytesA id), ai kh, aw kr])] [(1035, Row.mk 1 true false (bytesA (keyD kh kr))), (27, Row.mk 1 true false (bytesA (words [rp] ++ [u8 fl, u8 co, u8 ra]))), (1, Row.mk 1 false true [aw rp, ai fl, ai co, ai ra, aw mo, AV.sl 1 (bytesA id), ai kh, aw kr])]) (C := []) (by kernel_rfl) trivial ?_
  refine AWP.condF (x := Operand.tmp (39 : Nat)) (b := keyE kh != (0 : Int)) (by kernel_rfl) (by kernel_rfl) (by simp_all; done) ?_
  refine AWP.skip (by kernel_rfl) ?_
  skip
  refine then_n ?_
  refine AWP.regsP 1 [{ hs := [(3, { av := some (AV.arr (wordsA [mo])) }), (4, { av := some (AV.own 1 (bytesA (words [mo]))) }), (9, { av := some (AV.own 1 (bytesA (words [rp] ++ [u8 fl, u8 co, u8 ra] ++ (words [mo] ++ (id ++ keyD kh kr))))) })], T := 8 }] [.keep [3, 2, 39, 7, 6, 30, 5, 11, 4, 1, 0] [50, 1]] (by kernel_rfl) (s' := AS.mk [(3, ai 0), (2, AV.ref 50), (39, ao (keyE kh != (0 : Int))), (7, ai (keyE kh)), (6, AV.sl 1 (bytesA (keyD kh kr))), (30, ao (!(↑(msk fl (64 : Nat)) : Int) != (0 : Int))), (5, AV.sl 1 (bytesA (words [rp] ++ [u8 fl, u8 co, u8 ra]))), (11, ao (adE fl co ra mo id kh kr != (0 : Int))), (4, ai (adE fl co ra mo id kh kr)), (1, AV.addr 1 0), (0, AV.agg [aw rp, ai fl, ai co, ai ra, aw mo, AV.sl 1 (bytesA id), ai kh, aw kr])] [(50, Row.mk 1 true false (bytesA (words [rp] ++ [u8 fl, u8 co, u8 ra] ++ (words [mo] ++ (id ++ keyD kh kr))))), (1, Row.mk 1 false true [aw rp, ai fl, ai co, ai ra, aw mo, AV.sl 1 (bytesA id), ai kh, aw kr])]) (C := [[aw mo] = wordsA [mo], Ret Try.prog (37 : Nat) [AV.sl 1 (wordsA [mo])] (AV.own 1 (bytesA (words [mo]))), valR (bytesA (words [mo])), Ret Try.prog (40 : Nat) [AV.sl 1 [AV.sl 1 (bytesA (words [rp] ++ [u8 fl, u8 co, u8 ra])), AV.sl 1 (bytesA (words [mo])), AV.sl 1 (bytesA id), AV.sl 1 (bytesA (keyD kh kr))]] (AV.own 1 (bytesA (words [rp] ++ [u8 fl, u8 co, u8 ra] ++ (words [mo] ++ (id ++ keyD kh kr))))), valR (bytesA (words [rp] ++ [u8 fl, u8 co, u8 ra] ++ (words [mo] ++ (id ++ keyD kh kr))))]) (by kernel_rfl) ⟨rfl, (words_ret ([mo]) (by simp only [List.length_cons, List.length_nil]; omega)), (valR_bytes _), (concat4_ret (words [rp] ++ [u8 fl, u8 co, u8 ra]) (words [mo]) (id) (keyD kh kr) (by simp only [List.length_append, List.length_cons, List.length_nil]; omega)), (valR_bytes _), trivial⟩ ?_
  refine AWP.ret (by kernel_rfl) ?_
  refine Done.ret_ (C := [bytesA (words [rp] ++ [u8 fl, u8 co, u8 ra] ++ (words [mo] ++ (id ++ keyD kh kr))) = bytesA (adD rp fl co ra mo id kh kr), Value.int IntKind.i64 (0 : Int) = Value.int IntKind.i64 (adE fl co ra mo id kh kr)]) (by kernel_rfl) ⟨(by rw [ed]; simp only [List.append_assoc]), (by rw [h1]), trivial⟩
theorem rphash_ret (s : List UInt8) (hs : s.length ≤ 1000000) : Ret Try.prog 20 [as_ s] (aw (hash 9 s)) := by
  refine Ret.of_fn Try.func20 (by kernel_rfl) 6 (by kernel_rfl) (by kernel_rfl) ?_
  skip
  refine AWP.regsP 2 [{  }, { hs := [(2, { av := some (aw (hash (9 : Int) s.toArray.toList)) })] }] [.keep [2, 0] []] (by kernel_rfl) (s' := AS.mk [(2, aw (hash (9 : Int) s.toArray.toList)), (0, AV.val (Value.string (ByteArray.mk s.toArray)))] []) (C := [(ByteArray.mk s.toArray).size ≤ maxLen, Ret Try.prog (44 : Nat) [ai 9, AV.sl 1 (bytesA s.toArray.toList)] (aw (hash (9 : Int) s.toArray.toList))]) (by kernel_rfl) ⟨(show s.length ≤ maxLen by unfold maxLen; omega), (hash_ret ((9 : Int)) (s.toArray.toList)), trivial⟩ ?_
  refine AWP.ret (by kernel_rfl) ?_
  refine Done.ret_ (C := [Value.int IntKind.u64 (wv (hash (9 : Int) s.toArray.toList)) = Value.int IntKind.u64 (wv (hash (9 : Int) s))]) (by kernel_rfl) ⟨rfl, trivial⟩
theorem refrphash_ret (s : List UInt8) (hs : s.length ≤ 1000000) : Ret Try.prog 21 [as_ s] (aw (hash 9 s)) := by
  refine Ret.of_fn Try.func21 (by kernel_rfl) 6 (by kernel_rfl) (by kernel_rfl) ?_
  skip
  refine AWP.regsP 2 [{  }, { hs := [(2, { av := some (aw (hash (9 : Int) s.toArray.toList)) })] }] [.keep [2, 0] []] (by kernel_rfl) (s' := AS.mk [(2, aw (hash (9 : Int) s.toArray.toList)), (0, AV.val (Value.string (ByteArray.mk s.toArray)))] []) (C := [(ByteArray.mk s.toArray).size ≤ maxLen, Ret Try.prog (45 : Nat) [ai 9, AV.sl 1 (bytesA s.toArray.toList)] (aw (hash (9 : Int) s.toArray.toList))]) (by kernel_rfl) ⟨(show s.length ≤ maxLen by unfold maxLen; omega), (refhash_ret ((9 : Int)) (s.toArray.toList) (by simp only []; omega)), trivial⟩ ?_
  refine AWP.ret (by kernel_rfl) ?_
  refine Done.ret_ (C := [Value.int IntKind.u64 (wv (hash (9 : Int) s.toArray.toList)) = Value.int IntKind.u64 (wv (hash (9 : Int) s))]) (by kernel_rfl) ⟨rfl, trivial⟩
theorem message14_ret (b : List UInt8) (c : UInt64) (hb : b.length ≤ 100000) : Ret Try.prog 22 [.sl 1 (bytesA b), aw c] (aw (hash 13 (b ++ words [c]))) := by
  have hw : (words [c]).length = 8 := by rw [words_len]; rfl
  refine Ret.of_fn Try.func22 (by kernel_rfl) 12 (by kernel_rfl) (by kernel_rfl) ?_
  skip
  refine AWP.regsP 2 [{  }, { hs := [(2, { av := some (AV.arr (wordsA [c])) }), (3, { av := some (AV.own 1 (bytesA (words [c]))) }), (5, { av := some (AV.own 1 (bytesA (b ++ words [c]))) }), (6, { av := some (aw (hash (13 : Int) (b ++ words [c]))) })] }] [.keep [4, 0, 1] []] (by kernel_rfl) (s' := AS.mk [(4, aw (hash (13 : Int) (b ++ words [c]))), (0, AV.sl 1 (bytesA b)), (1, aw c)] []) (C := [[aw c] = wordsA [c], Ret Try.prog (37 : Nat) [AV.sl 1 (wordsA [c])] (AV.own 1 (bytesA (words [c]))), valR (bytesA (words [c])), Ret Try.prog (40 : Nat) [AV.sl 1 [AV.sl 1 (bytesA b), AV.sl 1 (bytesA (words [c]))]] (AV.own 1 (bytesA (b ++ words [c]))), valR (bytesA (b ++ words [c])), Ret Try.prog (44 : Nat) [ai 13, AV.sl 1 (bytesA (b ++ words [c]))] (aw (hash (13 : Int) (b ++ words [c])))]) (by kernel_rfl) ⟨rfl, (words_ret ([c]) (by simp only [List.length_cons, List.length_nil]; omega)), (valR_bytes _), (concat2_ret (b) (words [c]) (by omega)), (valR_bytes _), (hash_ret ((13 : Int)) (b ++ words [c])), trivial⟩ ?_
  refine AWP.ret (by kernel_rfl) ?_
  refine Done.ret_ (C := [Value.int IntKind.u64 (wv (hash (13 : Int) (b ++ words [c]))) = Value.int IntKind.u64 (wv (hash (13 : Int) (b ++ words [c])))]) (by kernel_rfl) ⟨rfl, trivial⟩
theorem refmessage14_ret (b : List UInt8) (c : UInt64) (hb : b.length ≤ 100000) : Ret Try.prog 23 [.sl 1 (bytesA b), aw c] (aw (hash 13 (b ++ words [c]))) := by
  have hw : (words [c]).length = 8 := by rw [words_len]; rfl
  refine Ret.of_fn Try.func23 (by kernel_rfl) 12 (by kernel_rfl) (by kernel_rfl) ?_
  skip
  refine AWP.regsP 2 [{  }, { hs := [(1, { b := false }), (3, { av := some (AV.arr (wordsA [c])) }), (4, { av := some (AV.own 1 (bytesA (words [c]))) }), (5, { av := some (AV.arr (bytesA (b ++ words [c]))) }), (6, { av := some (aw (hash (13 : Int) (b ++ words [c]))) })] }] [.keep [4, 0, 1] []] (by kernel_rfl) (s' := AS.mk [(4, aw (hash (13 : Int) (b ++ words [c]))), (0, AV.sl 1 (bytesA b)), (1, aw c)] []) (C := [plainR (bytesA b), ((0 : Nat) + (bytesA b).length) * (1 : Nat) ≤ (140737488355328 : Nat), [aw c] = wordsA [c], Ret Try.prog (41 : Nat) [AV.sl 1 (wordsA [c])] (AV.own 1 (bytesA (words [c]))), valR (bytesA (words [c])), bytesA b ++ bytesA (words [c]) = bytesA (b ++ words [c]), ((bytesA b).length + (bytesA (words [c])).length) * (1 : Nat) ≤ (140737488355328 : Nat), Ret Try.prog (45 : Nat) [ai 13, AV.sl 1 (bytesA (b ++ words [c]))] (aw (hash (13 : Int) (b ++ words [c])))]) (by kernel_rfl) ⟨(plainR_bytes _), (by simp only [bytesA_len]; omega), rfl, (refwords_ret ([c]) (by simp only [List.length_cons, List.length_nil]; omega)), (valR_bytes _), (bytesA_app _ _), (by simp only [bytesA_len]; omega), (refhash_ret ((13 : Int)) (b ++ words [c]) (by simp only [List.length_append]; omega)), trivial⟩ ?_
  refine AWP.ret (by kernel_rfl) ?_
  refine Done.ret_ (C := [Value.int IntKind.u64 (wv (hash (13 : Int) (b ++ words [c]))) = Value.int IntKind.u64 (wv (hash (13 : Int) (b ++ words [c])))]) (by kernel_rfl) ⟨rfl, trivial⟩
/-- A nil slice inside of a struct reads as an empty one. -/
theorem Ret.nilAgg {P : Program} {f : FuncId} {xs ys : List AV} {rest : List AV} {r : AV} (h : Ret P f (.agg ys :: rest) r) (hl : xs.length = ys.length) (ha : ∀ (j : Nat) x y, xs[j]? = some x → ys[j]? = some y → x = y ∨ (x = .nil ∧ y = .sl 1 [])) : Ret P f (.agg xs :: rest) r := by
  intro w S vs hS hv hr
  refine h w S vs hS (by simpa using hv) fun j v y hvj hy => ?_
  cases j with
  | succ j => exact hr (j + 1) v y hvj (by simpa using hy)
  | zero =>
    simp at hy
    subst hy
    have h0 := hr 0 v (.agg xs) hvj rfl
    cases h0 with
    | agg us _ hl' hus =>
      refine .agg us ys (by rw [hl', hl]) fun j u y hu hy => ?_
      have hj : j < xs.length := by have := (List.getElem?_eq_some_iff.1 hy).1; omega
      have hx : xs[j]? = some xs[j] := List.getElem?_eq_getElem hj
      have hrep := hus j u _ hu hx
      rcases ha j _ y hx hy with e | ⟨e1, e2⟩
      · rw [← e]; exact hrep
      · rw [e1] at hrep; rw [e2]; cases hrep; exact sl_empty none 0 0 1 (by simp) (Nat.le_refl _) (by simp)
theorem nil5 {a b c d e f g : AV} (j : Nat) (x y : AV) (hx : [a, b, c, d, e, .nil, f, g][j]? = some x) (hy : [a, b, c, d, e, .sl 1 [], f, g][j]? = some y) : x = y ∨ (x = .nil ∧ y = .sl 1 []) := by
  match j with
  | 0 | 1 | 2 | 3 | 4 | 6 | 7 => simp at hx hy; subst hx; exact .inl hy
  | 5 => simp at hx hy; exact .inr ⟨hx.symm, hy.symm⟩
  | j + 8 => simp at hx
theorem encode14N_ret (rp : UInt64) (fl co ra : Int) (mo : UInt64) (kh : Int) (kr : UInt64) : Ret Try.prog 16 [.agg [aw rp, ai fl, ai co, ai ra, aw mo, .nil, ai kh, aw kr]] (.tup [.own 1 (bytesA (adD rp fl co ra mo [] kh kr)), ai (adE fl co ra mo [] kh kr)]) :=
  Ret.nilAgg (encode14_ret rp fl co ra mo [] kh kr) rfl nil5
theorem validateN_ret (rp : UInt64) (fl co ra : Int) (mo : UInt64) (kh : Int) (kr : UInt64) : Ret Try.prog 18 [.agg [aw rp, ai fl, ai co, ai ra, aw mo, .nil, ai kh, aw kr]] (ai (adE fl co ra mo [] kh kr)) :=
  Ret.nilAgg (validate_ret rp fl co ra mo [] kh kr) rfl nil5
theorem awake14_ret : Ret Try.prog 14 [] (ao true) := by
  have e1 : adE 1 2 0 0 [] 0 0 = 0 := by decide +kernel
  have e2 : adD 1 1 2 0 0 [] 0 0 = [0, 0, 0, 0, 0, 0, 0, 1, 1, 2, 0] := by decide +kernel
  have e3 : adE 0 17 0 0 [] 0 0 = 9 := by decide +kernel
  have e4 : (adD 1 1 2 0 0 [] 0 0 == [0, 0, 0, 0, 0, 0, 0, 1, 1, 2, 0]) = true := by rw [e2]; rfl
  refine Ret.of_fn Try.func14 (by kernel_rfl) 25 (by kernel_rfl) (by kernel_rfl) ?_
  skip
  refine AWP.regsP 3 [{  }, { hs := [(1, { av := some (AV.tup [AV.own 1 (bytesA (adD (1 : UInt64) (1 : Int) (2 : Int) (0 : Int) (0 : UInt64) [] (0 : Int) (0 : UInt64))), ai (adE (1 : Int) (2 : Int) (0 : Int) (0 : UInt64) [] (0 : Int) (0 : UInt64))]) })] }, { hs := [(1, { av := some (ao true) }), (4, { av := some (AV.val (Value.string (ByteArray.mk (adD (1 : UInt64) (1 : Int) (2 : Int) (0 : Int) (0 : UInt64) [] (0 : Int) (0 : UInt64)).toArray))) }), (5, { av := some (ao (adD (1 : UInt64) (1 : Int) (2 : Int) (0 : Int) (0 : UInt64) [] (0 : Int) (0 : UInt64) == [(0 : UInt8), (0 : UInt8), (0 : UInt8), (0 : UInt8), (0 : UInt8), (0 : UInt8), (0 : UInt8), (1 : UInt8), (1 : UInt8), (2 : UInt8), (0 : UInt8)])) }), (8, { av := some (aw (hash (9 : Int) [(97 : UInt8)])) }), (9, { av := some (aw (hash (9 : Int) [(97 : UInt8)])) }), (10, { av := some (ao (hash (9 : Int) [(97 : UInt8)] == hash (9 : Int) [(97 : UInt8)])) }), (14, { av := some (ai (adE (0 : Int) (17 : Int) (0 : Int) (0 : UInt64) [] (0 : Int) (0 : UInt64))) }), (15, { av := some (ao true) })] }] [.keep [0, 2, 1] [1005]] (by kernel_rfl) (s' := AS.mk [(0, ao true), (2, ai (adE (1 : Int) (2 : Int) (0 : Int) (0 : UInt64) [] (0 : Int) (0 : UInt64))), (1, AV.ref 1005)] [(1005, Row.mk 1 true false (bytesA (adD (1 : UInt64) (1 : Int) (2 : Int) (0 : Int) (0 : UInt64) [] (0 : Int) (0 : UInt64))))]) (C := [Ret Try.prog (16 : Nat) [AV.agg [AV.val (Value.int IntKind.u64 (1 : Int)), ai 1, ai 2, ai 0, AV.val (Value.int IntKind.u64 (0 : Int)), AV.nil, ai 0, AV.val (Value.int IntKind.u64 (0 : Int))]] (AV.tup [AV.own 1 (bytesA (adD (1 : UInt64) (1 : Int) (2 : Int) (0 : Int) (0 : UInt64) [] (0 : Int) (0 : UInt64))), ai (adE (1 : Int) (2 : Int) (0 : Int) (0 : UInt64) [] (0 : Int) (0 : UInt64))]), valR (bytesA (adD (1 : UInt64) (1 : Int) (2 : Int) (0 : Int) (0 : UInt64) [] (0 : Int) (0 : UInt64))), ao (adE (1 : Int) (2 : Int) (0 : Int) (0 : UInt64) [] (0 : Int) (0 : UInt64) == (0 : Int)) = ao true, true = true, true = true, bytesA (adD (1 : UInt64) (1 : Int) (2 : Int) (0 : Int) (0 : UInt64) [] (0 : Int) (0 : UInt64)) = bytesA (adD (1 : UInt64) (1 : Int) (2 : Int) (0 : Int) (0 : UInt64) [] (0 : Int) (0 : UInt64)).toArray.toList, true = true, ao ((ByteArray.mk (adD (1 : UInt64) (1 : Int) (2 : Int) (0 : Int) (0 : UInt64) [] (0 : Int) (0 : UInt64)).toArray).toList == (ByteArray.mk #[(0 : UInt8), (0 : UInt8), (0 : UInt8), (0 : UInt8), (0 : UInt8), (0 : UInt8), (0 : UInt8), (1 : UInt8), (1 : UInt8), (2 : UInt8), (0 : UInt8)]).toList) = ao (adD (1 : UInt64) (1 : Int) (2 : Int) (0 : Int) (0 : UInt64) [] (0 : Int) (0 : UInt64) == [(0 : UInt8), (0 : UInt8), (0 : UInt8), (0 : UInt8), (0 : UInt8), (0 : UInt8), (0 : UInt8), (1 : UInt8), (1 : UInt8), (2 : UInt8), (0 : UInt8)]), true = true, (adD (1 : UInt64) (1 : Int) (2 : Int) (0 : Int) (0 : UInt64) [] (0 : Int) (0 : UInt64) == [(0 : UInt8), (0 : UInt8), (0 : UInt8), (0 : UInt8), (0 : UInt8), (0 : UInt8), (0 : UInt8), (1 : UInt8), (1 : UInt8), (2 : UInt8), (0 : UInt8)]) = true, Ret Try.prog (20 : Nat) [AV.val (Value.string (ByteArray.mk #[(97 : UInt8)]))] (aw (hash (9 : Int) [(97 : UInt8)])), (adD (1 : UInt64) (1 : Int) (2 : Int) (0 : Int) (0 : UInt64) [] (0 : Int) (0 : UInt64) == [(0 : UInt8), (0 : UInt8), (0 : UInt8), (0 : UInt8), (0 : UInt8), (0 : UInt8), (0 : UInt8), (1 : UInt8), (1 : UInt8), (2 : UInt8), (0 : UInt8)]) = true, Ret Try.prog (20 : Nat) [AV.val (Value.string (ByteArray.mk #[(97 : UInt8)]))] (aw (hash (9 : Int) [(97 : UInt8)])), (adD (1 : UInt64) (1 : Int) (2 : Int) (0 : Int) (0 : UInt64) [] (0 : Int) (0 : UInt64) == [(0 : UInt8), (0 : UInt8), (0 : UInt8), (0 : UInt8), (0 : UInt8), (0 : UInt8), (0 : UInt8), (1 : UInt8), (1 : UInt8), (2 : UInt8), (0 : UInt8)]) = true, ao (wv (hash (9 : Int) [(97 : UInt8)]) == wv (hash (9 : Int) [(97 : UInt8)])) = ao (hash (9 : Int) [(97 : UInt8)] == hash (9 : Int) [(97 : UInt8)]), (adD (1 : UInt64) (1 : Int) (2 : Int) (0 : Int) (0 : UInt64) [] (0 : Int) (0 : UInt64) == [(0 : UInt8), (0 : UInt8), (0 : UInt8), (0 : UInt8), (0 : UInt8), (0 : UInt8), (0 : UInt8), (1 : UInt8), (1 : UInt8), (2 : UInt8), (0 : UInt8)]) = true, (hash (9 : Int) [(97 : UInt8)] == hash (9 : Int) [(97 : UInt8)]) = true, (hash (9 : Int) [(97 : UInt8)] == hash (9 : Int) [(97 : UInt8)]) = true, Ret Try.prog (18 : Nat) [AV.agg [AV.val (Value.int IntKind.u64 (0 : Int)), ai 0, ai 17, ai 0, AV.val (Value.int IntKind.u64 (0 : Int)), AV.nil, ai 0, AV.val (Value.int IntKind.u64 (0 : Int))]] (ai (adE (0 : Int) (17 : Int) (0 : Int) (0 : UInt64) [] (0 : Int) (0 : UInt64))), (hash (9 : Int) [(97 : UInt8)] == hash (9 : Int) [(97 : UInt8)]) = true, ao (adE (0 : Int) (17 : Int) (0 : Int) (0 : UInt64) [] (0 : Int) (0 : UInt64) == (9 : Int)) = ao true, (hash (9 : Int) [(97 : UInt8)] == hash (9 : Int) [(97 : UInt8)]) = true]) (by kernel_rfl) ⟨(encode14N_ret ((1 : UInt64)) ((1 : Int)) ((2 : Int)) ((0 : Int)) ((0 : UInt64)) ((0 : Int)) ((0 : UInt64))), (valR_bytes _), (by rw [e1]; rfl), rfl, rfl, rfl, rfl, (str_eq (adD (1 : UInt64) (1 : Int) (2 : Int) (0 : Int) (0 : UInt64) [] (0 : Int) (0 : UInt64)) ([(0 : UInt8), (0 : UInt8), (0 : UInt8), (0 : UInt8), (0 : UInt8), (0 : UInt8), (0 : UInt8), (1 : UInt8), (1 : UInt8), (2 : UInt8), (0 : UInt8)])), rfl, (by assumption), (rphash_ret ([(97 : UInt8)]) (by decide)), (by assumption), (rphash_ret ([(97 : UInt8)]) (by decide)), (by assumption), (avw_eq (hash (9 : Int) [(97 : UInt8)]) (hash (9 : Int) [(97 : UInt8)])), (by assumption), (by simp_all; done), (by simp_all; done), (validateN_ret ((0 : UInt64)) ((0 : Int)) ((17 : Int)) ((0 : Int)) ((0 : UInt64)) ((0 : Int)) ((0 : UInt64))), (by simp_all; done), (by simp_all; done), (by simp_all; done), trivial⟩ ?_
  refine AWP.ret (by kernel_rfl) ?_
  refine Done.ret_ (C := [Value.bool true = Value.bool true]) (by kernel_rfl) ⟨rfl, trivial⟩
theorem authdataWords_law (rp : List UInt8) (b : List UInt8) (c : UInt64) (hr : rp.length ≤ 9223372036854775807) : Ret Try.prog 4 [as_ rp, .sl 1 (bytesA b), aw c] (ao true) := by
  by_cases h1 : 300 < rp.length
  · refine Ret.of_fn Try.func4 (by kernel_rfl) 33 (by kernel_rfl) (by kernel_rfl) ?_
    skip
    refine AWP.regsK 1 [{  }] (by kernel_rfl) (s' := AS.mk [(6, ao false), (0, AV.val (Value.string (ByteArray.mk rp.toArray))), (1, AV.sl 1 (bytesA b)), (2, aw c)] []) (C := []) (by kernel_rfl) trivial ?_
    refine AWP.seq (by kernel_rfl) ?_
    refine AWP.regsP 1 [{ hs := [(1, { av := some (ai (↑rp.length : Int)) })] }] [.keep [14, 6, 0, 1, 2] []] (by kernel_rfl) (s' := AS.mk [(14, ao true), (6, ao false), (0, AV.val (Value.string (ByteArray.mk rp.toArray))), (1, AV.sl 1 (bytesA b)), (2, aw c)] []) (C := [ai (↑(ByteArray.mk rp.toArray).size : Int) = ai (↑rp.length : Int), decide ((↑rp.length : Int) > (300 : Int)) = true, decide ((↑rp.length : Int) > (300 : Int)) = true, decide ((↑rp.length : Int) > (300 : Int)) = true, decide ((↑rp.length : Int) > (300 : Int)) = true]) (by kernel_rfl) ⟨rfl, (decide_eq_true (by omega)), (decide_eq_true (by omega)), (decide_eq_true (by omega)), (decide_eq_true (by omega)), trivial⟩ ?_
    refine AWP.condT (x := Operand.tmp (14 : Nat)) (b := true) (by kernel_rfl) (by kernel_rfl) rfl ?_
    refine AWP.regsK 1 [{ hs := [(0, { av := some (ao true) })] }] (by kernel_rfl) (s' := AS.mk [(6, ao true), (15, ao true), (14, ao true), (0, AV.val (Value.string (ByteArray.mk rp.toArray))), (1, AV.sl 1 (bytesA b)), (2, aw c)] []) (C := [Ret Try.prog (14 : Nat) [] (ao true)]) (by kernel_rfl) ⟨(awake14_ret), trivial⟩ ?_
    refine AWP.ret (by kernel_rfl) ?_
    skip
    refine then_r ?_
    refine Done.ret_ (C := [Value.bool true = Value.bool true]) (by kernel_rfl) ⟨rfl, trivial⟩
  by_cases h2 : 400 < b.length
  · refine Ret.of_fn Try.func4 (by kernel_rfl) 33 (by kernel_rfl) (by kernel_rfl) ?_
    skip
    refine AWP.regsK 1 [{  }] (by kernel_rfl) (s' := AS.mk [(6, ao false), (0, AV.val (Value.string (ByteArray.mk rp.toArray))), (1, AV.sl 1 (bytesA b)), (2, aw c)] []) (C := []) (by kernel_rfl) trivial ?_
    refine AWP.seq (by kernel_rfl) ?_
    refine AWP.regsP 1 [{ hs := [(1, { av := some (ai (↑rp.length : Int)) }), (4, { g := false }), (5, { k := b.length, g := false }), (6, { g := false }), (7, { b := false })] }] [.keep [14, 6, 0, 1, 2] []] (by kernel_rfl) (s' := AS.mk [(14, ao (decide ((↑b.length : Int) > (400 : Int)))), (6, ao false), (0, AV.val (Value.string (ByteArray.mk rp.toArray))), (1, AV.sl 1 (bytesA b)), (2, aw c)] []) (C := [ai (↑(ByteArray.mk rp.toArray).size : Int) = ai (↑rp.length : Int), decide ((↑rp.length : Int) > (300 : Int)) = false, decide ((↑rp.length : Int) > (300 : Int)) = false, (bytesA b).length = b.length, decide ((↑rp.length : Int) > (300 : Int)) = false, decide ((↑rp.length : Int) > (300 : Int)) = false]) (by kernel_rfl) ⟨rfl, (decide_eq_false (by omega)), (decide_eq_false (by omega)), (bytesA_len _), (decide_eq_false (by omega)), (decide_eq_false (by omega)), trivial⟩ ?_
    refine AWP.condT (x := Operand.tmp (14 : Nat)) (b := decide ((↑b.length : Int) > (400 : Int))) (by kernel_rfl) (by kernel_rfl) (decide_eq_true (by omega)) ?_
    refine AWP.regsK 1 [{ hs := [(0, { av := some (ao true) })] }] (by kernel_rfl) (s' := AS.mk [(6, ao true), (15, ao true), (14, ao (decide ((↑b.length : Int) > (400 : Int)))), (0, AV.val (Value.string (ByteArray.mk rp.toArray))), (1, AV.sl 1 (bytesA b)), (2, aw c)] []) (C := [Ret Try.prog (14 : Nat) [] (ao true)]) (by kernel_rfl) ⟨(awake14_ret), trivial⟩ ?_
    refine AWP.ret (by kernel_rfl) ?_
    skip
    refine then_r ?_
    refine Done.ret_ (C := [Value.bool true = Value.bool true]) (by kernel_rfl) ⟨rfl, trivial⟩
  refine Ret.of_fn Try.func4 (by kernel_rfl) 33 (by kernel_rfl) (by kernel_rfl) ?_
  skip
  refine AWP.regsK 1 [{  }] (by kernel_rfl) (s' := AS.mk [(6, ao false), (0, AV.val (Value.string (ByteArray.mk rp.toArray))), (1, AV.sl 1 (bytesA b)), (2, aw c)] []) (C := []) (by kernel_rfl) trivial ?_
  refine AWP.seq (by kernel_rfl) ?_
  refine AWP.regsP 1 [{ hs := [(1, { av := some (ai (↑rp.length : Int)) }), (4, { g := false }), (5, { k := b.length, g := false }), (6, { g := false }), (7, { b := false })] }] [.keep [14, 6, 0, 1, 2] []] (by kernel_rfl) (s' := AS.mk [(14, ao (decide ((↑b.length : Int) > (400 : Int)))), (6, ao false), (0, AV.val (Value.string (ByteArray.mk rp.toArray))), (1, AV.sl 1 (bytesA b)), (2, aw c)] []) (C := [ai (↑(ByteArray.mk rp.toArray).size : Int) = ai (↑rp.length : Int), decide ((↑rp.length : Int) > (300 : Int)) = false, decide ((↑rp.length : Int) > (300 : Int)) = false, (bytesA b).length = b.length, decide ((↑rp.length : Int) > (300 : Int)) = false, decide ((↑rp.length : Int) > (300 : Int)) = false]) (by kernel_rfl) ⟨rfl, (decide_eq_false (by omega)), (decide_eq_false (by omega)), (bytesA_len _), (decide_eq_false (by omega)), (decide_eq_false (by omega)), trivial⟩ ?_
  refine AWP.condF (x := Operand.tmp (14 : Nat)) (b := decide ((↑b.length : Int) > (400 : Int))) (by kernel_rfl) (by kernel_rfl) (decide_eq_false (by omega)) ?_
  refine AWP.skip (by kernel_rfl) ?_
  skip
  refine then_n ?_
  refine AWP.regsP 1 [{ hs := [(1, { av := some (aw (hash (9 : Int) rp)) }), (3, { av := some (aw (hash (9 : Int) rp)) }), (4, { av := some (ao (hash (9 : Int) rp == hash (9 : Int) rp)) }), (8, { av := some (aw (hash (13 : Int) (b ++ words [c]))) }), (11, { av := some (aw (hash (13 : Int) (b ++ words [c]))) }), (12, { av := some (ao (hash (13 : Int) (b ++ words [c]) == hash (13 : Int) (b ++ words [c]))) }), (15, { av := some (ao true) })] }] [.keep [6, 14, 0, 1, 2] []] (by kernel_rfl) (s' := AS.mk [(6, ao true), (14, ao (decide ((↑b.length : Int) > (400 : Int)))), (0, AV.val (Value.string (ByteArray.mk rp.toArray))), (1, AV.sl 1 (bytesA b)), (2, aw c)] []) (C := [Ret Try.prog (20 : Nat) [AV.val (Value.string (ByteArray.mk rp.toArray))] (aw (hash (9 : Int) rp)), Ret Try.prog (21 : Nat) [AV.val (Value.string (ByteArray.mk rp.toArray))] (aw (hash (9 : Int) rp)), ao (wv (hash (9 : Int) rp) == wv (hash (9 : Int) rp)) = ao (hash (9 : Int) rp == hash (9 : Int) rp), (hash (9 : Int) rp == hash (9 : Int) rp) = true, (hash (9 : Int) rp == hash (9 : Int) rp) = true, (hash (9 : Int) rp == hash (9 : Int) rp) = true, Ret Try.prog (22 : Nat) [AV.sl 1 (bytesA b), aw c] (aw (hash (13 : Int) (b ++ words [c]))), (hash (9 : Int) rp == hash (9 : Int) rp) = true, (hash (9 : Int) rp == hash (9 : Int) rp) = true, (hash (9 : Int) rp == hash (9 : Int) rp) = true, Ret Try.prog (23 : Nat) [AV.sl 1 (bytesA b), aw c] (aw (hash (13 : Int) (b ++ words [c]))), (hash (9 : Int) rp == hash (9 : Int) rp) = true, ao (wv (hash (13 : Int) (b ++ words [c])) == wv (hash (13 : Int) (b ++ words [c]))) = ao (hash (13 : Int) (b ++ words [c]) == hash (13 : Int) (b ++ words [c])), (hash (9 : Int) rp == hash (9 : Int) rp) = true, (hash (13 : Int) (b ++ words [c]) == hash (13 : Int) (b ++ words [c])) = true, Ret Try.prog (14 : Nat) [] (ao true), (hash (13 : Int) (b ++ words [c]) == hash (13 : Int) (b ++ words [c])) = true]) (by kernel_rfl) ⟨(rphash_ret (rp) (by omega)), (refrphash_ret (rp) (by omega)), (avw_eq (hash (9 : Int) rp) (hash (9 : Int) rp)), (by simp_all; done), (by simp_all; done), (by simp_all; done), (message14_ret (b) (c) (by omega)), (by simp_all; done), (by simp_all; done), (by simp_all; done), (refmessage14_ret (b) (c) (by omega)), (by simp_all; done), (by simp_all; done), (by simp_all; done), (by simp_all; done), (awake14_ret), (by simp_all; done), trivial⟩ ?_
  refine AWP.ret (by kernel_rfl) ?_
  refine Done.ret_ (C := [Value.bool true = Value.bool true]) (by kernel_rfl) ⟨rfl, trivial⟩
end Go.Proofs.Ytmmnkloadooobaa
