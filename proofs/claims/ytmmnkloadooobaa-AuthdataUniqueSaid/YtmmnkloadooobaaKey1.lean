/-
  The contracts of treekey's codes of keys, and of the reference's. No condition.
-/
import Derived.Test.YtmmnkloadooobaaWd
import Derived.Test.YtmmnkloadooobaaRH
namespace Go.Proofs.Ytmmnkloadooobaa
open Go.RowKit
set_option maxRecDepth 100000
set_option maxHeartbeats 4000000
set_option linter.unusedVariables false

def badH (h : Int) : Prop := h < 0 ∨ 4 < h
instance (h : Int) : Decidable (badH h) := inferInstanceAs (Decidable (_ ∨ _))
theorem high_ret (h : Int) : Ret Try.prog 55 [ai h] (ao (decide (badH h))) := by
  by_cases h1 : h < 0
  · have e : decide (badH h) = true := decide_eq_true (.inl h1)
    refine Ret.of_fn Try.func55 (by kernel_rfl) 9 (by kernel_rfl) (by kernel_rfl) ?_
    skip
    refine AWP.regsK 2 [{  }, {  }] (by kernel_rfl) (s' := AS.mk [(2, ao true), (8, ao true), (7, AV.val (Value.tuple #[])), (6, AV.val (Value.tuple #[])), (5, ao (decide (h < (0 : Int)))), (4, ao (decide (h < (0 : Int)))), (3, ai h), (0, ai h)] []) (C := [decide (h < (0 : Int)) = true, decide (h < (0 : Int)) = true, decide (h < (0 : Int)) = true]) (by kernel_rfl) ⟨(decide_eq_true (by omega)), (decide_eq_true (by omega)), (decide_eq_true (by omega)), trivial⟩ ?_
    refine AWP.ret (by kernel_rfl) ?_
    refine Done.ret_ (C := [Value.bool true = Value.bool (decide (badH h))]) (by kernel_rfl) ⟨(by rw [e]), trivial⟩
  · by_cases h2 : h > 4
    · have e : decide (badH h) = true := decide_eq_true (.inr h2)
      refine Ret.of_fn Try.func55 (by kernel_rfl) 9 (by kernel_rfl) (by kernel_rfl) ?_
      skip
      refine AWP.regsK 2 [{  }, { hs := [(3, { g := false }), (4, { g := false }), (5, { b := false })] }] (by kernel_rfl) (s' := AS.mk [(2, ao (decide (h > (4 : Int)))), (8, ao (decide (h > (4 : Int)))), (7, ao (decide (h > (4 : Int)))), (6, ai h), (5, ao (decide (h < (0 : Int)))), (4, ao (decide (h < (0 : Int)))), (3, ai h), (0, ai h)] []) (C := [decide (h < (0 : Int)) = false, decide (h < (0 : Int)) = false, decide (h < (0 : Int)) = false]) (by kernel_rfl) ⟨(decide_eq_false (by omega)), (decide_eq_false (by omega)), (decide_eq_false (by omega)), trivial⟩ ?_
      refine AWP.ret (by kernel_rfl) ?_
      refine Done.ret_ (C := [Value.bool (decide (h > (4 : Int))) = Value.bool (decide (badH h))]) (by kernel_rfl) ⟨(by rw [e, decide_eq_true h2]), trivial⟩
    · have e : decide (badH h) = false := decide_eq_false (by rintro (h | h) <;> omega)
      refine Ret.of_fn Try.func55 (by kernel_rfl) 9 (by kernel_rfl) (by kernel_rfl) ?_
      skip
      refine AWP.regsK 2 [{  }, { hs := [(3, { g := false }), (4, { g := false }), (5, { b := false })] }] (by kernel_rfl) (s' := AS.mk [(2, ao (decide (h > (4 : Int)))), (8, ao (decide (h > (4 : Int)))), (7, ao (decide (h > (4 : Int)))), (6, ai h), (5, ao (decide (h < (0 : Int)))), (4, ao (decide (h < (0 : Int)))), (3, ai h), (0, ai h)] []) (C := [decide (h < (0 : Int)) = false, decide (h < (0 : Int)) = false, decide (h < (0 : Int)) = false]) (by kernel_rfl) ⟨(decide_eq_false (by omega)), (decide_eq_false (by omega)), (decide_eq_false (by omega)), trivial⟩ ?_
      refine AWP.ret (by kernel_rfl) ?_
      refine Done.ret_ (C := [Value.bool (decide (h > (4 : Int))) = Value.bool (decide (badH h))]) (by kernel_rfl) ⟨(by rw [e, decide_eq_false h2]), trivial⟩
theorem refheight_ret (h : Int) : Ret Try.prog 57 [ai h] (ao (!decide (badH h))) := by
  by_cases h1 : h < 0
  · have e : decide (badH h) = true := decide_eq_true (.inl h1)
    refine Ret.of_fn Try.func57 (by kernel_rfl) 9 (by kernel_rfl) (by kernel_rfl) ?_
    skip
    refine AWP.regsK 2 [{  }, { hs := [(3, { g := false }), (4, { g := false }), (5, { b := false })] }] (by kernel_rfl) (s' := AS.mk [(2, ao false), (8, ao false), (7, AV.val (Value.tuple #[])), (6, AV.val (Value.tuple #[])), (5, ao (decide (h ≥ (0 : Int)))), (4, ao (decide (h ≥ (0 : Int)))), (3, ai h), (0, ai h)] []) (C := [decide (h ≥ (0 : Int)) = false, decide (h ≥ (0 : Int)) = false, decide (h ≥ (0 : Int)) = false]) (by kernel_rfl) ⟨(decide_eq_false (by omega)), (decide_eq_false (by omega)), (decide_eq_false (by omega)), trivial⟩ ?_
    refine AWP.ret (by kernel_rfl) ?_
    refine Done.ret_ (C := [Value.bool false = Value.bool !decide (badH h)]) (by kernel_rfl) ⟨(by rw [e]; rfl), trivial⟩
  · by_cases h2 : h > 4
    · have e : decide (badH h) = true := decide_eq_true (.inr h2)
      refine Ret.of_fn Try.func57 (by kernel_rfl) 9 (by kernel_rfl) (by kernel_rfl) ?_
      skip
      refine AWP.regsK 2 [{  }, {  }] (by kernel_rfl) (s' := AS.mk [(2, ao (decide (h ≤ (4 : Int)))), (8, ao (decide (h ≤ (4 : Int)))), (7, ao (decide (h ≤ (4 : Int)))), (6, ai h), (5, ao (decide (h ≥ (0 : Int)))), (4, ao (decide (h ≥ (0 : Int)))), (3, ai h), (0, ai h)] []) (C := [decide (h ≥ (0 : Int)) = true, decide (h ≥ (0 : Int)) = true, decide (h ≥ (0 : Int)) = true]) (by kernel_rfl) ⟨(decide_eq_true (by omega)), (decide_eq_true (by omega)), (decide_eq_true (by omega)), trivial⟩ ?_
      refine AWP.ret (by kernel_rfl) ?_
      refine Done.ret_ (C := [Value.bool (decide (h ≤ (4 : Int))) = Value.bool !decide (badH h)]) (by kernel_rfl) ⟨(by rw [e, decide_eq_false (by omega)]; rfl), trivial⟩
    · have e : decide (badH h) = false := decide_eq_false (by rintro (h | h) <;> omega)
      refine Ret.of_fn Try.func57 (by kernel_rfl) 9 (by kernel_rfl) (by kernel_rfl) ?_
      skip
      refine AWP.regsK 2 [{  }, {  }] (by kernel_rfl) (s' := AS.mk [(2, ao (decide (h ≤ (4 : Int)))), (8, ao (decide (h ≤ (4 : Int)))), (7, ao (decide (h ≤ (4 : Int)))), (6, ai h), (5, ao (decide (h ≥ (0 : Int)))), (4, ao (decide (h ≥ (0 : Int)))), (3, ai h), (0, ai h)] []) (C := [decide (h ≥ (0 : Int)) = true, decide (h ≥ (0 : Int)) = true, decide (h ≥ (0 : Int)) = true]) (by kernel_rfl) ⟨(decide_eq_true (by omega)), (decide_eq_true (by omega)), (decide_eq_true (by omega)), trivial⟩ ?_
      refine AWP.ret (by kernel_rfl) ?_
      refine Done.ret_ (C := [Value.bool (decide (h ≤ (4 : Int))) = Value.bool !decide (badH h)]) (by kernel_rfl) ⟨(by rw [e, decide_eq_true (by omega)]; rfl), trivial⟩
/-- The bytes of a key. -/
def keyE (h : Int) : Int := if badH h then 9 else 0
def keyD (h : Int) (r : UInt64) : List UInt8 := if badH h then [] else u8 h :: words [r]
theorem encodekey_ret (h : Int) (r : UInt64) : Ret Try.prog 39 [.agg [ai h, aw r]] (.tup [.own 1 (bytesA (keyD h r)), ai (keyE h)]) := by
  have hw : (words [r]).length = 8 := by rw [words_len]; rfl
  by_cases h1 : badH h
  · have e : keyE h = 9 := by rw [keyE, if_pos h1]
    have ed : keyD h r = [] := by rw [keyD, if_pos h1]
    refine Ret.of_fn Try.func39 (by kernel_rfl) 16 (by kernel_rfl) (by kernel_rfl) ?_
    skip
    refine AWP.regsK 1 [{  }] (by kernel_rfl) (s' := AS.mk [(3, ai (0 : Int)), (2, AV.nil), (1, AV.addr (1 : Nat) (0 : Nat)), (0, AV.agg [ai h, aw r])] [(1, Row.mk (1 : Nat) false true [ai h, aw r])]) (C := []) (by kernel_rfl) trivial ?_
    refine AWP.seq (by kernel_rfl) ?_
    refine AWP.regsK 1 [{ hs := [(2, { av := some (ao (decide (badH h))) })] }] (by kernel_rfl) (s' := AS.mk [(6, ao (decide (badH h))), (5, ai h), (4, AV.addr (1 : Nat) (0 : Nat)), (3, ai (0 : Int)), (2, AV.nil), (1, AV.addr (1 : Nat) (0 : Nat)), (0, AV.agg [ai h, aw r])] [(1, Row.mk (1 : Nat) false true [ai h, aw r])]) (C := [Ret Try.prog (55 : Nat) [ai h] (ao (decide (badH h)))]) (by kernel_rfl) ⟨(high_ret (h)), trivial⟩ ?_
    refine AWP.condT (x := Operand.tmp (6 : Nat)) (b := decide (badH h)) (by kernel_rfl) (by kernel_rfl) (decide_eq_true (by omega)) ?_
    refine AWP.regsK 1 [{  }] (by kernel_rfl) (s' := AS.mk [(3, ai (9 : Int)), (2, AV.nil), (6, ao (decide (badH h))), (5, ai h), (4, AV.addr (1 : Nat) (0 : Nat)), (1, AV.addr (1 : Nat) (0 : Nat)), (0, AV.agg [ai h, aw r])] [(1, Row.mk (1 : Nat) false true [ai h, aw r])]) (C := []) (by kernel_rfl) trivial ?_
    refine AWP.ret (by kernel_rfl) ?_
    skip
    refine then_r ?_
    refine Done.ret_ (C := [bytesA (keyD h r) = [], Value.int IntKind.i64 (9 : Int) = Value.int IntKind.i64 (keyE h)]) (by kernel_rfl) ⟨(by rw [ed]; rfl), (by rw [e]), trivial⟩
  · have e : keyE h = 0 := by rw [keyE, if_neg h1]
    have ed : keyD h r = u8 h :: words [r] := by rw [keyD, if_neg h1]
    refine Ret.of_fn Try.func39 (by kernel_rfl) 16 (by kernel_rfl) (by kernel_rfl) ?_
    skip
    refine AWP.regsK 1 [{  }] (by kernel_rfl) (s' := AS.mk [(3, ai (0 : Int)), (2, AV.nil), (1, AV.addr (1 : Nat) (0 : Nat)), (0, AV.agg [ai h, aw r])] [(1, Row.mk (1 : Nat) false true [ai h, aw r])]) (C := []) (by kernel_rfl) trivial ?_
    refine AWP.seq (by kernel_rfl) ?_
    refine AWP.regsK 1 [{ hs := [(2, { av := some (ao (decide (badH h))) })] }] (by kernel_rfl) (s' := AS.mk [(6, ao (decide (badH h))), (5, ai h), (4, AV.addr (1 : Nat) (0 : Nat)), (3, ai (0 : Int)), (2, AV.nil), (1, AV.addr (1 : Nat) (0 : Nat)), (0, AV.agg [ai h, aw r])] [(1, Row.mk (1 : Nat) false true [ai h, aw r])]) (C := [Ret Try.prog (55 : Nat) [ai h] (ao (decide (badH h)))]) (by kernel_rfl) ⟨(high_ret (h)), trivial⟩ ?_
    refine AWP.condF (x := Operand.tmp (6 : Nat)) (b := decide (badH h)) (by kernel_rfl) (by kernel_rfl) (decide_eq_false (by omega)) ?_
    refine AWP.skip (by kernel_rfl) ?_
    skip
    refine then_n ?_
    refine AWP.seq (by kernel_rfl) ?_
    refine AWP.regO 8 [3] [(2, { av := some (ab (u8 h)) }), (3, { av := some (AV.arr (bytesA [u8 h])) }), (6, { av := some (AV.arr (wordsA [r])) }), (7, { av := some (AV.own (1 : Nat) (bytesA (words [r]))) }), (8, { av := some (AV.arr (bytesA ([u8 h] ++ words [r]))) })] (s' := AS.mk [(3, ai (0 : Int)), (2, AV.ref (15 : Nat)), (15, AV.ref (15 : Nat)), (10, AV.dead), (7, AV.addr (1 : Nat) (0 : Nat)), (8, ai h), (9, ab (u8 h)), (10, AV.dead), (11, AV.addr (1 : Nat) (1 : Nat)), (12, aw r), (13, AV.sl (1 : Nat) (wordsA [r])), (14, AV.sl (1 : Nat) (bytesA (words [r]))), (6, ao (decide (badH h))), (5, ai h), (4, AV.addr (1 : Nat) (0 : Nat)), (1, AV.addr (1 : Nat) (0 : Nat)), (0, AV.agg [ai h, aw r])] [(15, Row.mk (1 : Nat) true false (bytesA ([u8 h] ++ words [r]))), (1, Row.mk (1 : Nat) false true [ai h, aw r])]) (C := [AV.val (Value.int IntKind.u8 (IntKind.u8.wrap h)) = ab (u8 h), [ab (u8 h)] = bytesA [u8 h], valR (bytesA [u8 h]), [aw r] = wordsA [r], Ret Try.prog (37 : Nat) [AV.sl (1 : Nat) (wordsA [r])] (AV.own (1 : Nat) (bytesA (words [r]))), valR (bytesA (words [r])), bytesA [u8 h] ++ bytesA (words [r]) = bytesA ([u8 h] ++ words [r]), ((bytesA [u8 h]).length + (bytesA (words [r])).length) * (1 : Nat) ≤ (140737488355328 : Nat)]) (by kernel_rfl) ⟨(avb_conv (h)), rfl, (valR_bytes _), rfl, (words_ret ([r]) (by simp only [List.length_cons, List.length_nil]; omega)), (valR_bytes _), (bytesA_app _ _), (by simp only [bytesA_len, List.length_cons, List.length_nil]; omega), trivial⟩ ?_
    refine then_n ?_
    refine AWP.wk [.keep [3, 2, 6, 1, 0] [15, 1]] (s' := AS.mk [(3, ai (0 : Int)), (2, AV.ref (15 : Nat)), (6, ao (decide (badH h))), (1, AV.addr (1 : Nat) (0 : Nat)), (0, AV.agg [ai h, aw r])] [(15, Row.mk (1 : Nat) true false (bytesA ([u8 h] ++ words [r]))), (1, Row.mk (1 : Nat) false true [ai h, aw r])]) (by kernel_rfl) ?_
    refine AWP.ret (by kernel_rfl) ?_
    refine Done.ret_ (C := [bytesA ([u8 h] ++ words [r]) = bytesA (keyD h r), Value.int IntKind.i64 (0 : Int) = Value.int IntKind.i64 (keyE h)]) (by kernel_rfl) ⟨(by rw [ed]; rfl), (by rw [e]), trivial⟩
theorem refencodekey_ret (h : Int) (r : UInt64) : Ret Try.prog 42 [.agg [ai h, aw r]] (.tup [.own 1 (bytesA (keyD h r)), ai (keyE h)]) := by
  have hw : (words [r]).length = 8 := by rw [words_len]; rfl
  by_cases h1 : badH h
  · have e : keyE h = 9 := by rw [keyE, if_pos h1]
    have ed : keyD h r = [] := by rw [keyD, if_pos h1]
    refine Ret.of_fn Try.func42 (by kernel_rfl) 17 (by kernel_rfl) (by kernel_rfl) ?_
    skip
    refine AWP.regsK 1 [{  }] (by kernel_rfl) (s' := AS.mk [(3, ai (0 : Int)), (2, AV.nil), (1, AV.addr (1 : Nat) (0 : Nat)), (0, AV.agg [ai h, aw r])] [(1, Row.mk (1 : Nat) false true [ai h, aw r])]) (C := []) (by kernel_rfl) trivial ?_
    refine AWP.seq (by kernel_rfl) ?_
    refine AWP.regsK 1 [{ hs := [(2, { av := some (ao (!decide (badH h))) })] }] (by kernel_rfl) (s' := AS.mk [(7, ao (!!decide (badH h))), (6, ao (!decide (badH h))), (5, ai h), (4, AV.addr (1 : Nat) (0 : Nat)), (3, ai (0 : Int)), (2, AV.nil), (1, AV.addr (1 : Nat) (0 : Nat)), (0, AV.agg [ai h, aw r])] [(1, Row.mk (1 : Nat) false true [ai h, aw r])]) (C := [Ret Try.prog (57 : Nat) [ai h] (ao (!decide (badH h)))]) (by kernel_rfl) ⟨(refheight_ret (h)), trivial⟩ ?_
    refine AWP.condT (x := Operand.tmp (7 : Nat)) (b := !!decide (badH h)) (by kernel_rfl) (by kernel_rfl) (by simp_all; done) ?_
    refine AWP.regsK 1 [{  }] (by kernel_rfl) (s' := AS.mk [(3, ai (9 : Int)), (2, AV.nil), (7, ao (!!decide (badH h))), (6, ao (!decide (badH h))), (5, ai h), (4, AV.addr (1 : Nat) (0 : Nat)), (1, AV.addr (1 : Nat) (0 : Nat)), (0, AV.agg [ai h, aw r])] [(1, Row.mk (1 : Nat) false true [ai h, aw r])]) (C := []) (by kernel_rfl) trivial ?_
    refine AWP.ret (by kernel_rfl) ?_
    skip
    refine then_r ?_
    refine Done.ret_ (C := [bytesA (keyD h r) = [], Value.int IntKind.i64 (9 : Int) = Value.int IntKind.i64 (keyE h)]) (by kernel_rfl) ⟨(by rw [ed]; rfl), (by rw [e]), trivial⟩
  · have e : keyE h = 0 := by rw [keyE, if_neg h1]
    have ed : keyD h r = u8 h :: words [r] := by rw [keyD, if_neg h1]
    refine Ret.of_fn Try.func42 (by kernel_rfl) 17 (by kernel_rfl) (by kernel_rfl) ?_
    skip
    refine AWP.regsK 1 [{  }] (by kernel_rfl) (s' := AS.mk [(3, ai (0 : Int)), (2, AV.nil), (1, AV.addr (1 : Nat) (0 : Nat)), (0, AV.agg [ai h, aw r])] [(1, Row.mk (1 : Nat) false true [ai h, aw r])]) (C := []) (by kernel_rfl) trivial ?_
    refine AWP.seq (by kernel_rfl) ?_
    refine AWP.regsK 1 [{ hs := [(2, { av := some (ao (!decide (badH h))) })] }] (by kernel_rfl) (s' := AS.mk [(7, ao (!!decide (badH h))), (6, ao (!decide (badH h))), (5, ai h), (4, AV.addr (1 : Nat) (0 : Nat)), (3, ai (0 : Int)), (2, AV.nil), (1, AV.addr (1 : Nat) (0 : Nat)), (0, AV.agg [ai h, aw r])] [(1, Row.mk (1 : Nat) false true [ai h, aw r])]) (C := [Ret Try.prog (57 : Nat) [ai h] (ao (!decide (badH h)))]) (by kernel_rfl) ⟨(refheight_ret (h)), trivial⟩ ?_
    refine AWP.condF (x := Operand.tmp (7 : Nat)) (b := !!decide (badH h)) (by kernel_rfl) (by kernel_rfl) (by simp_all; done) ?_
    refine AWP.skip (by kernel_rfl) ?_
    skip
    refine then_n ?_
    refine AWP.seq (by kernel_rfl) ?_
    refine AWP.regO 8 [3] [(2, { av := some (ab (u8 h)) }), (3, { av := some (AV.arr (bytesA [u8 h])) }), (6, { av := some (AV.arr (wordsA [r])) }), (7, { av := some (AV.own (1 : Nat) (bytesA (words [r]))) }), (8, { av := some (AV.arr (bytesA ([u8 h] ++ words [r]))) })] (s' := AS.mk [(3, ai (0 : Int)), (2, AV.ref (16 : Nat)), (16, AV.ref (16 : Nat)), (11, AV.dead), (8, AV.addr (1 : Nat) (0 : Nat)), (9, ai h), (10, ab (u8 h)), (11, AV.dead), (12, AV.addr (1 : Nat) (1 : Nat)), (13, aw r), (14, AV.sl (1 : Nat) (wordsA [r])), (15, AV.sl (1 : Nat) (bytesA (words [r]))), (7, ao (!!decide (badH h))), (6, ao (!decide (badH h))), (5, ai h), (4, AV.addr (1 : Nat) (0 : Nat)), (1, AV.addr (1 : Nat) (0 : Nat)), (0, AV.agg [ai h, aw r])] [(16, Row.mk (1 : Nat) true false (bytesA ([u8 h] ++ words [r]))), (1, Row.mk (1 : Nat) false true [ai h, aw r])]) (C := [AV.val (Value.int IntKind.u8 (IntKind.u8.wrap h)) = ab (u8 h), [ab (u8 h)] = bytesA [u8 h], valR (bytesA [u8 h]), [aw r] = wordsA [r], Ret Try.prog (41 : Nat) [AV.sl (1 : Nat) (wordsA [r])] (AV.own (1 : Nat) (bytesA (words [r]))), valR (bytesA (words [r])), bytesA [u8 h] ++ bytesA (words [r]) = bytesA ([u8 h] ++ words [r]), ((bytesA [u8 h]).length + (bytesA (words [r])).length) * (1 : Nat) ≤ (140737488355328 : Nat)]) (by kernel_rfl) ⟨(avb_conv (h)), rfl, (valR_bytes _), rfl, (refwords_ret ([r]) (by simp only [List.length_cons, List.length_nil]; omega)), (valR_bytes _), (bytesA_app _ _), (by simp only [bytesA_len, List.length_cons, List.length_nil]; omega), trivial⟩ ?_
    refine then_n ?_
    refine AWP.wk [.keep [3, 2, 7, 1, 0] [16, 1]] (s' := AS.mk [(3, ai (0 : Int)), (2, AV.ref (16 : Nat)), (7, ao (!!decide (badH h))), (1, AV.addr (1 : Nat) (0 : Nat)), (0, AV.agg [ai h, aw r])] [(16, Row.mk (1 : Nat) true false (bytesA ([u8 h] ++ words [r]))), (1, Row.mk (1 : Nat) false true [ai h, aw r])]) (by kernel_rfl) ?_
    refine AWP.ret (by kernel_rfl) ?_
    refine Done.ret_ (C := [bytesA ([u8 h] ++ words [r]) = bytesA (keyD h r), Value.int IntKind.i64 (0 : Int) = Value.int IntKind.i64 (keyE h)]) (by kernel_rfl) ⟨(by rw [ed]; rfl), (by rw [e]), trivial⟩
end Go.Proofs.Ytmmnkloadooobaa
