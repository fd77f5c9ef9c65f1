/-
  The contracts of treekey's codes of keys, and of the reference's. No condition.
-/
import Derived.Test.YtjmmhpiadafahaaWd
import Derived.Test.YtjmmhpiadafahaaRH
namespace Go.Proofs.Ytjmmhpiadafahaa
open Go.RowKit
set_option maxRecDepth 100000
set_option maxHeartbeats 4000000
set_option linter.unusedVariables false

def badH (h : Int) : Prop := h < 0 ∨ 4 < h
instance (h : Int) : Decidable (badH h) := inferInstanceAs (Decidable (_ ∨ _))
theorem high_ret (h : Int) : Ret Try.prog 25 [ai h] (ao (decide (badH h))) := by
  by_cases h1 : h < 0
  · have e : decide (badH h) = true := decide_eq_true (.inl h1)
    refine Ret.of_fn Try.func25 (by kernel_rfl) 9 (by kernel_rfl) (by kernel_rfl) ?_
    refine AWP.regsP 2 [{  }, {  }] [.keep [2, 0] []] (by kernel_rfl) (s' := AS.mk [(2, ao true), (0, ai h)] []) (C := [decide (h < (0 : Int)) = true, decide (h < (0 : Int)) = true, decide (h < (0 : Int)) = true]) (by kernel_rfl) ⟨(decide_eq_true (by omega)), (decide_eq_true (by omega)), (decide_eq_true (by omega)), trivial⟩ ?_
    refine AWP.ret (by kernel_rfl) ?_
    refine Done.ret_ (C := [Value.bool true = Value.bool (decide (badH h))]) (by kernel_rfl) ⟨(by rw [e]), trivial⟩
  · by_cases h2 : h > 4
    · have e : decide (badH h) = true := decide_eq_true (.inr h2)
      refine Ret.of_fn Try.func25 (by kernel_rfl) 9 (by kernel_rfl) (by kernel_rfl) ?_
      refine AWP.regsP 2 [{  }, { hs := [(3, { g := false }), (4, { g := false }), (5, { b := false })] }] [.keep [2, 0] []] (by kernel_rfl) (s' := AS.mk [(2, ao (decide (h > (4 : Int)))), (0, ai h)] []) (C := [decide (h < (0 : Int)) = false, decide (h < (0 : Int)) = false, decide (h < (0 : Int)) = false]) (by kernel_rfl) ⟨(decide_eq_false (by omega)), (decide_eq_false (by omega)), (decide_eq_false (by omega)), trivial⟩ ?_
      refine AWP.ret (by kernel_rfl) ?_
      refine Done.ret_ (C := [Value.bool (decide (h > (4 : Int))) = Value.bool (decide (badH h))]) (by kernel_rfl) ⟨(by rw [e, decide_eq_true h2]), trivial⟩
    · have e : decide (badH h) = false := decide_eq_false (by rintro (h | h) <;> omega)
      refine Ret.of_fn Try.func25 (by kernel_rfl) 9 (by kernel_rfl) (by kernel_rfl) ?_
      refine AWP.regsP 2 [{  }, { hs := [(3, { g := false }), (4, { g := false }), (5, { b := false })] }] [.keep [2, 0] []] (by kernel_rfl) (s' := AS.mk [(2, ao (decide (h > (4 : Int)))), (0, ai h)] []) (C := [decide (h < (0 : Int)) = false, decide (h < (0 : Int)) = false, decide (h < (0 : Int)) = false]) (by kernel_rfl) ⟨(decide_eq_false (by omega)), (decide_eq_false (by omega)), (decide_eq_false (by omega)), trivial⟩ ?_
      refine AWP.ret (by kernel_rfl) ?_
      refine Done.ret_ (C := [Value.bool (decide (h > (4 : Int))) = Value.bool (decide (badH h))]) (by kernel_rfl) ⟨(by rw [e, decide_eq_false h2]), trivial⟩
theorem refheight_ret (h : Int) : Ret Try.prog 27 [ai h] (ao (!decide (badH h))) := by
  by_cases h1 : h < 0
  · have e : decide (badH h) = true := decide_eq_true (.inl h1)
    refine Ret.of_fn Try.func27 (by kernel_rfl) 9 (by kernel_rfl) (by kernel_rfl) ?_
    refine AWP.regsP 2 [{  }, { hs := [(3, { g := false }), (4, { g := false }), (5, { b := false })] }] [.keep [2, 0] []] (by kernel_rfl) (s' := AS.mk [(2, ao false), (0, ai h)] []) (C := [decide (h ≥ (0 : Int)) = false, decide (h ≥ (0 : Int)) = false, decide (h ≥ (0 : Int)) = false]) (by kernel_rfl) ⟨(decide_eq_false (by omega)), (decide_eq_false (by omega)), (decide_eq_false (by omega)), trivial⟩ ?_
    refine AWP.ret (by kernel_rfl) ?_
    refine Done.ret_ (C := [Value.bool false = Value.bool !decide (badH h)]) (by kernel_rfl) ⟨(by rw [e]; rfl), trivial⟩
  · by_cases h2 : h > 4
    · have e : decide (badH h) = true := decide_eq_true (.inr h2)
      refine Ret.of_fn Try.func27 (by kernel_rfl) 9 (by kernel_rfl) (by kernel_rfl) ?_
      refine AWP.regsP 2 [{  }, {  }] [.keep [2, 0] []] (by kernel_rfl) (s' := AS.mk [(2, ao (decide (h ≤ (4 : Int)))), (0, ai h)] []) (C := [decide (h ≥ (0 : Int)) = true, decide (h ≥ (0 : Int)) = true, decide (h ≥ (0 : Int)) = true]) (by kernel_rfl) ⟨(decide_eq_true (by omega)), (decide_eq_true (by omega)), (decide_eq_true (by omega)), trivial⟩ ?_
      refine AWP.ret (by kernel_rfl) ?_
      refine Done.ret_ (C := [Value.bool (decide (h ≤ (4 : Int))) = Value.bool !decide (badH h)]) (by kernel_rfl) ⟨(by rw [e, decide_eq_false (by omega)]; rfl), trivial⟩
    · have e : decide (badH h) = false := decide_eq_false (by rintro (h | h) <;> omega)
      refine Ret.of_fn Try.func27 (by kernel_rfl) 9 (by kernel_rfl) (by kernel_rfl) ?_
      refine AWP.regsP 2 [{  }, {  }] [.keep [2, 0] []] (by kernel_rfl) (s' := AS.mk [(2, ao (decide (h ≤ (4 : Int)))), (0, ai h)] []) (C := [decide (h ≥ (0 : Int)) = true, decide (h ≥ (0 : Int)) = true, decide (h ≥ (0 : Int)) = true]) (by kernel_rfl) ⟨(decide_eq_true (by omega)), (decide_eq_true (by omega)), (decide_eq_true (by omega)), trivial⟩ ?_
      refine AWP.ret (by kernel_rfl) ?_
      refine Done.ret_ (C := [Value.bool (decide (h ≤ (4 : Int))) = Value.bool !decide (badH h)]) (by kernel_rfl) ⟨(by rw [e, decide_eq_true (by omega)]; rfl), trivial⟩
/-- The bytes of a key. -/
def keyE (h : Int) : Int := if badH h then 9 else 0
def keyD (h : Int) (r : UInt64) : List UInt8 := if badH h then [] else u8 h :: words [r]
theorem encodekey_ret (h : Int) (r : UInt64) : Ret Try.prog 21 [.agg [ai h, aw r]] (.tup [.own 1 (bytesA (keyD h r)), ai (keyE h)]) := by
  have hw : (words [r]).length = 8 := by rw [words_len]; rfl
  by_cases h1 : badH h
  · have e : keyE h = 9 := by rw [keyE, if_pos h1]
    have ed : keyD h r = [] := by rw [keyD, if_pos h1]
    refine Ret.of_fn Try.func21 (by kernel_rfl) 16 (by kernel_rfl) (by kernel_rfl) ?_
    refine AWP.regsK 1 [{  }] (by kernel_rfl) (s' := AS.mk [(3, ai 0), (2, AV.nil), (1, AV.addr 1 0), (0, AV.agg [ai h, aw r])] [(1, Row.mk 1 false true [ai h, aw r])]) (C := []) (by kernel_rfl) trivial ?_
    refine AWP.seq (by kernel_rfl) ?_
    refine AWP.regsK 1 [{ hs := [(2, { av := some (ao (decide (badH h))) })] }] (by kernel_rfl) (s' := AS.mk [(6, ao (decide (badH h))), (5, ai h), (4, AV.addr 1 0), (3, ai 0), (2, AV.nil), (1, AV.addr 1 0), (0, AV.agg [ai h, aw r])] [(1, Row.mk 1 false true [ai h, aw r])]) (C := [Ret Try.prog (25 : Nat) [ai h] (ao (decide (badH h)))]) (by kernel_rfl) ⟨(high_ret (h)), trivial⟩ ?_
    refine AWP.condT (x := .tmp 6) (b := decide (badH h)) (by kernel_rfl) (by kernel_rfl) (decide_eq_true (by omega)) ?_
    refine AWP.regsK 1 [{  }] (by kernel_rfl) (s' := AS.mk [(3, ai 9), (2, AV.nil), (6, ao (decide (badH h))), (5, ai h), (4, AV.addr 1 0), (1, AV.addr 1 0), (0, AV.agg [ai h, aw r])] [(1, Row.mk 1 false true [ai h, aw r])]) (C := []) (by kernel_rfl) trivial ?_
    refine AWP.ret (by kernel_rfl) ?_
    refine then_r ?_
    refine Done.ret_ (C := [bytesA (keyD h r) = [], Value.int .i64 9 = Value.int .i64 (keyE h)]) (by kernel_rfl) ⟨(by rw [ed]; rfl), (by rw [e]), trivial⟩
  · have e : keyE h = 0 := by rw [keyE, if_neg h1]
    have ed : keyD h r = u8 h :: words [r] := by rw [keyD, if_neg h1]
    refine Ret.of_fn Try.func21 (by kernel_rfl) 16 (by kernel_rfl) (by kernel_rfl) ?_
    refine AWP.regsK 1 [{  }] (by kernel_rfl) (s' := AS.mk [(3, ai 0), (2, AV.nil), (1, AV.addr 1 0), (0, AV.agg [ai h, aw r])] [(1, Row.mk 1 false true [ai h, aw r])]) (C := []) (by kernel_rfl) trivial ?_
    refine AWP.seq (by kernel_rfl) ?_
    refine AWP.regsK 1 [{ hs := [(2, { av := some (ao (decide (badH h))) })] }] (by kernel_rfl) (s' := AS.mk [(6, ao (decide (badH h))), (5, ai h), (4, AV.addr 1 0), (3, ai 0), (2, AV.nil), (1, AV.addr 1 0), (0, AV.agg [ai h, aw r])] [(1, Row.mk 1 false true [ai h, aw r])]) (C := [Ret Try.prog (25 : Nat) [ai h] (ao (decide (badH h)))]) (by kernel_rfl) ⟨(high_ret (h)), trivial⟩ ?_
    refine AWP.condF (x := .tmp 6) (b := decide (badH h)) (by kernel_rfl) (by kernel_rfl) (decide_eq_false (by omega)) ?_
    refine AWP.skip (by kernel_rfl) ?_
    refine then_n ?_
    refine AWP.seq (by kernel_rfl) ?_
    refine AWP.regO 8 [3] [(2, { av := some (ab (u8 h)) }), (3, { av := some (AV.arr (bytesA [u8 h])) }), (6, { av := some (AV.arr (wordsA [r])) }), (7, { av := some (AV.own 1 (bytesA (words [r]))) }), (8, { av := some (AV.arr (bytesA ([u8 h] ++ words [r]))) })] (s' := AS.mk [(3, ai 0), (2, AV.ref 15), (15, AV.ref 15), (10, AV.dead), (7, AV.addr 1 0), (8, ai h), (9, ab (u8 h)), (10, AV.dead), (11, AV.addr 1 1), (12, aw r), (13, AV.sl 1 (wordsA [r])), (14, AV.sl 1 (bytesA (words [r]))), (6, ao (decide (badH h))), (5, ai h), (4, AV.addr 1 0), (1, AV.addr 1 0), (0, AV.agg [ai h, aw r])] [(15, Row.mk 1 true false (bytesA ([u8 h] ++ words [r]))), (1, Row.mk 1 false true [ai h, aw r])]) (C := [AV.val (Value.int .u8 (IntKind.u8.wrap h)) = ab (u8 h), [ab (u8 h)] = bytesA [u8 h], valR (bytesA [u8 h]), [aw r] = wordsA [r], Ret Try.prog (41 : Nat) [AV.sl 1 (wordsA [r])] (AV.own 1 (bytesA (words [r]))), valR (bytesA (words [r])), bytesA [u8 h] ++ bytesA (words [r]) = bytesA ([u8 h] ++ words [r]), ((bytesA [u8 h]).length + (bytesA (words [r])).length) * (1 : Nat) ≤ (140737488355328 : Nat)]) (by kernel_rfl) ⟨(avb_conv (h)), rfl, (valR_bytes _), rfl, (words_ret ([r]) (by simp only [List.length_cons, List.length_nil]; omega)), (valR_bytes _), (bytesA_app _ _), (by simp only [bytesA_len, List.length_cons, List.length_nil]; omega), trivial⟩ ?_
    refine then_n ?_
    refine AWP.wk [.keep [3, 2, 6, 1, 0] [15, 1]] (s' := AS.mk [(3, ai 0), (2, AV.ref 15), (6, ao (decide (badH h))), (1, AV.addr 1 0), (0, AV.agg [ai h, aw r])] [(15, Row.mk 1 true false (bytesA ([u8 h] ++ words [r]))), (1, Row.mk 1 false true [ai h, aw r])]) (by kernel_rfl) ?_
    refine AWP.ret (by kernel_rfl) ?_
    refine Done.ret_ (C := [bytesA ([u8 h] ++ words [r]) = bytesA (keyD h r), Value.int .i64 0 = Value.int .i64 (keyE h)]) (by kernel_rfl) ⟨(by rw [ed]; rfl), (by rw [e]), trivial⟩
theorem refencodekey_ret (h : Int) (r : UInt64) : Ret Try.prog 22 [.agg [ai h, aw r]] (.tup [.own 1 (bytesA (keyD h r)), ai (keyE h)]) := by
  have hw : (words [r]).length = 8 := by rw [words_len]; rfl
  by_cases h1 : badH h
  · have e : keyE h = 9 := by rw [keyE, if_pos h1]
    have ed : keyD h r = [] := by rw [keyD, if_pos h1]
    refine Ret.of_fn Try.func22 (by kernel_rfl) 17 (by kernel_rfl) (by kernel_rfl) ?_
    refine AWP.regsK 1 [{  }] (by kernel_rfl) (s' := AS.mk [(3, ai 0), (2, AV.nil), (1, AV.addr 1 0), (0, AV.agg [ai h, aw r])] [(1, Row.mk 1 false true [ai h, aw r])]) (C := []) (by kernel_rfl) trivial ?_
    refine AWP.seq (by kernel_rfl) ?_
    refine AWP.regsP 1 [{ hs := [(2, { av := some (ao (!decide (badH h))) })] }] [.keep [7, 3, 2, 1, 0] [1]] (by kernel_rfl) (s' := AS.mk [(7, ao (!!decide (badH h))), (3, ai 0), (2, AV.nil), (1, AV.addr 1 0), (0, AV.agg [ai h, aw r])] [(1, Row.mk 1 false true [ai h, aw r])]) (C := [Ret Try.prog (27 : Nat) [ai h] (ao (!decide (badH h)))]) (by kernel_rfl) ⟨(refheight_ret (h)), trivial⟩ ?_
    refine AWP.condT (x := .tmp 7) (b := !!decide (badH h)) (by kernel_rfl) (by kernel_rfl) (by simp_all) ?_
    refine AWP.regsK 1 [{  }] (by kernel_rfl) (s' := AS.mk [(3, ai 9), (2, AV.nil), (7, ao (!!decide (badH h))), (1, AV.addr 1 0), (0, AV.agg [ai h, aw r])] [(1, Row.mk 1 false true [ai h, aw r])]) (C := []) (by kernel_rfl) trivial ?_
    refine AWP.ret (by kernel_rfl) ?_
    refine then_r ?_
    refine Done.ret_ (C := [bytesA (keyD h r) = [], Value.int .i64 9 = Value.int .i64 (keyE h)]) (by kernel_rfl) ⟨(by rw [ed]; rfl), (by rw [e]), trivial⟩
  · have e : keyE h = 0 := by rw [keyE, if_neg h1]
    have ed : keyD h r = u8 h :: words [r] := by rw [keyD, if_neg h1]
    refine Ret.of_fn Try.func22 (by kernel_rfl) 17 (by kernel_rfl) (by kernel_rfl) ?_
    refine AWP.regsK 1 [{  }] (by kernel_rfl) (s' := AS.mk [(3, ai 0), (2, AV.nil), (1, AV.addr 1 0), (0, AV.agg [ai h, aw r])] [(1, Row.mk 1 false true [ai h, aw r])]) (C := []) (by kernel_rfl) trivial ?_
    refine AWP.seq (by kernel_rfl) ?_
    refine AWP.regsP 1 [{ hs := [(2, { av := some (ao (!decide (badH h))) })] }] [.keep [7, 3, 2, 1, 0] [1]] (by kernel_rfl) (s' := AS.mk [(7, ao (!!decide (badH h))), (3, ai 0), (2, AV.nil), (1, AV.addr 1 0), (0, AV.agg [ai h, aw r])] [(1, Row.mk 1 false true [ai h, aw r])]) (C := [Ret Try.prog (27 : Nat) [ai h] (ao (!decide (badH h)))]) (by kernel_rfl) ⟨(refheight_ret (h)), trivial⟩ ?_
    refine AWP.condF (x := .tmp 7) (b := !!decide (badH h)) (by kernel_rfl) (by kernel_rfl) (by simp_all) ?_
    refine AWP.skip (by kernel_rfl) ?_
    refine then_n ?_
    refine AWP.seq (by kernel_rfl) ?_
    refine AWP.regO 8 [3] [(2, { av := some (ab (u8 h)) }), (3, { av := some (AV.arr (bytesA [u8 h])) }), (6, { av := some (AV.arr (wordsA [r])) }), (7, { av := some (AV.own 1 (bytesA (words [r]))) }), (8, { av := some (AV.arr (bytesA ([u8 h] ++ words [r]))) })] (s' := AS.mk [(3, ai 0), (2, AV.ref 16), (16, AV.ref 16), (11, AV.dead), (8, AV.addr 1 0), (9, ai h), (10, ab (u8 h)), (11, AV.dead), (12, AV.addr 1 1), (13, aw r), (14, AV.sl 1 (wordsA [r])), (15, AV.sl 1 (bytesA (words [r]))), (7, ao (!!decide (badH h))), (1, AV.addr 1 0), (0, AV.agg [ai h, aw r])] [(16, Row.mk 1 true false (bytesA ([u8 h] ++ words [r]))), (1, Row.mk 1 false true [ai h, aw r])]) (C := [AV.val (Value.int .u8 (IntKind.u8.wrap h)) = ab (u8 h), [ab (u8 h)] = bytesA [u8 h], valR (bytesA [u8 h]), [aw r] = wordsA [r], Ret Try.prog (42 : Nat) [AV.sl 1 (wordsA [r])] (AV.own 1 (bytesA (words [r]))), valR (bytesA (words [r])), bytesA [u8 h] ++ bytesA (words [r]) = bytesA ([u8 h] ++ words [r]), ((bytesA [u8 h]).length + (bytesA (words [r])).length) * (1 : Nat) ≤ (140737488355328 : Nat)]) (by kernel_rfl) ⟨(avb_conv (h)), rfl, (valR_bytes _), rfl, (refwords_ret ([r]) (by simp only [List.length_cons, List.length_nil]; omega)), (valR_bytes _), (bytesA_app _ _), (by simp only [bytesA_len, List.length_cons, List.length_nil]; omega), trivial⟩ ?_
    refine then_n ?_
    refine AWP.wk [.keep [3, 2, 7, 1, 0] [16, 1]] (s' := AS.mk [(3, ai 0), (2, AV.ref 16), (7, ao (!!decide (badH h))), (1, AV.addr 1 0), (0, AV.agg [ai h, aw r])] [(16, Row.mk 1 true false (bytesA ([u8 h] ++ words [r]))), (1, Row.mk 1 false true [ai h, aw r])]) (by kernel_rfl) ?_
    refine AWP.ret (by kernel_rfl) ?_
    refine Done.ret_ (C := [bytesA ([u8 h] ++ words [r]) = bytesA (keyD h r), Value.int .i64 0 = Value.int .i64 (keyE h)]) (by kernel_rfl) ⟨(by rw [ed]; rfl), (by rw [e]), trivial⟩
end Go.Proofs.Ytjmmhpiadafahaa
