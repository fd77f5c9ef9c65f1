/-
  The law of the verdict about any signature. No condition.
-/
import Derived.Test.YtjmmhpiadafahaaTkA
import Derived.Test.YtjmmhpiadafahaaTkR
namespace Go.Proofs.Ytjmmhpiadafahaa
open Go.RowKit
set_option maxRecDepth 100000
set_option maxHeartbeats 4000000
set_option linter.unusedVariables false
--@au0

theorem treekeyRaw_raw (h : Int) (r : UInt64) (m : UInt64) (leaf : Int) (C P : List UInt64) : Ret Try.prog 6 [.agg [ai h, aw r], aw m, .agg [ai leaf, .sl 1 (wordsA C), .sl 1 (wordsA P)]] (ao true) := by
  by_cases hC : C.length > 40
  · refine Ret.of_fn Try.func6 (by kernel_rfl) 30 (by kernel_rfl) (by kernel_rfl) ?_
    refine AWP.regsK 1 [{  }] (by kernel_rfl) (s' := AS.mk [(6, ao false), (5, AV.addr 5 0), (3, AV.addr 3 0), (0, AV.agg [ai h, aw r]), (1, aw m), (2, AV.agg [ai leaf, AV.sl 1 (wordsA C), AV.sl 1 (wordsA P)])] [(5, Row.mk 1 false true [ai leaf, AV.sl 1 (wordsA C), AV.sl 1 (wordsA P)]), (3, Row.mk 1 false true [ai h, aw r])]) (C := []) (by kernel_rfl) trivial ?_
    refine AWP.seq (by kernel_rfl) ?_
    refine AWP.regsP 1 [{ hs := [(2, { k := C.length })] }] [.keep [16, 6, 5, 3, 0, 1, 2] [5, 3]] (by kernel_rfl) (s' := AS.mk [(16, ao true), (6, ao false), (5, AV.addr 5 0), (3, AV.addr 3 0), (0, AV.agg [ai h, aw r]), (1, aw m), (2, AV.agg [ai leaf, AV.sl 1 (wordsA C), AV.sl 1 (wordsA P)])] [(5, Row.mk 1 false true [ai leaf, AV.sl 1 (wordsA C), AV.sl 1 (wordsA P)]), (3, Row.mk 1 false true [ai h, aw r])]) (C := [(wordsA C).length = C.length, decide ((↑C.length : Int) > (40 : Int)) = true, decide ((↑C.length : Int) > (40 : Int)) = true, decide ((↑C.length : Int) > (40 : Int)) = true, decide ((↑C.length : Int) > (40 : Int)) = true, decide ((↑C.length : Int) > (40 : Int)) = true]) (by kernel_rfl) ⟨(wordsA_len _), (decide_eq_true (by omega)), (decide_eq_true (by omega)), (decide_eq_true (by omega)), (decide_eq_true (by omega)), (decide_eq_true (by omega)), trivial⟩ ?_
    refine AWP.condT (x := .tmp 16) (b := true) (by kernel_rfl) (by kernel_rfl) rfl ?_
    refine AWP.regsK 1 [{ hs := [(0, { av := some (ao true) })] }] (by kernel_rfl) (s' := AS.mk [(6, ao true), (17, ao true), (16, ao true), (5, AV.addr 5 0), (3, AV.addr 3 0), (0, AV.agg [ai h, aw r]), (1, aw m), (2, AV.agg [ai leaf, AV.sl 1 (wordsA C), AV.sl 1 (wordsA P)])] [(5, Row.mk 1 false true [ai leaf, AV.sl 1 (wordsA C), AV.sl 1 (wordsA P)]), (3, Row.mk 1 false true [ai h, aw r])]) (C := [Ret Try.prog (12 : Nat) [] (ao true)]) (by kernel_rfl) ⟨(awake4_ret), trivial⟩ ?_
    refine AWP.ret (by kernel_rfl) ?_
    refine then_r ?_
    refine Done.ret_ (C := [Value.bool true = Value.bool true]) (by kernel_rfl) ⟨rfl, trivial⟩
  by_cases hP : P.length > 20
  · refine Ret.of_fn Try.func6 (by kernel_rfl) 30 (by kernel_rfl) (by kernel_rfl) ?_
    refine AWP.regsK 1 [{  }] (by kernel_rfl) (s' := AS.mk [(6, ao false), (5, AV.addr 5 0), (3, AV.addr 3 0), (0, AV.agg [ai h, aw r]), (1, aw m), (2, AV.agg [ai leaf, AV.sl 1 (wordsA C), AV.sl 1 (wordsA P)])] [(5, Row.mk 1 false true [ai leaf, AV.sl 1 (wordsA C), AV.sl 1 (wordsA P)]), (3, Row.mk 1 false true [ai h, aw r])]) (C := []) (by kernel_rfl) trivial ?_
    refine AWP.seq (by kernel_rfl) ?_
    refine AWP.regsP 1 [{ hs := [(2, { k := C.length }), (5, { g := false }), (6, { g := false }), (7, { k := P.length, g := false }), (8, { g := false }), (9, { b := false })] }] [.keep [16, 6, 5, 3, 0, 1, 2] [5, 3]] (by kernel_rfl) (s' := AS.mk [(16, ao (decide ((↑P.length : Int) > (20 : Int)))), (6, ao false), (5, AV.addr 5 0), (3, AV.addr 3 0), (0, AV.agg [ai h, aw r]), (1, aw m), (2, AV.agg [ai leaf, AV.sl 1 (wordsA C), AV.sl 1 (wordsA P)])] [(5, Row.mk 1 false true [ai leaf, AV.sl 1 (wordsA C), AV.sl 1 (wordsA P)]), (3, Row.mk 1 false true [ai h, aw r])]) (C := [(wordsA C).length = C.length, decide ((↑C.length : Int) > (40 : Int)) = false, decide ((↑C.length : Int) > (40 : Int)) = false, decide ((↑C.length : Int) > (40 : Int)) = false, (wordsA P).length = P.length, decide ((↑C.length : Int) > (40 : Int)) = false, decide ((↑C.length : Int) > (40 : Int)) = false]) (by kernel_rfl) ⟨(wordsA_len _), (decide_eq_false (by omega)), (decide_eq_false (by omega)), (decide_eq_false (by omega)), (wordsA_len _), (decide_eq_false (by omega)), (decide_eq_false (by omega)), trivial⟩ ?_
    refine AWP.condT (x := .tmp 16) (b := decide ((↑P.length : Int) > (20 : Int))) (by kernel_rfl) (by kernel_rfl) (decide_eq_true (by omega)) ?_
    refine AWP.regsK 1 [{ hs := [(0, { av := some (ao true) })] }] (by kernel_rfl) (s' := AS.mk [(6, ao true), (17, ao true), (16, ao (decide ((↑P.length : Int) > (20 : Int)))), (5, AV.addr 5 0), (3, AV.addr 3 0), (0, AV.agg [ai h, aw r]), (1, aw m), (2, AV.agg [ai leaf, AV.sl 1 (wordsA C), AV.sl 1 (wordsA P)])] [(5, Row.mk 1 false true [ai leaf, AV.sl 1 (wordsA C), AV.sl 1 (wordsA P)]), (3, Row.mk 1 false true [ai h, aw r])]) (C := [Ret Try.prog (12 : Nat) [] (ao true)]) (by kernel_rfl) ⟨(awake4_ret), trivial⟩ ?_
    refine AWP.ret (by kernel_rfl) ?_
    refine then_r ?_
    refine Done.ret_ (C := [Value.bool true = Value.bool true]) (by kernel_rfl) ⟨rfl, trivial⟩
  refine Ret.of_fn Try.func6 (by kernel_rfl) 30 (by kernel_rfl) (by kernel_rfl) ?_
  refine AWP.regsK 1 [{  }] (by kernel_rfl) (s' := AS.mk [(6, ao false), (5, AV.addr 5 0), (3, AV.addr 3 0), (0, AV.agg [ai h, aw r]), (1, aw m), (2, AV.agg [ai leaf, AV.sl 1 (wordsA C), AV.sl 1 (wordsA P)])] [(5, Row.mk 1 false true [ai leaf, AV.sl 1 (wordsA C), AV.sl 1 (wordsA P)]), (3, Row.mk 1 false true [ai h, aw r])]) (C := []) (by kernel_rfl) trivial ?_
  refine AWP.seq (by kernel_rfl) ?_
  refine AWP.regsP 1 [{ hs := [(2, { k := C.length }), (5, { g := false }), (6, { g := false }), (7, { k := P.length, g := false }), (8, { g := false }), (9, { b := false })] }] [.keep [16, 6, 5, 3, 0, 1, 2] [5, 3]] (by kernel_rfl) (s' := AS.mk [(16, ao (decide ((↑P.length : Int) > (20 : Int)))), (6, ao false), (5, AV.addr 5 0), (3, AV.addr 3 0), (0, AV.agg [ai h, aw r]), (1, aw m), (2, AV.agg [ai leaf, AV.sl 1 (wordsA C), AV.sl 1 (wordsA P)])] [(5, Row.mk 1 false true [ai leaf, AV.sl 1 (wordsA C), AV.sl 1 (wordsA P)]), (3, Row.mk 1 false true [ai h, aw r])]) (C := [(wordsA C).length = C.length, decide ((↑C.length : Int) > (40 : Int)) = false, decide ((↑C.length : Int) > (40 : Int)) = false, decide ((↑C.length : Int) > (40 : Int)) = false, (wordsA P).length = P.length, decide ((↑C.length : Int) > (40 : Int)) = false, decide ((↑C.length : Int) > (40 : Int)) = false]) (by kernel_rfl) ⟨(wordsA_len _), (decide_eq_false (by omega)), (decide_eq_false (by omega)), (decide_eq_false (by omega)), (wordsA_len _), (decide_eq_false (by omega)), (decide_eq_false (by omega)), trivial⟩ ?_
  refine AWP.condF (x := .tmp 16) (b := decide ((↑P.length : Int) > (20 : Int))) (by kernel_rfl) (by kernel_rfl) (decide_eq_false (by omega)) ?_
  refine AWP.skip (by kernel_rfl) ?_
  refine then_n ?_
  refine AWP.regsP 1 [{ hs := [(3, { av := some (ai (verE h r m leaf C P)) }), (7, { av := some (ai (verE h r m leaf C P)) }), (10, { av := some (ao true) })], T := 7 }] [.keep [6, 16, 5, 3, 0, 1, 2] [5, 3]] (by kernel_rfl) (s' := AS.mk [(6, ao true), (16, ao (decide ((↑P.length : Int) > (20 : Int)))), (5, AV.addr 5 0), (3, AV.addr 3 0), (0, AV.agg [ai h, aw r]), (1, aw m), (2, AV.agg [ai leaf, AV.sl 1 (wordsA C), AV.sl 1 (wordsA P)])] [(5, Row.mk 1 false true [ai leaf, AV.sl 1 (wordsA C), AV.sl 1 (wordsA P)]), (3, Row.mk 1 false true [ai h, aw r])]) (C := [Ret Try.prog (17 : Nat) [AV.agg [ai h, aw r], aw m, AV.agg [ai leaf, AV.sl 1 (wordsA C), AV.sl 1 (wordsA P)]] (ai (verE h r m leaf C P)), Ret Try.prog (18 : Nat) [AV.agg [ai h, aw r], aw m, AV.agg [ai leaf, AV.sl 1 (wordsA C), AV.sl 1 (wordsA P)]] (ai (verE h r m leaf C P)), (verE h r m leaf C P == verE h r m leaf C P) = true, Ret Try.prog (12 : Nat) [] (ao true), (verE h r m leaf C P == verE h r m leaf C P) = true]) (by kernel_rfl) ⟨(verify_ret (h) (r) (m) (leaf) (C) (P)), (refverify_ret (h) (r) (m) (leaf) (C) (P)), (decide_eq_true (by omega)), (awake4_ret), (decide_eq_true (by omega)), trivial⟩ ?_
  refine AWP.ret (by kernel_rfl) ?_
  refine Done.ret_ (C := [Value.bool true = Value.bool true]) (by kernel_rfl) ⟨rfl, trivial⟩
theorem treekeyRaw_law (k : Pk) (m : UInt64) (s : Sg) : Ret Try.prog 6 [.agg [ai k.h, aw k.r], aw m, .agg [ai s.l, .sl 1 (wordsA s.c), .sl 1 (wordsA s.p)]] (ao true) := treekeyRaw_raw k.h k.r m s.l s.c s.p
end Go.Proofs.Ytjmmhpiadafahaa
