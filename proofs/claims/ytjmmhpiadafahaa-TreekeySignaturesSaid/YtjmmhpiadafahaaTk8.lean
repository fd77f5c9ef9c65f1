/-
  The contracts of the bytes of signatures. No condition.
-/
import Derived.Test.YtjmmhpiadafahaaTk7
namespace Go.Proofs.Ytjmmhpiadafahaa
open Go.RowKit
set_option maxRecDepth 100000
set_option maxHeartbeats 4000000
set_option linter.unusedVariables false
--@au0

/-- The bytes of a signature, or the error. -/
def esE (leaf : Int) (C P : List UInt64) : Int := if badL (P.length : Int) leaf then 9 else if C.length ≠ 18 then 4 else 0
def esB (leaf : Int) (C P : List UInt64) : List UInt8 := if badL (P.length : Int) leaf ∨ C.length ≠ 18 then [] else [u8 leaf, u8 (P.length : Int)] ++ words C ++ words P
theorem encsig_ret (leaf : Int) (C P : List UInt64) : Ret Try.prog 29 [.agg [ai leaf, .sl 1 (wordsA C), .sl 1 (wordsA P)]] (.tup [.own 1 (bytesA (esB leaf C P)), ai (esE leaf C P)]) := by
  by_cases hbad : badL (P.length : Int) leaf
  · have e1 : esE leaf C P = 9 := if_pos hbad
    have e2 : esB leaf C P = [] := if_pos (.inl hbad)
    rw [e1, e2]
    unfold badL at hbad
    by_cases hb : badH (P.length : Int)
    · refine Ret.of_fn Try.func29 (by kernel_rfl) 37 (by kernel_rfl) (by kernel_rfl) ?_
      refine AWP.regsP 2 [{  }, { hs := [(2, { k := P.length })] }] [.keep [4, 3, 2, 1, 0] [1]] (by kernel_rfl) (s' := AS.mk [(4, ai (↑P.length : Int)), (3, ai 0), (2, AV.nil), (1, AV.addr 1 0), (0, AV.agg [ai leaf, AV.sl 1 (wordsA C), AV.sl 1 (wordsA P)])] [(1, Row.mk 1 false true [ai leaf, AV.sl 1 (wordsA C), AV.sl 1 (wordsA P)])]) (C := [(wordsA P).length = P.length]) (by kernel_rfl) ⟨(wordsA_len _), trivial⟩ ?_
      refine AWP.seq (by kernel_rfl) ?_
      refine AWP.regsP 1 [{ hs := [(1, { av := some (ao (decide (badH (↑P.length : Int)))) })] }] [.keep [16, 4, 3, 2, 1, 0] [1]] (by kernel_rfl) (s' := AS.mk [(16, ao true), (4, ai (↑P.length : Int)), (3, ai 0), (2, AV.nil), (1, AV.addr 1 0), (0, AV.agg [ai leaf, AV.sl 1 (wordsA C), AV.sl 1 (wordsA P)])] [(1, Row.mk 1 false true [ai leaf, AV.sl 1 (wordsA C), AV.sl 1 (wordsA P)])]) (C := [Ret Try.prog (25 : Nat) [ai (↑P.length : Int)] (ao (decide (badH (↑P.length : Int)))), decide (badH (↑P.length : Int)) = true, decide (badH (↑P.length : Int)) = true, decide (badH (↑P.length : Int)) = true, decide (badH (↑P.length : Int)) = true, decide (badH (↑P.length : Int)) = true]) (by kernel_rfl) ⟨(high_ret ((↑P.length : Int))), (decide_eq_true (by omega)), (decide_eq_true (by omega)), (decide_eq_true (by omega)), (decide_eq_true (by omega)), (decide_eq_true (by omega)), trivial⟩ ?_
      refine AWP.condT (x := .tmp 16) (b := true) (by kernel_rfl) (by kernel_rfl) rfl ?_
      refine AWP.regsK 1 [{  }] (by kernel_rfl) (s' := AS.mk [(3, ai 9), (2, AV.nil), (16, ao true), (4, ai (↑P.length : Int)), (1, AV.addr 1 0), (0, AV.agg [ai leaf, AV.sl 1 (wordsA C), AV.sl 1 (wordsA P)])] [(1, Row.mk 1 false true [ai leaf, AV.sl 1 (wordsA C), AV.sl 1 (wordsA P)])]) (C := []) (by kernel_rfl) trivial ?_
      refine AWP.ret (by kernel_rfl) ?_
      refine then_r ?_
      refine Done.ret_ (C := [bytesA [] = [], Value.int .i64 9 = Value.int .i64 9]) (by kernel_rfl) ⟨rfl, rfl, trivial⟩
    have hk : P.length ≤ 4 := by unfold badH at hb; omega
    rw [Int.toNat_natCast] at hbad
    have ho : leaf < 0 ∨ ((2 ^ P.length : Nat) : Int) ≤ leaf := hbad.resolve_left hb
    refine Ret.of_fn Try.func29 (by kernel_rfl) 37 (by kernel_rfl) (by kernel_rfl) ?_
    refine AWP.regsP 2 [{  }, { hs := [(2, { k := P.length })] }] [.keep [4, 3, 2, 1, 0] [1]] (by kernel_rfl) (s' := AS.mk [(4, ai (↑P.length : Int)), (3, ai 0), (2, AV.nil), (1, AV.addr 1 0), (0, AV.agg [ai leaf, AV.sl 1 (wordsA C), AV.sl 1 (wordsA P)])] [(1, Row.mk 1 false true [ai leaf, AV.sl 1 (wordsA C), AV.sl 1 (wordsA P)])]) (C := [(wordsA P).length = P.length]) (by kernel_rfl) ⟨(wordsA_len _), trivial⟩ ?_
    refine AWP.seq (by kernel_rfl) ?_
    refine AWP.regsP 1 [{ hs := [(1, { av := some (ao (decide (badH (↑P.length : Int)))) }), (3, { g := false }), (4, { g := false }), (5, { g := false }), (6, { av := some (ao (decide (leaf < (0 : Int) ∨ (↑((2 : Nat) ^ P.length) : Int) ≤ leaf))), g := false }), (7, { b := false })] }] [.keep [16, 4, 3, 2, 1, 0] [1]] (by kernel_rfl) (s' := AS.mk [(16, ao (decide (leaf < (0 : Int) ∨ (↑((2 : Nat) ^ P.length) : Int) ≤ leaf))), (4, ai (↑P.length : Int)), (3, ai 0), (2, AV.nil), (1, AV.addr 1 0), (0, AV.agg [ai leaf, AV.sl 1 (wordsA C), AV.sl 1 (wordsA P)])] [(1, Row.mk 1 false true [ai leaf, AV.sl 1 (wordsA C), AV.sl 1 (wordsA P)])]) (C := [Ret Try.prog (25 : Nat) [ai (↑P.length : Int)] (ao (decide (badH (↑P.length : Int)))), decide (badH (↑P.length : Int)) = false, decide (badH (↑P.length : Int)) = false, decide (badH (↑P.length : Int)) = false, decide (badH (↑P.length : Int)) = false, Ret Try.prog (30 : Nat) [ai leaf, ai (↑P.length : Int)] (ao (decide (leaf < (0 : Int) ∨ (↑((2 : Nat) ^ P.length) : Int) ≤ leaf))), decide (badH (↑P.length : Int)) = false]) (by kernel_rfl) ⟨(high_ret ((↑P.length : Int))), (decide_eq_false (by omega)), (decide_eq_false (by omega)), (decide_eq_false (by omega)), (decide_eq_false (by omega)), (outside_ret (leaf) (P.length) (by assumption)), (decide_eq_false (by omega)), trivial⟩ ?_
    refine AWP.condT (x := .tmp 16) (b := decide (leaf < (0 : Int) ∨ (↑((2 : Nat) ^ P.length) : Int) ≤ leaf)) (by kernel_rfl) (by kernel_rfl) (decide_eq_true (by omega)) ?_
    refine AWP.regsK 1 [{  }] (by kernel_rfl) (s' := AS.mk [(3, ai 9), (2, AV.nil), (16, ao (decide (leaf < (0 : Int) ∨ (↑((2 : Nat) ^ P.length) : Int) ≤ leaf))), (4, ai (↑P.length : Int)), (1, AV.addr 1 0), (0, AV.agg [ai leaf, AV.sl 1 (wordsA C), AV.sl 1 (wordsA P)])] [(1, Row.mk 1 false true [ai leaf, AV.sl 1 (wordsA C), AV.sl 1 (wordsA P)])]) (C := []) (by kernel_rfl) trivial ?_
    refine AWP.ret (by kernel_rfl) ?_
    refine then_r ?_
    refine Done.ret_ (C := [bytesA [] = [], Value.int .i64 9 = Value.int .i64 9]) (by kernel_rfl) ⟨rfl, rfl, trivial⟩
  have e1 : esE leaf C P = if C.length ≠ 18 then 4 else 0 := if_neg hbad
  have hbad' := hbad
  unfold badL badH at hbad
  rw [Int.toNat_natCast] at hbad
  have hk : P.length ≤ 4 := by omega
  have hb : ¬ badH (P.length : Int) := by unfold badH; omega
  have ho : ¬ (leaf < 0 ∨ ((2 ^ P.length : Nat) : Int) ≤ leaf) := by omega
  rw [e1]
  by_cases hC : C.length = 18
  case neg =>
    have e2 : esB leaf C P = [] := if_pos (.inr hC)
    rw [if_pos hC, e2]
    refine Ret.of_fn Try.func29 (by kernel_rfl) 37 (by kernel_rfl) (by kernel_rfl) ?_
    refine AWP.regsP 2 [{  }, { hs := [(2, { k := P.length })] }] [.keep [4, 3, 2, 1, 0] [1]] (by kernel_rfl) (s' := AS.mk [(4, ai (↑P.length : Int)), (3, ai 0), (2, AV.nil), (1, AV.addr 1 0), (0, AV.agg [ai leaf, AV.sl 1 (wordsA C), AV.sl 1 (wordsA P)])] [(1, Row.mk 1 false true [ai leaf, AV.sl 1 (wordsA C), AV.sl 1 (wordsA P)])]) (C := [(wordsA P).length = P.length]) (by kernel_rfl) ⟨(wordsA_len _), trivial⟩ ?_
    refine AWP.seq (by kernel_rfl) ?_
    refine AWP.regsP 1 [{ hs := [(1, { av := some (ao (decide (badH (↑P.length : Int)))) }), (3, { g := false }), (4, { g := false }), (5, { g := false }), (6, { av := some (ao (decide (leaf < (0 : Int) ∨ (↑((2 : Nat) ^ P.length) : Int) ≤ leaf))), g := false }), (7, { b := false })] }] [.keep [16, 4, 3, 2, 1, 0] [1]] (by kernel_rfl) (s' := AS.mk [(16, ao (decide (leaf < (0 : Int) ∨ (↑((2 : Nat) ^ P.length) : Int) ≤ leaf))), (4, ai (↑P.length : Int)), (3, ai 0), (2, AV.nil), (1, AV.addr 1 0), (0, AV.agg [ai leaf, AV.sl 1 (wordsA C), AV.sl 1 (wordsA P)])] [(1, Row.mk 1 false true [ai leaf, AV.sl 1 (wordsA C), AV.sl 1 (wordsA P)])]) (C := [Ret Try.prog (25 : Nat) [ai (↑P.length : Int)] (ao (decide (badH (↑P.length : Int)))), decide (badH (↑P.length : Int)) = false, decide (badH (↑P.length : Int)) = false, decide (badH (↑P.length : Int)) = false, decide (badH (↑P.length : Int)) = false, Ret Try.prog (30 : Nat) [ai leaf, ai (↑P.length : Int)] (ao (decide (leaf < (0 : Int) ∨ (↑((2 : Nat) ^ P.length) : Int) ≤ leaf))), decide (badH (↑P.length : Int)) = false]) (by kernel_rfl) ⟨(high_ret ((↑P.length : Int))), (decide_eq_false (by omega)), (decide_eq_false (by omega)), (decide_eq_false (by omega)), (decide_eq_false (by omega)), (outside_ret (leaf) (P.length) (by assumption)), (decide_eq_false (by omega)), trivial⟩ ?_
    refine AWP.condF (x := .tmp 16) (b := decide (leaf < (0 : Int) ∨ (↑((2 : Nat) ^ P.length) : Int) ≤ leaf)) (by kernel_rfl) (by kernel_rfl) (decide_eq_false (by omega)) ?_
    refine AWP.skip (by kernel_rfl) ?_
    refine then_n ?_
    refine AWP.seq (by kernel_rfl) ?_
    refine AWP.regsP 1 [{ hs := [(2, { k := C.length })] }] [.keep [20, 16, 4, 3, 2, 1, 0] [1]] (by kernel_rfl) (s' := AS.mk [(20, ao ((↑C.length : Int) != (18 : Int))), (16, ao (decide (leaf < (0 : Int) ∨ (↑((2 : Nat) ^ P.length) : Int) ≤ leaf))), (4, ai (↑P.length : Int)), (3, ai 0), (2, AV.nil), (1, AV.addr 1 0), (0, AV.agg [ai leaf, AV.sl 1 (wordsA C), AV.sl 1 (wordsA P)])] [(1, Row.mk 1 false true [ai leaf, AV.sl 1 (wordsA C), AV.sl 1 (wordsA P)])]) (C := [(wordsA C).length = C.length]) (by kernel_rfl) ⟨(wordsA_len _), trivial⟩ ?_
    refine AWP.condT (x := .tmp 20) (b := (↑C.length : Int) != (18 : Int)) (by kernel_rfl) (by kernel_rfl) (by simp; omega) ?_
    refine AWP.regsK 1 [{  }] (by kernel_rfl) (s' := AS.mk [(3, ai 4), (2, AV.nil), (20, ao ((↑C.length : Int) != (18 : Int))), (16, ao (decide (leaf < (0 : Int) ∨ (↑((2 : Nat) ^ P.length) : Int) ≤ leaf))), (4, ai (↑P.length : Int)), (1, AV.addr 1 0), (0, AV.agg [ai leaf, AV.sl 1 (wordsA C), AV.sl 1 (wordsA P)])] [(1, Row.mk 1 false true [ai leaf, AV.sl 1 (wordsA C), AV.sl 1 (wordsA P)])]) (C := []) (by kernel_rfl) trivial ?_
    refine AWP.ret (by kernel_rfl) ?_
    refine then_r ?_
    refine Done.ret_ (C := [bytesA [] = [], Value.int .i64 4 = Value.int .i64 4]) (by kernel_rfl) ⟨rfl, rfl, trivial⟩
  have e2 : esB leaf C P = [u8 leaf, u8 (P.length : Int)] ++ words C ++ words P := if_neg (by rintro (h | h); exact hbad' h; exact h hC)
  rw [if_neg (by omega), e2]
  have hw1 : (words C).length = 144 := by rw [words_len, hC]
  have hw2 : (words P).length = 8 * P.length := words_len P
  refine Ret.of_fn Try.func29 (by kernel_rfl) 37 (by kernel_rfl) (by kernel_rfl) ?_
  refine AWP.regsP 2 [{  }, { hs := [(2, { k := P.length })] }] [.keep [4, 3, 2, 1, 0] [1]] (by kernel_rfl) (s' := AS.mk [(4, ai (↑P.length : Int)), (3, ai 0), (2, AV.nil), (1, AV.addr 1 0), (0, AV.agg [ai leaf, AV.sl 1 (wordsA C), AV.sl 1 (wordsA P)])] [(1, Row.mk 1 false true [ai leaf, AV.sl 1 (wordsA C), AV.sl 1 (wordsA P)])]) (C := [(wordsA P).length = P.length]) (by kernel_rfl) ⟨(wordsA_len _), trivial⟩ ?_
  refine AWP.seq (by kernel_rfl) ?_
  refine AWP.regsP 1 [{ hs := [(1, { av := some (ao (decide (badH (↑P.length : Int)))) }), (3, { g := false }), (4, { g := false }), (5, { g := false }), (6, { av := some (ao (decide (leaf < (0 : Int) ∨ (↑((2 : Nat) ^ P.length) : Int) ≤ leaf))), g := false }), (7, { b := false })] }] [.keep [16, 4, 3, 2, 1, 0] [1]] (by kernel_rfl) (s' := AS.mk [(16, ao (decide (leaf < (0 : Int) ∨ (↑((2 : Nat) ^ P.length) : Int) ≤ leaf))), (4, ai (↑P.length : Int)), (3, ai 0), (2, AV.nil), (1, AV.addr 1 0), (0, AV.agg [ai leaf, AV.sl 1 (wordsA C), AV.sl 1 (wordsA P)])] [(1, Row.mk 1 false true [ai leaf, AV.sl 1 (wordsA C), AV.sl 1 (wordsA P)])]) (C := [Ret Try.prog (25 : Nat) [ai (↑P.length : Int)] (ao (decide (badH (↑P.length : Int)))), decide (badH (↑P.length : Int)) = false, decide (badH (↑P.length : Int)) = false, decide (badH (↑P.length : Int)) = false, decide (badH (↑P.length : Int)) = false, Ret Try.prog (30 : Nat) [ai leaf, ai (↑P.length : Int)] (ao (decide (leaf < (0 : Int) ∨ (↑((2 : Nat) ^ P.length) : Int) ≤ leaf))), decide (badH (↑P.length : Int)) = false]) (by kernel_rfl) ⟨(high_ret ((↑P.length : Int))), (decide_eq_false (by omega)), (decide_eq_false (by omega)), (decide_eq_false (by omega)), (decide_eq_false (by omega)), (outside_ret (leaf) (P.length) (by assumption)), (decide_eq_false (by omega)), trivial⟩ ?_
  refine AWP.condF (x := .tmp 16) (b := decide (leaf < (0 : Int) ∨ (↑((2 : Nat) ^ P.length) : Int) ≤ leaf)) (by kernel_rfl) (by kernel_rfl) (decide_eq_false (by omega)) ?_
  refine AWP.skip (by kernel_rfl) ?_
  refine then_n ?_
  refine AWP.seq (by kernel_rfl) ?_
  refine AWP.regsP 1 [{ hs := [(2, { k := C.length })] }] [.keep [20, 16, 4, 3, 2, 1, 0] [1]] (by kernel_rfl) (s' := AS.mk [(20, ao ((↑C.length : Int) != (18 : Int))), (16, ao (decide (leaf < (0 : Int) ∨ (↑((2 : Nat) ^ P.length) : Int) ≤ leaf))), (4, ai (↑P.length : Int)), (3, ai 0), (2, AV.nil), (1, AV.addr 1 0), (0, AV.agg [ai leaf, AV.sl 1 (wordsA C), AV.sl 1 (wordsA P)])] [(1, Row.mk 1 false true [ai leaf, AV.sl 1 (wordsA C), AV.sl 1 (wordsA P)])]) (C := [(wordsA C).length = C.length]) (by kernel_rfl) ⟨(wordsA_len _), trivial⟩ ?_
  refine AWP.condF (x := .tmp 20) (b := (↑C.length : Int) != (18 : Int)) (by kernel_rfl) (by kernel_rfl) (by simp_all) ?_
  refine AWP.skip (by kernel_rfl) ?_
  refine then_n ?_
  refine AWP.regsP 3 [{ hs := [(2, { av := some (ab (u8 leaf)) }), (4, { av := some (ab (u8 (↑P.length : Int))) }), (5, { av := some (AV.arr (bytesA [u8 leaf, u8 (↑P.length : Int)])) })] }, { hs := [(3, { av := some (AV.own 1 (bytesA (words C))) }), (4, { av := some (AV.arr (bytesA ([u8 leaf, u8 (↑P.length : Int)] ++ words C))), b := false })] }, { hs := [(3, { av := some (AV.own 1 (bytesA (words P))) }), (4, { av := some (AV.arr (bytesA ([u8 leaf, u8 (↑P.length : Int)] ++ words C ++ words P))), b := false })] }] [.keep [3, 2, 20, 16, 4, 1, 0] [36, 1]] (by kernel_rfl) (s' := AS.mk [(3, ai 0), (2, AV.ref 36), (20, ao ((↑C.length : Int) != (18 : Int))), (16, ao (decide (leaf < (0 : Int) ∨ (↑((2 : Nat) ^ P.length) : Int) ≤ leaf))), (4, ai (↑P.length : Int)), (1, AV.addr 1 0), (0, AV.agg [ai leaf, AV.sl 1 (wordsA C), AV.sl 1 (wordsA P)])] [(36, Row.mk 1 true false (bytesA ([u8 leaf, u8 (↑P.length : Int)] ++ words C ++ words P))), (1, Row.mk 1 false true [ai leaf, AV.sl 1 (wordsA C), AV.sl 1 (wordsA P)])]) (C := [AV.val (Value.int .u8 (IntKind.u8.wrap leaf)) = ab (u8 leaf), AV.val (Value.int .u8 (IntKind.u8.wrap (↑P.length : Int))) = ab (u8 (↑P.length : Int)), [ab (u8 leaf), ab (u8 (↑P.length : Int))] = bytesA [u8 leaf, u8 (↑P.length : Int)], Ret Try.prog (41 : Nat) [AV.sl 1 (wordsA C)] (AV.own 1 (bytesA (words C))), valR (bytesA (words C)), bytesA [u8 leaf, u8 (↑P.length : Int)] ++ bytesA (words C) = bytesA ([u8 leaf, u8 (↑P.length : Int)] ++ words C), plainR (bytesA (words C)), ((bytesA [u8 leaf, u8 (↑P.length : Int)]).length + (bytesA (words C)).length) * (1 : Nat) ≤ (140737488355328 : Nat), Ret Try.prog (41 : Nat) [AV.sl 1 (wordsA P)] (AV.own 1 (bytesA (words P))), valR (bytesA (words P)), bytesA ([u8 leaf, u8 (↑P.length : Int)] ++ words C) ++ bytesA (words P) = bytesA ([u8 leaf, u8 (↑P.length : Int)] ++ words C ++ words P), plainR (bytesA (words P)), ((bytesA ([u8 leaf, u8 (↑P.length : Int)] ++ words C)).length + (bytesA (words P)).length) * (1 : Nat) ≤ (140737488355328 : Nat)]) (by kernel_rfl) ⟨(avb_conv (leaf)), (avb_conv ((↑P.length : Int))), rfl, (words_ret (C) (by omega)), (valR_bytes _), (bytesA_app _ _), (plainR_bytes _), (by simp only [bytesA_len, List.length_cons, List.length_nil]; omega), (words_ret (P) (by omega)), (valR_bytes _), (bytesA_app _ _), (plainR_bytes _), (by simp only [bytesA_len, List.length_append, List.length_cons, List.length_nil]; omega), trivial⟩ ?_
  refine AWP.ret (by kernel_rfl) ?_
  refine Done.ret_ (C := [bytesA ([u8 leaf, u8 (↑P.length : Int)] ++ words C ++ words P) = bytesA ([u8 leaf, u8 (↑P.length : Int)] ++ words C ++ words P), Value.int .i64 0 = Value.int .i64 0]) (by kernel_rfl) ⟨rfl, rfl, trivial⟩
theorem refencsig_ret (leaf : Int) (C P : List UInt64) : Ret Try.prog 38 [.agg [ai leaf, .sl 1 (wordsA C), .sl 1 (wordsA P)]] (.tup [.own 1 (bytesA (esB leaf C P)), ai (esE leaf C P)]) := by
  by_cases hbad : badL (P.length : Int) leaf
  · have e1 : esE leaf C P = 9 := if_pos hbad
    have e2 : esB leaf C P = [] := if_pos (.inl hbad)
    rw [e1, e2]
    unfold badL at hbad
    by_cases hk : P.length ≤ 4
    case neg =>
      refine Ret.of_fn Try.func38 (by kernel_rfl) 45 (by kernel_rfl) (by kernel_rfl) ?_
      refine AWP.regsK 1 [{  }] (by kernel_rfl) (s' := AS.mk [(3, ai 0), (2, AV.nil), (1, AV.addr 1 0), (0, AV.agg [ai leaf, AV.sl 1 (wordsA C), AV.sl 1 (wordsA P)])] [(1, Row.mk 1 false true [ai leaf, AV.sl 1 (wordsA C), AV.sl 1 (wordsA P)])]) (C := []) (by kernel_rfl) trivial ?_
      refine AWP.seq (by kernel_rfl) ?_
      refine AWP.regsP 1 [{ hs := [(2, { k := P.length })] }] [.keep [23, 3, 2, 1, 0] [1]] (by kernel_rfl) (s' := AS.mk [(23, ao true), (3, ai 0), (2, AV.nil), (1, AV.addr 1 0), (0, AV.agg [ai leaf, AV.sl 1 (wordsA C), AV.sl 1 (wordsA P)])] [(1, Row.mk 1 false true [ai leaf, AV.sl 1 (wordsA C), AV.sl 1 (wordsA P)])]) (C := [(wordsA P).length = P.length, decide ((↑P.length : Int) > (4 : Int)) = true, decide ((↑P.length : Int) > (4 : Int)) = true, decide ((↑P.length : Int) > (4 : Int)) = true, decide ((↑P.length : Int) > (4 : Int)) = true, true = true, true = true, true = true, true = true, true = true, true = true, true = true, true = true, true = true]) (by kernel_rfl) ⟨(wordsA_len _), (decide_eq_true (by omega)), (decide_eq_true (by omega)), (decide_eq_true (by omega)), (decide_eq_true (by omega)), rfl, rfl, rfl, rfl, rfl, rfl, rfl, rfl, rfl, trivial⟩ ?_
      refine AWP.condT (x := .tmp 23) (b := true) (by kernel_rfl) (by kernel_rfl) rfl ?_
      refine AWP.regsK 1 [{  }] (by kernel_rfl) (s' := AS.mk [(3, ai 9), (2, AV.nil), (23, ao true), (1, AV.addr 1 0), (0, AV.agg [ai leaf, AV.sl 1 (wordsA C), AV.sl 1 (wordsA P)])] [(1, Row.mk 1 false true [ai leaf, AV.sl 1 (wordsA C), AV.sl 1 (wordsA P)])]) (C := []) (by kernel_rfl) trivial ?_
      refine AWP.ret (by kernel_rfl) ?_
      refine then_r ?_
      refine Done.ret_ (C := [bytesA [] = [], Value.int .i64 9 = Value.int .i64 9]) (by kernel_rfl) ⟨rfl, rfl, trivial⟩
    rw [Int.toNat_natCast] at hbad
    have hb : ¬ badH (P.length : Int) := by unfold badH; omega
    by_cases hlt : leaf < 0
    · refine Ret.of_fn Try.func38 (by kernel_rfl) 45 (by kernel_rfl) (by kernel_rfl) ?_
      refine AWP.regsK 1 [{  }] (by kernel_rfl) (s' := AS.mk [(3, ai 0), (2, AV.nil), (1, AV.addr 1 0), (0, AV.agg [ai leaf, AV.sl 1 (wordsA C), AV.sl 1 (wordsA P)])] [(1, Row.mk 1 false true [ai leaf, AV.sl 1 (wordsA C), AV.sl 1 (wordsA P)])]) (C := []) (by kernel_rfl) trivial ?_
      refine AWP.seq (by kernel_rfl) ?_
      refine AWP.regsP 1 [{ hs := [(2, { k := P.length }), (5, { g := false }), (6, { g := false }), (7, { g := false }), (8, { b := false })] }] [.keep [23, 3, 2, 1, 0] [1]] (by kernel_rfl) (s' := AS.mk [(23, ao true), (3, ai 0), (2, AV.nil), (1, AV.addr 1 0), (0, AV.agg [ai leaf, AV.sl 1 (wordsA C), AV.sl 1 (wordsA P)])] [(1, Row.mk 1 false true [ai leaf, AV.sl 1 (wordsA C), AV.sl 1 (wordsA P)])]) (C := [(wordsA P).length = P.length, decide ((↑P.length : Int) > (4 : Int)) = false, decide ((↑P.length : Int) > (4 : Int)) = false, decide ((↑P.length : Int) > (4 : Int)) = false, decide ((↑P.length : Int) > (4 : Int)) = false, decide (leaf < (0 : Int)) = true, decide (leaf < (0 : Int)) = true, decide (leaf < (0 : Int)) = true, decide (leaf < (0 : Int)) = true, decide (leaf < (0 : Int)) = true, decide (leaf < (0 : Int)) = true, decide (leaf < (0 : Int)) = true, decide (leaf < (0 : Int)) = true, decide (leaf < (0 : Int)) = true]) (by kernel_rfl) ⟨(wordsA_len _), (decide_eq_false (by omega)), (decide_eq_false (by omega)), (decide_eq_false (by omega)), (decide_eq_false (by omega)), (decide_eq_true (by omega)), (decide_eq_true (by omega)), (decide_eq_true (by omega)), (decide_eq_true (by omega)), (decide_eq_true (by omega)), (decide_eq_true (by omega)), (decide_eq_true (by omega)), (decide_eq_true (by omega)), (decide_eq_true (by omega)), trivial⟩ ?_
      refine AWP.condT (x := .tmp 23) (b := true) (by kernel_rfl) (by kernel_rfl) rfl ?_
      refine AWP.regsK 1 [{  }] (by kernel_rfl) (s' := AS.mk [(3, ai 9), (2, AV.nil), (23, ao true), (1, AV.addr 1 0), (0, AV.agg [ai leaf, AV.sl 1 (wordsA C), AV.sl 1 (wordsA P)])] [(1, Row.mk 1 false true [ai leaf, AV.sl 1 (wordsA C), AV.sl 1 (wordsA P)])]) (C := []) (by kernel_rfl) trivial ?_
      refine AWP.ret (by kernel_rfl) ?_
      refine then_r ?_
      refine Done.ret_ (C := [bytesA [] = [], Value.int .i64 9 = Value.int .i64 9]) (by kernel_rfl) ⟨rfl, rfl, trivial⟩
    have hge : ((2 ^ P.length : Nat) : Int) ≤ leaf := by rcases hbad with h | h | h <;> first | exact absurd h hb | exact absurd h hlt | exact h
    have hp : 2 ^ P.length ≤ 16 := Nat.pow_le_pow_right (by decide) hk
    have hsh : IntKind.i64.wrap (1 * 2 ^ min (wv (u64 (P.length : Int))).toNat IntKind.i64.bits) = ((2 ^ P.length : Nat) : Int) := by
      generalize P.length = n at hk
      rcases (show n = 0 ∨ n = 1 ∨ n = 2 ∨ n = 3 ∨ n = 4 by omega) with rfl | rfl | rfl | rfl | rfl <;> decide +kernel
    have hw0 : (0 : Int) ≤ wv (u64 (P.length : Int)) := Int.natCast_nonneg _
    generalize 2 ^ P.length = p2 at *
    refine Ret.of_fn Try.func38 (by kernel_rfl) 45 (by kernel_rfl) (by kernel_rfl) ?_
    refine AWP.regsK 1 [{  }] (by kernel_rfl) (s' := AS.mk [(3, ai 0), (2, AV.nil), (1, AV.addr 1 0), (0, AV.agg [ai leaf, AV.sl 1 (wordsA C), AV.sl 1 (wordsA P)])] [(1, Row.mk 1 false true [ai leaf, AV.sl 1 (wordsA C), AV.sl 1 (wordsA P)])]) (C := []) (by kernel_rfl) trivial ?_
    refine AWP.seq (by kernel_rfl) ?_
    refine AWP.regsP 1 [{ hs := [(2, { k := P.length }), (5, { g := false }), (6, { g := false }), (7, { g := false }), (8, { b := false }), (10, { g := false }), (11, { g := false }), (12, { g := false }), (13, { g := false }), (14, { k := P.length, g := false }), (15, { av := some (aw (u64 (↑P.length : Int))), g := false }), (16, { av := some (ai (↑p2 : Int)), g := false }), (17, { g := false }), (18, { b := false })] }] [.keep [23, 3, 2, 1, 0] [1]] (by kernel_rfl) (s' := AS.mk [(23, ao (decide (leaf ≥ (↑p2 : Int)))), (3, ai 0), (2, AV.nil), (1, AV.addr 1 0), (0, AV.agg [ai leaf, AV.sl 1 (wordsA C), AV.sl 1 (wordsA P)])] [(1, Row.mk 1 false true [ai leaf, AV.sl 1 (wordsA C), AV.sl 1 (wordsA P)])]) (C := [(wordsA P).length = P.length, decide ((↑P.length : Int) > (4 : Int)) = false, decide ((↑P.length : Int) > (4 : Int)) = false, decide ((↑P.length : Int) > (4 : Int)) = false, decide ((↑P.length : Int) > (4 : Int)) = false, decide (leaf < (0 : Int)) = false, decide (leaf < (0 : Int)) = false, decide (leaf < (0 : Int)) = false, decide (leaf < (0 : Int)) = false, decide (leaf < (0 : Int)) = false, (wordsA P).length = P.length, decide (leaf < (0 : Int)) = false, AV.val (Value.int .u64 (IntKind.u64.wrap (↑P.length : Int))) = aw (u64 (↑P.length : Int)), decide (leaf < (0 : Int)) = false, ai (IntKind.i64.wrap ((1 : Int) * (2 : Int) ^ min (wv (u64 (↑P.length : Int))).toNat IntKind.i64.bits)) = ai (↑p2 : Int), (0 : Int) ≤ wv (u64 (↑P.length : Int)), decide (leaf < (0 : Int)) = false, decide (leaf < (0 : Int)) = false]) (by kernel_rfl) ⟨(wordsA_len _), (decide_eq_false (by omega)), (decide_eq_false (by omega)), (decide_eq_false (by omega)), (decide_eq_false (by omega)), (decide_eq_false (by omega)), (decide_eq_false (by omega)), (decide_eq_false (by omega)), (decide_eq_false (by omega)), (decide_eq_false (by omega)), (wordsA_len _), (decide_eq_false (by omega)), (avw_conv ((↑P.length : Int))), (decide_eq_false (by omega)), (congrArg (fun n => AV.val (.int .i64 n)) hsh), (by assumption), (decide_eq_false (by omega)), (decide_eq_false (by omega)), trivial⟩ ?_
    refine AWP.condT (x := .tmp 23) (b := decide (leaf ≥ (↑p2 : Int))) (by kernel_rfl) (by kernel_rfl) (decide_eq_true (by omega)) ?_
    refine AWP.regsK 1 [{  }] (by kernel_rfl) (s' := AS.mk [(3, ai 9), (2, AV.nil), (23, ao (decide (leaf ≥ (↑p2 : Int)))), (1, AV.addr 1 0), (0, AV.agg [ai leaf, AV.sl 1 (wordsA C), AV.sl 1 (wordsA P)])] [(1, Row.mk 1 false true [ai leaf, AV.sl 1 (wordsA C), AV.sl 1 (wordsA P)])]) (C := []) (by kernel_rfl) trivial ?_
    refine AWP.ret (by kernel_rfl) ?_
    refine then_r ?_
    refine Done.ret_ (C := [bytesA [] = [], Value.int .i64 9 = Value.int .i64 9]) (by kernel_rfl) ⟨rfl, rfl, trivial⟩
  have e1 : esE leaf C P = if C.length ≠ 18 then 4 else 0 := if_neg hbad
  have hbad' := hbad
  unfold badL badH at hbad
  rw [Int.toNat_natCast] at hbad
  have hk : P.length ≤ 4 := by omega
  have hb : ¬ badH (P.length : Int) := by unfold badH; omega
  have ho : ¬ (leaf < 0 ∨ ((2 ^ P.length : Nat) : Int) ≤ leaf) := by omega
  have hp : 2 ^ P.length ≤ 16 := Nat.pow_le_pow_right (by decide) hk
  have hsh : IntKind.i64.wrap (1 * 2 ^ min (wv (u64 (P.length : Int))).toNat IntKind.i64.bits) = ((2 ^ P.length : Nat) : Int) := by
    generalize P.length = n at hk
    rcases (show n = 0 ∨ n = 1 ∨ n = 2 ∨ n = 3 ∨ n = 4 by omega) with rfl | rfl | rfl | rfl | rfl <;> decide +kernel
  have hw0 : (0 : Int) ≤ wv (u64 (P.length : Int)) := Int.natCast_nonneg _
  rw [e1]
  by_cases hC : C.length = 18
  case neg =>
    have e2 : esB leaf C P = [] := if_pos (.inr hC)
    rw [if_pos hC, e2]
    refine Ret.of_fn Try.func38 (by kernel_rfl) 45 (by kernel_rfl) (by kernel_rfl) ?_
    refine AWP.regsK 1 [{  }] (by kernel_rfl) (s' := AS.mk [(3, ai 0), (2, AV.nil), (1, AV.addr 1 0), (0, AV.agg [ai leaf, AV.sl 1 (wordsA C), AV.sl 1 (wordsA P)])] [(1, Row.mk 1 false true [ai leaf, AV.sl 1 (wordsA C), AV.sl 1 (wordsA P)])]) (C := []) (by kernel_rfl) trivial ?_
    refine AWP.seq (by kernel_rfl) ?_
    refine AWP.regsP 1 [{ hs := [(2, { k := P.length }), (5, { g := false }), (6, { g := false }), (7, { g := false }), (8, { b := false }), (10, { g := false }), (11, { g := false }), (12, { g := false }), (13, { g := false }), (14, { k := P.length, g := false }), (15, { av := some (aw (u64 (↑P.length : Int))), g := false }), (16, { av := some (ai (↑((2 : Nat) ^ P.length) : Int)), g := false }), (17, { g := false }), (18, { b := false })] }] [.keep [23, 3, 2, 1, 0] [1]] (by kernel_rfl) (s' := AS.mk [(23, ao (decide (leaf ≥ (↑((2 : Nat) ^ P.length) : Int)))), (3, ai 0), (2, AV.nil), (1, AV.addr 1 0), (0, AV.agg [ai leaf, AV.sl 1 (wordsA C), AV.sl 1 (wordsA P)])] [(1, Row.mk 1 false true [ai leaf, AV.sl 1 (wordsA C), AV.sl 1 (wordsA P)])]) (C := [(wordsA P).length = P.length, decide ((↑P.length : Int) > (4 : Int)) = false, decide ((↑P.length : Int) > (4 : Int)) = false, decide ((↑P.length : Int) > (4 : Int)) = false, decide ((↑P.length : Int) > (4 : Int)) = false, decide (leaf < (0 : Int)) = false, decide (leaf < (0 : Int)) = false, decide (leaf < (0 : Int)) = false, decide (leaf < (0 : Int)) = false, decide (leaf < (0 : Int)) = false, (wordsA P).length = P.length, decide (leaf < (0 : Int)) = false, AV.val (Value.int .u64 (IntKind.u64.wrap (↑P.length : Int))) = aw (u64 (↑P.length : Int)), decide (leaf < (0 : Int)) = false, ai (IntKind.i64.wrap ((1 : Int) * (2 : Int) ^ min (wv (u64 (↑P.length : Int))).toNat IntKind.i64.bits)) = ai (↑((2 : Nat) ^ P.length) : Int), (0 : Int) ≤ wv (u64 (↑P.length : Int)), decide (leaf < (0 : Int)) = false, decide (leaf < (0 : Int)) = false]) (by kernel_rfl) ⟨(wordsA_len _), (decide_eq_false (by omega)), (decide_eq_false (by omega)), (decide_eq_false (by omega)), (decide_eq_false (by omega)), (decide_eq_false (by omega)), (decide_eq_false (by omega)), (decide_eq_false (by omega)), (decide_eq_false (by omega)), (decide_eq_false (by omega)), (wordsA_len _), (decide_eq_false (by omega)), (avw_conv ((↑P.length : Int))), (decide_eq_false (by omega)), (congrArg (fun n => AV.val (.int .i64 n)) hsh), (by assumption), (decide_eq_false (by omega)), (decide_eq_false (by omega)), trivial⟩ ?_
    refine AWP.condF (x := .tmp 23) (b := decide (leaf ≥ (↑((2 : Nat) ^ P.length) : Int))) (by kernel_rfl) (by kernel_rfl) (decide_eq_false (by omega)) ?_
    refine AWP.skip (by kernel_rfl) ?_
    refine then_n ?_
    refine AWP.seq (by kernel_rfl) ?_
    refine AWP.regsP 1 [{ hs := [(2, { k := C.length })] }] [.keep [27, 23, 3, 2, 1, 0] [1]] (by kernel_rfl) (s' := AS.mk [(27, ao ((↑C.length : Int) != (18 : Int))), (23, ao (decide (leaf ≥ (↑((2 : Nat) ^ P.length) : Int)))), (3, ai 0), (2, AV.nil), (1, AV.addr 1 0), (0, AV.agg [ai leaf, AV.sl 1 (wordsA C), AV.sl 1 (wordsA P)])] [(1, Row.mk 1 false true [ai leaf, AV.sl 1 (wordsA C), AV.sl 1 (wordsA P)])]) (C := [(wordsA C).length = C.length]) (by kernel_rfl) ⟨(wordsA_len _), trivial⟩ ?_
    refine AWP.condT (x := .tmp 27) (b := (↑C.length : Int) != (18 : Int)) (by kernel_rfl) (by kernel_rfl) (by simp; omega) ?_
    refine AWP.regsK 1 [{  }] (by kernel_rfl) (s' := AS.mk [(3, ai 4), (2, AV.nil), (27, ao ((↑C.length : Int) != (18 : Int))), (23, ao (decide (leaf ≥ (↑((2 : Nat) ^ P.length) : Int)))), (1, AV.addr 1 0), (0, AV.agg [ai leaf, AV.sl 1 (wordsA C), AV.sl 1 (wordsA P)])] [(1, Row.mk 1 false true [ai leaf, AV.sl 1 (wordsA C), AV.sl 1 (wordsA P)])]) (C := []) (by kernel_rfl) trivial ?_
    refine AWP.ret (by kernel_rfl) ?_
    refine then_r ?_
    refine Done.ret_ (C := [bytesA [] = [], Value.int .i64 4 = Value.int .i64 4]) (by kernel_rfl) ⟨rfl, rfl, trivial⟩
  have e2 : esB leaf C P = [u8 leaf, u8 (P.length : Int)] ++ words C ++ words P := if_neg (by rintro (h | h); exact hbad' h; exact h hC)
  rw [if_neg (by omega), e2]
  have hw1 : (words C).length = 144 := by rw [words_len, hC]
  have hw2 : (words P).length = 8 * P.length := words_len P
  refine Ret.of_fn Try.func38 (by kernel_rfl) 45 (by kernel_rfl) (by kernel_rfl) ?_
  refine AWP.regsK 1 [{  }] (by kernel_rfl) (s' := AS.mk [(3, ai 0), (2, AV.nil), (1, AV.addr 1 0), (0, AV.agg [ai leaf, AV.sl 1 (wordsA C), AV.sl 1 (wordsA P)])] [(1, Row.mk 1 false true [ai leaf, AV.sl 1 (wordsA C), AV.sl 1 (wordsA P)])]) (C := []) (by kernel_rfl) trivial ?_
  refine AWP.seq (by kernel_rfl) ?_
  refine AWP.regsP 1 [{ hs := [(2, { k := P.length }), (5, { g := false }), (6, { g := false }), (7, { g := false }), (8, { b := false }), (10, { g := false }), (11, { g := false }), (12, { g := false }), (13, { g := false }), (14, { k := P.length, g := false }), (15, { av := some (aw (u64 (↑P.length : Int))), g := false }), (16, { av := some (ai (↑((2 : Nat) ^ P.length) : Int)), g := false }), (17, { g := false }), (18, { b := false })] }] [.keep [23, 3, 2, 1, 0] [1]] (by kernel_rfl) (s' := AS.mk [(23, ao (decide (leaf ≥ (↑((2 : Nat) ^ P.length) : Int)))), (3, ai 0), (2, AV.nil), (1, AV.addr 1 0), (0, AV.agg [ai leaf, AV.sl 1 (wordsA C), AV.sl 1 (wordsA P)])] [(1, Row.mk 1 false true [ai leaf, AV.sl 1 (wordsA C), AV.sl 1 (wordsA P)])]) (C := [(wordsA P).length = P.length, decide ((↑P.length : Int) > (4 : Int)) = false, decide ((↑P.length : Int) > (4 : Int)) = false, decide ((↑P.length : Int) > (4 : Int)) = false, decide ((↑P.length : Int) > (4 : Int)) = false, decide (leaf < (0 : Int)) = false, decide (leaf < (0 : Int)) = false, decide (leaf < (0 : Int)) = false, decide (leaf < (0 : Int)) = false, decide (leaf < (0 : Int)) = false, (wordsA P).length = P.length, decide (leaf < (0 : Int)) = false, AV.val (Value.int .u64 (IntKind.u64.wrap (↑P.length : Int))) = aw (u64 (↑P.length : Int)), decide (leaf < (0 : Int)) = false, ai (IntKind.i64.wrap ((1 : Int) * (2 : Int) ^ min (wv (u64 (↑P.length : Int))).toNat IntKind.i64.bits)) = ai (↑((2 : Nat) ^ P.length) : Int), (0 : Int) ≤ wv (u64 (↑P.length : Int)), decide (leaf < (0 : Int)) = false, decide (leaf < (0 : Int)) = false]) (by kernel_rfl) ⟨(wordsA_len _), (decide_eq_false (by omega)), (decide_eq_false (by omega)), (decide_eq_false (by omega)), (decide_eq_false (by omega)), (decide_eq_false (by omega)), (decide_eq_false (by omega)), (decide_eq_false (by omega)), (decide_eq_false (by omega)), (decide_eq_false (by omega)), (wordsA_len _), (decide_eq_false (by omega)), (avw_conv ((↑P.length : Int))), (decide_eq_false (by omega)), (congrArg (fun n => AV.val (.int .i64 n)) hsh), (by assumption), (decide_eq_false (by omega)), (decide_eq_false (by omega)), trivial⟩ ?_
  refine AWP.condF (x := .tmp 23) (b := decide (leaf ≥ (↑((2 : Nat) ^ P.length) : Int))) (by kernel_rfl) (by kernel_rfl) (decide_eq_false (by omega)) ?_
  refine AWP.skip (by kernel_rfl) ?_
  refine then_n ?_
  refine AWP.seq (by kernel_rfl) ?_
  refine AWP.regsP 1 [{ hs := [(2, { k := C.length })] }] [.keep [27, 23, 3, 2, 1, 0] [1]] (by kernel_rfl) (s' := AS.mk [(27, ao ((↑C.length : Int) != (18 : Int))), (23, ao (decide (leaf ≥ (↑((2 : Nat) ^ P.length) : Int)))), (3, ai 0), (2, AV.nil), (1, AV.addr 1 0), (0, AV.agg [ai leaf, AV.sl 1 (wordsA C), AV.sl 1 (wordsA P)])] [(1, Row.mk 1 false true [ai leaf, AV.sl 1 (wordsA C), AV.sl 1 (wordsA P)])]) (C := [(wordsA C).length = C.length]) (by kernel_rfl) ⟨(wordsA_len _), trivial⟩ ?_
  refine AWP.condF (x := .tmp 27) (b := (↑C.length : Int) != (18 : Int)) (by kernel_rfl) (by kernel_rfl) (by simp_all) ?_
  refine AWP.skip (by kernel_rfl) ?_
  refine then_n ?_
  refine AWP.seq (by kernel_rfl) ?_
  refine AWP.regO 11 [7] [(2, { av := some (ab (u8 leaf)) }), (5, { k := P.length }), (6, { av := some (ab (u8 (↑P.length : Int))) }), (7, { av := some (AV.arr (bytesA [u8 leaf, u8 (↑P.length : Int)])) }), (10, { av := some (AV.own 1 (bytesA (words C))) }), (11, { av := some (AV.arr (bytesA ([u8 leaf, u8 (↑P.length : Int)] ++ words C))), b := false })] (s' := AS.mk [(4, AV.ref 39), (39, AV.ref 39), (35, AV.dead), (28, AV.addr 1 0), (29, ai leaf), (30, ab (u8 leaf)), (31, AV.addr 1 2), (32, AV.sl 1 (wordsA P)), (33, ai (↑P.length : Int)), (34, ab (u8 (↑P.length : Int))), (35, AV.dead), (36, AV.addr 1 1), (37, AV.sl 1 (wordsA C)), (38, AV.sl 1 (bytesA (words C))), (27, ao ((↑C.length : Int) != (18 : Int))), (23, ao (decide (leaf ≥ (↑((2 : Nat) ^ P.length) : Int)))), (3, ai 0), (2, AV.nil), (1, AV.addr 1 0), (0, AV.agg [ai leaf, AV.sl 1 (wordsA C), AV.sl 1 (wordsA P)])] [(39, Row.mk 1 true false (bytesA ([u8 leaf, u8 (↑P.length : Int)] ++ words C))), (1, Row.mk 1 false true [ai leaf, AV.sl 1 (wordsA C), AV.sl 1 (wordsA P)])]) (C := [AV.val (Value.int .u8 (IntKind.u8.wrap leaf)) = ab (u8 leaf), (wordsA P).length = P.length, AV.val (Value.int .u8 (IntKind.u8.wrap (↑P.length : Int))) = ab (u8 (↑P.length : Int)), [ab (u8 leaf), ab (u8 (↑P.length : Int))] = bytesA [u8 leaf, u8 (↑P.length : Int)], valR (bytesA [u8 leaf, u8 (↑P.length : Int)]), Ret Try.prog (42 : Nat) [AV.sl 1 (wordsA C)] (AV.own 1 (bytesA (words C))), valR (bytesA (words C)), bytesA [u8 leaf, u8 (↑P.length : Int)] ++ bytesA (words C) = bytesA ([u8 leaf, u8 (↑P.length : Int)] ++ words C), plainR (bytesA (words C)), ((bytesA [u8 leaf, u8 (↑P.length : Int)]).length + (bytesA (words C)).length) * (1 : Nat) ≤ (140737488355328 : Nat)]) (by kernel_rfl) ⟨(avb_conv (leaf)), (wordsA_len _), (avb_conv ((↑P.length : Int))), rfl, (valR_bytes _), (refwords_ret (C) (by omega)), (valR_bytes _), (bytesA_app _ _), (plainR_bytes _), (by simp only [bytesA_len, List.length_cons, List.length_nil]; omega), trivial⟩ ?_
  refine then_n ?_
  refine AWP.wk [.keep [4, 27, 23, 3, 2, 1, 0] [39, 1]] (s' := AS.mk [(4, AV.ref 39), (27, ao ((↑C.length : Int) != (18 : Int))), (23, ao (decide (leaf ≥ (↑((2 : Nat) ^ P.length) : Int)))), (3, ai 0), (2, AV.nil), (1, AV.addr 1 0), (0, AV.agg [ai leaf, AV.sl 1 (wordsA C), AV.sl 1 (wordsA P)])] [(39, Row.mk 1 true false (bytesA ([u8 leaf, u8 (↑P.length : Int)] ++ words C))), (1, Row.mk 1 false true [ai leaf, AV.sl 1 (wordsA C), AV.sl 1 (wordsA P)])]) (by kernel_rfl) ?_
  refine AWP.regsP 1 [{ hs := [(3, { av := some (AV.own 1 (bytesA (words P))) }), (4, { av := some (AV.arr (bytesA ([u8 leaf, u8 (↑P.length : Int)] ++ words C ++ words P))), b := false })] }] [.keep [3, 2, 27, 23, 1, 0] [44, 1]] (by kernel_rfl) (s' := AS.mk [(3, ai 0), (2, AV.ref 44), (27, ao ((↑C.length : Int) != (18 : Int))), (23, ao (decide (leaf ≥ (↑((2 : Nat) ^ P.length) : Int)))), (1, AV.addr 1 0), (0, AV.agg [ai leaf, AV.sl 1 (wordsA C), AV.sl 1 (wordsA P)])] [(44, Row.mk 1 true false (bytesA ([u8 leaf, u8 (↑P.length : Int)] ++ words C ++ words P))), (1, Row.mk 1 false true [ai leaf, AV.sl 1 (wordsA C), AV.sl 1 (wordsA P)])]) (C := [Ret Try.prog (42 : Nat) [AV.sl 1 (wordsA P)] (AV.own 1 (bytesA (words P))), valR (bytesA (words P)), bytesA ([u8 leaf, u8 (↑P.length : Int)] ++ words C) ++ bytesA (words P) = bytesA ([u8 leaf, u8 (↑P.length : Int)] ++ words C ++ words P), plainR (bytesA (words P)), ((bytesA ([u8 leaf, u8 (↑P.length : Int)] ++ words C)).length + (bytesA (words P)).length) * (1 : Nat) ≤ (140737488355328 : Nat)]) (by kernel_rfl) ⟨(refwords_ret (P) (by omega)), (valR_bytes _), (bytesA_app _ _), (plainR_bytes _), (by simp only [bytesA_len, List.length_append, List.length_cons, List.length_nil]; omega), trivial⟩ ?_
  refine AWP.ret (by kernel_rfl) ?_
  refine Done.ret_ (C := [bytesA ([u8 leaf, u8 (↑P.length : Int)] ++ words C ++ words P) = bytesA ([u8 leaf, u8 (↑P.length : Int)] ++ words C ++ words P), Value.int .i64 0 = Value.int .i64 0]) (by kernel_rfl) ⟨rfl, rfl, trivial⟩
end Go.Proofs.Ytjmmhpiadafahaa
