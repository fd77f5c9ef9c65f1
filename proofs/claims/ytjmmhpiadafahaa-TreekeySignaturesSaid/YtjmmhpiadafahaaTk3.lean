/-
  The contract of the reference's signatures. No condition.
-/
import Derived.Test.YtjmmhpiadafahaaTk2
import Derived.Test.YtjmmhpiadafahaaRF
namespace Go.Proofs.Ytjmmhpiadafahaa
open Go.RowKit
set_option maxRecDepth 100000
set_option maxHeartbeats 4000000
set_option linter.unusedVariables false
--@au0

/-- The path of a leaf. -/
def pathW (seed : UInt64) (leaf : Nat) (n : Nat) : List UInt64 := (List.range n).map fun k => nodeW seed k (leaf / 2 ^ k ^^^ 1)
theorem pathW_succ (seed : UInt64) (leaf k : Nat) : pathW seed leaf (k + 1) = pathW seed leaf k ++ [nodeW seed k (leaf / 2 ^ k ^^^ 1)] := by simp [pathW, List.range_succ]
theorem pathW_len (seed : UInt64) (leaf k : Nat) : (pathW seed leaf k).length = k := by simp [pathW]
theorem shr_leaf (leaf k : Nat) (hk : k ≤ 4) : ((leaf : Int)).fdiv (2 ^ min (wv (u64 (k : Int))).toNat IntKind.i64.bits) = ((leaf / 2 ^ k : Nat) : Int) := by
  have e : (2 : Int) ^ min (wv (u64 (k : Int))).toNat IntKind.i64.bits = ((2 ^ k : Nat) : Int) := by
    rcases (show k = 0 ∨ k = 1 ∨ k = 2 ∨ k = 3 ∨ k = 4 by omega) with rfl | rfl | rfl | rfl | rfl <;> decide +kernel
  rw [e, Int.fdiv_eq_ediv_of_nonneg _ (Int.natCast_nonneg _)]; rfl
theorem xor_one (q : Nat) (hq : q < 16) : IntKind.i64.wrap ((BitVec.ofInt IntKind.i64.bits (q : Int) ^^^ BitVec.ofInt IntKind.i64.bits 1).toNat : Nat) = ((q ^^^ 1 : Nat) : Int) := by
  have key : ∀ q : Fin 16, IntKind.i64.wrap ((BitVec.ofInt IntKind.i64.bits ((q.val : Nat) : Int) ^^^ BitVec.ofInt IntKind.i64.bits 1).toNat : Nat) = ((q.val ^^^ 1 : Nat) : Int) := by decide +kernel
  exact key ⟨q, hq⟩
theorem xor_lt (q : Nat) (hq : q < 16) : q ^^^ 1 < 16 := by
  have key : ∀ q : Fin 16, q.val ^^^ 1 < 16 := by decide +kernel
  exact key ⟨q, hq⟩
theorem refsign_ok (seed : UInt64) (h leaf : Nat) (m : UInt64) (hh : h ≤ 4) (hl : leaf < 2 ^ h) : Ret Try.prog 14 [aw seed, ai h, ai leaf, aw m] (.tup [.agg [ai leaf, .own 1 (wordsA (signL seed leaf m 18)), .own 1 (wordsA (pathW seed leaf h))], ai 0]) := by
  have hb : ¬ badH (h : Int) := by unfold badH; omega
  have hp : 2 ^ h ≤ 16 := Nat.pow_le_pow_right (by decide) hh
  have hsh : IntKind.i64.wrap (1 * 2 ^ min (wv (u64 (h : Int))).toNat IntKind.i64.bits) = ((2 ^ h : Nat) : Int) := by
    rcases (show h = 0 ∨ h = 1 ∨ h = 2 ∨ h = 3 ∨ h = 4 by omega) with rfl | rfl | rfl | rfl | rfl <;> decide +kernel
  have hw0 : (0 : Int) ≤ wv (u64 (h : Int)) := Int.natCast_nonneg _
  refine Ret.of_fn Try.func14 (by kernel_rfl) 52 (by kernel_rfl) (by kernel_rfl) ?_
  refine AWP.regsK 1 [{  }] (by kernel_rfl) (s' := AS.mk [(9, ai 0), (8, AV.addr 8 0), (0, aw seed), (1, ai (↑h : Int)), (2, ai (↑leaf : Int)), (3, aw m)] [(8, Row.mk 1 false true [ai 0, AV.nil, AV.nil])]) (C := []) (by kernel_rfl) trivial ?_
  refine AWP.seq (by kernel_rfl) ?_
  refine AWP.regsP 1 [{ hs := [(1, { av := some (ao (!decide (badH (↑h : Int)))) }), (4, { g := false }), (5, { g := false }), (6, { b := false }), (8, { g := false }), (9, { g := false }), (10, { av := some (aw (u64 (↑h : Int))), g := false }), (11, { av := some (ai (↑((2 : Nat) ^ h) : Int)), g := false }), (12, { g := false }), (13, { b := false })] }] [.keep [25, 9, 8, 0, 1, 2, 3] [8]] (by kernel_rfl) (s' := AS.mk [(25, ao (decide ((↑leaf : Int) ≥ (↑((2 : Nat) ^ h) : Int)))), (9, ai 0), (8, AV.addr 8 0), (0, aw seed), (1, ai (↑h : Int)), (2, ai (↑leaf : Int)), (3, aw m)] [(8, Row.mk 1 false true [ai 0, AV.nil, AV.nil])]) (C := [Ret Try.prog (27 : Nat) [ai (↑h : Int)] (ao (!decide (badH (↑h : Int)))), (!!decide (badH (↑h : Int))) = false, (!!decide (badH (↑h : Int))) = false, (!!decide (badH (↑h : Int))) = false, decide ((↑leaf : Int) < (0 : Int)) = false, decide ((↑leaf : Int) < (0 : Int)) = false, decide ((↑leaf : Int) < (0 : Int)) = false, AV.val (Value.int .u64 (IntKind.u64.wrap (↑h : Int))) = aw (u64 (↑h : Int)), decide ((↑leaf : Int) < (0 : Int)) = false, ai (IntKind.i64.wrap ((1 : Int) * (2 : Int) ^ min (wv (u64 (↑h : Int))).toNat IntKind.i64.bits)) = ai (↑((2 : Nat) ^ h) : Int), (0 : Int) ≤ wv (u64 (↑h : Int)), decide ((↑leaf : Int) < (0 : Int)) = false, decide ((↑leaf : Int) < (0 : Int)) = false]) (by kernel_rfl) ⟨(refheight_ret ((↑h : Int))), (by simp_all), (by simp_all), (by simp_all), (decide_eq_false (by omega)), (decide_eq_false (by omega)), (decide_eq_false (by omega)), (avw_conv ((↑h : Int))), (decide_eq_false (by omega)), (congrArg (fun n => AV.val (.int .i64 n)) hsh), (by assumption), (decide_eq_false (by omega)), (decide_eq_false (by omega)), trivial⟩ ?_
  refine AWP.condF (x := .tmp 25) (b := decide ((↑leaf : Int) ≥ (↑((2 : Nat) ^ h) : Int))) (by kernel_rfl) (by kernel_rfl) (decide_eq_false (by omega)) ?_
  refine AWP.skip (by kernel_rfl) ?_
  refine then_n ?_
  refine AWP.regsP 1 [{ hs := [(4, { av := some (AV.own 1 (wordsA (signL seed (↑leaf : Int) m (18 : Nat)))) })] }] [.keep [10, 32, 25, 9, 8, 0, 1, 2, 3] [10, 31, 8]] (by kernel_rfl) (s' := AS.mk [(10, AV.addr 10 0), (32, AV.agg [ai (↑leaf : Int), AV.ref 31, AV.nil]), (25, ao (decide ((↑leaf : Int) ≥ (↑((2 : Nat) ^ h) : Int)))), (9, ai 0), (8, AV.addr 8 0), (0, aw seed), (1, ai (↑h : Int)), (2, ai (↑leaf : Int)), (3, aw m)] [(10, Row.mk 1 false true [ai (↑leaf : Int), AV.ref 31, AV.nil]), (31, Row.mk 1 true false (wordsA (signL seed (↑leaf : Int) m (18 : Nat)))), (8, Row.mk 1 false true [ai 0, AV.nil, AV.nil])]) (C := [Ret Try.prog (32 : Nat) [aw seed, ai (↑leaf : Int), aw m] (AV.own 1 (wordsA (signL seed (↑leaf : Int) m (18 : Nat)))), valR (wordsA (signL seed (↑leaf : Int) m (18 : Nat))), (3 : Nat) ≤ (3 : Nat)]) (by kernel_rfl) ⟨(refsign1_ret (seed) ((↑leaf : Int)) (m)), (valR_words _), (by omega), trivial⟩ ?_
  refine AWP.seq (by kernel_rfl) ?_
  refine AWP.regsK 1 [{  }] (by kernel_rfl) (s' := AS.mk [(11, ai 0), (10, AV.addr 10 0), (32, AV.agg [ai (↑leaf : Int), AV.ref 31, AV.nil]), (25, ao (decide ((↑leaf : Int) ≥ (↑((2 : Nat) ^ h) : Int)))), (9, ai 0), (8, AV.addr 8 0), (0, aw seed), (1, ai (↑h : Int)), (2, ai (↑leaf : Int)), (3, aw m)] [(10, Row.mk 1 false true [ai (↑leaf : Int), AV.ref 31, AV.nil]), (31, Row.mk 1 true false (wordsA (signL seed (↑leaf : Int) m (18 : Nat)))), (8, Row.mk 1 false true [ai 0, AV.nil, AV.nil])]) (C := []) (by kernel_rfl) trivial ?_
  refine AWP.block (id := 0) (by kernel_rfl) ?_
  refine AWP.weak (Weaks.cnil 10 2 49 1 (r := ⟨1, false, true, [ai leaf, .ref 31, .nil]⟩) (by kernel_rfl) rfl rfl (by kernel_rfl)) ?_
  refine AWP.loop (fun (k : Nat) => (⟨[(10, AV.addr 10 0), (32, AV.agg [ai (↑leaf : Int), AV.ref 31, AV.nil]), (25, ao (decide ((↑leaf : Int) ≥ (↑((2 : Nat) ^ h) : Int)))), (9, ai 0), (8, AV.addr 8 0), (0, aw seed), (1, ai (↑h : Int)), (2, ai (↑leaf : Int)), (3, aw m), (11, ai k)], [(31, ⟨1, true, false, wordsA (signL seed (↑leaf : Int) m (18 : Nat))⟩), (8, ⟨1, false, true, [ai 0, AV.nil, AV.nil]⟩), (10, ⟨1, false, true, [ai leaf, AV.ref 31, AV.ref 49]⟩), (49, ⟨1, true, false, wordsA (pathW seed leaf k)⟩)]⟩ : AS)) (fun k => (k ≤ h)) (fun k => (h - k)) (by kernel_rfl) (0) ?_ (Weaks.of [.keep [10, 32, 25, 9, 8, 0, 1, 2, 3, 11] [31, 8, 10, 49]] (s1 := AS.mk [(10, AV.addr 10 0), (32, AV.agg [ai (↑leaf : Int), AV.ref 31, AV.nil]), (25, ao (decide ((↑leaf : Int) ≥ (↑((2 : Nat) ^ h) : Int)))), (9, ai 0), (8, AV.addr 8 0), (0, aw seed), (1, ai (↑h : Int)), (2, ai (↑leaf : Int)), (3, aw m), (11, ai 0)] [(31, Row.mk 1 true false (wordsA (signL seed (↑leaf : Int) m (18 : Nat)))), (8, Row.mk 1 false true [ai 0, AV.nil, AV.nil]), (10, Row.mk 1 false true [ai (↑leaf : Int), AV.ref 31, AV.ref 49]), (49, Row.mk 1 true false [])]) (by kernel_rfl) rfl) ?_
  · omega
  intro k hk
  refine AWP.seq (by kernel_rfl) ?_
  refine AWP.regsP 1 [{  }] [.keep [35, 10, 32, 25, 9, 8, 0, 1, 2, 3, 11] [31, 8, 10, 49]] (by kernel_rfl) (s' := AS.mk [(35, ao (decide ((↑k : Int) < (↑h : Int)))), (10, AV.addr 10 0), (32, AV.agg [ai (↑leaf : Int), AV.ref 31, AV.nil]), (25, ao (decide ((↑leaf : Int) ≥ (↑((2 : Nat) ^ h) : Int)))), (9, ai 0), (8, AV.addr 8 0), (0, aw seed), (1, ai (↑h : Int)), (2, ai (↑leaf : Int)), (3, aw m), (11, ai (↑k : Int))] [(31, Row.mk 1 true false (wordsA (signL seed (↑leaf : Int) m (18 : Nat)))), (8, Row.mk 1 false true [ai 0, AV.nil, AV.nil]), (10, Row.mk 1 false true [ai (↑leaf : Int), AV.ref 31, AV.ref 49]), (49, Row.mk 1 true false (wordsA (pathW seed leaf k)))]) (C := []) (by kernel_rfl) trivial ?_
  refine AWP.condD (x := .tmp 35) (p := (↑k : Int) < (↑h : Int)) (by kernel_rfl) (by kernel_rfl) (fun g => ?_) (fun g => ?_)
  · have hk4 : k ≤ 4 := by omega
    have hs := shr_leaf leaf k hk4
    have hle : leaf / 2 ^ k ≤ leaf := Nat.div_le_self ..
    have hq : leaf / 2 ^ k < 16 := by omega
    have hx := xor_one _ hq
    have hlt := xor_lt _ hq
    have ep := pathW_succ seed leaf k
    have hw1 : (0 : Int) ≤ wv (u64 (k : Int)) := Int.natCast_nonneg _
    have hn := refnode_ret seed k (leaf / 2 ^ k ^^^ 1) hk4 (Nat.lt_of_lt_of_le hlt (Nat.le_trans (by decide : 16 ≤ 2 ^ 36) (Nat.pow_le_pow_right (by decide) (by omega))))
    generalize leaf / 2 ^ k ^^^ 1 = x at *
    generalize nodeW seed k x = r at *
    generalize leaf / 2 ^ k = q at *
    refine AWP.skip (by kernel_rfl) ?_
    refine then_n ?_
    refine AWP.seq (by kernel_rfl) ?_
    refine AWP.block (id := 1) (by kernel_rfl) ?_
    refine AWP.reg { hs := [(6, { av := some (aw (u64 (↑k : Int))) }), (7, { av := some (ai (↑q : Int)) }), (8, { av := some (ai (↑x : Int)) }), (9, { av := some (aw r) }), (10, { av := some (AV.arr (wordsA [r])) }), (11, { av := some (AV.arr (wordsA (pathW seed leaf k ++ [r]))) })], T := 11 } (s' := AS.mk [(50, AV.addr 10 2), (49, AV.ref 49), (38, AV.addr 10 2), (39, AV.dead), (40, aw seed), (41, ai (↑k : Int)), (42, ai (↑leaf : Int)), (43, ai (↑k : Int)), (44, aw (u64 (↑k : Int))), (45, ai (↑q : Int)), (46, ai (↑x : Int)), (47, aw r), (48, AV.sl 1 (wordsA [r])), (35, ao (decide ((↑k : Int) < (↑h : Int)))), (10, AV.addr 10 0), (32, AV.agg [ai (↑leaf : Int), AV.ref 31, AV.nil]), (25, ao (decide ((↑leaf : Int) ≥ (↑((2 : Nat) ^ h) : Int)))), (9, ai 0), (8, AV.addr 8 0), (0, aw seed), (1, ai (↑h : Int)), (2, ai (↑leaf : Int)), (3, aw m), (11, ai (↑k : Int))] [(10, Row.mk 1 false true [ai (↑leaf : Int), AV.ref 31, AV.ref 49]), (49, Row.mk 1 true false (wordsA (pathW seed leaf k ++ [r]))), (31, Row.mk 1 true false (wordsA (signL seed (↑leaf : Int) m (18 : Nat)))), (8, Row.mk 1 false true [ai 0, AV.nil, AV.nil])]) (C := [AV.val (Value.int .u64 (IntKind.u64.wrap (↑k : Int))) = aw (u64 (↑k : Int)), ai ((↑leaf : Int).fdiv ((2 : Int) ^ min (wv (u64 (↑k : Int))).toNat IntKind.i64.bits)) = ai (↑q : Int), (0 : Int) ≤ wv (u64 (↑k : Int)), ai (IntKind.i64.wrap (↑(BitVec.ofInt IntKind.i64.bits (↑q : Int) ^^^ BitVec.ofInt IntKind.i64.bits (1 : Int)).toNat : Int)) = ai (↑x : Int), Ret Try.prog (28 : Nat) [aw seed, ai (↑k : Int), ai (↑x : Int)] (aw r), [aw r] = wordsA [r], wordsA (pathW seed leaf k) ++ wordsA [r] = wordsA (pathW seed leaf k ++ [r]), ((wordsA (pathW seed leaf k)).length + (wordsA [r]).length) * (8 : Nat) ≤ (140737488355328 : Nat), (3 : Nat) ≤ (3 : Nat)]) (by kernel_rfl) ⟨(avw_conv ((↑k : Int))), (congrArg (fun n => AV.val (.int .i64 n)) hs), (by assumption), (congrArg (fun n => AV.val (.int .i64 n)) hx), (hn), rfl, (wordsA_app _ _), (by simp only [wordsA_len, List.length_cons, List.length_nil, pathW_len]; omega), (by omega), trivial⟩ ?_
    refine inb_n ?_
    refine then_n ?_
    refine AWP.reg { hs := [(1, { av := some (ai ((↑k : Int) + (1 : Int))) })] } (s' := AS.mk [(11, ai ((↑k : Int) + (1 : Int))), (37, ai ((↑k : Int) + (1 : Int))), (36, ai (↑k : Int)), (50, AV.addr 10 2), (49, AV.ref 49), (38, AV.addr 10 2), (39, AV.dead), (40, aw seed), (41, ai (↑k : Int)), (42, ai (↑leaf : Int)), (43, ai (↑k : Int)), (44, aw (u64 (↑k : Int))), (45, ai (↑q : Int)), (46, ai (↑x : Int)), (47, aw r), (48, AV.sl 1 (wordsA [r])), (35, ao (decide ((↑k : Int) < (↑h : Int)))), (10, AV.addr 10 0), (32, AV.agg [ai (↑leaf : Int), AV.ref 31, AV.nil]), (25, ao (decide ((↑leaf : Int) ≥ (↑((2 : Nat) ^ h) : Int)))), (9, ai 0), (8, AV.addr 8 0), (0, aw seed), (1, ai (↑h : Int)), (2, ai (↑leaf : Int)), (3, aw m)] [(10, Row.mk 1 false true [ai (↑leaf : Int), AV.ref 31, AV.ref 49]), (49, Row.mk 1 true false (wordsA (pathW seed leaf k ++ [r]))), (31, Row.mk 1 true false (wordsA (signL seed (↑leaf : Int) m (18 : Nat)))), (8, Row.mk 1 false true [ai 0, AV.nil, AV.nil])]) (C := [ai (IntKind.i64.wrap ((↑k : Int) + (1 : Int))) = ai ((↑k : Int) + (1 : Int))]) (by kernel_rfl) ⟨(av_i64 (by omega) (by omega)), trivial⟩ ?_
    refine round_n (k + 1) (by omega) (by omega) (Weaks.of [.keep [10, 32, 25, 9, 8, 0, 1, 2, 3, 11] [31, 8, 10, 49]] (s1 := AS.mk [(10, AV.addr 10 0), (32, AV.agg [ai (↑leaf : Int), AV.ref 31, AV.nil]), (25, ao (decide ((↑leaf : Int) ≥ (↑((2 : Nat) ^ h) : Int)))), (9, ai 0), (8, AV.addr 8 0), (0, aw seed), (1, ai (↑h : Int)), (2, ai (↑leaf : Int)), (3, aw m), (11, ai ((↑k : Int) + (1 : Int)))] [(31, Row.mk 1 true false (wordsA (signL seed (↑leaf : Int) m (18 : Nat)))), (8, Row.mk 1 false true [ai 0, AV.nil, AV.nil]), (10, Row.mk 1 false true [ai (↑leaf : Int), AV.ref 31, AV.ref 49]), (49, Row.mk 1 true false (wordsA (pathW seed leaf k ++ [r])))]) (by kernel_rfl) (as_eq (f_cons rfl (f_cons rfl (f_cons rfl (f_cons rfl (f_cons rfl (f_cons rfl (f_cons rfl (f_cons rfl (f_cons rfl (f_cons (congrArg (fun n => AV.val (.int .i64 n)) (by omega)) rfl)))))))))) (h_cons rfl (h_cons rfl (h_cons rfl (h_cons (congrArg wordsA ep.symm) rfl))))))
  · have e : k = h := by omega
    subst e
    refine AWP.exit (id := 0) (by kernel_rfl) ?_
    refine then_e ?_
    refine round_e ?_
    refine inb_e ?_
    refine then_n ?_
    refine AWP.regsP 1 [{  }] [.keep [9, 35, 10, 32, 25, 8, 0, 1, 2, 3, 11] [8, 31, 10, 49]] (by kernel_rfl) (s' := AS.mk [(9, ai 0), (35, ao (decide ((↑k : Int) < (↑k : Int)))), (10, AV.addr 10 0), (32, AV.agg [ai (↑leaf : Int), AV.ref 31, AV.nil]), (25, ao (decide ((↑leaf : Int) ≥ (↑((2 : Nat) ^ k) : Int)))), (8, AV.addr 8 0), (0, aw seed), (1, ai (↑k : Int)), (2, ai (↑leaf : Int)), (3, aw m), (11, ai (↑k : Int))] [(8, Row.mk 1 false true [ai (↑leaf : Int), AV.ref 31, AV.ref 49]), (31, Row.mk 1 true false (wordsA (signL seed (↑leaf : Int) m (18 : Nat)))), (10, Row.mk 1 false true [ai (↑leaf : Int), AV.ref 31, AV.ref 49]), (49, Row.mk 1 true false (wordsA (pathW seed leaf k)))]) (C := [(3 : Nat) ≤ (3 : Nat)]) (by kernel_rfl) ⟨(by omega), trivial⟩ ?_
    refine AWP.ret (by kernel_rfl) ?_
    refine Done.ret_ (C := [Value.int .i64 (↑leaf : Int) = Value.int .i64 (↑leaf : Int), wordsA (signL seed (↑leaf : Int) m (18 : Nat)) = wordsA (signL seed (↑leaf : Int) m (18 : Nat)), wordsA (pathW seed leaf k) = wordsA (pathW seed leaf k), Value.int .i64 0 = Value.int .i64 0]) (by kernel_rfl) ⟨rfl, rfl, rfl, rfl, trivial⟩
/-- There is no such leaf. -/
def badL (h leaf : Int) : Prop := badH h ∨ leaf < 0 ∨ ((2 ^ h.toNat : Nat) : Int) ≤ leaf
instance (h leaf : Int) : Decidable (badL h leaf) := by unfold badL; infer_instance
/-- The signature of a word with a leaf. -/
def sgE (h leaf : Int) : Int := if badL h leaf then 9 else 0
def sgL (h leaf : Int) : Int := if badL h leaf then 0 else leaf
def sgC (seed : UInt64) (h leaf : Int) (m : UInt64) : List UInt64 := if badL h leaf then [] else signL seed leaf m 18
def sgP (seed : UInt64) (h leaf : Int) : List UInt64 := if badL h leaf then [] else pathW seed leaf.toNat h.toNat
theorem refsign_ret (seed : UInt64) (h leaf : Int) (m : UInt64) : Ret Try.prog 14 [aw seed, ai h, ai leaf, aw m] (.tup [.agg [ai (sgL h leaf), .own 1 (wordsA (sgC seed h leaf m)), .own 1 (wordsA (sgP seed h leaf))], ai (sgE h leaf)]) := by
  by_cases hbad : badL h leaf
  · have e1 : sgE h leaf = 9 := if_pos hbad
    have e2 : sgL h leaf = 0 := if_pos hbad
    have e3 : sgC seed h leaf m = [] := if_pos hbad
    have e4 : sgP seed h leaf = [] := if_pos hbad
    rw [e1, e2, e3, e4]
    unfold badL at hbad
    by_cases hb : badH h
    · refine Ret.of_fn Try.func14 (by kernel_rfl) 52 (by kernel_rfl) (by kernel_rfl) ?_
      refine AWP.regsK 1 [{  }] (by kernel_rfl) (s' := AS.mk [(9, ai 0), (8, AV.addr 8 0), (0, aw seed), (1, ai h), (2, ai leaf), (3, aw m)] [(8, Row.mk 1 false true [ai 0, AV.nil, AV.nil])]) (C := []) (by kernel_rfl) trivial ?_
      refine AWP.seq (by kernel_rfl) ?_
      refine AWP.regsP 1 [{ hs := [(1, { av := some (ao (!decide (badH h))) })] }] [.keep [25, 9, 8, 0, 1, 2, 3] [8]] (by kernel_rfl) (s' := AS.mk [(25, ao true), (9, ai 0), (8, AV.addr 8 0), (0, aw seed), (1, ai h), (2, ai leaf), (3, aw m)] [(8, Row.mk 1 false true [ai 0, AV.nil, AV.nil])]) (C := [Ret Try.prog (27 : Nat) [ai h] (ao (!decide (badH h))), (!!decide (badH h)) = true, (!!decide (badH h)) = true, (!!decide (badH h)) = true, true = true, true = true, true = true, true = true, true = true, true = true]) (by kernel_rfl) ⟨(refheight_ret (h)), (by simp_all), (by simp_all), (by simp_all), rfl, rfl, rfl, rfl, rfl, rfl, trivial⟩ ?_
      refine AWP.condT (x := .tmp 25) (b := true) (by kernel_rfl) (by kernel_rfl) rfl ?_
      refine AWP.regsP 1 [{  }] [.keep [9, 25, 8, 0, 1, 2, 3] [8]] (by kernel_rfl) (s' := AS.mk [(9, ai 9), (25, ao true), (8, AV.addr 8 0), (0, aw seed), (1, ai h), (2, ai leaf), (3, aw m)] [(8, Row.mk 1 false true [ai 0, AV.nil, AV.nil])]) (C := [(3 : Nat) ≤ (3 : Nat)]) (by kernel_rfl) ⟨(by omega), trivial⟩ ?_
      refine AWP.ret (by kernel_rfl) ?_
      refine then_r ?_
      refine Done.ret_ (C := [Value.int .i64 0 = Value.int .i64 0, wordsA [] = [], wordsA [] = [], Value.int .i64 9 = Value.int .i64 9]) (by kernel_rfl) ⟨rfl, rfl, rfl, rfl, trivial⟩
    have hb2 : 0 ≤ h ∧ h ≤ 4 := by unfold badH at hb; omega
    obtain ⟨k, rfl⟩ := Int.eq_ofNat_of_zero_le hb2.1
    rw [Int.toNat_natCast] at hbad
    by_cases hlt : leaf < 0
    · refine Ret.of_fn Try.func14 (by kernel_rfl) 52 (by kernel_rfl) (by kernel_rfl) ?_
      refine AWP.regsK 1 [{  }] (by kernel_rfl) (s' := AS.mk [(9, ai 0), (8, AV.addr 8 0), (0, aw seed), (1, ai (↑k : Int)), (2, ai leaf), (3, aw m)] [(8, Row.mk 1 false true [ai 0, AV.nil, AV.nil])]) (C := []) (by kernel_rfl) trivial ?_
      refine AWP.seq (by kernel_rfl) ?_
      refine AWP.regsP 1 [{ hs := [(1, { av := some (ao (!decide (badH (↑k : Int)))) }), (4, { g := false }), (5, { g := false }), (6, { b := false })] }] [.keep [25, 9, 8, 0, 1, 2, 3] [8]] (by kernel_rfl) (s' := AS.mk [(25, ao true), (9, ai 0), (8, AV.addr 8 0), (0, aw seed), (1, ai (↑k : Int)), (2, ai leaf), (3, aw m)] [(8, Row.mk 1 false true [ai 0, AV.nil, AV.nil])]) (C := [Ret Try.prog (27 : Nat) [ai (↑k : Int)] (ao (!decide (badH (↑k : Int)))), (!!decide (badH (↑k : Int))) = false, (!!decide (badH (↑k : Int))) = false, (!!decide (badH (↑k : Int))) = false, decide (leaf < (0 : Int)) = true, decide (leaf < (0 : Int)) = true, decide (leaf < (0 : Int)) = true, decide (leaf < (0 : Int)) = true, decide (leaf < (0 : Int)) = true, decide (leaf < (0 : Int)) = true]) (by kernel_rfl) ⟨(refheight_ret ((↑k : Int))), (by simp_all), (by simp_all), (by simp_all), (decide_eq_true (by omega)), (decide_eq_true (by omega)), (decide_eq_true (by omega)), (decide_eq_true (by omega)), (decide_eq_true (by omega)), (decide_eq_true (by omega)), trivial⟩ ?_
      refine AWP.condT (x := .tmp 25) (b := true) (by kernel_rfl) (by kernel_rfl) rfl ?_
      refine AWP.regsP 1 [{  }] [.keep [9, 25, 8, 0, 1, 2, 3] [8]] (by kernel_rfl) (s' := AS.mk [(9, ai 9), (25, ao true), (8, AV.addr 8 0), (0, aw seed), (1, ai (↑k : Int)), (2, ai leaf), (3, aw m)] [(8, Row.mk 1 false true [ai 0, AV.nil, AV.nil])]) (C := [(3 : Nat) ≤ (3 : Nat)]) (by kernel_rfl) ⟨(by omega), trivial⟩ ?_
      refine AWP.ret (by kernel_rfl) ?_
      refine then_r ?_
      refine Done.ret_ (C := [Value.int .i64 0 = Value.int .i64 0, wordsA [] = [], wordsA [] = [], Value.int .i64 9 = Value.int .i64 9]) (by kernel_rfl) ⟨rfl, rfl, rfl, rfl, trivial⟩
    have hge : ((2 ^ k : Nat) : Int) ≤ leaf := by rcases hbad with h | h | h <;> first | exact absurd h hb | exact absurd h hlt | exact h
    have hp : 2 ^ k ≤ 16 := Nat.pow_le_pow_right (by decide) (by omega : k ≤ 4)
    have hsh : IntKind.i64.wrap (1 * 2 ^ min (wv (u64 (k : Int))).toNat IntKind.i64.bits) = ((2 ^ k : Nat) : Int) := by
      rcases (show k = 0 ∨ k = 1 ∨ k = 2 ∨ k = 3 ∨ k = 4 by omega) with rfl | rfl | rfl | rfl | rfl <;> decide +kernel
    have hw0 : (0 : Int) ≤ wv (u64 (k : Int)) := Int.natCast_nonneg _
    generalize 2 ^ k = p2 at *
    refine Ret.of_fn Try.func14 (by kernel_rfl) 52 (by kernel_rfl) (by kernel_rfl) ?_
    refine AWP.regsK 1 [{  }] (by kernel_rfl) (s' := AS.mk [(9, ai 0), (8, AV.addr 8 0), (0, aw seed), (1, ai (↑k : Int)), (2, ai leaf), (3, aw m)] [(8, Row.mk 1 false true [ai 0, AV.nil, AV.nil])]) (C := []) (by kernel_rfl) trivial ?_
    refine AWP.seq (by kernel_rfl) ?_
    refine AWP.regsP 1 [{ hs := [(1, { av := some (ao (!decide (badH (↑k : Int)))) }), (4, { g := false }), (5, { g := false }), (6, { b := false }), (8, { g := false }), (9, { g := false }), (10, { av := some (aw (u64 (↑k : Int))), g := false }), (11, { av := some (ai (↑p2 : Int)), g := false }), (12, { g := false }), (13, { b := false })] }] [.keep [25, 9, 8, 0, 1, 2, 3] [8]] (by kernel_rfl) (s' := AS.mk [(25, ao (decide (leaf ≥ (↑p2 : Int)))), (9, ai 0), (8, AV.addr 8 0), (0, aw seed), (1, ai (↑k : Int)), (2, ai leaf), (3, aw m)] [(8, Row.mk 1 false true [ai 0, AV.nil, AV.nil])]) (C := [Ret Try.prog (27 : Nat) [ai (↑k : Int)] (ao (!decide (badH (↑k : Int)))), (!!decide (badH (↑k : Int))) = false, (!!decide (badH (↑k : Int))) = false, (!!decide (badH (↑k : Int))) = false, decide (leaf < (0 : Int)) = false, decide (leaf < (0 : Int)) = false, decide (leaf < (0 : Int)) = false, AV.val (Value.int .u64 (IntKind.u64.wrap (↑k : Int))) = aw (u64 (↑k : Int)), decide (leaf < (0 : Int)) = false, ai (IntKind.i64.wrap ((1 : Int) * (2 : Int) ^ min (wv (u64 (↑k : Int))).toNat IntKind.i64.bits)) = ai (↑p2 : Int), (0 : Int) ≤ wv (u64 (↑k : Int)), decide (leaf < (0 : Int)) = false, decide (leaf < (0 : Int)) = false]) (by kernel_rfl) ⟨(refheight_ret ((↑k : Int))), (by simp_all), (by simp_all), (by simp_all), (decide_eq_false (by omega)), (decide_eq_false (by omega)), (decide_eq_false (by omega)), (avw_conv ((↑k : Int))), (decide_eq_false (by omega)), (congrArg (fun n => AV.val (.int .i64 n)) hsh), (by assumption), (decide_eq_false (by omega)), (decide_eq_false (by omega)), trivial⟩ ?_
    refine AWP.condT (x := .tmp 25) (b := decide (leaf ≥ (↑p2 : Int))) (by kernel_rfl) (by kernel_rfl) (decide_eq_true (by omega)) ?_
    refine AWP.regsP 1 [{  }] [.keep [9, 25, 8, 0, 1, 2, 3] [8]] (by kernel_rfl) (s' := AS.mk [(9, ai 9), (25, ao (decide (leaf ≥ (↑p2 : Int)))), (8, AV.addr 8 0), (0, aw seed), (1, ai (↑k : Int)), (2, ai leaf), (3, aw m)] [(8, Row.mk 1 false true [ai 0, AV.nil, AV.nil])]) (C := [(3 : Nat) ≤ (3 : Nat)]) (by kernel_rfl) ⟨(by omega), trivial⟩ ?_
    refine AWP.ret (by kernel_rfl) ?_
    refine then_r ?_
    refine Done.ret_ (C := [Value.int .i64 0 = Value.int .i64 0, wordsA [] = [], wordsA [] = [], Value.int .i64 9 = Value.int .i64 9]) (by kernel_rfl) ⟨rfl, rfl, rfl, rfl, trivial⟩
  · have e1 : sgE h leaf = 0 := if_neg hbad
    have e2 : sgL h leaf = leaf := if_neg hbad
    have e3 : sgC seed h leaf m = signL seed leaf m 18 := if_neg hbad
    have e4 : sgP seed h leaf = pathW seed leaf.toNat h.toNat := if_neg hbad
    rw [e1, e2, e3, e4]
    unfold badL badH at hbad
    have hb2 : 0 ≤ h ∧ h ≤ 4 ∧ 0 ≤ leaf := by omega
    obtain ⟨k, rfl⟩ := Int.eq_ofNat_of_zero_le hb2.1
    obtain ⟨i, rfl⟩ := Int.eq_ofNat_of_zero_le hb2.2.2
    rw [Int.toNat_natCast, Int.toNat_natCast]
    rw [Int.toNat_natCast] at hbad
    exact refsign_ok seed k i m (by omega) (by omega)
end Go.Proofs.Ytjmmhpiadafahaa
