/-
  The contract of treekey.Sign. No condition.
-/
import Derived.Test.YtjmmhpiadafahaaTk5
import Derived.Test.YtjmmhpiadafahaaTk3
namespace Go.Proofs.Ytjmmhpiadafahaa
open Go.RowKit
set_option maxRecDepth 100000
set_option maxHeartbeats 4000000
set_option linter.unusedVariables false
--@au0

theorem sign_bad (seed : UInt64) (h leaf : Int) (m : UInt64) (hbad : badL h leaf) : Ret Try.prog 13 [aw seed, ai h, ai leaf, aw m] (.tup [.agg [ai 0, .sl 1 (wordsA []), .own 1 (wordsA [])], ai 9]) := by
  unfold badL at hbad
  by_cases hb : badH h
  · refine Ret.of_fn Try.func13 (by kernel_rfl) 48 (by kernel_rfl) (by kernel_rfl) ?_
    refine AWP.regsK 1 [{  }] (by kernel_rfl) (s' := AS.mk [(9, ai 0), (8, AV.addr 8 0), (6, AV.addr 6 0), (5, AV.addr 5 0), (0, aw seed), (1, ai h), (2, ai leaf), (3, aw m)] [(8, Row.mk 1 false true [ai 0, AV.nil, AV.nil]), (6, Row.mk 1 false true [ai leaf]), (5, Row.mk 1 false true [ai h])]) (C := []) (by kernel_rfl) trivial ?_
    refine AWP.seq (by kernel_rfl) ?_
    refine AWP.regsP 1 [{ hs := [(1, { av := some (ao (decide (badH h))) })] }] [.keep [19, 9, 8, 6, 5, 0, 1, 2, 3] [8, 6, 5]] (by kernel_rfl) (s' := AS.mk [(19, ao true), (9, ai 0), (8, AV.addr 8 0), (6, AV.addr 6 0), (5, AV.addr 5 0), (0, aw seed), (1, ai h), (2, ai leaf), (3, aw m)] [(8, Row.mk 1 false true [ai 0, AV.nil, AV.nil]), (6, Row.mk 1 false true [ai leaf]), (5, Row.mk 1 false true [ai h])]) (C := [Ret Try.prog (25 : Nat) [ai h] (ao (decide (badH h))), decide (badH h) = true, decide (badH h) = true, decide (badH h) = true, decide (badH h) = true]) (by kernel_rfl) ⟨(high_ret (h)), (decide_eq_true (by omega)), (decide_eq_true (by omega)), (decide_eq_true (by omega)), (decide_eq_true (by omega)), trivial⟩ ?_
    refine AWP.condT (x := .tmp 19) (b := true) (by kernel_rfl) (by kernel_rfl) rfl ?_
    refine AWP.regsP 1 [{  }] [.keep [9, 19, 8, 6, 5, 0, 1, 2, 3] [8, 6, 5]] (by kernel_rfl) (s' := AS.mk [(9, ai 9), (19, ao true), (8, AV.addr 8 0), (6, AV.addr 6 0), (5, AV.addr 5 0), (0, aw seed), (1, ai h), (2, ai leaf), (3, aw m)] [(8, Row.mk 1 false true [ai 0, AV.nil, AV.nil]), (6, Row.mk 1 false true [ai leaf]), (5, Row.mk 1 false true [ai h])]) (C := [(3 : Nat) ≤ (3 : Nat)]) (by kernel_rfl) ⟨(by omega), trivial⟩ ?_
    refine AWP.ret (by kernel_rfl) ?_
    refine then_r ?_
    refine Done.ret_ (C := [Value.int .i64 0 = Value.int .i64 0, wordsA [] = [], wordsA [] = [], Value.int .i64 9 = Value.int .i64 9]) (by kernel_rfl) ⟨rfl, rfl, rfl, rfl, trivial⟩
  have hb2 : 0 ≤ h ∧ h ≤ 4 := by unfold badH at hb; omega
  obtain ⟨k, rfl⟩ := Int.eq_ofNat_of_zero_le hb2.1
  rw [Int.toNat_natCast] at hbad
  have ho : leaf < 0 ∨ ((2 ^ k : Nat) : Int) ≤ leaf := hbad.resolve_left hb
  have hk : k ≤ 4 := by omega
  refine Ret.of_fn Try.func13 (by kernel_rfl) 48 (by kernel_rfl) (by kernel_rfl) ?_
  refine AWP.regsK 1 [{  }] (by kernel_rfl) (s' := AS.mk [(9, ai 0), (8, AV.addr 8 0), (6, AV.addr 6 0), (5, AV.addr 5 0), (0, aw seed), (1, ai (↑k : Int)), (2, ai leaf), (3, aw m)] [(8, Row.mk 1 false true [ai 0, AV.nil, AV.nil]), (6, Row.mk 1 false true [ai leaf]), (5, Row.mk 1 false true [ai (↑k : Int)])]) (C := []) (by kernel_rfl) trivial ?_
  refine AWP.seq (by kernel_rfl) ?_
  refine AWP.regsP 1 [{ hs := [(1, { av := some (ao (decide (badH (↑k : Int)))) }), (3, { g := false }), (4, { g := false }), (5, { av := some (ao (decide (leaf < (0 : Int) ∨ (↑((2 : Nat) ^ k) : Int) ≤ leaf))), g := false }), (6, { b := false })] }] [.keep [19, 9, 8, 6, 5, 0, 1, 2, 3] [8, 6, 5]] (by kernel_rfl) (s' := AS.mk [(19, ao (decide (leaf < (0 : Int) ∨ (↑((2 : Nat) ^ k) : Int) ≤ leaf))), (9, ai 0), (8, AV.addr 8 0), (6, AV.addr 6 0), (5, AV.addr 5 0), (0, aw seed), (1, ai (↑k : Int)), (2, ai leaf), (3, aw m)] [(8, Row.mk 1 false true [ai 0, AV.nil, AV.nil]), (6, Row.mk 1 false true [ai leaf]), (5, Row.mk 1 false true [ai (↑k : Int)])]) (C := [Ret Try.prog (25 : Nat) [ai (↑k : Int)] (ao (decide (badH (↑k : Int)))), decide (badH (↑k : Int)) = false, decide (badH (↑k : Int)) = false, decide (badH (↑k : Int)) = false, Ret Try.prog (30 : Nat) [ai leaf, ai (↑k : Int)] (ao (decide (leaf < (0 : Int) ∨ (↑((2 : Nat) ^ k) : Int) ≤ leaf))), decide (badH (↑k : Int)) = false]) (by kernel_rfl) ⟨(high_ret ((↑k : Int))), (decide_eq_false (by omega)), (decide_eq_false (by omega)), (decide_eq_false (by omega)), (outside_ret (leaf) (k) (by assumption)), (decide_eq_false (by omega)), trivial⟩ ?_
  refine AWP.condT (x := .tmp 19) (b := decide (leaf < (0 : Int) ∨ (↑((2 : Nat) ^ k) : Int) ≤ leaf)) (by kernel_rfl) (by kernel_rfl) (decide_eq_true (by omega)) ?_
  refine AWP.regsP 1 [{  }] [.keep [9, 19, 8, 6, 5, 0, 1, 2, 3] [8, 6, 5]] (by kernel_rfl) (s' := AS.mk [(9, ai 9), (19, ao (decide (leaf < (0 : Int) ∨ (↑((2 : Nat) ^ k) : Int) ≤ leaf))), (8, AV.addr 8 0), (6, AV.addr 6 0), (5, AV.addr 5 0), (0, aw seed), (1, ai (↑k : Int)), (2, ai leaf), (3, aw m)] [(8, Row.mk 1 false true [ai 0, AV.nil, AV.nil]), (6, Row.mk 1 false true [ai leaf]), (5, Row.mk 1 false true [ai (↑k : Int)])]) (C := [(3 : Nat) ≤ (3 : Nat)]) (by kernel_rfl) ⟨(by omega), trivial⟩ ?_
  refine AWP.ret (by kernel_rfl) ?_
  refine then_r ?_
  refine Done.ret_ (C := [Value.int .i64 0 = Value.int .i64 0, wordsA [] = [], wordsA [] = [], Value.int .i64 9 = Value.int .i64 9]) (by kernel_rfl) ⟨rfl, rfl, rfl, rfl, trivial⟩
/-- The rows that treekey.Sign's loop keeps. -/
def sigI (seed : UInt64) (h leaf : Nat) (x : AV) (i : Nat) : List (Nat × Row) :=
  [(1000000000005, ⟨1, false, true, [ai (h : Int)]⟩), (1000000000006, ⟨1, false, true, [ai (leaf : Int)]⟩), (1000000000008, ⟨1, false, true, [ai 0, .nil, .nil]⟩), (1000000000010, ⟨1, false, true, [ai (leaf : Int), x, .ref 49]⟩), (49, ⟨1, true, false, wordsA (pathW seed leaf (min i h))⟩)]
def sigF (seed : UInt64) (h : Nat) (m : UInt64) : List (Nat × AV) :=
  [(29, .clo 45 [.ptr [ai (h : Int)] 0, .ptr [aw seed] 0]), (10, .addr 1000000000010 0), (9, ai 0), (8, .addr 1000000000008 0), (6, .addr 1000000000006 0), (5, .addr 1000000000005 0), (0, aw seed), (3, aw m)]
theorem sig_clos (seed : UInt64) (h leaf : Nat) (m : UInt64) (L : List AV) (i : Nat) (v : Value) : Clos [(v, .sl 1 L)] ⟨sigF seed h m, sigI seed h leaf (.val v) i⟩ ⟨sigF seed h m, sigI seed h leaf (.sl 1 L) i⟩ := by
  intro Z w0 n a w φ hs hr
  have h1 := hs.close_ 1000000000010 1 (r := ⟨1, false, true, [ai (leaf : Int), .val v, .ref 49]⟩) (x := .sl 1 L) (v := v) rfl rfl rfl (hr (v, .sl 1 L) (by simp))
  refine h1.congr fun i' => ?_
  show look (sigI seed h leaf (.sl 1 L) i) i' = look ((1000000000010, ⟨1, false, true, [ai (leaf : Int), .sl 1 L, .ref 49]⟩) :: [(1000000000005, ⟨1, false, true, [ai (h : Int)]⟩), (1000000000006, ⟨1, false, true, [ai (leaf : Int)]⟩), (1000000000008, ⟨1, false, true, [ai 0, .nil, .nil]⟩), (49, ⟨1, true, false, wordsA (pathW seed leaf (min i h))⟩)]) i'
  unfold sigI
  simp only [look_cons]
  by_cases e : 1000000000010 = i'
  · subst e; rfl
  · simp only [e, if_false]
theorem sig_open (seed : UInt64) (h leaf : Nat) (m : UInt64) (L : List AV) (Z : Zone) (w0 : World) (n : Nat) (a : Act) (w : World) (φ : Nat → Option Nat) (hs : SimO Z w0 n [] (AS.mk (sigF seed h m) [(1000000000005, ⟨1, false, true, [ai (h : Int)]⟩), (1000000000006, ⟨1, false, true, [ai (leaf : Int)]⟩), (1000000000008, ⟨1, false, true, [ai 0, .nil, .nil]⟩), (1000000000010, ⟨1, false, true, [ai (leaf : Int), .sl 1 L, .nil]⟩)]) a w φ) :
    ∃ (φ2 : Nat → Option Nat) (vs : List Value), vs.length = [AV.sl 1 L].length ∧ SimO Z w0 n [] ⟨sigF seed h m, sigI seed h leaf (.val (vs.headD default)) 0⟩ a w φ2 ∧ ∀ p ∈ vs.zip [AV.sl 1 L], Rep (Free Z w φ2 []) w p.1 p.2 := by
  obtain ⟨φ2, h2⟩ := (Weaks.cnil 1000000000010 2 49 1 (r := ⟨1, false, true, [ai (leaf : Int), .sl 1 L, .nil]⟩) rfl rfl rfl rfl) Z w0 n a w ⟨φ, hs⟩
  obtain ⟨v, h3, hr⟩ := h2.open_ 1000000000010 1 (r := ⟨1, false, true, [ai (leaf : Int), .sl 1 L, .ref 49]⟩) (x := .sl 1 L) rfl rfl rfl rfl
  refine ⟨φ2, [v], rfl, h3.congr fun i' => ?_, fun p hp => ?_⟩
  · show look (sigI seed h leaf (.val v) 0) i' = look [(1000000000010, ⟨1, false, true, [ai (leaf : Int), .val v, .ref 49]⟩), (49, ⟨1, true, false, []⟩), (1000000000005, ⟨1, false, true, [ai (h : Int)]⟩), (1000000000006, ⟨1, false, true, [ai (leaf : Int)]⟩), (1000000000008, ⟨1, false, true, [ai 0, .nil, .nil]⟩)] i'
    have e0 : wordsA (pathW seed leaf (min 0 h)) = [] := by simp [pathW, wordsA]
    unfold sigI
    rw [e0]
    simp only [look_cons]
    by_cases e : 1000000000010 = i'
    · subst e; rfl
    · simp only [e, if_false]
      by_cases e : 49 = i'
      · subst e; rfl
      · simp only [e, if_false]
  · obtain rfl : p = (v, .sl 1 L) := by simpa using hp
    exact hr
theorem shr_leafI (leaf k : Nat) (hk : k ≤ 4) : ((leaf : Int)).fdiv (2 ^ min ((k : Int)).toNat IntKind.i64.bits) = ((leaf / 2 ^ k : Nat) : Int) := by
  have e : (2 : Int) ^ min ((k : Int)).toNat IntKind.i64.bits = ((2 ^ k : Nat) : Int) := by
    rcases (show k = 0 ∨ k = 1 ∨ k = 2 ∨ k = 3 ∨ k = 4 by omega) with rfl | rfl | rfl | rfl | rfl <;> decide +kernel
  rw [e, Int.fdiv_eq_ediv_of_nonneg _ (Int.natCast_nonneg _)]; rfl
theorem xor_even (q m : Nat) (hm : m ≤ 8) (hq : q < 2 * m) : q ^^^ 1 < 2 * m := by
  have key : ∀ m : Fin 9, ∀ q : Fin 16, q.val < 2 * m.val → q.val ^^^ 1 < 2 * m.val := by decide +kernel
  exact key ⟨m, by omega⟩ ⟨q, by omega⟩ hq
theorem sign_ok (seed : UInt64) (h leaf : Nat) (m : UInt64) (hh : h ≤ 4) (hl : leaf < 2 ^ h) : Ret Try.prog 13 [aw seed, ai h, ai leaf, aw m] (.tup [.agg [ai leaf, .sl 1 (wordsA (signL seed leaf m 18)), .own 1 (wordsA (pathW seed leaf h))], ai 0]) := by
  have hb : ¬ badH (h : Int) := by unfold badH; omega
  have hp : 2 ^ h ≤ 16 := Nat.pow_le_pow_right (by decide) hh
  have ho : ¬ ((leaf : Int) < 0 ∨ ((2 ^ h : Nat) : Int) ≤ leaf) := by omega
  refine Ret.of_fn Try.func13 (by kernel_rfl) 48 (by kernel_rfl) (by kernel_rfl) ?_
  refine AWP.regsK 1 [{  }] (by kernel_rfl) (s' := AS.mk [(9, ai 0), (8, AV.addr 8 0), (6, AV.addr 6 0), (5, AV.addr 5 0), (0, aw seed), (1, ai (↑h : Int)), (2, ai (↑leaf : Int)), (3, aw m)] [(8, Row.mk 1 false true [ai 0, AV.nil, AV.nil]), (6, Row.mk 1 false true [ai (↑leaf : Int)]), (5, Row.mk 1 false true [ai (↑h : Int)])]) (C := []) (by kernel_rfl) trivial ?_
  refine AWP.seq (by kernel_rfl) ?_
  refine AWP.regsP 1 [{ hs := [(1, { av := some (ao (decide (badH (↑h : Int)))) }), (3, { g := false }), (4, { g := false }), (5, { av := some (ao (decide ((↑leaf : Int) < (0 : Int) ∨ (↑((2 : Nat) ^ h) : Int) ≤ (↑leaf : Int)))), g := false }), (6, { b := false })] }] [.keep [19, 9, 8, 6, 5, 0, 1, 2, 3] [8, 6, 5]] (by kernel_rfl) (s' := AS.mk [(19, ao (decide ((↑leaf : Int) < (0 : Int) ∨ (↑((2 : Nat) ^ h) : Int) ≤ (↑leaf : Int)))), (9, ai 0), (8, AV.addr 8 0), (6, AV.addr 6 0), (5, AV.addr 5 0), (0, aw seed), (1, ai (↑h : Int)), (2, ai (↑leaf : Int)), (3, aw m)] [(8, Row.mk 1 false true [ai 0, AV.nil, AV.nil]), (6, Row.mk 1 false true [ai (↑leaf : Int)]), (5, Row.mk 1 false true [ai (↑h : Int)])]) (C := [Ret Try.prog (25 : Nat) [ai (↑h : Int)] (ao (decide (badH (↑h : Int)))), decide (badH (↑h : Int)) = false, decide (badH (↑h : Int)) = false, decide (badH (↑h : Int)) = false, Ret Try.prog (30 : Nat) [ai (↑leaf : Int), ai (↑h : Int)] (ao (decide ((↑leaf : Int) < (0 : Int) ∨ (↑((2 : Nat) ^ h) : Int) ≤ (↑leaf : Int)))), decide (badH (↑h : Int)) = false]) (by kernel_rfl) ⟨(high_ret ((↑h : Int))), (decide_eq_false (by omega)), (decide_eq_false (by omega)), (decide_eq_false (by omega)), (outside_ret ((↑leaf : Int)) (h) (by assumption)), (decide_eq_false (by omega)), trivial⟩ ?_
  refine AWP.condF (x := .tmp 19) (b := decide ((↑leaf : Int) < (0 : Int) ∨ (↑((2 : Nat) ^ h) : Int) ≤ (↑leaf : Int))) (by kernel_rfl) (by kernel_rfl) (decide_eq_false (by omega)) ?_
  refine AWP.skip (by kernel_rfl) ?_
  refine then_n ?_
  refine AWP.seq (by kernel_rfl) ?_
  refine AWP.regW 7 [6] [(4, { av := some (AV.own 1 (wordsA (signL seed (↑leaf : Int) m (18 : Nat)))) })] (s' := AS.mk [(21, ai (↑leaf : Int)), (22, aw seed), (23, ai (↑leaf : Int)), (24, aw m), (25, AV.sl 1 (wordsA (signL seed (↑leaf : Int) m (18 : Nat)))), (26, AV.agg [ai (↑leaf : Int), AV.sl 1 (wordsA (signL seed (↑leaf : Int) m (18 : Nat))), AV.nil]), (10, AV.addr 10 0), (19, ao (decide ((↑leaf : Int) < (0 : Int) ∨ (↑((2 : Nat) ^ h) : Int) ≤ (↑leaf : Int)))), (9, ai 0), (8, AV.addr 8 0), (6, AV.addr 6 0), (5, AV.addr 5 0), (0, aw seed), (1, ai (↑h : Int)), (2, ai (↑leaf : Int)), (3, aw m)] [(10, Row.mk 1 false true [ai (↑leaf : Int), AV.sl 1 (wordsA (signL seed (↑leaf : Int) m (18 : Nat))), AV.nil]), (8, Row.mk 1 false true [ai 0, AV.nil, AV.nil]), (6, Row.mk 1 false true [ai (↑leaf : Int)]), (5, Row.mk 1 false true [ai (↑h : Int)])]) (C := [Ret Try.prog (31 : Nat) [aw seed, ai (↑leaf : Int), aw m] (AV.own 1 (wordsA (signL seed (↑leaf : Int) m (18 : Nat)))), valR (wordsA (signL seed (↑leaf : Int) m (18 : Nat))), ai (↑leaf : Int) = ai (↑leaf : Int), aw seed = aw seed, ai (↑leaf : Int) = ai (↑leaf : Int), aw m = aw m, AV.sl 1 (wordsA (signL seed (↑leaf : Int) m (18 : Nat))) = AV.sl 1 (wordsA (signL seed (↑leaf : Int) m (18 : Nat))), Ret Try.prog (31 : Nat) [aw seed, ai (↑leaf : Int), aw m] (AV.own 1 (wordsA (signL seed (↑leaf : Int) m (18 : Nat)))), valR (wordsA (signL seed (↑leaf : Int) m (18 : Nat))), AV.agg [ai (↑leaf : Int), AV.sl 1 (wordsA (signL seed (↑leaf : Int) m (18 : Nat))), AV.nil] = AV.agg [ai (↑leaf : Int), AV.sl 1 (wordsA (signL seed (↑leaf : Int) m (18 : Nat))), AV.nil], (3 : Nat) ≤ (3 : Nat)]) (by kernel_rfl) ⟨(sign1_ret (seed) ((↑leaf : Int)) (m)), (valR_words _), rfl, rfl, rfl, rfl, rfl, (sign1_ret (seed) ((↑leaf : Int)) (m)), (valR_words _), rfl, (by omega), trivial⟩ ?_
  refine then_n ?_
  refine AWP.wk [.keep [10, 19, 9, 8, 6, 5, 0, 1, 2, 3] [10, 8, 6, 5]] (s' := AS.mk [(10, AV.addr 10 0), (19, ao (decide ((↑leaf : Int) < (0 : Int) ∨ (↑((2 : Nat) ^ h) : Int) ≤ (↑leaf : Int)))), (9, ai 0), (8, AV.addr 8 0), (6, AV.addr 6 0), (5, AV.addr 5 0), (0, aw seed), (1, ai (↑h : Int)), (2, ai (↑leaf : Int)), (3, aw m)] [(10, Row.mk 1 false true [ai (↑leaf : Int), AV.sl 1 (wordsA (signL seed (↑leaf : Int) m (18 : Nat))), AV.nil]), (8, Row.mk 1 false true [ai 0, AV.nil, AV.nil]), (6, Row.mk 1 false true [ai (↑leaf : Int)]), (5, Row.mk 1 false true [ai (↑h : Int)])]) (by kernel_rfl) ?_
  refine AWP.seq (by kernel_rfl) ?_
  refine AWP.regsP 1 [{ hs := [(2, { av := some (AV.clo (45 : Nat) [AV.ptr [ai (↑h : Int)] (0 : Nat), AV.ptr [aw seed] (0 : Nat)]), b := false })] }] [.keep [29, 10, 19, 9, 8, 6, 5, 0, 1, 2, 3] [10, 8, 6, 5]] (by kernel_rfl) (s' := AS.mk [(29, AV.clo (45 : Nat) [AV.ptr [ai (↑h : Int)] (0 : Nat), AV.ptr [aw seed] (0 : Nat)]), (10, AV.addr 10 0), (19, ao (decide ((↑leaf : Int) < (0 : Int) ∨ (↑((2 : Nat) ^ h) : Int) ≤ (↑leaf : Int)))), (9, ai 0), (8, AV.addr 8 0), (6, AV.addr 6 0), (5, AV.addr 5 0), (0, aw seed), (1, ai (↑h : Int)), (2, ai (↑leaf : Int)), (3, aw m)] [(10, Row.mk 1 false true [ai (↑leaf : Int), AV.sl 1 (wordsA (signL seed (↑leaf : Int) m (18 : Nat))), AV.nil]), (8, Row.mk 1 false true [ai 0, AV.nil, AV.nil]), (6, Row.mk 1 false true [ai (↑leaf : Int)]), (5, Row.mk 1 false true [ai (↑h : Int)])]) (C := [Ret Try.prog (26 : Nat) [aw seed, ai (↑h : Int)] (AV.clo (45 : Nat) [AV.ptr [ai (↑h : Int)] (0 : Nat), AV.ptr [aw seed] (0 : Nat)])]) (by kernel_rfl) ⟨(levels_ret (seed) ((↑h : Int))), trivial⟩ ?_
  refine AWP.block (id := 0) (by kernel_rfl) ?_
  refine AWP.rangeO (by kernel_rfl) _ _ (levels_iter seed h hh) (by kernel_rfl) (by kernel_rfl) (by kernel_rfl) [(5, 1000000000005), (6, 1000000000006), (8, 1000000000008), (10, 1000000000010)] (by kernel_rfl) [.sl 1 (wordsA (signL seed leaf m 18))]
    (sigF seed h m) (fun vs i => sigI seed h leaf (.val (vs.headD default)) i) ⟨sigF seed h m, sigI seed h leaf (.sl 1 (wordsA (signL seed leaf m 18))) (h + 1)⟩
    (fun Z w0 a w φ hs => ?_) (fun vs _ => by kernel_rfl) (fun _ => by kernel_rfl) (by kernel_rfl) (fun vs i _ _ => ⟨closed_cons (closed_of rfl) (closed_cons (closed_of rfl) (closed_cons (closed_of rfl) (closed_cons (closed_of rfl) (closed_cons (closed_words _) closed_nil)))), by kernel_rfl⟩) (fun vs i hv hi => ?_) (fun vs hv => ?_) ?_
  · obtain ⟨φ1, h1⟩ := (Weaks.of [.keep [29, 10, 9, 8, 6, 5, 0, 3] [1000000000005, 1000000000006, 1000000000008, 1000000000010]] (s1 := AS.mk (sigF seed h m) [(1000000000005, ⟨1, false, true, [ai (h : Int)]⟩), (1000000000006, ⟨1, false, true, [ai (leaf : Int)]⟩), (1000000000008, ⟨1, false, true, [ai 0, .nil, .nil]⟩), (1000000000010, ⟨1, false, true, [ai (leaf : Int), .sl 1 (wordsA (signL seed leaf m 18)), .nil]⟩)]) (by kernel_rfl) rfl) Z w0 48 a w ⟨φ, hs⟩
    exact sig_open seed h leaf m _ Z w0 48 a w φ1 h1
  · obtain ⟨v, rfl⟩ := List.length_eq_one_iff.1 hv
    refine AWP.eqS (AS.mk ([(31, .sl 1 (wordsA (levW seed h i))), (30, ai (i : Int))] ++ sigF seed h m) [(1000000000005, ⟨1, false, true, [ai (h : Int)]⟩), (1000000000006, ⟨1, false, true, [ai (leaf : Int)]⟩), (1000000000008, ⟨1, false, true, [ai 0, .nil, .nil]⟩), (1000000000010, ⟨1, false, true, [ai (leaf : Int), .val v, .ref 49]⟩), (49, ⟨1, true, false, wordsA (pathW seed leaf (min i h))⟩)]) (by kernel_rfl) ?_
    rw [show min i h = i by omega]
    refine AWP.eqS (AS.mk [(31, .sl 1 (wordsA (levW seed h i))), (30, ai (i : Int)), (29, .clo 45 [.ptr [ai (h : Int)] 0, .ptr [aw seed] 0]), (10, .addr 1000000000010 0), (9, ai 0), (8, .addr 1000000000008 0), (6, .addr 1000000000006 0), (5, .addr 1000000000005 0), (0, aw seed), (3, aw m)] [(1000000000005, ⟨1, false, true, [ai (h : Int)]⟩), (1000000000006, ⟨1, false, true, [ai (leaf : Int)]⟩), (1000000000008, ⟨1, false, true, [ai 0, .nil, .nil]⟩), (1000000000010, ⟨1, false, true, [ai (leaf : Int), .val v, .ref 49]⟩), (49, ⟨1, true, false, wordsA (pathW seed leaf i)⟩)]) (by kernel_rfl) ?_
    refine AWP.regsK 1 [{  }] (by kernel_rfl) (s' := AS.mk [(11, ai (↑i : Int)), (31, AV.sl 1 (wordsA (levW seed h i))), (30, ai (↑i : Int)), (29, AV.clo (45 : Nat) [AV.ptr [ai (↑h : Int)] (0 : Nat), AV.ptr [aw seed] (0 : Nat)]), (10, AV.addr 1000000000010 0), (9, ai 0), (8, AV.addr 1000000000008 0), (6, AV.addr 1000000000006 0), (5, AV.addr 1000000000005 0), (0, aw seed), (3, aw m)] [(1000000000005, Row.mk 1 false true [ai (↑h : Int)]), (1000000000006, Row.mk 1 false true [ai (↑leaf : Int)]), (1000000000008, Row.mk 1 false true [ai 0, AV.nil, AV.nil]), (1000000000010, Row.mk 1 false true [ai (↑leaf : Int), AV.val v, AV.ref 49]), (49, Row.mk 1 true false (wordsA (pathW seed leaf i)))]) (C := []) (by kernel_rfl) trivial ?_
    refine AWP.reg {  } (s' := AS.mk [(12, AV.sl 1 (wordsA (levW seed h i))), (11, ai (↑i : Int)), (31, AV.sl 1 (wordsA (levW seed h i))), (30, ai (↑i : Int)), (29, AV.clo (45 : Nat) [AV.ptr [ai (↑h : Int)] (0 : Nat), AV.ptr [aw seed] (0 : Nat)]), (10, AV.addr 1000000000010 0), (9, ai 0), (8, AV.addr 1000000000008 0), (6, AV.addr 1000000000006 0), (5, AV.addr 1000000000005 0), (0, aw seed), (3, aw m)] [(1000000000005, Row.mk 1 false true [ai (↑h : Int)]), (1000000000006, Row.mk 1 false true [ai (↑leaf : Int)]), (1000000000008, Row.mk 1 false true [ai 0, AV.nil, AV.nil]), (1000000000010, Row.mk 1 false true [ai (↑leaf : Int), AV.val v, AV.ref 49]), (49, Row.mk 1 true false (wordsA (pathW seed leaf i)))]) (C := []) (by kernel_rfl) trivial ?_
    refine then_n ?_
    refine AWP.block (id := 1) (by kernel_rfl) ?_
    refine AWP.seq (by kernel_rfl) ?_
    refine AWP.regsK 1 [{  }] (by kernel_rfl) (s' := AS.mk [(34, ao ((↑i : Int) == (↑h : Int))), (33, ai (↑h : Int)), (32, ai (↑i : Int)), (12, AV.sl 1 (wordsA (levW seed h i))), (11, ai (↑i : Int)), (31, AV.sl 1 (wordsA (levW seed h i))), (30, ai (↑i : Int)), (29, AV.clo (45 : Nat) [AV.ptr [ai (↑h : Int)] (0 : Nat), AV.ptr [aw seed] (0 : Nat)]), (10, AV.addr 1000000000010 0), (9, ai 0), (8, AV.addr 1000000000008 0), (6, AV.addr 1000000000006 0), (5, AV.addr 1000000000005 0), (0, aw seed), (3, aw m)] [(1000000000005, Row.mk 1 false true [ai (↑h : Int)]), (1000000000006, Row.mk 1 false true [ai (↑leaf : Int)]), (1000000000008, Row.mk 1 false true [ai 0, AV.nil, AV.nil]), (1000000000010, Row.mk 1 false true [ai (↑leaf : Int), AV.val v, AV.ref 49]), (49, Row.mk 1 true false (wordsA (pathW seed leaf i)))]) (C := []) (by kernel_rfl) trivial ?_
    refine AWP.condE (x := .tmp 34) (u := (↑i : Int)) (v := (↑h : Int)) (by kernel_rfl) (by kernel_rfl) (fun g => ?_) (fun g => ?_)
    · have e : i = h := by omega
      subst e
      refine AWP.exit (id := 0) (by kernel_rfl) ?_
      refine then_e ?_
      refine inb_o (by kernel_rfl) ?_
      refine ⟨sigI seed i leaf (.val v) (i + 1), ⟨sigF seed i m, sigI seed i leaf (.sl 1 (wordsA (signL seed leaf m 18))) (i + 1)⟩, closed_cons (closed_of rfl) (closed_cons (closed_of rfl) (closed_cons (closed_of rfl) (closed_cons (closed_of rfl) (closed_cons (closed_words _) closed_nil)))), by kernel_rfl,
        Weaks.of [.keep [] [1000000000005, 1000000000006, 1000000000008, 1000000000010, 49]] (s1 := AS.mk [] [(1000000000005, ⟨1, false, true, [ai (i : Int)]⟩), (1000000000006, ⟨1, false, true, [ai (leaf : Int)]⟩), (1000000000008, ⟨1, false, true, [ai 0, .nil, .nil]⟩), (1000000000010, ⟨1, false, true, [ai (leaf : Int), .val v, .ref 49]⟩), (49, ⟨1, true, false, wordsA (pathW seed leaf i)⟩)]) (by kernel_rfl) (by unfold sigI; rw [show min (i + 1) i = i by omega]), sig_clos seed i leaf m _ (i + 1) v, inb_e (then_n ?_)⟩
      refine AWP.eqS (AS.mk [(29, .clo 45 [.ptr [ai (i : Int)] 0, .ptr [aw seed] 0]), (10, .addr 10 0), (9, ai 0), (8, .addr 8 0), (6, .addr 6 0), (5, .addr 5 0), (0, aw seed), (3, aw m)] [(5, ⟨1, false, true, [ai (i : Int)]⟩), (6, ⟨1, false, true, [ai (leaf : Int)]⟩), (8, ⟨1, false, true, [ai 0, .nil, .nil]⟩), (10, ⟨1, false, true, [ai (leaf : Int), .sl 1 (wordsA (signL seed leaf m 18)), .ref 49]⟩), (49, ⟨1, true, false, wordsA (pathW seed leaf (min (i + 1) i))⟩)]) (by kernel_rfl) ?_
      rw [show min (i + 1) i = i by omega]
      refine AWP.regsP 1 [{  }] [.keep [9, 29, 10, 8, 6, 5, 0, 3] [8, 5, 6, 10, 49]] (by kernel_rfl) (s' := AS.mk [(9, ai 0), (29, AV.clo (45 : Nat) [AV.ptr [ai (↑i : Int)] (0 : Nat), AV.ptr [aw seed] (0 : Nat)]), (10, AV.addr 10 0), (8, AV.addr 8 0), (6, AV.addr 6 0), (5, AV.addr 5 0), (0, aw seed), (3, aw m)] [(8, Row.mk 1 false true [ai (↑leaf : Int), AV.sl 1 (wordsA (signL seed (↑leaf : Int) m (18 : Nat))), AV.ref 49]), (5, Row.mk 1 false true [ai (↑i : Int)]), (6, Row.mk 1 false true [ai (↑leaf : Int)]), (10, Row.mk 1 false true [ai (↑leaf : Int), AV.sl 1 (wordsA (signL seed (↑leaf : Int) m (18 : Nat))), AV.ref 49]), (49, Row.mk 1 true false (wordsA (pathW seed leaf i)))]) (C := [(3 : Nat) ≤ (3 : Nat)]) (by kernel_rfl) ⟨(by omega), trivial⟩ ?_
      refine AWP.ret (by kernel_rfl) ?_
      refine Done.ret_ (C := [Value.int .i64 (↑leaf : Int) = Value.int .i64 (↑leaf : Int), wordsA (signL seed (↑leaf : Int) m (18 : Nat)) = wordsA (signL seed (↑leaf : Int) m (18 : Nat)), wordsA (pathW seed leaf i) = wordsA (pathW seed leaf i), Value.int .i64 0 = Value.int .i64 0]) (by kernel_rfl) ⟨rfl, rfl, rfl, rfl, trivial⟩
    · have hk4 : i ≤ 4 := by omega
      have hs := shr_leafI leaf i hk4
      have hle : leaf / 2 ^ i ≤ leaf := Nat.div_le_self ..
      have hq : leaf / 2 ^ i < 16 := by omega
      have hx := xor_one _ hq
      have em : 2 ^ (h - i) = 2 * 2 ^ (h - (i + 1)) := by rw [show h - i = h - (i + 1) + 1 by omega, Nat.pow_succ, Nat.mul_comm]
      have hm8 : 2 ^ (h - (i + 1)) ≤ 8 := Nat.le_trans (Nat.pow_le_pow_right (by decide) (by omega : h - (i + 1) ≤ 3)) (by decide)
      have hdiv : leaf / 2 ^ i < 2 ^ (h - i) := by
        rw [Nat.div_lt_iff_lt_mul (Nat.two_pow_pos _), ← Nat.pow_add, show h - i + i = h by omega]; exact hl
      have hxl : leaf / 2 ^ i ^^^ 1 < 2 ^ (h - i) := by rw [em]; exact xor_even _ _ hm8 (by omega)
      have hat := levW_at seed h i _ hxl
      have hll := levW_len seed h i
      have ep := pathW_succ seed leaf i
      have hpl := pathW_len seed leaf i
      have hmin : min (i + 1) h = i + 1 := by omega
      generalize leaf / 2 ^ i ^^^ 1 = x at *
      generalize leaf / 2 ^ i = q at *
      generalize levW seed h i = L at *
      generalize 2 ^ (h - i) = c at *
      refine AWP.skip (by kernel_rfl) ?_
      refine then_n ?_
      refine AWP.reg { hs := [(5, { av := some (ai (↑q : Int)) }), (6, { av := some (ai (↑x : Int)) }), (7, { k := x }), (8, { av := some (aw (L.getD x (0 : UInt64))) }), (9, { av := some (AV.arr (wordsA [L.getD x (0 : UInt64)])) }), (10, { av := some (AV.arr (wordsA (pathW seed leaf i ++ [L.getD x (0 : UInt64)]))) })], T := 10 } (s' := AS.mk [(46, AV.addr 1000000000010 2), (45, AV.ref 45), (35, AV.addr 1000000000010 2), (36, AV.dead), (37, AV.sl 1 (wordsA L)), (38, ai (↑leaf : Int)), (39, ai (↑i : Int)), (40, ai (↑q : Int)), (41, ai (↑x : Int)), (42, AV.ptr (wordsA L) x), (43, aw (L.getD x (0 : UInt64))), (44, AV.sl 1 (wordsA [L.getD x (0 : UInt64)])), (34, ao ((↑i : Int) == (↑h : Int))), (33, ai (↑h : Int)), (32, ai (↑i : Int)), (12, AV.sl 1 (wordsA L)), (11, ai (↑i : Int)), (31, AV.sl 1 (wordsA L)), (30, ai (↑i : Int)), (29, AV.clo (45 : Nat) [AV.ptr [ai (↑h : Int)] (0 : Nat), AV.ptr [aw seed] (0 : Nat)]), (10, AV.addr 1000000000010 0), (9, ai 0), (8, AV.addr 1000000000008 0), (6, AV.addr 1000000000006 0), (5, AV.addr 1000000000005 0), (0, aw seed), (3, aw m)] [(1000000000010, Row.mk 1 false true [ai (↑leaf : Int), AV.val v, AV.ref 45]), (45, Row.mk 1 true false (wordsA (pathW seed leaf i ++ [L.getD x (0 : UInt64)]))), (1000000000005, Row.mk 1 false true [ai (↑h : Int)]), (1000000000006, Row.mk 1 false true [ai (↑leaf : Int)]), (1000000000008, Row.mk 1 false true [ai 0, AV.nil, AV.nil])]) (C := [ai ((↑leaf : Int).fdiv ((2 : Int) ^ min (↑i : Int).toNat IntKind.i64.bits)) = ai (↑q : Int), (0 : Int) ≤ (↑i : Int), ai (IntKind.i64.wrap (↑(BitVec.ofInt IntKind.i64.bits (↑q : Int) ^^^ BitVec.ofInt IntKind.i64.bits (1 : Int)).toNat : Int)) = ai (↑x : Int), (↑x : Int) = (↑x : Int), x < (wordsA L).length, (wordsA L)[x]? = some (aw (L.getD x (0 : UInt64))), [aw (L.getD x (0 : UInt64))] = wordsA [L.getD x (0 : UInt64)], wordsA (pathW seed leaf i) ++ wordsA [L.getD x (0 : UInt64)] = wordsA (pathW seed leaf i ++ [L.getD x (0 : UInt64)]), ((wordsA (pathW seed leaf i)).length + (wordsA [L.getD x (0 : UInt64)]).length) * (8 : Nat) ≤ (140737488355328 : Nat), (3 : Nat) ≤ (3 : Nat)]) (by kernel_rfl) ⟨(congrArg (fun n => AV.val (.int .i64 n)) hs), (by omega), (congrArg (fun n => AV.val (.int .i64 n)) hx), rfl, (by simp only [wordsA_len]; omega), (wordsA_at (by omega)), rfl, (wordsA_app _ _), (by simp only [wordsA_len, List.length_cons, List.length_nil]; omega), (by omega), trivial⟩ ?_
      refine inb_n ?_
      exact Weaks.of [.ren 45 49, .keep [] [1000000000005, 1000000000006, 1000000000008, 1000000000010, 49]] (s1 := AS.mk [] [(1000000000005, ⟨1, false, true, [ai (h : Int)]⟩), (1000000000006, ⟨1, false, true, [ai (leaf : Int)]⟩), (1000000000008, ⟨1, false, true, [ai 0, .nil, .nil]⟩), (1000000000010, ⟨1, false, true, [ai (leaf : Int), .val v, .ref 49]⟩), (49, ⟨1, true, false, wordsA (pathW seed leaf i ++ [L.getD x 0])⟩)]) (by kernel_rfl) (by unfold sigI; rw [hmin, ep, hat]; rfl)
  · obtain ⟨v, rfl⟩ := List.length_eq_one_iff.1 hv
    exact sig_clos seed h leaf m _ (h + 1) v
  · refine inb_n (then_n ?_)
    refine AWP.eqS (AS.mk [(29, .clo 45 [.ptr [ai (h : Int)] 0, .ptr [aw seed] 0]), (10, .addr 10 0), (9, ai 0), (8, .addr 8 0), (6, .addr 6 0), (5, .addr 5 0), (0, aw seed), (3, aw m)] [(5, ⟨1, false, true, [ai (h : Int)]⟩), (6, ⟨1, false, true, [ai (leaf : Int)]⟩), (8, ⟨1, false, true, [ai 0, .nil, .nil]⟩), (10, ⟨1, false, true, [ai (leaf : Int), .sl 1 (wordsA (signL seed leaf m 18)), .ref 49]⟩), (49, ⟨1, true, false, wordsA (pathW seed leaf (min (h + 1) h))⟩)]) (by kernel_rfl) ?_
    rw [show min (h + 1) h = h by omega]
    refine AWP.regsP 1 [{  }] [.keep [9, 29, 10, 8, 6, 5, 0, 3] [8, 5, 6, 10, 49]] (by kernel_rfl) (s' := AS.mk [(9, ai 0), (29, AV.clo (45 : Nat) [AV.ptr [ai (↑h : Int)] (0 : Nat), AV.ptr [aw seed] (0 : Nat)]), (10, AV.addr 10 0), (8, AV.addr 8 0), (6, AV.addr 6 0), (5, AV.addr 5 0), (0, aw seed), (3, aw m)] [(8, Row.mk 1 false true [ai (↑leaf : Int), AV.sl 1 (wordsA (signL seed (↑leaf : Int) m (18 : Nat))), AV.ref 49]), (5, Row.mk 1 false true [ai (↑h : Int)]), (6, Row.mk 1 false true [ai (↑leaf : Int)]), (10, Row.mk 1 false true [ai (↑leaf : Int), AV.sl 1 (wordsA (signL seed (↑leaf : Int) m (18 : Nat))), AV.ref 49]), (49, Row.mk 1 true false (wordsA (pathW seed leaf h)))]) (C := [(3 : Nat) ≤ (3 : Nat)]) (by kernel_rfl) ⟨(by omega), trivial⟩ ?_
    refine AWP.ret (by kernel_rfl) ?_
    refine Done.ret_ (C := [Value.int .i64 (↑leaf : Int) = Value.int .i64 (↑leaf : Int), wordsA (signL seed (↑leaf : Int) m (18 : Nat)) = wordsA (signL seed (↑leaf : Int) m (18 : Nat)), wordsA (pathW seed leaf h) = wordsA (pathW seed leaf h), Value.int .i64 0 = Value.int .i64 0]) (by kernel_rfl) ⟨rfl, rfl, rfl, rfl, trivial⟩
theorem sign_ret (seed : UInt64) (h leaf : Int) (m : UInt64) : Ret Try.prog 13 [aw seed, ai h, ai leaf, aw m] (.tup [.agg [ai (sgL h leaf), .sl 1 (wordsA (sgC seed h leaf m)), .own 1 (wordsA (sgP seed h leaf))], ai (sgE h leaf)]) := by
  by_cases hbad : badL h leaf
  · have e1 : sgE h leaf = 9 := if_pos hbad
    have e2 : sgL h leaf = 0 := if_pos hbad
    have e3 : sgC seed h leaf m = [] := if_pos hbad
    have e4 : sgP seed h leaf = [] := if_pos hbad
    rw [e1, e2, e3, e4]
    exact sign_bad seed h leaf m hbad
  · have e1 : sgE h leaf = 0 := if_neg hbad
    have e2 : sgL h leaf = leaf := if_neg hbad
    have e3 : sgC seed h leaf m = signL seed leaf m 18 := if_neg hbad
    have e4 : sgP seed h leaf = pathW seed leaf.toNat h.toNat := if_neg hbad
    rw [e1, e2, e3, e4]
    unfold badL badH at hbad
    have hb2 : 0 ≤ h ∧ h ≤ 4 ∧ 0 ≤ leaf := by omega
    obtain ⟨k, rfl⟩ := Int.eq_ofNat_of_zero_le hb2.1
    obtain ⟨i, rfl⟩ := Int.eq_ofNat_of_zero_le hb2.2.2
    rw [Int.toNat_natCast, Int.toNat_natCast]
    rw [Int.toNat_natCast] at hbad
    exact sign_ok seed k i m (by omega) (by omega)
end Go.Proofs.Ytjmmhpiadafahaa
