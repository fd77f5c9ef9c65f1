/-
  The contract of treekey.Public. No condition.
-/
import Derived.Test.YtjmmhpiadafahaaTk4
namespace Go.Proofs.Ytjmmhpiadafahaa
open Go.RowKit
set_option maxRecDepth 100000
set_option maxHeartbeats 4000000
set_option linter.unusedVariables false
--@au0

/-- The rows that treekey.Public's loop keeps: the height, the result, the key. -/
def pubI (seed : UInt64) (h : Nat) (i : Nat) : List (Nat × Row) :=
  [(1000000000003, ⟨1, false, true, [ai (h : Int)]⟩), (1000000000004, ⟨1, false, true, [ai 0, au0]⟩), (1000000000006, ⟨1, false, true, [ai (h : Int), aw (if i = h + 1 then nodeW seed h 0 else 0)]⟩)]
theorem public_ret (seed : UInt64) (h : Int) : Ret Try.prog 10 [aw seed, ai h] (.tup [.agg [ai (pkH h), aw (pkR seed h)], ai (pkE h)]) := by
  by_cases hb : badH h
  · have e1 : pkE h = 9 := if_pos hb
    have e2 : pkH h = 0 := if_pos hb
    have e3 : pkR seed h = 0 := if_pos hb
    refine Ret.of_fn Try.func10 (by kernel_rfl) 27 (by kernel_rfl) (by kernel_rfl) ?_
    refine AWP.regsK 1 [{  }] (by kernel_rfl) (s' := AS.mk [(5, ai 0), (4, AV.addr 4 0), (3, AV.addr 3 0), (0, aw seed), (1, ai h)] [(4, Row.mk 1 false true [ai 0, au0]), (3, Row.mk 1 false true [ai h])]) (C := []) (by kernel_rfl) trivial ?_
    refine AWP.seq (by kernel_rfl) ?_
    refine AWP.regsK 1 [{ hs := [(1, { av := some (ao (decide (badH h))) })] }] (by kernel_rfl) (s' := AS.mk [(10, ao (decide (badH h))), (9, ai h), (5, ai 0), (4, AV.addr 4 0), (3, AV.addr 3 0), (0, aw seed), (1, ai h)] [(4, Row.mk 1 false true [ai 0, au0]), (3, Row.mk 1 false true [ai h])]) (C := [Ret Try.prog (25 : Nat) [ai h] (ao (decide (badH h)))]) (by kernel_rfl) ⟨(high_ret (h)), trivial⟩ ?_
    refine AWP.condT (x := .tmp 10) (b := decide (badH h)) (by kernel_rfl) (by kernel_rfl) (decide_eq_true (by omega)) ?_
    refine AWP.regsP 1 [{  }] [.keep [5, 10, 4, 3, 0, 1] [4, 3]] (by kernel_rfl) (s' := AS.mk [(5, ai 9), (10, ao (decide (badH h))), (4, AV.addr 4 0), (3, AV.addr 3 0), (0, aw seed), (1, ai h)] [(4, Row.mk 1 false true [ai 0, au0]), (3, Row.mk 1 false true [ai h])]) (C := [(2 : Nat) ≤ (2 : Nat)]) (by kernel_rfl) ⟨(by omega), trivial⟩ ?_
    refine AWP.ret (by kernel_rfl) ?_
    refine then_r ?_
    refine Done.ret_ (C := [Value.int .i64 0 = Value.int .i64 (pkH h), Value.int .u64 0 = Value.int .u64 (wv (pkR seed h)), Value.int .i64 9 = Value.int .i64 (pkE h)]) (by kernel_rfl) ⟨(by rw [e2]), (by rw [e3]; rfl), (by rw [e1]), trivial⟩
  · have e1 : pkE h = 0 := if_neg hb
    have e2 : pkH h = h := if_neg hb
    have e3 : pkR seed h = nodeW seed h.toNat 0 := if_neg hb
    have hb2 : 0 ≤ h ∧ h ≤ 4 := by unfold badH at hb; omega
    rw [e1, e2, e3]
    obtain ⟨k, rfl⟩ := Int.eq_ofNat_of_zero_le hb2.1
    rw [Int.toNat_natCast]
    refine Ret.of_fn Try.func10 (by kernel_rfl) 27 (by kernel_rfl) (by kernel_rfl) ?_
    refine AWP.regsK 1 [{  }] (by kernel_rfl) (s' := AS.mk [(5, ai 0), (4, AV.addr 4 0), (3, AV.addr 3 0), (0, aw seed), (1, ai (↑k : Int))] [(4, Row.mk 1 false true [ai 0, au0]), (3, Row.mk 1 false true [ai (↑k : Int)])]) (C := []) (by kernel_rfl) trivial ?_
    refine AWP.seq (by kernel_rfl) ?_
    refine AWP.regsK 1 [{ hs := [(1, { av := some (ao (decide (badH (↑k : Int)))) })] }] (by kernel_rfl) (s' := AS.mk [(10, ao (decide (badH (↑k : Int)))), (9, ai (↑k : Int)), (5, ai 0), (4, AV.addr 4 0), (3, AV.addr 3 0), (0, aw seed), (1, ai (↑k : Int))] [(4, Row.mk 1 false true [ai 0, au0]), (3, Row.mk 1 false true [ai (↑k : Int)])]) (C := [Ret Try.prog (25 : Nat) [ai (↑k : Int)] (ao (decide (badH (↑k : Int))))]) (by kernel_rfl) ⟨(high_ret ((↑k : Int))), trivial⟩ ?_
    refine AWP.condF (x := .tmp 10) (b := decide (badH (↑k : Int))) (by kernel_rfl) (by kernel_rfl) (decide_eq_false (by omega)) ?_
    refine AWP.skip (by kernel_rfl) ?_
    refine then_n ?_
    refine AWP.regsP 1 [{  }] [.keep [6, 10, 5, 4, 3, 0, 1] [6, 4, 3]] (by kernel_rfl) (s' := AS.mk [(6, AV.addr 6 0), (10, ao (decide (badH (↑k : Int)))), (5, ai 0), (4, AV.addr 4 0), (3, AV.addr 3 0), (0, aw seed), (1, ai (↑k : Int))] [(6, Row.mk 1 false true [ai (↑k : Int), au0]), (4, Row.mk 1 false true [ai 0, au0]), (3, Row.mk 1 false true [ai (↑k : Int)])]) (C := [(2 : Nat) ≤ (2 : Nat)]) (by kernel_rfl) ⟨(by omega), trivial⟩ ?_
    refine AWP.seq (by kernel_rfl) ?_
    refine AWP.regsP 1 [{ hs := [(2, { av := some (AV.clo (45 : Nat) [AV.ptr [ai (↑k : Int)] (0 : Nat), AV.ptr [aw seed] (0 : Nat)]), b := false })] }] [.keep [16, 6, 10, 5, 4, 3, 0, 1] [6, 4, 3]] (by kernel_rfl) (s' := AS.mk [(16, AV.clo (45 : Nat) [AV.ptr [ai (↑k : Int)] (0 : Nat), AV.ptr [aw seed] (0 : Nat)]), (6, AV.addr 6 0), (10, ao (decide (badH (↑k : Int)))), (5, ai 0), (4, AV.addr 4 0), (3, AV.addr 3 0), (0, aw seed), (1, ai (↑k : Int))] [(6, Row.mk 1 false true [ai (↑k : Int), au0]), (4, Row.mk 1 false true [ai 0, au0]), (3, Row.mk 1 false true [ai (↑k : Int)])]) (C := [Ret Try.prog (26 : Nat) [aw seed, ai (↑k : Int)] (AV.clo (45 : Nat) [AV.ptr [ai (↑k : Int)] (0 : Nat), AV.ptr [aw seed] (0 : Nat)])]) (by kernel_rfl) ⟨(levels_ret (seed) ((↑k : Int))), trivial⟩ ?_
    refine AWP.block (id := 0) (by kernel_rfl) ?_
    refine AWP.rangeQ (by kernel_rfl) _ _ (levels_iter seed k (by omega)) (by kernel_rfl) (by kernel_rfl) (by kernel_rfl) [(3, 1000000000003), (4, 1000000000004), (6, 1000000000006)] (by kernel_rfl)
      [(16, .clo 45 [.ptr [ai (k : Int)] 0, .ptr [aw seed] 0]), (6, .addr 1000000000006 0), (5, ai 0), (4, .addr 1000000000004 0), (3, .addr 1000000000003 0), (0, aw seed)] (pubI seed k)
      (Weaks.of [.keep [16, 6, 5, 4, 3, 0] [1000000000003, 1000000000004, 1000000000006]] (s1 := AS.mk [(16, .clo 45 [.ptr [ai (k : Int)] 0, .ptr [aw seed] 0]), (6, .addr 1000000000006 0), (5, ai 0), (4, .addr 1000000000004 0), (3, .addr 1000000000003 0), (0, aw seed)] [(1000000000003, ⟨1, false, true, [ai (k : Int)]⟩), (1000000000004, ⟨1, false, true, [ai 0, au0]⟩), (1000000000006, ⟨1, false, true, [ai (k : Int), au0]⟩)]) (by kernel_rfl) (by simp [pubI, wv]))
      (by kernel_rfl) (fun _ => by kernel_rfl) (by kernel_rfl) (fun i _ => ⟨closed_cons (closed_of rfl) (closed_cons (closed_of rfl) (closed_cons (closed_of rfl) closed_nil)), by kernel_rfl⟩) (fun i hi => ?_) ?_
    · have hi0 : pubI seed k i = [(1000000000003, ⟨1, false, true, [ai (k : Int)]⟩), (1000000000004, ⟨1, false, true, [ai 0, au0]⟩), (1000000000006, ⟨1, false, true, [ai (k : Int), au0]⟩)] := by simp [pubI, show i ≠ k + 1 by omega, wv]
      have hl := levW_len seed k i
      have hpos : 0 < 2 ^ (k - i) := Nat.two_pow_pos _
      rw [hi0]
      refine AWP.eqS (AS.mk [(18, .sl 1 (wordsA (levW seed k i))), (17, ai (i : Int)), (16, .clo 45 [.ptr [ai (k : Int)] 0, .ptr [aw seed] 0]), (6, .addr 1000000000006 0), (5, ai 0), (4, .addr 1000000000004 0), (3, .addr 1000000000003 0), (0, aw seed)] [(1000000000003, ⟨1, false, true, [ai (k : Int)]⟩), (1000000000004, ⟨1, false, true, [ai 0, au0]⟩), (1000000000006, ⟨1, false, true, [ai (k : Int), au0]⟩)]) (by kernel_rfl) ?_
      refine AWP.regsK 1 [{  }] (by kernel_rfl) (s' := AS.mk [(7, ai (↑i : Int)), (18, AV.sl 1 (wordsA (levW seed k i))), (17, ai (↑i : Int)), (16, AV.clo (45 : Nat) [AV.ptr [ai (↑k : Int)] (0 : Nat), AV.ptr [aw seed] (0 : Nat)]), (6, AV.addr 1000000000006 0), (5, ai 0), (4, AV.addr 1000000000004 0), (3, AV.addr 1000000000003 0), (0, aw seed)] [(1000000000003, Row.mk 1 false true [ai (↑k : Int)]), (1000000000004, Row.mk 1 false true [ai 0, au0]), (1000000000006, Row.mk 1 false true [ai (↑k : Int), au0])]) (C := []) (by kernel_rfl) trivial ?_
      refine AWP.reg {  } (s' := AS.mk [(8, AV.sl 1 (wordsA (levW seed k i))), (7, ai (↑i : Int)), (18, AV.sl 1 (wordsA (levW seed k i))), (17, ai (↑i : Int)), (16, AV.clo (45 : Nat) [AV.ptr [ai (↑k : Int)] (0 : Nat), AV.ptr [aw seed] (0 : Nat)]), (6, AV.addr 1000000000006 0), (5, ai 0), (4, AV.addr 1000000000004 0), (3, AV.addr 1000000000003 0), (0, aw seed)] [(1000000000003, Row.mk 1 false true [ai (↑k : Int)]), (1000000000004, Row.mk 1 false true [ai 0, au0]), (1000000000006, Row.mk 1 false true [ai (↑k : Int), au0])]) (C := []) (by kernel_rfl) trivial ?_
      refine then_n ?_
      refine AWP.block (id := 1) (by kernel_rfl) ?_
      refine AWP.regsP 1 [{  }] [.keep [21, 8, 7, 18, 17, 16, 6, 5, 4, 3, 0] [1000000000003, 1000000000004, 1000000000006]] (by kernel_rfl) (s' := AS.mk [(21, ao ((↑i : Int) == (↑k : Int))), (8, AV.sl 1 (wordsA (levW seed k i))), (7, ai (↑i : Int)), (18, AV.sl 1 (wordsA (levW seed k i))), (17, ai (↑i : Int)), (16, AV.clo (45 : Nat) [AV.ptr [ai (↑k : Int)] (0 : Nat), AV.ptr [aw seed] (0 : Nat)]), (6, AV.addr 1000000000006 0), (5, ai 0), (4, AV.addr 1000000000004 0), (3, AV.addr 1000000000003 0), (0, aw seed)] [(1000000000003, Row.mk 1 false true [ai (↑k : Int)]), (1000000000004, Row.mk 1 false true [ai 0, au0]), (1000000000006, Row.mk 1 false true [ai (↑k : Int), au0])]) (C := []) (by kernel_rfl) trivial ?_
      refine AWP.condE (x := .tmp 21) (u := (↑i : Int)) (v := (↑k : Int)) (by kernel_rfl) (by kernel_rfl) (fun g => ?_) (fun g => ?_)
      · have e : i = k := by omega
        subst e
        have hn : (levW seed i i).getD 0 0 = nodeW seed i 0 := levW_at seed i i 0 (by simp)
        refine AWP.reg { hs := [(1, { k := 0 }), (2, { av := some (aw ((levW seed i i).getD (0 : Nat) (0 : UInt64))) })] } (s' := AS.mk [(25, AV.addr 1000000000006 1), (24, aw ((levW seed i i).getD (0 : Nat) (0 : UInt64))), (23, AV.ptr (wordsA (levW seed i i)) (0 : Nat)), (22, AV.sl 1 (wordsA (levW seed i i))), (21, ao ((↑i : Int) == (↑i : Int))), (8, AV.sl 1 (wordsA (levW seed i i))), (7, ai (↑i : Int)), (18, AV.sl 1 (wordsA (levW seed i i))), (17, ai (↑i : Int)), (16, AV.clo (45 : Nat) [AV.ptr [ai (↑i : Int)] (0 : Nat), AV.ptr [aw seed] (0 : Nat)]), (6, AV.addr 1000000000006 0), (5, ai 0), (4, AV.addr 1000000000004 0), (3, AV.addr 1000000000003 0), (0, aw seed)] [(1000000000006, Row.mk 1 false true [ai (↑i : Int), aw ((levW seed i i).getD (0 : Nat) (0 : UInt64))]), (1000000000003, Row.mk 1 false true [ai (↑i : Int)]), (1000000000004, Row.mk 1 false true [ai 0, au0])]) (C := [(0 : Int) = (↑(0 : Nat) : Int), (0 : Nat) < (wordsA (levW seed i i)).length, (wordsA (levW seed i i))[(0 : Nat)]? = some (aw ((levW seed i i).getD (0 : Nat) (0 : UInt64))), (2 : Nat) ≤ (2 : Nat)]) (by kernel_rfl) ⟨rfl, (by simp only [wordsA_len]; omega), (wordsA_at (by omega)), (by omega), trivial⟩ ?_
        refine inb_n ?_
        exact Weaks.of [.keep [] [1000000000003, 1000000000004, 1000000000006]] (s1 := AS.mk [] [(1000000000003, ⟨1, false, true, [ai (i : Int)]⟩), (1000000000004, ⟨1, false, true, [ai 0, au0]⟩), (1000000000006, ⟨1, false, true, [ai (i : Int), aw ((levW seed i i).getD 0 0)]⟩)]) (by kernel_rfl) (by rw [hn]; simp [pubI])
      · skip
        refine AWP.skip (by kernel_rfl) ?_
        refine inb_n ?_
        exact Weaks.of [.keep [] [1000000000003, 1000000000004, 1000000000006]] (s1 := AS.mk [] [(1000000000003, ⟨1, false, true, [ai (k : Int)]⟩), (1000000000004, ⟨1, false, true, [ai 0, au0]⟩), (1000000000006, ⟨1, false, true, [ai (k : Int), au0]⟩)]) (by kernel_rfl) (by simp [pubI, show i ≠ k by omega, wv])
    · have hk : pubI seed k (k + 1) = [(1000000000003, ⟨1, false, true, [ai (k : Int)]⟩), (1000000000004, ⟨1, false, true, [ai 0, au0]⟩), (1000000000006, ⟨1, false, true, [ai (k : Int), aw (nodeW seed k 0)]⟩)] := by simp [pubI]
      rw [hk]
      generalize nodeW seed k 0 = r at *
      refine inb_n (then_n ?_)
      refine AWP.eqS (AS.mk [(16, .clo 45 [.ptr [ai (k : Int)] 0, .ptr [aw seed] 0]), (6, .addr 6 0), (5, ai 0), (4, .addr 4 0), (3, .addr 3 0), (0, aw seed)] [(3, ⟨1, false, true, [ai (k : Int)]⟩), (4, ⟨1, false, true, [ai 0, au0]⟩), (6, ⟨1, false, true, [ai (k : Int), aw r]⟩)]) (by kernel_rfl) ?_
      refine AWP.regsP 1 [{  }] [.keep [5, 16, 6, 4, 3, 0] [4, 3, 6]] (by kernel_rfl) (s' := AS.mk [(5, ai 0), (16, AV.clo (45 : Nat) [AV.ptr [ai (↑k : Int)] (0 : Nat), AV.ptr [aw seed] (0 : Nat)]), (6, AV.addr 6 0), (4, AV.addr 4 0), (3, AV.addr 3 0), (0, aw seed)] [(4, Row.mk 1 false true [ai (↑k : Int), aw r]), (3, Row.mk 1 false true [ai (↑k : Int)]), (6, Row.mk 1 false true [ai (↑k : Int), aw r])]) (C := [(2 : Nat) ≤ (2 : Nat)]) (by kernel_rfl) ⟨(by omega), trivial⟩ ?_
      refine AWP.ret (by kernel_rfl) ?_
      refine Done.ret_ (C := [Value.int .i64 (↑k : Int) = Value.int .i64 (↑k : Int), Value.int .u64 (wv r) = Value.int .u64 (wv r), Value.int .i64 0 = Value.int .i64 0]) (by kernel_rfl) ⟨rfl, rfl, rfl, trivial⟩
end Go.Proofs.Ytjmmhpiadafahaa
