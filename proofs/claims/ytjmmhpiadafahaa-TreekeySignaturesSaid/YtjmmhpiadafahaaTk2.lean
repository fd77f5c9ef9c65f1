/-
  The contracts of the reference's public keys, and of treekey.outside. No condition.
-/
import Derived.Test.YtjmmhpiadafahaaTk1
namespace Go.Proofs.Ytjmmhpiadafahaa
open Go.RowKit
set_option maxRecDepth 100000
set_option maxHeartbeats 4000000
set_option linter.unusedVariables false
--@au0

/-- The public key of a seed. -/
def pkE (h : Int) : Int := if badH h then 9 else 0
def pkH (h : Int) : Int := if badH h then 0 else h
def pkR (seed : UInt64) (h : Int) : UInt64 := if badH h then 0 else nodeW seed h.toNat 0
theorem refpublic_ret (seed : UInt64) (h : Int) : Ret Try.prog 11 [aw seed, ai h] (.tup [.agg [ai (pkH h), aw (pkR seed h)], ai (pkE h)]) := by
  by_cases hb : badH h
  · have e1 : pkE h = 9 := if_pos hb
    have e2 : pkH h = 0 := if_pos hb
    have e3 : pkR seed h = 0 := if_pos hb
    refine Ret.of_fn Try.func11 (by kernel_rfl) 15 (by kernel_rfl) (by kernel_rfl) ?_
    refine AWP.regsK 1 [{  }] (by kernel_rfl) (s' := AS.mk [(5, ai 0), (4, AV.addr 4 0), (0, aw seed), (1, ai h)] [(4, Row.mk 1 false true [ai 0, au0])]) (C := []) (by kernel_rfl) trivial ?_
    refine AWP.seq (by kernel_rfl) ?_
    refine AWP.regsP 1 [{ hs := [(1, { av := some (ao (!decide (badH h))) })] }] [.keep [8, 5, 4, 0, 1] [4]] (by kernel_rfl) (s' := AS.mk [(8, ao (!!decide (badH h))), (5, ai 0), (4, AV.addr 4 0), (0, aw seed), (1, ai h)] [(4, Row.mk 1 false true [ai 0, au0])]) (C := [Ret Try.prog (27 : Nat) [ai h] (ao (!decide (badH h)))]) (by kernel_rfl) ⟨(refheight_ret (h)), trivial⟩ ?_
    refine AWP.condT (x := .tmp 8) (b := !!decide (badH h)) (by kernel_rfl) (by kernel_rfl) (by simp_all) ?_
    refine AWP.regsP 1 [{  }] [.keep [5, 8, 4, 0, 1] [4]] (by kernel_rfl) (s' := AS.mk [(5, ai 9), (8, ao (!!decide (badH h))), (4, AV.addr 4 0), (0, aw seed), (1, ai h)] [(4, Row.mk 1 false true [ai 0, au0])]) (C := [(2 : Nat) ≤ (2 : Nat)]) (by kernel_rfl) ⟨(by omega), trivial⟩ ?_
    refine AWP.ret (by kernel_rfl) ?_
    refine then_r ?_
    refine Done.ret_ (C := [Value.int .i64 0 = Value.int .i64 (pkH h), Value.int .u64 0 = Value.int .u64 (wv (pkR seed h)), Value.int .i64 9 = Value.int .i64 (pkE h)]) (by kernel_rfl) ⟨(by rw [e2]), (by rw [e3]; rfl), (by rw [e1]), trivial⟩
  · have e1 : pkE h = 0 := if_neg hb
    have e2 : pkH h = h := if_neg hb
    have e3 : pkR seed h = nodeW seed h.toNat 0 := if_neg hb
    have hb2 : 0 ≤ h ∧ h ≤ 4 := by unfold badH at hb; omega
    rw [e1, e2, e3]
    obtain ⟨k, rfl⟩ := Int.eq_ofNat_of_zero_le hb2.1
    have hn := refnode_ret seed k 0 (by omega) (Nat.two_pow_pos _)
    rw [Int.toNat_natCast]
    generalize nodeW seed k 0 = r at *
    refine Ret.of_fn Try.func11 (by kernel_rfl) 15 (by kernel_rfl) (by kernel_rfl) ?_
    refine AWP.regsK 1 [{  }] (by kernel_rfl) (s' := AS.mk [(5, ai 0), (4, AV.addr 4 0), (0, aw seed), (1, ai (↑k : Int))] [(4, Row.mk 1 false true [ai 0, au0])]) (C := []) (by kernel_rfl) trivial ?_
    refine AWP.seq (by kernel_rfl) ?_
    refine AWP.regsP 1 [{ hs := [(1, { av := some (ao (!decide (badH (↑k : Int)))) })] }] [.keep [8, 5, 4, 0, 1] [4]] (by kernel_rfl) (s' := AS.mk [(8, ao (!!decide (badH (↑k : Int)))), (5, ai 0), (4, AV.addr 4 0), (0, aw seed), (1, ai (↑k : Int))] [(4, Row.mk 1 false true [ai 0, au0])]) (C := [Ret Try.prog (27 : Nat) [ai (↑k : Int)] (ao (!decide (badH (↑k : Int))))]) (by kernel_rfl) ⟨(refheight_ret ((↑k : Int))), trivial⟩ ?_
    refine AWP.condF (x := .tmp 8) (b := !!decide (badH (↑k : Int))) (by kernel_rfl) (by kernel_rfl) (by simp_all) ?_
    refine AWP.skip (by kernel_rfl) ?_
    refine then_n ?_
    refine AWP.regsP 1 [{ hs := [(3, { av := some (aw r) })] }] [.keep [5, 8, 4, 0, 1] [4]] (by kernel_rfl) (s' := AS.mk [(5, ai 0), (8, ao (!!decide (badH (↑k : Int)))), (4, AV.addr 4 0), (0, aw seed), (1, ai (↑k : Int))] [(4, Row.mk 1 false true [ai (↑k : Int), aw r])]) (C := [Ret Try.prog (28 : Nat) [aw seed, ai (↑k : Int), ai 0] (aw r), (2 : Nat) ≤ (2 : Nat)]) (by kernel_rfl) ⟨(hn), (by omega), trivial⟩ ?_
    refine AWP.ret (by kernel_rfl) ?_
    refine Done.ret_ (C := [Value.int .i64 (↑k : Int) = Value.int .i64 (↑k : Int), Value.int .u64 (wv r) = Value.int .u64 (wv r), Value.int .i64 0 = Value.int .i64 0]) (by kernel_rfl) ⟨rfl, rfl, rfl, trivial⟩
theorem outside_ret (leaf : Int) (h : Nat) (hh : h ≤ 4) : Ret Try.prog 30 [ai leaf, ai h] (ao (decide (leaf < 0 ∨ ((2 ^ h : Nat) : Int) ≤ leaf))) := by
  rcases (show h = 0 ∨ h = 1 ∨ h = 2 ∨ h = 3 ∨ h = 4 by omega) with rfl | rfl | rfl | rfl | rfl
  · by_cases h1 : leaf < 0
    · refine Ret.of_fn Try.func30 (by kernel_rfl) 13 (by kernel_rfl) (by kernel_rfl) ?_
      refine AWP.regsP 2 [{  }, {  }] [.keep [4, 0, 1] []] (by kernel_rfl) (s' := AS.mk [(4, ao true), (0, ai leaf), (1, ai (↑(0 : Nat) : Int))] []) (C := [decide (leaf < (0 : Int)) = true, decide (leaf < (0 : Int)) = true, decide (leaf < (0 : Int)) = true, decide (leaf < (0 : Int)) = true, decide (leaf < (0 : Int)) = true]) (by kernel_rfl) ⟨(decide_eq_true (by omega)), (decide_eq_true (by omega)), (decide_eq_true (by omega)), (decide_eq_true (by omega)), (decide_eq_true (by omega)), trivial⟩ ?_
      refine AWP.ret (by kernel_rfl) ?_
      refine Done.ret_ (C := [Value.bool true = Value.bool (decide (leaf < (0 : Int) ∨ (↑((2 : Nat) ^ (0 : Nat)) : Int) ≤ leaf))]) (by kernel_rfl) ⟨(by simp [h1]), trivial⟩
    · refine Ret.of_fn Try.func30 (by kernel_rfl) 13 (by kernel_rfl) (by kernel_rfl) ?_
      refine AWP.regsP 2 [{  }, { hs := [(3, { g := false }), (4, { g := false }), (5, { g := false }), (6, { g := false }), (7, { b := false })] }] [.keep [4, 0, 1] []] (by kernel_rfl) (s' := AS.mk [(4, ao (decide (leaf ≥ IntKind.i64.wrap ((1 : Int) * (2 : Int) ^ min (↑(0 : Nat) : Int).toNat IntKind.i64.bits)))), (0, ai leaf), (1, ai (↑(0 : Nat) : Int))] []) (C := [decide (leaf < (0 : Int)) = false, decide (leaf < (0 : Int)) = false, decide (leaf < (0 : Int)) = false, (0 : Int) ≤ (↑(0 : Nat) : Int), decide (leaf < (0 : Int)) = false, decide (leaf < (0 : Int)) = false]) (by kernel_rfl) ⟨(decide_eq_false (by omega)), (decide_eq_false (by omega)), (decide_eq_false (by omega)), (by omega), (decide_eq_false (by omega)), (decide_eq_false (by omega)), trivial⟩ ?_
      refine AWP.ret (by kernel_rfl) ?_
      refine Done.ret_ (C := [Value.bool (decide (leaf ≥ IntKind.i64.wrap ((1 : Int) * (2 : Int) ^ min (↑(0 : Nat) : Int).toNat IntKind.i64.bits))) = Value.bool (decide (leaf < (0 : Int) ∨ (↑((2 : Nat) ^ (0 : Nat)) : Int) ≤ leaf))]) (by kernel_rfl) ⟨(by simp [h1]; rfl), trivial⟩
  · by_cases h1 : leaf < 0
    · refine Ret.of_fn Try.func30 (by kernel_rfl) 13 (by kernel_rfl) (by kernel_rfl) ?_
      refine AWP.regsP 2 [{  }, {  }] [.keep [4, 0, 1] []] (by kernel_rfl) (s' := AS.mk [(4, ao true), (0, ai leaf), (1, ai (↑(1 : Nat) : Int))] []) (C := [decide (leaf < (0 : Int)) = true, decide (leaf < (0 : Int)) = true, decide (leaf < (0 : Int)) = true, decide (leaf < (0 : Int)) = true, decide (leaf < (0 : Int)) = true]) (by kernel_rfl) ⟨(decide_eq_true (by omega)), (decide_eq_true (by omega)), (decide_eq_true (by omega)), (decide_eq_true (by omega)), (decide_eq_true (by omega)), trivial⟩ ?_
      refine AWP.ret (by kernel_rfl) ?_
      refine Done.ret_ (C := [Value.bool true = Value.bool (decide (leaf < (0 : Int) ∨ (↑((2 : Nat) ^ (1 : Nat)) : Int) ≤ leaf))]) (by kernel_rfl) ⟨(by simp [h1]), trivial⟩
    · refine Ret.of_fn Try.func30 (by kernel_rfl) 13 (by kernel_rfl) (by kernel_rfl) ?_
      refine AWP.regsP 2 [{  }, { hs := [(3, { g := false }), (4, { g := false }), (5, { g := false }), (6, { g := false }), (7, { b := false })] }] [.keep [4, 0, 1] []] (by kernel_rfl) (s' := AS.mk [(4, ao (decide (leaf ≥ IntKind.i64.wrap ((1 : Int) * (2 : Int) ^ min (↑(1 : Nat) : Int).toNat IntKind.i64.bits)))), (0, ai leaf), (1, ai (↑(1 : Nat) : Int))] []) (C := [decide (leaf < (0 : Int)) = false, decide (leaf < (0 : Int)) = false, decide (leaf < (0 : Int)) = false, (0 : Int) ≤ (↑(1 : Nat) : Int), decide (leaf < (0 : Int)) = false, decide (leaf < (0 : Int)) = false]) (by kernel_rfl) ⟨(decide_eq_false (by omega)), (decide_eq_false (by omega)), (decide_eq_false (by omega)), (by omega), (decide_eq_false (by omega)), (decide_eq_false (by omega)), trivial⟩ ?_
      refine AWP.ret (by kernel_rfl) ?_
      refine Done.ret_ (C := [Value.bool (decide (leaf ≥ IntKind.i64.wrap ((1 : Int) * (2 : Int) ^ min (↑(1 : Nat) : Int).toNat IntKind.i64.bits))) = Value.bool (decide (leaf < (0 : Int) ∨ (↑((2 : Nat) ^ (1 : Nat)) : Int) ≤ leaf))]) (by kernel_rfl) ⟨(by simp [h1]; rfl), trivial⟩
  · by_cases h1 : leaf < 0
    · refine Ret.of_fn Try.func30 (by kernel_rfl) 13 (by kernel_rfl) (by kernel_rfl) ?_
      refine AWP.regsP 2 [{  }, {  }] [.keep [4, 0, 1] []] (by kernel_rfl) (s' := AS.mk [(4, ao true), (0, ai leaf), (1, ai (↑(2 : Nat) : Int))] []) (C := [decide (leaf < (0 : Int)) = true, decide (leaf < (0 : Int)) = true, decide (leaf < (0 : Int)) = true, decide (leaf < (0 : Int)) = true, decide (leaf < (0 : Int)) = true]) (by kernel_rfl) ⟨(decide_eq_true (by omega)), (decide_eq_true (by omega)), (decide_eq_true (by omega)), (decide_eq_true (by omega)), (decide_eq_true (by omega)), trivial⟩ ?_
      refine AWP.ret (by kernel_rfl) ?_
      refine Done.ret_ (C := [Value.bool true = Value.bool (decide (leaf < (0 : Int) ∨ (↑((2 : Nat) ^ (2 : Nat)) : Int) ≤ leaf))]) (by kernel_rfl) ⟨(by simp [h1]), trivial⟩
    · refine Ret.of_fn Try.func30 (by kernel_rfl) 13 (by kernel_rfl) (by kernel_rfl) ?_
      refine AWP.regsP 2 [{  }, { hs := [(3, { g := false }), (4, { g := false }), (5, { g := false }), (6, { g := false }), (7, { b := false })] }] [.keep [4, 0, 1] []] (by kernel_rfl) (s' := AS.mk [(4, ao (decide (leaf ≥ IntKind.i64.wrap ((1 : Int) * (2 : Int) ^ min (↑(2 : Nat) : Int).toNat IntKind.i64.bits)))), (0, ai leaf), (1, ai (↑(2 : Nat) : Int))] []) (C := [decide (leaf < (0 : Int)) = false, decide (leaf < (0 : Int)) = false, decide (leaf < (0 : Int)) = false, (0 : Int) ≤ (↑(2 : Nat) : Int), decide (leaf < (0 : Int)) = false, decide (leaf < (0 : Int)) = false]) (by kernel_rfl) ⟨(decide_eq_false (by omega)), (decide_eq_false (by omega)), (decide_eq_false (by omega)), (by omega), (decide_eq_false (by omega)), (decide_eq_false (by omega)), trivial⟩ ?_
      refine AWP.ret (by kernel_rfl) ?_
      refine Done.ret_ (C := [Value.bool (decide (leaf ≥ IntKind.i64.wrap ((1 : Int) * (2 : Int) ^ min (↑(2 : Nat) : Int).toNat IntKind.i64.bits))) = Value.bool (decide (leaf < (0 : Int) ∨ (↑((2 : Nat) ^ (2 : Nat)) : Int) ≤ leaf))]) (by kernel_rfl) ⟨(by simp [h1]; rfl), trivial⟩
  · by_cases h1 : leaf < 0
    · refine Ret.of_fn Try.func30 (by kernel_rfl) 13 (by kernel_rfl) (by kernel_rfl) ?_
      refine AWP.regsP 2 [{  }, {  }] [.keep [4, 0, 1] []] (by kernel_rfl) (s' := AS.mk [(4, ao true), (0, ai leaf), (1, ai (↑(3 : Nat) : Int))] []) (C := [decide (leaf < (0 : Int)) = true, decide (leaf < (0 : Int)) = true, decide (leaf < (0 : Int)) = true, decide (leaf < (0 : Int)) = true, decide (leaf < (0 : Int)) = true]) (by kernel_rfl) ⟨(decide_eq_true (by omega)), (decide_eq_true (by omega)), (decide_eq_true (by omega)), (decide_eq_true (by omega)), (decide_eq_true (by omega)), trivial⟩ ?_
      refine AWP.ret (by kernel_rfl) ?_
      refine Done.ret_ (C := [Value.bool true = Value.bool (decide (leaf < (0 : Int) ∨ (↑((2 : Nat) ^ (3 : Nat)) : Int) ≤ leaf))]) (by kernel_rfl) ⟨(by simp [h1]), trivial⟩
    · refine Ret.of_fn Try.func30 (by kernel_rfl) 13 (by kernel_rfl) (by kernel_rfl) ?_
      refine AWP.regsP 2 [{  }, { hs := [(3, { g := false }), (4, { g := false }), (5, { g := false }), (6, { g := false }), (7, { b := false })] }] [.keep [4, 0, 1] []] (by kernel_rfl) (s' := AS.mk [(4, ao (decide (leaf ≥ IntKind.i64.wrap ((1 : Int) * (2 : Int) ^ min (↑(3 : Nat) : Int).toNat IntKind.i64.bits)))), (0, ai leaf), (1, ai (↑(3 : Nat) : Int))] []) (C := [decide (leaf < (0 : Int)) = false, decide (leaf < (0 : Int)) = false, decide (leaf < (0 : Int)) = false, (0 : Int) ≤ (↑(3 : Nat) : Int), decide (leaf < (0 : Int)) = false, decide (leaf < (0 : Int)) = false]) (by kernel_rfl) ⟨(decide_eq_false (by omega)), (decide_eq_false (by omega)), (decide_eq_false (by omega)), (by omega), (decide_eq_false (by omega)), (decide_eq_false (by omega)), trivial⟩ ?_
      refine AWP.ret (by kernel_rfl) ?_
      refine Done.ret_ (C := [Value.bool (decide (leaf ≥ IntKind.i64.wrap ((1 : Int) * (2 : Int) ^ min (↑(3 : Nat) : Int).toNat IntKind.i64.bits))) = Value.bool (decide (leaf < (0 : Int) ∨ (↑((2 : Nat) ^ (3 : Nat)) : Int) ≤ leaf))]) (by kernel_rfl) ⟨(by simp [h1]; rfl), trivial⟩
  · by_cases h1 : leaf < 0
    · refine Ret.of_fn Try.func30 (by kernel_rfl) 13 (by kernel_rfl) (by kernel_rfl) ?_
      refine AWP.regsP 2 [{  }, {  }] [.keep [4, 0, 1] []] (by kernel_rfl) (s' := AS.mk [(4, ao true), (0, ai leaf), (1, ai (↑(4 : Nat) : Int))] []) (C := [decide (leaf < (0 : Int)) = true, decide (leaf < (0 : Int)) = true, decide (leaf < (0 : Int)) = true, decide (leaf < (0 : Int)) = true, decide (leaf < (0 : Int)) = true]) (by kernel_rfl) ⟨(decide_eq_true (by omega)), (decide_eq_true (by omega)), (decide_eq_true (by omega)), (decide_eq_true (by omega)), (decide_eq_true (by omega)), trivial⟩ ?_
      refine AWP.ret (by kernel_rfl) ?_
      refine Done.ret_ (C := [Value.bool true = Value.bool (decide (leaf < (0 : Int) ∨ (↑((2 : Nat) ^ (4 : Nat)) : Int) ≤ leaf))]) (by kernel_rfl) ⟨(by simp [h1]), trivial⟩
    · refine Ret.of_fn Try.func30 (by kernel_rfl) 13 (by kernel_rfl) (by kernel_rfl) ?_
      refine AWP.regsP 2 [{  }, { hs := [(3, { g := false }), (4, { g := false }), (5, { g := false }), (6, { g := false }), (7, { b := false })] }] [.keep [4, 0, 1] []] (by kernel_rfl) (s' := AS.mk [(4, ao (decide (leaf ≥ IntKind.i64.wrap ((1 : Int) * (2 : Int) ^ min (↑(4 : Nat) : Int).toNat IntKind.i64.bits)))), (0, ai leaf), (1, ai (↑(4 : Nat) : Int))] []) (C := [decide (leaf < (0 : Int)) = false, decide (leaf < (0 : Int)) = false, decide (leaf < (0 : Int)) = false, (0 : Int) ≤ (↑(4 : Nat) : Int), decide (leaf < (0 : Int)) = false, decide (leaf < (0 : Int)) = false]) (by kernel_rfl) ⟨(decide_eq_false (by omega)), (decide_eq_false (by omega)), (decide_eq_false (by omega)), (by omega), (decide_eq_false (by omega)), (decide_eq_false (by omega)), trivial⟩ ?_
      refine AWP.ret (by kernel_rfl) ?_
      refine Done.ret_ (C := [Value.bool (decide (leaf ≥ IntKind.i64.wrap ((1 : Int) * (2 : Int) ^ min (↑(4 : Nat) : Int).toNat IntKind.i64.bits))) = Value.bool (decide (leaf < (0 : Int) ∨ (↑((2 : Nat) ^ (4 : Nat)) : Int) ≤ leaf))]) (by kernel_rfl) ⟨(by simp [h1]; rfl), trivial⟩
end Go.Proofs.Ytjmmhpiadafahaa
