/-
  The contracts of treekey's and the reference's small functions, and of the reference's trees. No condition.
-/
import Derived.Test.YtjmmhpiadafahaaOt1
import Derived.Test.YtjmmhpiadafahaaKey2
import Derived.Test.YtjmmhpiadafahaaRJ
namespace Go.Proofs.Ytjmmhpiadafahaa
open Go.RowKit
set_option maxRecDepth 100000
set_option maxHeartbeats 4000000
set_option linter.unusedVariables false
--@au0

/-- The node above two nodes. -/
def parW (lv : Int) (a b : UInt64) : UInt64 := hash 3 (words [u64 lv, a, b])
theorem parent_ret (lv : Int) (a b : UInt64) : Ret Try.prog 35 [ai lv, aw a, aw b] (aw (parW lv a b)) := by
  refine Ret.of_fn Try.func35 (by kernel_rfl) 14 (by kernel_rfl) (by kernel_rfl) ?_
  refine AWP.regsP 2 [{  }, { hs := [(1, { av := some (aw (u64 lv)) }), (4, { av := some (AV.arr (wordsA [u64 lv, a, b])) }), (5, { av := some (AV.own 1 (bytesA (words [u64 lv, a, b]))) }), (6, { av := some (aw (hash (3 : Int) (words [u64 lv, a, b]))) })] }] [.keep [6, 0, 1, 2] []] (by kernel_rfl) (s' := AS.mk [(6, aw (hash (3 : Int) (words [u64 lv, a, b]))), (0, ai lv), (1, aw a), (2, aw b)] []) (C := [AV.val (Value.int .u64 (IntKind.u64.wrap lv)) = aw (u64 lv), [aw (u64 lv), aw a, aw b] = wordsA [u64 lv, a, b], Ret Try.prog (41 : Nat) [AV.sl 1 (wordsA [u64 lv, a, b])] (AV.own 1 (bytesA (words [u64 lv, a, b]))), valR (bytesA (words [u64 lv, a, b])), Ret Try.prog (55 : Nat) [ai 3, AV.sl 1 (bytesA (words [u64 lv, a, b]))] (aw (hash (3 : Int) (words [u64 lv, a, b])))]) (by kernel_rfl) ⟨(avw_conv (lv)), rfl, (words_ret ([u64 lv, a, b]) (by simp only [List.length_cons, List.length_nil]; omega)), (valR_bytes _), (hash_ret ((3 : Int)) (words [u64 lv, a, b])), trivial⟩ ?_
  refine AWP.ret (by kernel_rfl) ?_
  refine Done.ret_ (C := [Value.int .u64 (wv (hash (3 : Int) (words [u64 lv, a, b]))) = Value.int .u64 (wv (parW lv a b))]) (by kernel_rfl) ⟨rfl, trivial⟩
theorem refparent_ret (lv : Int) (a b : UInt64) : Ret Try.prog 37 [ai lv, aw a, aw b] (aw (parW lv a b)) := by
  refine Ret.of_fn Try.func37 (by kernel_rfl) 14 (by kernel_rfl) (by kernel_rfl) ?_
  refine AWP.regsP 2 [{  }, { hs := [(1, { av := some (aw (u64 lv)) }), (4, { av := some (AV.arr (wordsA [u64 lv, a, b])) }), (5, { av := some (AV.own 1 (bytesA (words [u64 lv, a, b]))) }), (6, { av := some (aw (hash (3 : Int) (words [u64 lv, a, b]))) })] }] [.keep [6, 0, 1, 2] []] (by kernel_rfl) (s' := AS.mk [(6, aw (hash (3 : Int) (words [u64 lv, a, b]))), (0, ai lv), (1, aw a), (2, aw b)] []) (C := [AV.val (Value.int .u64 (IntKind.u64.wrap lv)) = aw (u64 lv), [aw (u64 lv), aw a, aw b] = wordsA [u64 lv, a, b], Ret Try.prog (42 : Nat) [AV.sl 1 (wordsA [u64 lv, a, b])] (AV.own 1 (bytesA (words [u64 lv, a, b]))), valR (bytesA (words [u64 lv, a, b])), Ret Try.prog (57 : Nat) [ai 3, AV.sl 1 (bytesA (words [u64 lv, a, b]))] (aw (hash (3 : Int) (words [u64 lv, a, b])))]) (by kernel_rfl) ⟨(avw_conv (lv)), rfl, (refwords_ret ([u64 lv, a, b]) (by simp only [List.length_cons, List.length_nil]; omega)), (valR_bytes _), (refhash_ret ((3 : Int)) (words [u64 lv, a, b]) (by simp only [List.length_cons, List.length_nil, words_len]; omega)), trivial⟩ ?_
  refine AWP.ret (by kernel_rfl) ?_
  refine Done.ret_ (C := [Value.int .u64 (wv (hash (3 : Int) (words [u64 lv, a, b]))) = Value.int .u64 (wv (parW lv a b))]) (by kernel_rfl) ⟨rfl, trivial⟩
/-- The nodes of a tree. -/
def nodeW (seed : UInt64) : Nat → Nat → UInt64
  | 0, i => combine i (pubEnds seed i 18)
  | lv + 1, i => parW ((lv + 1 : Nat) : Int) (nodeW seed lv (2 * i)) (nodeW seed lv (2 * i + 1))
theorem refnode_ret (seed : UInt64) (lv : Nat) : ∀ (i : Nat), lv ≤ 4 → i < 2 ^ (40 - lv) → Ret Try.prog 28 [aw seed, ai lv, ai i] (aw (nodeW seed lv i)) := by
  induction lv with
  | zero =>
    intro i _ hi
    refine Ret.of_fn Try.func28 (by kernel_rfl) 27 (by kernel_rfl) (by kernel_rfl) ?_
    refine AWP.regsK 1 [{  }] (by kernel_rfl) (s' := AS.mk [(6, au0), (0, aw seed), (1, ai (↑(0 : Nat) : Int)), (2, ai (↑i : Int))] []) (C := []) (by kernel_rfl) trivial ?_
    refine AWP.seq (by kernel_rfl) ?_
    refine AWP.regsK 1 [{  }] (by kernel_rfl) (s' := AS.mk [(8, ao ((↑(0 : Nat) : Int) == (0 : Int))), (7, ai (↑(0 : Nat) : Int)), (6, au0), (0, aw seed), (1, ai (↑(0 : Nat) : Int)), (2, ai (↑i : Int))] []) (C := []) (by kernel_rfl) trivial ?_
    refine AWP.condT (x := .tmp 8) (b := (↑(0 : Nat) : Int) == (0 : Int)) (by kernel_rfl) (by kernel_rfl) (decide_eq_true (by omega)) ?_
    refine AWP.regsP 1 [{ hs := [(2, { av := some (aw (combine (↑i : Int) (pubEnds seed (↑i : Int) (18 : Nat)))) })] }] [.keep [6, 8, 0, 1, 2] []] (by kernel_rfl) (s' := AS.mk [(6, aw (combine (↑i : Int) (pubEnds seed (↑i : Int) (18 : Nat)))), (8, ao ((↑(0 : Nat) : Int) == (0 : Int))), (0, aw seed), (1, ai (↑(0 : Nat) : Int)), (2, ai (↑i : Int))] []) (C := [Ret Try.prog (47 : Nat) [aw seed, ai (↑i : Int)] (aw (combine (↑i : Int) (pubEnds seed (↑i : Int) (18 : Nat))))]) (by kernel_rfl) ⟨(refleaf_ret (seed) ((↑i : Int))), trivial⟩ ?_
    refine AWP.ret (by kernel_rfl) ?_
    refine then_r ?_
    refine Done.ret_ (C := [Value.int .u64 (wv (combine (↑i : Int) (pubEnds seed (↑i : Int) (18 : Nat)))) = Value.int .u64 (wv (nodeW seed (0 : Nat) i))]) (by kernel_rfl) ⟨rfl, trivial⟩
  | succ lv ih =>
    intro i hl hi
    have e : 2 ^ (40 - lv) = 2 * 2 ^ (40 - (lv + 1)) := by rw [show 40 - lv = 40 - (lv + 1) + 1 by omega, Nat.pow_succ, Nat.mul_comm]
    have hp : 2 ^ (40 - (lv + 1)) ≤ 2 ^ 40 := Nat.pow_le_pow_right (by decide) (by omega)
    obtain ⟨j, hj⟩ : ∃ j : Nat, 2 * i = j := ⟨_, rfl⟩
    obtain ⟨j2, hj2⟩ : ∃ j2 : Nat, 2 * i + 1 = j2 := ⟨_, rfl⟩
    have h1 := ih j (by omega) (by omega)
    have h2 := ih j2 (by omega) (by omega)
    clear ih
    generalize 2 ^ (40 - lv) = p1 at *
    generalize 2 ^ (40 - (lv + 1)) = p2 at *
    have ew : nodeW seed (lv + 1) i = parW ((lv + 1 : Nat) : Int) (nodeW seed lv j) (nodeW seed lv j2) := by rw [← hj, ← hj2]; rfl
    rw [ew]
    generalize nodeW seed lv j = n1 at *
    generalize nodeW seed lv j2 = n2 at *
    have e1 : IntKind.i64.wrap (((lv + 1 : Nat) : Int) - 1) = (lv : Int) := by rw [IntKind.wrap_i64]; omega
    have e2 : IntKind.i64.wrap (2 * (i : Int)) = (j : Int) := by rw [IntKind.wrap_i64]; omega
    have e3 : IntKind.i64.wrap ((j : Int) + 1) = (j2 : Int) := by rw [IntKind.wrap_i64]; omega
    refine Ret.of_fn Try.func28 (by kernel_rfl) 27 (by kernel_rfl) (by kernel_rfl) ?_
    refine AWP.regsK 1 [{  }] (by kernel_rfl) (s' := AS.mk [(6, au0), (0, aw seed), (1, ai (↑(lv + (1 : Nat)) : Int)), (2, ai (↑i : Int))] []) (C := []) (by kernel_rfl) trivial ?_
    refine AWP.seq (by kernel_rfl) ?_
    refine AWP.regsK 1 [{  }] (by kernel_rfl) (s' := AS.mk [(8, ao ((↑(lv + (1 : Nat)) : Int) == (0 : Int))), (7, ai (↑(lv + (1 : Nat)) : Int)), (6, au0), (0, aw seed), (1, ai (↑(lv + (1 : Nat)) : Int)), (2, ai (↑i : Int))] []) (C := []) (by kernel_rfl) trivial ?_
    refine AWP.condF (x := .tmp 8) (b := (↑(lv + (1 : Nat)) : Int) == (0 : Int)) (by kernel_rfl) (by kernel_rfl) (decide_eq_false (by omega)) ?_
    refine AWP.skip (by kernel_rfl) ?_
    refine then_n ?_
    refine AWP.regsP 1 [{ hs := [(3, { av := some (ai (↑lv : Int)) }), (5, { av := some (ai (↑j : Int)) }), (6, { av := some (aw n1) }), (9, { av := some (ai (↑lv : Int)) }), (11, { av := some (ai (↑j : Int)) }), (12, { av := some (ai (↑j2 : Int)) }), (13, { av := some (aw n2) }), (14, { av := some (aw (parW (↑(lv + (1 : Nat)) : Int) n1 n2)) })] }] [.keep [6, 8, 0, 1, 2] []] (by kernel_rfl) (s' := AS.mk [(6, aw (parW (↑(lv + (1 : Nat)) : Int) n1 n2)), (8, ao ((↑(lv + (1 : Nat)) : Int) == (0 : Int))), (0, aw seed), (1, ai (↑(lv + (1 : Nat)) : Int)), (2, ai (↑i : Int))] []) (C := [ai (IntKind.i64.wrap ((↑(lv + (1 : Nat)) : Int) - (1 : Int))) = ai (↑lv : Int), ai (IntKind.i64.wrap ((2 : Int) * (↑i : Int))) = ai (↑j : Int), Ret Try.prog (28 : Nat) [aw seed, ai (↑lv : Int), ai (↑j : Int)] (aw n1), ai (IntKind.i64.wrap ((↑(lv + (1 : Nat)) : Int) - (1 : Int))) = ai (↑lv : Int), ai (IntKind.i64.wrap ((2 : Int) * (↑i : Int))) = ai (↑j : Int), ai (IntKind.i64.wrap ((↑j : Int) + (1 : Int))) = ai (↑j2 : Int), Ret Try.prog (28 : Nat) [aw seed, ai (↑lv : Int), ai (↑j2 : Int)] (aw n2), Ret Try.prog (37 : Nat) [ai (↑(lv + (1 : Nat)) : Int), aw n1, aw n2] (aw (parW (↑(lv + (1 : Nat)) : Int) n1 n2))]) (by kernel_rfl) ⟨(congrArg (fun n => AV.val (.int .i64 n)) e1), (congrArg (fun n => AV.val (.int .i64 n)) e2), (h1), (congrArg (fun n => AV.val (.int .i64 n)) e1), (congrArg (fun n => AV.val (.int .i64 n)) e2), (congrArg (fun n => AV.val (.int .i64 n)) e3), (h2), (refparent_ret ((↑(lv + (1 : Nat)) : Int)) (n1) (n2)), trivial⟩ ?_
    refine AWP.ret (by kernel_rfl) ?_
    refine Done.ret_ (C := [Value.int .u64 (wv (parW (↑(lv + (1 : Nat)) : Int) n1 n2)) = Value.int .u64 (wv (parW (↑(lv + (1 : Nat)) : Int) n1 n2))]) (by kernel_rfl) ⟨rfl, trivial⟩
end Go.Proofs.Ytjmmhpiadafahaa
