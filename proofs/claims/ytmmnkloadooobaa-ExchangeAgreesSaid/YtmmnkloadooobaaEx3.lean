/-
  The contracts of exchange.Public, Shared, of the reference's, and of the law's awake; the laws of exchange. No condition.
-/
import Derived.Test.YtmmnkloadooobaaEx2
import Derived.Test.YtmmnkloadooobaaDR
namespace Go.Proofs.Ytmmnkloadooobaa
open Go.RowKit
set_option maxRecDepth 100000
set_option maxHeartbeats 4000000
set_option linter.unusedVariables false

def expo (s : UInt64) : UInt64 := 2 + s % 2305843009213693948
theorem expox_ret (s : UInt64) : Ret Try.prog 48 [aw s] (aw (expo s)) := by
  refine Ret.of_fn Try.func48 (by kernel_rfl) 6 (by kernel_rfl) (by kernel_rfl) ?_
  skip
  refine AWP.regsK 2 [{  }, { hs := [(1, { av := some (aw (s % (2305843009213693948 : UInt64))) }), (2, { av := some (aw ((2 : UInt64) + s % (2305843009213693948 : UInt64))) })] }] (by kernel_rfl) (s' := AS.mk [(2, aw ((2 : UInt64) + s % (2305843009213693948 : UInt64))), (5, aw ((2 : UInt64) + s % (2305843009213693948 : UInt64))), (4, aw (s % (2305843009213693948 : UInt64))), (3, aw s), (0, aw s)] []) (C := [AV.val (Value.int IntKind.u64 ((wv s).tmod (2305843009213693948 : Int))) = aw (s % (2305843009213693948 : UInt64)), (2305843009213693948 : Int) ≠ (0 : Int), AV.val (Value.int IntKind.u64 (IntKind.u64.wrap ((2 : Int) + wv (s % (2305843009213693948 : UInt64))))) = aw ((2 : UInt64) + s % (2305843009213693948 : UInt64))]) (by kernel_rfl) ⟨(avw_mod (s) ((2305843009213693948 : UInt64))), (by omega), (avw_add ((2 : UInt64)) (s % (2305843009213693948 : UInt64))), trivial⟩ ?_
  refine AWP.ret (by kernel_rfl) ?_
  refine Done.ret_ (C := [Value.int IntKind.u64 (wv ((2 : UInt64) + s % (2305843009213693948 : UInt64))) = Value.int IntKind.u64 (wv (expo s))]) (by kernel_rfl) ⟨rfl, trivial⟩
theorem refexpox_ret (s : UInt64) : Ret Try.prog 49 [aw s] (aw (expo s)) := by
  refine Ret.of_fn Try.func49 (by kernel_rfl) 6 (by kernel_rfl) (by kernel_rfl) ?_
  skip
  refine AWP.regsK 2 [{  }, { hs := [(1, { av := some (aw (s % (2305843009213693948 : UInt64))) }), (2, { av := some (aw ((2 : UInt64) + s % (2305843009213693948 : UInt64))) })] }] (by kernel_rfl) (s' := AS.mk [(2, aw ((2 : UInt64) + s % (2305843009213693948 : UInt64))), (5, aw ((2 : UInt64) + s % (2305843009213693948 : UInt64))), (4, aw (s % (2305843009213693948 : UInt64))), (3, aw s), (0, aw s)] []) (C := [AV.val (Value.int IntKind.u64 ((wv s).tmod (2305843009213693948 : Int))) = aw (s % (2305843009213693948 : UInt64)), (2305843009213693948 : Int) ≠ (0 : Int), AV.val (Value.int IntKind.u64 (IntKind.u64.wrap ((2 : Int) + wv (s % (2305843009213693948 : UInt64))))) = aw ((2 : UInt64) + s % (2305843009213693948 : UInt64))]) (by kernel_rfl) ⟨(avw_mod (s) ((2305843009213693948 : UInt64))), (by omega), (avw_add ((2 : UInt64)) (s % (2305843009213693948 : UInt64))), trivial⟩ ?_
  refine AWP.ret (by kernel_rfl) ?_
  refine Done.ret_ (C := [Value.int IntKind.u64 (wv ((2 : UInt64) + s % (2305843009213693948 : UInt64))) = Value.int IntKind.u64 (wv (expo s))]) (by kernel_rfl) ⟨rfl, trivial⟩
def pubW (s : UInt64) : UInt64 := mq (37 ^ (expo s).toNat)
theorem pubx_ret (s : UInt64) : Ret Try.prog 31 [aw s] (aw (pubW s)) := by
  refine Ret.of_fn Try.func31 (by kernel_rfl) 6 (by kernel_rfl) (by kernel_rfl) ?_
  skip
  refine AWP.regsK 2 [{  }, { hs := [(1, { av := some (aw (expo s)) }), (2, { av := some (aw (mq (UInt64.toNat (37 : UInt64) ^ (expo s).toNat))) })] }] (by kernel_rfl) (s' := AS.mk [(2, aw (mq (UInt64.toNat (37 : UInt64) ^ (expo s).toNat))), (5, aw (mq (UInt64.toNat (37 : UInt64) ^ (expo s).toNat))), (4, aw (expo s)), (3, aw s), (0, aw s)] []) (C := [Ret Try.prog (48 : Nat) [aw s] (aw (expo s)), Ret Try.prog (27 : Nat) [AV.val (Value.int IntKind.u64 (37 : Int)), aw (expo s)] (aw (mq (UInt64.toNat (37 : UInt64) ^ (expo s).toNat)))]) (by kernel_rfl) ⟨(expox_ret (s)), (powx_ret ((37 : UInt64)) (expo s)), trivial⟩ ?_
  refine AWP.ret (by kernel_rfl) ?_
  refine Done.ret_ (C := [Value.int IntKind.u64 (wv (mq (UInt64.toNat (37 : UInt64) ^ (expo s).toNat))) = Value.int IntKind.u64 (wv (pubW s))]) (by kernel_rfl) ⟨rfl, trivial⟩
theorem refpubx_ret (s : UInt64) : Ret Try.prog 32 [aw s] (aw (pubW s)) := by
  refine Ret.of_fn Try.func32 (by kernel_rfl) 6 (by kernel_rfl) (by kernel_rfl) ?_
  skip
  refine AWP.regsK 2 [{  }, { hs := [(1, { av := some (aw (expo s)) }), (2, { av := some (aw (mq (UInt64.toNat (37 : UInt64) ^ (expo s).toNat))) })] }] (by kernel_rfl) (s' := AS.mk [(2, aw (mq (UInt64.toNat (37 : UInt64) ^ (expo s).toNat))), (5, aw (mq (UInt64.toNat (37 : UInt64) ^ (expo s).toNat))), (4, aw (expo s)), (3, aw s), (0, aw s)] []) (C := [Ret Try.prog (49 : Nat) [aw s] (aw (expo s)), Ret Try.prog (28 : Nat) [AV.val (Value.int IntKind.u64 (37 : Int)), aw (expo s)] (aw (mq (UInt64.toNat (37 : UInt64) ^ (expo s).toNat)))]) (by kernel_rfl) ⟨(refexpox_ret (s)), (refpowx_ret ((37 : UInt64)) (expo s)), trivial⟩ ?_
  refine AWP.ret (by kernel_rfl) ?_
  refine Done.ret_ (C := [Value.int IntKind.u64 (wv (mq (UInt64.toNat (37 : UInt64) ^ (expo s).toNat))) = Value.int IntKind.u64 (wv (pubW s))]) (by kernel_rfl) ⟨rfl, trivial⟩
def badP (p : UInt64) : Prop := wv p < 2 ∨ wv p > 2305843009213693949
instance (p : UInt64) : Decidable (badP p) := inferInstanceAs (Decidable (_ ∨ _))
def shE (p : UInt64) : Int := if badP p then 9 else 0
def shK (s p : UInt64) : UInt64 := if badP p then 0 else hash 12 (words [mq (p.toNat ^ (expo s).toNat)])
theorem sharedx_ret (s p : UInt64) : Ret Try.prog 29 [aw s, aw p] (.tup [aw (shK s p), ai (shE p)]) := by
  by_cases h1 : wv p < 2
  · have e : badP p := .inl h1
    refine Ret.of_fn Try.func29 (by kernel_rfl) 19 (by kernel_rfl) (by kernel_rfl) ?_
    skip
    refine AWP.regsK 1 [{  }] (by kernel_rfl) (s' := AS.mk [(5, ai (0 : Int)), (4, AV.val (Value.int IntKind.u64 (0 : Int))), (0, aw s), (1, aw p)] []) (C := []) (by kernel_rfl) trivial ?_
    refine AWP.seq (by kernel_rfl) ?_
    refine AWP.regsK 1 [{  }] (by kernel_rfl) (s' := AS.mk [(11, ao true), (10, AV.val (Value.tuple #[])), (9, AV.val (Value.tuple #[])), (8, ao (decide (wv p < (2 : Int)))), (7, ao (decide (wv p < (2 : Int)))), (6, aw p), (5, ai (0 : Int)), (4, AV.val (Value.int IntKind.u64 (0 : Int))), (0, aw s), (1, aw p)] []) (C := [decide (wv p < (2 : Int)) = true, decide (wv p < (2 : Int)) = true, decide (wv p < (2 : Int)) = true]) (by kernel_rfl) ⟨(decide_eq_true (by omega)), (decide_eq_true (by omega)), (decide_eq_true (by omega)), trivial⟩ ?_
    refine AWP.condT (x := Operand.tmp (11 : Nat)) (b := true) (by kernel_rfl) (by kernel_rfl) rfl ?_
    refine AWP.regsK 1 [{  }] (by kernel_rfl) (s' := AS.mk [(5, ai (9 : Int)), (4, AV.val (Value.int IntKind.u64 (0 : Int))), (11, ao true), (10, AV.val (Value.tuple #[])), (9, AV.val (Value.tuple #[])), (8, ao (decide (wv p < (2 : Int)))), (7, ao (decide (wv p < (2 : Int)))), (6, aw p), (0, aw s), (1, aw p)] []) (C := []) (by kernel_rfl) trivial ?_
    refine AWP.ret (by kernel_rfl) ?_
    skip
    refine then_r ?_
    refine Done.ret_ (C := [Value.int IntKind.u64 (0 : Int) = Value.int IntKind.u64 (wv (shK s p)), Value.int IntKind.i64 (9 : Int) = Value.int IntKind.i64 (shE p)]) (by kernel_rfl) ⟨(by rw [shK, if_pos e]; rfl), (by rw [shE, if_pos e]), trivial⟩
  by_cases h2 : wv p > 2305843009213693949
  · have e : badP p := .inr h2
    refine Ret.of_fn Try.func29 (by kernel_rfl) 19 (by kernel_rfl) (by kernel_rfl) ?_
    skip
    refine AWP.regsK 1 [{  }] (by kernel_rfl) (s' := AS.mk [(5, ai (0 : Int)), (4, AV.val (Value.int IntKind.u64 (0 : Int))), (0, aw s), (1, aw p)] []) (C := []) (by kernel_rfl) trivial ?_
    refine AWP.seq (by kernel_rfl) ?_
    refine AWP.regsK 1 [{ hs := [(3, { g := false }), (4, { g := false }), (5, { b := false })] }] (by kernel_rfl) (s' := AS.mk [(11, ao (decide (wv p > (2305843009213693949 : Int)))), (10, ao (decide (wv p > (2305843009213693949 : Int)))), (9, aw p), (8, ao (decide (wv p < (2 : Int)))), (7, ao (decide (wv p < (2 : Int)))), (6, aw p), (5, ai (0 : Int)), (4, AV.val (Value.int IntKind.u64 (0 : Int))), (0, aw s), (1, aw p)] []) (C := [decide (wv p < (2 : Int)) = false, decide (wv p < (2 : Int)) = false, decide (wv p < (2 : Int)) = false]) (by kernel_rfl) ⟨(decide_eq_false (by omega)), (decide_eq_false (by omega)), (decide_eq_false (by omega)), trivial⟩ ?_
    refine AWP.condT (x := Operand.tmp (11 : Nat)) (b := decide (wv p > (2305843009213693949 : Int))) (by kernel_rfl) (by kernel_rfl) (decide_eq_true (by omega)) ?_
    refine AWP.regsK 1 [{  }] (by kernel_rfl) (s' := AS.mk [(5, ai (9 : Int)), (4, AV.val (Value.int IntKind.u64 (0 : Int))), (11, ao (decide (wv p > (2305843009213693949 : Int)))), (10, ao (decide (wv p > (2305843009213693949 : Int)))), (9, aw p), (8, ao (decide (wv p < (2 : Int)))), (7, ao (decide (wv p < (2 : Int)))), (6, aw p), (0, aw s), (1, aw p)] []) (C := []) (by kernel_rfl) trivial ?_
    refine AWP.ret (by kernel_rfl) ?_
    skip
    refine then_r ?_
    refine Done.ret_ (C := [Value.int IntKind.u64 (0 : Int) = Value.int IntKind.u64 (wv (shK s p)), Value.int IntKind.i64 (9 : Int) = Value.int IntKind.i64 (shE p)]) (by kernel_rfl) ⟨(by rw [shK, if_pos e]; rfl), (by rw [shE, if_pos e]), trivial⟩
  have e : ¬ badP p := by rintro (h | h); exact h1 h; exact h2 h
  refine Ret.of_fn Try.func29 (by kernel_rfl) 19 (by kernel_rfl) (by kernel_rfl) ?_
  skip
  refine AWP.regsK 1 [{  }] (by kernel_rfl) (s' := AS.mk [(5, ai (0 : Int)), (4, AV.val (Value.int IntKind.u64 (0 : Int))), (0, aw s), (1, aw p)] []) (C := []) (by kernel_rfl) trivial ?_
  refine AWP.seq (by kernel_rfl) ?_
  refine AWP.regsK 1 [{ hs := [(3, { g := false }), (4, { g := false }), (5, { b := false })] }] (by kernel_rfl) (s' := AS.mk [(11, ao (decide (wv p > (2305843009213693949 : Int)))), (10, ao (decide (wv p > (2305843009213693949 : Int)))), (9, aw p), (8, ao (decide (wv p < (2 : Int)))), (7, ao (decide (wv p < (2 : Int)))), (6, aw p), (5, ai (0 : Int)), (4, AV.val (Value.int IntKind.u64 (0 : Int))), (0, aw s), (1, aw p)] []) (C := [decide (wv p < (2 : Int)) = false, decide (wv p < (2 : Int)) = false, decide (wv p < (2 : Int)) = false]) (by kernel_rfl) ⟨(decide_eq_false (by omega)), (decide_eq_false (by omega)), (decide_eq_false (by omega)), trivial⟩ ?_
  refine AWP.condF (x := Operand.tmp (11 : Nat)) (b := decide (wv p > (2305843009213693949 : Int))) (by kernel_rfl) (by kernel_rfl) (decide_eq_false (by omega)) ?_
  refine AWP.skip (by kernel_rfl) ?_
  skip
  refine then_n ?_
  refine AWP.regsK 1 [{ hs := [(2, { av := some (aw (expo s)) }), (3, { av := some (aw (mq (p.toNat ^ (expo s).toNat))) }), (4, { av := some (AV.arr (wordsA [mq (p.toNat ^ (expo s).toNat)])) }), (5, { av := some (AV.own (1 : Nat) (bytesA (words [mq (p.toNat ^ (expo s).toNat)]))) }), (6, { av := some (aw (hash (12 : Int) (words [mq (p.toNat ^ (expo s).toNat)]))) })] }] (by kernel_rfl) (s' := AS.mk [(5, ai (0 : Int)), (4, aw (hash (12 : Int) (words [mq (p.toNat ^ (expo s).toNat)]))), (18, aw (hash (12 : Int) (words [mq (p.toNat ^ (expo s).toNat)]))), (17, AV.ref (17 : Nat)), (16, AV.ref (16 : Nat)), (15, aw (mq (p.toNat ^ (expo s).toNat))), (14, aw (expo s)), (13, aw s), (12, aw p), (11, ao (decide (wv p > (2305843009213693949 : Int)))), (10, ao (decide (wv p > (2305843009213693949 : Int)))), (9, aw p), (8, ao (decide (wv p < (2 : Int)))), (7, ao (decide (wv p < (2 : Int)))), (6, aw p), (0, aw s), (1, aw p)] [(17, Row.mk (1 : Nat) true false (bytesA (words [mq (p.toNat ^ (expo s).toNat)]))), (16, Row.mk (1 : Nat) true true (wordsA [mq (p.toNat ^ (expo s).toNat)]))]) (C := [Ret Try.prog (48 : Nat) [aw s] (aw (expo s)), Ret Try.prog (27 : Nat) [aw p, aw (expo s)] (aw (mq (p.toNat ^ (expo s).toNat))), [aw (mq (p.toNat ^ (expo s).toNat))] = wordsA [mq (p.toNat ^ (expo s).toNat)], Ret Try.prog (37 : Nat) [AV.sl (1 : Nat) (wordsA [mq (p.toNat ^ (expo s).toNat)])] (AV.own (1 : Nat) (bytesA (words [mq (p.toNat ^ (expo s).toNat)]))), valR (bytesA (words [mq (p.toNat ^ (expo s).toNat)])), Ret Try.prog (44 : Nat) [ai (12 : Int), AV.sl (1 : Nat) (bytesA (words [mq (p.toNat ^ (expo s).toNat)]))] (aw (hash (12 : Int) (words [mq (p.toNat ^ (expo s).toNat)])))]) (by kernel_rfl) ⟨(expox_ret (s)), (powx_ret (p) (expo s)), rfl, (words_ret ([mq (p.toNat ^ (expo s).toNat)]) (by simp only [List.length_cons, List.length_nil]; omega)), (valR_bytes _), (hash_ret ((12 : Int)) (words [mq (p.toNat ^ (expo s).toNat)])), trivial⟩ ?_
  refine AWP.wk [.keep [5, 4, 11, 0, 1] []] (s' := AS.mk [(5, ai (0 : Int)), (4, aw (hash (12 : Int) (words [mq (p.toNat ^ (expo s).toNat)]))), (11, ao (decide (wv p > (2305843009213693949 : Int)))), (0, aw s), (1, aw p)] []) (by kernel_rfl) ?_
  refine AWP.ret (by kernel_rfl) ?_
  refine Done.ret_ (C := [Value.int IntKind.u64 (wv (hash (12 : Int) (words [mq (p.toNat ^ (expo s).toNat)]))) = Value.int IntKind.u64 (wv (shK s p)), Value.int IntKind.i64 (0 : Int) = Value.int IntKind.i64 (shE p)]) (by kernel_rfl) ⟨(by rw [shK, if_neg e]), (by rw [shE, if_neg e]), trivial⟩
theorem refsharedx_ret (s p : UInt64) : Ret Try.prog 30 [aw s, aw p] (.tup [aw (shK s p), ai (shE p)]) := by
  have hw : (words [mq (p.toNat ^ (expo s).toNat)]).length = 8 := by rw [words_len]; rfl
  by_cases h1 : wv p < 2
  · have e : badP p := .inl h1
    refine Ret.of_fn Try.func30 (by kernel_rfl) 19 (by kernel_rfl) (by kernel_rfl) ?_
    skip
    refine AWP.regsK 1 [{  }] (by kernel_rfl) (s' := AS.mk [(5, ai (0 : Int)), (4, AV.val (Value.int IntKind.u64 (0 : Int))), (0, aw s), (1, aw p)] []) (C := []) (by kernel_rfl) trivial ?_
    refine AWP.seq (by kernel_rfl) ?_
    refine AWP.regsK 1 [{  }] (by kernel_rfl) (s' := AS.mk [(11, ao true), (10, AV.val (Value.tuple #[])), (9, AV.val (Value.tuple #[])), (8, ao (decide (wv p < (2 : Int)))), (7, ao (decide (wv p < (2 : Int)))), (6, aw p), (5, ai (0 : Int)), (4, AV.val (Value.int IntKind.u64 (0 : Int))), (0, aw s), (1, aw p)] []) (C := [decide (wv p < (2 : Int)) = true, decide (wv p < (2 : Int)) = true, decide (wv p < (2 : Int)) = true]) (by kernel_rfl) ⟨(decide_eq_true (by omega)), (decide_eq_true (by omega)), (decide_eq_true (by omega)), trivial⟩ ?_
    refine AWP.condT (x := Operand.tmp (11 : Nat)) (b := true) (by kernel_rfl) (by kernel_rfl) rfl ?_
    refine AWP.regsK 1 [{  }] (by kernel_rfl) (s' := AS.mk [(5, ai (9 : Int)), (4, AV.val (Value.int IntKind.u64 (0 : Int))), (11, ao true), (10, AV.val (Value.tuple #[])), (9, AV.val (Value.tuple #[])), (8, ao (decide (wv p < (2 : Int)))), (7, ao (decide (wv p < (2 : Int)))), (6, aw p), (0, aw s), (1, aw p)] []) (C := []) (by kernel_rfl) trivial ?_
    refine AWP.ret (by kernel_rfl) ?_
    skip
    refine then_r ?_
    refine Done.ret_ (C := [Value.int IntKind.u64 (0 : Int) = Value.int IntKind.u64 (wv (shK s p)), Value.int IntKind.i64 (9 : Int) = Value.int IntKind.i64 (shE p)]) (by kernel_rfl) ⟨(by rw [shK, if_pos e]; rfl), (by rw [shE, if_pos e]), trivial⟩
  by_cases h2 : wv p > 2305843009213693949
  · have e : badP p := .inr h2
    refine Ret.of_fn Try.func30 (by kernel_rfl) 19 (by kernel_rfl) (by kernel_rfl) ?_
    skip
    refine AWP.regsK 1 [{  }] (by kernel_rfl) (s' := AS.mk [(5, ai (0 : Int)), (4, AV.val (Value.int IntKind.u64 (0 : Int))), (0, aw s), (1, aw p)] []) (C := []) (by kernel_rfl) trivial ?_
    refine AWP.seq (by kernel_rfl) ?_
    refine AWP.regsK 1 [{ hs := [(3, { g := false }), (4, { g := false }), (5, { b := false })] }] (by kernel_rfl) (s' := AS.mk [(11, ao (decide (wv p > (2305843009213693949 : Int)))), (10, ao (decide (wv p > (2305843009213693949 : Int)))), (9, aw p), (8, ao (decide (wv p < (2 : Int)))), (7, ao (decide (wv p < (2 : Int)))), (6, aw p), (5, ai (0 : Int)), (4, AV.val (Value.int IntKind.u64 (0 : Int))), (0, aw s), (1, aw p)] []) (C := [decide (wv p < (2 : Int)) = false, decide (wv p < (2 : Int)) = false, decide (wv p < (2 : Int)) = false]) (by kernel_rfl) ⟨(decide_eq_false (by omega)), (decide_eq_false (by omega)), (decide_eq_false (by omega)), trivial⟩ ?_
    refine AWP.condT (x := Operand.tmp (11 : Nat)) (b := decide (wv p > (2305843009213693949 : Int))) (by kernel_rfl) (by kernel_rfl) (decide_eq_true (by omega)) ?_
    refine AWP.regsK 1 [{  }] (by kernel_rfl) (s' := AS.mk [(5, ai (9 : Int)), (4, AV.val (Value.int IntKind.u64 (0 : Int))), (11, ao (decide (wv p > (2305843009213693949 : Int)))), (10, ao (decide (wv p > (2305843009213693949 : Int)))), (9, aw p), (8, ao (decide (wv p < (2 : Int)))), (7, ao (decide (wv p < (2 : Int)))), (6, aw p), (0, aw s), (1, aw p)] []) (C := []) (by kernel_rfl) trivial ?_
    refine AWP.ret (by kernel_rfl) ?_
    skip
    refine then_r ?_
    refine Done.ret_ (C := [Value.int IntKind.u64 (0 : Int) = Value.int IntKind.u64 (wv (shK s p)), Value.int IntKind.i64 (9 : Int) = Value.int IntKind.i64 (shE p)]) (by kernel_rfl) ⟨(by rw [shK, if_pos e]; rfl), (by rw [shE, if_pos e]), trivial⟩
  have e : ¬ badP p := by rintro (h | h); exact h1 h; exact h2 h
  refine Ret.of_fn Try.func30 (by kernel_rfl) 19 (by kernel_rfl) (by kernel_rfl) ?_
  skip
  refine AWP.regsK 1 [{  }] (by kernel_rfl) (s' := AS.mk [(5, ai (0 : Int)), (4, AV.val (Value.int IntKind.u64 (0 : Int))), (0, aw s), (1, aw p)] []) (C := []) (by kernel_rfl) trivial ?_
  refine AWP.seq (by kernel_rfl) ?_
  refine AWP.regsK 1 [{ hs := [(3, { g := false }), (4, { g := false }), (5, { b := false })] }] (by kernel_rfl) (s' := AS.mk [(11, ao (decide (wv p > (2305843009213693949 : Int)))), (10, ao (decide (wv p > (2305843009213693949 : Int)))), (9, aw p), (8, ao (decide (wv p < (2 : Int)))), (7, ao (decide (wv p < (2 : Int)))), (6, aw p), (5, ai (0 : Int)), (4, AV.val (Value.int IntKind.u64 (0 : Int))), (0, aw s), (1, aw p)] []) (C := [decide (wv p < (2 : Int)) = false, decide (wv p < (2 : Int)) = false, decide (wv p < (2 : Int)) = false]) (by kernel_rfl) ⟨(decide_eq_false (by omega)), (decide_eq_false (by omega)), (decide_eq_false (by omega)), trivial⟩ ?_
  refine AWP.condF (x := Operand.tmp (11 : Nat)) (b := decide (wv p > (2305843009213693949 : Int))) (by kernel_rfl) (by kernel_rfl) (decide_eq_false (by omega)) ?_
  refine AWP.skip (by kernel_rfl) ?_
  skip
  refine then_n ?_
  refine AWP.regsK 1 [{ hs := [(2, { av := some (aw (expo s)) }), (3, { av := some (aw (mq (p.toNat ^ (expo s).toNat))) }), (4, { av := some (AV.arr (wordsA [mq (p.toNat ^ (expo s).toNat)])) }), (5, { av := some (AV.own (1 : Nat) (bytesA (words [mq (p.toNat ^ (expo s).toNat)]))) }), (6, { av := some (aw (hash (12 : Int) (words [mq (p.toNat ^ (expo s).toNat)]))) })] }] (by kernel_rfl) (s' := AS.mk [(5, ai (0 : Int)), (4, aw (hash (12 : Int) (words [mq (p.toNat ^ (expo s).toNat)]))), (18, aw (hash (12 : Int) (words [mq (p.toNat ^ (expo s).toNat)]))), (17, AV.ref (17 : Nat)), (16, AV.ref (16 : Nat)), (15, aw (mq (p.toNat ^ (expo s).toNat))), (14, aw (expo s)), (13, aw s), (12, aw p), (11, ao (decide (wv p > (2305843009213693949 : Int)))), (10, ao (decide (wv p > (2305843009213693949 : Int)))), (9, aw p), (8, ao (decide (wv p < (2 : Int)))), (7, ao (decide (wv p < (2 : Int)))), (6, aw p), (0, aw s), (1, aw p)] [(17, Row.mk (1 : Nat) true false (bytesA (words [mq (p.toNat ^ (expo s).toNat)]))), (16, Row.mk (1 : Nat) true true (wordsA [mq (p.toNat ^ (expo s).toNat)]))]) (C := [Ret Try.prog (49 : Nat) [aw s] (aw (expo s)), Ret Try.prog (28 : Nat) [aw p, aw (expo s)] (aw (mq (p.toNat ^ (expo s).toNat))), [aw (mq (p.toNat ^ (expo s).toNat))] = wordsA [mq (p.toNat ^ (expo s).toNat)], Ret Try.prog (41 : Nat) [AV.sl (1 : Nat) (wordsA [mq (p.toNat ^ (expo s).toNat)])] (AV.own (1 : Nat) (bytesA (words [mq (p.toNat ^ (expo s).toNat)]))), valR (bytesA (words [mq (p.toNat ^ (expo s).toNat)])), Ret Try.prog (45 : Nat) [ai (12 : Int), AV.sl (1 : Nat) (bytesA (words [mq (p.toNat ^ (expo s).toNat)]))] (aw (hash (12 : Int) (words [mq (p.toNat ^ (expo s).toNat)])))]) (by kernel_rfl) ⟨(refexpox_ret (s)), (refpowx_ret (p) (expo s)), rfl, (refwords_ret ([mq (p.toNat ^ (expo s).toNat)]) (by simp only [List.length_cons, List.length_nil]; omega)), (valR_bytes _), (refhash_ret ((12 : Int)) (words [mq (p.toNat ^ (expo s).toNat)]) (by omega)), trivial⟩ ?_
  refine AWP.wk [.keep [5, 4, 11, 0, 1] []] (s' := AS.mk [(5, ai (0 : Int)), (4, aw (hash (12 : Int) (words [mq (p.toNat ^ (expo s).toNat)]))), (11, ao (decide (wv p > (2305843009213693949 : Int)))), (0, aw s), (1, aw p)] []) (by kernel_rfl) ?_
  refine AWP.ret (by kernel_rfl) ?_
  refine Done.ret_ (C := [Value.int IntKind.u64 (wv (hash (12 : Int) (words [mq (p.toNat ^ (expo s).toNat)]))) = Value.int IntKind.u64 (wv (shK s p)), Value.int IntKind.i64 (0 : Int) = Value.int IntKind.i64 (shE p)]) (by kernel_rfl) ⟨(by rw [shK, if_neg e]), (by rw [shE, if_neg e]), trivial⟩
theorem awake5_ret : Ret Try.prog 26 [] (ao true) := by
  have e1 : mq ((1152921504606846976 : UInt64).toNat * (2 : UInt64).toNat) = 1 := by decide +kernel
  have e2 : mq ((37 : UInt64).toNat ^ (1 : UInt64).toNat) = 37 := by decide +kernel
  have e3 : mq ((2 : UInt64).toNat ^ (61 : UInt64).toNat) = 1 := by decide +kernel
  have e4 : shE 1 = 9 := by decide +kernel
  refine Ret.of_fn Try.func26 (by kernel_rfl) 21 (by kernel_rfl) (by kernel_rfl) ?_
  skip
  refine AWP.regsK 3 [{  }, { hs := [(0, { av := some (AV.tup [aw (shK (5 : UInt64) (1 : UInt64)), ai (shE (1 : UInt64))]) })] }, { hs := [(0, { av := some (aw (mq (UInt64.toNat (1152921504606846976 : UInt64) * UInt64.toNat (2 : UInt64)))) }), (1, { av := some (ao (mq (UInt64.toNat (1152921504606846976 : UInt64) * UInt64.toNat (2 : UInt64)) == (1 : UInt64))) }), (3, { av := some (aw (mq (UInt64.toNat (37 : UInt64) ^ UInt64.toNat (1 : UInt64)))) }), (4, { av := some (ao (mq (UInt64.toNat (37 : UInt64) ^ UInt64.toNat (1 : UInt64)) == (37 : UInt64))) }), (11, { av := some (aw (mq (UInt64.toNat (2 : UInt64) ^ UInt64.toNat (61 : UInt64)))) }), (12, { av := some (ao (mq (UInt64.toNat (2 : UInt64) ^ UInt64.toNat (61 : UInt64)) == (1 : UInt64))) })] }] (by kernel_rfl) (s' := AS.mk [(0, ao (mq (UInt64.toNat (2 : UInt64) ^ UInt64.toNat (61 : UInt64)) == (1 : UInt64))), (20, ao (mq (UInt64.toNat (2 : UInt64) ^ UInt64.toNat (61 : UInt64)) == (1 : UInt64))), (19, ao (mq (UInt64.toNat (2 : UInt64) ^ UInt64.toNat (61 : UInt64)) == (1 : UInt64))), (18, aw (mq (UInt64.toNat (2 : UInt64) ^ UInt64.toNat (61 : UInt64)))), (17, ao (shE (1 : UInt64) == (9 : Int))), (16, ao (shE (1 : UInt64) == (9 : Int))), (15, ao (shE (1 : UInt64) == (9 : Int))), (14, ai (shE (1 : UInt64))), (13, ao (mq (UInt64.toNat (37 : UInt64) ^ UInt64.toNat (1 : UInt64)) == (37 : UInt64))), (12, ao (mq (UInt64.toNat (37 : UInt64) ^ UInt64.toNat (1 : UInt64)) == (37 : UInt64))), (11, ao (mq (UInt64.toNat (37 : UInt64) ^ UInt64.toNat (1 : UInt64)) == (37 : UInt64))), (10, aw (mq (UInt64.toNat (37 : UInt64) ^ UInt64.toNat (1 : UInt64)))), (9, ao (mq (UInt64.toNat (1152921504606846976 : UInt64) * UInt64.toNat (2 : UInt64)) == (1 : UInt64))), (8, ao (mq (UInt64.toNat (1152921504606846976 : UInt64) * UInt64.toNat (2 : UInt64)) == (1 : UInt64))), (7, aw (mq (UInt64.toNat (1152921504606846976 : UInt64) * UInt64.toNat (2 : UInt64)))), (2, ai (shE (1 : UInt64))), (1, aw (shK (5 : UInt64) (1 : UInt64))), (6, ai (shE (1 : UInt64))), (5, aw (shK (5 : UInt64) (1 : UInt64))), (3, AV.tup [aw (shK (5 : UInt64) (1 : UInt64)), ai (shE (1 : UInt64))]), (4, AV.tup [aw (shK (5 : UInt64) (1 : UInt64)), ai (shE (1 : UInt64))])] []) (C := [Ret Try.prog (29 : Nat) [AV.val (Value.int IntKind.u64 (5 : Int)), AV.val (Value.int IntKind.u64 (1 : Int))] (AV.tup [aw (shK (5 : UInt64) (1 : UInt64)), ai (shE (1 : UInt64))]), Ret Try.prog (24 : Nat) [AV.val (Value.int IntKind.u64 (1152921504606846976 : Int)), AV.val (Value.int IntKind.u64 (2 : Int))] (aw (mq (UInt64.toNat (1152921504606846976 : UInt64) * UInt64.toNat (2 : UInt64)))), ao (wv (mq (UInt64.toNat (1152921504606846976 : UInt64) * UInt64.toNat (2 : UInt64))) == (1 : Int)) = ao (mq (UInt64.toNat (1152921504606846976 : UInt64) * UInt64.toNat (2 : UInt64)) == (1 : UInt64)), (mq (UInt64.toNat (1152921504606846976 : UInt64) * UInt64.toNat (2 : UInt64)) == (1 : UInt64)) = true, Ret Try.prog (27 : Nat) [AV.val (Value.int IntKind.u64 (37 : Int)), AV.val (Value.int IntKind.u64 (1 : Int))] (aw (mq (UInt64.toNat (37 : UInt64) ^ UInt64.toNat (1 : UInt64)))), (mq (UInt64.toNat (1152921504606846976 : UInt64) * UInt64.toNat (2 : UInt64)) == (1 : UInt64)) = true, ao (wv (mq (UInt64.toNat (37 : UInt64) ^ UInt64.toNat (1 : UInt64))) == (37 : Int)) = ao (mq (UInt64.toNat (37 : UInt64) ^ UInt64.toNat (1 : UInt64)) == (37 : UInt64)), (mq (UInt64.toNat (1152921504606846976 : UInt64) * UInt64.toNat (2 : UInt64)) == (1 : UInt64)) = true, (mq (UInt64.toNat (37 : UInt64) ^ UInt64.toNat (1 : UInt64)) == (37 : UInt64)) = true, (mq (UInt64.toNat (37 : UInt64) ^ UInt64.toNat (1 : UInt64)) == (37 : UInt64)) = true, (mq (UInt64.toNat (37 : UInt64) ^ UInt64.toNat (1 : UInt64)) == (37 : UInt64)) = true, (shE (1 : UInt64) == (9 : Int)) = true, Ret Try.prog (27 : Nat) [AV.val (Value.int IntKind.u64 (2 : Int)), AV.val (Value.int IntKind.u64 (61 : Int))] (aw (mq (UInt64.toNat (2 : UInt64) ^ UInt64.toNat (61 : UInt64)))), (shE (1 : UInt64) == (9 : Int)) = true, ao (wv (mq (UInt64.toNat (2 : UInt64) ^ UInt64.toNat (61 : UInt64))) == (1 : Int)) = ao (mq (UInt64.toNat (2 : UInt64) ^ UInt64.toNat (61 : UInt64)) == (1 : UInt64)), (shE (1 : UInt64) == (9 : Int)) = true]) (by kernel_rfl) ⟨(sharedx_ret ((5 : UInt64)) ((1 : UInt64))), (mulx_ret ((1152921504606846976 : UInt64)) ((2 : UInt64))), (avw_eq (mq (UInt64.toNat (1152921504606846976 : UInt64) * UInt64.toNat (2 : UInt64))) ((1 : UInt64))), (decide_eq_true (by omega)), (powx_ret ((37 : UInt64)) ((1 : UInt64))), (decide_eq_true (by omega)), (avw_eq (mq (UInt64.toNat (37 : UInt64) ^ UInt64.toNat (1 : UInt64))) ((37 : UInt64))), (decide_eq_true (by omega)), (decide_eq_true (by omega)), (decide_eq_true (by omega)), (decide_eq_true (by omega)), (decide_eq_true (by omega)), (powx_ret ((2 : UInt64)) ((61 : UInt64))), (decide_eq_true (by omega)), (avw_eq (mq (UInt64.toNat (2 : UInt64) ^ UInt64.toNat (61 : UInt64))) ((1 : UInt64))), (decide_eq_true (by omega)), trivial⟩ ?_
  refine AWP.wk [.keep [0, 2] []] (s' := AS.mk [(0, ao (mq (UInt64.toNat (2 : UInt64) ^ UInt64.toNat (61 : UInt64)) == (1 : UInt64))), (2, ai (shE (1 : UInt64)))] []) (by kernel_rfl) ?_
  refine AWP.ret (by kernel_rfl) ?_
  refine Done.ret_ (C := [Value.bool (mq (UInt64.toNat (2 : UInt64) ^ UInt64.toNat (61 : UInt64)) == (1 : UInt64)) = Value.bool true]) (by kernel_rfl) ⟨(by rw [e3]; rfl), trivial⟩
end Go.Proofs.Ytmmnkloadooobaa
