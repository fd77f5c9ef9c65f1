import Derived.Test.YtejpabdmiagnnaaDoorZaV8
import Derived.Test.YtejpabdmiagnnaaDoorZaEx2
import Derived.Test.YtejpabdmiagnnaaDoorZaDR
set_option linter.all false
namespace Go.Proofs.YtejpabdmiagnnaaDoor
open Go.RowKit
set_option maxRecDepth 100000
set_option maxHeartbeats 4000000
set_option linter.unusedVariables false
def expo (s : UInt64) : UInt64 := 2 + s % 2305843009213693948
theorem expox_ret (s : UInt64) : Ret Tryd.prog 55 [aw s] (aw (expo s)) := by
 refine Ret.of_fn Tryd.func55 (by kernel_rfl) 6 (by kernel_rfl) (by kernel_rfl) ?_
 refine AWP.regsPX 2 [{}, { hs := [(1, { av := some (aw (s % 2305843009213693948)) }), (2, { av := some (aw (2 + s % 2305843009213693948)) })] }] [.keep [2, 0] []] (by kernel_rfl) (C := [AV.val (Value.int .u64 ((wv s).tmod (2305843009213693948 : Int))) = aw (s % 2305843009213693948), (2305843009213693948 : Int) ≠ (0 : Int), AV.val (Value.int .u64 (IntKind.u64.wrap ((2 : Int) + wv (s % 2305843009213693948)))) = aw (2 + s % 2305843009213693948)]) (by kernel_rfl) ⟨(avw_mod (s) (2305843009213693948)), (by omega), (avw_add (2) (s % 2305843009213693948)), trivial⟩ ?_
 refine AWP.ret (by kernel_rfl) ?_
 refine Done.ret_ (C := [Value.int .u64 (wv (2 + s % 2305843009213693948)) = Value.int .u64 (wv (expo s))]) (by kernel_rfl) ⟨rfl, trivial⟩
theorem refexpox_ret (s : UInt64) : Ret Tryd.prog 47 [aw s] (aw (expo s)) := by
 refine Ret.of_fn Tryd.func47 (by kernel_rfl) 6 (by kernel_rfl) (by kernel_rfl) ?_
 refine AWP.regsPX 2 [{}, { hs := [(1, { av := some (aw (s % 2305843009213693948)) }), (2, { av := some (aw (2 + s % 2305843009213693948)) })] }] [.keep [2, 0] []] (by kernel_rfl) (C := [AV.val (Value.int .u64 ((wv s).tmod (2305843009213693948 : Int))) = aw (s % 2305843009213693948), (2305843009213693948 : Int) ≠ (0 : Int), AV.val (Value.int .u64 (IntKind.u64.wrap ((2 : Int) + wv (s % 2305843009213693948)))) = aw (2 + s % 2305843009213693948)]) (by kernel_rfl) ⟨(avw_mod (s) (2305843009213693948)), (by omega), (avw_add (2) (s % 2305843009213693948)), trivial⟩ ?_
 refine AWP.ret (by kernel_rfl) ?_
 refine Done.ret_ (C := [Value.int .u64 (wv (2 + s % 2305843009213693948)) = Value.int .u64 (wv (expo s))]) (by kernel_rfl) ⟨rfl, trivial⟩
def pubW (s : UInt64) : UInt64 := mq (37 ^ (expo s).toNat)
theorem pubx_ret (s : UInt64) : Ret Tryd.prog 28 [aw s] (aw (pubW s)) := by
 refine Ret.of_fn Tryd.func28 (by kernel_rfl) 6 (by kernel_rfl) (by kernel_rfl) ?_
 refine AWP.regsPX 2 [{}, { hs := [(1, { av := some (aw (expo s)) }), (2, { av := some (aw (mq (UInt64.toNat 37 ^ (expo s).toNat))) })] }] [.keep [2, 0] []] (by kernel_rfl) (C := [Ret Tryd.prog (55 : Nat) [aw s] (aw (expo s)), Ret Tryd.prog (54 : Nat) [AV.val (Value.int .u64 37), aw (expo s)] (aw (mq (UInt64.toNat 37 ^ (expo s).toNat)))]) (by kernel_rfl) ⟨(expox_ret (s)), (powx_ret (37) (expo s)), trivial⟩ ?_
 refine AWP.ret (by kernel_rfl) ?_
 refine Done.ret_ (C := [Value.int .u64 (wv (mq (UInt64.toNat 37 ^ (expo s).toNat))) = Value.int .u64 (wv (pubW s))]) (by kernel_rfl) ⟨rfl, trivial⟩
theorem refpubx_ret (s : UInt64) : Ret Tryd.prog 17 [aw s] (aw (pubW s)) := by
 refine Ret.of_fn Tryd.func17 (by kernel_rfl) 6 (by kernel_rfl) (by kernel_rfl) ?_
 refine AWP.regsPX 2 [{}, { hs := [(1, { av := some (aw (expo s)) }), (2, { av := some (aw (mq (UInt64.toNat 37 ^ (expo s).toNat))) })] }] [.keep [2, 0] []] (by kernel_rfl) (C := [Ret Tryd.prog (47 : Nat) [aw s] (aw (expo s)), Ret Tryd.prog (46 : Nat) [AV.val (Value.int .u64 37), aw (expo s)] (aw (mq (UInt64.toNat 37 ^ (expo s).toNat)))]) (by kernel_rfl) ⟨(refexpox_ret (s)), (refpowx_ret (37) (expo s)), trivial⟩ ?_
 refine AWP.ret (by kernel_rfl) ?_
 refine Done.ret_ (C := [Value.int .u64 (wv (mq (UInt64.toNat 37 ^ (expo s).toNat))) = Value.int .u64 (wv (pubW s))]) (by kernel_rfl) ⟨rfl, trivial⟩
def badP (p : UInt64) : Prop := wv p < 2 ∨ wv p > 2305843009213693949
instance (p : UInt64) : Decidable (badP p) := inferInstanceAs (Decidable (_ ∨ _))
def shE (p : UInt64) : Int := if badP p then 9 else 0
def shK (s p : UInt64) : UInt64 := if badP p then 0 else hash 12 (words [mq (p.toNat ^ (expo s).toNat)])
theorem sharedx_ret (s p : UInt64) : Ret Tryd.prog 56 [aw s, aw p] (.tup [aw (shK s p), ai (shE p)]) := by
 by_cases h1 : wv p < 2
 ·have e : badP p := .inl h1
  refine Ret.of_fn Tryd.func56 (by kernel_rfl) 19 (by kernel_rfl) (by kernel_rfl) ?_
  refine AWP.regsKX 1 [{}] (by kernel_rfl) (C := []) (by kernel_rfl) trivial ?_
  refine AWP.seq (by kernel_rfl) ?_
  refine AWP.regsPX 1 [{}] [.keep [11, 5, 4, 0, 1] []] (by kernel_rfl) (C := [decide (wv p < 2) = true, decide (wv p < 2) = true, decide (wv p < 2) = true]) (by kernel_rfl) ⟨(decide_eq_true (by omega)), (decide_eq_true (by omega)), (decide_eq_true (by omega)), trivial⟩ ?_
  refine AWP.condT (x := .tmp 11) (b := true) (by kernel_rfl) (by kernel_rfl) rfl ?_
  refine AWP.regsKX 1 [{}] (by kernel_rfl) (C := []) (by kernel_rfl) trivial ?_
  refine AWP.ret (by kernel_rfl) ?_
  refine then_r ?_
  refine Done.ret_ (C := [Value.int .u64 0 = Value.int .u64 (wv (shK s p)), Value.int .i64 9 = Value.int .i64 (shE p)]) (by kernel_rfl) ⟨(by rw [shK, if_pos e]; rfl), (by rw [shE, if_pos e]), trivial⟩
 by_cases h2 : wv p > 2305843009213693949
 ·have e : badP p := .inr h2
  refine Ret.of_fn Tryd.func56 (by kernel_rfl) 19 (by kernel_rfl) (by kernel_rfl) ?_
  refine AWP.regsKX 1 [{}] (by kernel_rfl) (C := []) (by kernel_rfl) trivial ?_
  refine AWP.seq (by kernel_rfl) ?_
  refine AWP.regsPX 1 [{ hs := [(3, { g := false }), (4, { g := false }), (5, { b := false })] }] [.keep [11, 5, 4, 0, 1] []] (by kernel_rfl) (C := [decide (wv p < 2) = false, decide (wv p < 2) = false, decide (wv p < 2) = false]) (by kernel_rfl) ⟨(decide_eq_false (by omega)), (decide_eq_false (by omega)), (decide_eq_false (by omega)), trivial⟩ ?_
  refine AWP.condT (x := .tmp 11) (b := decide (wv p > 2305843009213693949)) (by kernel_rfl) (by kernel_rfl) (decide_eq_true (by omega)) ?_
  refine AWP.regsKX 1 [{}] (by kernel_rfl) (C := []) (by kernel_rfl) trivial ?_
  refine AWP.ret (by kernel_rfl) ?_
  refine then_r ?_
  refine Done.ret_ (C := [Value.int .u64 0 = Value.int .u64 (wv (shK s p)), Value.int .i64 9 = Value.int .i64 (shE p)]) (by kernel_rfl) ⟨(by rw [shK, if_pos e]; rfl), (by rw [shE, if_pos e]), trivial⟩
 have e : ¬ badP p := by rintro (h | h); exact h1 h; exact h2 h
 refine Ret.of_fn Tryd.func56 (by kernel_rfl) 19 (by kernel_rfl) (by kernel_rfl) ?_
 refine AWP.regsKX 1 [{}] (by kernel_rfl) (C := []) (by kernel_rfl) trivial ?_
 refine AWP.seq (by kernel_rfl) ?_
 refine AWP.regsPX 1 [{ hs := [(3, { g := false }), (4, { g := false }), (5, { b := false })] }] [.keep [11, 5, 4, 0, 1] []] (by kernel_rfl) (C := [decide (wv p < 2) = false, decide (wv p < 2) = false, decide (wv p < 2) = false]) (by kernel_rfl) ⟨(decide_eq_false (by omega)), (decide_eq_false (by omega)), (decide_eq_false (by omega)), trivial⟩ ?_
 refine AWP.condF (x := .tmp 11) (b := decide (wv p > 2305843009213693949)) (by kernel_rfl) (by kernel_rfl) (decide_eq_false (by omega)) ?_
 refine AWP.skip (by kernel_rfl) ?_
 refine then_n ?_
 refine AWP.regsPX 1 [{ hs := [(2, { av := some (aw (expo s)) }), (3, { av := some (aw (mq (p.toNat ^ (expo s).toNat))) }), (4, { av := some (AV.arr (wordsA [mq (p.toNat ^ (expo s).toNat)])) }), (5, { av := some (AV.own 1 (bytesA (words [mq (p.toNat ^ (expo s).toNat)]))) }), (6, { av := some (aw (hash (12 : Int) (words [mq (p.toNat ^ (expo s).toNat)]))) })] }] [.keep [5, 4, 11, 0, 1] []] (by kernel_rfl) (C := [Ret Tryd.prog (55 : Nat) [aw s] (aw (expo s)), Ret Tryd.prog (54 : Nat) [aw p, aw (expo s)] (aw (mq (p.toNat ^ (expo s).toNat))), [aw (mq (p.toNat ^ (expo s).toNat))] = wordsA [mq (p.toNat ^ (expo s).toNat)], Ret Tryd.prog (35 : Nat) [AV.sl 1 (wordsA [mq (p.toNat ^ (expo s).toNat)])] (AV.own 1 (bytesA (words [mq (p.toNat ^ (expo s).toNat)]))), valR (bytesA (words [mq (p.toNat ^ (expo s).toNat)])), Ret Tryd.prog (63 : Nat) [ai 12, AV.sl 1 (bytesA (words [mq (p.toNat ^ (expo s).toNat)]))] (aw (hash (12 : Int) (words [mq (p.toNat ^ (expo s).toNat)])))]) (by kernel_rfl) ⟨(expox_ret (s)), (powx_ret (p) (expo s)), rfl, (words_ret ([mq (p.toNat ^ (expo s).toNat)]) (by simp only [List.length_cons, List.length_nil]; omega)), (valR_bytes _), (hash_ret ((12 : Int)) (words [mq (p.toNat ^ (expo s).toNat)])), trivial⟩ ?_
 refine AWP.ret (by kernel_rfl) ?_
 refine Done.ret_ (C := [Value.int .u64 (wv (hash (12 : Int) (words [mq (p.toNat ^ (expo s).toNat)]))) = Value.int .u64 (wv (shK s p)), Value.int .i64 0 = Value.int .i64 (shE p)]) (by kernel_rfl) ⟨(by rw [shK, if_neg e]), (by rw [shE, if_neg e]), trivial⟩
theorem refsharedx_ret (s p : UInt64) : Ret Tryd.prog 18 [aw s, aw p] (.tup [aw (shK s p), ai (shE p)]) := by
 have hw : (words [mq (p.toNat ^ (expo s).toNat)]).length = 8 := by rw [words_len]; rfl
 by_cases h1 : wv p < 2
 ·have e : badP p := .inl h1
  refine Ret.of_fn Tryd.func18 (by kernel_rfl) 19 (by kernel_rfl) (by kernel_rfl) ?_
  refine AWP.regsKX 1 [{}] (by kernel_rfl) (C := []) (by kernel_rfl) trivial ?_
  refine AWP.seq (by kernel_rfl) ?_
  refine AWP.regsPX 1 [{}] [.keep [11, 5, 4, 0, 1] []] (by kernel_rfl) (C := [decide (wv p < 2) = true, decide (wv p < 2) = true, decide (wv p < 2) = true]) (by kernel_rfl) ⟨(decide_eq_true (by omega)), (decide_eq_true (by omega)), (decide_eq_true (by omega)), trivial⟩ ?_
  refine AWP.condT (x := .tmp 11) (b := true) (by kernel_rfl) (by kernel_rfl) rfl ?_
  refine AWP.regsKX 1 [{}] (by kernel_rfl) (C := []) (by kernel_rfl) trivial ?_
  refine AWP.ret (by kernel_rfl) ?_
  refine then_r ?_
  refine Done.ret_ (C := [Value.int .u64 0 = Value.int .u64 (wv (shK s p)), Value.int .i64 9 = Value.int .i64 (shE p)]) (by kernel_rfl) ⟨(by rw [shK, if_pos e]; rfl), (by rw [shE, if_pos e]), trivial⟩
 by_cases h2 : wv p > 2305843009213693949
 ·have e : badP p := .inr h2
  refine Ret.of_fn Tryd.func18 (by kernel_rfl) 19 (by kernel_rfl) (by kernel_rfl) ?_
  refine AWP.regsKX 1 [{}] (by kernel_rfl) (C := []) (by kernel_rfl) trivial ?_
  refine AWP.seq (by kernel_rfl) ?_
  refine AWP.regsPX 1 [{ hs := [(3, { g := false }), (4, { g := false }), (5, { b := false })] }] [.keep [11, 5, 4, 0, 1] []] (by kernel_rfl) (C := [decide (wv p < 2) = false, decide (wv p < 2) = false, decide (wv p < 2) = false]) (by kernel_rfl) ⟨(decide_eq_false (by omega)), (decide_eq_false (by omega)), (decide_eq_false (by omega)), trivial⟩ ?_
  refine AWP.condT (x := .tmp 11) (b := decide (wv p > 2305843009213693949)) (by kernel_rfl) (by kernel_rfl) (decide_eq_true (by omega)) ?_
  refine AWP.regsKX 1 [{}] (by kernel_rfl) (C := []) (by kernel_rfl) trivial ?_
  refine AWP.ret (by kernel_rfl) ?_
  refine then_r ?_
  refine Done.ret_ (C := [Value.int .u64 0 = Value.int .u64 (wv (shK s p)), Value.int .i64 9 = Value.int .i64 (shE p)]) (by kernel_rfl) ⟨(by rw [shK, if_pos e]; rfl), (by rw [shE, if_pos e]), trivial⟩
 have e : ¬ badP p := by rintro (h | h); exact h1 h; exact h2 h
 refine Ret.of_fn Tryd.func18 (by kernel_rfl) 19 (by kernel_rfl) (by kernel_rfl) ?_
 refine AWP.regsKX 1 [{}] (by kernel_rfl) (C := []) (by kernel_rfl) trivial ?_
 refine AWP.seq (by kernel_rfl) ?_
 refine AWP.regsPX 1 [{ hs := [(3, { g := false }), (4, { g := false }), (5, { b := false })] }] [.keep [11, 5, 4, 0, 1] []] (by kernel_rfl) (C := [decide (wv p < 2) = false, decide (wv p < 2) = false, decide (wv p < 2) = false]) (by kernel_rfl) ⟨(decide_eq_false (by omega)), (decide_eq_false (by omega)), (decide_eq_false (by omega)), trivial⟩ ?_
 refine AWP.condF (x := .tmp 11) (b := decide (wv p > 2305843009213693949)) (by kernel_rfl) (by kernel_rfl) (decide_eq_false (by omega)) ?_
 refine AWP.skip (by kernel_rfl) ?_
 refine then_n ?_
 refine AWP.regsPX 1 [{ hs := [(2, { av := some (aw (expo s)) }), (3, { av := some (aw (mq (p.toNat ^ (expo s).toNat))) }), (4, { av := some (AV.arr (wordsA [mq (p.toNat ^ (expo s).toNat)])) }), (5, { av := some (AV.own 1 (bytesA (words [mq (p.toNat ^ (expo s).toNat)]))) }), (6, { av := some (aw (hash (12 : Int) (words [mq (p.toNat ^ (expo s).toNat)]))) })] }] [.keep [5, 4, 11, 0, 1] []] (by kernel_rfl) (C := [Ret Tryd.prog (47 : Nat) [aw s] (aw (expo s)), Ret Tryd.prog (46 : Nat) [aw p, aw (expo s)] (aw (mq (p.toNat ^ (expo s).toNat))), [aw (mq (p.toNat ^ (expo s).toNat))] = wordsA [mq (p.toNat ^ (expo s).toNat)], Ret Tryd.prog (43 : Nat) [AV.sl 1 (wordsA [mq (p.toNat ^ (expo s).toNat)])] (AV.own 1 (bytesA (words [mq (p.toNat ^ (expo s).toNat)]))), valR (bytesA (words [mq (p.toNat ^ (expo s).toNat)])), Ret Tryd.prog (48 : Nat) [ai 12, AV.sl 1 (bytesA (words [mq (p.toNat ^ (expo s).toNat)]))] (aw (hash (12 : Int) (words [mq (p.toNat ^ (expo s).toNat)])))]) (by kernel_rfl) ⟨(refexpox_ret (s)), (refpowx_ret (p) (expo s)), rfl, (refwords_ret ([mq (p.toNat ^ (expo s).toNat)]) (by simp only [List.length_cons, List.length_nil]; omega)), (valR_bytes _), (refhash_ret ((12 : Int)) (words [mq (p.toNat ^ (expo s).toNat)]) (by omega)), trivial⟩ ?_
 refine AWP.ret (by kernel_rfl) ?_
 refine Done.ret_ (C := [Value.int .u64 (wv (hash (12 : Int) (words [mq (p.toNat ^ (expo s).toNat)]))) = Value.int .u64 (wv (shK s p)), Value.int .i64 0 = Value.int .i64 (shE p)]) (by kernel_rfl) ⟨(by rw [shK, if_neg e]), (by rw [shE, if_neg e]), trivial⟩
end Go.Proofs.YtejpabdmiagnnaaDoor
