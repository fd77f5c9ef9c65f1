/-
  The word that eight bytes stand for; the contract of the reference's Word. No condition.
-/
import Derived.Test.YtjmmhpiadafahaaRX
import Derived.Test.YtjmmhpiadafahaaDR
namespace Go.Proofs.Ytjmmhpiadafahaa
open Go.RowKit
set_option maxRecDepth 100000
set_option maxHeartbeats 4000000
set_option linter.unusedVariables false

def wstep (x : UInt64) (c : UInt8) : UInt64 := (x <<< 8) ||| c.toUInt64
def wordOf (b : List UInt8) : UInt64 := b.foldl wstep 0
theorem wordOf_take {b : List UInt8} {i : Nat} (h : i < b.length) : wstep (wordOf (b.take i)) (b.getD i 0) = wordOf (b.take (i + 1)) := by
  rw [List.take_add_one, wordOf, wordOf, List.foldl_append]
  simp [h]
theorem refword_ret (b : List UInt8) (h : b.length = 8) : Ret Try.prog 44 [.sl 1 (bytesA b)] (aw (wordOf b)) := by
  refine Ret.of_fn Try.func44 (by kernel_rfl) 24 (by kernel_rfl) (by kernel_rfl) ?_
  refine AWP.regsK 2 [{  }, {  }] (by kernel_rfl) (s' := AS.mk [(3, AV.val (Value.int .u64 0)), (2, AV.val (Value.int .u64 0)), (0, AV.sl 1 (bytesA b))] []) (C := []) (by kernel_rfl) trivial ?_
  refine AWP.seq (by kernel_rfl) ?_
  refine AWP.regsK 1 [{  }] (by kernel_rfl) (s' := AS.mk [(4, ai 0), (3, AV.val (Value.int .u64 0)), (2, AV.val (Value.int .u64 0)), (0, AV.sl 1 (bytesA b))] []) (C := []) (by kernel_rfl) trivial ?_
  refine AWP.block (id := 0) (by kernel_rfl) ?_
  refine AWP.loop (fun (i : Nat) => (⟨[(2, AV.val (Value.int .u64 0)), (0, AV.sl 1 (bytesA b)), (4, ai i), (3, aw (wordOf (b.take i)))], []⟩ : AS)) (fun i => (i ≤ 8)) (fun i => (8 - i)) (by kernel_rfl) (0) ?_ (Weaks.of [.keep [2, 0, 4, 3] []] (s1 := AS.mk [(2, AV.val (Value.int .u64 0)), (0, AV.sl 1 (bytesA b)), (4, ai 0), (3, AV.val (Value.int .u64 0))] []) (by kernel_rfl) rfl) ?_
  · omega
  intro i hi
  refine (Classical.em ((↑i : Int) < (8 : Int))).elim (fun h1 => ?_) (fun h1 => ?_)
  · have hw := wordOf_take (b := b) (i := i) (by omega)
    refine AWP.seq (by kernel_rfl) ?_
    refine AWP.regsP 1 [{ hs := [(5, { k := b.length })] }] [.keep [12, 2, 0, 4, 3] []] (by kernel_rfl) (s' := AS.mk [(12, ao (decide ((↑i : Int) < (↑b.length : Int)))), (2, AV.val (Value.int .u64 0)), (0, AV.sl 1 (bytesA b)), (4, ai (↑i : Int)), (3, aw (wordOf (List.take i b)))] []) (C := [decide ((↑i : Int) < (8 : Int)) = true, decide ((↑i : Int) < (8 : Int)) = true, decide ((↑i : Int) < (8 : Int)) = true, (bytesA b).length = b.length, decide ((↑i : Int) < (8 : Int)) = true, decide ((↑i : Int) < (8 : Int)) = true]) (by kernel_rfl) ⟨(decide_eq_true (by omega)), (decide_eq_true (by omega)), (decide_eq_true (by omega)), (bytesA_len _), (decide_eq_true (by omega)), (decide_eq_true (by omega)), trivial⟩ ?_
    refine AWP.condT (x := .tmp 12) (b := decide ((↑i : Int) < (↑b.length : Int))) (by kernel_rfl) (by kernel_rfl) (decide_eq_true (by omega)) ?_
    refine AWP.skip (by kernel_rfl) ?_
    refine then_n ?_
    refine AWP.seq (by kernel_rfl) ?_
    refine AWP.block (id := 1) (by kernel_rfl) ?_
    refine AWP.reg { hs := [(1, { av := some (aw (wordOf (List.take i b) <<< (8 : UInt64))) }), (4, { k := i }), (5, { av := some (ab (b.getD i (0 : UInt8))) }), (6, { av := some (aw ((b.getD i (0 : UInt8)).toUInt64)) }), (7, { av := some (aw (wordOf (List.take i b) <<< (8 : UInt64) ||| (b.getD i (0 : UInt8)).toUInt64)) })] } (s' := AS.mk [(3, aw (wordOf (List.take i b) <<< (8 : UInt64) ||| (b.getD i (0 : UInt8)).toUInt64)), (22, aw (wordOf (List.take i b) <<< (8 : UInt64) ||| (b.getD i (0 : UInt8)).toUInt64)), (21, aw ((b.getD i (0 : UInt8)).toUInt64)), (20, ab (b.getD i (0 : UInt8))), (19, AV.ptr (bytesA b) i), (18, ai (↑i : Int)), (17, AV.sl 1 (bytesA b)), (16, aw (wordOf (List.take i b) <<< (8 : UInt64))), (15, aw (wordOf (List.take i b))), (12, ao (decide ((↑i : Int) < (↑b.length : Int)))), (2, AV.val (Value.int .u64 0)), (0, AV.sl 1 (bytesA b)), (4, ai (↑i : Int))] []) (C := [AV.val (Value.int .u64 (IntKind.u64.wrap (wv (wordOf (List.take i b)) * (2 : Int) ^ min (Int.toNat (8 : Int)) IntKind.u64.bits))) = aw (wordOf (List.take i b) <<< (8 : UInt64)), (0 : Int) ≤ (8 : Int), (↑i : Int) = (↑i : Int), i < (bytesA b).length, (bytesA b)[i]? = some (ab (b.getD i (0 : UInt8))), AV.val (Value.int .u64 (IntKind.u64.wrap (bv (b.getD i (0 : UInt8))))) = aw ((b.getD i (0 : UInt8)).toUInt64), AV.val (Value.int .u64 (IntKind.u64.wrap (↑(BitVec.ofInt IntKind.u64.bits (wv (wordOf (List.take i b) <<< (8 : UInt64))) ||| BitVec.ofInt IntKind.u64.bits (wv (b.getD i (0 : UInt8)).toUInt64)).toNat : Int))) = aw (wordOf (List.take i b) <<< (8 : UInt64) ||| (b.getD i (0 : UInt8)).toUInt64)]) (by kernel_rfl) ⟨(avw_shl (wordOf (List.take i b)) ((8 : Int)) (by omega) (by omega)), (by omega), rfl, (by simp only [bytesA_len]; omega), (bytesA_at (by omega)), (avw_bv (b.getD i (0 : UInt8))), (avw_or (wordOf (List.take i b) <<< (8 : UInt64)) ((b.getD i (0 : UInt8)).toUInt64)), trivial⟩ ?_
    refine inb_n ?_
    refine then_n ?_
    refine AWP.reg { hs := [(1, { av := some (ai ((↑i : Int) + (1 : Int))) })] } (s' := AS.mk [(4, ai ((↑i : Int) + (1 : Int))), (14, ai ((↑i : Int) + (1 : Int))), (13, ai (↑i : Int)), (3, aw (wordOf (List.take i b) <<< (8 : UInt64) ||| (b.getD i (0 : UInt8)).toUInt64)), (22, aw (wordOf (List.take i b) <<< (8 : UInt64) ||| (b.getD i (0 : UInt8)).toUInt64)), (21, aw ((b.getD i (0 : UInt8)).toUInt64)), (20, ab (b.getD i (0 : UInt8))), (19, AV.ptr (bytesA b) i), (18, ai (↑i : Int)), (17, AV.sl 1 (bytesA b)), (16, aw (wordOf (List.take i b) <<< (8 : UInt64))), (15, aw (wordOf (List.take i b))), (12, ao (decide ((↑i : Int) < (↑b.length : Int)))), (2, AV.val (Value.int .u64 0)), (0, AV.sl 1 (bytesA b))] []) (C := [ai (IntKind.i64.wrap ((↑i : Int) + (1 : Int))) = ai ((↑i : Int) + (1 : Int))]) (by kernel_rfl) ⟨(av_i64 (by omega) (by omega)), trivial⟩ ?_
    refine round_n (i + 1) (by omega) (by omega) (Weaks.of [.keep [2, 0, 4, 3] []] (s1 := AS.mk [(2, AV.val (Value.int .u64 0)), (0, AV.sl 1 (bytesA b)), (4, ai ((↑i : Int) + (1 : Int))), (3, aw (wordOf (List.take i b) <<< (8 : UInt64) ||| (b.getD i (0 : UInt8)).toUInt64))] []) (by kernel_rfl) (as_eq (f_cons rfl (f_cons rfl (f_cons rfl (f_cons (congrArg aw hw) rfl)))) rfl))
  · have e : i = 8 := by omega
    subst e
    refine AWP.seq (by kernel_rfl) ?_
    refine AWP.regsP 1 [{ hs := [(3, { g := false }), (4, { g := false }), (5, { g := false }), (6, { g := false }), (7, { b := false })] }] [.keep [12, 2, 0, 4, 3] []] (by kernel_rfl) (s' := AS.mk [(12, ao false), (2, AV.val (Value.int .u64 0)), (0, AV.sl 1 (bytesA b)), (4, ai (↑(8 : Nat) : Int)), (3, aw (wordOf (List.take 8 b)))] []) (C := [decide ((↑(8 : Nat) : Int) < (8 : Int)) = false, decide ((↑(8 : Nat) : Int) < (8 : Int)) = false, decide ((↑(8 : Nat) : Int) < (8 : Int)) = false, decide ((↑(8 : Nat) : Int) < (8 : Int)) = false, decide ((↑(8 : Nat) : Int) < (8 : Int)) = false]) (by kernel_rfl) ⟨(decide_eq_false (by omega)), (decide_eq_false (by omega)), (decide_eq_false (by omega)), (decide_eq_false (by omega)), (decide_eq_false (by omega)), trivial⟩ ?_
    refine AWP.condF (x := .tmp 12) (b := false) (by kernel_rfl) (by kernel_rfl) rfl ?_
    refine AWP.exit (id := 0) (by kernel_rfl) ?_
    refine then_e ?_
    refine round_e ?_
    refine inb_e ?_
    refine then_n ?_
    refine AWP.regsP 1 [{  }] [.keep [2, 12, 0, 4, 3] []] (by kernel_rfl) (s' := AS.mk [(2, aw (wordOf (List.take 8 b))), (12, ao false), (0, AV.sl 1 (bytesA b)), (4, ai (↑(8 : Nat) : Int)), (3, aw (wordOf (List.take 8 b)))] []) (C := []) (by kernel_rfl) trivial ?_
    refine AWP.ret (by kernel_rfl) ?_
    refine Done.ret_ (C := [Value.int .u64 (wv (wordOf (List.take 8 b))) = Value.int .u64 (wv (wordOf b))]) (by kernel_rfl) ⟨(by rw [List.take_of_length_le (by omega)]), trivial⟩
end Go.Proofs.Ytjmmhpiadafahaa
