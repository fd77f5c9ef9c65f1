import Derived.Test.YtejpabdmiagnnaaDoorZaV8
import Derived.Test.YtejpabdmiagnnaaDoorZaSeal1
set_option linter.all false
namespace Go.Proofs.YtejpabdmiagnnaaDoor
open Go.RowKit
set_option maxRecDepth 100000
set_option maxHeartbeats 4000000
set_option linter.unusedVariables false
def wstep (x : UInt64) (c : UInt8) : UInt64 := (x <<< 8) ||| c.toUInt64
def wordOf (b : List UInt8) : UInt64 := b.foldl wstep 0
theorem wordOf_take {b : List UInt8} {i : Nat} (h : i < b.length) : wstep (wordOf (b.take i)) (b.getD i 0) = wordOf (b.take (i + 1)) := by
 rw [List.take_add_one, wordOf, wordOf, List.foldl_append]
 simp [h]
theorem refword_ret (b : List UInt8) (h : b.length = 8) : Ret Tryd.prog 59 [.sl 1 (bytesA b)] (aw (wordOf b)) := by
 refine Ret.of_fn Tryd.func59 (by kernel_rfl) 24 (by kernel_rfl) (by kernel_rfl) ?_
 refine AWP.regsKX 2 [{}, {}] (by kernel_rfl) (C := []) (by kernel_rfl) trivial ?_
 refine AWP.seq (by kernel_rfl) ?_
 refine AWP.regsKX 1 [{}] (by kernel_rfl) (C := []) (by kernel_rfl) trivial ?_
 refine AWP.block (id := 0) (by kernel_rfl) ?_
 refine AWP.loop (fun (i : Nat) => (⟨[(2, AV.val (Value.int .u64 0)), (0, AV.sl 1 (bytesA b)), (4, ai i), (3, aw (wordOf (b.take i)))], []⟩ : AS)) (fun i => (i ≤ 8)) (fun i => (8 - i)) (by kernel_rfl) (0) ?_ (Weaks.ofX [.keep [2, 0, 4, 3] []] (by kernel_rfl)) ?_
 ·omega
 intro i hi
 refine (Classical.em ((↑i : Int) < 8)).elim (fun h1 => ?_) (fun h1 => ?_)
 ·have hw := wordOf_take (b := b) (i := i) (by omega)
  refine AWP.seq (by kernel_rfl) ?_
  refine AWP.regsPX 1 [{ hs := [(5, { k := b.length })] }] [.keep [12, 2, 0, 4, 3] []] (by kernel_rfl) (C := [decide ((↑i : Int) < 8) = true, decide ((↑i : Int) < 8) = true, decide ((↑i : Int) < 8) = true, (bytesA b).length = b.length, decide ((↑i : Int) < 8) = true, decide ((↑i : Int) < 8) = true]) (by kernel_rfl) ⟨(decide_eq_true (by omega)), (decide_eq_true (by omega)), (decide_eq_true (by omega)), (bytesA_len _), (decide_eq_true (by omega)), (decide_eq_true (by omega)), trivial⟩ ?_
  refine AWP.condT (x := .tmp 12) (b := decide ((↑i : Int) < (↑b.length : Int))) (by kernel_rfl) (by kernel_rfl) (decide_eq_true (by omega)) ?_
  refine AWP.skip (by kernel_rfl) ?_
  refine then_n ?_
  refine AWP.seq (by kernel_rfl) ?_
  refine AWP.block (id := 1) (by kernel_rfl) ?_
  refine AWP.regX { hs := [(1, { av := some (aw (wordOf (List.take i b) <<< (8 : UInt64))) }), (4, { k := i }), (5, { av := some (ab (b.getD i 0)) }), (6, { av := some (aw ((b.getD i 0).toUInt64)) }), (7, { av := some (aw (wordOf (List.take i b) <<< (8 : UInt64) ||| (b.getD i 0).toUInt64)) })] } (C := [AV.val (Value.int .u64 (IntKind.u64.wrap (wv (wordOf (List.take i b)) * (2 : Int) ^ min (Int.toNat (8 : Int)) IntKind.u64.bits))) = aw (wordOf (List.take i b) <<< (8 : UInt64)), (0 : Int) ≤ 8, (↑i : Int) = (↑i : Int), i < (bytesA b).length, (bytesA b)[i]? = some (ab (b.getD i 0)), AV.val (Value.int .u64 (IntKind.u64.wrap (bv (b.getD i 0)))) = aw ((b.getD i 0).toUInt64), AV.val (Value.int .u64 (IntKind.u64.wrap (↑(BitVec.ofInt IntKind.u64.bits (wv (wordOf (List.take i b) <<< (8 : UInt64))) ||| BitVec.ofInt IntKind.u64.bits (wv (b.getD i 0).toUInt64)).toNat : Int))) = aw (wordOf (List.take i b) <<< (8 : UInt64) ||| (b.getD i 0).toUInt64)]) (by kernel_rfl) ⟨(avw_shl (wordOf (List.take i b)) ((8 : Int)) (by omega) (by omega)), (by omega), rfl, (by simp only [bytesA_len]; omega), (bytesA_at (by omega)), (avw_bv (b.getD i 0)), (avw_or (wordOf (List.take i b) <<< (8 : UInt64)) ((b.getD i 0).toUInt64)), trivial⟩ ?_
  refine inb_n ?_
  refine then_n ?_
  refine AWP.regX { hs := [(1, { av := some (ai ((↑i : Int) + 1)) })] } (C := [ai (IntKind.i64.wrap ((↑i : Int) + 1)) = ai ((↑i : Int) + 1)]) (by kernel_rfl) ⟨(av_i64 (by omega) (by omega)), trivial⟩ ?_
  refine round_n (i + 1) (by omega) (by omega) (Weaks.of [.keep [2, 0, 4, 3] []] (s1 := AS.mk [(2, AV.val (Value.int .u64 0)), (0, AV.sl 1 (bytesA b)), (4, ai ((↑i : Int) + 1)), (3, aw (wordOf (List.take i b) <<< (8 : UInt64) ||| (b.getD i 0).toUInt64))] []) (by kernel_rfl) (as_eq (f_cons rfl (f_cons rfl (f_cons rfl (f_cons (congrArg aw hw) rfl)))) rfl))
 ·have e : i = 8 := by omega
  subst e
  refine AWP.seq (by kernel_rfl) ?_
  refine AWP.regsPX 1 [{ hs := [(3, { g := false }), (4, { g := false }), (5, { g := false }), (6, { g := false }), (7, { b := false })] }] [.keep [12, 2, 0, 4, 3] []] (by kernel_rfl) (C := [decide ((↑(8 : Nat) : Int) < 8) = false, decide ((↑(8 : Nat) : Int) < 8) = false, decide ((↑(8 : Nat) : Int) < 8) = false, decide ((↑(8 : Nat) : Int) < 8) = false, decide ((↑(8 : Nat) : Int) < 8) = false]) (by kernel_rfl) ⟨(decide_eq_false (by omega)), (decide_eq_false (by omega)), (decide_eq_false (by omega)), (decide_eq_false (by omega)), (decide_eq_false (by omega)), trivial⟩ ?_
  refine AWP.condF (x := .tmp 12) (b := false) (by kernel_rfl) (by kernel_rfl) rfl ?_
  refine AWP.exit (id := 0) (by kernel_rfl) ?_
  refine then_e ?_
  refine round_e ?_
  refine inb_e ?_
  refine then_n ?_
  refine AWP.regsPX 1 [{}] [.keep [2, 12, 0, 4, 3] []] (by kernel_rfl) (C := []) (by kernel_rfl) trivial ?_
  refine AWP.ret (by kernel_rfl) ?_
  refine Done.ret_ (C := [Value.int .u64 (wv (wordOf (List.take 8 b))) = Value.int .u64 (wv (wordOf b))]) (by kernel_rfl) ⟨(by rw [List.take_of_length_le (by omega)]), trivial⟩
def openN (box : List UInt8) : UInt64 := wordOf (box.take 8)
def openH (box : List UInt8) : List UInt8 := (box.drop 8).take (box.length - 8 - 8)
def openE (key : UInt64) (bound box : List UInt8) : Int :=
 if box.length < 16 then 1 else if 1040 < box.length ∨ 1024 < bound.length then 8 else if box.drop (box.length - 8) = tagB key (openN box) bound (openH box) then 0 else 14
def openD (key : UInt64) (bound box : List UInt8) : List UInt8 := if openE key bound box = 0 then mixL key (openN box) (openH box) else []
theorem open_ret (key : UInt64) (bound box : List UInt8) : Ret Tryd.prog 57 [aw key, .sl 1 (bytesA bound), .sl 1 (bytesA box)] (.tup [.own 1 (bytesA (openD key bound box)), ai (openE key bound box)]) := by
 refine Ret.len 2 rfl fun hlen => ?_
 rw [bytesA_len] at hlen
 refine Ret.of_fn Tryd.func57 (by kernel_rfl) 58 (by kernel_rfl) (by kernel_rfl) ?_
 refine AWP.regsKX 1 [{}] (by kernel_rfl) (C := []) (by kernel_rfl) trivial ?_
 refine AWP.seq (by kernel_rfl) ?_
 refine AWP.regsPX 1 [{ hs := [(1, { k := box.length })] }] [.keep [14, 7, 6, 0, 1, 2] []] (by kernel_rfl) (C := [(bytesA box).length = box.length]) (by kernel_rfl) ⟨(bytesA_len _), trivial⟩ ?_
 refine AWP.condD (x := .tmp 14) (p := (↑box.length : Int) < 16) (by kernel_rfl) (by kernel_rfl) (fun h1 => ?_) (fun h1 => ?_)
 ·have e : openE key bound box = 1 := by unfold openE; rw [if_pos (by omega)]
  refine AWP.regsKX 1 [{}] (by kernel_rfl) (C := []) (by kernel_rfl) trivial ?_
  refine AWP.ret (by kernel_rfl) ?_
  refine then_r ?_
  refine Done.ret_ (C := [bytesA (openD key bound box) = [], Value.int .i64 1 = Value.int .i64 (openE key bound box)]) (by kernel_rfl) ⟨(by rw [openD, e]; rfl), (by rw [e]), trivial⟩
 refine AWP.skip (by kernel_rfl) ?_
 refine then_n ?_
 refine AWP.seq (by kernel_rfl) ?_
 refine (Classical.em ((↑box.length : Int) > 1040)).elim (fun h2 => ?_) (fun h2 => ?_)
 ·have e : openE key bound box = 8 := by unfold openE; rw [if_neg (by omega), if_pos (by omega)]
  refine AWP.regsPX 1 [{ hs := [(1, { k := box.length })] }] [.keep [22, 14, 7, 6, 0, 1, 2] []] (by kernel_rfl) (C := [(bytesA box).length = box.length, decide ((↑box.length : Int) > 1040) = true, decide ((↑box.length : Int) > 1040) = true, decide ((↑box.length : Int) > 1040) = true, decide ((↑box.length : Int) > 1040) = true]) (by kernel_rfl) ⟨(bytesA_len _), (decide_eq_true (by omega)), (decide_eq_true (by omega)), (decide_eq_true (by omega)), (decide_eq_true (by omega)), trivial⟩ ?_
  refine AWP.condT (x := .tmp 22) (b := true) (by kernel_rfl) (by kernel_rfl) rfl ?_
  refine AWP.regsKX 1 [{}] (by kernel_rfl) (C := []) (by kernel_rfl) trivial ?_
  refine AWP.ret (by kernel_rfl) ?_
  refine then_r ?_
  refine Done.ret_ (C := [bytesA (openD key bound box) = [], Value.int .i64 8 = Value.int .i64 (openE key bound box)]) (by kernel_rfl) ⟨(by rw [openD, e]; rfl), (by rw [e]), trivial⟩
 refine AWP.regsPX 1 [{ hs := [(1, { k := box.length }), (4, { g := false }), (5, { k := bound.length, g := false }), (6, { g := false }), (7, { b := false })] }] [.keep [22, 14, 7, 6, 0, 1, 2] []] (by kernel_rfl) (C := [(bytesA box).length = box.length, decide ((↑box.length : Int) > 1040) = false, decide ((↑box.length : Int) > 1040) = false, (bytesA bound).length = bound.length, decide ((↑box.length : Int) > 1040) = false, decide ((↑box.length : Int) > 1040) = false]) (by kernel_rfl) ⟨(bytesA_len _), (decide_eq_false (by omega)), (decide_eq_false (by omega)), (bytesA_len _), (decide_eq_false (by omega)), (decide_eq_false (by omega)), trivial⟩ ?_
 refine AWP.condD (x := .tmp 22) (p := (↑bound.length : Int) > 1024) (by kernel_rfl) (by kernel_rfl) (fun h3 => ?_) (fun h3 => ?_)
 ·have e : openE key bound box = 8 := by unfold openE; rw [if_neg (by omega), if_pos (by omega)]
  refine AWP.regsKX 1 [{}] (by kernel_rfl) (C := []) (by kernel_rfl) trivial ?_
  refine AWP.ret (by kernel_rfl) ?_
  refine then_r ?_
  refine Done.ret_ (C := [bytesA (openD key bound box) = [], Value.int .i64 8 = Value.int .i64 (openE key bound box)]) (by kernel_rfl) ⟨(by rw [openD, e]; rfl), (by rw [e]), trivial⟩
 refine AWP.skip (by kernel_rfl) ?_
 refine then_n ?_
 refine AWP.regsKX 1 [{}] (by kernel_rfl) (C := []) (by kernel_rfl) trivial ?_
 refine AWP.seq (by kernel_rfl) ?_
 refine AWP.regsKX 1 [{ hs := [(1, { av := some (AV.sl 1 (bytesA (List.take 8 box))), m := 8 }), (2, { k := (List.take 8 box).length })] }] (by kernel_rfl) (C := [AV.sl 1 (List.take 8 (bytesA box)) = AV.sl 1 (bytesA (List.take 8 box)), (8 : Int) = (↑(8 : Nat) : Int), (8 : Nat) ≤ (bytesA box).length, (bytesA (List.take 8 box)).length = (List.take 8 box).length]) (by kernel_rfl) ⟨(congrArg (AV.sl 1) (bytesA_take _ _)), rfl, (by simp only [bytesA_len]; omega), (bytesA_len _), trivial⟩ ?_
 refine AWP.block (id := 0) (by kernel_rfl) ?_
 refine AWP.loop (fun (i : Nat) => (⟨[(25, ai (↑(List.take 8 box).length : Int)), (24, AV.sl 1 (bytesA (List.take 8 box))), (22, ao (decide ((↑bound.length : Int) > 1024))), (14, ao (decide ((↑box.length : Int) < 16))), (7, ai 0), (6, AV.nil), (0, aw key), (1, AV.sl 1 (bytesA bound)), (2, AV.sl 1 (bytesA box)), (26, ai i), (8, aw (wordOf ((box.take 8).take i)))], []⟩ : AS)) (fun i => (i ≤ 8)) (fun i => (8 - i)) (by kernel_rfl) (0) ?_ (Weaks.ofX [.keep [25, 24, 22, 14, 7, 6, 0, 1, 2, 26, 8] []] (by kernel_rfl)) ?_
 ·omega
 intro i hi
 have ht : (box.take 8).length = 8 := by rw [List.length_take]; omega
 refine AWP.regsKX 1 [{}] (by kernel_rfl) (C := []) (by kernel_rfl) trivial ?_
 refine AWP.seq (by kernel_rfl) ?_
 refine AWP.condD (x := .tmp 27) (p := (↑i : Int) < (↑(List.take 8 box).length : Int)) (by kernel_rfl) (by kernel_rfl) (fun h4 => ?_) (fun h4 => ?_)
 ·have hw := wordOf_take (b := box.take 8) (i := i) (by omega)
  refine AWP.skip (by kernel_rfl) ?_
  refine then_n ?_
  refine AWP.seq (by kernel_rfl) ?_
  refine AWP.block (id := 1) (by kernel_rfl) ?_
  refine AWP.regsPX 1 [{ hs := [(0, { k := i }), (1, { av := some (ab ((List.take 8 box).getD i 0)) })] }] [.keep [10, 27, 25, 24, 22, 14, 7, 6, 0, 1, 2, 26, 8] []] (by kernel_rfl) (C := [(↑i : Int) = (↑i : Int), i < (bytesA (List.take 8 box)).length, (bytesA (List.take 8 box))[i]? = some (ab ((List.take 8 box).getD i 0))]) (by kernel_rfl) ⟨rfl, (by simp only [bytesA_len]; omega), (bytesA_at (by omega)), trivial⟩ ?_
  refine AWP.regX { hs := [(1, { av := some (aw (wordOf (List.take i (List.take 8 box)) <<< (8 : UInt64))) }), (3, { av := some (aw (((List.take 8 box).getD i 0).toUInt64)) }), (4, { av := some (aw (wordOf (List.take i (List.take 8 box)) <<< (8 : UInt64) ||| ((List.take 8 box).getD i 0).toUInt64)) })] } (C := [AV.val (Value.int .u64 (IntKind.u64.wrap (wv (wordOf (List.take i (List.take 8 box))) * (2 : Int) ^ min (Int.toNat (8 : Int)) IntKind.u64.bits))) = aw (wordOf (List.take i (List.take 8 box)) <<< (8 : UInt64)), (0 : Int) ≤ 8, AV.val (Value.int .u64 (IntKind.u64.wrap (bv ((List.take 8 box).getD i 0)))) = aw (((List.take 8 box).getD i 0).toUInt64), AV.val (Value.int .u64 (IntKind.u64.wrap (↑(BitVec.ofInt IntKind.u64.bits (wv (wordOf (List.take i (List.take 8 box)) <<< (8 : UInt64))) ||| BitVec.ofInt IntKind.u64.bits (wv ((List.take 8 box).getD i 0).toUInt64)).toNat : Int))) = aw (wordOf (List.take i (List.take 8 box)) <<< (8 : UInt64) ||| ((List.take 8 box).getD i 0).toUInt64)]) (by kernel_rfl) ⟨(avw_shl (wordOf (List.take i (List.take 8 box))) ((8 : Int)) (by omega) (by omega)), (by omega), (avw_bv ((List.take 8 box).getD i 0)), (avw_or (wordOf (List.take i (List.take 8 box)) <<< (8 : UInt64)) (((List.take 8 box).getD i 0).toUInt64)), trivial⟩ ?_
  refine inb_n ?_
  refine then_n ?_
  refine AWP.regX { hs := [(0, { av := some (ai ((↑i : Int) + 1)) })] } (C := [ai (IntKind.i64.wrap ((↑i : Int) + 1)) = ai ((↑i : Int) + 1)]) (by kernel_rfl) ⟨(av_i64 (by omega) (by omega)), trivial⟩ ?_
  refine round_n (i + 1) (by omega) (by omega) (Weaks.of [.keep [25, 24, 22, 14, 7, 6, 0, 1, 2, 26, 8] []] (s1 := AS.mk [(25, ai (↑(List.take 8 box).length : Int)), (24, AV.sl 1 (bytesA (List.take 8 box))), (22, ao (decide ((↑bound.length : Int) > 1024))), (14, ao (decide ((↑box.length : Int) < 16))), (7, ai 0), (6, AV.nil), (0, aw key), (1, AV.sl 1 (bytesA bound)), (2, AV.sl 1 (bytesA box)), (26, ai ((↑i : Int) + 1)), (8, aw (wordOf (List.take i (List.take 8 box)) <<< (8 : UInt64) ||| ((List.take 8 box).getD i 0).toUInt64))] []) (by kernel_rfl) (as_eq (f_cons rfl (f_cons rfl (f_cons rfl (f_cons rfl (f_cons rfl (f_cons rfl (f_cons rfl (f_cons rfl (f_cons rfl (f_cons rfl (f_cons (congrArg aw hw) rfl))))))))))) rfl))
 ·have e : i = 8 := by omega
  subst e
  have e8 : (box.take 8).take 8 = box.take 8 := List.take_of_length_le (by omega)
  have hh : (openH box).length = box.length - 16 := by unfold openH; rw [List.length_take, List.length_drop]; omega
  have htl := tagB_len key (openN box) bound (openH box)
  have hsl : AV.sl 1 (((bytesA box).drop 8).take (box.length - 8 - 8)) = AV.sl 1 (bytesA (openH box)) := by rw [bytesA_drop, bytesA_take]; rfl
  have hbl : (box.drop (box.length - 8)).length = 8 := by rw [List.length_drop]; omega
  have hN : wordOf (box.take 8) = openN box := rfl
  rw [e8, hN]
  refine AWP.exit (id := 0) (by kernel_rfl) ?_
  refine then_e ?_
  refine round_e ?_
  refine inb_e ?_
  refine then_n ?_
  refine AWP.regsPX 1 [{ hs := [(1, { k := box.length }), (2, { av := some (ai ((↑box.length : Int) - 8)) })] }] [.keep [11, 27, 25, 24, 22, 14, 7, 6, 0, 1, 2, 26, 8] []] (by kernel_rfl) (C := [(bytesA box).length = box.length, ai (IntKind.i64.wrap ((↑box.length : Int) - 8)) = ai ((↑box.length : Int) - 8)]) (by kernel_rfl) ⟨(bytesA_len _), (av_i64 (by omega) (by omega)), trivial⟩ ?_
  refine AWP.seq (by kernel_rfl) ?_
  refine AWP.regsPX 1 [{ hs := [(2, { av := some (AV.sl 1 (bytesA (List.drop (box.length - (8 : Nat)) box))), k := box.length - (8 : Nat) }), (4, { av := some (AV.arr (bytesA (List.drop (box.length - (8 : Nat)) box))) }), (10, { av := some (AV.sl 1 (bytesA (openH box))), k := 8, m := box.length - (8 : Nat) }), (11, { av := some (AV.arr (bytesA (tagB key (openN box) bound (openH box)))), b := false }), (12, { av := some (ao (List.drop (box.length - (8 : Nat)) box != tagB key (openN box) bound (openH box))) })], T := 12 }] [.keep [51, 11, 27, 25, 24, 22, 14, 7, 6, 0, 1, 2, 26, 8] []] (by kernel_rfl) (C := [AV.sl 1 (List.drop (box.length - (8 : Nat)) (bytesA box)) = AV.sl 1 (bytesA (List.drop (box.length - (8 : Nat)) box)), (↑box.length : Int) - 8 = (↑(box.length - (8 : Nat)) : Int), box.length - (8 : Nat) ≤ (bytesA box).length, (8 : Nat) ≤ (bytesA (List.drop (box.length - (8 : Nat)) box)).length, List.take 8 (List.drop 0 (bytesA (List.drop (box.length - (8 : Nat)) box))) = bytesA (List.drop (box.length - (8 : Nat)) box), (bytesA (List.drop (box.length - (8 : Nat)) box)).length = (8 : Nat), AV.sl 1 (List.take (box.length - (8 : Nat) - (8 : Nat)) (List.drop 8 (bytesA box))) = AV.sl 1 (bytesA (openH box)), (8 : Int) = (↑(8 : Nat) : Int), (↑box.length : Int) - 8 = (↑(box.length - (8 : Nat)) : Int), (8 : Nat) ≤ box.length - (8 : Nat), box.length - (8 : Nat) ≤ (bytesA box).length, Ret Tryd.prog (74 : Nat) [aw key, aw (openN box), AV.sl 1 (bytesA bound), AV.sl 1 (bytesA (openH box))] (AV.arr (bytesA (tagB key (openN box) bound (openH box)))), ArrEq IntKind.u8 (8 : Nat) (bytesA (List.drop (box.length - (8 : Nat)) box)) (bytesA (tagB key (openN box) bound (openH box))) !List.drop (box.length - (8 : Nat)) box != tagB key (openN box) bound (openH box)]) (by kernel_rfl) ⟨(congrArg (AV.sl 1) (bytesA_drop _ _)), (by omega), (by simp only [bytesA_len]; omega), (by simp only [bytesA_len]; omega), (whole_get (by assumption)), (by simp only [bytesA_len]; omega), hsl, rfl, (by omega), (by omega), (by simp only [bytesA_len]; omega), (tag_ret (key) (openN box) (bound) (openH box) (by omega) (by omega)), (arrEq_bytesN (List.drop (box.length - (8 : Nat)) box) (tagB key (openN box) bound (openH box)) (by omega) (by omega)), trivial⟩ ?_
  refine AWP.condN (x := .tmp 51) (u := List.drop (box.length - (8 : Nat)) box) (v := tagB key (openN box) bound (openH box)) (by kernel_rfl) (by kernel_rfl) (fun h5 => ?_) (fun h5 => ?_)
  ·have e : openE key bound box = 14 := by unfold openE; rw [if_neg (by omega), if_neg (by omega), if_neg h5]
   refine AWP.regsKX 1 [{}] (by kernel_rfl) (C := []) (by kernel_rfl) trivial ?_
   refine AWP.ret (by kernel_rfl) ?_
   refine then_r ?_
   refine Done.ret_ (C := [bytesA (openD key bound box) = [], Value.int .i64 14 = Value.int .i64 (openE key bound box)]) (by kernel_rfl) ⟨(by rw [openD, e]; rfl), (by rw [e]), trivial⟩
  ·have e : openE key bound box = 0 := by unfold openE; rw [if_neg (by omega), if_neg (by omega), if_pos h5]
   refine AWP.skip (by kernel_rfl) ?_
   refine then_n ?_
   refine AWP.regsPX 1 [{ hs := [(4, { av := some (AV.sl 1 (bytesA (openH box))), k := 8, m := box.length - (8 : Nat) }), (5, { av := some (AV.own 1 (bytesA (mixL key (openN box) (openH box)))) })] }] [.keep [7, 6, 51, 11, 27, 25, 24, 22, 14, 0, 1, 2, 26, 8] [57]] (by kernel_rfl) (C := [AV.sl 1 (List.take (box.length - (8 : Nat) - (8 : Nat)) (List.drop 8 (bytesA box))) = AV.sl 1 (bytesA (openH box)), (8 : Int) = (↑(8 : Nat) : Int), (↑box.length : Int) - 8 = (↑(box.length - (8 : Nat)) : Int), (8 : Nat) ≤ box.length - (8 : Nat), box.length - (8 : Nat) ≤ (bytesA box).length, Ret Tryd.prog (75 : Nat) [aw key, aw (openN box), AV.sl 1 (bytesA (openH box))] (AV.own 1 (bytesA (mixL key (openN box) (openH box)))), valR (bytesA (mixL key (openN box) (openH box)))]) (by kernel_rfl) ⟨hsl, rfl, (by omega), (by omega), (by simp only [bytesA_len]; omega), (mixL_ret (key) (openN box) (openH box) (by omega)), (valR_bytes _), trivial⟩ ?_
   refine AWP.ret (by kernel_rfl) ?_
   refine Done.ret_ (C := [bytesA (mixL key (openN box) (openH box)) = bytesA (openD key bound box), Value.int .i64 0 = Value.int .i64 (openE key bound box)]) (by kernel_rfl) ⟨(by rw [openD, if_pos e]), (by rw [e]), trivial⟩
theorem refmix_ret (key nonce : UInt64) (text : List UInt8) (h : text.length ≤ 1024) : Ret Tryd.prog 49 [aw key, aw nonce, .sl 1 (bytesA text)] (.own 1 (bytesA (mixL key nonce text))) := by
 have hs := stream_len key nonce text.length
 have hn : streamN text.length = text.length := by unfold streamN; omega
 refine Ret.of_fn Tryd.func49 (by kernel_rfl) 34 (by kernel_rfl) (by kernel_rfl) ?_
 refine AWP.regsPX 3 [{}, { hs := [(3, { k := text.length }), (4, { av := some (AV.own 1 (bytesA (stream key nonce (↑text.length : Int)))) })] }, {}] [.keep [8, 7, 6, 0, 1, 2] [14]] (by kernel_rfl) (C := [(bytesA text).length = text.length, Ret Tryd.prog (41 : Nat) [aw key, aw nonce, ai (↑text.length : Int)] (AV.own 1 (bytesA (stream key nonce (↑text.length : Int)))), valR (bytesA (stream key nonce (↑text.length : Int)))]) (by kernel_rfl) ⟨(bytesA_len _), (refstream_ret (key) (nonce) ((↑text.length : Int))), (valR_bytes _), trivial⟩ ?_
 refine AWP.seq (by kernel_rfl) ?_
 refine AWP.regsKX 1 [{}] (by kernel_rfl) (C := []) (by kernel_rfl) trivial ?_
 refine AWP.block (id := 0) (by kernel_rfl) ?_
 refine AWP.loop (fun (i : Nat) => (⟨[(7, AV.ref 14), (6, AV.nil), (0, aw key), (1, aw nonce), (2, AV.sl 1 (bytesA text)), (9, ai i), (8, AV.ref 32)], [(14, ⟨1, true, false, bytesA (stream key nonce (↑text.length : Int))⟩), (32, ⟨1, true, false, bytesA ((List.range i).map fun i => (stream key nonce text.length).getD i 0 ^^^ text.getD i 0)⟩)]⟩ : AS)) (fun i => (i ≤ text.length)) (fun i => (text.length - i)) (by kernel_rfl) (0) ?_ (Weaks.ofX [.nil 8 32 1, .keep [7, 6, 0, 1, 2, 9, 8] [14, 32]] (by kernel_rfl)) ?_
 ·omega
 intro i hi
 refine AWP.seq (by kernel_rfl) ?_
 refine AWP.regsPX 1 [{ hs := [(2, { k := text.length })] }] [.keep [18, 7, 6, 0, 1, 2, 9, 8] [14, 32]] (by kernel_rfl) (C := [(bytesA text).length = text.length]) (by kernel_rfl) ⟨(bytesA_len _), trivial⟩ ?_
 refine AWP.condD (x := .tmp 18) (p := (↑i : Int) < (↑text.length : Int)) (by kernel_rfl) (by kernel_rfl) (fun h1 => ?_) (fun h1 => ?_)
 ·skip
  refine AWP.skip (by kernel_rfl) ?_
  refine then_n ?_
  refine AWP.seq (by kernel_rfl) ?_
  refine AWP.block (id := 1) (by kernel_rfl) ?_
  refine AWP.regX { hs := [(3, { k := i }), (4, { av := some (ab (text.getD i 0)) }), (7, { k := i }), (8, { av := some (ab ((stream key nonce (↑text.length : Int)).getD i 0)) }), (9, { av := some (ab (text.getD i (0 : UInt8) ^^^ (stream key nonce (↑text.length : Int)).getD i 0)) }), (10, { av := some (AV.arr (bytesA [text.getD i (0 : UInt8) ^^^ (stream key nonce (↑text.length : Int)).getD i 0])) }), (11, { av := some (AV.arr (bytesA (List.map (fun i ↦ (stream key nonce (↑text.length : Int)).getD i (0 : UInt8) ^^^ text.getD i 0) (List.range i) ++ [text.getD i (0 : UInt8) ^^^ (stream key nonce (↑text.length : Int)).getD i 0]))) })], T := 11 } (C := [(↑i : Int) = (↑i : Int), i < (bytesA text).length, (bytesA text)[i]? = some (ab (text.getD i 0)), (↑i : Int) = (↑i : Int), i < (bytesA (stream key nonce (↑text.length : Int))).length, (bytesA (stream key nonce (↑text.length : Int)))[i]? = some (ab ((stream key nonce (↑text.length : Int)).getD i 0)), AV.val (Value.int .u8 (IntKind.u8.wrap (↑(BitVec.ofInt IntKind.u8.bits (bv (text.getD i 0)) ^^^ BitVec.ofInt IntKind.u8.bits (bv ((stream key nonce (↑text.length : Int)).getD i 0))).toNat : Int))) = ab (text.getD i (0 : UInt8) ^^^ (stream key nonce (↑text.length : Int)).getD i 0), [ab (text.getD i (0 : UInt8) ^^^ (stream key nonce (↑text.length : Int)).getD i 0)] = bytesA [text.getD i (0 : UInt8) ^^^ (stream key nonce (↑text.length : Int)).getD i 0], bytesA (List.map (fun i ↦ (stream key nonce (↑text.length : Int)).getD i (0 : UInt8) ^^^ text.getD i 0) (List.range i)) ++ bytesA [text.getD i (0 : UInt8) ^^^ (stream key nonce (↑text.length : Int)).getD i 0] = bytesA (List.map (fun i ↦ (stream key nonce (↑text.length : Int)).getD i (0 : UInt8) ^^^ text.getD i 0) (List.range i) ++ [text.getD i (0 : UInt8) ^^^ (stream key nonce (↑text.length : Int)).getD i 0]), ((bytesA (List.map (fun i ↦ (stream key nonce (↑text.length : Int)).getD i (0 : UInt8) ^^^ text.getD i 0) (List.range i))).length + (bytesA [text.getD i (0 : UInt8) ^^^ (stream key nonce (↑text.length : Int)).getD i 0]).length) * (1 : Nat) ≤ (140737488355328 : Nat)]) (by kernel_rfl) ⟨rfl, (by simp only [bytesA_len]; omega), (bytesA_at (by omega)), rfl, (by simp only [bytesA_len]; omega), (bytesA_at (by omega)), (avb_xor (text.getD i 0) ((stream key nonce (↑text.length : Int)).getD i 0)), rfl, (bytesA_app _ _), (by simp only [bytesA_len, List.length_cons, List.length_nil, List.length_map, List.length_range]; omega), trivial⟩ ?_
  refine inb_n ?_
  refine then_n ?_
  refine AWP.regX { hs := [(1, { av := some (ai ((↑i : Int) + 1)) })] } (C := [ai (IntKind.i64.wrap ((↑i : Int) + 1)) = ai ((↑i : Int) + 1)]) (by kernel_rfl) ⟨(av_i64 (by omega) (by omega)), trivial⟩ ?_
  refine round_n (i + 1) (by omega) (by omega) (Weaks.of [.keep [7, 6, 0, 1, 2, 9, 8] [14, 32]] (s1 := AS.mk [(7, AV.ref 14), (6, AV.nil), (0, aw key), (1, aw nonce), (2, AV.sl 1 (bytesA text)), (9, ai ((↑i : Int) + 1)), (8, AV.ref 32)] [(14, Row.mk 1 true false (bytesA (stream key nonce (↑text.length : Int)))), (32, Row.mk 1 true false (bytesA (List.map (fun i ↦ (stream key nonce (↑text.length : Int)).getD i (0 : UInt8) ^^^ text.getD i 0) (List.range i) ++ [text.getD i (0 : UInt8) ^^^ (stream key nonce (↑text.length : Int)).getD i 0])))]) (by kernel_rfl) (as_eq (f_cons rfl (f_cons rfl (f_cons rfl (f_cons rfl (f_cons rfl (f_cons rfl (f_cons rfl rfl))))))) (h_cons rfl (h_cons (congrArg bytesA (by rw [UInt8.xor_comm (text.getD i 0)]; exact range_snoc (fun i => (stream key nonce text.length).getD i 0 ^^^ text.getD i 0) i)) rfl))))
 ·have e : i = text.length := by omega
  subst e
  refine AWP.exit (id := 0) (by kernel_rfl) ?_
  refine then_e ?_
  refine round_e ?_
  refine inb_e ?_
  refine then_n ?_
  refine AWP.regsKX 1 [{}] (by kernel_rfl) (C := []) (by kernel_rfl) trivial ?_
  refine AWP.ret (by kernel_rfl) ?_
  refine Done.ret_ (C := [bytesA (List.map (fun i ↦ (stream key nonce (↑text.length : Int)).getD i (0 : UInt8) ^^^ text.getD i 0) (List.range text.length)) = bytesA (mixL key nonce text)]) (by kernel_rfl) ⟨rfl, trivial⟩
theorem reftag_ret (key nonce : UInt64) (bound hidden : List UInt8) (h : bound.length ≤ 5000) (h2 : hidden.length ≤ 5000) : Ret Tryd.prog 50 [aw key, aw nonce, .sl 1 (bytesA bound), .sl 1 (bytesA hidden)] (aw (tagW key nonce bound hidden)) := by
 have hw : (words [nonce, u64 bound.length]).length = 16 := by rw [words_len]; rfl
 refine Ret.of_fn Tryd.func50 (by kernel_rfl) 23 (by kernel_rfl) (by kernel_rfl) ?_
 refine AWP.regsPX 3 [{}, { hs := [(2, { k := bound.length }), (3, { av := some (aw (u64 (↑bound.length : Int))) }), (4, { av := some (AV.arr (wordsA [nonce, u64 (↑bound.length : Int)])) }), (5, { av := some (AV.own 1 (bytesA (words [nonce, u64 (↑bound.length : Int)]))) })] }, { hs := [(3, { av := some (AV.arr (bytesA (words [nonce, u64 (↑bound.length : Int)] ++ bound))), b := false }), (5, { av := some (AV.arr (bytesA (words [nonce, u64 (↑bound.length : Int)] ++ bound ++ hidden))), b := false }), (6, { av := some (aw (mac key (6 : Int) (words [nonce, u64 (↑bound.length : Int)] ++ bound ++ hidden))) })] }] [.keep [8, 0, 1, 2, 3] []] (by kernel_rfl) (C := [(bytesA bound).length = bound.length, AV.val (Value.int .u64 (IntKind.u64.wrap (↑bound.length : Int))) = aw (u64 (↑bound.length : Int)), [aw nonce, aw (u64 (↑bound.length : Int))] = wordsA [nonce, u64 (↑bound.length : Int)], Ret Tryd.prog (43 : Nat) [AV.sl 1 (wordsA [nonce, u64 (↑bound.length : Int)])] (AV.own 1 (bytesA (words [nonce, u64 (↑bound.length : Int)]))), valR (bytesA (words [nonce, u64 (↑bound.length : Int)])), bytesA (words [nonce, u64 (↑bound.length : Int)]) ++ bytesA bound = bytesA (words [nonce, u64 (↑bound.length : Int)] ++ bound), plainR (bytesA bound), ((bytesA (words [nonce, u64 (↑bound.length : Int)])).length + (bytesA bound).length) * (1 : Nat) ≤ (140737488355328 : Nat), bytesA (words [nonce, u64 (↑bound.length : Int)] ++ bound) ++ bytesA hidden = bytesA (words [nonce, u64 (↑bound.length : Int)] ++ bound ++ hidden), plainR (bytesA hidden), ((bytesA (words [nonce, u64 (↑bound.length : Int)] ++ bound)).length + (bytesA hidden).length) * (1 : Nat) ≤ (140737488355328 : Nat), Ret Tryd.prog (65 : Nat) [aw key, ai 6, AV.sl 1 (bytesA (words [nonce, u64 (↑bound.length : Int)] ++ bound ++ hidden))] (aw (mac key (6 : Int) (words [nonce, u64 (↑bound.length : Int)] ++ bound ++ hidden)))]) (by kernel_rfl) ⟨(bytesA_len _), (avw_conv ((↑bound.length : Int))), rfl, (refwords_ret ([nonce, u64 (↑bound.length : Int)]) (by simp only [List.length_cons, List.length_nil]; omega)), (valR_bytes _), (bytesA_app _ _), (plainR_bytes _), (by simp only [bytesA_len]; omega), (bytesA_app _ _), (plainR_bytes _), (by simp only [bytesA_len, List.length_append]; omega), (refmac_ret (key) ((6 : Int)) (words [nonce, u64 (↑bound.length : Int)] ++ bound ++ hidden) (by simp only [List.length_append]; omega)), trivial⟩ ?_
 refine AWP.ret (by kernel_rfl) ?_
 refine Done.ret_ (C := [Value.int .u64 (wv (mac key (6 : Int) (words [nonce, u64 (↑bound.length : Int)] ++ bound ++ hidden))) = Value.int .u64 (wv (tagW key nonce bound hidden))]) (by kernel_rfl) ⟨(by rw [tagW, List.append_assoc]), trivial⟩
theorem refseal_ret (key nonce : UInt64) (bound text : List UInt8) : Ret Tryd.prog 19 [aw key, aw nonce, .sl 1 (bytesA bound), .sl 1 (bytesA text)] (.tup [.own 1 (bytesA (sealD key nonce bound text)), ai (sealE bound text)]) := by
 have hm := mixL_len key nonce text
 have hw : (words [nonce]).length = 8 := by rw [words_len]; rfl
 refine Ret.of_fn Tryd.func19 (by kernel_rfl) 38 (by kernel_rfl) (by kernel_rfl) ?_
 refine AWP.regsKX 1 [{}] (by kernel_rfl) (C := []) (by kernel_rfl) trivial ?_
 refine AWP.seq (by kernel_rfl) ?_
 refine (Classical.em ((↑text.length : Int) > 1024)).elim (fun h1 => ?_) (fun h1 => ?_)
 ·have e : sealE bound text = 8 := by unfold sealE; rw [if_pos (by omega)]
  refine AWP.regsPX 1 [{ hs := [(1, { k := text.length })] }] [.keep [19, 9, 8, 0, 1, 2, 3] []] (by kernel_rfl) (C := [(bytesA text).length = text.length, decide ((↑text.length : Int) > 1024) = true, decide ((↑text.length : Int) > 1024) = true, decide ((↑text.length : Int) > 1024) = true, decide ((↑text.length : Int) > 1024) = true]) (by kernel_rfl) ⟨(bytesA_len _), (decide_eq_true (by omega)), (decide_eq_true (by omega)), (decide_eq_true (by omega)), (decide_eq_true (by omega)), trivial⟩ ?_
  refine AWP.condT (x := .tmp 19) (b := true) (by kernel_rfl) (by kernel_rfl) rfl ?_
  refine AWP.regsKX 1 [{}] (by kernel_rfl) (C := []) (by kernel_rfl) trivial ?_
  refine AWP.ret (by kernel_rfl) ?_
  refine then_r ?_
  refine Done.ret_ (C := [bytesA (sealD key nonce bound text) = [], Value.int .i64 8 = Value.int .i64 (sealE bound text)]) (by kernel_rfl) ⟨(by rw [sealD, e]; rfl), (by rw [e]), trivial⟩
 refine AWP.regsPX 1 [{ hs := [(1, { k := text.length }), (4, { g := false }), (5, { k := bound.length, g := false }), (6, { g := false }), (7, { b := false })] }] [.keep [19, 9, 8, 0, 1, 2, 3] []] (by kernel_rfl) (C := [(bytesA text).length = text.length, decide ((↑text.length : Int) > 1024) = false, decide ((↑text.length : Int) > 1024) = false, (bytesA bound).length = bound.length, decide ((↑text.length : Int) > 1024) = false, decide ((↑text.length : Int) > 1024) = false]) (by kernel_rfl) ⟨(bytesA_len _), (decide_eq_false (by omega)), (decide_eq_false (by omega)), (bytesA_len _), (decide_eq_false (by omega)), (decide_eq_false (by omega)), trivial⟩ ?_
 refine AWP.condD (x := .tmp 19) (p := (↑bound.length : Int) > 1024) (by kernel_rfl) (by kernel_rfl) (fun h2 => ?_) (fun h2 => ?_)
 ·have e : sealE bound text = 8 := by unfold sealE; rw [if_pos (by omega)]
  refine AWP.regsKX 1 [{}] (by kernel_rfl) (C := []) (by kernel_rfl) trivial ?_
  refine AWP.ret (by kernel_rfl) ?_
  refine then_r ?_
  refine Done.ret_ (C := [bytesA (sealD key nonce bound text) = [], Value.int .i64 8 = Value.int .i64 (sealE bound text)]) (by kernel_rfl) ⟨(by rw [sealD, e]; rfl), (by rw [e]), trivial⟩
 have e : sealE bound text = 0 := by unfold sealE; rw [if_neg (by omega)]
 refine AWP.skip (by kernel_rfl) ?_
 refine then_n ?_
 refine AWP.regsPX 3 [{ hs := [(3, { av := some (AV.own 1 (bytesA (mixL key nonce text))) })] }, { hs := [(1, { av := some (AV.arr (wordsA [nonce])) }), (2, { av := some (AV.own 1 (bytesA (words [nonce]))) }), (4, { av := some (AV.arr (bytesA (words [nonce] ++ mixL key nonce text))), b := false })] }, { hs := [(5, { av := some (aw (tagW key nonce bound (mixL key nonce text))) }), (6, { av := some (AV.arr (wordsA [tagW key nonce bound (mixL key nonce text)])) }), (7, { av := some (AV.own 1 (bytesA (words [tagW key nonce bound (mixL key nonce text)]))) }), (8, { av := some (AV.arr (bytesA (words [nonce] ++ mixL key nonce text ++ words [tagW key nonce bound (mixL key nonce text)]))) })] }] [.keep [9, 8, 10, 19, 0, 1, 2, 3] [37, 23]] (by kernel_rfl) (C := [Ret Tryd.prog (49 : Nat) [aw key, aw nonce, AV.sl 1 (bytesA text)] (AV.own 1 (bytesA (mixL key nonce text))), valR (bytesA (mixL key nonce text)), [aw nonce] = wordsA [nonce], Ret Tryd.prog (43 : Nat) [AV.sl 1 (wordsA [nonce])] (AV.own 1 (bytesA (words [nonce]))), valR (bytesA (words [nonce])), bytesA (words [nonce]) ++ bytesA (mixL key nonce text) = bytesA (words [nonce] ++ mixL key nonce text), plainR (bytesA (mixL key nonce text)), ((bytesA (words [nonce])).length + (bytesA (mixL key nonce text)).length) * (1 : Nat) ≤ (140737488355328 : Nat), Ret Tryd.prog (50 : Nat) [aw key, aw nonce, AV.sl 1 (bytesA bound), AV.sl 1 (bytesA (mixL key nonce text))] (aw (tagW key nonce bound (mixL key nonce text))), [aw (tagW key nonce bound (mixL key nonce text))] = wordsA [tagW key nonce bound (mixL key nonce text)], Ret Tryd.prog (43 : Nat) [AV.sl 1 (wordsA [tagW key nonce bound (mixL key nonce text)])] (AV.own 1 (bytesA (words [tagW key nonce bound (mixL key nonce text)]))), valR (bytesA (words [tagW key nonce bound (mixL key nonce text)])), bytesA (words [nonce] ++ mixL key nonce text) ++ bytesA (words [tagW key nonce bound (mixL key nonce text)]) = bytesA (words [nonce] ++ mixL key nonce text ++ words [tagW key nonce bound (mixL key nonce text)]), ((bytesA (words [nonce] ++ mixL key nonce text)).length + (bytesA (words [tagW key nonce bound (mixL key nonce text)])).length) * (1 : Nat) ≤ (140737488355328 : Nat)]) (by kernel_rfl) ⟨(refmix_ret (key) (nonce) (text) (by omega)), (valR_bytes _), rfl, (refwords_ret ([nonce]) (by simp only [List.length_cons, List.length_nil]; omega)), (valR_bytes _), (bytesA_app _ _), (plainR_bytes _), (by simp only [bytesA_len]; omega), (reftag_ret (key) (nonce) (bound) (mixL key nonce text) (by omega) (by omega)), rfl, (refwords_ret ([tagW key nonce bound (mixL key nonce text)]) (by simp only [List.length_cons, List.length_nil]; omega)), (valR_bytes _), (bytesA_app _ _), (by simp only [bytesA_len, List.length_append, List.length_cons, List.length_nil, words_len]; omega), trivial⟩ ?_
 refine AWP.ret (by kernel_rfl) ?_
 refine Done.ret_ (C := [bytesA (words [nonce] ++ mixL key nonce text ++ words [tagW key nonce bound (mixL key nonce text)]) = bytesA (sealD key nonce bound text), Value.int .i64 0 = Value.int .i64 (sealE bound text)]) (by kernel_rfl) ⟨(by rw [sealD, if_pos e, List.append_assoc]; rfl), (by rw [e]), trivial⟩
theorem wstep_nat (x : UInt64) (c : UInt8) (h : x.toNat < 72057594037927936) : (wstep x c).toNat = x.toNat * 256 + c.toNat := by
 have hc := c.toNat_lt
 unfold wstep
 rw [UInt64.toNat_or, UInt64.toNat_shiftLeft]
 rw [show (8 : UInt64).toNat % 64 = 8 from rfl, Nat.mod_eq_of_lt (by rw [Nat.shiftLeft_eq]; omega)]
 rw [show c.toUInt64.toNat = c.toNat by simp, ← Nat.shiftLeft_add_eq_or_of_lt (by omega), Nat.shiftLeft_eq]
theorem wordOf8 (a b c d e f g h : UInt8) : (wordOf [a, b, c, d, e, f, g, h]).toNat = ((((((a.toNat * 256 + b.toNat) * 256 + c.toNat) * 256 + d.toNat) * 256 + e.toNat) * 256 + f.toNat) * 256 + g.toNat) * 256 + h.toNat := by
 have ha := a.toNat_lt; have hb := b.toNat_lt; have hc := c.toNat_lt; have hd := d.toNat_lt
 have he := e.toNat_lt; have hf := f.toNat_lt; have hg := g.toNat_lt
 have e1 : (wstep 0 a).toNat = a.toNat := by rw [wstep_nat _ _ (by simp)]; simp
 have e2 := wstep_nat (wstep 0 a) b (by omega)
 have e3 := wstep_nat (wstep (wstep 0 a) b) c (by omega)
 have e4 := wstep_nat (wstep (wstep (wstep 0 a) b) c) d (by omega)
 have e5 := wstep_nat (wstep (wstep (wstep (wstep 0 a) b) c) d) e (by omega)
 have e6 := wstep_nat (wstep (wstep (wstep (wstep (wstep 0 a) b) c) d) e) f (by omega)
 have e7 := wstep_nat (wstep (wstep (wstep (wstep (wstep (wstep 0 a) b) c) d) e) f) g (by omega)
 have e8 := wstep_nat (wstep (wstep (wstep (wstep (wstep (wstep (wstep 0 a) b) c) d) e) f) g) h (by omega)
 show (wstep (wstep (wstep (wstep (wstep (wstep (wstep (wstep 0 a) b) c) d) e) f) g) h).toNat = _
 rw [e8, e7, e6, e5, e4, e3, e2, e1]
theorem byte_nat (x : UInt64) (k : UInt64) (hk : k.toNat < 64) : (x >>> k).toUInt8.toNat = x.toNat / 2 ^ k.toNat % 256 := by
 rw [UInt64.toNat_toUInt8, UInt64.toNat_shiftRight, Nat.mod_eq_of_lt hk, Nat.shiftRight_eq_div_pow]
theorem wordOf_be (x : UInt64) : wordOf (be x) = x := by
 apply UInt64.toNat_inj.1
 unfold be
 rw [wordOf8]
 simp only [byte_nat x 56 (by decide), byte_nat x 48 (by decide), byte_nat x 40 (by decide), byte_nat x 32 (by decide), byte_nat x 24 (by decide), byte_nat x 16 (by decide), byte_nat x 8 (by decide), byte_nat x 0 (by decide)]
 have := x.toNat_lt
 simp only [show (56 : UInt64).toNat = 56 from rfl, show (48 : UInt64).toNat = 48 from rfl, show (40 : UInt64).toNat = 40 from rfl, show (32 : UInt64).toNat = 32 from rfl, show (24 : UInt64).toNat = 24 from rfl, show (16 : UInt64).toNat = 16 from rfl, show (8 : UInt64).toNat = 8 from rfl, show (0 : UInt64).toNat = 0 from rfl]
 omega
theorem list_of8 {α : Type} {b : List α} (h : b.length = 8) : ∃ x0 x1 x2 x3 x4 x5 x6 x7, b = [x0, x1, x2, x3, x4, x5, x6, x7] := by
 match b, h with
 | [x0, x1, x2, x3, x4, x5, x6, x7], _ => exact ⟨x0, x1, x2, x3, x4, x5, x6, x7, rfl⟩
theorem be_wordOf (b : List UInt8) (h : b.length = 8) : be (wordOf b) = b := by
 obtain ⟨x0, x1, x2, x3, x4, x5, x6, x7, rfl⟩ := list_of8 h
 have hw := wordOf8 x0 x1 x2 x3 x4 x5 x6 x7
 generalize wordOf [x0, x1, x2, x3, x4, x5, x6, x7] = w at hw
 have h0 := x0.toNat_lt; have h1 := x1.toNat_lt; have h2 := x2.toNat_lt; have h3 := x3.toNat_lt
 have h4 := x4.toNat_lt; have h5 := x5.toNat_lt; have h6 := x6.toNat_lt; have h7 := x7.toNat_lt
 unfold be
 congr 1
 ·apply UInt8.toNat_inj.1; rw [byte_nat w 56 (by decide), show (56 : UInt64).toNat = 56 from rfl]; omega
 congr 1
 ·apply UInt8.toNat_inj.1; rw [byte_nat w 48 (by decide), show (48 : UInt64).toNat = 48 from rfl]; omega
 congr 1
 ·apply UInt8.toNat_inj.1; rw [byte_nat w 40 (by decide), show (40 : UInt64).toNat = 40 from rfl]; omega
 congr 1
 ·apply UInt8.toNat_inj.1; rw [byte_nat w 32 (by decide), show (32 : UInt64).toNat = 32 from rfl]; omega
 congr 1
 ·apply UInt8.toNat_inj.1; rw [byte_nat w 24 (by decide), show (24 : UInt64).toNat = 24 from rfl]; omega
 congr 1
 ·apply UInt8.toNat_inj.1; rw [byte_nat w 16 (by decide), show (16 : UInt64).toNat = 16 from rfl]; omega
 congr 1
 ·apply UInt8.toNat_inj.1; rw [byte_nat w 8 (by decide), show (8 : UInt64).toNat = 8 from rfl]; omega
 congr 1
 ·apply UInt8.toNat_inj.1; rw [byte_nat w 0 (by decide), show (0 : UInt64).toNat = 0 from rfl]; omega
theorem words1 (x : UInt64) : words [x] = be x := by simp [words]
theorem wordOf_eq {b : List UInt8} (h : b.length = 8) (x : UInt64) : wordOf b = x ↔ b = words [x] := by
 rw [words1]
 constructor
 ·rintro rfl; exact (be_wordOf b h).symm
 ·rintro rfl; exact wordOf_be x
theorem refopen_ret (key : UInt64) (bound box : List UInt8) : Ret Tryd.prog 30 [aw key, .sl 1 (bytesA bound), .sl 1 (bytesA box)] (.tup [.own 1 (bytesA (openD key bound box)), ai (openE key bound box)]) := by
 refine Ret.len 2 rfl fun hlen => ?_
 rw [bytesA_len] at hlen
 refine Ret.of_fn Tryd.func30 (by kernel_rfl) 45 (by kernel_rfl) (by kernel_rfl) ?_
 refine AWP.regsKX 1 [{}] (by kernel_rfl) (C := []) (by kernel_rfl) trivial ?_
 refine AWP.seq (by kernel_rfl) ?_
 refine AWP.regsPX 1 [{ hs := [(1, { k := box.length })] }] [.keep [12, 7, 6, 0, 1, 2] []] (by kernel_rfl) (C := [(bytesA box).length = box.length]) (by kernel_rfl) ⟨(bytesA_len _), trivial⟩ ?_
 refine AWP.condD (x := .tmp 12) (p := (↑box.length : Int) < 16) (by kernel_rfl) (by kernel_rfl) (fun h1 => ?_) (fun h1 => ?_)
 ·have e : openE key bound box = 1 := by unfold openE; rw [if_pos (by omega)]
  refine AWP.regsKX 1 [{}] (by kernel_rfl) (C := []) (by kernel_rfl) trivial ?_
  refine AWP.ret (by kernel_rfl) ?_
  refine then_r ?_
  refine Done.ret_ (C := [bytesA (openD key bound box) = [], Value.int .i64 1 = Value.int .i64 (openE key bound box)]) (by kernel_rfl) ⟨(by rw [openD, e]; rfl), (by rw [e]), trivial⟩
 refine AWP.skip (by kernel_rfl) ?_
 refine then_n ?_
 refine AWP.seq (by kernel_rfl) ?_
 refine (Classical.em ((↑box.length : Int) > 1040)).elim (fun h2 => ?_) (fun h2 => ?_)
 ·have e : openE key bound box = 8 := by unfold openE; rw [if_neg (by omega), if_pos (by omega)]
  refine AWP.regsPX 1 [{ hs := [(1, { k := box.length })] }] [.keep [20, 12, 7, 6, 0, 1, 2] []] (by kernel_rfl) (C := [(bytesA box).length = box.length, decide ((↑box.length : Int) > 1040) = true, decide ((↑box.length : Int) > 1040) = true, decide ((↑box.length : Int) > 1040) = true, decide ((↑box.length : Int) > 1040) = true]) (by kernel_rfl) ⟨(bytesA_len _), (decide_eq_true (by omega)), (decide_eq_true (by omega)), (decide_eq_true (by omega)), (decide_eq_true (by omega)), trivial⟩ ?_
  refine AWP.condT (x := .tmp 20) (b := true) (by kernel_rfl) (by kernel_rfl) rfl ?_
  refine AWP.regsKX 1 [{}] (by kernel_rfl) (C := []) (by kernel_rfl) trivial ?_
  refine AWP.ret (by kernel_rfl) ?_
  refine then_r ?_
  refine Done.ret_ (C := [bytesA (openD key bound box) = [], Value.int .i64 8 = Value.int .i64 (openE key bound box)]) (by kernel_rfl) ⟨(by rw [openD, e]; rfl), (by rw [e]), trivial⟩
 refine AWP.regsPX 1 [{ hs := [(1, { k := box.length }), (4, { g := false }), (5, { k := bound.length, g := false }), (6, { g := false }), (7, { b := false })] }] [.keep [20, 12, 7, 6, 0, 1, 2] []] (by kernel_rfl) (C := [(bytesA box).length = box.length, decide ((↑box.length : Int) > 1040) = false, decide ((↑box.length : Int) > 1040) = false, (bytesA bound).length = bound.length, decide ((↑box.length : Int) > 1040) = false, decide ((↑box.length : Int) > 1040) = false]) (by kernel_rfl) ⟨(bytesA_len _), (decide_eq_false (by omega)), (decide_eq_false (by omega)), (bytesA_len _), (decide_eq_false (by omega)), (decide_eq_false (by omega)), trivial⟩ ?_
 refine AWP.condD (x := .tmp 20) (p := (↑bound.length : Int) > 1024) (by kernel_rfl) (by kernel_rfl) (fun h3 => ?_) (fun h3 => ?_)
 ·have e : openE key bound box = 8 := by unfold openE; rw [if_neg (by omega), if_pos (by omega)]
  refine AWP.regsKX 1 [{}] (by kernel_rfl) (C := []) (by kernel_rfl) trivial ?_
  refine AWP.ret (by kernel_rfl) ?_
  refine then_r ?_
  refine Done.ret_ (C := [bytesA (openD key bound box) = [], Value.int .i64 8 = Value.int .i64 (openE key bound box)]) (by kernel_rfl) ⟨(by rw [openD, e]; rfl), (by rw [e]), trivial⟩
 have ht : (box.take 8).length = 8 := by rw [List.length_take]; omega
 have hh : (openH box).length = box.length - 16 := by unfold openH; rw [List.length_take, List.length_drop]; omega
 have hsl : AV.sl 1 (((bytesA box).drop 8).take (box.length - 8 - 8)) = AV.sl 1 (bytesA (openH box)) := by rw [bytesA_drop, bytesA_take]; rfl
 have hbl : (box.drop (box.length - 8)).length = 8 := by rw [List.length_drop]; omega
 have hN : wordOf (box.take 8) = openN box := rfl
 have hq : wordOf (box.drop (box.length - 8)) = tagW key (openN box) bound (openH box) ↔ box.drop (box.length - 8) = tagB key (openN box) bound (openH box) := wordOf_eq hbl _
 refine AWP.skip (by kernel_rfl) ?_
 refine then_n ?_
 refine AWP.regsPX 1 [{ hs := [(1, { av := some (AV.sl 1 (bytesA (List.take 8 box))), m := 8 }), (2, { av := some (aw (wordOf (List.take 8 box))) }), (5, { k := box.length }), (6, { av := some (ai ((↑box.length : Int) - 8)) }), (7, { av := some (AV.sl 1 (bytesA (openH box))), k := 8, m := box.length - (8 : Nat) })], T := 9 }] [.keep [9, 8, 20, 12, 7, 6, 0, 1, 2] []] (by kernel_rfl) (C := [AV.sl 1 (List.take 8 (bytesA box)) = AV.sl 1 (bytesA (List.take 8 box)), (8 : Int) = (↑(8 : Nat) : Int), (8 : Nat) ≤ (bytesA box).length, Ret Tryd.prog (59 : Nat) [AV.sl 1 (bytesA (List.take 8 box))] (aw (wordOf (List.take 8 box))), (bytesA box).length = box.length, ai (IntKind.i64.wrap ((↑box.length : Int) - 8)) = ai ((↑box.length : Int) - 8), AV.sl 1 (List.take (box.length - (8 : Nat) - (8 : Nat)) (List.drop 8 (bytesA box))) = AV.sl 1 (bytesA (openH box)), (8 : Int) = (↑(8 : Nat) : Int), (↑box.length : Int) - 8 = (↑(box.length - (8 : Nat)) : Int), (8 : Nat) ≤ box.length - (8 : Nat), box.length - (8 : Nat) ≤ (bytesA box).length]) (by kernel_rfl) ⟨(congrArg (AV.sl 1) (bytesA_take _ _)), rfl, (by simp only [bytesA_len]; omega), (refword_ret (List.take 8 box) (by assumption)), (bytesA_len _), (av_i64 (by omega) (by omega)), hsl, rfl, (by omega), (by omega), (by simp only [bytesA_len]; omega), trivial⟩ ?_
 refine AWP.seq (by kernel_rfl) ?_
 refine AWP.regsPX 1 [{ hs := [(2, { k := box.length }), (3, { av := some (ai ((↑box.length : Int) - 8)) }), (4, { av := some (AV.sl 1 (bytesA (List.drop (box.length - (8 : Nat)) box))), k := box.length - (8 : Nat) }), (5, { av := some (aw (wordOf (List.drop (box.length - (8 : Nat)) box))) }), (10, { av := some (aw (tagW key (wordOf (List.take 8 box)) bound (openH box))) }), (11, { av := some (ao (wordOf (List.drop (box.length - (8 : Nat)) box) != tagW key (wordOf (List.take 8 box)) bound (openH box))) })] }] [.keep [40, 9, 8, 20, 12, 7, 6, 0, 1, 2] []] (by kernel_rfl) (C := [(bytesA box).length = box.length, ai (IntKind.i64.wrap ((↑box.length : Int) - 8)) = ai ((↑box.length : Int) - 8), AV.sl 1 (List.drop (box.length - (8 : Nat)) (bytesA box)) = AV.sl 1 (bytesA (List.drop (box.length - (8 : Nat)) box)), (↑box.length : Int) - 8 = (↑(box.length - (8 : Nat)) : Int), box.length - (8 : Nat) ≤ (bytesA box).length, Ret Tryd.prog (59 : Nat) [AV.sl 1 (bytesA (List.drop (box.length - (8 : Nat)) box))] (aw (wordOf (List.drop (box.length - (8 : Nat)) box))), Ret Tryd.prog (50 : Nat) [aw key, aw (wordOf (List.take 8 box)), AV.sl 1 (bytesA bound), AV.sl 1 (bytesA (openH box))] (aw (tagW key (wordOf (List.take 8 box)) bound (openH box))), ao (wv (wordOf (List.drop (box.length - (8 : Nat)) box)) != wv (tagW key (wordOf (List.take 8 box)) bound (openH box))) = ao (wordOf (List.drop (box.length - (8 : Nat)) box) != tagW key (wordOf (List.take 8 box)) bound (openH box))]) (by kernel_rfl) ⟨(bytesA_len _), (av_i64 (by omega) (by omega)), (congrArg (AV.sl 1) (bytesA_drop _ _)), (by omega), (by simp only [bytesA_len]; omega), (refword_ret (List.drop (box.length - (8 : Nat)) box) (by assumption)), (reftag_ret (key) (wordOf (List.take 8 box)) (bound) (openH box) (by omega) (by omega)), (avw_ne (wordOf (List.drop (box.length - (8 : Nat)) box)) (tagW key (wordOf (List.take 8 box)) bound (openH box))), trivial⟩ ?_
 refine AWP.condN (x := .tmp 40) (u := wordOf (List.drop (box.length - (8 : Nat)) box)) (v := tagW key (wordOf (List.take 8 box)) bound (openH box)) (by kernel_rfl) (by kernel_rfl) (fun h5 => ?_) (fun h5 => ?_)
 ·have e : openE key bound box = 14 := by unfold openE; rw [if_neg (by omega), if_neg (by omega), if_neg (fun h => h5 (hq.2 (h.trans rfl)))]
  refine AWP.regsKX 1 [{}] (by kernel_rfl) (C := []) (by kernel_rfl) trivial ?_
  refine AWP.ret (by kernel_rfl) ?_
  refine then_r ?_
  refine Done.ret_ (C := [bytesA (openD key bound box) = [], Value.int .i64 14 = Value.int .i64 (openE key bound box)]) (by kernel_rfl) ⟨(by rw [openD, e]; rfl), (by rw [e]), trivial⟩
 ·have e : openE key bound box = 0 := by unfold openE; rw [if_neg (by omega), if_neg (by omega), if_pos ((hq.1 h5).trans rfl)]
  refine AWP.skip (by kernel_rfl) ?_
  refine then_n ?_
  refine AWP.regsPX 1 [{ hs := [(3, { av := some (AV.own 1 (bytesA (mixL key (wordOf (List.take 8 box)) (openH box)))) })] }] [.keep [7, 6, 40, 9, 8, 20, 12, 0, 1, 2] [44]] (by kernel_rfl) (C := [Ret Tryd.prog (49 : Nat) [aw key, aw (wordOf (List.take 8 box)), AV.sl 1 (bytesA (openH box))] (AV.own 1 (bytesA (mixL key (wordOf (List.take 8 box)) (openH box)))), valR (bytesA (mixL key (wordOf (List.take 8 box)) (openH box)))]) (by kernel_rfl) ⟨(refmix_ret (key) (wordOf (List.take 8 box)) (openH box) (by omega)), (valR_bytes _), trivial⟩ ?_
  refine AWP.ret (by kernel_rfl) ?_
  refine Done.ret_ (C := [bytesA (mixL key (wordOf (List.take 8 box)) (openH box)) = bytesA (openD key bound box), Value.int .i64 0 = Value.int .i64 (openE key bound box)]) (by kernel_rfl) ⟨(by rw [openD, if_pos e]; rfl), (by rw [e]), trivial⟩
end Go.Proofs.YtejpabdmiagnnaaDoor
