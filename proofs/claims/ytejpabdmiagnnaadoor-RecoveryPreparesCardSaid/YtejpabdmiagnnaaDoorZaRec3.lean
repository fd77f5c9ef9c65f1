import Derived.Test.YtejpabdmiagnnaaDoorZaV8
import Derived.Test.YtejpabdmiagnnaaDoorZaRec1
import Derived.Test.YtejpabdmiagnnaaDoorZaSlN
import Derived.Test.YtejpabdmiagnnaaDoorZaEx3
import Derived.Test.YtejpabdmiagnnaaDoorZaSh6
import Derived.Test.YtejpabdmiagnnaaDoorZaRN
set_option linter.all false
namespace Go.Proofs.YtejpabdmiagnnaaDoor
open Go.RowKit
set_option maxRecDepth 100000
set_option maxHeartbeats 4000000
set_option linter.unusedVariables false
def rslE (d : Dep) (s n : UInt64) : Int := if shE d.peer ≠ 0 then shE d.peer else if openE (shK s d.peer) [] d.box ≠ 0 then openE (shK s d.peer) [] d.box else if shE d.target ≠ 0 then shE d.target else sealE [] (openD (shK s d.peer) [] d.box)
def rslD (d : Dep) (s n : UInt64) : List UInt8 := if rslE d s n = 0 then sealD (shK s d.target) n [] (openD (shK s d.peer) [] d.box) else []
theorem reseal_ret (d : Dep) (s n : UInt64) : Ret Tryd.prog 29 [.agg (depC d), aw s, aw n] (.tup [.own 1 (bytesA (rslD d s n)), ai (rslE d s n)]) := by
 by_cases h1 : shE d.peer = 0
 case neg =>
  have e1 : rslE d s n = shE d.peer := by unfold rslE; rw [if_pos h1]
  have e2 : rslD d s n = [] := by unfold rslD; rw [if_neg (by omega)]
  refine Ret.of_fn Tryd.func29 (by kernel_rfl) 53 (by kernel_rfl) (by kernel_rfl) ?_
  refine AWP.regsPX 2 [{}, { hs := [(3, { av := some (AV.tup [aw (shK s d.peer), ai (shE d.peer)]) })] }] [.keep [9, 8, 7, 6, 3, 0, 1, 2] [3]] (by kernel_rfl) (C := [Ret Tryd.prog (56 : Nat) [aw s, aw d.peer] (AV.tup [aw (shK s d.peer), ai (shE d.peer)])]) (by kernel_rfl) ⟨(sharedx_ret (s) (d.peer)), trivial⟩ ?_
  refine AWP.seq (by kernel_rfl) ?_
  refine AWP.regsKX 1 [{ hs := [(1, { av := some (ao true) })] }] (by kernel_rfl) (C := [ao (shE d.peer != (0 : Int)) = ao true]) (by kernel_rfl) ⟨(by simp [h1]), trivial⟩ ?_
  refine AWP.condT (x := .tmp 20) (b := true) (by kernel_rfl) (by kernel_rfl) rfl ?_
  refine AWP.regsPX 1 [{}] [.keep [7, 6, 20, 9, 8, 3, 0, 1, 2] [3]] (by kernel_rfl) (C := []) (by kernel_rfl) trivial ?_
  refine AWP.ret (by kernel_rfl) ?_
  refine then_r ?_
  refine Done.ret_ (C := [bytesA (rslD d s n) = [], Value.int .i64 (shE d.peer) = Value.int .i64 (rslE d s n)]) (by kernel_rfl) ⟨(by rw [e2]; rfl), (by rw [e1]), trivial⟩
 by_cases h2 : openE (shK s d.peer) [] d.box = 0
 case neg =>
  have e1 : rslE d s n = openE (shK s d.peer) [] d.box := by unfold rslE; rw [if_neg (by omega), if_pos h2]
  have e2 : rslD d s n = [] := by unfold rslD; rw [if_neg (by omega)]
  refine Ret.of_fn Tryd.func29 (by kernel_rfl) 53 (by kernel_rfl) (by kernel_rfl) ?_
  refine AWP.regsPX 2 [{}, { hs := [(3, { av := some (AV.tup [aw (shK s d.peer), ai (shE d.peer)]) })] }] [.keep [9, 8, 7, 6, 3, 0, 1, 2] [3]] (by kernel_rfl) (C := [Ret Tryd.prog (56 : Nat) [aw s, aw d.peer] (AV.tup [aw (shK s d.peer), ai (shE d.peer)])]) (by kernel_rfl) ⟨(sharedx_ret (s) (d.peer)), trivial⟩ ?_
  refine AWP.seq (by kernel_rfl) ?_
  refine AWP.regsKX 1 [{ hs := [(1, { av := some (ao false) })] }] (by kernel_rfl) (C := [ao (shE d.peer != (0 : Int)) = ao false]) (by kernel_rfl) ⟨(by simp [h1]), trivial⟩ ?_
  refine AWP.condF (x := .tmp 20) (b := false) (by kernel_rfl) (by kernel_rfl) rfl ?_
  refine AWP.skip (by kernel_rfl) ?_
  refine then_n ?_
  refine AWP.regsPX 1 [{ hs := [(3, { av := some (AV.tup [AV.own 1 (bytesA (openD (shK s d.peer) [] d.box)), ai (openE (shK s d.peer) [] d.box)]) })] }] [.keep [9, 10, 20, 8, 7, 6, 3, 0, 1, 2] [1026, 3]] (by kernel_rfl) (C := [Ret Tryd.prog (57 : Nat) [aw (shK s d.peer), AV.nil, AV.sl 1 (bytesA d.box)] (AV.tup [AV.own 1 (bytesA (openD (shK s d.peer) [] d.box)), ai (openE (shK s d.peer) [] d.box)]), valR (bytesA (openD (shK s d.peer) [] d.box))]) (by kernel_rfl) ⟨(openN_ret (shK s d.peer) (d.box)), (valR_bytes _), trivial⟩ ?_
  refine AWP.seq (by kernel_rfl) ?_
  refine AWP.regsPX 1 [{ hs := [(1, { av := some (ao true) })] }] [.keep [30, 9, 10, 20, 8, 7, 6, 3, 0, 1, 2] [1026, 3]] (by kernel_rfl) (C := [ao (openE (shK s d.peer) [] d.box != (0 : Int)) = ao true]) (by kernel_rfl) ⟨(by simp [h2]), trivial⟩ ?_
  refine AWP.condT (x := .tmp 30) (b := true) (by kernel_rfl) (by kernel_rfl) rfl ?_
  refine AWP.regsPX 1 [{}] [.keep [7, 6, 30, 9, 10, 20, 8, 3, 0, 1, 2] [1026, 3]] (by kernel_rfl) (C := []) (by kernel_rfl) trivial ?_
  refine AWP.ret (by kernel_rfl) ?_
  refine then_r ?_
  refine Done.ret_ (C := [bytesA (rslD d s n) = [], Value.int .i64 (openE (shK s d.peer) [] d.box) = Value.int .i64 (rslE d s n)]) (by kernel_rfl) ⟨(by rw [e2]; rfl), (by rw [e1]), trivial⟩
 by_cases h3 : shE d.target = 0
 case neg =>
  have e1 : rslE d s n = shE d.target := by unfold rslE; rw [if_neg (by omega), if_neg (by omega), if_pos h3]
  have e2 : rslD d s n = [] := by unfold rslD; rw [if_neg (by omega)]
  refine Ret.of_fn Tryd.func29 (by kernel_rfl) 53 (by kernel_rfl) (by kernel_rfl) ?_
  refine AWP.regsPX 2 [{}, { hs := [(3, { av := some (AV.tup [aw (shK s d.peer), ai (shE d.peer)]) })] }] [.keep [9, 8, 7, 6, 3, 0, 1, 2] [3]] (by kernel_rfl) (C := [Ret Tryd.prog (56 : Nat) [aw s, aw d.peer] (AV.tup [aw (shK s d.peer), ai (shE d.peer)])]) (by kernel_rfl) ⟨(sharedx_ret (s) (d.peer)), trivial⟩ ?_
  refine AWP.seq (by kernel_rfl) ?_
  refine AWP.regsKX 1 [{ hs := [(1, { av := some (ao false) })] }] (by kernel_rfl) (C := [ao (shE d.peer != (0 : Int)) = ao false]) (by kernel_rfl) ⟨(by simp [h1]), trivial⟩ ?_
  refine AWP.condF (x := .tmp 20) (b := false) (by kernel_rfl) (by kernel_rfl) rfl ?_
  refine AWP.skip (by kernel_rfl) ?_
  refine then_n ?_
  refine AWP.regsPX 1 [{ hs := [(3, { av := some (AV.tup [AV.own 1 (bytesA (openD (shK s d.peer) [] d.box)), ai (openE (shK s d.peer) [] d.box)]) })] }] [.keep [9, 10, 20, 8, 7, 6, 3, 0, 1, 2] [1026, 3]] (by kernel_rfl) (C := [Ret Tryd.prog (57 : Nat) [aw (shK s d.peer), AV.nil, AV.sl 1 (bytesA d.box)] (AV.tup [AV.own 1 (bytesA (openD (shK s d.peer) [] d.box)), ai (openE (shK s d.peer) [] d.box)]), valR (bytesA (openD (shK s d.peer) [] d.box))]) (by kernel_rfl) ⟨(openN_ret (shK s d.peer) (d.box)), (valR_bytes _), trivial⟩ ?_
  refine AWP.seq (by kernel_rfl) ?_
  refine AWP.regsPX 1 [{ hs := [(1, { av := some (ao false) })] }] [.keep [30, 9, 10, 20, 8, 7, 6, 3, 0, 1, 2] [1026, 3]] (by kernel_rfl) (C := [ao (openE (shK s d.peer) [] d.box != (0 : Int)) = ao false]) (by kernel_rfl) ⟨(by simp [h2]), trivial⟩ ?_
  refine AWP.condF (x := .tmp 30) (b := false) (by kernel_rfl) (by kernel_rfl) rfl ?_
  refine AWP.skip (by kernel_rfl) ?_
  refine then_n ?_
  refine AWP.regsPX 1 [{ hs := [(3, { av := some (AV.tup [aw (shK s d.target), ai (shE d.target)]) })] }] [.keep [9, 8, 30, 10, 20, 7, 6, 3, 0, 1, 2] [1026, 3]] (by kernel_rfl) (C := [Ret Tryd.prog (56 : Nat) [aw s, aw d.target] (AV.tup [aw (shK s d.target), ai (shE d.target)])]) (by kernel_rfl) ⟨(sharedx_ret (s) (d.target)), trivial⟩ ?_
  refine AWP.seq (by kernel_rfl) ?_
  refine AWP.regsKX 1 [{ hs := [(1, { av := some (ao true) })] }] (by kernel_rfl) (C := [ao (shE d.target != (0 : Int)) = ao true]) (by kernel_rfl) ⟨(by simp [h3]), trivial⟩ ?_
  refine AWP.condT (x := .tmp 40) (b := true) (by kernel_rfl) (by kernel_rfl) rfl ?_
  refine AWP.regsPX 1 [{}] [.keep [7, 6, 40, 9, 8, 30, 10, 20, 3, 0, 1, 2] [1026, 3]] (by kernel_rfl) (C := []) (by kernel_rfl) trivial ?_
  refine AWP.ret (by kernel_rfl) ?_
  refine then_r ?_
  refine Done.ret_ (C := [bytesA (rslD d s n) = [], Value.int .i64 (shE d.target) = Value.int .i64 (rslE d s n)]) (by kernel_rfl) ⟨(by rw [e2]; rfl), (by rw [e1]), trivial⟩
 have e1 : rslE d s n = sealE [] (openD (shK s d.peer) [] d.box) := by unfold rslE; rw [if_neg (by omega), if_neg (by omega), if_neg (by omega)]
 by_cases h4 : sealE [] (openD (shK s d.peer) [] d.box) = 0
 case neg =>
  have e2 : rslD d s n = [] := by unfold rslD; rw [if_neg (by omega)]
  refine Ret.of_fn Tryd.func29 (by kernel_rfl) 53 (by kernel_rfl) (by kernel_rfl) ?_
  refine AWP.regsPX 2 [{}, { hs := [(3, { av := some (AV.tup [aw (shK s d.peer), ai (shE d.peer)]) })] }] [.keep [9, 8, 7, 6, 3, 0, 1, 2] [3]] (by kernel_rfl) (C := [Ret Tryd.prog (56 : Nat) [aw s, aw d.peer] (AV.tup [aw (shK s d.peer), ai (shE d.peer)])]) (by kernel_rfl) ⟨(sharedx_ret (s) (d.peer)), trivial⟩ ?_
  refine AWP.seq (by kernel_rfl) ?_
  refine AWP.regsKX 1 [{ hs := [(1, { av := some (ao false) })] }] (by kernel_rfl) (C := [ao (shE d.peer != (0 : Int)) = ao false]) (by kernel_rfl) ⟨(by simp [h1]), trivial⟩ ?_
  refine AWP.condF (x := .tmp 20) (b := false) (by kernel_rfl) (by kernel_rfl) rfl ?_
  refine AWP.skip (by kernel_rfl) ?_
  refine then_n ?_
  refine AWP.regsPX 1 [{ hs := [(3, { av := some (AV.tup [AV.own 1 (bytesA (openD (shK s d.peer) [] d.box)), ai (openE (shK s d.peer) [] d.box)]) })] }] [.keep [9, 10, 20, 8, 7, 6, 3, 0, 1, 2] [1026, 3]] (by kernel_rfl) (C := [Ret Tryd.prog (57 : Nat) [aw (shK s d.peer), AV.nil, AV.sl 1 (bytesA d.box)] (AV.tup [AV.own 1 (bytesA (openD (shK s d.peer) [] d.box)), ai (openE (shK s d.peer) [] d.box)]), valR (bytesA (openD (shK s d.peer) [] d.box))]) (by kernel_rfl) ⟨(openN_ret (shK s d.peer) (d.box)), (valR_bytes _), trivial⟩ ?_
  refine AWP.seq (by kernel_rfl) ?_
  refine AWP.regsPX 1 [{ hs := [(1, { av := some (ao false) })] }] [.keep [30, 9, 10, 20, 8, 7, 6, 3, 0, 1, 2] [1026, 3]] (by kernel_rfl) (C := [ao (openE (shK s d.peer) [] d.box != (0 : Int)) = ao false]) (by kernel_rfl) ⟨(by simp [h2]), trivial⟩ ?_
  refine AWP.condF (x := .tmp 30) (b := false) (by kernel_rfl) (by kernel_rfl) rfl ?_
  refine AWP.skip (by kernel_rfl) ?_
  refine then_n ?_
  refine AWP.regsPX 1 [{ hs := [(3, { av := some (AV.tup [aw (shK s d.target), ai (shE d.target)]) })] }] [.keep [9, 8, 30, 10, 20, 7, 6, 3, 0, 1, 2] [1026, 3]] (by kernel_rfl) (C := [Ret Tryd.prog (56 : Nat) [aw s, aw d.target] (AV.tup [aw (shK s d.target), ai (shE d.target)])]) (by kernel_rfl) ⟨(sharedx_ret (s) (d.target)), trivial⟩ ?_
  refine AWP.seq (by kernel_rfl) ?_
  refine AWP.regsKX 1 [{ hs := [(1, { av := some (ao false) })] }] (by kernel_rfl) (C := [ao (shE d.target != (0 : Int)) = ao false]) (by kernel_rfl) ⟨(by simp [h3]), trivial⟩ ?_
  refine AWP.condF (x := .tmp 40) (b := false) (by kernel_rfl) (by kernel_rfl) rfl ?_
  refine AWP.skip (by kernel_rfl) ?_
  refine then_n ?_
  refine AWP.regsPX 1 [{ hs := [(3, { av := some (AV.tup [AV.own 1 (bytesA (sealD (shK s d.target) n [] (openD (shK s d.peer) [] d.box))), ai (sealE [] (openD (shK s d.peer) [] d.box))]) })] }] [.keep [9, 11, 40, 8, 30, 10, 20, 7, 6, 3, 0, 1, 2] [1046, 1026, 3]] (by kernel_rfl) (C := [Ret Tryd.prog (58 : Nat) [aw (shK s d.target), aw n, AV.nil, AV.sl 1 (bytesA (openD (shK s d.peer) [] d.box))] (AV.tup [AV.own 1 (bytesA (sealD (shK s d.target) n [] (openD (shK s d.peer) [] d.box))), ai (sealE [] (openD (shK s d.peer) [] d.box))]), valR (bytesA (sealD (shK s d.target) n [] (openD (shK s d.peer) [] d.box)))]) (by kernel_rfl) ⟨(sealN_ret (shK s d.target) (n) (openD (shK s d.peer) [] d.box)), (valR_bytes _), trivial⟩ ?_
  refine AWP.seq (by kernel_rfl) ?_
  refine AWP.regsPX 1 [{ hs := [(1, { av := some (ao true) })] }] [.keep [50, 9, 11, 40, 8, 30, 10, 20, 7, 6, 3, 0, 1, 2] [1046, 1026, 3]] (by kernel_rfl) (C := [ao (sealE [] (openD (shK s d.peer) [] d.box) != (0 : Int)) = ao true]) (by kernel_rfl) ⟨(by simp [h4]), trivial⟩ ?_
  refine AWP.condT (x := .tmp 50) (b := true) (by kernel_rfl) (by kernel_rfl) rfl ?_
  refine AWP.regsPX 1 [{}] [.keep [7, 6, 50, 9, 11, 40, 8, 30, 10, 20, 3, 0, 1, 2] [1046, 1026, 3]] (by kernel_rfl) (C := []) (by kernel_rfl) trivial ?_
  refine AWP.ret (by kernel_rfl) ?_
  refine then_r ?_
  refine Done.ret_ (C := [bytesA (rslD d s n) = [], Value.int .i64 (sealE [] (openD (shK s d.peer) [] d.box)) = Value.int .i64 (rslE d s n)]) (by kernel_rfl) ⟨(by rw [e2]; rfl), (by rw [e1]), trivial⟩
 have e2 : rslD d s n = sealD (shK s d.target) n [] (openD (shK s d.peer) [] d.box) := by unfold rslD; rw [if_pos (by omega)]
 refine Ret.of_fn Tryd.func29 (by kernel_rfl) 53 (by kernel_rfl) (by kernel_rfl) ?_
 refine AWP.regsPX 2 [{}, { hs := [(3, { av := some (AV.tup [aw (shK s d.peer), ai (shE d.peer)]) })] }] [.keep [9, 8, 7, 6, 3, 0, 1, 2] [3]] (by kernel_rfl) (C := [Ret Tryd.prog (56 : Nat) [aw s, aw d.peer] (AV.tup [aw (shK s d.peer), ai (shE d.peer)])]) (by kernel_rfl) ⟨(sharedx_ret (s) (d.peer)), trivial⟩ ?_
 refine AWP.seq (by kernel_rfl) ?_
 refine AWP.regsKX 1 [{ hs := [(1, { av := some (ao false) })] }] (by kernel_rfl) (C := [ao (shE d.peer != (0 : Int)) = ao false]) (by kernel_rfl) ⟨(by simp [h1]), trivial⟩ ?_
 refine AWP.condF (x := .tmp 20) (b := false) (by kernel_rfl) (by kernel_rfl) rfl ?_
 refine AWP.skip (by kernel_rfl) ?_
 refine then_n ?_
 refine AWP.regsPX 1 [{ hs := [(3, { av := some (AV.tup [AV.own 1 (bytesA (openD (shK s d.peer) [] d.box)), ai (openE (shK s d.peer) [] d.box)]) })] }] [.keep [9, 10, 20, 8, 7, 6, 3, 0, 1, 2] [1026, 3]] (by kernel_rfl) (C := [Ret Tryd.prog (57 : Nat) [aw (shK s d.peer), AV.nil, AV.sl 1 (bytesA d.box)] (AV.tup [AV.own 1 (bytesA (openD (shK s d.peer) [] d.box)), ai (openE (shK s d.peer) [] d.box)]), valR (bytesA (openD (shK s d.peer) [] d.box))]) (by kernel_rfl) ⟨(openN_ret (shK s d.peer) (d.box)), (valR_bytes _), trivial⟩ ?_
 refine AWP.seq (by kernel_rfl) ?_
 refine AWP.regsPX 1 [{ hs := [(1, { av := some (ao false) })] }] [.keep [30, 9, 10, 20, 8, 7, 6, 3, 0, 1, 2] [1026, 3]] (by kernel_rfl) (C := [ao (openE (shK s d.peer) [] d.box != (0 : Int)) = ao false]) (by kernel_rfl) ⟨(by simp [h2]), trivial⟩ ?_
 refine AWP.condF (x := .tmp 30) (b := false) (by kernel_rfl) (by kernel_rfl) rfl ?_
 refine AWP.skip (by kernel_rfl) ?_
 refine then_n ?_
 refine AWP.regsPX 1 [{ hs := [(3, { av := some (AV.tup [aw (shK s d.target), ai (shE d.target)]) })] }] [.keep [9, 8, 30, 10, 20, 7, 6, 3, 0, 1, 2] [1026, 3]] (by kernel_rfl) (C := [Ret Tryd.prog (56 : Nat) [aw s, aw d.target] (AV.tup [aw (shK s d.target), ai (shE d.target)])]) (by kernel_rfl) ⟨(sharedx_ret (s) (d.target)), trivial⟩ ?_
 refine AWP.seq (by kernel_rfl) ?_
 refine AWP.regsKX 1 [{ hs := [(1, { av := some (ao false) })] }] (by kernel_rfl) (C := [ao (shE d.target != (0 : Int)) = ao false]) (by kernel_rfl) ⟨(by simp [h3]), trivial⟩ ?_
 refine AWP.condF (x := .tmp 40) (b := false) (by kernel_rfl) (by kernel_rfl) rfl ?_
 refine AWP.skip (by kernel_rfl) ?_
 refine then_n ?_
 refine AWP.regsPX 1 [{ hs := [(3, { av := some (AV.tup [AV.own 1 (bytesA (sealD (shK s d.target) n [] (openD (shK s d.peer) [] d.box))), ai (sealE [] (openD (shK s d.peer) [] d.box))]) })] }] [.keep [9, 11, 40, 8, 30, 10, 20, 7, 6, 3, 0, 1, 2] [1046, 1026, 3]] (by kernel_rfl) (C := [Ret Tryd.prog (58 : Nat) [aw (shK s d.target), aw n, AV.nil, AV.sl 1 (bytesA (openD (shK s d.peer) [] d.box))] (AV.tup [AV.own 1 (bytesA (sealD (shK s d.target) n [] (openD (shK s d.peer) [] d.box))), ai (sealE [] (openD (shK s d.peer) [] d.box))]), valR (bytesA (sealD (shK s d.target) n [] (openD (shK s d.peer) [] d.box)))]) (by kernel_rfl) ⟨(sealN_ret (shK s d.target) (n) (openD (shK s d.peer) [] d.box)), (valR_bytes _), trivial⟩ ?_
 refine AWP.seq (by kernel_rfl) ?_
 refine AWP.regsPX 1 [{ hs := [(1, { av := some (ao false) })] }] [.keep [50, 9, 11, 40, 8, 30, 10, 20, 7, 6, 3, 0, 1, 2] [1046, 1026, 3]] (by kernel_rfl) (C := [ao (sealE [] (openD (shK s d.peer) [] d.box) != (0 : Int)) = ao false]) (by kernel_rfl) ⟨(by simp [h4]), trivial⟩ ?_
 refine AWP.condF (x := .tmp 50) (b := false) (by kernel_rfl) (by kernel_rfl) rfl ?_
 refine AWP.skip (by kernel_rfl) ?_
 refine then_n ?_
 refine AWP.regsKX 1 [{}] (by kernel_rfl) (C := []) (by kernel_rfl) trivial ?_
 refine AWP.ret (by kernel_rfl) ?_
 refine Done.ret_ (C := [bytesA (sealD (shK s d.target) n [] (openD (shK s d.peer) [] d.box)) = bytesA (rslD d s n), Value.int .i64 0 = Value.int .i64 (rslE d s n)]) (by kernel_rfl) ⟨(by rw [e2]), (by rw [e1, h4]), trivial⟩
def bysC (r : List UInt8) : List AV := [.sl 1 (bytesA r)]
theorem bys_at {l : List (List UInt8)} {i : Nat} (h : i < l.length) : (encA bysC l)[i]? = some (.sl 1 (bytesA (l.getD i default))) := by
 have := encA_at (f := bysC) (e := 1) (l := l) (k := i) (j := 0) (fun _ => rfl) h (c := .sl 1 (bytesA (l.getD i default))) rfl
 simpa using this
section
variable (d : Dep) (hs shs : List (List UInt8))
def pts (i : Nat) : List Sh := (List.range i).map fun k => (idxS d.holders (hs.getD k default) + 1, shs.getD k default)
theorem pts_len (i : Nat) : (pts d hs shs i).length = i := by simp [pts]
theorem pts_snoc (i : Nat) : encA shareC (pts d hs shs i) ++ [ai (idxS d.holders (hs.getD i default) + 1), .sl 1 (bytesA (shs.getD i default))] = encA shareC (pts d hs shs (i + 1)) := by
 have : pts d hs shs (i + 1) = pts d hs shs i ++ [(idxS d.holders (hs.getD i default) + 1, shs.getD i default)] := by simp [pts, List.range_succ]
 rw [this, ← encA_app]; rfl
def lpE (k : Nat) : Int := if chkD d (hs.getD k default) (shs.getD k default) ≠ 0 then chkD d (hs.getD k default) (shs.getD k default) else if hs.getD k default ∈ hs.take k then 10 else 0
def lpF : Nat -> Int
 | 0 => 0
 | n + 1 => if lpF n ≠ 0 then lpF n else lpE d hs shs n
theorem lpF_stay {m : Nat} {e : Int} (he : e ≠ 0) (h : lpF d hs shs m = e) : ∀ n, m ≤ n -> lpF d hs shs n = e
 | 0, hn => by
  have : m = 0 := by omega
  subst this; exact h
 | n + 1, hn => by
  by_cases hm : m = n + 1
  ·subst hm; exact h
  ·have := lpF_stay he h n (by omega)
   unfold lpF
   rw [this, if_pos he]
end
def rstE (g : Grp) (p : UInt64) (hs shs : List (List UInt8)) (n : UInt64) : Int :=
 if retE g.deps p ≠ 0 then retE g.deps p else if shs.length ≠ hs.length then 4 else if lpF (retD g.deps p) hs shs hs.length ≠ 0 then lpF (retD g.deps p) hs shs hs.length
 else if (hs.length : Int) < (retD g.deps p).need then 41 else if atE (pts (retD g.deps p) hs shs hs.length) 0 ≠ 0 ∨ (atD (pts (retD g.deps p) hs shs hs.length) 0).length ≠ 8 then 4
 else if pubW (wordOf (atD (pts (retD g.deps p) hs shs hs.length) 0)) ≠ p then 15 else rslE (retD g.deps p) (wordOf (atD (pts (retD g.deps p) hs shs hs.length) 0)) n
def rstD (g : Grp) (p : UInt64) (hs shs : List (List UInt8)) (n : UInt64) : List UInt8 := if rstE g p hs shs n = 0 then rslD (retD g.deps p) (wordOf (atD (pts (retD g.deps p) hs shs hs.length) 0)) n else []
theorem restore_ret (g : Grp) (p : UInt64) (hs shs : List (List UInt8)) (n : UInt64) (hg : g.deps.length ≤ 1000000) (hH : (retD g.deps p).holders.length ≤ 1000000) (hl : hs.length ≤ 1000000) (hh : ∀ i, i < hs.length -> (hs.getD i default).length ≤ 1000) (hsh : ∀ i, i < shs.length -> (shs.getD i default).length ≤ 1000) : Ret Tryd.prog 12 [.agg (grpC g), aw p, .sl 1 (encA strC hs), .sl 1 (encA bysC shs), aw n] (.tup [.own 1 (bytesA (rstD g p hs shs n)), ai (rstE g p hs shs n)]) := by
 have hll : (encA strC hs).length = hs.length := by rw [encA_len (e := 1) (fun _ => rfl)]; omega
 have hls : (encA bysC shs).length = shs.length := by rw [encA_len (e := 1) (fun _ => rfl)]; omega
 by_cases h1 : retE g.deps p = 0
 case neg =>
  have e1 : rstE g p hs shs n = retE g.deps p := by unfold rstE; rw [if_pos h1]
  have e2 : rstD g p hs shs n = [] := by unfold rstD; rw [if_neg (by omega)]
  refine Ret.of_fn Tryd.func12 (by kernel_rfl) 116 (by kernel_rfl) (by kernel_rfl) ?_
  refine AWP.regsPX 2 [{}, { hs := [(2, { av := some (AV.tup [AV.agg [aw ((retD g.deps p).pub), aw ((retD g.deps p).peer), AV.sl 1 (bytesA (retD g.deps p).box), AV.sl 1 (encA strC (retD g.deps p).holders), AV.sl 1 (wordsA (retD g.deps p).digests), ai ((retD g.deps p).need), aw ((retD g.deps p).target)], ai (retE g.deps p)]), b := false })] }] [.keep [13, 12, 11, 10, 5, 0, 1, 2, 3, 4] [12, 5]] (by kernel_rfl) (C := [Ret Tryd.prog (20 : Nat) [AV.agg [ai g.epoch, aw g.head, ai g.thr, AV.sl 4 (encA memC g.mems), AV.sl 7 (encA depC g.deps)], aw p] (AV.tup [AV.agg [aw ((retD g.deps p).pub), aw ((retD g.deps p).peer), AV.sl 1 (bytesA (retD g.deps p).box), AV.sl 1 (encA strC (retD g.deps p).holders), AV.sl 1 (wordsA (retD g.deps p).digests), ai ((retD g.deps p).need), aw ((retD g.deps p).target)], ai (retE g.deps p)]), (7 : Nat) ≤ (7 : Nat)]) (by kernel_rfl) ⟨(returned_ret (g) (p) (by assumption)), (by simp [h1]), trivial⟩ ?_
  refine AWP.seq (by kernel_rfl) ?_
  refine AWP.regsKX 1 [{ hs := [(1, { av := some (ao true) })] }] (by kernel_rfl) (C := [ao (retE g.deps p != (0 : Int)) = ao true]) (by kernel_rfl) ⟨(by simp [h1]), trivial⟩ ?_
  refine AWP.condT (x := .tmp 30) (b := true) (by kernel_rfl) (by kernel_rfl) rfl ?_
  refine AWP.regsPX 1 [{}] [.keep [11, 10, 30, 13, 12, 5, 0, 1, 2, 3, 4] [12, 5]] (by kernel_rfl) (C := []) (by kernel_rfl) trivial ?_
  refine AWP.ret (by kernel_rfl) ?_
  refine then_r ?_
  refine Done.ret_ (C := [bytesA (rstD g p hs shs n) = [], Value.int .i64 (retE g.deps p) = Value.int .i64 (rstE g p hs shs n)]) (by kernel_rfl) ⟨(by rw [e2]; rfl), (by rw [e1]), trivial⟩
 by_cases h2 : shs.length = hs.length
 case neg =>
  have e1 : rstE g p hs shs n = 4 := by unfold rstE; rw [if_neg (by omega), if_pos h2]
  have e2 : rstD g p hs shs n = [] := by unfold rstD; rw [if_neg (by omega)]
  refine Ret.of_fn Tryd.func12 (by kernel_rfl) 116 (by kernel_rfl) (by kernel_rfl) ?_
  refine AWP.regsPX 2 [{}, { hs := [(2, { av := some (AV.tup [AV.agg [aw ((retD g.deps p).pub), aw ((retD g.deps p).peer), AV.sl 1 (bytesA (retD g.deps p).box), AV.sl 1 (encA strC (retD g.deps p).holders), AV.sl 1 (wordsA (retD g.deps p).digests), ai ((retD g.deps p).need), aw ((retD g.deps p).target)], ai (retE g.deps p)]), b := false })] }] [.keep [13, 12, 11, 10, 5, 0, 1, 2, 3, 4] [12, 5]] (by kernel_rfl) (C := [Ret Tryd.prog (20 : Nat) [AV.agg [ai g.epoch, aw g.head, ai g.thr, AV.sl 4 (encA memC g.mems), AV.sl 7 (encA depC g.deps)], aw p] (AV.tup [AV.agg [aw ((retD g.deps p).pub), aw ((retD g.deps p).peer), AV.sl 1 (bytesA (retD g.deps p).box), AV.sl 1 (encA strC (retD g.deps p).holders), AV.sl 1 (wordsA (retD g.deps p).digests), ai ((retD g.deps p).need), aw ((retD g.deps p).target)], ai (retE g.deps p)]), (7 : Nat) ≤ (7 : Nat)]) (by kernel_rfl) ⟨(returned_ret (g) (p) (by assumption)), (by simp [h1]), trivial⟩ ?_
  refine AWP.seq (by kernel_rfl) ?_
  refine AWP.regsKX 1 [{ hs := [(1, { av := some (ao false) })] }] (by kernel_rfl) (C := [ao (retE g.deps p != (0 : Int)) = ao false]) (by kernel_rfl) ⟨(by simp [h1]), trivial⟩ ?_
  refine AWP.condF (x := .tmp 30) (b := false) (by kernel_rfl) (by kernel_rfl) rfl ?_
  refine AWP.skip (by kernel_rfl) ?_
  refine then_n ?_
  refine AWP.seq (by kernel_rfl) ?_
  refine AWP.regsPX 1 [{ hs := [(1, { k := (encA bysC shs).length }), (3, { k := (encA strC hs).length }), (4, { av := some (ao true) })] }] [.keep [36, 30, 13, 12, 11, 10, 5, 0, 1, 2, 3, 4] [12, 5]] (by kernel_rfl) (C := [(encA bysC shs).length = (encA bysC shs).length, (encA strC hs).length = (encA strC hs).length, ao ((↑(encA bysC shs).length : Int) != (↑(encA strC hs).length : Int)) = ao true]) (by kernel_rfl) ⟨(by simp [h1]), (by simp [h1]), (by simp; omega), trivial⟩ ?_
  refine AWP.condT (x := .tmp 36) (b := true) (by kernel_rfl) (by kernel_rfl) rfl ?_
  refine AWP.regsKX 1 [{}] (by kernel_rfl) (C := []) (by kernel_rfl) trivial ?_
  refine AWP.ret (by kernel_rfl) ?_
  refine then_r ?_
  refine Done.ret_ (C := [bytesA (rstD g p hs shs n) = [], Value.int .i64 4 = Value.int .i64 (rstE g p hs shs n)]) (by kernel_rfl) ⟨(by rw [e2]; rfl), (by rw [e1]), trivial⟩
 refine Ret.of_fn Tryd.func12 (by kernel_rfl) 116 (by kernel_rfl) (by kernel_rfl) ?_
 refine AWP.regsPX 2 [{}, { hs := [(2, { av := some (AV.tup [AV.agg [aw ((retD g.deps p).pub), aw ((retD g.deps p).peer), AV.sl 1 (bytesA (retD g.deps p).box), AV.sl 1 (encA strC (retD g.deps p).holders), AV.sl 1 (wordsA (retD g.deps p).digests), ai ((retD g.deps p).need), aw ((retD g.deps p).target)], ai (retE g.deps p)]), b := false })] }] [.keep [13, 12, 11, 10, 5, 0, 1, 2, 3, 4] [12, 5]] (by kernel_rfl) (C := [Ret Tryd.prog (20 : Nat) [AV.agg [ai g.epoch, aw g.head, ai g.thr, AV.sl 4 (encA memC g.mems), AV.sl 7 (encA depC g.deps)], aw p] (AV.tup [AV.agg [aw ((retD g.deps p).pub), aw ((retD g.deps p).peer), AV.sl 1 (bytesA (retD g.deps p).box), AV.sl 1 (encA strC (retD g.deps p).holders), AV.sl 1 (wordsA (retD g.deps p).digests), ai ((retD g.deps p).need), aw ((retD g.deps p).target)], ai (retE g.deps p)]), (7 : Nat) ≤ (7 : Nat)]) (by kernel_rfl) ⟨(returned_ret (g) (p) (by assumption)), (by simp [h1]), trivial⟩ ?_
 refine AWP.seq (by kernel_rfl) ?_
 refine AWP.regsKX 1 [{ hs := [(1, { av := some (ao false) })] }] (by kernel_rfl) (C := [ao (retE g.deps p != (0 : Int)) = ao false]) (by kernel_rfl) ⟨(by simp [h1]), trivial⟩ ?_
 refine AWP.condF (x := .tmp 30) (b := false) (by kernel_rfl) (by kernel_rfl) rfl ?_
 refine AWP.skip (by kernel_rfl) ?_
 refine then_n ?_
 refine AWP.seq (by kernel_rfl) ?_
 refine AWP.regsPX 1 [{ hs := [(1, { k := (encA bysC shs).length }), (3, { k := (encA strC hs).length }), (4, { av := some (ao false) })] }] [.keep [36, 30, 13, 12, 11, 10, 5, 0, 1, 2, 3, 4] [12, 5]] (by kernel_rfl) (C := [(encA bysC shs).length = (encA bysC shs).length, (encA strC hs).length = (encA strC hs).length, ao ((↑(encA bysC shs).length : Int) != (↑(encA strC hs).length : Int)) = ao false]) (by kernel_rfl) ⟨(by simp [h1]), (by simp [h1]), (by simp; omega), trivial⟩ ?_
 refine AWP.condF (x := .tmp 36) (b := false) (by kernel_rfl) (by kernel_rfl) rfl ?_
 refine AWP.skip (by kernel_rfl) ?_
 refine then_n ?_
 refine AWP.regsP 1 [{ hs := [(1, { k := (encA bysC shs).length }), (2, { k := 0, m := (encA bysC shs).length })] }] [.keep [14, 36, 30, 13, 12, 11, 10, 5, 0, 1, 2, 3, 4] [39, 12, 5]] (by kernel_rfl) (s' := AS.mk [(14, AV.ref 39), (36, ao false), (30, ao false), (13, ai (retE g.deps p)), (12, AV.addr 12 0), (11, ai 0), (10, AV.nil), (5, AV.addr 5 0), (0, AV.agg [ai g.epoch, aw g.head, ai g.thr, AV.sl 4 (encA memC g.mems), AV.sl 7 (encA depC g.deps)]), (1, aw p), (2, AV.sl 1 (encA strC hs)), (3, AV.sl 1 (encA bysC shs)), (4, aw n)] [(39, Row.mk 2 true false (List.replicate (0 : Nat) [ai 0, AV.nil]).flatten), (12, Row.mk 1 false true [aw ((retD g.deps p).pub), aw ((retD g.deps p).peer), AV.sl 1 (bytesA (retD g.deps p).box), AV.sl 1 (encA strC (retD g.deps p).holders), AV.sl 1 (wordsA (retD g.deps p).digests), ai ((retD g.deps p).need), aw ((retD g.deps p).target)]), (5, Row.mk 1 false true (List.map (kill0 (39 : Nat)) (List.map (kill0 (12 : Nat)) (List.map (kill0 (5 : Nat)) (grpC g)))))]) (C := [(encA bysC shs).length = (encA bysC shs).length, (0 : Int) = (↑(0 : Nat) : Int), (↑(encA bysC shs).length : Int) = (↑(encA bysC shs).length : Int), (0 : Nat) ≤ (encA bysC shs).length, (32 : Nat) * (encA bysC shs).length ≤ (281474976710656 : Nat), (encA bysC shs).length ≤ maxLen]) (by kernel_rfl) ⟨(by simp [h1]), (by simp [h1]), (by simp [h1]), (by simp [h1]), (by omega), (by unfold maxLen; omega), trivial⟩ ?_
 refine AWP.mkMap (t := 69) (d := 40) (e := 15) (by kernel_rfl) (by kernel_rfl) (by kernel_rfl) (by kernel_rfl) fun mg => ?_
 generalize hd : retD g.deps p = d at *
 refine AWPm.seq (by kernel_rfl) ?_
 refine AWPm.reg1 (by kernel_rfl) ?_
 refine AWP.regX { hs := [(1, { k := (encA strC hs).length })] } (C := [(encA strC hs).length = (encA strC hs).length]) (by kernel_rfl) ⟨rfl, trivial⟩ ?_
 refine thenM_n ?_
 refine AWPm.block (id := 0) (by kernel_rfl) ?_
 refine AWPm.loop (fun (i : Nat) => (⟨[(14, AV.ref 39), (12, AV.addr 12 0), (11, ai 0), (10, AV.nil), (1, aw p), (2, AV.sl 1 (encA strC hs)), (3, AV.sl 1 (encA bysC shs)), (4, aw n), (15, AV.val (.map (some mg))), (41, AV.sl 1 (encA strC hs)), (42, ai (encA strC hs).length), (43, ai i)], [(39, ⟨2, true, false, encA shareC (pts d hs shs i)⟩), (12, ⟨1, false, true, depC d⟩)]⟩ : AS)) (fun i => hs.take i) (fun i => i ≤ hs.length ∧ lpF d hs shs i = 0) (fun i => hs.length - i) (by kernel_rfl) 0 ⟨by omega, rfl⟩ rfl (Weaks.ofX [.keep [14, 12, 11, 10, 1, 2, 3, 4, 15, 41, 42, 43] [39, 12]] (by kernel_rfl)) ?_
 rintro i ⟨hi, h0⟩
 refine AWPm.reg1 (by kernel_rfl) ?_
 refine AWP.regX {} (C := []) (by kernel_rfl) trivial ?_
 refine thenM_n ?_
 refine AWPm.seq (by kernel_rfl) ?_
 refine AWPm.cond (x := .tmp 44) (b := decide ((i : Int) < (encA strC hs).length)) (by kernel_rfl) (by kernel_rfl) (fun h => ?_) (fun h => ?_)
 ·have h := of_decide_eq_true h
  have hi2 : i < hs.length := by omega
  have hA := hh i hi2
  have hB := hsh i (by omega)
  have hat := strs_at hi2
  have hbt := bys_at (l := shs) (i := i) (by omega)
  refine AWPm.skip (by kernel_rfl) ?_
  refine thenM_n ?_
  refine AWPm.seq (by kernel_rfl) ?_
  refine AWPm.block (id := 1) (by kernel_rfl) ?_
  refine AWPm.reg1 (by kernel_rfl) ?_
  refine AWP.regX { hs := [(1, { k := i }), (2, { av := some (AV.val (Value.string (ByteArray.mk (hs.getD i default).toArray))) })] } (C := [(↑i : Int) = (↑i : Int), i < (encA strC hs).length, (encA strC hs)[i]? = some (AV.val (Value.string (ByteArray.mk (hs.getD i default).toArray)))]) (by kernel_rfl) ⟨rfl, (by omega), (by assumption), trivial⟩ ?_
  refine thenM_n ?_
  refine AWPm.reg1 (by kernel_rfl) ?_
  by_cases hc : chkD d (hs.getD i default) (shs.getD i default) = 0
  case neg =>
   have k1 : lpE d hs shs i = chkD d (hs.getD i default) (shs.getD i default) := by unfold lpE; rw [if_pos hc]
   have k2 : lpF d hs shs (i + 1) = lpE d hs shs i := by show (if _ then _ else _) = _; rw [if_neg (by omega)]
   have k3 := lpF_stay d hs shs (by omega) k2 hs.length (by omega)
   have e1 : rstE g p hs shs n = chkD d (hs.getD i default) (shs.getD i default) := by unfold rstE; rw [if_neg (by omega), if_neg (by omega), hd, if_pos (by omega), k3, k1]
   have e2 : rstD g p hs shs n = [] := by unfold rstD; rw [if_neg (by omega)]
   refine AWP.regsPX 2 [{ hs := [(4, { k := i }), (5, { av := some (AV.sl 1 (bytesA (shs.getD i default))) }), (6, { av := some (ai (chkD d (hs.getD i default) (shs.getD i default))) })], T := 6 }, {}] [.keep [56, 18, 17, 16, 44, 14, 12, 11, 10, 1, 2, 3, 4, 15, 41, 42, 43] [39, 12]] (by kernel_rfl) (C := [(↑i : Int) = (↑i : Int), i < (encA bysC shs).length, (encA bysC shs)[i]? = some (AV.sl 1 (bytesA (shs.getD i default))), Ret Tryd.prog (23 : Nat) [AV.agg [aw d.pub, aw d.peer, AV.sl 1 (bytesA d.box), AV.sl 1 (encA strC d.holders), AV.sl 1 (wordsA d.digests), ai d.need, aw d.target], AV.val (Value.string (ByteArray.mk (hs.getD i default).toArray)), AV.sl 1 (bytesA (shs.getD i default))] (ai (chkD d (hs.getD i default) (shs.getD i default)))]) (by kernel_rfl) ⟨(by simp [hc]), (by omega), (by assumption), (rcheck_ret (d) (hs.getD i default) (shs.getD i default) (by assumption) (by assumption)), trivial⟩ ?_
   refine AWP.condT (x := .tmp 56) (b := chkD d (hs.getD i default) (shs.getD i default) != (0 : Int)) (by kernel_rfl) (by kernel_rfl) (by simp_all) ?_
   refine AWP.regsPX 1 [{}] [.keep [11, 10, 56, 18, 17, 16, 44, 14, 12, 1, 2, 3, 4, 15, 41, 42, 43] [39, 12]] (by kernel_rfl) (C := []) (by kernel_rfl) trivial ?_
   refine AWP.ret (by kernel_rfl) ?_
   refine thenM_r (inbM_r (thenM_r (thenM_r (inbM_r (thenM_r ?_)))))
   refine Done.ret_ (C := [bytesA (rstD g p hs shs n) = [], Value.int .i64 (chkD d (hs.getD i default) (shs.getD i default)) = Value.int .i64 (rstE g p hs shs n)]) (by kernel_rfl) ⟨(by rw [e2]; rfl), (by rw [e1]), trivial⟩
  refine AWP.regsPX 2 [{ hs := [(4, { k := i }), (5, { av := some (AV.sl 1 (bytesA (shs.getD i default))) }), (6, { av := some (ai (chkD d (hs.getD i default) (shs.getD i default))) })], T := 6 }, {}] [.keep [56, 18, 17, 16, 44, 14, 12, 11, 10, 1, 2, 3, 4, 15, 41, 42, 43] [39, 12]] (by kernel_rfl) (C := [(↑i : Int) = (↑i : Int), i < (encA bysC shs).length, (encA bysC shs)[i]? = some (AV.sl 1 (bytesA (shs.getD i default))), Ret Tryd.prog (23 : Nat) [AV.agg [aw d.pub, aw d.peer, AV.sl 1 (bytesA d.box), AV.sl 1 (encA strC d.holders), AV.sl 1 (wordsA d.digests), ai d.need, aw d.target], AV.val (Value.string (ByteArray.mk (hs.getD i default).toArray)), AV.sl 1 (bytesA (shs.getD i default))] (ai (chkD d (hs.getD i default) (shs.getD i default)))]) (by kernel_rfl) ⟨(by simp [hc]), (by omega), (by assumption), (rcheck_ret (d) (hs.getD i default) (shs.getD i default) (by assumption) (by assumption)), trivial⟩ ?_
  refine AWP.condF (x := .tmp 56) (b := chkD d (hs.getD i default) (shs.getD i default) != (0 : Int)) (by kernel_rfl) (by kernel_rfl) (by simp_all) ?_
  refine AWP.skip (by kernel_rfl) ?_
  refine thenM_n ?_
  refine AWPm.seq (by kernel_rfl) ?_
  refine AWPm.look (t := 69) (kt := 9) (et := 4) (m := 15) (k := 17) (d1 := 58) (d2 := 59) (d3 := 60) (x := hs.getD i default) (by kernel_rfl) (by kernel_rfl) (by kernel_rfl) (by kernel_rfl) (by kernel_rfl) Tryd.underlying69 Tryd.underlying9 Tryd.zeroValue4 (by kernel_rfl) (by kernel_rfl) ?_
  refine AWPm.cond (x := .tmp 60) (b := decide (hs.getD i default ∈ hs.take i)) (by kernel_rfl) (by kernel_rfl) (fun hm => ?_) (fun hm => ?_)
  ·have hm := of_decide_eq_true hm
   have k1 : lpE d hs shs i = 10 := by unfold lpE; rw [if_neg (by omega), if_pos hm]
   have k2 : lpF d hs shs (i + 1) = lpE d hs shs i := by show (if _ then _ else _) = _; rw [if_neg (by omega)]
   have k3 := lpF_stay d hs shs (by omega) k2 hs.length (by omega)
   have e1 : rstE g p hs shs n = 10 := by unfold rstE; rw [if_neg (by omega), if_neg (by omega), hd, if_pos (by omega), k3, k1]
   have e2 : rstD g p hs shs n = [] := by unfold rstD; rw [if_neg (by omega)]
   refine AWPm.plain ?_
   refine AWP.regsPX 1 [{}] [.keep [11, 10, 60, 56, 18, 17, 16, 44, 14, 12, 1, 2, 3, 4, 15, 41, 42, 43] [39, 12]] (by kernel_rfl) (C := []) (by kernel_rfl) trivial ?_
   refine AWP.ret (by kernel_rfl) ?_
   refine thenM_r (inbM_r (thenM_r (thenM_r (inbM_r (thenM_r ?_)))))
   refine Done.ret_ (C := [bytesA (rstD g p hs shs n) = [], Value.int .i64 10 = Value.int .i64 (rstE g p hs shs n)]) (by kernel_rfl) ⟨(by rw [e2]; rfl), (by rw [e1]), trivial⟩
  have hm := of_decide_eq_false hm
  have k1 : lpE d hs shs i = 0 := by unfold lpE; rw [if_neg (by omega), if_neg hm]
  have k2 : lpF d hs shs (i + 1) = 0 := by show (if _ then _ else _) = _; rw [if_neg (by omega), k1]
  have hix : 0 ≤ idxS d.holders (hs.getD i default) ∧ idxS d.holders (hs.getD i default) < 1000000 := by
   rcases idx_cases d.holders (hs.getD i default) with q | ⟨j, q, hj, _⟩
   ·exact absurd hc (by unfold chkD; rw [if_pos (by omega)]; omega)
   ·omega
  have hpl := pts_len d hs shs i
  have hpe : (encA shareC (pts d hs shs i)).length = i * 2 := by rw [encA_len (e := 2) (fun _ => rfl), hpl]
  have hsn := pts_snoc d hs shs i
  refine AWPm.skip (by kernel_rfl) ?_
  refine thenM_n ?_
  refine AWPm.upd (t := 69) (kt := 9) (et := 4) (m := 15) (k := 17) (d1 := 61) (d2 := 62) (x := hs.getD i default) (by kernel_rfl) (by kernel_rfl) (by kernel_rfl) (by kernel_rfl) Tryd.underlying69 Tryd.underlying9 (by kernel_rfl) (by kernel_rfl) hm ?_
  refine AWPm.plain ?_
  refine AWP.regX { hs := [(4, { av := some (ai (idxS d.holders (hs.getD i default))) }), (5, { av := some (ai (idxS d.holders (hs.getD i default) + 1)) }), (8, { k := i }), (9, { av := some (AV.sl 1 (bytesA (shs.getD i default))) }), (12, { av := some (AV.arr (encA shareC (pts d hs shs (i + (1 : Nat))))) })], T := 12 } (C := [Ret Tryd.prog (26 : Nat) [AV.sl 1 (encA strC d.holders), AV.val (Value.string (ByteArray.mk (hs.getD i default).toArray))] (ai (idxS d.holders (hs.getD i default))), ai (IntKind.i64.wrap (idxS d.holders (hs.getD i default) + 1)) = ai (idxS d.holders (hs.getD i default) + 1), (↑i : Int) = (↑i : Int), i < (encA bysC shs).length, (encA bysC shs)[i]? = some (AV.sl 1 (bytesA (shs.getD i default))), encA shareC (pts d hs shs i) ++ [ai (idxS d.holders (hs.getD i default) + 1), AV.sl 1 (bytesA (shs.getD i default))] = encA shareC (pts d hs shs (i + (1 : Nat))), ((encA shareC (pts d hs shs i)).length + (2 : Nat)) * (32 : Nat) ≤ (281474976710656 : Nat)]) (by kernel_rfl) ⟨(sidx_ret (d.holders) (hs.getD i default)), (av_i64 (by omega) (by omega)), rfl, (by omega), (by assumption), hsn, (by omega), trivial⟩ ?_
  refine inbM_n ?_
  refine thenM_n ?_
  refine AWPm.round ?_
  refine AWP.regX { hs := [(0, { av := some (ai ((↑i : Int) + 1)) })] } (C := [ai (IntKind.i64.wrap ((↑i : Int) + 1)) = ai ((↑i : Int) + 1)]) (by kernel_rfl) ⟨(av_i64 (by omega) (by omega)), trivial⟩ ?_
  refine round_n (i + 1) ⟨⟨by omega, k2⟩, by rw [List.take_succ_eq_append_getElem hi2, List.getD_eq_getElem?_getD, List.getElem?_eq_getElem hi2]; rfl⟩ (by omega) (Weaks.ofX [.ren 75 39, .keep [14, 12, 11, 10, 1, 2, 3, 4, 15, 41, 42, 43] [39, 12]] (by kernel_rfl))
 ·have e : i = hs.length := by have := of_decide_eq_false h; omega
  subst e
  refine AWPm.exit (id := 0) (by kernel_rfl) ?_
  refine thenM_x ?_
  refine thenM_x ?_
  refine inbM_x ?_
  refine thenM_n ?_
  refine AWPm.done ?_
  by_cases h3 : (hs.length : Int) < d.need
  ·have e1 : rstE g p hs shs n = 41 := by unfold rstE; rw [if_neg (by omega), if_neg (by omega), hd, if_neg (by omega), if_pos h3]
   have e2 : rstD g p hs shs n = [] := by unfold rstD; rw [if_neg (by omega)]
   refine AWP.seq (by kernel_rfl) ?_
   refine AWP.regsPX 1 [{ hs := [(1, { k := (encA strC hs).length })] }] [.keep [81, 44, 14, 12, 11, 10, 1, 2, 3, 4, 15, 41, 42, 43] [39, 12]] (by kernel_rfl) (C := [(encA strC hs).length = (encA strC hs).length]) (by kernel_rfl) ⟨rfl, trivial⟩ ?_
   refine AWP.condT (x := .tmp 81) (b := decide ((↑(encA strC hs).length : Int) < d.need)) (by kernel_rfl) (by kernel_rfl) (decide_eq_true (by omega)) ?_
   refine AWP.regsKX 1 [{}] (by kernel_rfl) (C := []) (by kernel_rfl) trivial ?_
   refine AWP.ret (by kernel_rfl) ?_
   refine then_r ?_
   refine Done.ret_ (C := [bytesA (rstD g p hs shs n) = [], Value.int .i64 41 = Value.int .i64 (rstE g p hs shs n)]) (by kernel_rfl) ⟨(by rw [e2]; rfl), (by rw [e1]), trivial⟩
  by_cases h4 : atE (pts d hs shs hs.length) 0 = 0
  case neg =>
   have e1 : rstE g p hs shs n = 4 := by unfold rstE; rw [if_neg (by omega), if_neg (by omega), hd, if_neg (by omega), if_neg h3, if_pos (.inl h4)]
   have e2 : rstD g p hs shs n = [] := by unfold rstD; rw [if_neg (by omega)]
   refine AWP.seq (by kernel_rfl) ?_
   refine AWP.regsPX 1 [{ hs := [(1, { k := (encA strC hs).length })] }] [.keep [81, 44, 14, 12, 11, 10, 1, 2, 3, 4, 15, 41, 42, 43] [39, 12]] (by kernel_rfl) (C := [(encA strC hs).length = (encA strC hs).length]) (by kernel_rfl) ⟨(by simp [h4]), trivial⟩ ?_
   refine AWP.condF (x := .tmp 81) (b := decide ((↑(encA strC hs).length : Int) < d.need)) (by kernel_rfl) (by kernel_rfl) (decide_eq_false (by omega)) ?_
   refine AWP.skip (by kernel_rfl) ?_
   refine then_n ?_
   refine AWP.regsPX 1 [{ hs := [(1, { av := some (AV.tup [AV.own 1 (bytesA (atD (pts d hs shs hs.length) (0 : Int))), ai (atE (pts d hs shs hs.length) (0 : Int))]) })] }] [.keep [13, 19, 81, 44, 14, 12, 11, 10, 1, 2, 3, 4, 15, 41, 42, 43] [1084, 39, 12]] (by kernel_rfl) (C := [Ret Tryd.prog (27 : Nat) [AV.sl 2 (encA shareC (pts d hs shs hs.length))] (AV.tup [AV.own 1 (bytesA (atD (pts d hs shs hs.length) (0 : Int))), ai (atE (pts d hs shs hs.length) (0 : Int))]), valR (bytesA (atD (pts d hs shs hs.length) (0 : Int)))]) (by kernel_rfl) ⟨(join_ret (pts d hs shs hs.length)), (valR_bytes _), trivial⟩ ?_
   refine AWP.seq (by kernel_rfl) ?_
   refine AWP.regsPX 1 [{ hs := [(1, { av := some (ao true) })] }] [.keep [93, 13, 19, 81, 44, 14, 12, 11, 10, 1, 2, 3, 4, 15, 41, 42, 43] [1084, 39, 12]] (by kernel_rfl) (C := [ao (atE (pts d hs shs hs.length) (0 : Int) != (0 : Int)) = ao true, true = true, true = true, true = true, true = true]) (by kernel_rfl) ⟨(by simp [h4]), rfl, rfl, rfl, rfl, trivial⟩ ?_
   refine AWP.condT (x := .tmp 93) (b := true) (by kernel_rfl) (by kernel_rfl) rfl ?_
   refine AWP.regsKX 1 [{}] (by kernel_rfl) (C := []) (by kernel_rfl) trivial ?_
   refine AWP.ret (by kernel_rfl) ?_
   refine then_r ?_
   refine Done.ret_ (C := [bytesA (rstD g p hs shs n) = [], Value.int .i64 4 = Value.int .i64 (rstE g p hs shs n)]) (by kernel_rfl) ⟨(by rw [e2]; rfl), (by rw [e1]), trivial⟩
  by_cases h5 : (atD (pts d hs shs hs.length) 0).length = 8
  case neg =>
   have e1 : rstE g p hs shs n = 4 := by unfold rstE; rw [if_neg (by omega), if_neg (by omega), hd, if_neg (by omega), if_neg h3, if_pos (.inr h5)]
   have e2 : rstD g p hs shs n = [] := by unfold rstD; rw [if_neg (by omega)]
   refine AWP.seq (by kernel_rfl) ?_
   refine AWP.regsPX 1 [{ hs := [(1, { k := (encA strC hs).length }), (4, { av := some (ao false) })] }] [.keep [81, 44, 14, 12, 11, 10, 1, 2, 3, 4, 15, 41, 42, 43] [39, 12]] (by kernel_rfl) (C := [(encA strC hs).length = (encA strC hs).length, ao (decide ((↑(encA strC hs).length : Int) < d.need)) = ao false]) (by kernel_rfl) ⟨(by simp [h4]), (by simp; omega), trivial⟩ ?_
   refine AWP.condF (x := .tmp 81) (b := false) (by kernel_rfl) (by kernel_rfl) rfl ?_
   refine AWP.skip (by kernel_rfl) ?_
   refine then_n ?_
   refine AWP.regsPX 1 [{ hs := [(1, { av := some (AV.tup [AV.own 1 (bytesA (atD (pts d hs shs hs.length) (0 : Int))), ai (atE (pts d hs shs hs.length) (0 : Int))]) })] }] [.keep [13, 19, 81, 44, 14, 12, 11, 10, 1, 2, 3, 4, 15, 41, 42, 43] [1084, 39, 12]] (by kernel_rfl) (C := [Ret Tryd.prog (27 : Nat) [AV.sl 2 (encA shareC (pts d hs shs hs.length))] (AV.tup [AV.own 1 (bytesA (atD (pts d hs shs hs.length) (0 : Int))), ai (atE (pts d hs shs hs.length) (0 : Int))]), valR (bytesA (atD (pts d hs shs hs.length) (0 : Int)))]) (by kernel_rfl) ⟨(join_ret (pts d hs shs hs.length)), (valR_bytes _), trivial⟩ ?_
   refine AWP.seq (by kernel_rfl) ?_
   refine AWP.regsPX 1 [{ hs := [(1, { av := some (ao false) }), (3, { g := false }), (4, { k := (atD (pts d hs shs hs.length) (0 : Int)).length, g := false }), (5, { av := some (ao true), g := false }), (6, { b := false })] }] [.keep [93, 13, 19, 81, 44, 14, 12, 11, 10, 1, 2, 3, 4, 15, 41, 42, 43] [1084, 39, 12]] (by kernel_rfl) (C := [ao (atE (pts d hs shs hs.length) (0 : Int) != (0 : Int)) = ao false, false = false, false = false, (bytesA (atD (pts d hs shs hs.length) (0 : Int))).length = (atD (pts d hs shs hs.length) (0 : Int)).length, false = false, ao ((↑(atD (pts d hs shs hs.length) (0 : Int)).length : Int) != (8 : Int)) = ao true, false = false]) (by kernel_rfl) ⟨(by simp [h4]), rfl, rfl, (bytesA_len _), rfl, (by simp; omega), rfl, trivial⟩ ?_
   refine AWP.condT (x := .tmp 93) (b := true) (by kernel_rfl) (by kernel_rfl) rfl ?_
   refine AWP.regsKX 1 [{}] (by kernel_rfl) (C := []) (by kernel_rfl) trivial ?_
   refine AWP.ret (by kernel_rfl) ?_
   refine then_r ?_
   refine Done.ret_ (C := [bytesA (rstD g p hs shs n) = [], Value.int .i64 4 = Value.int .i64 (rstE g p hs shs n)]) (by kernel_rfl) ⟨(by rw [e2]; rfl), (by rw [e1]), trivial⟩
  have f1 : rstE g p hs shs n = if pubW (wordOf (atD (pts d hs shs hs.length) 0)) ≠ p then 15 else rslE d (wordOf (atD (pts d hs shs hs.length) 0)) n := by
   unfold rstE
   rw [if_neg (by omega), if_neg (by omega), hd, if_neg (by omega), if_neg h3, if_neg (by rintro (q | q); exact q h4; exact q h5)]
  have f2 : rstD g p hs shs n = if rstE g p hs shs n = 0 then rslD d (wordOf (atD (pts d hs shs hs.length) 0)) n else [] := by unfold rstD; rw [hd]
  refine AWP.seq (by kernel_rfl) ?_
  refine AWP.regsPX 1 [{ hs := [(1, { k := (encA strC hs).length }), (4, { av := some (ao false) })] }] [.keep [81, 44, 14, 12, 11, 10, 1, 2, 3, 4, 15, 41, 42, 43] [39, 12]] (by kernel_rfl) (C := [(encA strC hs).length = (encA strC hs).length, ao (decide ((↑(encA strC hs).length : Int) < d.need)) = ao false]) (by kernel_rfl) ⟨(by simp [h4]), (by simp; omega), trivial⟩ ?_
  refine AWP.condF (x := .tmp 81) (b := false) (by kernel_rfl) (by kernel_rfl) rfl ?_
  refine AWP.skip (by kernel_rfl) ?_
  refine then_n ?_
  refine AWP.regsPX 1 [{ hs := [(1, { av := some (AV.tup [AV.own 1 (bytesA (atD (pts d hs shs hs.length) (0 : Int))), ai (atE (pts d hs shs hs.length) (0 : Int))]) })] }] [.keep [13, 19, 81, 44, 14, 12, 11, 10, 1, 2, 3, 4, 15, 41, 42, 43] [1084, 39, 12]] (by kernel_rfl) (C := [Ret Tryd.prog (27 : Nat) [AV.sl 2 (encA shareC (pts d hs shs hs.length))] (AV.tup [AV.own 1 (bytesA (atD (pts d hs shs hs.length) (0 : Int))), ai (atE (pts d hs shs hs.length) (0 : Int))]), valR (bytesA (atD (pts d hs shs hs.length) (0 : Int)))]) (by kernel_rfl) ⟨(join_ret (pts d hs shs hs.length)), (valR_bytes _), trivial⟩ ?_
  refine AWP.seq (by kernel_rfl) ?_
  refine AWP.regsPX 1 [{ hs := [(1, { av := some (ao false) }), (3, { g := false }), (4, { k := (atD (pts d hs shs hs.length) (0 : Int)).length, g := false }), (5, { av := some (ao false), g := false }), (6, { b := false })] }] [.keep [93, 13, 19, 81, 44, 14, 12, 11, 10, 1, 2, 3, 4, 15, 41, 42, 43] [1084, 39, 12]] (by kernel_rfl) (C := [ao (atE (pts d hs shs hs.length) (0 : Int) != (0 : Int)) = ao false, false = false, false = false, (bytesA (atD (pts d hs shs hs.length) (0 : Int))).length = (atD (pts d hs shs hs.length) (0 : Int)).length, false = false, ao ((↑(atD (pts d hs shs hs.length) (0 : Int)).length : Int) != (8 : Int)) = ao false, false = false]) (by kernel_rfl) ⟨(by simp [h4]), rfl, rfl, (bytesA_len _), rfl, (by simp; omega), rfl, trivial⟩ ?_
  refine AWP.condF (x := .tmp 93) (b := false) (by kernel_rfl) (by kernel_rfl) rfl ?_
  refine AWP.skip (by kernel_rfl) ?_
  refine then_n ?_
  refine AWP.regsKX 1 [{}] (by kernel_rfl) (C := []) (by kernel_rfl) trivial ?_
  refine AWP.seq (by kernel_rfl) ?_
  refine AWP.regsK 1 [{ hs := [(1, { k := (atD (pts d hs shs hs.length) (0 : Int)).length })] }] (by kernel_rfl) (s' := AS.mk [(96, ai 0), (95, ai (↑(atD (pts d hs shs hs.length) (0 : Int)).length : Int)), (94, AV.ref 1084), (20, au0), (93, ao false), (13, ai (atE (pts d hs shs hs.length) (0 : Int))), (19, AV.ref 1084), (81, ao false), (44, ao (decide ((↑hs.length : Int) < (↑(encA strC hs).length : Int)))), (14, AV.ref 39), (12, AV.addr 12 0), (11, ai 0), (10, AV.nil), (1, aw p), (2, AV.sl 1 (encA strC hs)), (3, AV.sl 1 (encA bysC shs)), (4, aw n), (15, AV.val (Value.map (some mg))), (41, AV.sl 1 (encA strC hs)), (42, ai (↑(encA strC hs).length : Int)), (43, ai (↑hs.length : Int))] [(1084, Row.mk 1 true false (bytesA (atD (pts d hs shs hs.length) (0 : Int)))), (39, Row.mk 2 true false (encA shareC (pts d hs shs hs.length))), (12, Row.mk 1 false true (List.map (kill0 (1084 : Nat)) (depC d)))]) (C := [(bytesA (atD (pts d hs shs hs.length) (0 : Int))).length = (atD (pts d hs shs hs.length) (0 : Int)).length]) (by kernel_rfl) ⟨(bytesA_len _), trivial⟩ ?_
  refine AWP.block (id := 2) (by kernel_rfl) ?_
  generalize hB : atD (pts d hs shs hs.length) 0 = B at *
  refine AWP.loop (fun (i : Nat) => (⟨[(95, ai (↑B.length : Int)), (94, AV.ref 1084), (93, ao false), (13, ai (atE (pts d hs shs hs.length) (0 : Int))), (19, AV.ref 1084), (81, ao false), (44, ao (decide ((↑hs.length : Int) < (↑(encA strC hs).length : Int)))), (14, AV.ref 39), (12, AV.addr 12 0), (11, ai 0), (10, AV.nil), (1, aw p), (2, AV.sl 1 (encA strC hs)), (3, AV.sl 1 (encA bysC shs)), (4, aw n), (15, AV.val (Value.map (some mg))), (41, AV.sl 1 (encA strC hs)), (42, ai (↑(encA strC hs).length : Int)), (43, ai (↑hs.length : Int)), (96, ai i), (20, aw (wordOf (B.take i)))], [(1084, ⟨1, true, false, bytesA B⟩), (39, ⟨2, true, false, encA shareC (pts d hs shs hs.length)⟩), (12, ⟨1, false, true, List.map (kill0 (1084 : Nat)) (depC d)⟩)]⟩ : AS)) (fun i => (i ≤ 8)) (fun i => (8 - i)) (by kernel_rfl) (0) ?_ (Weaks.ofX [.keep [95, 94, 93, 13, 19, 81, 44, 14, 12, 11, 10, 1, 2, 3, 4, 15, 41, 42, 43, 96, 20] [1084, 39, 12]] (by kernel_rfl)) ?_
  ·omega
  intro i hi
  refine AWP.regsKX 1 [{}] (by kernel_rfl) (C := []) (by kernel_rfl) trivial ?_
  refine AWP.seq (by kernel_rfl) ?_
  refine AWP.condD (x := .tmp 97) (p := (↑i : Int) < (↑B.length : Int)) (by kernel_rfl) (by kernel_rfl) (fun q => ?_) (fun q => ?_)
  ·have hw := wordOf_take (b := B) (i := i) (by omega)
   refine AWP.skip (by kernel_rfl) ?_
   refine then_n ?_
   refine AWP.seq (by kernel_rfl) ?_
   refine AWP.block (id := 3) (by kernel_rfl) ?_
   refine AWP.regsPX 1 [{ hs := [(0, { k := i }), (1, { av := some (ab (B.getD i 0)) })] }] [.keep [22, 97, 95, 94, 93, 13, 19, 81, 44, 14, 12, 11, 10, 1, 2, 3, 4, 15, 41, 42, 43, 96, 20] [1084, 39, 12]] (by kernel_rfl) (C := [(↑i : Int) = (↑i : Int), i < (bytesA B).length, (bytesA B)[i]? = some (ab (B.getD i 0))]) (by kernel_rfl) ⟨rfl, (by simp only [bytesA_len]; omega), (bytesA_at (by omega)), trivial⟩ ?_
   refine AWP.regX { hs := [(1, { av := some (aw (wordOf (List.take i B) <<< (8 : UInt64))) }), (3, { av := some (aw ((B.getD i 0).toUInt64)) }), (4, { av := some (aw (wordOf (List.take i B) <<< (8 : UInt64) ||| (B.getD i 0).toUInt64)) })] } (C := [AV.val (Value.int .u64 (IntKind.u64.wrap (wv (wordOf (List.take i B)) * (2 : Int) ^ min (Int.toNat (8 : Int)) IntKind.u64.bits))) = aw (wordOf (List.take i B) <<< (8 : UInt64)), (0 : Int) ≤ 8, AV.val (Value.int .u64 (IntKind.u64.wrap (bv (B.getD i 0)))) = aw ((B.getD i 0).toUInt64), AV.val (Value.int .u64 (IntKind.u64.wrap (↑(BitVec.ofInt IntKind.u64.bits (wv (wordOf (List.take i B) <<< (8 : UInt64))) ||| BitVec.ofInt IntKind.u64.bits (wv (B.getD i 0).toUInt64)).toNat : Int))) = aw (wordOf (List.take i B) <<< (8 : UInt64) ||| (B.getD i 0).toUInt64)]) (by kernel_rfl) ⟨(avw_shl (wordOf (List.take i B)) ((8 : Int)) (by omega) (by omega)), (by omega), (avw_bv (B.getD i 0)), (avw_or (wordOf (List.take i B) <<< (8 : UInt64)) ((B.getD i 0).toUInt64)), trivial⟩ ?_
   refine inb_n ?_
   refine then_n ?_
   refine AWP.regX { hs := [(0, { av := some (ai ((↑i : Int) + 1)) })] } (C := [ai (IntKind.i64.wrap ((↑i : Int) + 1)) = ai ((↑i : Int) + 1)]) (by kernel_rfl) ⟨(av_i64 (by omega) (by omega)), trivial⟩ ?_
   refine round_n (i + 1) (by omega) (by omega) (Weaks.of [.keep [95, 94, 93, 13, 19, 81, 44, 14, 12, 11, 10, 1, 2, 3, 4, 15, 41, 42, 43, 96, 20] [1084, 39, 12]] (s1 := AS.mk [(95, ai (↑B.length : Int)), (94, AV.ref 1084), (93, ao false), (13, ai (atE (pts d hs shs hs.length) (0 : Int))), (19, AV.ref 1084), (81, ao false), (44, ao (decide ((↑hs.length : Int) < (↑(encA strC hs).length : Int)))), (14, AV.ref 39), (12, AV.addr 12 0), (11, ai 0), (10, AV.nil), (1, aw p), (2, AV.sl 1 (encA strC hs)), (3, AV.sl 1 (encA bysC shs)), (4, aw n), (15, AV.val (Value.map (some mg))), (41, AV.sl 1 (encA strC hs)), (42, ai (↑(encA strC hs).length : Int)), (43, ai (↑hs.length : Int)), (96, ai ((↑i : Int) + 1)), (20, aw (wordOf (List.take i B) <<< (8 : UInt64) ||| (B.getD i 0).toUInt64))] [(1084, Row.mk 1 true false (bytesA B)), (39, Row.mk 2 true false (encA shareC (pts d hs shs hs.length))), (12, Row.mk 1 false true (List.map (kill0 (1084 : Nat)) (depC d)))]) (by kernel_rfl) (as_eq (f_cons rfl (f_cons rfl (f_cons rfl (f_cons rfl (f_cons rfl (f_cons rfl (f_cons rfl (f_cons rfl (f_cons rfl (f_cons rfl (f_cons rfl (f_cons rfl (f_cons rfl (f_cons rfl (f_cons rfl (f_cons rfl (f_cons rfl (f_cons rfl (f_cons rfl (f_cons rfl (f_cons (congrArg aw hw) rfl))))))))))))))))))))) (h_cons rfl (h_cons rfl (h_cons rfl rfl)))))
  ·have e : i = 8 := by omega
   subst e
   have e8 : B.take 8 = B := List.take_of_length_le (by omega)
   by_cases h6 : pubW (wordOf B) = p
   ·rw [if_neg (by simpa using h6)] at f1
    have e2 : rstD g p hs shs n = rslD d (wordOf B) n := by
     rw [f2, f1]
     split
     ·rfl
     ·rename_i hne; unfold rslD; rw [if_neg hne]
    refine AWP.exit (id := 2) (by kernel_rfl) ?_
    refine then_e ?_
    refine round_e ?_
    refine inb_e ?_
    refine then_n ?_
    refine AWP.seq (by kernel_rfl) ?_
    refine AWP.regsPX 1 [{ hs := [(1, { av := some (aw (pubW (wordOf (List.take 8 B)))) }), (3, { av := some (ao (pubW (wordOf (List.take 8 B)) != p)) })] }] [.keep [109, 97, 95, 94, 93, 13, 19, 81, 44, 14, 12, 11, 10, 1, 2, 3, 4, 15, 41, 42, 43, 96, 20] [1084, 39, 12]] (by kernel_rfl) (C := [Ret Tryd.prog (28 : Nat) [aw (wordOf (List.take 8 B))] (aw (pubW (wordOf (List.take 8 B)))), ao (wv (pubW (wordOf (List.take 8 B))) != wv p) = ao (pubW (wordOf (List.take 8 B)) != p)]) (by kernel_rfl) ⟨(pubx_ret (wordOf (List.take 8 B))), (avw_ne (pubW (wordOf (List.take 8 B))) (p)), trivial⟩ ?_
    refine AWP.condF (x := .tmp 109) (b := pubW (wordOf (List.take 8 B)) != p) (by kernel_rfl) (by kernel_rfl) (by simp_all) ?_
    refine AWP.skip (by kernel_rfl) ?_
    refine then_n ?_
    refine AWP.regsPX 1 [{ hs := [(3, { av := some (AV.tup [AV.own 1 (bytesA (rslD d (wordOf (List.take 8 B)) n)), ai (rslE d (wordOf (List.take 8 B)) n)]) })] }] [.keep [11, 10, 109, 97, 95, 94, 93, 13, 19, 81, 44, 14, 12, 1, 2, 3, 4, 15, 41, 42, 43, 96, 20] [1113, 1084, 39, 12]] (by kernel_rfl) (C := [Ret Tryd.prog (29 : Nat) [AV.agg [aw d.pub, aw d.peer, AV.sl 1 (bytesA d.box), AV.sl 1 (encA strC d.holders), AV.sl 1 (wordsA d.digests), ai d.need, aw d.target], aw (wordOf (List.take 8 B)), aw n] (AV.tup [AV.own 1 (bytesA (rslD d (wordOf (List.take 8 B)) n)), ai (rslE d (wordOf (List.take 8 B)) n)]), valR (bytesA (rslD d (wordOf (List.take 8 B)) n))]) (by kernel_rfl) ⟨(reseal_ret (d) (wordOf (List.take 8 B)) (n)), (valR_bytes _), trivial⟩ ?_
    refine AWP.ret (by kernel_rfl) ?_
    refine Done.ret_ (C := [bytesA (rslD d (wordOf (List.take 8 B)) n) = bytesA (rstD g p hs shs n), Value.int .i64 (rslE d (wordOf (List.take 8 B)) n) = Value.int .i64 (rstE g p hs shs n)]) (by kernel_rfl) ⟨(by rw [e2, e8]), (by rw [f1, e8]), trivial⟩
   ·rw [if_pos h6] at f1
    have e2 : rstD g p hs shs n = [] := by rw [f2, if_neg (by omega)]
    refine AWP.exit (id := 2) (by kernel_rfl) ?_
    refine then_e ?_
    refine round_e ?_
    refine inb_e ?_
    refine then_n ?_
    refine AWP.seq (by kernel_rfl) ?_
    refine AWP.regsPX 1 [{ hs := [(1, { av := some (aw (pubW (wordOf (List.take 8 B)))) }), (3, { av := some (ao (pubW (wordOf (List.take 8 B)) != p)) })] }] [.keep [109, 97, 95, 94, 93, 13, 19, 81, 44, 14, 12, 11, 10, 1, 2, 3, 4, 15, 41, 42, 43, 96, 20] [1084, 39, 12]] (by kernel_rfl) (C := [Ret Tryd.prog (28 : Nat) [aw (wordOf (List.take 8 B))] (aw (pubW (wordOf (List.take 8 B)))), ao (wv (pubW (wordOf (List.take 8 B))) != wv p) = ao (pubW (wordOf (List.take 8 B)) != p)]) (by kernel_rfl) ⟨(pubx_ret (wordOf (List.take 8 B))), (avw_ne (pubW (wordOf (List.take 8 B))) (p)), trivial⟩ ?_
    refine AWP.condT (x := .tmp 109) (b := pubW (wordOf (List.take 8 B)) != p) (by kernel_rfl) (by kernel_rfl) (by simp_all) ?_
    refine AWP.regsKX 1 [{}] (by kernel_rfl) (C := []) (by kernel_rfl) trivial ?_
    refine AWP.ret (by kernel_rfl) ?_
    refine then_r ?_
    refine Done.ret_ (C := [bytesA (rstD g p hs shs n) = [], Value.int .i64 15 = Value.int .i64 (rstE g p hs shs n)]) (by kernel_rfl) ⟨(by rw [e2]; rfl), (by rw [f1]), trivial⟩
end Go.Proofs.YtejpabdmiagnnaaDoor
