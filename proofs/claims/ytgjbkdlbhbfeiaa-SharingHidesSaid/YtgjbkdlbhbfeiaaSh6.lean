/-
  The contract of sharing.Join; the shares by powers. No condition.
-/
import Derived.Test.YtgjbkdlbhbfeiaaSh5
namespace Go.Proofs.Ytgjbkdlbhbfeiaa
open Go.RowKit
set_option maxRecDepth 100000
set_option maxHeartbeats 4000000
set_option linter.unusedVariables false

theorem join_ret (l : List Sh) : Ret Try.prog 7 [.sl 2 (encA shareC l)] (.tup [.own 1 (bytesA (atD l 0)), ai (atE l 0)]) := by
  refine Ret.of_fn Try.func7 (by kernel_rfl) 8 (by kernel_rfl) (by kernel_rfl) ?_
  refine AWP.regsK 2 [{  }, { hs := [(1, { av := some (AV.tup [AV.own 1 (bytesA (atD l (0 : Int))), ai (atE l (0 : Int))]) })] }] (by kernel_rfl) (s' := AS.mk [(3, ai (atE l (0 : Int))), (2, AV.ref 1005), (7, ai (atE l (0 : Int))), (6, AV.ref 1005), (5, AV.tup [AV.ref 1005, ai (atE l (0 : Int))]), (4, AV.sl 2 (encA shareC l)), (0, AV.sl 2 (encA shareC l))] [(1005, Row.mk 1 true false (bytesA (atD l (0 : Int))))]) (C := [Ret Try.prog (14 : Nat) [AV.sl 2 (encA shareC l), ai 0] (AV.tup [AV.own 1 (bytesA (atD l (0 : Int))), ai (atE l (0 : Int))]), valR (bytesA (atD l (0 : Int)))]) (by kernel_rfl) ⟨(at_ret (l) ((0 : Int))), (valR_bytes _), trivial⟩ ?_
  refine AWP.wk [.keep [3, 2, 0] [1005]] (s' := AS.mk [(3, ai (atE l (0 : Int))), (2, AV.ref 1005), (0, AV.sl 2 (encA shareC l))] [(1005, Row.mk 1 true false (bytesA (atD l (0 : Int))))]) (by kernel_rfl) ?_
  refine AWP.ret (by kernel_rfl) ?_
  refine Done.ret_ (C := [bytesA (atD l (0 : Int)) = bytesA (atD l (0 : Int)), Value.int .i64 (atE l (0 : Int)) = Value.int .i64 (atE l (0 : Int))]) (by kernel_rfl) ⟨rfl, rfl, trivial⟩
/-- The power of i, and the sum. -/
def pst (rnd : List UInt8) (L j : Nat) (x c : UInt8) : Nat → UInt8 × UInt8
  | 0 => (c, 1)
  | d + 1 => ((pst rnd L j x c d).1 ^^^ rgmul (rnd.getD (d * L + j) 0) (rgmul (pst rnd L j x c d).2 x), rgmul (pst rnd L j x c d).2 x)
def rsplitB (secret rnd : List UInt8) (need : Nat) (x : UInt8) (j : Nat) : UInt8 := (pst rnd secret.length j x (secret.getD j 0) (need - 1)).1
def rsplitD (secret rnd : List UInt8) (need : Nat) (x : UInt8) : List UInt8 := (List.range secret.length).map (rsplitB secret rnd need x)
def rsplitS (secret rnd : List UInt8) (need : Nat) (i : Nat) : Sh := ((i : Int) + 1, rsplitD secret rnd need (u8 ((i : Int) + 1)))
def rsplitL (secret rnd : List UInt8) (need n : Int) : List Sh := if splitE secret rnd need n = 0 then (List.range n.toNat).map (rsplitS secret rnd need.toNat) else []
end Go.Proofs.Ytgjbkdlbhbfeiaa
