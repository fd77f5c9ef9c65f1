import Derived.Test.YtjgbhhnghedgdaaGreatDoorZsV8
import Derived.Test.YtjgbhhnghedgdaaGreatDoorZsCb6
import Derived.Test.YtjgbhhnghedgdaaGreatDoorZsRF
set_option linter.all false
namespace Go.Proofs.YtjgbhhnghedgdaaGreatDoor
open Go.RowKit
set_option maxRecDepth 100000
set_option maxHeartbeats 4000000
set_option linter.unusedVariables false
def pathW (seed:UInt64) (leaf:Nat) (n:Nat):List UInt64:=(List.range n).map fun k=>nodeW seed k (leaf/2^k^^^1)
theorem pathW_succ (seed:UInt64) (leaf k:Nat):pathW seed leaf (k+1)=pathW seed leaf k++ [nodeW seed k (leaf/2^k^^^1)]:=by simp [pathW,List.range_succ]
theorem pathW_len (seed:UInt64) (leaf k:Nat):(pathW seed leaf k).length=k:=by simp [pathW]
theorem xor_one (q:Nat) (hq:q<16):IntKind.i64.wrap ((BitVec.ofInt IntKind.i64.bits (q:Int)^^^BitVec.ofInt IntKind.i64.bits 1).toNat:Nat)=((q^^^1:Nat):Int):=by
 have key:∀q:Fin 16,IntKind.i64.wrap ((BitVec.ofInt IntKind.i64.bits ((q.val:Nat):Int)^^^BitVec.ofInt IntKind.i64.bits 1).toNat:Nat)=((q.val^^^1:Nat):Int):=by decide +kernel
 exact key ⟨q,hq⟩
def badL (h leaf:Int):Prop:=badH h∨leaf<0∨((2^h.toNat:Nat):Int)≤leaf
instance (h leaf:Int):Decidable (badL h leaf):=by unfold badL;infer_instance
def sgE (h leaf:Int):Int:=if badL h leaf then 9 else 0
def sgL (h leaf:Int):Int:=if badL h leaf then 0 else leaf
def sgC (seed:UInt64) (h leaf:Int) (m:UInt64):List UInt64:=if badL h leaf then [] else signL seed leaf m 18
def sgP (seed:UInt64) (h leaf:Int):List UInt64:=if badL h leaf then [] else pathW seed leaf.toNat h.toNat
end Go.Proofs.YtjgbhhnghedgdaaGreatDoor
