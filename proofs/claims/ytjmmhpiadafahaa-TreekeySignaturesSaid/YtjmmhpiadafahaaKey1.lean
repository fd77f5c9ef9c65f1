/-
  The contracts of treekey's codes of keys, and of the reference's. No condition.
-/
import Derived.Test.YtjmmhpiadafahaaWd
import Derived.Test.YtjmmhpiadafahaaRH
namespace Go.Proofs.Ytjmmhpiadafahaa
open Go.RowKit
set_option maxRecDepth 100000
set_option maxHeartbeats 4000000
set_option linter.unusedVariables false

def badH (h : Int) : Prop := h < 0 ∨ 4 < h
instance (h : Int) : Decidable (badH h) := inferInstanceAs (Decidable (_ ∨ _))
theorem high_ret (h : Int) : Ret Try.prog 25 [ai h] (ao (decide (badH h))) := by
  by_cases h1 : h < 0
  · have e : decide (badH h) = true := decide_eq_true (.inl h1)
    refine Ret.of_fn Try.func25 (by kernel_rfl) 9 (by kernel_rfl) (by kernel_rfl) ?_
    refine AWP.regsP 2 [{  }, {  }] [.keep [2, 0] []] (by kernel_rfl) (s' := AS.mk [(2, ao true), (0, ai h)] []) (C := [decide (h < (0 : Int)) = true, decide (h < (0 : Int)) = true, decide (h < (0 : Int)) = true]) (by kernel_rfl) ⟨(decide_eq_true (by omega)), (decide_eq_true (by omega)), (decide_eq_true (by omega)), trivial⟩ ?_
    refine AWP.ret (by kernel_rfl) ?_
    refine Done.ret_ (C := [Value.bool true = Value.bool (decide (badH h))]) (by kernel_rfl) ⟨(by rw [e]), trivial⟩
  · by_cases h2 : h > 4
    · have e : decide (badH h) = true := decide_eq_true (.inr h2)
      refine Ret.of_fn Try.func25 (by kernel_rfl) 9 (by kernel_rfl) (by kernel_rfl) ?_
      refine AWP.regsP 2 [{  }, { hs := [(3, { g := false }), (4, { g := false }), (5, { b := false })] }] [.keep [2, 0] []] (by kernel_rfl) (s' := AS.mk [(2, ao (decide (h > (4 : Int)))), (0, ai h)] []) (C := [decide (h < (0 : Int)) = false, decide (h < (0 : Int)) = false, decide (h < (0 : Int)) = false]) (by kernel_rfl) ⟨(decide_eq_false (by omega)), (decide_eq_false (by omega)), (decide_eq_false (by omega)), trivial⟩ ?_
      refine AWP.ret (by kernel_rfl) ?_
      refine Done.ret_ (C := [Value.bool (decide (h > (4 : Int))) = Value.bool (decide (badH h))]) (by kernel_rfl) ⟨(by rw [e, decide_eq_true h2]), trivial⟩
    · have e : decide (badH h) = false := decide_eq_false (by rintro (h | h) <;> omega)
      refine Ret.of_fn Try.func25 (by kernel_rfl) 9 (by kernel_rfl) (by kernel_rfl) ?_
      refine AWP.regsP 2 [{  }, { hs := [(3, { g := false }), (4, { g := false }), (5, { b := false })] }] [.keep [2, 0] []] (by kernel_rfl) (s' := AS.mk [(2, ao (decide (h > (4 : Int)))), (0, ai h)] []) (C := [decide (h < (0 : Int)) = false, decide (h < (0 : Int)) = false, decide (h < (0 : Int)) = false]) (by kernel_rfl) ⟨(decide_eq_false (by omega)), (decide_eq_false (by omega)), (decide_eq_false (by omega)), trivial⟩ ?_
      refine AWP.ret (by kernel_rfl) ?_
      refine Done.ret_ (C := [Value.bool (decide (h > (4 : Int))) = Value.bool (decide (badH h))]) (by kernel_rfl) ⟨(by rw [e, decide_eq_false h2]), trivial⟩
theorem refheight_ret (h : Int) : Ret Try.prog 27 [ai h] (ao (!decide (badH h))) := by
  by_cases h1 : h < 0
  · have e : decide (badH h) = true := decide_eq_true (.inl h1)
    refine Ret.of_fn Try.func27 (by kernel_rfl) 9 (by kernel_rfl) (by kernel_rfl) ?_
    refine AWP.regsP 2 [{  }, { hs := [(3, { g := false }), (4, { g := false }), (5, { b := false })] }] [.keep [2, 0] []] (by kernel_rfl) (s' := AS.mk [(2, ao false), (0, ai h)] []) (C := [decide (h ≥ (0 : Int)) = false, decide (h ≥ (0 : Int)) = false, decide (h ≥ (0 : Int)) = false]) (by kernel_rfl) ⟨(decide_eq_false (by omega)), (decide_eq_false (by omega)), (decide_eq_false (by omega)), trivial⟩ ?_
    refine AWP.ret (by kernel_rfl) ?_
    refine Done.ret_ (C := [Value.bool false = Value.bool !decide (badH h)]) (by kernel_rfl) ⟨(by rw [e]; rfl), trivial⟩
  · by_cases h2 : h > 4
    · have e : decide (badH h) = true := decide_eq_true (.inr h2)
      refine Ret.of_fn Try.func27 (by kernel_rfl) 9 (by kernel_rfl) (by kernel_rfl) ?_
      refine AWP.regsP 2 [{  }, {  }] [.keep [2, 0] []] (by kernel_rfl) (s' := AS.mk [(2, ao (decide (h ≤ (4 : Int)))), (0, ai h)] []) (C := [decide (h ≥ (0 : Int)) = true, decide (h ≥ (0 : Int)) = true, decide (h ≥ (0 : Int)) = true]) (by kernel_rfl) ⟨(decide_eq_true (by omega)), (decide_eq_true (by omega)), (decide_eq_true (by omega)), trivial⟩ ?_
      refine AWP.ret (by kernel_rfl) ?_
      refine Done.ret_ (C := [Value.bool (decide (h ≤ (4 : Int))) = Value.bool !decide (badH h)]) (by kernel_rfl) ⟨(by rw [e, decide_eq_false (by omega)]; rfl), trivial⟩
    · have e : decide (badH h) = false := decide_eq_false (by rintro (h | h) <;> omega)
      refine Ret.of_fn Try.func27 (by kernel_rfl) 9 (by kernel_rfl) (by kernel_rfl) ?_
      refine AWP.regsP 2 [{  }, {  }] [.keep [2, 0] []] (by kernel_rfl) (s' := AS.mk [(2, ao (decide (h ≤ (4 : Int)))), (0, ai h)] []) (C := [decide (h ≥ (0 : Int)) = true, decide (h ≥ (0 : Int)) = true, decide (h ≥ (0 : Int)) = true]) (by kernel_rfl) ⟨(decide_eq_true (by omega)), (decide_eq_true (by omega)), (decide_eq_true (by omega)), trivial⟩ ?_
      refine AWP.ret (by kernel_rfl) ?_
      refine Done.ret_ (C := [Value.bool (decide (h ≤ (4 : Int))) = Value.bool !decide (badH h)]) (by kernel_rfl) ⟨(by rw [e, decide_eq_true (by omega)]; rfl), trivial⟩
/-- The bytes of a key. -/
def keyE (h : Int) : Int := if badH h then 9 else 0
def keyD (h : Int) (r : UInt64) : List UInt8 := if badH h then [] else u8 h :: words [r]
end Go.Proofs.Ytjmmhpiadafahaa
