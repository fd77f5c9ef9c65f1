/-
  The contracts of sharing.Mul, Inverse and of the reference's. No condition.
-/
import Derived.Test.YtgjbkdlbhbfeiaaRC
import Derived.Test.YtgjbkdlbhbfeiaaProg
namespace Go.Proofs.Ytgjbkdlbhbfeiaa
open Go.RowKit
set_option maxRecDepth 100000
set_option maxHeartbeats 4000000
set_option linter.unusedVariables false

/-- One step of the product: the second factor's lowest bit, the first one doubled. -/
structure MS where
  a : UInt8
  b : UInt8
  p : UInt8
def mstep (s : MS) : MS := ⟨if s.a &&& 128 ≠ 0 then (s.a <<< 1) ^^^ 27 else s.a <<< 1, s.b >>> 1, if s.b &&& 1 ≠ 0 then s.p ^^^ s.a else s.p⟩
def msteps (s : MS) : Nat → MS
  | 0 => s
  | k + 1 => mstep (msteps s k)
def gmul (a b : UInt8) : UInt8 := (msteps ⟨a, b, 0⟩ 8).p

theorem mul_ret (a b : UInt8) : Ret Try.prog 8 [ab a, ab b] (ab (gmul a b)) := by
  refine Ret.of_fn Try.func8 (by kernel_rfl) 27 (by kernel_rfl) (by kernel_rfl) ?_
  refine AWP.regsK 2 [{  }, {  }] (by kernel_rfl) (s' := AS.mk [(5, AV.val (Value.int .u8 0)), (4, AV.val (Value.int .u8 0)), (0, ab a), (1, ab b)] []) (C := []) (by kernel_rfl) trivial ?_
  refine AWP.seq (by kernel_rfl) ?_
  refine AWP.regsK 1 [{  }] (by kernel_rfl) (s' := AS.mk [(7, ai 0), (5, AV.val (Value.int .u8 0)), (4, AV.val (Value.int .u8 0)), (0, ab a), (1, ab b)] []) (C := []) (by kernel_rfl) trivial ?_
  refine AWP.block (id := 0) (by kernel_rfl) ?_
  refine AWP.loop (fun (k : Nat) => (⟨[(0, ab (msteps ⟨a, b, 0⟩ k).a), (1, ab (msteps ⟨a, b, 0⟩ k).b), (5, ab (msteps ⟨a, b, 0⟩ k).p), (7, ai k)], []⟩ : AS)) (fun k => (k ≤ 8)) (fun k => (8 - k)) (by kernel_rfl) (0) ?_ (Weaks.of [.keep [0, 1, 5, 7] []] (s1 := AS.mk [(0, ab a), (1, ab b), (5, AV.val (Value.int .u8 0)), (7, ai 0)] []) (by kernel_rfl) rfl) ?_
  · omega
  intro k hk
  generalize hm : msteps ⟨a, b, 0⟩ k = s
  refine AWP.regsK 1 [{  }] (by kernel_rfl) (s' := AS.mk [(8, ao (decide ((↑k : Int) < (8 : Int)))), (0, ab s.a), (1, ab s.b), (5, ab s.p), (7, ai (↑k : Int))] []) (C := []) (by kernel_rfl) trivial ?_
  refine AWP.seq (by kernel_rfl) ?_
  refine AWP.condD (x := .tmp 8) (p := (↑k : Int) < (8 : Int)) (by kernel_rfl) (by kernel_rfl) (fun hc => ?_) (fun hc => ?_)
  · skip
    refine AWP.skip (by kernel_rfl) ?_
    refine then_n ?_
    refine AWP.seq (by kernel_rfl) ?_
    refine AWP.block (id := 1) (by kernel_rfl) ?_
    refine AWP.join (⟨[(0, ab s.a), (1, ab s.b), (5, ab (if s.b &&& 1 ≠ 0 then s.p ^^^ s.a else s.p)), (7, ai (↑k : Int))], []⟩ : AS) (by kernel_rfl) ?_ ?_
    · refine AWP.regsK 1 [{ hs := [(1, { av := some (ab (s.b &&& (1 : UInt8))) }), (2, { av := some (ao (s.b &&& (1 : UInt8) != (0 : UInt8))) })] }] (by kernel_rfl) (s' := AS.mk [(11, ao (s.b &&& (1 : UInt8) != (0 : UInt8))), (10, ab (s.b &&& (1 : UInt8))), (9, ab s.b), (8, ao (decide ((↑k : Int) < (8 : Int)))), (0, ab s.a), (1, ab s.b), (5, ab s.p), (7, ai (↑k : Int))] []) (C := [AV.val (Value.int .u8 (IntKind.u8.wrap (↑(BitVec.ofInt IntKind.u8.bits (bv s.b) &&& BitVec.ofInt IntKind.u8.bits (1 : Int)).toNat : Int))) = ab (s.b &&& (1 : UInt8)), ao (bv (s.b &&& (1 : UInt8)) != (0 : Int)) = ao (s.b &&& (1 : UInt8) != (0 : UInt8))]) (by kernel_rfl) ⟨(avb_and (s.b) ((1 : UInt8))), (avb_ne (s.b &&& (1 : UInt8)) ((0 : UInt8))), trivial⟩ ?_
      refine AWP.condN (x := .tmp 11) (u := s.b &&& (1 : UInt8)) (v := (0 : UInt8)) (by kernel_rfl) (by kernel_rfl) (fun hc => ?_) (fun hc => ?_)
      · skip
        refine AWP.reg { hs := [(2, { av := some (ab (s.p ^^^ s.a)) })] } (s' := AS.mk [(5, ab (s.p ^^^ s.a)), (14, ab (s.p ^^^ s.a)), (13, ab s.a), (12, ab s.p), (11, ao (s.b &&& (1 : UInt8) != (0 : UInt8))), (10, ab (s.b &&& (1 : UInt8))), (9, ab s.b), (8, ao (decide ((↑k : Int) < (8 : Int)))), (0, ab s.a), (1, ab s.b), (7, ai (↑k : Int))] []) (C := [AV.val (Value.int .u8 (IntKind.u8.wrap (↑(BitVec.ofInt IntKind.u8.bits (bv s.p) ^^^ BitVec.ofInt IntKind.u8.bits (bv s.a)).toNat : Int))) = ab (s.p ^^^ s.a)]) (by kernel_rfl) ⟨(avb_xor (s.p) (s.a)), trivial⟩ ?_
        refine then_n ?_
        exact Weaks.of [.keep [0, 1, 5, 7] []] (s1 := AS.mk [(0, ab s.a), (1, ab s.b), (5, ab (s.p ^^^ s.a)), (7, ai (↑k : Int))] []) (by kernel_rfl) (as_eq (f_cons rfl (f_cons rfl (f_cons (by rw [if_pos hc]) (f_cons rfl rfl)))) rfl)
      · skip
        refine AWP.skip (by kernel_rfl) ?_
        refine then_n ?_
        exact Weaks.of [.keep [0, 1, 5, 7] []] (s1 := AS.mk [(0, ab s.a), (1, ab s.b), (5, ab s.p), (7, ai (↑k : Int))] []) (by kernel_rfl) (as_eq (f_cons rfl (f_cons rfl (f_cons (by rw [if_neg (by simpa using hc)]) (f_cons rfl rfl)))) rfl)
    refine AWP.regsK 2 [{ hs := [(1, { av := some (ab (s.a &&& (128 : UInt8))) }), (2, { av := some (ao (s.a &&& (128 : UInt8) != (0 : UInt8))) })] }, { hs := [(1, { av := some (ab (s.a <<< (1 : UInt8))) })] }] (by kernel_rfl) (s' := AS.mk [(0, ab (s.a <<< (1 : UInt8))), (19, ab (s.a <<< (1 : UInt8))), (18, ab s.a), (6, ao (s.a &&& (128 : UInt8) != (0 : UInt8))), (17, ao (s.a &&& (128 : UInt8) != (0 : UInt8))), (16, ab (s.a &&& (128 : UInt8))), (15, ab s.a), (1, ab s.b), (5, ab (if s.b &&& (1 : UInt8) ≠ (0 : UInt8) then s.p ^^^ s.a else s.p)), (7, ai (↑k : Int))] []) (C := [AV.val (Value.int .u8 (IntKind.u8.wrap (↑(BitVec.ofInt IntKind.u8.bits (bv s.a) &&& BitVec.ofInt IntKind.u8.bits (128 : Int)).toNat : Int))) = ab (s.a &&& (128 : UInt8)), ao (bv (s.a &&& (128 : UInt8)) != (0 : Int)) = ao (s.a &&& (128 : UInt8) != (0 : UInt8)), AV.val (Value.int .u8 (IntKind.u8.wrap (bv s.a * (2 : Int) ^ min (Int.toNat (1 : Int)) IntKind.u8.bits))) = ab (s.a <<< (1 : UInt8)), (0 : Int) ≤ (1 : Int)]) (by kernel_rfl) ⟨(avb_and (s.a) ((128 : UInt8))), (avb_ne (s.a &&& (128 : UInt8)) ((0 : UInt8))), (avb_shl (s.a) ((1 : Int)) (by omega) (by omega)), (by omega), trivial⟩ ?_
    refine AWP.wk [.keep [0, 6, 1, 5, 7] []] (s' := AS.mk [(0, ab (s.a <<< (1 : UInt8))), (6, ao (s.a &&& (128 : UInt8) != (0 : UInt8))), (1, ab s.b), (5, ab (if s.b &&& (1 : UInt8) ≠ (0 : UInt8) then s.p ^^^ s.a else s.p)), (7, ai (↑k : Int))] []) (by kernel_rfl) ?_
    refine AWP.join (⟨[(0, ab (if s.a &&& 128 ≠ 0 then (s.a <<< 1) ^^^ 27 else s.a <<< 1)), (1, ab s.b), (5, ab (if s.b &&& (1 : UInt8) ≠ (0 : UInt8) then s.p ^^^ s.a else s.p)), (7, ai (↑k : Int))], []⟩ : AS) (by kernel_rfl) ?_ ?_
    · refine AWP.regsK 1 [{  }] (by kernel_rfl) (s' := AS.mk [(20, ao (s.a &&& (128 : UInt8) != (0 : UInt8))), (0, ab (s.a <<< (1 : UInt8))), (6, ao (s.a &&& (128 : UInt8) != (0 : UInt8))), (1, ab s.b), (5, ab (if s.b &&& (1 : UInt8) ≠ (0 : UInt8) then s.p ^^^ s.a else s.p)), (7, ai (↑k : Int))] []) (C := []) (by kernel_rfl) trivial ?_
      refine AWP.condN (x := .tmp 20) (u := s.a &&& (128 : UInt8)) (v := (0 : UInt8)) (by kernel_rfl) (by kernel_rfl) (fun hc => ?_) (fun hc => ?_)
      · skip
        refine AWP.reg { hs := [(1, { av := some (ab (s.a <<< (1 : UInt8) ^^^ (27 : UInt8))) })] } (s' := AS.mk [(0, ab (s.a <<< (1 : UInt8) ^^^ (27 : UInt8))), (22, ab (s.a <<< (1 : UInt8) ^^^ (27 : UInt8))), (21, ab (s.a <<< (1 : UInt8))), (20, ao (s.a &&& (128 : UInt8) != (0 : UInt8))), (6, ao (s.a &&& (128 : UInt8) != (0 : UInt8))), (1, ab s.b), (5, ab (if s.b &&& (1 : UInt8) ≠ (0 : UInt8) then s.p ^^^ s.a else s.p)), (7, ai (↑k : Int))] []) (C := [AV.val (Value.int .u8 (IntKind.u8.wrap (↑(BitVec.ofInt IntKind.u8.bits (bv (s.a <<< (1 : UInt8))) ^^^ BitVec.ofInt IntKind.u8.bits (27 : Int)).toNat : Int))) = ab (s.a <<< (1 : UInt8) ^^^ (27 : UInt8))]) (by kernel_rfl) ⟨(avb_xor (s.a <<< (1 : UInt8)) ((27 : UInt8))), trivial⟩ ?_
        refine then_n ?_
        exact Weaks.of [.keep [0, 1, 5, 7] []] (s1 := AS.mk [(0, ab (s.a <<< (1 : UInt8) ^^^ (27 : UInt8))), (1, ab s.b), (5, ab (if s.b &&& (1 : UInt8) ≠ (0 : UInt8) then s.p ^^^ s.a else s.p)), (7, ai (↑k : Int))] []) (by kernel_rfl) (as_eq (f_cons (by rw [if_pos hc]) (f_cons rfl (f_cons rfl (f_cons rfl rfl)))) rfl)
      · skip
        refine AWP.skip (by kernel_rfl) ?_
        refine then_n ?_
        exact Weaks.of [.keep [0, 1, 5, 7] []] (s1 := AS.mk [(0, ab (s.a <<< (1 : UInt8))), (1, ab s.b), (5, ab (if s.b &&& (1 : UInt8) ≠ (0 : UInt8) then s.p ^^^ s.a else s.p)), (7, ai (↑k : Int))] []) (by kernel_rfl) (as_eq (f_cons (by rw [if_neg (by simpa using hc)]) (f_cons rfl (f_cons rfl (f_cons rfl rfl)))) rfl)
    refine AWP.reg { hs := [(1, { av := some (ab (s.b >>> (1 : UInt8))) })] } (s' := AS.mk [(1, ab (s.b >>> (1 : UInt8))), (24, ab (s.b >>> (1 : UInt8))), (23, ab s.b), (0, ab (if s.a &&& (128 : UInt8) ≠ (0 : UInt8) then s.a <<< (1 : UInt8) ^^^ (27 : UInt8) else s.a <<< (1 : UInt8))), (5, ab (if s.b &&& (1 : UInt8) ≠ (0 : UInt8) then s.p ^^^ s.a else s.p)), (7, ai (↑k : Int))] []) (C := [AV.val (Value.int .u8 ((bv s.b).fdiv ((2 : Int) ^ min (Int.toNat (1 : Int)) IntKind.u8.bits))) = ab (s.b >>> (1 : UInt8)), (0 : Int) ≤ (1 : Int)]) (by kernel_rfl) ⟨(avb_shr (s.b) ((1 : Int)) (by omega) (by omega)), (by omega), trivial⟩ ?_
    refine inb_n ?_
    refine then_n ?_
    refine AWP.reg { hs := [(0, { av := some (ai ((↑k : Int) + (1 : Int))) })] } (s' := AS.mk [(7, ai ((↑k : Int) + (1 : Int))), (25, ai ((↑k : Int) + (1 : Int))), (1, ab (s.b >>> (1 : UInt8))), (24, ab (s.b >>> (1 : UInt8))), (23, ab s.b), (0, ab (if s.a &&& (128 : UInt8) ≠ (0 : UInt8) then s.a <<< (1 : UInt8) ^^^ (27 : UInt8) else s.a <<< (1 : UInt8))), (5, ab (if s.b &&& (1 : UInt8) ≠ (0 : UInt8) then s.p ^^^ s.a else s.p))] []) (C := [ai (IntKind.i64.wrap ((↑k : Int) + (1 : Int))) = ai ((↑k : Int) + (1 : Int))]) (by kernel_rfl) ⟨(av_i64 (by omega) (by omega)), trivial⟩ ?_
    refine round_n (k + 1) (by omega) (by omega) (Weaks.of [.keep [0, 1, 5, 7] []] (s1 := AS.mk [(0, ab (if s.a &&& (128 : UInt8) ≠ (0 : UInt8) then s.a <<< (1 : UInt8) ^^^ (27 : UInt8) else s.a <<< (1 : UInt8))), (1, ab (s.b >>> (1 : UInt8))), (5, ab (if s.b &&& (1 : UInt8) ≠ (0 : UInt8) then s.p ^^^ s.a else s.p)), (7, ai ((↑k : Int) + (1 : Int)))] []) (by kernel_rfl) (as_eq (f_cons (by simp only [msteps, hm, mstep]) (f_cons (by simp only [msteps, hm, mstep]) (f_cons (by simp only [msteps, hm, mstep]) (f_cons rfl rfl)))) rfl))
  · have e8 : k = 8 := by omega
    subst e8
    refine AWP.exit (id := 0) (by kernel_rfl) ?_
    refine then_e ?_
    refine round_e ?_
    refine inb_e ?_
    refine then_n ?_
    refine AWP.regsK 1 [{  }] (by kernel_rfl) (s' := AS.mk [(4, ab s.p), (26, ab s.p), (8, ao (decide ((↑(8 : Nat) : Int) < (8 : Int)))), (0, ab s.a), (1, ab s.b), (5, ab s.p), (7, ai (↑(8 : Nat) : Int))] []) (C := []) (by kernel_rfl) trivial ?_
    refine AWP.ret (by kernel_rfl) ?_
    refine Done.ret_ (C := [Value.int .u8 (bv s.p) = Value.int .u8 (bv (gmul a b))]) (by kernel_rfl) ⟨(by rw [← hm]; rfl), trivial⟩
end Go.Proofs.Ytgjbkdlbhbfeiaa
