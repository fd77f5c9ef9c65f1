/-
  The contracts of sharing.Inverse, passkeyref37.Mul and passkeyref37.Inverse. No condition.
-/
import Derived.Test.YtgjbkdlbhbfeiaaSh1
namespace Go.Proofs.Ytgjbkdlbhbfeiaa
open Go.RowKit
set_option maxRecDepth 100000
set_option maxHeartbeats 4000000
set_option linter.unusedVariables false

/-- The square and the result after some rounds. -/
def isteps (a : UInt8) : Nat → UInt8 × UInt8
  | 0 => (a, 1)
  | k + 1 => (gmul (isteps a k).1 (isteps a k).1, gmul (isteps a k).2 (gmul (isteps a k).1 (isteps a k).1))
def ginv (a : UInt8) : UInt8 := (isteps a 7).2

theorem inverse_ret (a : UInt8) : Ret Try.prog 9 [ab a] (ab (ginv a)) := by
  refine Ret.of_fn Try.func9 (by kernel_rfl) 16 (by kernel_rfl) (by kernel_rfl) ?_
  refine AWP.regsK 3 [{  }, {  }, {  }] (by kernel_rfl) (s' := AS.mk [(4, ab a), (5, ab a), (3, AV.val (Value.int .u8 1)), (2, AV.val (Value.int .u8 0)), (0, ab a)] []) (C := []) (by kernel_rfl) trivial ?_
  refine AWP.seq (by kernel_rfl) ?_
  refine AWP.regsK 1 [{  }] (by kernel_rfl) (s' := AS.mk [(6, ai 0), (4, ab a), (5, ab a), (3, AV.val (Value.int .u8 1)), (2, AV.val (Value.int .u8 0)), (0, ab a)] []) (C := []) (by kernel_rfl) trivial ?_
  refine AWP.block (id := 0) (by kernel_rfl) ?_
  refine AWP.loop (fun (k : Nat) => (⟨[(3, ab (isteps a k).2), (4, ab (isteps a k).1), (6, ai k)], []⟩ : AS)) (fun k => (k ≤ 7)) (fun k => (7 - k)) (by kernel_rfl) (0) ?_ (Weaks.of [.keep [3, 4, 6] []] (s1 := AS.mk [(3, AV.val (Value.int .u8 1)), (4, ab a), (6, ai 0)] []) (by kernel_rfl) rfl) ?_
  · omega
  intro k hk
  refine AWP.regsK 1 [{  }] (by kernel_rfl) (s' := AS.mk [(7, ao (decide ((↑k : Int) < (7 : Int)))), (3, ab ((isteps a k).snd)), (4, ab ((isteps a k).fst)), (6, ai (↑k : Int))] []) (C := []) (by kernel_rfl) trivial ?_
  refine AWP.seq (by kernel_rfl) ?_
  refine AWP.condD (x := .tmp 7) (p := (↑k : Int) < (7 : Int)) (by kernel_rfl) (by kernel_rfl) (fun hc => ?_) (fun hc => ?_)
  · skip
    refine AWP.skip (by kernel_rfl) ?_
    refine then_n ?_
    refine AWP.seq (by kernel_rfl) ?_
    refine AWP.block (id := 1) (by kernel_rfl) ?_
    refine AWP.regsK 1 [{ hs := [(2, { av := some (ab (gmul (isteps a k).fst (isteps a k).fst)) })] }] (by kernel_rfl) (s' := AS.mk [(4, ab (gmul (isteps a k).fst (isteps a k).fst)), (10, ab (gmul (isteps a k).fst (isteps a k).fst)), (9, ab ((isteps a k).fst)), (8, ab ((isteps a k).fst)), (7, ao (decide ((↑k : Int) < (7 : Int)))), (3, ab ((isteps a k).snd)), (6, ai (↑k : Int))] []) (C := [Ret Try.prog (8 : Nat) [ab ((isteps a k).fst), ab ((isteps a k).fst)] (ab (gmul (isteps a k).fst (isteps a k).fst))]) (by kernel_rfl) ⟨(mul_ret ((isteps a k).fst) ((isteps a k).fst)), trivial⟩ ?_
    refine AWP.wk [.keep [4, 7, 3, 6] []] (s' := AS.mk [(4, ab (gmul (isteps a k).fst (isteps a k).fst)), (7, ao (decide ((↑k : Int) < (7 : Int)))), (3, ab ((isteps a k).snd)), (6, ai (↑k : Int))] []) (by kernel_rfl) ?_
    refine AWP.reg { hs := [(2, { av := some (ab (gmul (isteps a k).snd (gmul (isteps a k).fst (isteps a k).fst))) })] } (s' := AS.mk [(3, ab (gmul (isteps a k).snd (gmul (isteps a k).fst (isteps a k).fst))), (13, ab (gmul (isteps a k).snd (gmul (isteps a k).fst (isteps a k).fst))), (12, ab (gmul (isteps a k).fst (isteps a k).fst)), (11, ab ((isteps a k).snd)), (4, ab (gmul (isteps a k).fst (isteps a k).fst)), (7, ao (decide ((↑k : Int) < (7 : Int)))), (6, ai (↑k : Int))] []) (C := [Ret Try.prog (8 : Nat) [ab ((isteps a k).snd), ab (gmul (isteps a k).fst (isteps a k).fst)] (ab (gmul (isteps a k).snd (gmul (isteps a k).fst (isteps a k).fst)))]) (by kernel_rfl) ⟨(mul_ret ((isteps a k).snd) (gmul (isteps a k).fst (isteps a k).fst)), trivial⟩ ?_
    refine inb_n ?_
    refine then_n ?_
    refine AWP.reg { hs := [(0, { av := some (ai ((↑k : Int) + (1 : Int))) })] } (s' := AS.mk [(6, ai ((↑k : Int) + (1 : Int))), (14, ai ((↑k : Int) + (1 : Int))), (3, ab (gmul (isteps a k).snd (gmul (isteps a k).fst (isteps a k).fst))), (13, ab (gmul (isteps a k).snd (gmul (isteps a k).fst (isteps a k).fst))), (12, ab (gmul (isteps a k).fst (isteps a k).fst)), (11, ab ((isteps a k).snd)), (4, ab (gmul (isteps a k).fst (isteps a k).fst)), (7, ao (decide ((↑k : Int) < (7 : Int))))] []) (C := [ai (IntKind.i64.wrap ((↑k : Int) + (1 : Int))) = ai ((↑k : Int) + (1 : Int))]) (by kernel_rfl) ⟨(av_i64 (by omega) (by omega)), trivial⟩ ?_
    refine round_n (k + 1) (by omega) (by omega) (Weaks.of [.keep [3, 4, 6] []] (s1 := AS.mk [(3, ab (gmul (isteps a k).snd (gmul (isteps a k).fst (isteps a k).fst))), (4, ab (gmul (isteps a k).fst (isteps a k).fst)), (6, ai ((↑k : Int) + (1 : Int)))] []) (by kernel_rfl) rfl)
  · have e8 : k = 7 := by omega
    subst e8
    refine AWP.exit (id := 0) (by kernel_rfl) ?_
    refine then_e ?_
    refine round_e ?_
    refine inb_e ?_
    refine then_n ?_
    refine AWP.regsK 1 [{  }] (by kernel_rfl) (s' := AS.mk [(2, ab ((isteps a (7 : Nat)).snd)), (15, ab ((isteps a (7 : Nat)).snd)), (7, ao (decide ((↑(7 : Nat) : Int) < (7 : Int)))), (3, ab ((isteps a (7 : Nat)).snd)), (4, ab ((isteps a (7 : Nat)).fst)), (6, ai (↑(7 : Nat) : Int))] []) (C := []) (by kernel_rfl) trivial ?_
    refine AWP.ret (by kernel_rfl) ?_
    refine Done.ret_ (C := [Value.int .u8 (bv (isteps a (7 : Nat)).snd) = Value.int .u8 (bv (ginv a))]) (by kernel_rfl) ⟨rfl, trivial⟩

structure RS where
  x : UInt64
  p : UInt8
def rstep (b : UInt8) (k : Nat) (s : RS) : RS := ⟨if (s.x <<< 1) &&& 256 ≠ 0 then (s.x <<< 1) ^^^ 283 else s.x <<< 1, if (b >>> UInt8.ofNat k) &&& 1 = 1 then s.p ^^^ s.x.toUInt8 else s.p⟩
def rsteps (a b : UInt8) : Nat → RS
  | 0 => ⟨a.toUInt64, 0⟩
  | k + 1 => rstep b k (rsteps a b k)
def rgmul (a b : UInt8) : UInt8 := (rsteps a b 8).p
theorem refmul_ret (a b : UInt8) : Ret Try.prog 10 [ab a, ab b] (ab (rgmul a b)) := by
  refine Ret.of_fn Try.func10 (by kernel_rfl) 31 (by kernel_rfl) (by kernel_rfl) ?_
  refine AWP.regsK 3 [{  }, {  }, { hs := [(1, { av := some (aw a.toUInt64) })] }] (by kernel_rfl) (s' := AS.mk [(6, aw a.toUInt64), (9, aw a.toUInt64), (8, ab a), (5, AV.val (Value.int .u8 0)), (4, AV.val (Value.int .u8 0)), (0, ab a), (1, ab b)] []) (C := [AV.val (Value.int .u64 (IntKind.u64.wrap (bv a))) = aw a.toUInt64]) (by kernel_rfl) ⟨(avw_bv (a)), trivial⟩ ?_
  refine AWP.wk [.keep [6, 5, 4, 0, 1] []] (s' := AS.mk [(6, aw a.toUInt64), (5, AV.val (Value.int .u8 0)), (4, AV.val (Value.int .u8 0)), (0, ab a), (1, ab b)] []) (by kernel_rfl) ?_
  refine AWP.seq (by kernel_rfl) ?_
  refine AWP.regsK 1 [{  }] (by kernel_rfl) (s' := AS.mk [(7, AV.val (Value.int .u64 0)), (6, aw a.toUInt64), (5, AV.val (Value.int .u8 0)), (4, AV.val (Value.int .u8 0)), (0, ab a), (1, ab b)] []) (C := []) (by kernel_rfl) trivial ?_
  refine AWP.block (id := 0) (by kernel_rfl) ?_
  refine AWP.loop (fun (k : Nat) => (⟨[(1, ab b), (5, ab (rsteps a b k).p), (6, aw (rsteps a b k).x), (7, AV.val (.int .u64 k))], []⟩ : AS)) (fun k => (k ≤ 8)) (fun k => (8 - k)) (by kernel_rfl) (0) ?_ (Weaks.of [.keep [1, 5, 6, 7] []] (s1 := AS.mk [(1, ab b), (5, AV.val (Value.int .u8 0)), (6, aw a.toUInt64), (7, AV.val (Value.int .u64 0))] []) (by kernel_rfl) rfl) ?_
  · omega
  intro k hk
  generalize hm : rsteps a b k = s
  refine AWP.seq (by kernel_rfl) ?_
  refine AWP.regsK 1 [{  }] (by kernel_rfl) (s' := AS.mk [(11, ao (decide ((↑k : Int) < (8 : Int)))), (10, AV.val (Value.int .u64 (↑k : Int))), (1, ab b), (5, ab s.p), (6, aw s.x), (7, AV.val (Value.int .u64 (↑k : Int)))] []) (C := []) (by kernel_rfl) trivial ?_
  refine AWP.condD (x := .tmp 11) (p := (↑k : Int) < (8 : Int)) (by kernel_rfl) (by kernel_rfl) (fun hc => ?_) (fun hc => ?_)
  · skip
    refine AWP.skip (by kernel_rfl) ?_
    refine then_n ?_
    refine AWP.seq (by kernel_rfl) ?_
    refine AWP.block (id := 1) (by kernel_rfl) ?_
    refine AWP.join (⟨[(1, ab b), (5, ab (if (b >>> UInt8.ofNat k) &&& 1 = 1 then s.p ^^^ s.x.toUInt8 else s.p)), (6, aw s.x), (7, AV.val (Value.int .u64 (↑k : Int)))], []⟩ : AS) (by kernel_rfl) ?_ ?_
    · refine AWP.regsK 1 [{ hs := [(2, { av := some (ab (b >>> UInt8.ofNat (↑k : Int).toNat)) }), (3, { av := some (ab (b >>> UInt8.ofNat (↑k : Int).toNat &&& (1 : UInt8))) }), (4, { av := some (ao (b >>> UInt8.ofNat (↑k : Int).toNat &&& (1 : UInt8) == (1 : UInt8))) })] }] (by kernel_rfl) (s' := AS.mk [(18, ao (b >>> UInt8.ofNat (↑k : Int).toNat &&& (1 : UInt8) == (1 : UInt8))), (17, ab (b >>> UInt8.ofNat (↑k : Int).toNat &&& (1 : UInt8))), (16, ab (b >>> UInt8.ofNat (↑k : Int).toNat)), (15, AV.val (Value.int .u64 (↑k : Int))), (14, ab b), (11, ao (decide ((↑k : Int) < (8 : Int)))), (10, AV.val (Value.int .u64 (↑k : Int))), (1, ab b), (5, ab s.p), (6, aw s.x), (7, AV.val (Value.int .u64 (↑k : Int)))] []) (C := [AV.val (Value.int .u8 ((bv b).fdiv ((2 : Int) ^ min (↑k : Int).toNat IntKind.u8.bits))) = ab (b >>> UInt8.ofNat (↑k : Int).toNat), (0 : Int) ≤ (↑k : Int), AV.val (Value.int .u8 (IntKind.u8.wrap (↑(BitVec.ofInt IntKind.u8.bits (bv (b >>> UInt8.ofNat (↑k : Int).toNat)) &&& BitVec.ofInt IntKind.u8.bits (1 : Int)).toNat : Int))) = ab (b >>> UInt8.ofNat (↑k : Int).toNat &&& (1 : UInt8)), ao (bv (b >>> UInt8.ofNat (↑k : Int).toNat &&& (1 : UInt8)) == (1 : Int)) = ao (b >>> UInt8.ofNat (↑k : Int).toNat &&& (1 : UInt8) == (1 : UInt8))]) (by kernel_rfl) ⟨(avb_shr (b) ((↑k : Int)) (by omega) (by omega)), (by omega), (avb_and (b >>> UInt8.ofNat (↑k : Int).toNat) ((1 : UInt8))), (avb_eq (b >>> UInt8.ofNat (↑k : Int).toNat &&& (1 : UInt8)) ((1 : UInt8))), trivial⟩ ?_
      refine AWP.condE (x := .tmp 18) (u := b >>> UInt8.ofNat (↑k : Int).toNat &&& (1 : UInt8)) (v := (1 : UInt8)) (by kernel_rfl) (by kernel_rfl) (fun hc => ?_) (fun hc => ?_)
      · skip
        refine AWP.reg { hs := [(2, { av := some (ab s.x.toUInt8) }), (3, { av := some (ab (s.p ^^^ s.x.toUInt8)) })] } (s' := AS.mk [(5, ab (s.p ^^^ s.x.toUInt8)), (22, ab (s.p ^^^ s.x.toUInt8)), (21, ab s.x.toUInt8), (20, aw s.x), (19, ab s.p), (18, ao (b >>> UInt8.ofNat (↑k : Int).toNat &&& (1 : UInt8) == (1 : UInt8))), (17, ab (b >>> UInt8.ofNat (↑k : Int).toNat &&& (1 : UInt8))), (16, ab (b >>> UInt8.ofNat (↑k : Int).toNat)), (15, AV.val (Value.int .u64 (↑k : Int))), (14, ab b), (11, ao (decide ((↑k : Int) < (8 : Int)))), (10, AV.val (Value.int .u64 (↑k : Int))), (1, ab b), (6, aw s.x), (7, AV.val (Value.int .u64 (↑k : Int)))] []) (C := [AV.val (Value.int .u8 (IntKind.u8.wrap (wv s.x))) = ab s.x.toUInt8, AV.val (Value.int .u8 (IntKind.u8.wrap (↑(BitVec.ofInt IntKind.u8.bits (bv s.p) ^^^ BitVec.ofInt IntKind.u8.bits (bv s.x.toUInt8)).toNat : Int))) = ab (s.p ^^^ s.x.toUInt8)]) (by kernel_rfl) ⟨(avb_wv (s.x)), (avb_xor (s.p) (s.x.toUInt8)), trivial⟩ ?_
        refine then_n ?_
        exact Weaks.of [.keep [1, 5, 6, 7] []] (s1 := AS.mk [(1, ab b), (5, ab (s.p ^^^ s.x.toUInt8)), (6, aw s.x), (7, AV.val (Value.int .u64 (↑k : Int)))] []) (by kernel_rfl) (as_eq (f_cons rfl (f_cons (by rw [if_pos (by simpa using hc)]) (f_cons rfl (f_cons rfl rfl)))) rfl)
      · skip
        refine AWP.skip (by kernel_rfl) ?_
        refine then_n ?_
        exact Weaks.of [.keep [1, 5, 6, 7] []] (s1 := AS.mk [(1, ab b), (5, ab s.p), (6, aw s.x), (7, AV.val (Value.int .u64 (↑k : Int)))] []) (by kernel_rfl) (as_eq (f_cons rfl (f_cons (by rw [if_neg (by simpa using hc)]) (f_cons rfl (f_cons rfl rfl)))) rfl)
    refine AWP.regsK 2 [{ hs := [(1, { av := some (aw (s.x <<< (1 : UInt64))) })] }, { hs := [(1, { av := some (aw (s.x <<< (1 : UInt64) &&& (256 : UInt64))) }), (2, { av := some (ao (s.x <<< (1 : UInt64) &&& (256 : UInt64) != (0 : UInt64))) })] }] (by kernel_rfl) (s' := AS.mk [(27, ao (s.x <<< (1 : UInt64) &&& (256 : UInt64) != (0 : UInt64))), (26, aw (s.x <<< (1 : UInt64) &&& (256 : UInt64))), (25, aw (s.x <<< (1 : UInt64))), (6, aw (s.x <<< (1 : UInt64))), (24, aw (s.x <<< (1 : UInt64))), (23, aw s.x), (1, ab b), (5, ab (if b >>> UInt8.ofNat k &&& (1 : UInt8) = (1 : UInt8) then s.p ^^^ s.x.toUInt8 else s.p)), (7, AV.val (Value.int .u64 (↑k : Int)))] []) (C := [AV.val (Value.int .u64 (IntKind.u64.wrap (wv s.x * (2 : Int) ^ min (Int.toNat (1 : Int)) IntKind.u64.bits))) = aw (s.x <<< (1 : UInt64)), (0 : Int) ≤ (1 : Int), AV.val (Value.int .u64 (IntKind.u64.wrap (↑(BitVec.ofInt IntKind.u64.bits (wv (s.x <<< (1 : UInt64))) &&& BitVec.ofInt IntKind.u64.bits (256 : Int)).toNat : Int))) = aw (s.x <<< (1 : UInt64) &&& (256 : UInt64)), ao (wv (s.x <<< (1 : UInt64) &&& (256 : UInt64)) != (0 : Int)) = ao (s.x <<< (1 : UInt64) &&& (256 : UInt64) != (0 : UInt64))]) (by kernel_rfl) ⟨(avw_shl (s.x) ((1 : Int)) (by omega) (by omega)), (by omega), (avw_and (s.x <<< (1 : UInt64)) ((256 : UInt64))), (avw_ne (s.x <<< (1 : UInt64) &&& (256 : UInt64)) ((0 : UInt64))), trivial⟩ ?_
    refine AWP.wk [.keep [27, 6, 1, 5, 7] []] (s' := AS.mk [(27, ao (s.x <<< (1 : UInt64) &&& (256 : UInt64) != (0 : UInt64))), (6, aw (s.x <<< (1 : UInt64))), (1, ab b), (5, ab (if b >>> UInt8.ofNat k &&& (1 : UInt8) = (1 : UInt8) then s.p ^^^ s.x.toUInt8 else s.p)), (7, AV.val (Value.int .u64 (↑k : Int)))] []) (by kernel_rfl) ?_
    refine AWP.condN (x := .tmp 27) (u := s.x <<< (1 : UInt64) &&& (256 : UInt64)) (v := (0 : UInt64)) (by kernel_rfl) (by kernel_rfl) (fun h2 => ?_) (fun h2 => ?_)
    · refine AWP.reg { hs := [(1, { av := some (aw (s.x <<< (1 : UInt64) ^^^ (283 : UInt64))) })] } (s' := AS.mk [(6, aw (s.x <<< (1 : UInt64) ^^^ (283 : UInt64))), (29, aw (s.x <<< (1 : UInt64) ^^^ (283 : UInt64))), (28, aw (s.x <<< (1 : UInt64))), (27, ao (s.x <<< (1 : UInt64) &&& (256 : UInt64) != (0 : UInt64))), (1, ab b), (5, ab (if b >>> UInt8.ofNat k &&& (1 : UInt8) = (1 : UInt8) then s.p ^^^ s.x.toUInt8 else s.p)), (7, AV.val (Value.int .u64 (↑k : Int)))] []) (C := [AV.val (Value.int .u64 (IntKind.u64.wrap (↑(BitVec.ofInt IntKind.u64.bits (wv (s.x <<< (1 : UInt64))) ^^^ BitVec.ofInt IntKind.u64.bits (283 : Int)).toNat : Int))) = aw (s.x <<< (1 : UInt64) ^^^ (283 : UInt64))]) (by kernel_rfl) ⟨(avw_xor (s.x <<< (1 : UInt64)) ((283 : UInt64))), trivial⟩ ?_
      refine inb_n ?_
      refine then_n ?_
      refine AWP.reg { hs := [(1, { av := some (AV.val (Value.int .u64 ((↑k : Int) + (1 : Int)))) })] } (s' := AS.mk [(7, AV.val (Value.int .u64 ((↑k : Int) + (1 : Int)))), (13, AV.val (Value.int .u64 ((↑k : Int) + (1 : Int)))), (12, AV.val (Value.int .u64 (↑k : Int))), (6, aw (s.x <<< (1 : UInt64) ^^^ (283 : UInt64))), (29, aw (s.x <<< (1 : UInt64) ^^^ (283 : UInt64))), (28, aw (s.x <<< (1 : UInt64))), (27, ao (s.x <<< (1 : UInt64) &&& (256 : UInt64) != (0 : UInt64))), (1, ab b), (5, ab (if b >>> UInt8.ofNat k &&& (1 : UInt8) = (1 : UInt8) then s.p ^^^ s.x.toUInt8 else s.p))] []) (C := [AV.val (Value.int .u64 (IntKind.u64.wrap ((↑k : Int) + (1 : Int)))) = AV.val (Value.int .u64 ((↑k : Int) + (1 : Int)))]) (by kernel_rfl) ⟨(av_u64 (by omega) (by omega)), trivial⟩ ?_
      refine round_n (k + 1) (by omega) (by omega) (Weaks.of [.keep [1, 5, 6, 7] []] (s1 := AS.mk [(1, ab b), (5, ab (if b >>> UInt8.ofNat k &&& (1 : UInt8) = (1 : UInt8) then s.p ^^^ s.x.toUInt8 else s.p)), (6, aw (s.x <<< (1 : UInt64) ^^^ (283 : UInt64))), (7, AV.val (Value.int .u64 ((↑k : Int) + (1 : Int))))] []) (by kernel_rfl) (as_eq (f_cons rfl (f_cons (by simp only [rsteps, hm, rstep] <;> rw [if_pos (by simpa using h2)]) (f_cons (by simp only [rsteps, hm, rstep] <;> rw [if_pos (by simpa using h2)]) (f_cons rfl rfl)))) rfl))
    · refine AWP.skip (by kernel_rfl) ?_
      refine inb_n ?_
      refine then_n ?_
      refine AWP.reg { hs := [(1, { av := some (AV.val (Value.int .u64 ((↑k : Int) + (1 : Int)))) })] } (s' := AS.mk [(7, AV.val (Value.int .u64 ((↑k : Int) + (1 : Int)))), (13, AV.val (Value.int .u64 ((↑k : Int) + (1 : Int)))), (12, AV.val (Value.int .u64 (↑k : Int))), (27, ao (s.x <<< (1 : UInt64) &&& (256 : UInt64) != (0 : UInt64))), (6, aw (s.x <<< (1 : UInt64))), (1, ab b), (5, ab (if b >>> UInt8.ofNat k &&& (1 : UInt8) = (1 : UInt8) then s.p ^^^ s.x.toUInt8 else s.p))] []) (C := [AV.val (Value.int .u64 (IntKind.u64.wrap ((↑k : Int) + (1 : Int)))) = AV.val (Value.int .u64 ((↑k : Int) + (1 : Int)))]) (by kernel_rfl) ⟨(av_u64 (by omega) (by omega)), trivial⟩ ?_
      refine round_n (k + 1) (by omega) (by omega) (Weaks.of [.keep [1, 5, 6, 7] []] (s1 := AS.mk [(1, ab b), (5, ab (if b >>> UInt8.ofNat k &&& (1 : UInt8) = (1 : UInt8) then s.p ^^^ s.x.toUInt8 else s.p)), (6, aw (s.x <<< (1 : UInt64))), (7, AV.val (Value.int .u64 ((↑k : Int) + (1 : Int))))] []) (by kernel_rfl) (as_eq (f_cons rfl (f_cons (by simp only [rsteps, hm, rstep] <;> rw [if_neg (by simpa using h2)]) (f_cons (by simp only [rsteps, hm, rstep] <;> rw [if_neg (by simpa using h2)]) (f_cons rfl rfl)))) rfl))
  · have e8 : k = 8 := by omega
    subst e8
    refine AWP.exit (id := 0) (by kernel_rfl) ?_
    refine then_e ?_
    refine round_e ?_
    refine inb_e ?_
    refine then_n ?_
    refine AWP.regsK 1 [{  }] (by kernel_rfl) (s' := AS.mk [(4, ab s.p), (30, ab s.p), (11, ao (decide ((↑(8 : Nat) : Int) < (8 : Int)))), (10, AV.val (Value.int .u64 (↑(8 : Nat) : Int))), (1, ab b), (5, ab s.p), (6, aw s.x), (7, AV.val (Value.int .u64 (↑(8 : Nat) : Int)))] []) (C := []) (by kernel_rfl) trivial ?_
    refine AWP.wk [.keep [4, 11, 1, 5, 6, 7] []] (s' := AS.mk [(4, ab s.p), (11, ao (decide ((↑(8 : Nat) : Int) < (8 : Int)))), (1, ab b), (5, ab s.p), (6, aw s.x), (7, AV.val (Value.int .u64 (↑(8 : Nat) : Int)))] []) (by kernel_rfl) ?_
    refine AWP.ret (by kernel_rfl) ?_
    refine Done.ret_ (C := [Value.int .u8 (bv s.p) = Value.int .u8 (bv (rgmul a b))]) (by kernel_rfl) ⟨(by rw [← hm]; rfl), trivial⟩
/-- The power. -/
def gpow (a : UInt8) : Nat → UInt8
  | 0 => 1
  | k + 1 => rgmul (gpow a k) a
theorem refinverse_ret (a : UInt8) : Ret Try.prog 12 [ab a] (ab (gpow a 254)) := by
  refine Ret.of_fn Try.func12 (by kernel_rfl) 13 (by kernel_rfl) (by kernel_rfl) ?_
  refine AWP.regsK 2 [{  }, {  }] (by kernel_rfl) (s' := AS.mk [(3, AV.val (Value.int .u8 1)), (2, AV.val (Value.int .u8 0)), (0, ab a)] []) (C := []) (by kernel_rfl) trivial ?_
  refine AWP.seq (by kernel_rfl) ?_
  refine AWP.regsK 1 [{  }] (by kernel_rfl) (s' := AS.mk [(4, ai 0), (3, AV.val (Value.int .u8 1)), (2, AV.val (Value.int .u8 0)), (0, ab a)] []) (C := []) (by kernel_rfl) trivial ?_
  refine AWP.block (id := 0) (by kernel_rfl) ?_
  refine AWP.loop (fun (k : Nat) => (⟨[(0, ab a), (3, ab (gpow a k)), (4, ai k)], []⟩ : AS)) (fun k => (k ≤ 254)) (fun k => (254 - k)) (by kernel_rfl) (0) ?_ (Weaks.of [.keep [0, 3, 4] []] (s1 := AS.mk [(0, ab a), (3, AV.val (Value.int .u8 1)), (4, ai 0)] []) (by kernel_rfl) rfl) ?_
  · omega
  intro k hk
  refine AWP.seq (by kernel_rfl) ?_
  refine AWP.regsK 1 [{  }] (by kernel_rfl) (s' := AS.mk [(6, ao (decide ((↑k : Int) < (254 : Int)))), (5, ai (↑k : Int)), (0, ab a), (3, ab (gpow a k)), (4, ai (↑k : Int))] []) (C := []) (by kernel_rfl) trivial ?_
  refine AWP.condD (x := .tmp 6) (p := (↑k : Int) < (254 : Int)) (by kernel_rfl) (by kernel_rfl) (fun hc => ?_) (fun hc => ?_)
  · skip
    refine AWP.skip (by kernel_rfl) ?_
    refine then_n ?_
    refine AWP.seq (by kernel_rfl) ?_
    refine AWP.block (id := 1) (by kernel_rfl) ?_
    refine AWP.reg { hs := [(2, { av := some (ab (rgmul (gpow a k) a)) })] } (s' := AS.mk [(3, ab (rgmul (gpow a k) a)), (11, ab (rgmul (gpow a k) a)), (10, ab a), (9, ab (gpow a k)), (6, ao (decide ((↑k : Int) < (254 : Int)))), (5, ai (↑k : Int)), (0, ab a), (4, ai (↑k : Int))] []) (C := [Ret Try.prog (10 : Nat) [ab (gpow a k), ab a] (ab (rgmul (gpow a k) a))]) (by kernel_rfl) ⟨(refmul_ret (gpow a k) (a)), trivial⟩ ?_
    refine inb_n ?_
    refine then_n ?_
    refine AWP.reg { hs := [(1, { av := some (ai ((↑k : Int) + (1 : Int))) })] } (s' := AS.mk [(4, ai ((↑k : Int) + (1 : Int))), (8, ai ((↑k : Int) + (1 : Int))), (7, ai (↑k : Int)), (3, ab (rgmul (gpow a k) a)), (11, ab (rgmul (gpow a k) a)), (10, ab a), (9, ab (gpow a k)), (6, ao (decide ((↑k : Int) < (254 : Int)))), (5, ai (↑k : Int)), (0, ab a)] []) (C := [ai (IntKind.i64.wrap ((↑k : Int) + (1 : Int))) = ai ((↑k : Int) + (1 : Int))]) (by kernel_rfl) ⟨(av_i64 (by omega) (by omega)), trivial⟩ ?_
    refine round_n (k + 1) (by omega) (by omega) (Weaks.of [.keep [0, 3, 4] []] (s1 := AS.mk [(0, ab a), (3, ab (rgmul (gpow a k) a)), (4, ai ((↑k : Int) + (1 : Int)))] []) (by kernel_rfl) rfl)
  · have e8 : k = 254 := by omega
    subst e8
    refine AWP.exit (id := 0) (by kernel_rfl) ?_
    refine then_e ?_
    refine round_e ?_
    refine inb_e ?_
    refine then_n ?_
    refine AWP.regsK 1 [{  }] (by kernel_rfl) (s' := AS.mk [(2, ab (gpow a (254 : Nat))), (12, ab (gpow a (254 : Nat))), (6, ao (decide ((↑(254 : Nat) : Int) < (254 : Int)))), (5, ai (↑(254 : Nat) : Int)), (0, ab a), (3, ab (gpow a (254 : Nat))), (4, ai (↑(254 : Nat) : Int))] []) (C := []) (by kernel_rfl) trivial ?_
    refine AWP.wk [.keep [2, 6, 0, 3, 4] []] (s' := AS.mk [(2, ab (gpow a (254 : Nat))), (6, ao (decide ((↑(254 : Nat) : Int) < (254 : Int)))), (0, ab a), (3, ab (gpow a (254 : Nat))), (4, ai (↑(254 : Nat) : Int))] []) (by kernel_rfl) ?_
    refine AWP.ret (by kernel_rfl) ?_
    refine Done.ret_ (C := [Value.int .u8 (bv (gpow a (254 : Nat))) = Value.int .u8 (bv (gpow a (254 : Nat)))]) (by kernel_rfl) ⟨rfl, trivial⟩
end Go.Proofs.Ytgjbkdlbhbfeiaa
