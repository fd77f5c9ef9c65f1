import Derived.Test.YtejpabdmiagnnaaDoorZaV8
import Derived.Test.YtejpabdmiagnnaaDoorProg
set_option linter.all false
namespace Go.Proofs.YtejpabdmiagnnaaDoor
open Go.RowKit
set_option maxRecDepth 100000
set_option maxHeartbeats 4000000
set_option linter.unusedVariables false
structure MS where
 a : UInt8
 b : UInt8
 p : UInt8
def mstep (s : MS) : MS := ⟨if s.a &&& 128 ≠ 0 then (s.a <<< 1) ^^^ 27 else s.a <<< 1, s.b >>> 1, if s.b &&& 1 ≠ 0 then s.p ^^^ s.a else s.p⟩
def msteps (s : MS) : Nat -> MS
 | 0 => s
 | k + 1 => mstep (msteps s k)
def gmul (a b : UInt8) : UInt8 := (msteps ⟨a, b, 0⟩ 8).p
theorem mul_ret (a b : UInt8) : Ret Tryd.prog 62 [ab a, ab b] (ab (gmul a b)) := by
 refine Ret.of_fn Tryd.func62 (by kernel_rfl) 27 (by kernel_rfl) (by kernel_rfl) ?_
 refine AWP.regsKX 2 [{}, {}] (by kernel_rfl) (C := []) (by kernel_rfl) trivial ?_
 refine AWP.seq (by kernel_rfl) ?_
 refine AWP.regsKX 1 [{}] (by kernel_rfl) (C := []) (by kernel_rfl) trivial ?_
 refine AWP.block (id := 0) (by kernel_rfl) ?_
 refine AWP.loop (fun (k : Nat) => (⟨[(0, ab (msteps ⟨a, b, 0⟩ k).a), (1, ab (msteps ⟨a, b, 0⟩ k).b), (5, ab (msteps ⟨a, b, 0⟩ k).p), (7, ai k)], []⟩ : AS)) (fun k => (k ≤ 8)) (fun k => (8 - k)) (by kernel_rfl) (0) ?_ (Weaks.ofX [.keep [0, 1, 5, 7] []] (by kernel_rfl)) ?_
 ·omega
 intro k hk
 generalize hm : msteps ⟨a, b, 0⟩ k = s
 refine AWP.regsKX 1 [{}] (by kernel_rfl) (C := []) (by kernel_rfl) trivial ?_
 refine AWP.seq (by kernel_rfl) ?_
 refine AWP.condD (x := .tmp 8) (p := (↑k : Int) < 8) (by kernel_rfl) (by kernel_rfl) (fun hc => ?_) (fun hc => ?_)
 ·skip
  refine AWP.skip (by kernel_rfl) ?_
  refine then_n ?_
  refine AWP.seq (by kernel_rfl) ?_
  refine AWP.block (id := 1) (by kernel_rfl) ?_
  refine AWP.join (⟨[(0, ab s.a), (1, ab s.b), (5, ab (if s.b &&& 1 ≠ 0 then s.p ^^^ s.a else s.p)), (7, ai (↑k : Int))], []⟩ : AS) (by kernel_rfl) ?_ ?_
  ·refine AWP.regsPX 1 [{ hs := [(1, { av := some (ab (s.b &&& (1 : UInt8))) }), (2, { av := some (ao (s.b &&& (1 : UInt8) != 0)) })] }] [.keep [11, 8, 0, 1, 5, 7] []] (by kernel_rfl) (C := [AV.val (Value.int .u8 (IntKind.u8.wrap (↑(BitVec.ofInt IntKind.u8.bits (bv s.b) &&& BitVec.ofInt IntKind.u8.bits (1 : Int)).toNat : Int))) = ab (s.b &&& (1 : UInt8)), ao (bv (s.b &&& (1 : UInt8)) != (0 : Int)) = ao (s.b &&& (1 : UInt8) != 0)]) (by kernel_rfl) ⟨(avb_and (s.b) (1)), (avb_ne (s.b &&& (1 : UInt8)) (0)), trivial⟩ ?_
   refine AWP.condN (x := .tmp 11) (u := s.b &&& (1 : UInt8)) (v := 0) (by kernel_rfl) (by kernel_rfl) (fun hc => ?_) (fun hc => ?_)
   ·skip
    refine AWP.regX { hs := [(2, { av := some (ab (s.p ^^^ s.a)) })] } (C := [AV.val (Value.int .u8 (IntKind.u8.wrap (↑(BitVec.ofInt IntKind.u8.bits (bv s.p) ^^^ BitVec.ofInt IntKind.u8.bits (bv s.a)).toNat : Int))) = ab (s.p ^^^ s.a)]) (by kernel_rfl) ⟨(avb_xor (s.p) (s.a)), trivial⟩ ?_
    refine then_n ?_
    exact Weaks.of [.keep [0, 1, 5, 7] []] (s1 := AS.mk [(0, ab s.a), (1, ab s.b), (5, ab (s.p ^^^ s.a)), (7, ai (↑k : Int))] []) (by kernel_rfl) (as_eq (f_cons rfl (f_cons rfl (f_cons (by rw [if_pos hc]) (f_cons rfl rfl)))) rfl)
   ·skip
    refine AWP.skip (by kernel_rfl) ?_
    refine then_n ?_
    exact Weaks.of [.keep [0, 1, 5, 7] []] (s1 := AS.mk [(0, ab s.a), (1, ab s.b), (5, ab s.p), (7, ai (↑k : Int))] []) (by kernel_rfl) (as_eq (f_cons rfl (f_cons rfl (f_cons (by rw [if_neg (by simpa using hc)]) (f_cons rfl rfl)))) rfl)
  refine AWP.regsPX 2 [{ hs := [(1, { av := some (ab (s.a &&& (128 : UInt8))) }), (2, { av := some (ao (s.a &&& (128 : UInt8) != 0)) })] }, { hs := [(1, { av := some (ab (s.a <<< (1 : UInt8))) })] }] [.keep [0, 6, 1, 5, 7] []] (by kernel_rfl) (C := [AV.val (Value.int .u8 (IntKind.u8.wrap (↑(BitVec.ofInt IntKind.u8.bits (bv s.a) &&& BitVec.ofInt IntKind.u8.bits (128 : Int)).toNat : Int))) = ab (s.a &&& (128 : UInt8)), ao (bv (s.a &&& (128 : UInt8)) != (0 : Int)) = ao (s.a &&& (128 : UInt8) != 0), AV.val (Value.int .u8 (IntKind.u8.wrap (bv s.a * (2 : Int) ^ min (Int.toNat (1 : Int)) IntKind.u8.bits))) = ab (s.a <<< (1 : UInt8)), (0 : Int) ≤ 1]) (by kernel_rfl) ⟨(avb_and (s.a) (128)), (avb_ne (s.a &&& (128 : UInt8)) (0)), (avb_shl (s.a) ((1 : Int)) (by omega) (by omega)), (by omega), trivial⟩ ?_
  refine AWP.join (⟨[(0, ab (if s.a &&& 128 ≠ 0 then (s.a <<< 1) ^^^ 27 else s.a <<< 1)), (1, ab s.b), (5, ab (if s.b &&& (1 : UInt8) ≠ 0 then s.p ^^^ s.a else s.p)), (7, ai (↑k : Int))], []⟩ : AS) (by kernel_rfl) ?_ ?_
  ·refine AWP.regsKX 1 [{}] (by kernel_rfl) (C := []) (by kernel_rfl) trivial ?_
   refine AWP.condN (x := .tmp 20) (u := s.a &&& (128 : UInt8)) (v := 0) (by kernel_rfl) (by kernel_rfl) (fun hc => ?_) (fun hc => ?_)
   ·skip
    refine AWP.regX { hs := [(1, { av := some (ab (s.a <<< (1 : UInt8) ^^^ (27 : UInt8))) })] } (C := [AV.val (Value.int .u8 (IntKind.u8.wrap (↑(BitVec.ofInt IntKind.u8.bits (bv (s.a <<< (1 : UInt8))) ^^^ BitVec.ofInt IntKind.u8.bits (27 : Int)).toNat : Int))) = ab (s.a <<< (1 : UInt8) ^^^ (27 : UInt8))]) (by kernel_rfl) ⟨(avb_xor (s.a <<< (1 : UInt8)) (27)), trivial⟩ ?_
    refine then_n ?_
    exact Weaks.of [.keep [0, 1, 5, 7] []] (s1 := AS.mk [(0, ab (s.a <<< (1 : UInt8) ^^^ (27 : UInt8))), (1, ab s.b), (5, ab (if s.b &&& (1 : UInt8) ≠ 0 then s.p ^^^ s.a else s.p)), (7, ai (↑k : Int))] []) (by kernel_rfl) (as_eq (f_cons (by rw [if_pos hc]) (f_cons rfl (f_cons rfl (f_cons rfl rfl)))) rfl)
   ·skip
    refine AWP.skip (by kernel_rfl) ?_
    refine then_n ?_
    exact Weaks.of [.keep [0, 1, 5, 7] []] (s1 := AS.mk [(0, ab (s.a <<< (1 : UInt8))), (1, ab s.b), (5, ab (if s.b &&& (1 : UInt8) ≠ 0 then s.p ^^^ s.a else s.p)), (7, ai (↑k : Int))] []) (by kernel_rfl) (as_eq (f_cons (by rw [if_neg (by simpa using hc)]) (f_cons rfl (f_cons rfl (f_cons rfl rfl)))) rfl)
  refine AWP.regX { hs := [(1, { av := some (ab (s.b >>> (1 : UInt8))) })] } (C := [AV.val (Value.int .u8 ((bv s.b).fdiv ((2 : Int) ^ min (Int.toNat (1 : Int)) IntKind.u8.bits))) = ab (s.b >>> (1 : UInt8)), (0 : Int) ≤ 1]) (by kernel_rfl) ⟨(avb_shr (s.b) ((1 : Int)) (by omega) (by omega)), (by omega), trivial⟩ ?_
  refine inb_n ?_
  refine then_n ?_
  refine AWP.regX { hs := [(0, { av := some (ai ((↑k : Int) + 1)) })] } (C := [ai (IntKind.i64.wrap ((↑k : Int) + 1)) = ai ((↑k : Int) + 1)]) (by kernel_rfl) ⟨(av_i64 (by omega) (by omega)), trivial⟩ ?_
  refine round_n (k + 1) (by omega) (by omega) (Weaks.of [.keep [0, 1, 5, 7] []] (s1 := AS.mk [(0, ab (if s.a &&& (128 : UInt8) ≠ 0 then s.a <<< (1 : UInt8) ^^^ (27 : UInt8) else s.a <<< (1 : UInt8))), (1, ab (s.b >>> (1 : UInt8))), (5, ab (if s.b &&& (1 : UInt8) ≠ 0 then s.p ^^^ s.a else s.p)), (7, ai ((↑k : Int) + 1))] []) (by kernel_rfl) (as_eq (f_cons (by simp only [msteps, hm, mstep]) (f_cons (by simp only [msteps, hm, mstep]) (f_cons (by simp only [msteps, hm, mstep]) (f_cons rfl rfl)))) rfl))
 ·have e8 : k = 8 := by omega
  subst e8
  refine AWP.exit (id := 0) (by kernel_rfl) ?_
  refine then_e ?_
  refine round_e ?_
  refine inb_e ?_
  refine then_n ?_
  refine AWP.regsKX 1 [{}] (by kernel_rfl) (C := []) (by kernel_rfl) trivial ?_
  refine AWP.ret (by kernel_rfl) ?_
  refine Done.ret_ (C := [Value.int .u8 (bv s.p) = Value.int .u8 (bv (gmul a b))]) (by kernel_rfl) ⟨(by rw [← hm]; rfl), trivial⟩
end Go.Proofs.YtejpabdmiagnnaaDoor
namespace Go.Proofs.YtejpabdmiagnnaaDoor
open Go.RowKit
set_option maxRecDepth 100000
set_option maxHeartbeats 4000000
set_option linter.unusedVariables false
def isteps (a : UInt8) : Nat -> UInt8 × UInt8
 | 0 => (a, 1)
 | k + 1 => (gmul (isteps a k).1 (isteps a k).1, gmul (isteps a k).2 (gmul (isteps a k).1 (isteps a k).1))
def ginv (a : UInt8) : UInt8 := (isteps a 7).2
theorem inverse_ret (a : UInt8) : Ret Tryd.prog 72 [ab a] (ab (ginv a)) := by
 refine Ret.of_fn Tryd.func72 (by kernel_rfl) 16 (by kernel_rfl) (by kernel_rfl) ?_
 refine AWP.regsKX 3 [{}, {}, {}] (by kernel_rfl) (C := []) (by kernel_rfl) trivial ?_
 refine AWP.seq (by kernel_rfl) ?_
 refine AWP.regsKX 1 [{}] (by kernel_rfl) (C := []) (by kernel_rfl) trivial ?_
 refine AWP.block (id := 0) (by kernel_rfl) ?_
 refine AWP.loop (fun (k : Nat) => (⟨[(3, ab (isteps a k).2), (4, ab (isteps a k).1), (6, ai k)], []⟩ : AS)) (fun k => (k ≤ 7)) (fun k => (7 - k)) (by kernel_rfl) (0) ?_ (Weaks.ofX [.keep [3, 4, 6] []] (by kernel_rfl)) ?_
 ·omega
 intro k hk
 refine AWP.regsKX 1 [{}] (by kernel_rfl) (C := []) (by kernel_rfl) trivial ?_
 refine AWP.seq (by kernel_rfl) ?_
 refine AWP.condD (x := .tmp 7) (p := (↑k : Int) < 7) (by kernel_rfl) (by kernel_rfl) (fun hc => ?_) (fun hc => ?_)
 ·skip
  refine AWP.skip (by kernel_rfl) ?_
  refine then_n ?_
  refine AWP.seq (by kernel_rfl) ?_
  refine AWP.block (id := 1) (by kernel_rfl) ?_
  refine AWP.regsPX 1 [{ hs := [(2, { av := some (ab (gmul (isteps a k).fst (isteps a k).fst)) })] }] [.keep [4, 7, 3, 6] []] (by kernel_rfl) (C := [Ret Tryd.prog (62 : Nat) [ab ((isteps a k).fst), ab ((isteps a k).fst)] (ab (gmul (isteps a k).fst (isteps a k).fst))]) (by kernel_rfl) ⟨(mul_ret ((isteps a k).fst) ((isteps a k).fst)), trivial⟩ ?_
  refine AWP.regX { hs := [(2, { av := some (ab (gmul (isteps a k).snd (gmul (isteps a k).fst (isteps a k).fst))) })] } (C := [Ret Tryd.prog (62 : Nat) [ab ((isteps a k).snd), ab (gmul (isteps a k).fst (isteps a k).fst)] (ab (gmul (isteps a k).snd (gmul (isteps a k).fst (isteps a k).fst)))]) (by kernel_rfl) ⟨(mul_ret ((isteps a k).snd) (gmul (isteps a k).fst (isteps a k).fst)), trivial⟩ ?_
  refine inb_n ?_
  refine then_n ?_
  refine AWP.regX { hs := [(0, { av := some (ai ((↑k : Int) + 1)) })] } (C := [ai (IntKind.i64.wrap ((↑k : Int) + 1)) = ai ((↑k : Int) + 1)]) (by kernel_rfl) ⟨(av_i64 (by omega) (by omega)), trivial⟩ ?_
  refine round_n (k + 1) (by omega) (by omega) (Weaks.ofX [.keep [3, 4, 6] []] (by kernel_rfl))
 ·have e8 : k = 7 := by omega
  subst e8
  refine AWP.exit (id := 0) (by kernel_rfl) ?_
  refine then_e ?_
  refine round_e ?_
  refine inb_e ?_
  refine then_n ?_
  refine AWP.regsKX 1 [{}] (by kernel_rfl) (C := []) (by kernel_rfl) trivial ?_
  refine AWP.ret (by kernel_rfl) ?_
  refine Done.ret_ (C := [Value.int .u8 (bv (isteps a (7 : Nat)).snd) = Value.int .u8 (bv (ginv a))]) (by kernel_rfl) ⟨rfl, trivial⟩
structure RS where
 x : UInt64
 p : UInt8
def rstep (b : UInt8) (k : Nat) (s : RS) : RS := ⟨if (s.x <<< 1) &&& 256 ≠ 0 then (s.x <<< 1) ^^^ 283 else s.x <<< 1, if (b >>> UInt8.ofNat k) &&& 1 = 1 then s.p ^^^ s.x.toUInt8 else s.p⟩
def rsteps (a b : UInt8) : Nat -> RS
 | 0 => ⟨a.toUInt64, 0⟩
 | k + 1 => rstep b k (rsteps a b k)
def rgmul (a b : UInt8) : UInt8 := (rsteps a b 8).p
theorem refmul_ret (a b : UInt8) : Ret Tryd.prog 66 [ab a, ab b] (ab (rgmul a b)) := by
 refine Ret.of_fn Tryd.func66 (by kernel_rfl) 31 (by kernel_rfl) (by kernel_rfl) ?_
 refine AWP.regsPX 3 [{}, {}, { hs := [(1, { av := some (aw a.toUInt64) })] }] [.keep [6, 5, 4, 0, 1] []] (by kernel_rfl) (C := [AV.val (Value.int .u64 (IntKind.u64.wrap (bv a))) = aw a.toUInt64]) (by kernel_rfl) ⟨(avw_bv (a)), trivial⟩ ?_
 refine AWP.seq (by kernel_rfl) ?_
 refine AWP.regsKX 1 [{}] (by kernel_rfl) (C := []) (by kernel_rfl) trivial ?_
 refine AWP.block (id := 0) (by kernel_rfl) ?_
 refine AWP.loop (fun (k : Nat) => (⟨[(1, ab b), (5, ab (rsteps a b k).p), (6, aw (rsteps a b k).x), (7, AV.val (.int .u64 k))], []⟩ : AS)) (fun k => (k ≤ 8)) (fun k => (8 - k)) (by kernel_rfl) (0) ?_ (Weaks.ofX [.keep [1, 5, 6, 7] []] (by kernel_rfl)) ?_
 ·omega
 intro k hk
 generalize hm : rsteps a b k = s
 refine AWP.seq (by kernel_rfl) ?_
 refine AWP.regsKX 1 [{}] (by kernel_rfl) (C := []) (by kernel_rfl) trivial ?_
 refine AWP.condD (x := .tmp 11) (p := (↑k : Int) < 8) (by kernel_rfl) (by kernel_rfl) (fun hc => ?_) (fun hc => ?_)
 ·skip
  refine AWP.skip (by kernel_rfl) ?_
  refine then_n ?_
  refine AWP.seq (by kernel_rfl) ?_
  refine AWP.block (id := 1) (by kernel_rfl) ?_
  refine AWP.join (⟨[(1, ab b), (5, ab (if (b >>> UInt8.ofNat k) &&& 1 = 1 then s.p ^^^ s.x.toUInt8 else s.p)), (6, aw s.x), (7, AV.val (Value.int .u64 (↑k : Int)))], []⟩ : AS) (by kernel_rfl) ?_ ?_
  ·refine AWP.regsPX 1 [{ hs := [(2, { av := some (ab (b >>> UInt8.ofNat (↑k : Int).toNat)) }), (3, { av := some (ab (b >>> UInt8.ofNat (↑k : Int).toNat &&& (1 : UInt8))) }), (4, { av := some (ao (b >>> UInt8.ofNat (↑k : Int).toNat &&& (1 : UInt8) == 1)) })] }] [.keep [18, 11, 1, 5, 6, 7] []] (by kernel_rfl) (C := [AV.val (Value.int .u8 ((bv b).fdiv ((2 : Int) ^ min (↑k : Int).toNat IntKind.u8.bits))) = ab (b >>> UInt8.ofNat (↑k : Int).toNat), (0 : Int) ≤ (↑k : Int), AV.val (Value.int .u8 (IntKind.u8.wrap (↑(BitVec.ofInt IntKind.u8.bits (bv (b >>> UInt8.ofNat (↑k : Int).toNat)) &&& BitVec.ofInt IntKind.u8.bits (1 : Int)).toNat : Int))) = ab (b >>> UInt8.ofNat (↑k : Int).toNat &&& (1 : UInt8)), ao (bv (b >>> UInt8.ofNat (↑k : Int).toNat &&& (1 : UInt8)) == (1 : Int)) = ao (b >>> UInt8.ofNat (↑k : Int).toNat &&& (1 : UInt8) == 1)]) (by kernel_rfl) ⟨(avb_shr (b) ((↑k : Int)) (by omega) (by omega)), (by omega), (avb_and (b >>> UInt8.ofNat (↑k : Int).toNat) (1)), (avb_eq (b >>> UInt8.ofNat (↑k : Int).toNat &&& (1 : UInt8)) (1)), trivial⟩ ?_
   refine AWP.condE (x := .tmp 18) (u := b >>> UInt8.ofNat (↑k : Int).toNat &&& (1 : UInt8)) (v := 1) (by kernel_rfl) (by kernel_rfl) (fun hc => ?_) (fun hc => ?_)
   ·skip
    refine AWP.regX { hs := [(2, { av := some (ab s.x.toUInt8) }), (3, { av := some (ab (s.p ^^^ s.x.toUInt8)) })] } (C := [AV.val (Value.int .u8 (IntKind.u8.wrap (wv s.x))) = ab s.x.toUInt8, AV.val (Value.int .u8 (IntKind.u8.wrap (↑(BitVec.ofInt IntKind.u8.bits (bv s.p) ^^^ BitVec.ofInt IntKind.u8.bits (bv s.x.toUInt8)).toNat : Int))) = ab (s.p ^^^ s.x.toUInt8)]) (by kernel_rfl) ⟨(avb_wv (s.x)), (avb_xor (s.p) (s.x.toUInt8)), trivial⟩ ?_
    refine then_n ?_
    exact Weaks.of [.keep [1, 5, 6, 7] []] (s1 := AS.mk [(1, ab b), (5, ab (s.p ^^^ s.x.toUInt8)), (6, aw s.x), (7, AV.val (Value.int .u64 (↑k : Int)))] []) (by kernel_rfl) (as_eq (f_cons rfl (f_cons (by rw [if_pos (by simpa using hc)]) (f_cons rfl (f_cons rfl rfl)))) rfl)
   ·skip
    refine AWP.skip (by kernel_rfl) ?_
    refine then_n ?_
    exact Weaks.of [.keep [1, 5, 6, 7] []] (s1 := AS.mk [(1, ab b), (5, ab s.p), (6, aw s.x), (7, AV.val (Value.int .u64 (↑k : Int)))] []) (by kernel_rfl) (as_eq (f_cons rfl (f_cons (by rw [if_neg (by simpa using hc)]) (f_cons rfl (f_cons rfl rfl)))) rfl)
  refine AWP.regsPX 2 [{ hs := [(1, { av := some (aw (s.x <<< (1 : UInt64))) })] }, { hs := [(1, { av := some (aw (s.x <<< (1 : UInt64) &&& (256 : UInt64))) }), (2, { av := some (ao (s.x <<< (1 : UInt64) &&& (256 : UInt64) != 0)) })] }] [.keep [27, 6, 1, 5, 7] []] (by kernel_rfl) (C := [AV.val (Value.int .u64 (IntKind.u64.wrap (wv s.x * (2 : Int) ^ min (Int.toNat (1 : Int)) IntKind.u64.bits))) = aw (s.x <<< (1 : UInt64)), (0 : Int) ≤ 1, AV.val (Value.int .u64 (IntKind.u64.wrap (↑(BitVec.ofInt IntKind.u64.bits (wv (s.x <<< (1 : UInt64))) &&& BitVec.ofInt IntKind.u64.bits (256 : Int)).toNat : Int))) = aw (s.x <<< (1 : UInt64) &&& (256 : UInt64)), ao (wv (s.x <<< (1 : UInt64) &&& (256 : UInt64)) != (0 : Int)) = ao (s.x <<< (1 : UInt64) &&& (256 : UInt64) != 0)]) (by kernel_rfl) ⟨(avw_shl (s.x) ((1 : Int)) (by omega) (by omega)), (by omega), (avw_and (s.x <<< (1 : UInt64)) (256)), (avw_ne (s.x <<< (1 : UInt64) &&& (256 : UInt64)) (0)), trivial⟩ ?_
  refine AWP.condN (x := .tmp 27) (u := s.x <<< (1 : UInt64) &&& (256 : UInt64)) (v := 0) (by kernel_rfl) (by kernel_rfl) (fun h2 => ?_) (fun h2 => ?_)
  ·refine AWP.regX { hs := [(1, { av := some (aw (s.x <<< (1 : UInt64) ^^^ (283 : UInt64))) })] } (C := [AV.val (Value.int .u64 (IntKind.u64.wrap (↑(BitVec.ofInt IntKind.u64.bits (wv (s.x <<< (1 : UInt64))) ^^^ BitVec.ofInt IntKind.u64.bits (283 : Int)).toNat : Int))) = aw (s.x <<< (1 : UInt64) ^^^ (283 : UInt64))]) (by kernel_rfl) ⟨(avw_xor (s.x <<< (1 : UInt64)) (283)), trivial⟩ ?_
   refine inb_n ?_
   refine then_n ?_
   refine AWP.regX { hs := [(1, { av := some (AV.val (Value.int .u64 ((↑k : Int) + 1))) })] } (C := [AV.val (Value.int .u64 (IntKind.u64.wrap ((↑k : Int) + 1))) = AV.val (Value.int .u64 ((↑k : Int) + 1))]) (by kernel_rfl) ⟨(av_u64 (by omega) (by omega)), trivial⟩ ?_
   refine round_n (k + 1) (by omega) (by omega) (Weaks.of [.keep [1, 5, 6, 7] []] (s1 := AS.mk [(1, ab b), (5, ab (if b >>> UInt8.ofNat k &&& (1 : UInt8) = 1 then s.p ^^^ s.x.toUInt8 else s.p)), (6, aw (s.x <<< (1 : UInt64) ^^^ (283 : UInt64))), (7, AV.val (Value.int .u64 ((↑k : Int) + 1)))] []) (by kernel_rfl) (as_eq (f_cons rfl (f_cons (by simp only [rsteps, hm, rstep] <;> rw [if_pos (by simpa using h2)]) (f_cons (by simp only [rsteps, hm, rstep] <;> rw [if_pos (by simpa using h2)]) (f_cons rfl rfl)))) rfl))
  ·refine AWP.skip (by kernel_rfl) ?_
   refine inb_n ?_
   refine then_n ?_
   refine AWP.regX { hs := [(1, { av := some (AV.val (Value.int .u64 ((↑k : Int) + 1))) })] } (C := [AV.val (Value.int .u64 (IntKind.u64.wrap ((↑k : Int) + 1))) = AV.val (Value.int .u64 ((↑k : Int) + 1))]) (by kernel_rfl) ⟨(av_u64 (by omega) (by omega)), trivial⟩ ?_
   refine round_n (k + 1) (by omega) (by omega) (Weaks.of [.keep [1, 5, 6, 7] []] (s1 := AS.mk [(1, ab b), (5, ab (if b >>> UInt8.ofNat k &&& (1 : UInt8) = 1 then s.p ^^^ s.x.toUInt8 else s.p)), (6, aw (s.x <<< (1 : UInt64))), (7, AV.val (Value.int .u64 ((↑k : Int) + 1)))] []) (by kernel_rfl) (as_eq (f_cons rfl (f_cons (by simp only [rsteps, hm, rstep] <;> rw [if_neg (by simpa using h2)]) (f_cons (by simp only [rsteps, hm, rstep] <;> rw [if_neg (by simpa using h2)]) (f_cons rfl rfl)))) rfl))
 ·have e8 : k = 8 := by omega
  subst e8
  refine AWP.exit (id := 0) (by kernel_rfl) ?_
  refine then_e ?_
  refine round_e ?_
  refine inb_e ?_
  refine then_n ?_
  refine AWP.regsPX 1 [{}] [.keep [4, 11, 1, 5, 6, 7] []] (by kernel_rfl) (C := []) (by kernel_rfl) trivial ?_
  refine AWP.ret (by kernel_rfl) ?_
  refine Done.ret_ (C := [Value.int .u8 (bv s.p) = Value.int .u8 (bv (rgmul a b))]) (by kernel_rfl) ⟨(by rw [← hm]; rfl), trivial⟩
def gpow (a : UInt8) : Nat -> UInt8
 | 0 => 1
 | k + 1 => rgmul (gpow a k) a
end Go.Proofs.YtejpabdmiagnnaaDoor
