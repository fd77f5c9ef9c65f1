import Derived.Test.YtejpabdmiagnnaaDoorZaV8
import Derived.Test.YtejpabdmiagnnaaDoorZaEx1
set_option linter.all false
namespace Go.Proofs.YtejpabdmiagnnaaDoor
open Go.RowKit
set_option maxRecDepth 100000
set_option maxHeartbeats 4000000
set_option linter.unusedVariables false
def mq (n : Nat) : UInt64 := UInt64.ofNat (n % 2305843009213693951)
theorem mq_nat (n : Nat) : (mq n).toNat = n % 2305843009213693951 := by
 rw [mq, UInt64.toNat_ofNat', Nat.mod_eq_of_lt]; omega
theorem mq_of {n m : Nat} (h : n % 2305843009213693951 = m % 2305843009213693951) : mq n = mq m := by rw [mq, mq, h]
theorem modQ_nat (x : UInt64) : (x % 2305843009213693951).toNat = x.toNat % 2305843009213693951 := by rw [UInt64.toNat_mod]; rfl
theorem div64z_ret (lo : UInt64) : Ret Tryd.prog 91 [aw 0, aw lo, aw 2305843009213693951] (.tup [aw (lo / 2305843009213693951), aw (lo % 2305843009213693951)]) := by
 refine Ret.of_fn Tryd.func91 (by kernel_rfl) 135 (by kernel_rfl) (by kernel_rfl) ?_
 refine AWP.regsKX 1 [{}] (by kernel_rfl) (C := []) (by kernel_rfl) trivial ?_
 refine AWP.seq (by kernel_rfl) ?_
 refine AWP.regsPX 1 [{ hs := [(1, { av := some (ao (2305843009213693951 == 0)) })] }] [.keep [20, 7, 6, 0, 1, 2] []] (by kernel_rfl) (C := [ao (wv 2305843009213693951 == (0 : Int)) = ao (2305843009213693951 == 0)]) (by kernel_rfl) ⟨(avw_eq (2305843009213693951) (0)), trivial⟩ ?_
 refine AWP.condF (x := .tmp 20) (b := 2305843009213693951 == 0) (by kernel_rfl) (by kernel_rfl) rfl ?_
 refine AWP.skip (by kernel_rfl) ?_
 refine then_n ?_
 refine AWP.seq (by kernel_rfl) ?_
 refine AWP.regsPX 1 [{}] [.keep [24, 20, 7, 6, 0, 1, 2] []] (by kernel_rfl) (C := []) (by kernel_rfl) trivial ?_
 refine AWP.condF (x := .tmp 24) (b := decide (wv 2305843009213693951 ≤ wv 0)) (by kernel_rfl) (by kernel_rfl) rfl ?_
 refine AWP.skip (by kernel_rfl) ?_
 refine then_n ?_
 refine AWP.seq (by kernel_rfl) ?_
 refine AWP.regsKX 1 [{ hs := [(1, { av := some (ao (0 == 0)) })] }] (by kernel_rfl) (C := [ao (wv 0 == (0 : Int)) = ao (0 == 0)]) (by kernel_rfl) ⟨(avw_eq (0) (0)), trivial⟩ ?_
 refine AWP.condT (x := .tmp 27) (b := 0 == 0) (by kernel_rfl) (by kernel_rfl) rfl ?_
 refine AWP.regsPX 1 [{ hs := [(2, { av := some (aw (lo / 2305843009213693951)) }), (5, { av := some (aw (lo % 2305843009213693951)) })], T := 7 }] [.keep [7, 6, 27, 24, 20, 0, 1, 2] []] (by kernel_rfl) (C := [AV.val (Value.int .u64 (IntKind.u64.wrap ((wv lo).tdiv (wv 2305843009213693951)))) = aw (lo / 2305843009213693951), wv 2305843009213693951 ≠ (0 : Int), AV.val (Value.int .u64 ((wv lo).tmod (wv 2305843009213693951))) = aw (lo % 2305843009213693951), wv 2305843009213693951 ≠ (0 : Int)]) (by kernel_rfl) ⟨(avw_div (lo) (2305843009213693951)), (by decide), (avw_mod (lo) (2305843009213693951)), (by decide), trivial⟩ ?_
 refine AWP.ret (by kernel_rfl) ?_
 refine then_r ?_
 refine Done.ret_ (C := [Value.int .u64 (wv (lo / 2305843009213693951)) = Value.int .u64 (wv (lo / 2305843009213693951)), Value.int .u64 (wv (lo % 2305843009213693951)) = Value.int .u64 (wv (lo % 2305843009213693951))]) (by kernel_rfl) ⟨rfl, rfl, trivial⟩
theorem rem64_ret (hi lo : UInt64) : Ret Tryd.prog 82 [aw hi, aw lo, aw 2305843009213693951] (aw (mq (hi.toNat * 18446744073709551616 + lo.toNat))) := by
 have hm := modQ_nat hi
 have hl := lo.toNat_lt
 by_cases h : hi % 2305843009213693951 = 0
 ·have e : lo % 2305843009213693951 = mq (hi.toNat * 18446744073709551616 + lo.toNat) := by
   apply UInt64.toNat_inj.1
   rw [h] at hm
   have hm : 0 = hi.toNat % 2305843009213693951 := hm
   rw [mq_nat, modQ_nat]
   omega
  refine Ret.of_fn Tryd.func82 (by kernel_rfl) 19 (by kernel_rfl) (by kernel_rfl) ?_
  refine AWP.regsPX 3 [{}, { hs := [(2, { av := some (aw 0) }), (5, { av := some (AV.tup [aw (lo / 2305843009213693951), aw (lo % 2305843009213693951)]) })] }, {}] [.keep [6, 8, 0, 1, 2] []] (by kernel_rfl) (C := [AV.val (Value.int .u64 ((wv hi).tmod (wv 2305843009213693951))) = aw 0, wv 2305843009213693951 ≠ (0 : Int), Ret Tryd.prog (91 : Nat) [aw 0, aw lo, aw 2305843009213693951] (AV.tup [aw (lo / 2305843009213693951), aw (lo % 2305843009213693951)])]) (by kernel_rfl) ⟨((avw_mod hi 2305843009213693951).trans (congrArg aw h)), (by decide), (div64z_ret (lo)), trivial⟩ ?_
  refine AWP.ret (by kernel_rfl) ?_
  refine Done.ret_ (C := [Value.int .u64 (wv (lo % 2305843009213693951)) = Value.int .u64 (wv (mq (hi.toNat * (18446744073709551616 : Nat) + lo.toNat)))]) (by kernel_rfl) ⟨(by rw [e]), trivial⟩
 ·have h1 : (hi % 2305843009213693951).toNat ≠ 0 := fun e => h (UInt64.toNat_inj.1 e)
  have h2 : (hi % 2305843009213693951).toNat < 2305843009213693951 := by omega
  have e : UInt64.ofNat (((hi % 2305843009213693951).toNat * 18446744073709551616 + lo.toNat) % 2305843009213693951) = mq (hi.toNat * 18446744073709551616 + lo.toNat) := by
   rw [hm]; apply mq_of; omega
  refine Ret.of_fn Tryd.func82 (by kernel_rfl) 19 (by kernel_rfl) (by kernel_rfl) ?_
  refine AWP.regsPX 3 [{}, { hs := [(2, { av := some (aw (hi % 2305843009213693951)) }), (5, { av := some (AV.tup [aw (kq ((hi % 2305843009213693951) <<< (3 : UInt64) ||| lo >>> (61 : UInt64)) (lo <<< (3 : UInt64) >>> (32 : UInt64)) * 4294967296 + kq (kr ((hi % 2305843009213693951) <<< (3 : UInt64) ||| lo >>> (61 : UInt64)) (lo <<< (3 : UInt64) >>> (32 : UInt64))) (lo <<< (3 : UInt64) &&& (4294967295 : UInt64))), aw (UInt64.ofNat (((hi % 2305843009213693951).toNat * (18446744073709551616 : Nat) + lo.toNat) % (2305843009213693951 : Nat)))]) })] }, {}] [.keep [6, 8, 0, 1, 2] []] (by kernel_rfl) (C := [AV.val (Value.int .u64 ((wv hi).tmod (wv 2305843009213693951))) = aw (hi % 2305843009213693951), wv 2305843009213693951 ≠ (0 : Int), Ret Tryd.prog (91 : Nat) [aw (hi % 2305843009213693951), aw lo, aw 2305843009213693951] (AV.tup [aw (kq ((hi % 2305843009213693951) <<< (3 : UInt64) ||| lo >>> (61 : UInt64)) (lo <<< (3 : UInt64) >>> (32 : UInt64)) * 4294967296 + kq (kr ((hi % 2305843009213693951) <<< (3 : UInt64) ||| lo >>> (61 : UInt64)) (lo <<< (3 : UInt64) >>> (32 : UInt64))) (lo <<< (3 : UInt64) &&& (4294967295 : UInt64))), aw (UInt64.ofNat (((hi % 2305843009213693951).toNat * (18446744073709551616 : Nat) + lo.toNat) % (2305843009213693951 : Nat)))])]) (by kernel_rfl) ⟨(avw_mod (hi) (2305843009213693951)), (by decide), (div64_ret (hi % 2305843009213693951) (lo) (by assumption) (by assumption)), trivial⟩ ?_
  refine AWP.ret (by kernel_rfl) ?_
  refine Done.ret_ (C := [Value.int .u64 (wv (UInt64.ofNat (((hi % 2305843009213693951).toNat * (18446744073709551616 : Nat) + lo.toNat) % (2305843009213693951 : Nat)))) = Value.int .u64 (wv (mq (hi.toNat * (18446744073709551616 : Nat) + lo.toNat)))]) (by kernel_rfl) ⟨(by rw [e]), trivial⟩
theorem mulx_ret (a b : UInt64) : Ret Tryd.prog 73 [aw a, aw b] (aw (mq (a.toNat * b.toNat))) := by
 have e : (UInt64.ofNat (a.toNat * b.toNat / 18446744073709551616)).toNat * 18446744073709551616 + (a * b).toNat = a.toNat * b.toNat := by
  have ha := a.toNat_lt
  have hb := b.toNat_lt
  have h : a.toNat * b.toNat ≤ 18446744073709551615 * 18446744073709551615 := Nat.mul_le_mul (by omega) (by omega)
  rw [UInt64.toNat_mul, UInt64.toNat_ofNat']
  omega
 refine Ret.of_fn Tryd.func73 (by kernel_rfl) 16 (by kernel_rfl) (by kernel_rfl) ?_
 refine AWP.regsPX 3 [{}, { hs := [(2, { av := some (AV.tup [aw (UInt64.ofNat (a.toNat * b.toNat / (18446744073709551616 : Nat))), aw (a * b)]) })] }, { hs := [(2, { av := some (aw (mq ((UInt64.ofNat (a.toNat * b.toNat / (18446744073709551616 : Nat))).toNat * (18446744073709551616 : Nat) + (a * b).toNat))) })] }] [.keep [4, 6, 5, 0, 1] []] (by kernel_rfl) (C := [Ret Tryd.prog (81 : Nat) [aw a, aw b] (AV.tup [aw (UInt64.ofNat (a.toNat * b.toNat / (18446744073709551616 : Nat))), aw (a * b)]), Ret Tryd.prog (82 : Nat) [aw (UInt64.ofNat (a.toNat * b.toNat / (18446744073709551616 : Nat))), aw (a * b), AV.val (Value.int .u64 2305843009213693951)] (aw (mq ((UInt64.ofNat (a.toNat * b.toNat / (18446744073709551616 : Nat))).toNat * (18446744073709551616 : Nat) + (a * b).toNat)))]) (by kernel_rfl) ⟨(mul64_ret (a) (b)), (rem64_ret (UInt64.ofNat (a.toNat * b.toNat / (18446744073709551616 : Nat))) (a * b)), trivial⟩ ?_
 refine AWP.ret (by kernel_rfl) ?_
 refine Done.ret_ (C := [Value.int .u64 (wv (mq ((UInt64.ofNat (a.toNat * b.toNat / (18446744073709551616 : Nat))).toNat * (18446744073709551616 : Nat) + (a * b).toNat))) = Value.int .u64 (wv (mq (a.toNat * b.toNat)))]) (by kernel_rfl) ⟨(by rw [e]), trivial⟩
theorem shr1_nat (x : UInt64) : (x >>> 1).toNat = x.toNat / 2 := by
 rw [UInt64.toNat_shiftRight]; exact Nat.shiftRight_eq_div_pow x.toNat 1
theorem and1_nat (x : UInt64) : (x &&& 1).toNat = x.toNat % 2 := by
 rw [UInt64.toNat_and]; exact Nat.and_two_pow_sub_one_eq_mod x.toNat 1
theorem and1_iff (x : UInt64) : x &&& 1 = 1 ↔ x.toNat % 2 = 1 := by
 rw [← and1_nat]; exact ⟨fun h => by rw [h]; rfl, fun h => UInt64.toNat_inj.1 h⟩
theorem pow_half {r a n : Nat} : (n % 2 = 1 -> (r * a % 2305843009213693951) * (a * a % 2305843009213693951) ^ (n / 2) % 2305843009213693951 = r * a ^ n % 2305843009213693951) ∧ (¬ n % 2 = 1 -> r * (a * a % 2305843009213693951) ^ (n / 2) % 2305843009213693951 = r * a ^ n % 2305843009213693951) := by
 constructor
 ·intro h
  rw [mul_powmod, sq_pow, Nat.mul_mod, Nat.mod_mod, ← Nat.mul_mod, Nat.mul_assoc, Nat.mul_comm a, ← Nat.pow_succ]
  rw [show (2 * (n / 2)).succ = n by omega]
 ·intro h
  rw [mul_powmod, sq_pow, show 2 * (n / 2) = n by omega]
theorem powx_ret (a n : UInt64) : Ret Tryd.prog 54 [aw a, aw n] (aw (mq (a.toNat ^ n.toNat))) := by
 refine Ret.of_fn Tryd.func54 (by kernel_rfl) 20 (by kernel_rfl) (by kernel_rfl) ?_
 refine AWP.regsKX 2 [{}, {}] (by kernel_rfl) (C := []) (by kernel_rfl) trivial ?_
 refine AWP.seq (by kernel_rfl) ?_
 refine AWP.block (id := 0) (by kernel_rfl) ?_
 refine AWP.loop (fun (x : UInt64 × UInt64 × UInt64) => (⟨[(4, AV.val (Value.int .u64 0)), (5, aw x.1), (0, aw x.2.1), (1, aw x.2.2)], []⟩ : AS)) (fun x => (x.1.toNat * x.2.1.toNat ^ x.2.2.toNat % 2305843009213693951 = a.toNat ^ n.toNat % 2305843009213693951 ∧ x.1.toNat < 2305843009213693951)) (fun x => (x.2.2.toNat)) (by kernel_rfl) (((1, a, n) : UInt64 × UInt64 × UInt64)) ?_ (Weaks.ofX [.keep [4, 5, 0, 1] []] (by kernel_rfl)) ?_
 ·exact ⟨by dsimp only; rw [show (1 : UInt64).toNat = 1 from rfl, Nat.one_mul], by dsimp only; decide⟩
 rintro ⟨r, b, m⟩ ⟨hx, hr⟩
 dsimp only at hx hr
 by_cases h0 : wv m > 0
 ·have h0' : 0 < m.toNat := by unfold wv at h0; omega
  have hm1 := shr1_nat m
  by_cases h1 : m &&& 1 = 1
  ·have h1' := (and1_iff m).1 h1
   have key := (pow_half (r := r.toNat) (a := b.toNat) (n := m.toNat)).1 h1'
   have inv1 : (mq (r.toNat * b.toNat)).toNat * (mq (b.toNat * b.toNat)).toNat ^ (m >>> 1).toNat % 2305843009213693951 = a.toNat ^ n.toNat % 2305843009213693951 := by
    rw [mq_nat, mq_nat, hm1, key, hx]
   have inv2 : (mq (r.toNat * b.toNat)).toNat < 2305843009213693951 := by rw [mq_nat]; omega
   refine AWP.seq (by kernel_rfl) ?_
   refine AWP.regsKX 1 [{}] (by kernel_rfl) (C := []) (by kernel_rfl) trivial ?_
   refine AWP.condT (x := .tmp 7) (b := decide (wv m > 0)) (by kernel_rfl) (by kernel_rfl) (decide_eq_true (by omega)) ?_
   refine AWP.skip (by kernel_rfl) ?_
   refine then_n ?_
   refine AWP.seq (by kernel_rfl) ?_
   refine AWP.block (id := 1) (by kernel_rfl) ?_
   refine AWP.seq (by kernel_rfl) ?_
   refine AWP.regsPX 1 [{ hs := [(1, { av := some (aw (m &&& (1 : UInt64))) }), (2, { av := some (ao (m &&& (1 : UInt64) == 1)) })] }] [.keep [12, 7, 4, 5, 0, 1] []] (by kernel_rfl) (C := [AV.val (Value.int .u64 (IntKind.u64.wrap (↑(BitVec.ofInt IntKind.u64.bits (wv m) &&& BitVec.ofInt IntKind.u64.bits (1 : Int)).toNat : Int))) = aw (m &&& (1 : UInt64)), ao (wv (m &&& (1 : UInt64)) == (1 : Int)) = ao (m &&& (1 : UInt64) == 1)]) (by kernel_rfl) ⟨(avw_and (m) (1)), (avw_eq (m &&& (1 : UInt64)) (1)), trivial⟩ ?_
   refine AWP.condT (x := .tmp 12) (b := m &&& (1 : UInt64) == 1) (by kernel_rfl) (by kernel_rfl) (decide_eq_true (by omega)) ?_
   refine AWP.regX { hs := [(2, { av := some (aw (mq (r.toNat * b.toNat))) })] } (C := [Ret Tryd.prog (73 : Nat) [aw r, aw b] (aw (mq (r.toNat * b.toNat)))]) (by kernel_rfl) ⟨(mulx_ret (r) (b)), trivial⟩ ?_
   refine then_n ?_
   refine AWP.regX { hs := [(2, { av := some (aw (mq (b.toNat * b.toNat))) })] } (C := [Ret Tryd.prog (73 : Nat) [aw b, aw b] (aw (mq (b.toNat * b.toNat)))]) (by kernel_rfl) ⟨(mulx_ret (b) (b)), trivial⟩ ?_
   refine inb_n ?_
   refine then_n ?_
   refine AWP.regX { hs := [(1, { av := some (aw (m >>> (1 : UInt64))) })] } (C := [AV.val (Value.int .u64 ((wv m).fdiv ((2 : Int) ^ min (Int.toNat (1 : Int)) IntKind.u64.bits))) = aw (m >>> (1 : UInt64)), (0 : Int) ≤ 1]) (by kernel_rfl) ⟨(avw_shr (m) ((1 : Int)) (by omega) (by omega)), (by omega), trivial⟩ ?_
   refine round_n ((mq (r.toNat * b.toNat), mq (b.toNat * b.toNat), m >>> 1) : UInt64 × UInt64 × UInt64) ⟨inv1, inv2⟩ (by dsimp only; omega) (Weaks.ofX [.keep [4, 5, 0, 1] []] (by kernel_rfl))
  ·have h1' : ¬ m.toNat % 2 = 1 := fun e => h1 ((and1_iff m).2 e)
   have key := (pow_half (r := r.toNat) (a := b.toNat) (n := m.toNat)).2 h1'
   have inv1 : r.toNat * (mq (b.toNat * b.toNat)).toNat ^ (m >>> 1).toNat % 2305843009213693951 = a.toNat ^ n.toNat % 2305843009213693951 := by
    rw [mq_nat, hm1, key, hx]
   refine AWP.seq (by kernel_rfl) ?_
   refine AWP.regsKX 1 [{}] (by kernel_rfl) (C := []) (by kernel_rfl) trivial ?_
   refine AWP.condT (x := .tmp 7) (b := decide (wv m > 0)) (by kernel_rfl) (by kernel_rfl) (decide_eq_true (by omega)) ?_
   refine AWP.skip (by kernel_rfl) ?_
   refine then_n ?_
   refine AWP.seq (by kernel_rfl) ?_
   refine AWP.block (id := 1) (by kernel_rfl) ?_
   refine AWP.seq (by kernel_rfl) ?_
   refine AWP.regsPX 1 [{ hs := [(1, { av := some (aw (m &&& (1 : UInt64))) }), (2, { av := some (ao (m &&& (1 : UInt64) == 1)) })] }] [.keep [12, 7, 4, 5, 0, 1] []] (by kernel_rfl) (C := [AV.val (Value.int .u64 (IntKind.u64.wrap (↑(BitVec.ofInt IntKind.u64.bits (wv m) &&& BitVec.ofInt IntKind.u64.bits (1 : Int)).toNat : Int))) = aw (m &&& (1 : UInt64)), ao (wv (m &&& (1 : UInt64)) == (1 : Int)) = ao (m &&& (1 : UInt64) == 1)]) (by kernel_rfl) ⟨(avw_and (m) (1)), (avw_eq (m &&& (1 : UInt64)) (1)), trivial⟩ ?_
   refine AWP.condF (x := .tmp 12) (b := m &&& (1 : UInt64) == 1) (by kernel_rfl) (by kernel_rfl) (decide_eq_false (by omega)) ?_
   refine AWP.skip (by kernel_rfl) ?_
   refine then_n ?_
   refine AWP.regX { hs := [(2, { av := some (aw (mq (b.toNat * b.toNat))) })] } (C := [Ret Tryd.prog (73 : Nat) [aw b, aw b] (aw (mq (b.toNat * b.toNat)))]) (by kernel_rfl) ⟨(mulx_ret (b) (b)), trivial⟩ ?_
   refine inb_n ?_
   refine then_n ?_
   refine AWP.regX { hs := [(1, { av := some (aw (m >>> (1 : UInt64))) })] } (C := [AV.val (Value.int .u64 ((wv m).fdiv ((2 : Int) ^ min (Int.toNat (1 : Int)) IntKind.u64.bits))) = aw (m >>> (1 : UInt64)), (0 : Int) ≤ 1]) (by kernel_rfl) ⟨(avw_shr (m) ((1 : Int)) (by omega) (by omega)), (by omega), trivial⟩ ?_
   refine round_n ((r, mq (b.toNat * b.toNat), m >>> 1) : UInt64 × UInt64 × UInt64) ⟨inv1, hr⟩ (by dsimp only; omega) (Weaks.ofX [.keep [4, 5, 0, 1] []] (by kernel_rfl))
 ·have h0' : m.toNat = 0 := by unfold wv at h0; omega
  have e : r = mq (a.toNat ^ n.toNat) := by
   apply UInt64.toNat_inj.1
   rw [mq_nat, ← hx, h0', Nat.pow_zero, Nat.mul_one, Nat.mod_eq_of_lt hr]
  refine AWP.seq (by kernel_rfl) ?_
  refine AWP.regsKX 1 [{}] (by kernel_rfl) (C := []) (by kernel_rfl) trivial ?_
  refine AWP.condF (x := .tmp 7) (b := decide (wv m > 0)) (by kernel_rfl) (by kernel_rfl) (decide_eq_false (by omega)) ?_
  refine AWP.exit (id := 0) (by kernel_rfl) ?_
  refine then_e ?_
  refine round_e ?_
  refine inb_e ?_
  refine then_n ?_
  refine AWP.regsPX 1 [{}] [.keep [4, 7, 5, 0, 1] []] (by kernel_rfl) (C := []) (by kernel_rfl) trivial ?_
  refine AWP.ret (by kernel_rfl) ?_
  refine Done.ret_ (C := [Value.int .u64 (wv r) = Value.int .u64 (wv (mq (a.toNat ^ n.toNat)))]) (by kernel_rfl) ⟨(by rw [e]), trivial⟩
theorem shr_at (t : UInt64) (j : Nat) (h0 : 0 < j) (hj : j ≤ 64) : (t >>> UInt64.ofNat ((j : Int) - 1).toNat).toNat = t.toNat / 2 ^ (j - 1) := by
 rw [show ((j : Int) - 1).toNat = j - 1 by omega, UInt64.toNat_shiftRight, Nat.shiftRight_eq_div_pow, UInt64.toNat_ofNat', Nat.mod_eq_of_lt (a := j - 1) (by omega), Nat.mod_eq_of_lt (by omega)]
theorem half_at (T j : Nat) (h0 : 0 < j) : T / 2 ^ (j - 1) = 2 * (T / 2 ^ j) + T / 2 ^ (j - 1) % 2 := by
 have e : T / 2 ^ j = T / 2 ^ (j - 1) / 2 := by rw [Nat.div_div_eq_div_mul, ← Nat.pow_succ]; congr 2; omega
 omega
theorem refmulx_ret (a b : UInt64) : Ret Tryd.prog 67 [aw a, aw b] (aw (mq (a.toNat * b.toNat))) := by
 have hb := modQ_nat b
 have ha := modQ_nat a
 refine Ret.of_fn Tryd.func67 (by kernel_rfl) 29 (by kernel_rfl) (by kernel_rfl) ?_
 refine AWP.regsPX 3 [{}, { hs := [(1, { av := some (aw (a % 2305843009213693951)) }), (3, { av := some (aw (b % 2305843009213693951)) })] }, {}] [.keep [5, 1, 0, 4] []] (by kernel_rfl) (C := [AV.val (Value.int .u64 ((wv a).tmod (2305843009213693951 : Int))) = aw (a % 2305843009213693951), (2305843009213693951 : Int) ≠ (0 : Int), AV.val (Value.int .u64 ((wv b).tmod (2305843009213693951 : Int))) = aw (b % 2305843009213693951), (2305843009213693951 : Int) ≠ (0 : Int)]) (by kernel_rfl) ⟨(avw_mod (a) (2305843009213693951)), (by omega), (avw_mod (b) (2305843009213693951)), (by omega), trivial⟩ ?_
 refine AWP.seq (by kernel_rfl) ?_
 refine AWP.regsKX 1 [{}] (by kernel_rfl) (C := []) (by kernel_rfl) trivial ?_
 refine AWP.block (id := 0) (by kernel_rfl) ?_
 refine AWP.loop (fun (j : Nat) => (⟨[(1, aw (b % 2305843009213693951)), (0, aw (a % 2305843009213693951)), (4, AV.val (Value.int .u64 0)), (6, ai ((j : Int) - 1)), (5, aw (mq (a.toNat * ((b % 2305843009213693951).toNat / 2 ^ j))))], []⟩ : AS)) (fun j => (j ≤ 61)) (fun j => (j)) (by kernel_rfl) (61) ?_ (Weaks.of [.keep [1, 0, 4, 6, 5] []] (s1 := AS.mk [(1, aw (b % 2305843009213693951)), (0, aw (a % 2305843009213693951)), (4, AV.val (Value.int .u64 0)), (6, ai 60), (5, AV.val (Value.int .u64 0))] []) (by kernel_rfl) (as_eq (f_cons rfl (f_cons rfl (f_cons rfl (f_cons rfl (f_cons (congrArg aw (show 0 = mq _ by rw [Nat.div_eq_of_lt (by omega), Nat.mul_zero]; rfl)) rfl))))) rfl)) ?_
 ·omega
 intro j hj
 by_cases h0 : 0 < j
 ·have hs := shr_at (b % 2305843009213693951) j h0 (by omega)
  have hh := half_at (b % 2305843009213693951).toNat j h0
  have hmn := mq_nat (a.toNat * ((b % 2305843009213693951).toNat / 2 ^ j))
  have e0 : (mq (a.toNat * ((b % 2305843009213693951).toNat / 2 ^ j)) * 2 % 2305843009213693951).toNat = 2 * (a.toNat * ((b % 2305843009213693951).toNat / 2 ^ j)) % 2305843009213693951 := by
   rw [modQ_nat, UInt64.toNat_mul, hmn]
   generalize a.toNat * ((b % 2305843009213693951).toNat / 2 ^ j) = X
   show X % _ * 2 % 18446744073709551616 % _ = _
   rw [Nat.mod_eq_of_lt (b := 18446744073709551616) (by omega), Nat.mul_comm, Nat.mul_mod, Nat.mod_mod, ← Nat.mul_mod]
  by_cases h1 : (b % 2305843009213693951) >>> UInt64.ofNat ((j : Int) - 1).toNat &&& 1 = 1
  ·have h1' := (and1_iff _).1 h1
   rw [hs] at h1'
   have e1 : (mq (a.toNat * ((b % 2305843009213693951).toNat / 2 ^ j)) * 2 % 2305843009213693951 + a % 2305843009213693951) % 2305843009213693951 = mq (a.toNat * ((b % 2305843009213693951).toNat / 2 ^ (j - 1))) := by
    apply UInt64.toNat_inj.1
    have e2 : a.toNat * (2 * ((b % 2305843009213693951).toNat / 2 ^ j) + 1) = 2 * (a.toNat * ((b % 2305843009213693951).toNat / 2 ^ j)) + a.toNat := by rw [Nat.mul_add, Nat.mul_left_comm, Nat.mul_one]
    rw [modQ_nat, UInt64.toNat_add, e0, ha, mq_nat, hh, h1', e2]
    generalize a.toNat * ((b % 2305843009213693951).toNat / 2 ^ j) = X
    show (2 * X % _ + _) % 18446744073709551616 % _ = _
    rw [Nat.mod_eq_of_lt (b := 18446744073709551616) (by omega), ← Nat.add_mod]
   refine AWP.seq (by kernel_rfl) ?_
   refine AWP.regsKX 1 [{}] (by kernel_rfl) (C := []) (by kernel_rfl) trivial ?_
   refine AWP.condT (x := .tmp 12) (b := decide ((↑j : Int) - 1 ≥ 0)) (by kernel_rfl) (by kernel_rfl) (decide_eq_true (by omega)) ?_
   refine AWP.skip (by kernel_rfl) ?_
   refine then_n ?_
   refine AWP.seq (by kernel_rfl) ?_
   refine AWP.block (id := 1) (by kernel_rfl) ?_
   refine AWP.regsPX 2 [{ hs := [(1, { av := some (aw (mq (a.toNat * ((b % 2305843009213693951).toNat / (2 : Nat) ^ j)) * 2)) }), (2, { av := some (aw (mq (a.toNat * ((b % 2305843009213693951).toNat / (2 : Nat) ^ j)) * 2 % 2305843009213693951)) })] }, { hs := [(2, { av := some (AV.val (Value.int .u64 ((↑j : Int) - 1))) }), (3, { av := some (aw ((b % 2305843009213693951) >>> UInt64.ofNat ((↑j : Int) - 1).toNat)) }), (4, { av := some (aw ((b % 2305843009213693951) >>> UInt64.ofNat ((↑j : Int) - 1).toNat &&& (1 : UInt64))) }), (5, { av := some (ao ((b % 2305843009213693951) >>> UInt64.ofNat ((↑j : Int) - 1).toNat &&& (1 : UInt64) == 1)) })] }] [.keep [23, 5, 12, 1, 0, 4, 6] []] (by kernel_rfl) (C := [AV.val (Value.int .u64 (IntKind.u64.wrap (wv (mq (a.toNat * ((b % 2305843009213693951).toNat / (2 : Nat) ^ j))) * 2))) = aw (mq (a.toNat * ((b % 2305843009213693951).toNat / (2 : Nat) ^ j)) * 2), AV.val (Value.int .u64 ((wv (mq (a.toNat * ((b % 2305843009213693951).toNat / (2 : Nat) ^ j)) * 2)).tmod (2305843009213693951 : Int))) = aw (mq (a.toNat * ((b % 2305843009213693951).toNat / (2 : Nat) ^ j)) * 2 % 2305843009213693951), (2305843009213693951 : Int) ≠ (0 : Int), AV.val (Value.int .u64 (IntKind.u64.wrap ((↑j : Int) - 1))) = AV.val (Value.int .u64 ((↑j : Int) - 1)), AV.val (Value.int .u64 ((wv (b % 2305843009213693951)).fdiv ((2 : Int) ^ min ((↑j : Int) - 1).toNat IntKind.u64.bits))) = aw ((b % 2305843009213693951) >>> UInt64.ofNat ((↑j : Int) - 1).toNat), (0 : Int) ≤ (↑j : Int) - 1, AV.val (Value.int .u64 (IntKind.u64.wrap (↑(BitVec.ofInt IntKind.u64.bits (wv ((b % 2305843009213693951) >>> UInt64.ofNat ((↑j : Int) - 1).toNat)) &&& BitVec.ofInt IntKind.u64.bits (1 : Int)).toNat : Int))) = aw ((b % 2305843009213693951) >>> UInt64.ofNat ((↑j : Int) - 1).toNat &&& (1 : UInt64)), ao (wv ((b % 2305843009213693951) >>> UInt64.ofNat ((↑j : Int) - 1).toNat &&& (1 : UInt64)) == (1 : Int)) = ao ((b % 2305843009213693951) >>> UInt64.ofNat ((↑j : Int) - 1).toNat &&& (1 : UInt64) == 1)]) (by kernel_rfl) ⟨(avw_mul (mq (a.toNat * ((b % 2305843009213693951).toNat / (2 : Nat) ^ j))) (2)), (avw_mod (mq (a.toNat * ((b % 2305843009213693951).toNat / (2 : Nat) ^ j)) * 2) (2305843009213693951)), (by omega), (av_u64 (by omega) (by omega)), (avw_shr (b % 2305843009213693951) ((↑j : Int) - 1) (by omega) (by omega)), (by omega), (avw_and ((b % 2305843009213693951) >>> UInt64.ofNat ((↑j : Int) - 1).toNat) (1)), (avw_eq ((b % 2305843009213693951) >>> UInt64.ofNat ((↑j : Int) - 1).toNat &&& (1 : UInt64)) (1)), trivial⟩ ?_
   refine AWP.condT (x := .tmp 23) (b := (b % 2305843009213693951) >>> UInt64.ofNat ((↑j : Int) - 1).toNat &&& (1 : UInt64) == 1) (by kernel_rfl) (by kernel_rfl) (decide_eq_true (by omega)) ?_
   refine AWP.regX { hs := [(2, { av := some (aw (mq (a.toNat * ((b % 2305843009213693951).toNat / (2 : Nat) ^ j)) * 2 % 2305843009213693951 + a % 2305843009213693951)) }), (3, { av := some (aw ((mq (a.toNat * ((b % 2305843009213693951).toNat / (2 : Nat) ^ j)) * 2 % 2305843009213693951 + a % 2305843009213693951) % 2305843009213693951)) })] } (C := [AV.val (Value.int .u64 (IntKind.u64.wrap (wv (mq (a.toNat * ((b % 2305843009213693951).toNat / (2 : Nat) ^ j)) * 2 % 2305843009213693951) + wv (a % 2305843009213693951)))) = aw (mq (a.toNat * ((b % 2305843009213693951).toNat / (2 : Nat) ^ j)) * 2 % 2305843009213693951 + a % 2305843009213693951), AV.val (Value.int .u64 ((wv (mq (a.toNat * ((b % 2305843009213693951).toNat / (2 : Nat) ^ j)) * 2 % 2305843009213693951 + a % 2305843009213693951)).tmod (2305843009213693951 : Int))) = aw ((mq (a.toNat * ((b % 2305843009213693951).toNat / (2 : Nat) ^ j)) * 2 % 2305843009213693951 + a % 2305843009213693951) % 2305843009213693951), (2305843009213693951 : Int) ≠ (0 : Int)]) (by kernel_rfl) ⟨(avw_add (mq (a.toNat * ((b % 2305843009213693951).toNat / (2 : Nat) ^ j)) * 2 % 2305843009213693951) (a % 2305843009213693951)), (avw_mod (mq (a.toNat * ((b % 2305843009213693951).toNat / (2 : Nat) ^ j)) * 2 % 2305843009213693951 + a % 2305843009213693951) (2305843009213693951)), (by omega), trivial⟩ ?_
   refine inb_n ?_
   refine then_n ?_
   refine AWP.regX { hs := [(1, { av := some (ai ((↑j : Int) - 1 - 1)) })] } (C := [ai (IntKind.i64.wrap ((↑j : Int) - 1 - 1)) = ai ((↑j : Int) - 1 - 1)]) (by kernel_rfl) ⟨(av_i64 (by omega) (by omega)), trivial⟩ ?_
   refine round_n (j - 1) (by omega) (by omega) (Weaks.of [.keep [1, 0, 4, 6, 5] []] (s1 := AS.mk [(1, aw (b % 2305843009213693951)), (0, aw (a % 2305843009213693951)), (4, AV.val (Value.int .u64 0)), (6, ai ((↑j : Int) - 1 - 1)), (5, aw ((mq (a.toNat * ((b % 2305843009213693951).toNat / (2 : Nat) ^ j)) * 2 % 2305843009213693951 + a % 2305843009213693951) % 2305843009213693951))] []) (by kernel_rfl) (as_eq (f_cons rfl (f_cons rfl (f_cons rfl (f_cons (congrArg ai (by omega)) (f_cons (congrArg aw e1) rfl))))) rfl))
  ·have h1' : ¬ (b % 2305843009213693951).toNat / 2 ^ (j - 1) % 2 = 1 := fun e => h1 ((and1_iff _).2 (by rw [hs]; exact e))
   have e1 : mq (a.toNat * ((b % 2305843009213693951).toNat / 2 ^ j)) * 2 % 2305843009213693951 = mq (a.toNat * ((b % 2305843009213693951).toNat / 2 ^ (j - 1))) := by
    apply UInt64.toNat_inj.1
    rw [e0, mq_nat, hh, show (b % 2305843009213693951).toNat / 2 ^ (j - 1) % 2 = 0 by omega, Nat.add_zero, Nat.mul_left_comm]
   refine AWP.seq (by kernel_rfl) ?_
   refine AWP.regsKX 1 [{}] (by kernel_rfl) (C := []) (by kernel_rfl) trivial ?_
   refine AWP.condT (x := .tmp 12) (b := decide ((↑j : Int) - 1 ≥ 0)) (by kernel_rfl) (by kernel_rfl) (decide_eq_true (by omega)) ?_
   refine AWP.skip (by kernel_rfl) ?_
   refine then_n ?_
   refine AWP.seq (by kernel_rfl) ?_
   refine AWP.block (id := 1) (by kernel_rfl) ?_
   refine AWP.regsPX 2 [{ hs := [(1, { av := some (aw (mq (a.toNat * ((b % 2305843009213693951).toNat / (2 : Nat) ^ j)) * 2)) }), (2, { av := some (aw (mq (a.toNat * ((b % 2305843009213693951).toNat / (2 : Nat) ^ j)) * 2 % 2305843009213693951)) })] }, { hs := [(2, { av := some (AV.val (Value.int .u64 ((↑j : Int) - 1))) }), (3, { av := some (aw ((b % 2305843009213693951) >>> UInt64.ofNat ((↑j : Int) - 1).toNat)) }), (4, { av := some (aw ((b % 2305843009213693951) >>> UInt64.ofNat ((↑j : Int) - 1).toNat &&& (1 : UInt64))) }), (5, { av := some (ao ((b % 2305843009213693951) >>> UInt64.ofNat ((↑j : Int) - 1).toNat &&& (1 : UInt64) == 1)) })] }] [.keep [23, 5, 12, 1, 0, 4, 6] []] (by kernel_rfl) (C := [AV.val (Value.int .u64 (IntKind.u64.wrap (wv (mq (a.toNat * ((b % 2305843009213693951).toNat / (2 : Nat) ^ j))) * 2))) = aw (mq (a.toNat * ((b % 2305843009213693951).toNat / (2 : Nat) ^ j)) * 2), AV.val (Value.int .u64 ((wv (mq (a.toNat * ((b % 2305843009213693951).toNat / (2 : Nat) ^ j)) * 2)).tmod (2305843009213693951 : Int))) = aw (mq (a.toNat * ((b % 2305843009213693951).toNat / (2 : Nat) ^ j)) * 2 % 2305843009213693951), (2305843009213693951 : Int) ≠ (0 : Int), AV.val (Value.int .u64 (IntKind.u64.wrap ((↑j : Int) - 1))) = AV.val (Value.int .u64 ((↑j : Int) - 1)), AV.val (Value.int .u64 ((wv (b % 2305843009213693951)).fdiv ((2 : Int) ^ min ((↑j : Int) - 1).toNat IntKind.u64.bits))) = aw ((b % 2305843009213693951) >>> UInt64.ofNat ((↑j : Int) - 1).toNat), (0 : Int) ≤ (↑j : Int) - 1, AV.val (Value.int .u64 (IntKind.u64.wrap (↑(BitVec.ofInt IntKind.u64.bits (wv ((b % 2305843009213693951) >>> UInt64.ofNat ((↑j : Int) - 1).toNat)) &&& BitVec.ofInt IntKind.u64.bits (1 : Int)).toNat : Int))) = aw ((b % 2305843009213693951) >>> UInt64.ofNat ((↑j : Int) - 1).toNat &&& (1 : UInt64)), ao (wv ((b % 2305843009213693951) >>> UInt64.ofNat ((↑j : Int) - 1).toNat &&& (1 : UInt64)) == (1 : Int)) = ao ((b % 2305843009213693951) >>> UInt64.ofNat ((↑j : Int) - 1).toNat &&& (1 : UInt64) == 1)]) (by kernel_rfl) ⟨(avw_mul (mq (a.toNat * ((b % 2305843009213693951).toNat / (2 : Nat) ^ j))) (2)), (avw_mod (mq (a.toNat * ((b % 2305843009213693951).toNat / (2 : Nat) ^ j)) * 2) (2305843009213693951)), (by omega), (av_u64 (by omega) (by omega)), (avw_shr (b % 2305843009213693951) ((↑j : Int) - 1) (by omega) (by omega)), (by omega), (avw_and ((b % 2305843009213693951) >>> UInt64.ofNat ((↑j : Int) - 1).toNat) (1)), (avw_eq ((b % 2305843009213693951) >>> UInt64.ofNat ((↑j : Int) - 1).toNat &&& (1 : UInt64)) (1)), trivial⟩ ?_
   refine AWP.condF (x := .tmp 23) (b := (b % 2305843009213693951) >>> UInt64.ofNat ((↑j : Int) - 1).toNat &&& (1 : UInt64) == 1) (by kernel_rfl) (by kernel_rfl) (decide_eq_false (by omega)) ?_
   refine AWP.skip (by kernel_rfl) ?_
   refine inb_n ?_
   refine then_n ?_
   refine AWP.regX { hs := [(1, { av := some (ai ((↑j : Int) - 1 - 1)) })] } (C := [ai (IntKind.i64.wrap ((↑j : Int) - 1 - 1)) = ai ((↑j : Int) - 1 - 1)]) (by kernel_rfl) ⟨(av_i64 (by omega) (by omega)), trivial⟩ ?_
   refine round_n (j - 1) (by omega) (by omega) (Weaks.of [.keep [1, 0, 4, 6, 5] []] (s1 := AS.mk [(1, aw (b % 2305843009213693951)), (0, aw (a % 2305843009213693951)), (4, AV.val (Value.int .u64 0)), (6, ai ((↑j : Int) - 1 - 1)), (5, aw (mq (a.toNat * ((b % 2305843009213693951).toNat / (2 : Nat) ^ j)) * 2 % 2305843009213693951))] []) (by kernel_rfl) (as_eq (f_cons rfl (f_cons rfl (f_cons rfl (f_cons (congrArg ai (by omega)) (f_cons (congrArg aw e1) rfl))))) rfl))
 ·have hj0 : j = 0 := by omega
  subst hj0
  have e : mq (a.toNat * ((b % 2305843009213693951).toNat / 2 ^ 0)) = mq (a.toNat * b.toNat) := by
   rw [Nat.pow_zero, Nat.div_one, hb]; apply mq_of; rw [Nat.mul_mod, Nat.mod_mod, ← Nat.mul_mod]
  refine AWP.seq (by kernel_rfl) ?_
  refine AWP.regsPX 1 [{}] [.keep [12, 1, 0, 4, 6, 5] []] (by kernel_rfl) (C := []) (by kernel_rfl) trivial ?_
  refine AWP.condF (x := .tmp 12) (b := decide ((↑(0 : Nat) : Int) - 1 ≥ 0)) (by kernel_rfl) (by kernel_rfl) (decide_eq_false (by omega)) ?_
  refine AWP.exit (id := 0) (by kernel_rfl) ?_
  refine then_e ?_
  refine round_e ?_
  refine inb_e ?_
  refine then_n ?_
  refine AWP.regsPX 1 [{}] [.keep [4, 12, 1, 0, 6, 5] []] (by kernel_rfl) (C := []) (by kernel_rfl) trivial ?_
  refine AWP.ret (by kernel_rfl) ?_
  refine Done.ret_ (C := [Value.int .u64 (wv (mq (a.toNat * ((b % 2305843009213693951).toNat / (2 : Nat) ^ (0 : Nat))))) = Value.int .u64 (wv (mq (a.toNat * b.toNat)))]) (by kernel_rfl) ⟨(by rw [e]), trivial⟩
theorem refpowx_ret (a n : UInt64) : Ret Tryd.prog 46 [aw a, aw n] (aw (mq (a.toNat ^ n.toNat))) := by
 have hn := n.toNat_lt
 refine Ret.of_fn Tryd.func46 (by kernel_rfl) 24 (by kernel_rfl) (by kernel_rfl) ?_
 refine AWP.regsKX 2 [{}, {}] (by kernel_rfl) (C := []) (by kernel_rfl) trivial ?_
 refine AWP.seq (by kernel_rfl) ?_
 refine AWP.regsKX 1 [{}] (by kernel_rfl) (C := []) (by kernel_rfl) trivial ?_
 refine AWP.block (id := 0) (by kernel_rfl) ?_
 refine AWP.loop (fun (j : Nat) => (⟨[(4, AV.val (Value.int .u64 0)), (0, aw a), (1, aw n), (6, ai ((j : Int) - 1)), (5, aw (mq (a.toNat ^ (n.toNat / 2 ^ j))))], []⟩ : AS)) (fun j => (j ≤ 64)) (fun j => (j)) (by kernel_rfl) (64) ?_ (Weaks.of [.keep [4, 0, 1, 6, 5] []] (s1 := AS.mk [(4, AV.val (Value.int .u64 0)), (0, aw a), (1, aw n), (6, ai 63), (5, AV.val (Value.int .u64 1))] []) (by kernel_rfl) (as_eq (f_cons rfl (f_cons rfl (f_cons rfl (f_cons rfl (f_cons (congrArg aw (show 1 = mq _ by rw [Nat.div_eq_of_lt (by omega)]; rfl)) rfl))))) rfl)) ?_
 ·omega
 intro j hj
 by_cases h0 : 0 < j
 ·have hs := shr_at n j h0 (by omega)
  have hh := half_at n.toNat j h0
  have e0 : mq ((mq (a.toNat ^ (n.toNat / 2 ^ j))).toNat * (mq (a.toNat ^ (n.toNat / 2 ^ j))).toNat) = mq (a.toNat ^ (2 * (n.toNat / 2 ^ j))) := by
   apply mq_of
   rw [mq_nat, ← Nat.mul_mod, ← Nat.pow_add]; congr 2; omega
  by_cases h1 : n >>> UInt64.ofNat ((j : Int) - 1).toNat &&& 1 = 1
  ·have h1' := (and1_iff _).1 h1
   rw [hs] at h1'
   have e1 : mq ((mq ((mq (a.toNat ^ (n.toNat / 2 ^ j))).toNat * (mq (a.toNat ^ (n.toNat / 2 ^ j))).toNat)).toNat * a.toNat) = mq (a.toNat ^ (n.toNat / 2 ^ (j - 1))) := by
    rw [e0, hh, h1', Nat.pow_succ]
    apply mq_of
    rw [mq_nat, Nat.mul_mod, Nat.mod_mod, ← Nat.mul_mod]
   refine AWP.seq (by kernel_rfl) ?_
   refine AWP.regsKX 1 [{}] (by kernel_rfl) (C := []) (by kernel_rfl) trivial ?_
   refine AWP.condT (x := .tmp 8) (b := decide ((↑j : Int) - 1 ≥ 0)) (by kernel_rfl) (by kernel_rfl) (decide_eq_true (by omega)) ?_
   refine AWP.skip (by kernel_rfl) ?_
   refine then_n ?_
   refine AWP.seq (by kernel_rfl) ?_
   refine AWP.block (id := 1) (by kernel_rfl) ?_
   refine AWP.regsPX 2 [{ hs := [(2, { av := some (aw (mq ((mq (a.toNat ^ (n.toNat / (2 : Nat) ^ j))).toNat * (mq (a.toNat ^ (n.toNat / (2 : Nat) ^ j))).toNat))) })] }, { hs := [(2, { av := some (AV.val (Value.int .u64 ((↑j : Int) - 1))) }), (3, { av := some (aw (n >>> UInt64.ofNat ((↑j : Int) - 1).toNat)) }), (4, { av := some (aw (n >>> UInt64.ofNat ((↑j : Int) - 1).toNat &&& (1 : UInt64))) }), (5, { av := some (ao (n >>> UInt64.ofNat ((↑j : Int) - 1).toNat &&& (1 : UInt64) == 1)) })] }] [.keep [19, 5, 8, 4, 0, 1, 6] []] (by kernel_rfl) (C := [Ret Tryd.prog (67 : Nat) [aw (mq (a.toNat ^ (n.toNat / (2 : Nat) ^ j))), aw (mq (a.toNat ^ (n.toNat / (2 : Nat) ^ j)))] (aw (mq ((mq (a.toNat ^ (n.toNat / (2 : Nat) ^ j))).toNat * (mq (a.toNat ^ (n.toNat / (2 : Nat) ^ j))).toNat))), AV.val (Value.int .u64 (IntKind.u64.wrap ((↑j : Int) - 1))) = AV.val (Value.int .u64 ((↑j : Int) - 1)), AV.val (Value.int .u64 ((wv n).fdiv ((2 : Int) ^ min ((↑j : Int) - 1).toNat IntKind.u64.bits))) = aw (n >>> UInt64.ofNat ((↑j : Int) - 1).toNat), (0 : Int) ≤ (↑j : Int) - 1, AV.val (Value.int .u64 (IntKind.u64.wrap (↑(BitVec.ofInt IntKind.u64.bits (wv (n >>> UInt64.ofNat ((↑j : Int) - 1).toNat)) &&& BitVec.ofInt IntKind.u64.bits (1 : Int)).toNat : Int))) = aw (n >>> UInt64.ofNat ((↑j : Int) - 1).toNat &&& (1 : UInt64)), ao (wv (n >>> UInt64.ofNat ((↑j : Int) - 1).toNat &&& (1 : UInt64)) == (1 : Int)) = ao (n >>> UInt64.ofNat ((↑j : Int) - 1).toNat &&& (1 : UInt64) == 1)]) (by kernel_rfl) ⟨(refmulx_ret (mq (a.toNat ^ (n.toNat / (2 : Nat) ^ j))) (mq (a.toNat ^ (n.toNat / (2 : Nat) ^ j)))), (av_u64 (by omega) (by omega)), (avw_shr (n) ((↑j : Int) - 1) (by omega) (by omega)), (by omega), (avw_and (n >>> UInt64.ofNat ((↑j : Int) - 1).toNat) (1)), (avw_eq (n >>> UInt64.ofNat ((↑j : Int) - 1).toNat &&& (1 : UInt64)) (1)), trivial⟩ ?_
   refine AWP.condT (x := .tmp 19) (b := n >>> UInt64.ofNat ((↑j : Int) - 1).toNat &&& (1 : UInt64) == 1) (by kernel_rfl) (by kernel_rfl) (decide_eq_true (by omega)) ?_
   refine AWP.regX { hs := [(2, { av := some (aw (mq ((mq ((mq (a.toNat ^ (n.toNat / (2 : Nat) ^ j))).toNat * (mq (a.toNat ^ (n.toNat / (2 : Nat) ^ j))).toNat)).toNat * a.toNat))) })] } (C := [Ret Tryd.prog (67 : Nat) [aw (mq ((mq (a.toNat ^ (n.toNat / (2 : Nat) ^ j))).toNat * (mq (a.toNat ^ (n.toNat / (2 : Nat) ^ j))).toNat)), aw a] (aw (mq ((mq ((mq (a.toNat ^ (n.toNat / (2 : Nat) ^ j))).toNat * (mq (a.toNat ^ (n.toNat / (2 : Nat) ^ j))).toNat)).toNat * a.toNat)))]) (by kernel_rfl) ⟨(refmulx_ret (mq ((mq (a.toNat ^ (n.toNat / (2 : Nat) ^ j))).toNat * (mq (a.toNat ^ (n.toNat / (2 : Nat) ^ j))).toNat)) (a)), trivial⟩ ?_
   refine inb_n ?_
   refine then_n ?_
   refine AWP.regX { hs := [(1, { av := some (ai ((↑j : Int) - 1 - 1)) })] } (C := [ai (IntKind.i64.wrap ((↑j : Int) - 1 - 1)) = ai ((↑j : Int) - 1 - 1)]) (by kernel_rfl) ⟨(av_i64 (by omega) (by omega)), trivial⟩ ?_
   refine round_n (j - 1) (by omega) (by omega) (Weaks.of [.keep [4, 0, 1, 6, 5] []] (s1 := AS.mk [(4, AV.val (Value.int .u64 0)), (0, aw a), (1, aw n), (6, ai ((↑j : Int) - 1 - 1)), (5, aw (mq ((mq ((mq (a.toNat ^ (n.toNat / (2 : Nat) ^ j))).toNat * (mq (a.toNat ^ (n.toNat / (2 : Nat) ^ j))).toNat)).toNat * a.toNat)))] []) (by kernel_rfl) (as_eq (f_cons rfl (f_cons rfl (f_cons rfl (f_cons (congrArg ai (by omega)) (f_cons (congrArg aw e1) rfl))))) rfl))
  ·have h1' : ¬ n.toNat / 2 ^ (j - 1) % 2 = 1 := fun e => h1 ((and1_iff _).2 (by rw [hs]; exact e))
   have e1 : mq ((mq (a.toNat ^ (n.toNat / 2 ^ j))).toNat * (mq (a.toNat ^ (n.toNat / 2 ^ j))).toNat) = mq (a.toNat ^ (n.toNat / 2 ^ (j - 1))) := by
    rw [e0, hh, show n.toNat / 2 ^ (j - 1) % 2 = 0 by omega, Nat.add_zero]
   refine AWP.seq (by kernel_rfl) ?_
   refine AWP.regsKX 1 [{}] (by kernel_rfl) (C := []) (by kernel_rfl) trivial ?_
   refine AWP.condT (x := .tmp 8) (b := decide ((↑j : Int) - 1 ≥ 0)) (by kernel_rfl) (by kernel_rfl) (decide_eq_true (by omega)) ?_
   refine AWP.skip (by kernel_rfl) ?_
   refine then_n ?_
   refine AWP.seq (by kernel_rfl) ?_
   refine AWP.block (id := 1) (by kernel_rfl) ?_
   refine AWP.regsPX 2 [{ hs := [(2, { av := some (aw (mq ((mq (a.toNat ^ (n.toNat / (2 : Nat) ^ j))).toNat * (mq (a.toNat ^ (n.toNat / (2 : Nat) ^ j))).toNat))) })] }, { hs := [(2, { av := some (AV.val (Value.int .u64 ((↑j : Int) - 1))) }), (3, { av := some (aw (n >>> UInt64.ofNat ((↑j : Int) - 1).toNat)) }), (4, { av := some (aw (n >>> UInt64.ofNat ((↑j : Int) - 1).toNat &&& (1 : UInt64))) }), (5, { av := some (ao (n >>> UInt64.ofNat ((↑j : Int) - 1).toNat &&& (1 : UInt64) == 1)) })] }] [.keep [19, 5, 8, 4, 0, 1, 6] []] (by kernel_rfl) (C := [Ret Tryd.prog (67 : Nat) [aw (mq (a.toNat ^ (n.toNat / (2 : Nat) ^ j))), aw (mq (a.toNat ^ (n.toNat / (2 : Nat) ^ j)))] (aw (mq ((mq (a.toNat ^ (n.toNat / (2 : Nat) ^ j))).toNat * (mq (a.toNat ^ (n.toNat / (2 : Nat) ^ j))).toNat))), AV.val (Value.int .u64 (IntKind.u64.wrap ((↑j : Int) - 1))) = AV.val (Value.int .u64 ((↑j : Int) - 1)), AV.val (Value.int .u64 ((wv n).fdiv ((2 : Int) ^ min ((↑j : Int) - 1).toNat IntKind.u64.bits))) = aw (n >>> UInt64.ofNat ((↑j : Int) - 1).toNat), (0 : Int) ≤ (↑j : Int) - 1, AV.val (Value.int .u64 (IntKind.u64.wrap (↑(BitVec.ofInt IntKind.u64.bits (wv (n >>> UInt64.ofNat ((↑j : Int) - 1).toNat)) &&& BitVec.ofInt IntKind.u64.bits (1 : Int)).toNat : Int))) = aw (n >>> UInt64.ofNat ((↑j : Int) - 1).toNat &&& (1 : UInt64)), ao (wv (n >>> UInt64.ofNat ((↑j : Int) - 1).toNat &&& (1 : UInt64)) == (1 : Int)) = ao (n >>> UInt64.ofNat ((↑j : Int) - 1).toNat &&& (1 : UInt64) == 1)]) (by kernel_rfl) ⟨(refmulx_ret (mq (a.toNat ^ (n.toNat / (2 : Nat) ^ j))) (mq (a.toNat ^ (n.toNat / (2 : Nat) ^ j)))), (av_u64 (by omega) (by omega)), (avw_shr (n) ((↑j : Int) - 1) (by omega) (by omega)), (by omega), (avw_and (n >>> UInt64.ofNat ((↑j : Int) - 1).toNat) (1)), (avw_eq (n >>> UInt64.ofNat ((↑j : Int) - 1).toNat &&& (1 : UInt64)) (1)), trivial⟩ ?_
   refine AWP.condF (x := .tmp 19) (b := n >>> UInt64.ofNat ((↑j : Int) - 1).toNat &&& (1 : UInt64) == 1) (by kernel_rfl) (by kernel_rfl) (decide_eq_false (by omega)) ?_
   refine AWP.skip (by kernel_rfl) ?_
   refine inb_n ?_
   refine then_n ?_
   refine AWP.regX { hs := [(1, { av := some (ai ((↑j : Int) - 1 - 1)) })] } (C := [ai (IntKind.i64.wrap ((↑j : Int) - 1 - 1)) = ai ((↑j : Int) - 1 - 1)]) (by kernel_rfl) ⟨(av_i64 (by omega) (by omega)), trivial⟩ ?_
   refine round_n (j - 1) (by omega) (by omega) (Weaks.of [.keep [4, 0, 1, 6, 5] []] (s1 := AS.mk [(4, AV.val (Value.int .u64 0)), (0, aw a), (1, aw n), (6, ai ((↑j : Int) - 1 - 1)), (5, aw (mq ((mq (a.toNat ^ (n.toNat / (2 : Nat) ^ j))).toNat * (mq (a.toNat ^ (n.toNat / (2 : Nat) ^ j))).toNat)))] []) (by kernel_rfl) (as_eq (f_cons rfl (f_cons rfl (f_cons rfl (f_cons (congrArg ai (by omega)) (f_cons (congrArg aw e1) rfl))))) rfl))
 ·have hj0 : j = 0 := by omega
  subst hj0
  refine AWP.seq (by kernel_rfl) ?_
  refine AWP.regsPX 1 [{}] [.keep [8, 4, 0, 1, 6, 5] []] (by kernel_rfl) (C := []) (by kernel_rfl) trivial ?_
  refine AWP.condF (x := .tmp 8) (b := decide ((↑(0 : Nat) : Int) - 1 ≥ 0)) (by kernel_rfl) (by kernel_rfl) (decide_eq_false (by omega)) ?_
  refine AWP.exit (id := 0) (by kernel_rfl) ?_
  refine then_e ?_
  refine round_e ?_
  refine inb_e ?_
  refine then_n ?_
  refine AWP.regsPX 1 [{}] [.keep [4, 8, 0, 1, 6, 5] []] (by kernel_rfl) (C := []) (by kernel_rfl) trivial ?_
  refine AWP.ret (by kernel_rfl) ?_
  refine Done.ret_ (C := [Value.int .u64 (wv (mq (a.toNat ^ (n.toNat / (2 : Nat) ^ (0 : Nat))))) = Value.int .u64 (wv (mq (a.toNat ^ n.toNat)))]) (by kernel_rfl) ⟨(by rw [Nat.pow_zero, Nat.div_one]), trivial⟩
end Go.Proofs.YtejpabdmiagnnaaDoor
