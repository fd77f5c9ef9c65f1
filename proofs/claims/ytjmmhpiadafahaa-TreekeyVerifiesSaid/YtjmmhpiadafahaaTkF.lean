/-
  The law that every signature is accepted. No condition.
-/
import Derived.Test.YtjmmhpiadafahaaTkA
namespace Go.Proofs.Ytjmmhpiadafahaa
open Go.RowKit
set_option maxRecDepth 100000
set_option maxHeartbeats 4000000
set_option linter.unusedVariables false
--@au0

theorem mod4 (c : UInt8) : AV.val (.int .u8 ((bv c).tmod 4)) = ab (c % 4) := by
  have h0 := bv_nn c
  rw [Int.tmod_eq_emod_of_nonneg h0]
  congr 2
theorem treekeyBack_raw (seed : UInt64) (height : UInt8) (m : UInt64) (c : UInt8) (k : Nat) (h4 : AV.val (.int .u8 ((bv height).tmod 4)) = ab c) (hc : bv c = (k : Int)) (hk : k < 4) : Ret Try.prog 7 [aw seed, ab height, aw m] (ao true) := by
  have hp := public_ret seed (k : Int)
  have hb : ¬ badH (k : Int) := by unfold badH; omega
  have p1 : pkE (k : Int) = 0 := if_neg hb
  have p2 : pkH (k : Int) = k := if_neg hb
  have p3 : pkR seed (k : Int) = nodeW seed k 0 := (if_neg hb).trans (by rw [Int.toNat_natCast])
  rw [p1, p2, p3] at hp
  have ck : IntKind.i64.wrap (bv c) = (k : Int) := by rw [hc, i64_small (by omega) (by omega)]
  have h2 : 2 ^ k ≤ 16 := Nat.pow_le_pow_right (by decide) (by omega : k ≤ 4)
  have hsh : IntKind.i64.wrap (1 * 2 ^ min (wv (u64 (k : Int))).toNat IntKind.i64.bits) = ((2 ^ k : Nat) : Int) := by
    rcases (show k = 0 ∨ k = 1 ∨ k = 2 ∨ k = 3 by omega) with rfl | rfl | rfl | rfl <;> decide +kernel
  have hw0 : (0 : Int) ≤ wv (u64 (k : Int)) := Int.natCast_nonneg _
  refine Ret.of_fn Try.func7 (by kernel_rfl) 67 (by kernel_rfl) (by kernel_rfl) ?_
  refine AWP.regsP 3 [{  }, { hs := [(1, { av := some (ab c) }), (2, { av := some (ai (↑k : Int)) })] }, { hs := [(2, { av := some (AV.tup [AV.agg [ai (↑k : Int), aw (nodeW seed k (0 : Nat))], ai 0]) })] }] [.keep [9, 8, 7, 6, 0, 1, 2] [8]] (by kernel_rfl) (s' := AS.mk [(9, ai 0), (8, AV.addr 8 0), (7, ai (↑k : Int)), (6, ao false), (0, aw seed), (1, ab height), (2, aw m)] [(8, Row.mk 1 false true [ai (↑k : Int), aw (nodeW seed k (0 : Nat))])]) (C := [AV.val (Value.int .u8 ((bv height).tmod (4 : Int))) = ab c, (4 : Int) ≠ (0 : Int), ai (IntKind.i64.wrap (bv c)) = ai (↑k : Int), Ret Try.prog (10 : Nat) [aw seed, ai (↑k : Int)] (AV.tup [AV.agg [ai (↑k : Int), aw (nodeW seed k (0 : Nat))], ai 0]), (2 : Nat) ≤ (2 : Nat)]) (by kernel_rfl) ⟨h4, (by omega), (congrArg (fun n => AV.val (.int .i64 n)) ck), (hp), (by omega), trivial⟩ ?_
  refine AWP.seq (by kernel_rfl) ?_
  refine AWP.regsP 1 [{ hs := [(3, { g := false }), (4, { g := false }), (5, { g := false }), (6, { g := false }), (7, { b := false })] }] [.keep [29, 9, 8, 7, 6, 0, 1, 2] [8]] (by kernel_rfl) (s' := AS.mk [(29, ao ((↑k : Int) != (↑k : Int))), (9, ai 0), (8, AV.addr 8 0), (7, ai (↑k : Int)), (6, ao false), (0, aw seed), (1, ab height), (2, aw m)] [(8, Row.mk 1 false true [ai (↑k : Int), aw (nodeW seed k (0 : Nat))])]) (C := [((0 : Int) != (0 : Int)) = false, ((0 : Int) != (0 : Int)) = false, ((0 : Int) != (0 : Int)) = false, ((0 : Int) != (0 : Int)) = false, ((0 : Int) != (0 : Int)) = false]) (by kernel_rfl) ⟨rfl, rfl, rfl, rfl, rfl, trivial⟩ ?_
  refine AWP.condF (x := .tmp 29) (b := (↑k : Int) != (↑k : Int)) (by kernel_rfl) (by kernel_rfl) (by simp_all) ?_
  refine AWP.skip (by kernel_rfl) ?_
  refine then_n ?_
  refine AWP.seq (by kernel_rfl) ?_
  refine AWP.regsK 1 [{  }] (by kernel_rfl) (s' := AS.mk [(10, ai 0), (29, ao ((↑k : Int) != (↑k : Int))), (9, ai 0), (8, AV.addr 8 0), (7, ai (↑k : Int)), (6, ao false), (0, aw seed), (1, ab height), (2, aw m)] [(8, Row.mk 1 false true [ai (↑k : Int), aw (nodeW seed k (0 : Nat))])]) (C := []) (by kernel_rfl) trivial ?_
  refine AWP.block (id := 0) (by kernel_rfl) ?_
  refine AWP.loop (fun (i : Nat) => (⟨[(29, ao ((↑k : Int) != (↑k : Int))), (9, ai 0), (8, AV.addr 8 0), (7, ai (↑k : Int)), (0, aw seed), (1, ab height), (2, aw m), (10, ai i)], [(8, ⟨1, false, true, [ai (↑k : Int), aw (nodeW seed k (0 : Nat))]⟩)]⟩ : AS)) (fun i => (i ≤ 2 ^ k)) (fun i => (2 ^ k - i)) (by kernel_rfl) (0) ?_ (Weaks.of [.keep [29, 9, 8, 7, 0, 1, 2, 10] [8]] (s1 := AS.mk [(29, ao ((↑k : Int) != (↑k : Int))), (9, ai 0), (8, AV.addr 8 0), (7, ai (↑k : Int)), (0, aw seed), (1, ab height), (2, aw m), (10, ai 0)] [(8, Row.mk 1 false true [ai (↑k : Int), aw (nodeW seed k (0 : Nat))])]) (by kernel_rfl) rfl) ?_
  · exact Nat.zero_le _
  intro i hi
  refine AWP.seq (by kernel_rfl) ?_
  refine AWP.regsP 1 [{ hs := [(2, { av := some (aw (u64 (↑k : Int))) }), (3, { av := some (ai (↑((2 : Nat) ^ k) : Int)) })] }] [.keep [34, 29, 9, 8, 7, 0, 1, 2, 10] [8]] (by kernel_rfl) (s' := AS.mk [(34, ao (decide ((↑i : Int) < (↑((2 : Nat) ^ k) : Int)))), (29, ao ((↑k : Int) != (↑k : Int))), (9, ai 0), (8, AV.addr 8 0), (7, ai (↑k : Int)), (0, aw seed), (1, ab height), (2, aw m), (10, ai (↑i : Int))] [(8, Row.mk 1 false true [ai (↑k : Int), aw (nodeW seed k (0 : Nat))])]) (C := [AV.val (Value.int .u64 (IntKind.u64.wrap (↑k : Int))) = aw (u64 (↑k : Int)), ai (IntKind.i64.wrap ((1 : Int) * (2 : Int) ^ min (wv (u64 (↑k : Int))).toNat IntKind.i64.bits)) = ai (↑((2 : Nat) ^ k) : Int), (0 : Int) ≤ wv (u64 (↑k : Int))]) (by kernel_rfl) ⟨(avw_conv ((↑k : Int))), (congrArg (fun n => AV.val (.int .i64 n)) hsh), (by assumption), trivial⟩ ?_
  refine AWP.condD (x := .tmp 34) (p := (↑i : Int) < (↑((2 : Nat) ^ k) : Int)) (by kernel_rfl) (by kernel_rfl) (fun g => ?_) (fun g => ?_)
  · have hs := sign_ok seed k i (m + u64 (i : Int)) (by omega) (by omega)
    have hv := verify_ret (k : Int) (nodeW seed k 0) (m + u64 (i : Int)) (i : Int) (signL seed i (m + u64 (i : Int)) 18) (pathW seed i k)
    rw [ver_sign seed k i (m + u64 (i : Int)) (by omega) (by omega)] at hv
    generalize signL seed i (m + u64 (i : Int)) 18 = S at *
    generalize pathW seed i k = Q at *
    refine AWP.skip (by kernel_rfl) ?_
    refine then_n ?_
    refine AWP.seq (by kernel_rfl) ?_
    refine AWP.block (id := 1) (by kernel_rfl) ?_
    refine AWP.regsP 2 [{ hs := [(5, { av := some (aw (u64 (↑i : Int))) }), (6, { av := some (aw (m + u64 (↑i : Int))) }), (7, { av := some (AV.tup [AV.agg [ai (↑i : Int), AV.sl 1 (wordsA S), AV.own 1 (wordsA Q)], ai 0]), b := false })] }, { hs := [(3, { g := false }), (4, { g := false }), (5, { g := false }), (6, { g := false }), (7, { b := false }), (9, { g := false }), (10, { g := false }), (11, { g := false }), (12, { av := some (aw (u64 (↑i : Int))), g := false }), (13, { av := some (aw (m + u64 (↑i : Int))), g := false }), (14, { g := false }), (15, { av := some (ai 0), g := false }), (16, { g := false }), (17, { b := false })] }] [.keep [65, 12, 11, 34, 29, 9, 8, 7, 0, 1, 2, 10] [11, 301045, 8]] (by kernel_rfl) (s' := AS.mk [(65, ao ((0 : Int) != (0 : Int))), (12, ai 0), (11, AV.addr 11 0), (34, ao (decide ((↑i : Int) < (↑((2 : Nat) ^ k) : Int)))), (29, ao ((↑k : Int) != (↑k : Int))), (9, ai 0), (8, AV.addr 8 0), (7, ai (↑k : Int)), (0, aw seed), (1, ab height), (2, aw m), (10, ai (↑i : Int))] [(11, Row.mk 1 false true [ai (↑i : Int), AV.sl 1 (wordsA S), AV.ref 301045]), (301045, Row.mk 1 true false (wordsA Q)), (8, Row.mk 1 false true [ai (↑k : Int), aw (nodeW seed k (0 : Nat))])]) (C := [AV.val (Value.int .u64 (IntKind.u64.wrap (↑i : Int))) = aw (u64 (↑i : Int)), AV.val (Value.int .u64 (IntKind.u64.wrap (wv m + wv (u64 (↑i : Int))))) = aw (m + u64 (↑i : Int)), Ret Try.prog (13 : Nat) [aw seed, ai (↑k : Int), ai (↑i : Int), aw (m + u64 (↑i : Int))] (AV.tup [AV.agg [ai (↑i : Int), AV.sl 1 (wordsA S), AV.own 1 (wordsA Q)], ai 0]), (3 : Nat) ≤ (3 : Nat), ((0 : Int) != (0 : Int)) = false, ((0 : Int) != (0 : Int)) = false, ((0 : Int) != (0 : Int)) = false, ((0 : Int) != (0 : Int)) = false, ((0 : Int) != (0 : Int)) = false, ((↑i : Int) != (↑i : Int)) = false, ((↑i : Int) != (↑i : Int)) = false, ((↑i : Int) != (↑i : Int)) = false, ((↑i : Int) != (↑i : Int)) = false, AV.val (Value.int .u64 (IntKind.u64.wrap (↑i : Int))) = aw (u64 (↑i : Int)), ((↑i : Int) != (↑i : Int)) = false, AV.val (Value.int .u64 (IntKind.u64.wrap (wv m + wv (u64 (↑i : Int))))) = aw (m + u64 (↑i : Int)), ((↑i : Int) != (↑i : Int)) = false, ((↑i : Int) != (↑i : Int)) = false, Ret Try.prog (17 : Nat) [AV.agg [ai (↑k : Int), aw (nodeW seed k (0 : Nat))], aw (m + u64 (↑i : Int)), AV.agg [ai (↑i : Int), AV.sl 1 (wordsA S), AV.sl 1 (wordsA Q)]] (ai 0), ((↑i : Int) != (↑i : Int)) = false, ((↑i : Int) != (↑i : Int)) = false]) (by kernel_rfl) ⟨(avw_conv ((↑i : Int))), (avw_add (m) (u64 (↑i : Int))), (hs), (by omega), rfl, rfl, rfl, rfl, rfl, (by simp_all), (by simp_all), (by simp_all), (by simp_all), (avw_conv ((↑i : Int))), (by simp_all), (avw_add (m) (u64 (↑i : Int))), (by simp_all), (by simp_all), (hv), (by simp_all), (by simp_all), trivial⟩ ?_
    refine AWP.condF (x := .tmp 65) (b := (0 : Int) != (0 : Int)) (by kernel_rfl) (by kernel_rfl) rfl ?_
    refine AWP.skip (by kernel_rfl) ?_
    refine inb_n ?_
    refine then_n ?_
    refine AWP.reg { hs := [(1, { av := some (ai ((↑i : Int) + (1 : Int))) })] } (s' := AS.mk [(10, ai ((↑i : Int) + (1 : Int))), (36, ai ((↑i : Int) + (1 : Int))), (35, ai (↑i : Int)), (65, ao ((0 : Int) != (0 : Int))), (12, ai 0), (11, AV.addr 11 0), (34, ao (decide ((↑i : Int) < (↑((2 : Nat) ^ k) : Int)))), (29, ao ((↑k : Int) != (↑k : Int))), (9, ai 0), (8, AV.addr 8 0), (7, ai (↑k : Int)), (0, aw seed), (1, ab height), (2, aw m)] [(11, Row.mk 1 false true [ai (↑i : Int), AV.sl 1 (wordsA S), AV.ref 301045]), (301045, Row.mk 1 true false (wordsA Q)), (8, Row.mk 1 false true [ai (↑k : Int), aw (nodeW seed k (0 : Nat))])]) (C := [ai (IntKind.i64.wrap ((↑i : Int) + (1 : Int))) = ai ((↑i : Int) + (1 : Int))]) (by kernel_rfl) ⟨(av_i64 (by omega) (by omega)), trivial⟩ ?_
    refine round_n (i + 1) (by omega) (by omega) (Weaks.of [.keep [29, 9, 8, 7, 0, 1, 2, 10] [8]] (s1 := AS.mk [(29, ao ((↑k : Int) != (↑k : Int))), (9, ai 0), (8, AV.addr 8 0), (7, ai (↑k : Int)), (0, aw seed), (1, ab height), (2, aw m), (10, ai ((↑i : Int) + (1 : Int)))] [(8, Row.mk 1 false true [ai (↑k : Int), aw (nodeW seed k (0 : Nat))])]) (by kernel_rfl) (as_eq (f_cons rfl (f_cons rfl (f_cons rfl (f_cons rfl (f_cons rfl (f_cons rfl (f_cons rfl (f_cons (congrArg (fun n => AV.val (.int .i64 n)) (by omega)) rfl)))))))) (h_cons rfl rfl)))
  · have e : i = 2 ^ k := by omega
    refine AWP.exit (id := 0) (by kernel_rfl) ?_
    refine then_e ?_
    refine round_e ?_
    refine inb_e ?_
    refine then_n ?_
    refine AWP.regsK 1 [{ hs := [(0, { av := some (ao true) })] }] (by kernel_rfl) (s' := AS.mk [(6, ao true), (66, ao true), (34, ao (decide ((↑i : Int) < (↑((2 : Nat) ^ k) : Int)))), (29, ao ((↑k : Int) != (↑k : Int))), (9, ai 0), (8, AV.addr 8 0), (7, ai (↑k : Int)), (0, aw seed), (1, ab height), (2, aw m), (10, ai (↑i : Int))] [(8, Row.mk 1 false true [ai (↑k : Int), aw (nodeW seed k (0 : Nat))])]) (C := [Ret Try.prog (12 : Nat) [] (ao true)]) (by kernel_rfl) ⟨(awake4_ret), trivial⟩ ?_
    refine AWP.ret (by kernel_rfl) ?_
    refine Done.ret_ (C := [Value.bool true = Value.bool true]) (by kernel_rfl) ⟨rfl, trivial⟩
theorem treekeyBack_law (seed : UInt64) (height : UInt8) (m : UInt64) : Ret Try.prog 7 [aw seed, ab height, aw m] (ao true) := by
  have hm : (height % 4).toNat < 4 := by rw [UInt8.toNat_mod]; exact Nat.mod_lt _ (by decide)
  exact treekeyBack_raw seed height m (height % 4) (height % 4).toNat (mod4 height) rfl hm
end Go.Proofs.Ytjmmhpiadafahaa
