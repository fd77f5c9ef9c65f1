/-
  The levels of a tree, as treekey's own iterator hands them to a loop. No condition.
-/
import Derived.Test.YtjmmhpiadafahaaTk2
import Derived.Test.YtjmmhpiadafahaaRF
namespace Go.Proofs.Ytjmmhpiadafahaa
open Go.RowKit
set_option maxRecDepth 100000
set_option maxHeartbeats 4000000
set_option linter.unusedVariables false
--@au0

theorem levels_ret (seed : UInt64) (h : Int) : Ret Try.prog 26 [aw seed, ai h] (.clo 45 [.ptr [ai h] 0, .ptr [aw seed] 0]) := by
  refine Ret.of_fn Try.func26 (by kernel_rfl) 6 (by kernel_rfl) (by kernel_rfl) ?_
  refine AWP.regsP 2 [{  }, {  }] [.keep [4, 3, 2, 0, 1] []] (by kernel_rfl) (s' := AS.mk [(4, AV.clo (45 : Nat) (List.map (opd (thaw (2 : Nat) (thawRow (3 : Nat) (Row.mk 1 true true [ai h]) (Row.mk 1 true true [aw seed])) (thaw (3 : Nat) (Row.mk 1 true true [ai h]) (purifyAll (AS.mk [(4, AV.val Value.nilFunc), (3, AV.addr 3 0), (2, AV.addr 2 0), (0, aw seed), (1, ai h)] [(3, Row.mk 1 false true [ai h]), (2, Row.mk 1 false true [aw seed])]) (List.flatMap ids1 (List.map (opd (AS.mk [(4, AV.val Value.nilFunc), (3, AV.addr 3 0), (2, AV.addr 2 0), (0, aw seed), (1, ai h)] [(3, Row.mk 1 false true [ai h]), (2, Row.mk 1 false true [aw seed])])) [Operand.tmp (3 : Nat), Operand.tmp (2 : Nat)])))))) [Operand.tmp (3 : Nat), Operand.tmp (2 : Nat)])), (3, AV.ptr [ai h] (0 : Nat)), (2, AV.ptr [aw seed] (0 : Nat)), (0, aw seed), (1, ai h)] []) (C := []) (by kernel_rfl) trivial ?_
  refine AWP.ret (by kernel_rfl) ?_
  refine Done.ret_ (C := [[AV.ptr [ai h] (0 : Nat), AV.ptr [aw seed] (0 : Nat)] = [AV.ptr [ai h] (0 : Nat), AV.ptr [aw seed] (0 : Nat)]]) (by kernel_rfl) ⟨rfl, trivial⟩
/-- The nodes of a level. -/
def levW (seed : UInt64) (h i : Nat) : List UInt64 := (List.range (2 ^ (h - i))).map (nodeW seed i)
theorem levW_len (seed : UInt64) (h i : Nat) : (levW seed h i).length = 2 ^ (h - i) := by simp [levW]
theorem levW_at (seed : UInt64) (h i k : Nat) (hk : k < 2 ^ (h - i)) : (levW seed h i).getD k 0 = nodeW seed i k := by simp [levW, hk]
/-- The frame of the iterator at a level. -/
def levS (yv : Value) (seed : UInt64) (h : Nat) (lev : Nat) (l : List UInt64) : AS :=
  ⟨[(0, .val yv), (1, .ptr [ai (h : Int)] 0), (2, .ptr [aw seed] 0), (4, .ref 11), (6, ai (lev : Int))], [(11, ⟨1, true, false, wordsA l⟩)]⟩
theorem lev_pre (yv : Value) (seed : UInt64) (h : Nat) (hh : h ≤ 4) : AWP Try.prog 63 (Code.seq (fstC (bodyOf Try.f45)) (Code.seq (fstC (sndC (bodyOf Try.f45))) (Code.seq (fstC (sndC (sndC (bodyOf Try.f45)))) .skip))) (fun e s' => e = .normal ∧ Weaks s' (levS yv seed h 0 (levW seed h 0))) ⟨argsF 0 [.val yv, .ptr [ai (h : Int)] 0, .ptr [aw seed] 0], []⟩ := by
  have hl := levW_len seed h 0
  have hat : ∀ k : Nat, k < 2 ^ h → (levW seed h 0).getD k 0 = combine k (pubEnds seed k 18) := fun k hk => levW_at seed h 0 k hk
  rw [Nat.sub_zero] at hl
  have hp : 2 ^ h ≤ 16 := Nat.pow_le_pow_right (by decide) hh
  have hsh : IntKind.i64.wrap (1 * 2 ^ min ((h : Nat) : Int).toNat IntKind.i64.bits) = ((2 ^ h : Nat) : Int) := by
    rcases (show h = 0 ∨ h = 1 ∨ h = 2 ∨ h = 3 ∨ h = 4 by omega) with rfl | rfl | rfl | rfl | rfl <;> decide +kernel
  generalize levW seed h 0 = L at *
  generalize 2 ^ h = m at *
  refine AWP.regsP 1 [{ hs := [(1, { av := some (ai (↑m : Int)) }), (2, { av := some (AV.arr (wordsA (List.replicate m (0 : UInt64)))), k := m, m := m })] }] [.keep [4, 0, 1, 2] [11]] (by kernel_rfl) (s' := AS.mk [(4, AV.ref 11), (0, AV.val yv), (1, AV.ptr [ai (↑h : Int)] (0 : Nat)), (2, AV.ptr [aw seed] (0 : Nat))] [(11, Row.mk 1 true false (wordsA (List.replicate m (0 : UInt64))))]) (C := [ai (IntKind.i64.wrap ((1 : Int) * (2 : Int) ^ min (↑h : Int).toNat IntKind.i64.bits)) = ai (↑m : Int), (0 : Int) ≤ (↑h : Int), List.replicate m (au0) = wordsA (List.replicate m (0 : UInt64)), (↑m : Int) = (↑m : Int), (↑m : Int) = (↑m : Int), m ≤ m, (8 : Nat) * m ≤ (281474976710656 : Nat), m ≤ maxLen]) (by kernel_rfl) ⟨(congrArg (fun n => AV.val (.int .i64 n)) hsh), (by omega), (wordsA_rep _), rfl, rfl, (by omega), (by omega), (by unfold maxLen; omega), trivial⟩ ?_
  refine AWP.seq (by kernel_rfl) ?_
  refine AWP.regsK 1 [{ hs := [(1, { k := m })] }] (by kernel_rfl) (s' := AS.mk [(14, ai 0), (13, ai (↑m : Int)), (12, AV.ref 11), (4, AV.ref 11), (0, AV.val yv), (1, AV.ptr [ai (↑h : Int)] (0 : Nat)), (2, AV.ptr [aw seed] (0 : Nat))] [(11, Row.mk 1 true false (wordsA (List.replicate m (0 : UInt64))))]) (C := [(wordsA (List.replicate m (0 : UInt64))).length = m]) (by kernel_rfl) ⟨(by simp only [wordsA_len, List.length_replicate]), trivial⟩ ?_
  refine AWP.block (id := 0) (by kernel_rfl) ?_
  refine AWP.loop (fun (k : Nat) => (⟨[(13, ai (↑m : Int)), (4, AV.ref 11), (0, AV.val yv), (1, AV.ptr [ai (↑h : Int)] (0 : Nat)), (2, AV.ptr [aw seed] (0 : Nat)), (14, ai k)], [(11, ⟨1, true, false, wordsA (fillZ m L k)⟩)]⟩ : AS)) (fun k => (k ≤ m)) (fun k => (m - k)) (by kernel_rfl) (0) ?_ (Weaks.of [.keep [13, 4, 0, 1, 2, 14] [11]] (s1 := AS.mk [(13, ai (↑m : Int)), (4, AV.ref 11), (0, AV.val yv), (1, AV.ptr [ai (↑h : Int)] (0 : Nat)), (2, AV.ptr [aw seed] (0 : Nat)), (14, ai 0)] [(11, Row.mk 1 true false (wordsA (List.replicate m (0 : UInt64))))]) (by kernel_rfl) rfl) ?_
  · omega
  intro k hk
  have hf := fillZ_len hl hk
  refine AWP.regsK 1 [{  }] (by kernel_rfl) (s' := AS.mk [(15, ao (decide ((↑k : Int) < (↑m : Int)))), (13, ai (↑m : Int)), (4, AV.ref 11), (0, AV.val yv), (1, AV.ptr [ai (↑h : Int)] (0 : Nat)), (2, AV.ptr [aw seed] (0 : Nat)), (14, ai (↑k : Int))] [(11, Row.mk 1 true false (wordsA (fillZ m L k)))]) (C := []) (by kernel_rfl) trivial ?_
  refine AWP.seq (by kernel_rfl) ?_
  refine AWP.condD (x := .tmp 15) (p := (↑k : Int) < (↑m : Int)) (by kernel_rfl) (by kernel_rfl) (fun g => ?_) (fun g => ?_)
  · have e1 := fillZ_set hl (show k < m by omega)
    have e2 := hat k (by omega)
    refine AWP.skip (by kernel_rfl) ?_
    refine then_n ?_
    refine AWP.seq (by kernel_rfl) ?_
    refine AWP.block (id := 1) (by kernel_rfl) ?_
    refine AWP.regsK 1 [{  }] (by kernel_rfl) (s' := AS.mk [(5, ai (↑k : Int)), (16, ai (↑k : Int)), (15, ao (decide ((↑k : Int) < (↑m : Int)))), (13, ai (↑m : Int)), (4, AV.ref 11), (0, AV.val yv), (1, AV.ptr [ai (↑h : Int)] (0 : Nat)), (2, AV.ptr [aw seed] (0 : Nat)), (14, ai (↑k : Int))] [(11, Row.mk 1 true false (wordsA (fillZ m L k)))]) (C := []) (by kernel_rfl) trivial ?_
    refine AWP.reg { hs := [(4, { av := some (aw (combine (↑k : Int) (pubEnds seed (↑k : Int) (18 : Nat)))) }), (5, { k := k }), (6, { av := some (AV.arr (wordsA ((fillZ m L k).set k (combine (↑k : Int) (pubEnds seed (↑k : Int) (18 : Nat)))))) })] } (s' := AS.mk [(22, AV.addr 11 k), (21, aw (combine (↑k : Int) (pubEnds seed (↑k : Int) (18 : Nat)))), (20, ai (↑k : Int)), (19, aw seed), (18, ai (↑k : Int)), (17, AV.ref 11), (5, ai (↑k : Int)), (16, ai (↑k : Int)), (15, ao (decide ((↑k : Int) < (↑m : Int)))), (13, ai (↑m : Int)), (4, AV.ref 11), (0, AV.val yv), (1, AV.ptr [ai (↑h : Int)] (0 : Nat)), (2, AV.ptr [aw seed] (0 : Nat)), (14, ai (↑k : Int))] [(11, Row.mk 1 true false (wordsA ((fillZ m L k).set k (combine (↑k : Int) (pubEnds seed (↑k : Int) (18 : Nat))))))]) (C := [Ret Try.prog (46 : Nat) [aw seed, ai (↑k : Int)] (aw (combine (↑k : Int) (pubEnds seed (↑k : Int) (18 : Nat)))), (↑k : Int) = (↑k : Int), k < (wordsA (fillZ m L k)).length, (wordsA (fillZ m L k)).set k (aw (combine (↑k : Int) (pubEnds seed (↑k : Int) (18 : Nat)))) = wordsA ((fillZ m L k).set k (combine (↑k : Int) (pubEnds seed (↑k : Int) (18 : Nat)))), k + (1 : Nat) ≤ (wordsA (fillZ m L k)).length]) (by kernel_rfl) ⟨(public1_ret (seed) ((↑k : Int))), rfl, (by simp only [wordsA_len]; omega), (wordsA_set _ _ _), (by simp only [wordsA_len]; omega), trivial⟩ ?_
    refine inb_n ?_
    refine then_n ?_
    refine AWP.reg { hs := [(0, { av := some (ai ((↑k : Int) + (1 : Int))) })] } (s' := AS.mk [(14, ai ((↑k : Int) + (1 : Int))), (23, ai ((↑k : Int) + (1 : Int))), (22, AV.addr 11 k), (21, aw (combine (↑k : Int) (pubEnds seed (↑k : Int) (18 : Nat)))), (20, ai (↑k : Int)), (19, aw seed), (18, ai (↑k : Int)), (17, AV.ref 11), (5, ai (↑k : Int)), (16, ai (↑k : Int)), (15, ao (decide ((↑k : Int) < (↑m : Int)))), (13, ai (↑m : Int)), (4, AV.ref 11), (0, AV.val yv), (1, AV.ptr [ai (↑h : Int)] (0 : Nat)), (2, AV.ptr [aw seed] (0 : Nat))] [(11, Row.mk 1 true false (wordsA ((fillZ m L k).set k (combine (↑k : Int) (pubEnds seed (↑k : Int) (18 : Nat))))))]) (C := [ai (IntKind.i64.wrap ((↑k : Int) + (1 : Int))) = ai ((↑k : Int) + (1 : Int))]) (by kernel_rfl) ⟨(av_i64 (by omega) (by omega)), trivial⟩ ?_
    refine round_n (k + 1) (by omega) (by omega) (Weaks.of [.keep [13, 4, 0, 1, 2, 14] [11]] (s1 := AS.mk [(13, ai (↑m : Int)), (4, AV.ref 11), (0, AV.val yv), (1, AV.ptr [ai (↑h : Int)] (0 : Nat)), (2, AV.ptr [aw seed] (0 : Nat)), (14, ai ((↑k : Int) + (1 : Int)))] [(11, Row.mk 1 true false (wordsA ((fillZ m L k).set k (combine (↑k : Int) (pubEnds seed (↑k : Int) (18 : Nat))))))]) (by kernel_rfl) (as_eq (f_cons rfl (f_cons rfl (f_cons rfl (f_cons rfl (f_cons rfl (f_cons (congrArg (fun n => AV.val (.int .i64 n)) (by omega)) rfl)))))) (h_cons (congrArg wordsA (by rw [← e2]; exact e1)) rfl)))
  · have e : k = m := by omega
    subst e
    have e1 := fillZ_full hl
    rw [e1]
    refine AWP.exit (id := 0) (by kernel_rfl) ?_
    refine then_e ?_
    refine round_e ?_
    refine inb_e ?_
    refine then_n ?_
    refine AWP.regsK 1 [{  }] (by kernel_rfl) (s' := AS.mk [(6, ai 0), (15, ao (decide ((↑k : Int) < (↑k : Int)))), (13, ai (↑k : Int)), (4, AV.ref 11), (0, AV.val yv), (1, AV.ptr [ai (↑h : Int)] (0 : Nat)), (2, AV.ptr [aw seed] (0 : Nat)), (14, ai (↑k : Int))] [(11, Row.mk 1 true false (wordsA L))]) (C := []) (by kernel_rfl) trivial ?_
    refine AWP.skip (by kernel_rfl) ?_
    exact ⟨rfl, Weaks.of [.keep [0, 1, 2, 4, 6] [11]] (s1 := levS yv seed h 0 L) (by kernel_rfl) rfl⟩
theorem lev_next (yv : Value) (seed : UInt64) (h lev : Nat) (hh : h ≤ 4) (hlev : lev < h) : AWP Try.prog 63 (sndC (bodyC (bodyC (sndC (sndC (sndC (bodyOf Try.f45))))))) (fun e s' => e = .normal ∧ Weaks s' (levS yv seed h (lev + 1) (levW seed h (lev + 1)))) (levS yv seed h lev (levW seed h lev)) := by
  have hl := levW_len seed h lev
  have hl2 := levW_len seed h (lev + 1)
  have em : 2 ^ (h - lev) = 2 * 2 ^ (h - (lev + 1)) := by rw [show h - lev = h - (lev + 1) + 1 by omega, Nat.pow_succ, Nat.mul_comm]
  have hp : 2 ^ (h - (lev + 1)) ≤ 16 := Nat.le_trans (Nat.pow_le_pow_right (by decide) (by omega : h - (lev + 1) ≤ 4)) (by decide)
  have hat : ∀ k : Nat, k < 2 ^ (h - (lev + 1)) → (levW seed h (lev + 1)).getD k 0 = parW ((lev + 1 : Nat) : Int) ((levW seed h lev).getD (2 * k) 0) ((levW seed h lev).getD (2 * k + 1) 0) := fun k hk => by
    rw [levW_at seed h (lev + 1) k hk, levW_at seed h lev (2 * k) (by omega), levW_at seed h lev (2 * k + 1) (by omega)]; rfl
  generalize levW seed h lev = L at *
  generalize levW seed h (lev + 1) = L2 at *
  rw [em] at hl
  clear em
  generalize 2 ^ (h - (lev + 1)) = m at *
  have hq : IntKind.i64.wrap ((L.length : Int).tdiv 2) = (m : Int) := by
    rw [hl, Int.tdiv_eq_ediv_of_nonneg (by omega), i64_small (by omega) (by omega)]; omega
  show AWP _ _ _ _ (AS.mk [(0, .val yv), (1, .ptr [ai (h : Int)] 0), (2, .ptr [aw seed] 0), (4, .ref 11), (6, ai (lev : Int))] [(11, Row.mk 1 true false (wordsA L))])
  refine AWP.seq (by kernel_rfl) ?_
  refine AWP.block (id := 3) (by kernel_rfl) ?_
  refine AWP.regsP 1 [{ hs := [(1, { k := L.length }), (2, { av := some (ai (↑m : Int)) }), (3, { av := some (AV.arr (wordsA (List.replicate m (0 : UInt64)))), k := m, m := m })] }] [.keep [7, 0, 1, 2, 4, 6] [38, 11]] (by kernel_rfl) (s' := AS.mk [(7, AV.ref 38), (0, AV.val yv), (1, AV.ptr [ai (↑h : Int)] (0 : Nat)), (2, AV.ptr [aw seed] (0 : Nat)), (4, AV.ref 11), (6, ai (↑lev : Int))] [(38, Row.mk 1 true false (wordsA (List.replicate m (0 : UInt64)))), (11, Row.mk 1 true false (wordsA L))]) (C := [(wordsA L).length = L.length, ai (IntKind.i64.wrap ((↑L.length : Int).tdiv (2 : Int))) = ai (↑m : Int), (2 : Int) ≠ (0 : Int), List.replicate m (au0) = wordsA (List.replicate m (0 : UInt64)), (↑m : Int) = (↑m : Int), (↑m : Int) = (↑m : Int), m ≤ m, (8 : Nat) * m ≤ (281474976710656 : Nat), m ≤ maxLen]) (by kernel_rfl) ⟨(wordsA_len _), (congrArg (fun n => AV.val (.int .i64 n)) hq), (by omega), (wordsA_rep _), rfl, rfl, (by omega), (by omega), (by unfold maxLen; omega), trivial⟩ ?_
  refine AWP.seq (by kernel_rfl) ?_
  refine AWP.regsK 1 [{ hs := [(1, { k := m })] }] (by kernel_rfl) (s' := AS.mk [(41, ai 0), (40, ai (↑m : Int)), (39, AV.ref 38), (7, AV.ref 38), (0, AV.val yv), (1, AV.ptr [ai (↑h : Int)] (0 : Nat)), (2, AV.ptr [aw seed] (0 : Nat)), (4, AV.ref 11), (6, ai (↑lev : Int))] [(38, Row.mk 1 true false (wordsA (List.replicate m (0 : UInt64)))), (11, Row.mk 1 true false (wordsA L))]) (C := [(wordsA (List.replicate m (0 : UInt64))).length = m]) (by kernel_rfl) ⟨(by simp only [wordsA_len, List.length_replicate]), trivial⟩ ?_
  refine AWP.block (id := 4) (by kernel_rfl) ?_
  refine AWP.loop (fun (k : Nat) => (⟨[(40, ai (↑m : Int)), (7, AV.ref 38), (0, AV.val yv), (1, AV.ptr [ai (↑h : Int)] (0 : Nat)), (2, AV.ptr [aw seed] (0 : Nat)), (4, AV.ref 11), (6, ai (↑lev : Int)), (41, ai k)], [(11, ⟨1, true, false, wordsA L⟩), (38, ⟨1, true, false, wordsA (fillZ m L2 k)⟩)]⟩ : AS)) (fun k => (k ≤ m)) (fun k => (m - k)) (by kernel_rfl) (0) ?_ (Weaks.of [.keep [40, 7, 0, 1, 2, 4, 6, 41] [11, 38]] (s1 := AS.mk [(40, ai (↑m : Int)), (7, AV.ref 38), (0, AV.val yv), (1, AV.ptr [ai (↑h : Int)] (0 : Nat)), (2, AV.ptr [aw seed] (0 : Nat)), (4, AV.ref 11), (6, ai (↑lev : Int)), (41, ai 0)] [(11, Row.mk 1 true false (wordsA L)), (38, Row.mk 1 true false (wordsA (List.replicate m (0 : UInt64))))]) (by kernel_rfl) rfl) ?_
  · omega
  intro k hk
  have hf := fillZ_len hl2 hk
  refine AWP.regsK 1 [{  }] (by kernel_rfl) (s' := AS.mk [(42, ao (decide ((↑k : Int) < (↑m : Int)))), (40, ai (↑m : Int)), (7, AV.ref 38), (0, AV.val yv), (1, AV.ptr [ai (↑h : Int)] (0 : Nat)), (2, AV.ptr [aw seed] (0 : Nat)), (4, AV.ref 11), (6, ai (↑lev : Int)), (41, ai (↑k : Int))] [(11, Row.mk 1 true false (wordsA L)), (38, Row.mk 1 true false (wordsA (fillZ m L2 k)))]) (C := []) (by kernel_rfl) trivial ?_
  refine AWP.seq (by kernel_rfl) ?_
  refine AWP.condD (x := .tmp 42) (p := (↑k : Int) < (↑m : Int)) (by kernel_rfl) (by kernel_rfl) (fun g => ?_) (fun g => ?_)
  · have e1 := fillZ_set hl2 (show k < m by omega)
    have e2 := hat k (by omega)
    have w1 : IntKind.i64.wrap ((lev : Int) + 1) = ((lev + 1 : Nat) : Int) := by rw [i64_small (by omega) (by omega)]; omega
    have w2 : IntKind.i64.wrap (2 * (k : Int)) = ((2 * k : Nat) : Int) := by rw [i64_small (by omega) (by omega)]; omega
    have w3 : IntKind.i64.wrap (((2 * k : Nat) : Int) + 1) = ((2 * k + 1 : Nat) : Int) := by rw [i64_small (by omega) (by omega)]; omega
    refine AWP.skip (by kernel_rfl) ?_
    refine then_n ?_
    refine AWP.seq (by kernel_rfl) ?_
    refine AWP.block (id := 5) (by kernel_rfl) ?_
    refine AWP.regsK 1 [{  }] (by kernel_rfl) (s' := AS.mk [(8, ai (↑k : Int)), (43, ai (↑k : Int)), (42, ao (decide ((↑k : Int) < (↑m : Int)))), (40, ai (↑m : Int)), (7, AV.ref 38), (0, AV.val yv), (1, AV.ptr [ai (↑h : Int)] (0 : Nat)), (2, AV.ptr [aw seed] (0 : Nat)), (4, AV.ref 11), (6, ai (↑lev : Int)), (41, ai (↑k : Int))] [(11, Row.mk 1 true false (wordsA L)), (38, Row.mk 1 true false (wordsA (fillZ m L2 k)))]) (C := []) (by kernel_rfl) trivial ?_
    refine AWP.reg { hs := [(3, { av := some (ai (↑(lev + (1 : Nat)) : Int)) }), (6, { av := some (ai (↑((2 : Nat) * k) : Int)) }), (7, { k := 2 * k }), (8, { av := some (aw (L.getD ((2 : Nat) * k) (0 : UInt64))) }), (11, { av := some (ai (↑((2 : Nat) * k) : Int)) }), (12, { av := some (ai (↑((2 : Nat) * k + (1 : Nat)) : Int)) }), (13, { k := 2 * k + (1 : Nat) }), (14, { av := some (aw (L.getD ((2 : Nat) * k + (1 : Nat)) (0 : UInt64))) }), (15, { av := some (aw (parW (↑(lev + (1 : Nat)) : Int) (L.getD ((2 : Nat) * k) (0 : UInt64)) (L.getD ((2 : Nat) * k + (1 : Nat)) (0 : UInt64)))) }), (16, { k := k }), (17, { av := some (AV.arr (wordsA ((fillZ m L2 k).set k (parW (↑(lev + (1 : Nat)) : Int) (L.getD ((2 : Nat) * k) (0 : UInt64)) (L.getD ((2 : Nat) * k + (1 : Nat)) (0 : UInt64)))))) })], T := 16 } (s' := AS.mk [(60, AV.addr 38 k), (44, AV.ref 38), (45, ai (↑k : Int)), (46, ai (↑lev : Int)), (47, ai (↑(lev + (1 : Nat)) : Int)), (48, AV.ref 11), (49, ai (↑k : Int)), (50, ai (↑((2 : Nat) * k) : Int)), (51, AV.addr 11 ((2 : Nat) * k)), (52, aw (L.getD ((2 : Nat) * k) (0 : UInt64))), (53, AV.ref 11), (54, ai (↑k : Int)), (55, ai (↑((2 : Nat) * k) : Int)), (56, ai (↑((2 : Nat) * k + (1 : Nat)) : Int)), (57, AV.addr 11 ((2 : Nat) * k + (1 : Nat))), (58, aw (L.getD ((2 : Nat) * k + (1 : Nat)) (0 : UInt64))), (59, aw (parW (↑(lev + (1 : Nat)) : Int) (L.getD ((2 : Nat) * k) (0 : UInt64)) (L.getD ((2 : Nat) * k + (1 : Nat)) (0 : UInt64)))), (8, ai (↑k : Int)), (43, ai (↑k : Int)), (42, ao (decide ((↑k : Int) < (↑m : Int)))), (40, ai (↑m : Int)), (7, AV.ref 38), (0, AV.val yv), (1, AV.ptr [ai (↑h : Int)] (0 : Nat)), (2, AV.ptr [aw seed] (0 : Nat)), (4, AV.ref 11), (6, ai (↑lev : Int)), (41, ai (↑k : Int))] [(38, Row.mk 1 true false (wordsA ((fillZ m L2 k).set k (parW (↑(lev + (1 : Nat)) : Int) (L.getD ((2 : Nat) * k) (0 : UInt64)) (L.getD ((2 : Nat) * k + (1 : Nat)) (0 : UInt64)))))), (11, Row.mk 1 true false (wordsA L))]) (C := [ai (IntKind.i64.wrap ((↑lev : Int) + (1 : Int))) = ai (↑(lev + (1 : Nat)) : Int), ai (IntKind.i64.wrap ((2 : Int) * (↑k : Int))) = ai (↑((2 : Nat) * k) : Int), (↑((2 : Nat) * k) : Int) = (↑((2 : Nat) * k) : Int), (2 : Nat) * k < (wordsA L).length, (wordsA L)[(2 : Nat) * k]? = some (aw (L.getD ((2 : Nat) * k) (0 : UInt64))), ai (IntKind.i64.wrap ((2 : Int) * (↑k : Int))) = ai (↑((2 : Nat) * k) : Int), ai (IntKind.i64.wrap ((↑((2 : Nat) * k) : Int) + (1 : Int))) = ai (↑((2 : Nat) * k + (1 : Nat)) : Int), (↑((2 : Nat) * k + (1 : Nat)) : Int) = (↑((2 : Nat) * k + (1 : Nat)) : Int), (2 : Nat) * k + (1 : Nat) < (wordsA L).length, (wordsA L)[(2 : Nat) * k + (1 : Nat)]? = some (aw (L.getD ((2 : Nat) * k + (1 : Nat)) (0 : UInt64))), Ret Try.prog (35 : Nat) [ai (↑(lev + (1 : Nat)) : Int), aw (L.getD ((2 : Nat) * k) (0 : UInt64)), aw (L.getD ((2 : Nat) * k + (1 : Nat)) (0 : UInt64))] (aw (parW (↑(lev + (1 : Nat)) : Int) (L.getD ((2 : Nat) * k) (0 : UInt64)) (L.getD ((2 : Nat) * k + (1 : Nat)) (0 : UInt64)))), (↑k : Int) = (↑k : Int), k < (wordsA (fillZ m L2 k)).length, (wordsA (fillZ m L2 k)).set k (aw (parW (↑(lev + (1 : Nat)) : Int) (L.getD ((2 : Nat) * k) (0 : UInt64)) (L.getD ((2 : Nat) * k + (1 : Nat)) (0 : UInt64)))) = wordsA ((fillZ m L2 k).set k (parW (↑(lev + (1 : Nat)) : Int) (L.getD ((2 : Nat) * k) (0 : UInt64)) (L.getD ((2 : Nat) * k + (1 : Nat)) (0 : UInt64)))), k + (1 : Nat) ≤ (wordsA (fillZ m L2 k)).length]) (by kernel_rfl) ⟨(av_i64 (by omega) (by omega)), (av_i64 (by omega) (by omega)), rfl, (by simp only [wordsA_len]; omega), (wordsA_at (by omega)), (av_i64 (by omega) (by omega)), (av_i64 (by omega) (by omega)), rfl, (by simp only [wordsA_len]; omega), (wordsA_at (by omega)), (parent_ret ((↑(lev + (1 : Nat)) : Int)) (L.getD ((2 : Nat) * k) (0 : UInt64)) (L.getD ((2 : Nat) * k + (1 : Nat)) (0 : UInt64))), rfl, (by simp only [wordsA_len]; omega), (wordsA_set _ _ _), (by simp only [wordsA_len]; omega), trivial⟩ ?_
    refine inb_n ?_
    refine then_n ?_
    refine AWP.reg { hs := [(0, { av := some (ai ((↑k : Int) + (1 : Int))) })] } (s' := AS.mk [(41, ai ((↑k : Int) + (1 : Int))), (61, ai ((↑k : Int) + (1 : Int))), (60, AV.addr 38 k), (44, AV.ref 38), (45, ai (↑k : Int)), (46, ai (↑lev : Int)), (47, ai (↑(lev + (1 : Nat)) : Int)), (48, AV.ref 11), (49, ai (↑k : Int)), (50, ai (↑((2 : Nat) * k) : Int)), (51, AV.addr 11 ((2 : Nat) * k)), (52, aw (L.getD ((2 : Nat) * k) (0 : UInt64))), (53, AV.ref 11), (54, ai (↑k : Int)), (55, ai (↑((2 : Nat) * k) : Int)), (56, ai (↑((2 : Nat) * k + (1 : Nat)) : Int)), (57, AV.addr 11 ((2 : Nat) * k + (1 : Nat))), (58, aw (L.getD ((2 : Nat) * k + (1 : Nat)) (0 : UInt64))), (59, aw (parW (↑(lev + (1 : Nat)) : Int) (L.getD ((2 : Nat) * k) (0 : UInt64)) (L.getD ((2 : Nat) * k + (1 : Nat)) (0 : UInt64)))), (8, ai (↑k : Int)), (43, ai (↑k : Int)), (42, ao (decide ((↑k : Int) < (↑m : Int)))), (40, ai (↑m : Int)), (7, AV.ref 38), (0, AV.val yv), (1, AV.ptr [ai (↑h : Int)] (0 : Nat)), (2, AV.ptr [aw seed] (0 : Nat)), (4, AV.ref 11), (6, ai (↑lev : Int))] [(38, Row.mk 1 true false (wordsA ((fillZ m L2 k).set k (parW (↑(lev + (1 : Nat)) : Int) (L.getD ((2 : Nat) * k) (0 : UInt64)) (L.getD ((2 : Nat) * k + (1 : Nat)) (0 : UInt64)))))), (11, Row.mk 1 true false (wordsA L))]) (C := [ai (IntKind.i64.wrap ((↑k : Int) + (1 : Int))) = ai ((↑k : Int) + (1 : Int))]) (by kernel_rfl) ⟨(av_i64 (by omega) (by omega)), trivial⟩ ?_
    refine round_n (k + 1) (by omega) (by omega) (Weaks.of [.keep [40, 7, 0, 1, 2, 4, 6, 41] [11, 38]] (s1 := AS.mk [(40, ai (↑m : Int)), (7, AV.ref 38), (0, AV.val yv), (1, AV.ptr [ai (↑h : Int)] (0 : Nat)), (2, AV.ptr [aw seed] (0 : Nat)), (4, AV.ref 11), (6, ai (↑lev : Int)), (41, ai ((↑k : Int) + (1 : Int)))] [(11, Row.mk 1 true false (wordsA L)), (38, Row.mk 1 true false (wordsA ((fillZ m L2 k).set k (parW (↑(lev + (1 : Nat)) : Int) (L.getD ((2 : Nat) * k) (0 : UInt64)) (L.getD ((2 : Nat) * k + (1 : Nat)) (0 : UInt64))))))]) (by kernel_rfl) (as_eq (f_cons rfl (f_cons rfl (f_cons rfl (f_cons rfl (f_cons rfl (f_cons rfl (f_cons rfl (f_cons (congrArg (fun n => AV.val (.int .i64 n)) (by omega)) rfl)))))))) (h_cons rfl (h_cons (congrArg wordsA (by rw [← e2]; exact e1)) rfl))))
  · have e : k = m := by omega
    subst e
    have e1 := fillZ_full hl2
    rw [e1]
    refine AWP.exit (id := 4) (by kernel_rfl) ?_
    refine then_e ?_
    refine round_e ?_
    refine inb_e ?_
    refine then_n ?_
    refine AWP.reg {  } (s' := AS.mk [(4, AV.ref 38), (62, AV.ref 38), (42, ao (decide ((↑k : Int) < (↑k : Int)))), (40, ai (↑k : Int)), (7, AV.ref 38), (0, AV.val yv), (1, AV.ptr [ai (↑h : Int)] (0 : Nat)), (2, AV.ptr [aw seed] (0 : Nat)), (6, ai (↑lev : Int)), (41, ai (↑k : Int))] [(11, Row.mk 1 true false (wordsA L)), (38, Row.mk 1 true false (wordsA L2))]) (C := []) (by kernel_rfl) trivial ?_
    refine inb_n ?_
    refine then_n ?_
    refine AWP.reg { hs := [(1, { av := some (ai ((↑lev : Int) + (1 : Int))) })] } (s' := AS.mk [(6, ai ((↑lev : Int) + (1 : Int))), (34, ai ((↑lev : Int) + (1 : Int))), (33, ai (↑lev : Int)), (4, AV.ref 38), (62, AV.ref 38), (42, ao (decide ((↑k : Int) < (↑k : Int)))), (40, ai (↑k : Int)), (7, AV.ref 38), (0, AV.val yv), (1, AV.ptr [ai (↑h : Int)] (0 : Nat)), (2, AV.ptr [aw seed] (0 : Nat)), (41, ai (↑k : Int))] [(11, Row.mk 1 true false (wordsA L)), (38, Row.mk 1 true false (wordsA L2))]) (C := [ai (IntKind.i64.wrap ((↑lev : Int) + (1 : Int))) = ai ((↑lev : Int) + (1 : Int))]) (by kernel_rfl) ⟨(av_i64 (by omega) (by omega)), trivial⟩ ?_
    exact ⟨rfl, Weaks.of [.ren 38 11, .keep [0, 1, 2, 4, 6] [11]] (s1 := AS.mk [(0, .val yv), (1, .ptr [ai (h : Int)] 0), (2, .ptr [aw seed] 0), (4, .ref 11), (6, ai ((lev : Int) + 1))] [(11, Row.mk 1 true false (wordsA L2))]) (by kernel_rfl) (by unfold levS; rw [show ((lev + 1 : Nat) : Int) = (lev : Int) + 1 by omega])⟩
theorem swp_graft {P : Program} {x y z B : Code} {Q Q' : Exit → Act → World → Prop} {K : Act → World → Prop} {a : Act} {w : World} (h : swp P (.seq x (.seq y (.seq z .skip))) Q a w) (hQ : ∀ e a w, Q e a w → e = .normal ∧ K a w) (hB : ∀ a w, K a w → B.wp P Q' a w) : (Code.seq x (.seq y (.seq z B))).wp P Q' a w := by
  refine wp_seq (wp_mono (swp_wp x _ _ _ h) fun e a w he => ?_)
  cases e with
  | normal =>
    refine wp_seq (wp_mono (swp_wp y _ _ _ he) fun e a w he => ?_)
    cases e with
    | normal =>
      refine wp_seq (wp_mono (swp_wp z _ _ _ he) fun e a w he => ?_)
      cases e with
      | normal => exact hB _ _ (hQ _ _ _ he).2
      | _ => cases (hQ _ _ _ he).1
    | _ => cases (hQ _ _ _ he).1
  | _ => cases (hQ _ _ _ he).1
def regOps : Code → List Oper
  | .region _ ops _ => ops.toList
  | _ => []
/-- The operations of the region in which the iterator asks for a round. -/
theorem lev_ops (yv : Value) (seed : UInt64) (h lev : Nat) (l : List UInt64) : evOps Try.prog 63 (regOps (fstC (fstC (bodyC (bodyC (sndC (sndC (sndC (bodyOf Try.f45))))))))) [] ((regOps (fstC (fstC (bodyC (bodyC (sndC (sndC (sndC (bodyOf Try.f45))))))))).take 3) 0 (levS yv seed h lev l) =
    some (AS.mk [(26, .ref 11), (25, ai (lev : Int)), (24, .val yv), (0, .val yv), (1, .ptr [ai (h : Int)] 0), (2, .ptr [aw seed] 0), (4, .ref 11), (6, ai (lev : Int))] [(11, Row.mk 1 true false (wordsA l))], []) := by kernel_rfl
theorem lev_opsT (yv : Value) (seed : UInt64) (h lev : Nat) (l : List UInt64) : evOps Try.prog 63 (regOps (fstC (fstC (bodyC (bodyC (sndC (sndC (sndC (bodyOf Try.f45))))))))) [] ((regOps (fstC (fstC (bodyC (bodyC (sndC (sndC (sndC (bodyOf Try.f45))))))))).drop 4) 4 (setF (AS.mk [(26, .ref 11), (25, ai (lev : Int)), (24, .val yv), (0, .val yv), (1, .ptr [ai (h : Int)] 0), (2, .ptr [aw seed] 0), (4, .ref 11), (6, ai (lev : Int))] [(11, Row.mk 1 true false (wordsA l))]) 27 (ao true)) =
    some (AS.mk [(32, ao (decide ((lev : Int) < (h : Int)))), (31, ao (decide ((lev : Int) < (h : Int)))), (30, ai (h : Int)), (29, ai (lev : Int)), (28, ao true), (27, ao true), (26, .ref 11), (25, ai (lev : Int)), (24, .val yv), (0, .val yv), (1, .ptr [ai (h : Int)] 0), (2, .ptr [aw seed] 0), (4, .ref 11), (6, ai (lev : Int))] [(11, Row.mk 1 true false (wordsA l))], [true = true, true = true, true = true, true = true]) := by kernel_rfl
theorem lev_opsF (yv : Value) (seed : UInt64) (h lev : Nat) (l : List UInt64) : evOps Try.prog 63 (regOps (fstC (fstC (bodyC (bodyC (sndC (sndC (sndC (bodyOf Try.f45))))))))) [(5, { g := false }), (6, { g := false }), (7, { g := false }), (8, { b := false })] ((regOps (fstC (fstC (bodyC (bodyC (sndC (sndC (sndC (bodyOf Try.f45))))))))).drop 4) 4 (setF (AS.mk [(26, .ref 11), (25, ai (lev : Int)), (24, .val yv), (0, .val yv), (1, .ptr [ai (h : Int)] 0), (2, .ptr [aw seed] 0), (4, .ref 11), (6, ai (lev : Int))] [(11, Row.mk 1 true false (wordsA l))]) 27 (ao false)) =
    some (AS.mk [(32, ao false), (31, .val (.tuple #[])), (30, .val (.tuple #[])), (29, .val (.tuple #[])), (28, ao false), (27, ao false), (26, .ref 11), (25, ai (lev : Int)), (24, .val yv), (0, .val yv), (1, .ptr [ai (h : Int)] 0), (2, .ptr [aw seed] 0), (4, .ref 11), (6, ai (lev : Int))] [(11, Row.mk 1 true false (wordsA l))], [false = false, false = false, false = false, false = false]) := by kernel_rfl
theorem It.val {n : Nat} {J : (Nat → Prop) → (Nat → Prop) → World → Prop} {s : AS} {a : Act} {w : World} {x : Operand} {v : Value} (h : It n J s a w) (hx : opd s x = .val v) : a.eval x = v := by
  obtain ⟨wb, Z, φ, ms, h1, -⟩ := h
  exact den_val (hx ▸ h1.opd x)
theorem levels_iter (seed : UInt64) (h : Nat) (hh : h ≤ 4) : IterP Try.prog 45 [.ptr [ai (h : Int)] 0, .ptr [aw seed] 0] (fun i => [ai (i : Int), .sl 1 (wordsA (levW seed h i))]) (h + 1) := by
  refine IterP.of_body (n := 63) Try.func45 (c := (bodyOf Try.f45)) (by kernel_rfl) (by kernel_rfl) (by kernel_rfl) (by simp) ?_
  intro l J X hJ hX hy a w hit
  have eb : (bodyOf Try.f45) = .seq (fstC (bodyOf Try.f45)) (.seq (fstC (sndC (bodyOf Try.f45))) (.seq (fstC (sndC (sndC (bodyOf Try.f45)))) (sndC (sndC (sndC (bodyOf Try.f45)))))) := by kernel_rfl
  have eB : sndC (sndC (sndC (bodyOf Try.f45))) = .block 2 (.loop (.seq (.seq (.region 7 (regOps (fstC (fstC (bodyC (bodyC (sndC (sndC (sndC (bodyOf Try.f45))))))))).toArray false) (.cond (.tmp 32) .skip (.exit 2))) (sndC (bodyC (bodyC (sndC (sndC (sndC (bodyOf Try.f45))))))))) := by kernel_rfl
  have hpre := It.seg hit (hJ 0) (lev_pre (.func (.yield l) #[] #[]) seed h hh)
  rw [eb]
  refine swp_graft (K := It 63 (J 0) (levS (.func (.yield l) #[] #[]) seed h 0 (levW seed h 0))) hpre (fun e a w ⟨s', ⟨he, hw⟩, hi⟩ => ⟨he, hi.weak (hJ 0) hw⟩) fun a w hi0 => ?_
  rw [eB]
  refine wp_block (loop_by (fun k a w => ∃ lev, lev ≤ h ∧ k = h - lev ∧ It 63 (J lev) (levS (.func (.yield l) #[] #[]) seed h lev (levW seed h lev)) a w) h ⟨0, by omega, by omega, hi0⟩ ?_)
  rintro k a w ⟨lev, hlev, rfl, hit⟩
  refine wp_seq (wp_seq ?_)
  refine wp_yield (d := 27) (l1 := (regOps (fstC (fstC (bodyC (bodyC (sndC (sndC (sndC (bodyOf Try.f45))))))))).take 3) (o := ((regOps (fstC (fstC (bodyC (bodyC (sndC (sndC (sndC (bodyOf Try.f45))))))))).drop 3).headD default) (l2 := (regOps (fstC (fstC (bodyC (bodyC (sndC (sndC (sndC (bodyOf Try.f45))))))))).drop 4) (y := .tmp 24) (xs := #[.tmp 25, .tmp 26]) (ts := #[3, 30]) (by kernel_rfl) (by kernel_rfl) (by kernel_rfl) (by kernel_rfl) (by rintro ⟨_, _, he, _⟩; rcases he with he | he <;> cases he) (by kernel_rfl) (by kernel_rfl) ?_
  refine hit.ops (hJ lev) (lev_ops _ seed h lev _) trivial fun a1 w1 hi1 => ?_
  refine ⟨l, hi1.val (x := .tmp 24) (by kernel_rfl), ?_⟩
  refine It.yield (d := 27) (xs := [.tmp 25, .tmp 26]) hJ hX (by decide) hy hi1 (by omega) (s1 := AS.mk [(26, .sl 1 (wordsA (levW seed h lev))), (25, ai (lev : Int)), (24, .val (.func (.yield l) #[] #[])), (0, .val (.func (.yield l) #[] #[])), (1, .ptr [ai (h : Int)] 0), (2, .ptr [aw seed] 0), (4, .sl 1 (wordsA (levW seed h lev))), (6, ai (lev : Int))] []) (by kernel_rfl) (by kernel_rfl) (by kernel_rfl) _ (fun w2 hi2 => ?_) (fun w2 hi2 => ?_)
  · refine hi2.ops (hJ (lev + 1)) (lev_opsT _ seed h lev _) ⟨rfl, rfl, rfl, rfl, trivial⟩ fun a3 w3 hi3 => ?_
    have hv := hi3.val (x := .tmp 32) (v := .bool (decide ((lev : Int) < (h : Int)))) (by kernel_rfl)
    refine wp_cond_split hv (fun ht => ?_) (fun hf => ?_)
    · have hlt : lev < h := by have := of_decide_eq_true ht; omega
      refine wp_skip ?_
      have hi4 := hi3.weak (hJ (lev + 1)) (s' := levS (.func (.yield l) #[] #[]) seed h lev (levW seed h lev)) (Weaks.of [.keep [0, 1, 2, 4, 6] [11]] (by kernel_rfl) rfl)
      refine wp_mono (swp_wp _ _ _ _ (It.seg hi4 (hJ (lev + 1)) (lev_next _ seed h lev hh hlt))) fun e a5 w5 ⟨s', ⟨he, hw⟩, hi5⟩ => ?_
      subst he
      exact ⟨h - (lev + 1), by omega, lev + 1, by omega, rfl, hi5.weak (hJ (lev + 1)) hw⟩
    · have hge : lev = h := by have := of_decide_eq_false hf; omega
      subst hge
      refine wp_exit ?_
      exact ⟨.inl rfl, _, .inl hi3⟩
  · refine hi2.ops hX (lev_opsF _ seed h lev _) ⟨rfl, rfl, rfl, rfl, trivial⟩ fun a3 w3 hi3 => ?_
    have hv := hi3.val (x := .tmp 32) (v := .bool false) (by kernel_rfl)
    refine wp_cond_false hv (wp_exit ?_)
    exact ⟨.inl rfl, _, .inr hi3⟩
end Go.Proofs.Ytjmmhpiadafahaa
