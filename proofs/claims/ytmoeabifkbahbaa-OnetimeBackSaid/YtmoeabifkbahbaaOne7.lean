/-
  The contracts of passkeyref3.ends and Leaf, of onetime.Sign and Recover; the laws OnetimeKeys and OnetimeBack.
-/
import Derived.Test.YtmoeabifkbahbaaOne6
namespace Go.Proofs.Ytmoeabifkbahbaa
open Go.RowKit

set_option maxHeartbeats 800000 in
theorem refends_any (leaf : Int) (v : Value) (l : List UInt64) (hl : l.length = 18) (w : World) (h : SliceAt w v (wvs l)) : Calls Try.prog 47 #[.int .i64 leaf, v] w fun e w' => e = .returned (.int .u64 (wv (combine leaf l))) ∧ Below w.heap.size w w' := by
  have hlf := wv_ofInt leaf
  have H := Lib.hid h
  clear h
  have hone : ∀ u ∈ bvs (words l), u.oneCell' = true := bvs_one _
  go_enter Try.func47, Try.ntmps47
  go_wp2_with fail
  refine (refwords_at _ [u64 leaf] _ (SliceAt.one _ _ _) (by simp)).mono ?_; rintro e w1 ⟨v1, rfl, ho1, hw1⟩
  have hw1' : Below w.heap.size w w1 := ((Below.refl _ _).thenNew _).thenCall hw1
  have ho1' : Own w1 w.heap.size v1 (bvs (words [u64 leaf])) := ho1.mono (by simp)
  go_wp2_with fail
  refine (refwords_at _ l _ (H.out.below hw1') (by omega)).mono ?_; rintro e w2 ⟨v2, rfl, ho2, hw2⟩
  have ho3 := ho1'.below hw2 (Nat.le_refl _)
  have hw2' := hw1'.thenCall hw2
  have hln : (bvs (words [u64 leaf])).length + (bvs (words l)).length = 152 := by rw [bvs_len, bvs_len, words_len, words_len, hl]; rfl
  go_wp2_with (at_builtin; refine wpList_app _ rfl _ _ 23 rfl E8 w.heap.size v1 _ rfl ho3 _ (bvs (words l)) rfl ho2.reads hone (by rw [hln]; decide) hw2'.size ?_; intro v' w3 hown3 hg3 _)
  have hw3 : Below w.heap.size w w3 := hw2'.thenApp ho3 hg3
  rw [← bvs_app, ← words_app] at hown3
  refine (refhash_any 2 _ _ _ hown3.reads (by rw [words_len]; simp [hl])).mono ?_; rintro e w4 ⟨rfl, hw4⟩
  go_wp2
  go_ret
  exact ⟨rfl, hw3.thenCall hw4⟩

set_option maxHeartbeats 1600000 in
theorem refleaf_any (seed : UInt64) (leaf : Int) (w : World) : Calls Try.prog 34 #[.int .u64 (wv seed), .int .i64 leaf] w fun e w' => e = .returned (.int .u64 (wv (combine leaf (pubEnds seed leaf 18)))) ∧ Below w.heap.size w w' := by
  go_enter Try.func34, Try.ntmps34
  go_wp2_with fail
  go_loopw [5, 6] (fun v i wr => ∃ k : Nat, k ≤ 18 ∧ i = .int .i64 k ∧ Own wr w.heap.size v (wvs (pubEnds seed leaf k)) ∧ Below w.heap.size w wr) (fun _ i _ => 18 - (intOf i).toNat)
  case atStart => exact ⟨0, Nat.zero_le _, rfl, Own.nil _ _, Below.refl _ _⟩
  case round =>
    obtain ⟨k, hk, rfl, hown, hw⟩ := hrel
    by_cases hlt : k < 18
    · go_wp2_with fail
      refine (refsecret_any _ _ _ _).mono ?_; rintro e w1 ⟨rfl, hw1⟩
      go_wp2_with fail
      refine (refrun_any _ _ _ _ _ _).mono ?_; rintro e w2 ⟨rfl, hw2⟩
      have hown2 := (hown.below hw1 (Nat.le_refl _)).below hw2 (Nat.le_refl _)
      have hw2' := (hw.thenCall hw1).thenCall hw2
      have hone : ∀ u ∈ [Value.int .u64 (wv (run leaf k 0 15 (secret seed leaf k)))], u.oneCell' = true := by simp [Value.oneCell']
      have hln : ((wvs (pubEnds seed leaf k)).length + 1) * 8 ≤ 140737488355328 := by rw [wvs_len, pubEnds_len]; omega
      have Hln := Lib.hid hln
      clear hown hw hw1 hw2 hln
      go_wp2_with (at_builtin; refine wpList_app _ rfl _ _ 27 rfl E64 w.heap.size u5 _ rfl (hown2.alloc _) _ [.int .u64 (wv (run leaf k 0 15 (secret seed leaf k)))] rfl (SliceAt.one _ _ _) hone Hln.out (hw2'.sizeNew _) ?_; intro v' w3 hown3 hg3 _)
      have hw3 : Below w.heap.size w w3 := (hw2'.thenNew _).thenApp (hown2.alloc _) hg3
      have hown4 : Own w3 w.heap.size v' (wvs (pubEnds seed leaf (k + 1))) := by rw [pubEnds_succ, wvs_app]; exact hown3
      clear hown2 hown3 hg3 hw2' hone Hln
      go_roundw
      case rel => exact ⟨k + 1, by omega, by go_num, hown4, hw3⟩
      case measure => simp [intOf]; omega
    · obtain rfl : k = 18 := by omega
      go_wp2_with fail
      refine (refends_any leaf _ _ (pubEnds_len _ _ _) _ hown.reads).mono ?_; rintro e w1 ⟨rfl, hw1⟩
      go_wp2
      go_ret
      exact ⟨rfl, hw.thenCall hw1⟩

theorem run_index_cell {P : Program} {w : World} {t e : TypeId} {n : Nat} {cs : Array Value} {i : Nat} {v : Value} {ke : IntKind} (ht : P.underlying t = some (.array n e)) (he : P.underlying e = some (.int ke)) (hs : (P.info? e).map (·.size) = some 1) (hi : i < n) (hv : cs[i]? = some v) :
    (Instr.index t (.agg cs) (.int .i64 (i : Int))).run P w = .ok v w := by
  cases h : P.info? e with
  | none => rw [h] at hs; cases hs
  | some d =>
    rw [h] at hs
    injection hs with hs
    have hn : 0 ≤ (i : Int) ∧ (i : Int) < (n : Int) := by omega
    have hs' : d.size = 1 := hs
    simp only [Instr.index, Sem.run_bind, asIntOf, Sem.run_pure, Result.andThen_ok, run_underlying ht, if_pos hn]
    simp [go_sem, part, isAgg, run_underlying he, sizeOf, typeInfo, h, hs', hv]
theorem infoI1 : (Try.prog.info? 3).map (·.size) = some 1 := by kernel_rfl
theorem index_digs (m : UInt64) (k : Nat) (hk : k < 18) : (ivs (digs m)).toArray[k]? = some (.int .i64 ((digs m).getD k 0)) := by rw [List.getElem?_toArray]; exact ivs_at _ _ (by rw [digs_len]; exact hk)
set_option maxRecDepth 20000 in
set_option maxHeartbeats 1600000 in
theorem sign_any (seed : UInt64) (leaf : Int) (m : UInt64) (w : World) : Calls Try.prog 35 #[.int .u64 (wv seed), .int .i64 leaf, .int .u64 (wv m)] w fun e w' => NewSlice w e w' (wvs (signL seed leaf m 18)) := by
  obtain ⟨L, hL⟩ : ∃ L, Hid (L = signL seed leaf m 18) := ⟨_, Lib.hid rfl⟩
  have hl : Hid (L.length = 18) := by show _ = _; rw [hL.out, signL_len]
  obtain ⟨D, hD⟩ : ∃ D, Hid (D = digs m) := ⟨_, Lib.hid rfl⟩
  have hat : ∀ k : Nat, k < 18 → L.getD k 0 = run leaf k 0 (D.getD k 0) (secret seed leaf k) := by intro k hk; rw [hL.out, hD.out]; simp [signL, hk]
  have Hat := Lib.hid hat
  clear hat
  obtain ⟨cs, hcs⟩ : ∃ cs, Hid (cs = (ivs (digs m)).toArray) := ⟨_, Lib.hid rfl⟩
  have hcsz : Hid (cs.size = 18) := by show _ = _; rw [hcs.out]; simp [ivs, digs_len]
  have hcat : ∀ k : Nat, k < 18 → cs[k]? = some (.int .i64 (D.getD k 0)) := by intro k hk; rw [hcs.out, hD.out]; exact index_digs m k hk
  have Hcat := Lib.hid hcat
  clear hcat
  rw [← hL.out]
  go_enter Try.func35, Try.ntmps35
  go_wp2_with fail
  refine (digits_any _ _).mono ?_; rintro e w1 ⟨rfl, hw1⟩
  rw [← hcs.out]
  have hb : Blk w1 w.heap.size 63 (fillW 18 L 0) := (Blk.new w _ _).below hw1 (Blk.new w _ _).lt
  have hbw : Below w.heap.size w w1 := ((Below.refl _ _).thenNew _).thenCall hw1
  clear hw1
  go_wp2_with fail
  go_loopw [8, 9, 12] (fun _ _ i wr => ∃ k : Nat, k ≤ 18 ∧ i = .int .i64 k ∧ Blk wr w.heap.size 63 (fillW 18 L k) ∧ Below w.heap.size w wr) (fun _ _ i _ => 18 - (intOf i).toNat)
  case atStart => exact ⟨0, Nat.zero_le _, rfl, hb, hbw⟩
  case round =>
    clear hb hbw w1
    obtain ⟨k, hk, rfl, hb, hw⟩ := hrel
    by_cases hlt : k < 18
    · obtain ⟨d, hd⟩ : ∃ d, Hid (d = D.getD k 0) := ⟨_, Lib.hid rfl⟩
      have hc0 := Hcat.out k hlt
      rw [← hd.out] at hc0
      have hc := run_index_cell (w := wr) Try.underlying61 Try.underlying3 infoI1 hlt hc0
      go_wp2_with fail
      refine (secret_any _ _ _ _).mono ?_; rintro e w1 ⟨rfl, hw1⟩
      go_wp2_with fail
      refine (run_any _ _ _ _ _ _).mono ?_; rintro e w2 ⟨rfl, hw2⟩
      have hb2 : Blk w2 w.heap.size 63 (fillW 18 L k) := (hb.below hw1 hb.lt).below hw2 (hb.below hw1 hb.lt).lt
      have hw3 := (hw.thenCall hw1).thenCall hw2
      have c0 : w2.cell? ⟨w.heap.size, k, none⟩ = some (.int .u64 0) := by rw [hb2.cell k, fillW_at hl.out hlt]
      have f0 : w2.frozen? ⟨w.heap.size, k, none⟩ = false := hb2.frozen k
      clear hb hw hw1 hw2
      go_wp2_with fail
      go_roundw
      case rel => exact ⟨k + 1, by omega, by go_num, by rw [← fillW_set hl.out hlt, Hat.out k hlt, ← hd.out]; exact hb2.set_ k _, hw3.setCell (Nat.le_refl _) _⟩
      case measure => simp [intOf]; omega
    · obtain rfl : k = 18 := by omega
      rw [fillW_full hl.out] at hb
      have hsz : (wvs L).toArray.size = 18 := by simp [wvs, hl.out]
      have hown : Own wr w.heap.size (.slice (some ⟨w.heap.size, 0, none⟩) 18 18) (wvs L) := by
        have h := Own.of_blk (base := w.heap.size) hb (Nat.le_refl _) (by rw [hsz]; decide)
        rw [hsz] at h; exact h
      go_wp2
      go_ret
      exact ⟨_, rfl, hown, hw⟩

/-- What Recover returns. -/
def recover (leaf : Int) (m : UInt64) (s : List UInt64) : Value := if s.length = 18 then .tuple #[.int .u64 (wv (combine leaf (recL leaf m s 18))), .int .i64 0] else .tuple #[.int .u64 0, .int .i64 4]
set_option maxRecDepth 20000 in
set_option maxHeartbeats 1600000 in
theorem recover_any (leaf : Int) (m : UInt64) (v : Value) (s : List UInt64) (w : World) (h : SliceAt w v (wvs s)) : Calls Try.prog 37 #[.int .i64 leaf, .int .u64 (wv m), v] w fun e w' => e = .returned (recover leaf m s) ∧ Below w.heap.size w w' := by
  have hnl : s.length ≤ maxLen := by have := h.len; rw [wvs_len] at this; exact this
  obtain ⟨A, c, rfl, -, hm, hr⟩ := h
  rw [wvs_len] at hr ⊢
  have H := Lib.hid hr
  clear hr hm
  by_cases h18 : s.length = 18
  · obtain ⟨L, hL⟩ : ∃ L, Hid (L = recL leaf m s 18) := ⟨_, Lib.hid rfl⟩
    have hl : Hid (L.length = 18) := by show _ = _; rw [hL.out, recL_len]
    obtain ⟨D, hD⟩ : ∃ D, Hid (D = digs m) := ⟨_, Lib.hid rfl⟩
    have hat : ∀ k : Nat, k < 18 → L.getD k 0 = run leaf k (D.getD k 0) 15 (s.getD k 0) := by intro k hk; rw [hL.out, hD.out]; simp [recL, hk]
    have Hat := Lib.hid hat
    clear hat
    obtain ⟨cs, hcs⟩ : ∃ cs, Hid (cs = (ivs (digs m)).toArray) := ⟨_, Lib.hid rfl⟩
    have hcsz : Hid (cs.size = 18) := by show _ = _; rw [hcs.out]; simp [ivs, digs_len]
    have hcat : ∀ k : Nat, k < 18 → cs[k]? = some (.int .i64 (D.getD k 0)) := by intro k hk; rw [hcs.out, hD.out]; exact index_digs m k hk
    have Hcat := Lib.hid hcat
    clear hcat
    have hret : Hid (recover leaf m s = .tuple #[.int .u64 (wv (combine leaf L)), .int .i64 0]) := by show _ = _; rw [hL.out]; unfold recover; rw [if_pos h18]
    rw [hret.out]
    have Hs := Lib.hid h18
    rw [h18] at H ⊢
    clear hnl h18
    go_enter Try.func37, Try.ntmps37
    go_wp2_with fail
    refine (digits_any _ _).mono ?_; rintro e w1 ⟨rfl, hw1⟩
    rw [← hcs.out]
    have hb : Blk w1 w.heap.size 63 (fillW 18 L 0) := (Blk.new w _ _).below hw1 (Blk.new w _ _).lt
    have hbw : Below w.heap.size w w1 := ((Below.refl _ _).thenNew _).thenCall hw1
    clear hw1
    go_wp2_with fail
    go_loopw [9, 10, 16] (fun _ _ i wr => ∃ k : Nat, k ≤ 18 ∧ i = .int .i64 k ∧ Blk wr w.heap.size 63 (fillW 18 L k) ∧ Below w.heap.size w wr) (fun _ _ i _ => 18 - (intOf i).toNat)
    case atStart => exact ⟨0, Nat.zero_le _, rfl, hb, hbw⟩
    case round =>
      clear hb hbw w1
      obtain ⟨k, hk, rfl, hb, hw⟩ := hrel
      by_cases hlt : k < 18
      · obtain ⟨d, hd⟩ : ∃ d, Hid (d = D.getD k 0) := ⟨_, Lib.hid rfl⟩
        have hc0 := Hcat.out k hlt
        rw [← hd.out] at hc0
        have hc := run_index_cell (w := wr) Try.underlying61 Try.underlying3 infoI1 hlt hc0
        obtain ⟨ad, y, rfl, hy, hcell⟩ := (H.out.below hw).word Hs.out hlt
        have hsy : Hid (s.getD k 0 = y) := by show _ = _; rw [List.getD_eq_getElem?_getD, hy.out.2]; rfl
        go_wp2_with fail
        refine (run_any _ _ _ _ _ _).mono ?_; rintro e w2 ⟨rfl, hw2⟩
        have hb2 : Blk w2 w.heap.size 63 (fillW 18 L k) := hb.below hw2 hb.lt
        have hw3 := hw.thenCall hw2
        have c0 : w2.cell? ⟨w.heap.size, k, none⟩ = some (.int .u64 0) := by rw [hb2.cell k, fillW_at hl.out hlt]
        have f0 : w2.frozen? ⟨w.heap.size, k, none⟩ = false := hb2.frozen k
        clear hb hw hw2 hcell
        go_wp2_with fail
        go_roundw
        case rel => exact ⟨k + 1, by omega, by go_num, by rw [← fillW_set hl.out hlt, Hat.out k hlt, ← hd.out, hsy.out]; exact hb2.set_ k _, hw3.setCell (Nat.le_refl _) _⟩
        case measure => simp [intOf]; omega
      · obtain rfl : k = 18 := by omega
        rw [fillW_full hl.out] at hb
        have hsz : (wvs L).toArray.size = 18 := by simp [wvs, hl.out]
        go_wp2_with (refine wpList_load_row rfl 63 (.tmp 8) rfl w.heap.size rfl _ (wvs L).toArray _ _ hb Try.underlying63 rfl (by rw [hsz]; exact info64a) ?_)
        refine (combine_any leaf L hl.out _).mono ?_; rintro e w1 ⟨rfl, hw1⟩
        go_wp2
        go_ret2
        exact ⟨rfl, hw.thenCall hw1⟩
  · have hret : Hid (recover leaf m s = .tuple #[.int .u64 0, .int .i64 4]) := by show _ = _; unfold recover; rw [if_neg h18]
    rw [hret.out]
    have hne : ((s.length : Int) != 18) = true := by rw [bne_iff_ne]; omega
    clear hnl
    go_enter Try.func37, Try.ntmps37
    go_wp2
    go_ret2
    exact ⟨rfl, Below.refl _ _⟩

set_option maxHeartbeats 800000 in
theorem onetimeKeys_law (seed : UInt64) (leaf chain : Int) (w : World) : Calls Try.prog 11 #[.int .u64 (wv seed), .int .i64 leaf, .int .i64 chain] w fun e w' => e = .returned (.bool true) ∧ Below w.heap.size w w' := by
  go_enter Try.func11, Try.ntmps11
  go_wp2_with fail
  refine (secret_any _ _ _ _).mono ?_; rintro e w1 ⟨rfl, hw1⟩
  go_wp2_with fail
  refine (refsecret_any _ _ _ _).mono ?_; rintro e w2 ⟨rfl, hw2⟩
  go_wp2_with fail
  refine (public_any _ _ _).mono ?_; rintro e w3 ⟨rfl, hw3⟩
  go_wp2_with fail
  refine (refleaf_any _ _ _).mono ?_; rintro e w4 ⟨rfl, hw4⟩
  go_wp2_with fail
  refine (awake3_any _).mono ?_; rintro e w5 ⟨rfl, hw5⟩
  go_wp2
  go_ret
  exact ⟨rfl, (((hw1.thenCall hw2).thenCall hw3).thenCall hw4).thenCall hw5⟩
set_option maxHeartbeats 800000 in
theorem onetimeBack_law (seed : UInt64) (leaf : Int) (m : UInt64) (w : World) : Calls Try.prog 13 #[.int .u64 (wv seed), .int .i64 leaf, .int .u64 (wv m)] w fun e w' => e = .returned (.bool true) ∧ Below w.heap.size w w' := by
  have hrec : Hid (recover leaf m (signL seed leaf m 18) = .tuple #[.int .u64 (wv (combine leaf (pubEnds seed leaf 18))), .int .i64 0]) := by show _ = _; unfold recover; rw [if_pos (signL_len ..), rec_sign]
  go_enter Try.func13, Try.ntmps13
  go_wp2_with fail
  refine (sign_any _ _ _ _).mono ?_; rintro e w1 ⟨v1, rfl, ho1, hw1⟩
  go_wp2_with fail
  refine (recover_any _ _ _ _ _ ho1.reads).mono ?_; rintro e w2 ⟨rfl, hw2⟩
  rw [hrec.out]
  go_wp2_with fail
  refine (public_any _ _ _).mono ?_; rintro e w3 ⟨rfl, hw3⟩
  go_wp2_with fail
  refine (awake3_any _).mono ?_; rintro e w5 ⟨rfl, hw5⟩
  go_wp2
  go_ret
  exact ⟨rfl, ((hw1.thenCall hw2).thenCall hw3).thenCall hw5⟩
end Go.Proofs.Ytmoeabifkbahbaa
