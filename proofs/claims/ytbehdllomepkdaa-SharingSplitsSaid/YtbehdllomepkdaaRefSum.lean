/-
  The contract of passkeyref1.Sum: it returns the same word as digest.Sum, for at most 10^9 bytes.
-/
import Derived.Test.YtbehdllomepkdaaRefRound
import Derived.Test.YtbehdllomepkdaaPlainRef
namespace Go.Proofs.Ytbehdllomepkdaa
open Go.RowKit

theorem round_st (s : St) (w : World) : Calls Try.prog 63 #[.agg s.cells] w fun e w' => e = .returned (.agg (rnd s).cells) ∧ Below w.heap.size w w' := round_any s.v0 s.v1 s.v2 s.v3 w
theorem fa_step (f : Nat → UInt8) (t : Nat) (y : Int) (hy : y = bv (f (7 - t))) : bits BinOp.or IntKind.u64 (IntKind.u64.wrap (wv (fromAbove f t) * 256)) y = wv (fromAbove f (t + 1)) := by
  have e2 := wv_shl (fromAbove f t) 8 (by decide)
  show _ = wv (fromAbove f t <<< 8 ||| (f (7 - t)).toUInt64)
  rw [← wv_or, hy, bv_wv]
  exact congrArg (fun y => bits BinOp.or IntKind.u64 y (wv (f (7 - t)).toUInt64)) e2
set_option maxRecDepth 100000 in
set_option maxHeartbeats 1600000 in
theorem refsum_any (k0 k1 : UInt64) (A : Option Addr) (n c : Nat) (bs : List UInt8) (w : World) (hr : Reads w w.heap.size A n (bvs bs)) (hn : n ≤ 1000000000) :
    Calls Try.prog 58 #[.int .u64 (wv k0), .int .u64 (wv k1), .slice A n c] w fun e w' => e = .returned (.int .u64 (wv (sum k0 k1 bs))) ∧ Below w.heap.size w w' := by
  have hl : bs.length = n := by have := hr.1; rw [bvs_len] at this; exact this
  have HL := Lib.hid hl; clear hl
  have HR := Lib.hid hr; clear hr
  have e0 : bits BinOp.xor IntKind.u64 (wv k0) 8317987319222330741 = wv (k0 ^^^ 8317987319222330741) := wv_xor k0 8317987319222330741
  have e1 : bits BinOp.xor IntKind.u64 (wv k1) 7237128888997146477 = wv (k1 ^^^ 7237128888997146477) := wv_xor k1 7237128888997146477
  have e2 : bits BinOp.xor IntKind.u64 (wv k0) 7816392313619706465 = wv (k0 ^^^ 7816392313619706465) := wv_xor k0 7816392313619706465
  have e3 : bits BinOp.xor IntKind.u64 (wv k1) 8387220255154660723 = wv (k1 ^^^ 8387220255154660723) := wv_xor k1 8387220255154660723
  go_enter Try.func58, Try.ntmps58
  go_wp2_with fail
  clear e0 e1 e2 e3
  have hb1 : Blk (w.alloc (.cells #[.int .u64 (wv (k0 ^^^ 8317987319222330741)), .int .u64 (wv (k1 ^^^ 7237128888997146477)), .int .u64 (wv (k0 ^^^ 7816392313619706465)), .int .u64 (wv (k1 ^^^ 8387220255154660723))] 88)) w.heap.size 88 (absR k0 k1 bs 0).cells := by unfold absR; rw [if_pos (Nat.zero_le _)]; exact Blk.new w _ _
  have hw1 : Below w.heap.size w (w.alloc (.cells #[.int .u64 (wv (k0 ^^^ 8317987319222330741)), .int .u64 (wv (k1 ^^^ 7237128888997146477)), .int .u64 (wv (k0 ^^^ 7816392313619706465)), .int .u64 (wv (k1 ^^^ 8387220255154660723))] 88)) := (Below.refl _ _).alloc (Nat.le_refl _) _
  revert hb1 hw1
  generalize w.alloc (.cells #[.int .u64 (wv (k0 ^^^ 8317987319222330741)), .int .u64 (wv (k1 ^^^ 7237128888997146477)), .int .u64 (wv (k0 ^^^ 7816392313619706465)), .int .u64 (wv (k1 ^^^ 8387220255154660723))] 88) = w1
  intro hb1 hw1
  obtain ⟨g, hg⟩ : ∃ g, Hid (g = w.heap.size) := ⟨_, Lib.hid rfl⟩
  rw [← hg.out] at hb1 ⊢
  go_loopw [8] (fun i wr => ∃ j : Nat, j ≤ n / 8 + 1 ∧ i = .int .i64 (8 * j : Nat) ∧ Blk wr g 88 (absR k0 k1 bs j).cells ∧ Below w.heap.size w wr) (fun i _ => n + 8 - (intOf i).toNat)
  case atStart => exact ⟨0, Nat.zero_le _, rfl, hb1, hw1⟩
  case round =>
    clear hb1 hw1 w1
    obtain ⟨j, hj, rfl, hb, hw⟩ := hrel
    by_cases hlt : j ≤ n / 8
    · go_wp2_with fail
      obtain ⟨wo, rfl⟩ : ∃ wo : World, wo = wr := ⟨_, rfl⟩
      go_loop [9, 10, 11] (fun m k _ => ∃ t : Nat, t ≤ 8 ∧ k = .int .i64 (7 - (t : Int)) ∧ m = .int .u64 (wv (fromAbove (byteAt bs j) t))) (fun _ k _ => (intOf k + 1).toNat)
      case atStart => exact ⟨0, Nat.zero_le _, rfl, rfl⟩
      case round =>
        obtain ⟨t, ht, rfl, rfl⟩ := hrel
        by_cases htl : t < 8
        · by_cases hin : 8 * j + (7 - t) < n
          · obtain ⟨ad, x, rfl, hx, hc⟩ := (HR.out.below hw).byte HL.out hin
            have hx0 := bv_nn x
            have hx1 := bv_lt x
            go_wp2_with fail
            go_round
            case rel =>
              refine ⟨t + 1, by omega, by congr 1; omega, congrArg _ (fa_step _ _ _ ?_)⟩
              unfold byteAt; rw [HL.out, if_pos hin, List.getD_eq_getElem?_getD, hx.out.2]; rfl
            case measure => simp [intOf]; omega
          · by_cases ht0 : t = 0
            · subst ht0
              go_wp2_with fail
              go_round
              case rel =>
                refine ⟨1, by omega, rfl, congrArg _ (fa_step _ _ _ ?_)⟩
                unfold byteAt; rw [HL.out, if_neg hin, if_pos rfl, bv, UInt8.toNat_ofNat']; omega
              case measure => simp [intOf]
            · have ht7 : ((7 - (t : Int)) == 7) = false := by simp; omega
              go_wp2_with fail
              go_round
              case rel =>
                refine ⟨t + 1, by omega, by congr 1; omega, congrArg _ (fa_step _ _ _ ?_)⟩
                unfold byteAt; rw [HL.out, if_neg hin, if_neg (by omega)]; rfl
              case measure => simp [intOf]; omega
        · obtain rfl : t = 8 := by omega
          obtain ⟨m, hm⟩ : ∃ m, Hid (m = fromAbove (byteAt bs j) 8) := ⟨_, Lib.hid rfl⟩
          rw [← hm.out]
          obtain ⟨s, hs⟩ : ∃ s, Hid (s = absR k0 k1 bs j) := ⟨_, Lib.hid rfl⟩
          rw [← hs.out] at hb
          obtain ⟨t0, t1, t2, t3⟩ := s
          replace hb : Blk wo g 88 #[.int .u64 (wv t0), .int .u64 (wv t1), .int .u64 (wv t2), .int .u64 (wv t3)] := hb
          have c0 : wo.cell? ⟨g, 0, none⟩ = some (.int .u64 (wv t0)) := hb.cell 0
          have c1 : wo.cell? ⟨g, 1, none⟩ = some (.int .u64 (wv t1)) := hb.cell 1
          have c2 : wo.cell? ⟨g, 2, none⟩ = some (.int .u64 (wv t2)) := hb.cell 2
          have c3 : wo.cell? ⟨g, 3, none⟩ = some (.int .u64 (wv t3)) := hb.cell 3
          have f3 : wo.frozen? ⟨g, 3, none⟩ = false := hb.frozen 3
          have hx3 := wv_xor t3 m
          go_wp2_with fail
          clear c0 c1 c2 c3 f3 hx3
          have hb2 : Blk (wo.setCell ⟨g, 3, none⟩ (.int .u64 (wv (t3 ^^^ m)))) g 88 #[.int .u64 (wv t0), .int .u64 (wv t1), .int .u64 (wv t2), .int .u64 (wv (t3 ^^^ m))] := set4_3 hb _
          have hw2 : Below w.heap.size w (wo.setCell ⟨g, 3, none⟩ (.int .u64 (wv (t3 ^^^ m)))) := hw.setCell (by rw [hg.out]; exact Nat.le_refl _) _
          clear hb
          revert hb2 hw2
          generalize wo.setCell ⟨g, 3, none⟩ (.int .u64 (wv (t3 ^^^ m))) = w2
          intro hb2 hw2
          refine (round_st ⟨t0, t1, t2, t3 ^^^ m⟩ _).mono ?_
          rintro e w3 ⟨rfl, hw3⟩
          go_wp2_with fail
          refine (round_st (rnd ⟨t0, t1, t2, t3 ^^^ m⟩) _).mono ?_
          rintro e w4 ⟨rfl, hw4⟩
          have hb4 := (hb2.below hw3 hb2.lt).below hw4 ((hb2.below hw3 hb2.lt).lt)
          have hw5 := (hw2.thenCall hw3).thenCall hw4
          obtain ⟨r, hr⟩ : ∃ r, Hid (r = rnd (rnd ⟨t0, t1, t2, t3 ^^^ m⟩)) := ⟨_, Lib.hid rfl⟩
          rw [← hr.out]
          clear hb2 hw2 hw3 hw4
          obtain ⟨r0, r1, r2, r3⟩ := r
          rw [show (Value.agg (St.cells ⟨r0, r1, r2, r3⟩)) = .agg #[.int .u64 (wv r0), .int .u64 (wv r1), .int .u64 (wv r2), .int .u64 (wv r3)] from rfl]
          have c0 : w4.cell? ⟨g, 0, none⟩ = some (.int .u64 (wv t0)) := hb4.cell 0
          have c1 : w4.cell? ⟨g, 1, none⟩ = some (.int .u64 (wv t1)) := hb4.cell 1
          have c2 : w4.cell? ⟨g, 2, none⟩ = some (.int .u64 (wv t2)) := hb4.cell 2
          have c3 : w4.cell? ⟨g, 3, none⟩ = some (.int .u64 (wv (t3 ^^^ m))) := hb4.cell 3
          have f0 : w4.frozen? ⟨g, 0, none⟩ = false := hb4.frozen 0
          have f1 : w4.frozen? ⟨g, 1, none⟩ = false := hb4.frozen 1
          have f2 : w4.frozen? ⟨g, 2, none⟩ = false := hb4.frozen 2
          have f3 : w4.frozen? ⟨g, 3, none⟩ = false := hb4.frozen 3
          have hx0 := wv_xor r0 m
          go_wp2_with fail
          have hgB : w.heap.size ≤ g := by rw [hg.out]; exact Nat.le_refl _
          go_roundw
          case rel =>
            refine ⟨j + 1, by omega, congrArg _ (by omega), ?_, ((((hw5.setCell hgB _).setCell hgB _).setCell hgB _).setCell hgB _).setCell hgB _⟩
            have hlen := HL.out
            rw [absR_succ _ _ _ _ (by omega), ← hm.out, ← hs.out]
            show Blk _ g _ (xor0 (rnd (rnd ⟨t0, t1, t2, t3 ^^^ m⟩)) m).cells
            rw [← hr.out]
            exact set4_0 (set4_3 (set4_2 (set4_1 (set4_0 hb4 _) _) _) _) _
          case measure => simp [intOf]; omega
    · obtain rfl : j = n / 8 + 1 := by omega
      obtain ⟨s, hs⟩ : ∃ s, Hid (s = absR k0 k1 bs (n / 8 + 1)) := ⟨_, Lib.hid rfl⟩
      rw [← hs.out] at hb
      have hfin : Hid (finD s = sum k0 k1 bs) := by rw [hs.out, ← HL.out]; exact absR_last k0 k1 bs
      clear hs
      obtain ⟨t0, t1, t2, t3⟩ := s
      replace hb : Blk wr g 88 #[.int .u64 (wv t0), .int .u64 (wv t1), .int .u64 (wv t2), .int .u64 (wv t3)] := hb
      have c0 : wr.cell? ⟨g, 0, none⟩ = some (.int .u64 (wv t0)) := hb.cell 0
      have c1 : wr.cell? ⟨g, 1, none⟩ = some (.int .u64 (wv t1)) := hb.cell 1
      have c2 : wr.cell? ⟨g, 2, none⟩ = some (.int .u64 (wv t2)) := hb.cell 2
      have c3 : wr.cell? ⟨g, 3, none⟩ = some (.int .u64 (wv t3)) := hb.cell 3
      have f2 : wr.frozen? ⟨g, 2, none⟩ = false := hb.frozen 2
      have hx2 : bits BinOp.xor IntKind.u64 (wv t2) 255 = wv (t2 ^^^ 255) := wv_xor t2 255
      go_wp2_with fail
      clear c0 c1 c2 c3 f2 hx2
      have hb2 : Blk (wr.setCell ⟨g, 2, none⟩ (.int .u64 (wv (t2 ^^^ 255)))) g 88 #[.int .u64 (wv t0), .int .u64 (wv t1), .int .u64 (wv (t2 ^^^ 255)), .int .u64 (wv t3)] := set4_2 hb _
      have hw2 : Below w.heap.size w (wr.setCell ⟨g, 2, none⟩ (.int .u64 (wv (t2 ^^^ 255)))) := hw.setCell (by rw [hg.out]; exact Nat.le_refl _) _
      clear hb
      revert hb2 hw2
      generalize wr.setCell ⟨g, 2, none⟩ (.int .u64 (wv (t2 ^^^ 255))) = w2
      intro hb2 hw2
      refine (round_st ⟨t0, t1, t2 ^^^ 255, t3⟩ _).mono ?_
      rintro e w3 ⟨rfl, hw3⟩
      replace hw2 := hw2.thenCall hw3
      replace hb2 := hb2.below hw3 hb2.lt
      clear hw3
      go_wp2_with fail
      refine (round_st (rnd ⟨t0, t1, t2 ^^^ 255, t3⟩) _).mono ?_
      rintro e w4 ⟨rfl, hw3⟩
      replace hw2 := hw2.thenCall hw3
      replace hb2 := hb2.below hw3 hb2.lt
      clear hw3
      go_wp2_with fail
      refine (round_st (rnd (rnd ⟨t0, t1, t2 ^^^ 255, t3⟩)) _).mono ?_
      rintro e w5 ⟨rfl, hw3⟩
      replace hw2 := hw2.thenCall hw3
      replace hb2 := hb2.below hw3 hb2.lt
      clear hw3
      go_wp2_with fail
      refine (round_st (rnd (rnd (rnd ⟨t0, t1, t2 ^^^ 255, t3⟩))) _).mono ?_
      rintro e w6 ⟨rfl, hw3⟩
      replace hw2 := hw2.thenCall hw3
      replace hb2 := hb2.below hw3 hb2.lt
      clear hw3
      obtain ⟨r, hr⟩ : ∃ r, Hid (r = rnd (rnd (rnd (rnd ⟨t0, t1, t2 ^^^ 255, t3⟩)))) := ⟨_, Lib.hid rfl⟩
      rw [← hr.out]
      have hfin2 : Hid (finD ⟨t0, t1, t2, t3⟩ = r.v0 ^^^ r.v1 ^^^ r.v2 ^^^ r.v3) := by rw [hr.out]; rfl
      clear hr
      obtain ⟨r0, r1, r2, r3⟩ := r
      rw [show (Value.agg (St.cells ⟨r0, r1, r2, r3⟩)) = .agg #[.int .u64 (wv r0), .int .u64 (wv r1), .int .u64 (wv r2), .int .u64 (wv r3)] from rfl]
      have c0 : w6.cell? ⟨g, 0, none⟩ = some (.int .u64 (wv t0)) := hb2.cell 0
      have c1 : w6.cell? ⟨g, 1, none⟩ = some (.int .u64 (wv t1)) := hb2.cell 1
      have c2 : w6.cell? ⟨g, 2, none⟩ = some (.int .u64 (wv (t2 ^^^ 255))) := hb2.cell 2
      have c3 : w6.cell? ⟨g, 3, none⟩ = some (.int .u64 (wv t3)) := hb2.cell 3
      have f0 : w6.frozen? ⟨g, 0, none⟩ = false := hb2.frozen 0
      have f1 : w6.frozen? ⟨g, 1, none⟩ = false := hb2.frozen 1
      have f2 : w6.frozen? ⟨g, 2, none⟩ = false := hb2.frozen 2
      have f3 : w6.frozen? ⟨g, 3, none⟩ = false := hb2.frozen 3
      have hgB : w.heap.size ≤ g := by rw [hg.out]; exact Nat.le_refl _
      go_wp2
      go_ret
      exact ⟨ret_int (by rw [wv_xor, wv_xor, wv_xor, ← hfin.out, hfin2.out]), (((hw2.setCell hgB _).setCell hgB _).setCell hgB _).setCell hgB _⟩
end Go.Proofs.Ytbehdllomepkdaa
