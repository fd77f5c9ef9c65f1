/-
  The contracts of passkeyref1.rotl and round: the same round as in PlainDig. No condition. Printed in part by gen_refround.py.
-/
import Derived.Test.YtbehdllomepkdaaDigUse
import Derived.Deep.RegionWith
import Derived.StillTailTactics
import Derived.Deep.DeepCutAuto
namespace Go.Proofs.Ytbehdllomepkdaa
open Go.RowKit
theorem rotl_any (x : UInt64) (k : Nat) (hk : k = 13 ∨ k = 16 ∨ k = 17 ∨ k = 21 ∨ k = 32) (w : World) :
    Calls Try.prog 65 #[.int .u64 (wv x), .int .u64 k] w fun e w' => e = .returned (.int .u64 (wv (rotl x (UInt64.ofNat k)))) ∧ w = w' := by
  rw [← rot_val x k (by omega) (by omega)]
  rcases hk with rfl | rfl | rfl | rfl | rfl
  all_goals
    go_enter Try.func65, Try.ntmps65
    go_wp2
    go_ret
    exact ⟨rfl, rfl⟩

set_option maxRecDepth 100000 in
set_option maxHeartbeats 1600000 in
theorem round_any (v0 v1 v2 v3 : UInt64) (w : World) :
    Calls Try.prog 63 #[.agg #[.int .u64 (wv v0), .int .u64 (wv v1), .int .u64 (wv v2), .int .u64 (wv v3)]] w fun e w' => e = .returned (.agg (rnd ⟨v0, v1, v2, v3⟩).cells) ∧ Below w.heap.size w w' := by
  go_enter Try.func63, Try.ntmps63
  have ha0 := wv_add v0 v1
  obtain ⟨x0, hx0⟩ : ∃ x, x = v0 + v1 := ⟨_, rfl⟩
  rw [← hx0] at ha0
  have Hx0 := Lib.hid hx0; clear hx0
  go_upto_region 2 with fail
  clear ha0
  obtain ⟨x1, hx1⟩ : ∃ x, Hid (x = rotl v1 13 ^^^ x0) := ⟨_, Lib.hid rfl⟩
  have Hx1 := hx1; clear hx1
  go_cut [9] (fun _ wx => wx = ((w.alloc (.cells #[.int .u64 (wv x0), .int .u64 (wv x1), .int .u64 (wv v2), .int .u64 (wv v3)] 88)).alloc (.cells #[.int .u64 0, .int .u64 0, .int .u64 0, .int .u64 0] 88)).drew)
  case first =>
    have hy := wv_xor (rotl v1 13) x0
    rw [← Hx1.out] at hy
    go_region_with (go_at_call 65; refine (rotl_any _ 13 (by decide) _).mono ?_; rintro e w1 ⟨rfl, rfl⟩)
    all_goals (go_wp2_with fail; go_meet; rfl)
  case rest =>
    subst hcut
    obtain ⟨x2, hx2⟩ : ∃ x, x = rotl x0 32 := ⟨_, rfl⟩
    have ha1 := wv_add v2 v3
    obtain ⟨x3, hx3⟩ : ∃ x, x = v2 + v3 := ⟨_, rfl⟩
    rw [← hx3] at ha1
    have Hx2 := Lib.hid hx2; clear hx2
    have Hx3 := Lib.hid hx3; clear hx3
    go_upto_region 5 with (go_at_call 65; refine (rotl_any _ 32 (by decide) _).mono ?_; rintro e w1 ⟨rfl, rfl⟩; rw [show rotl x0 (UInt64.ofNat 32) = x2 from Hx2.out.symm])
    clear ha1
    obtain ⟨x4, hx4⟩ : ∃ x, Hid (x = rotl v3 16 ^^^ x3) := ⟨_, Lib.hid rfl⟩
    have Hx4 := hx4; clear hx4
    go_cut [26] (fun _ wx => wx = ((w.alloc (.cells #[.int .u64 (wv x2), .int .u64 (wv x1), .int .u64 (wv x3), .int .u64 (wv x4)] 88)).alloc (.cells #[.int .u64 0, .int .u64 0, .int .u64 0, .int .u64 0] 88)).drew.drew)
    case first =>
      have hy := wv_xor (rotl v3 16) x3
      rw [← Hx4.out] at hy
      go_region_with (go_at_call 65; refine (rotl_any _ 16 (by decide) _).mono ?_; rintro e w1 ⟨rfl, rfl⟩)
      all_goals (go_wp2_with fail; go_meet; rfl)
    case rest =>
      subst hcut
      have ha2 := wv_add x2 x4
      obtain ⟨x5, hx5⟩ : ∃ x, x = x2 + x4 := ⟨_, rfl⟩
      rw [← hx5] at ha2
      have Hx5 := Lib.hid hx5; clear hx5
      go_upto_region 7 with fail
      clear ha2
      obtain ⟨x6, hx6⟩ : ∃ x, Hid (x = rotl x4 21 ^^^ x5) := ⟨_, Lib.hid rfl⟩
      have Hx6 := hx6; clear hx6
      go_cut [39] (fun _ wx => wx = ((w.alloc (.cells #[.int .u64 (wv x5), .int .u64 (wv x1), .int .u64 (wv x3), .int .u64 (wv x6)] 88)).alloc (.cells #[.int .u64 0, .int .u64 0, .int .u64 0, .int .u64 0] 88)).drew.drew.drew)
      case first =>
        have hy := wv_xor (rotl x4 21) x5
        rw [← Hx6.out] at hy
        go_region_with (go_at_call 65; refine (rotl_any _ 21 (by decide) _).mono ?_; rintro e w1 ⟨rfl, rfl⟩)
        all_goals (go_wp2_with fail; go_meet; rfl)
      case rest =>
        subst hcut
        have ha3 := wv_add x3 x1
        obtain ⟨x7, hx7⟩ : ∃ x, x = x3 + x1 := ⟨_, rfl⟩
        rw [← hx7] at ha3
        have Hx7 := Lib.hid hx7; clear hx7
        go_upto_region 9 with fail
        clear ha3
        obtain ⟨x8, hx8⟩ : ∃ x, Hid (x = rotl x1 17 ^^^ x7) := ⟨_, Lib.hid rfl⟩
        have Hx8 := hx8; clear hx8
        go_cut [52] (fun _ wx => wx = ((w.alloc (.cells #[.int .u64 (wv x5), .int .u64 (wv x8), .int .u64 (wv x7), .int .u64 (wv x6)] 88)).alloc (.cells #[.int .u64 0, .int .u64 0, .int .u64 0, .int .u64 0] 88)).drew.drew.drew.drew)
        case first =>
          have hy := wv_xor (rotl x1 17) x7
          rw [← Hx8.out] at hy
          go_region_with (go_at_call 65; refine (rotl_any _ 17 (by decide) _).mono ?_; rintro e w1 ⟨rfl, rfl⟩)
          all_goals (go_wp2_with fail; go_meet; rfl)
        case rest =>
          subst hcut
          go_wp2_with (go_at_call 65; refine (rotl_any _ 32 (by decide) _).mono ?_; rintro e w1 ⟨rfl, rfl⟩)
          refine bodyPost_ret (v := .agg #[.int .u64 (wv x5), .int .u64 (wv x8), .int .u64 (wv (rotl x7 32)), .int .u64 (wv x6)]) (by simp [results, Try.results63, go_sem]) rfl ⟨?_, ?_⟩
          · simp only [rnd, St.cells, Hx0.out, Hx1.out, Hx2.out, Hx3.out, Hx4.out, Hx5.out, Hx6.out, Hx7.out, Hx8.out]
          · exact ((((((Below.refl _ _).alloc (Nat.le_refl _) _).alloc (by simp) _).drew).drew).drew).drew
end Go.Proofs.Ytbehdllomepkdaa
