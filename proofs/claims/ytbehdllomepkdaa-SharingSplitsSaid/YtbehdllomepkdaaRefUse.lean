/-
  The contracts of passkeyref1's Words, Hash, Mac and Derive: the same words and bytes as digest's, for at most a million words and 10^9 bytes.
-/
import Derived.Test.YtbehdllomepkdaaRefSum
namespace Go.Proofs.Ytbehdllomepkdaa
open Go.RowKit

set_option maxHeartbeats 1600000 in
theorem refwords_any (A : Option Addr) (n c : Nat) (l : List UInt64) (w : World) (hr : Reads w w.heap.size A n (wvs l)) (hn : n ≤ 1000000) :
    Calls Try.prog 49 #[.slice A n c] w fun e w' => NewBytes w e w' (words l) := by
  have hl : l.length = n := by have := hr.1; rw [wvs_len] at this; exact this
  have HL := Lib.hid hl; clear hl
  have HR := Lib.hid hr; clear hr
  go_enter Try.func49, Try.ntmps49
  go_wp2_with fail
  go_loopw [3, 4] (fun v i wr => ∃ k : Nat, k ≤ n ∧ i = .int .i64 k ∧ Own wr w.heap.size v (bvs (words (l.take k))) ∧ Below w.heap.size w wr) (fun _ i _ => n - (intOf i).toNat)
  case atStart => exact ⟨0, Nat.zero_le _, rfl, Own.nil _ _, Below.refl _ _⟩
  case round =>
    obtain ⟨k, hk, rfl, hown, hw⟩ := hrel
    by_cases hlt : k < n
    · obtain ⟨ad, x, rfl, hx, -⟩ := (HR.out.below hw).word HL.out hlt
      go_wp2_with fail
      obtain ⟨wo, rfl⟩ : ∃ wo : World, wo = wr := ⟨_, rfl⟩
      go_loopw [3, 5] (fun v i wr => ∃ j : Nat, j ≤ 8 ∧ i = .int .i64 (7 - (j : Int)) ∧ Own wr w.heap.size v (bvs (words (l.take k) ++ (be x).take j)) ∧ Below w.heap.size w wr) (fun _ i _ => (intOf i + 1).toNat)
      case atStart => exact ⟨0, Nat.zero_le _, rfl, by simpa using hown, hw⟩
      case round =>
        clear hown hw
        obtain ⟨j, hj, rfl, hown, hw⟩ := hrel
        by_cases hjl : j < 8
        · obtain ⟨ad2, x2, he, hx2, hc⟩ := (HR.out.below hw).word HL.out hlt
          obtain rfl : ad = ad2 := by injection he
          obtain rfl : x = x2 := by have h1 := hx.out.2; rw [hx2.out.2] at h1; injection h1 with h1; exact h1.symm
          clear hx2 he
          have hx0 := wv_nn x
          have hone : ∀ u ∈ [Value.int .u8 (wv x / 2 ^ (8 * (7 - j)) % 256)], u.oneCell' = true := by simp [Value.oneCell']
          go_wp2_with (at_builtin; refine wpList_app _ rfl _ _ 26 rfl E8 w.heap.size u3 _ rfl (hown.alloc _) _ [.int .u8 (wv x / 2 ^ (8 * (7 - j)) % 256)] rfl (SliceAt.one _ _ _) hone (by rw [bvs_len, List.length_append, words_len, List.length_take, List.length_take]; simp [be]; omega) (hw.sizeNew _) ?_; intro v' w2 hown2 hg2 _)
          have hw2 : Below w.heap.size w w2 := (hw.thenNew _).thenApp (hown.alloc _) hg2
          have hown3 : Own w2 w.heap.size v' (bvs (words (l.take k) ++ (be x).take (j + 1))) := by
            have e1 : (be x).take (j + 1) = (be x).take j ++ [(x >>> UInt64.ofNat (56 - 8 * j)).toUInt8] := be_take x j hjl
            have e2 : wv x / 2 ^ (8 * (7 - j)) % 256 = bv (x >>> UInt64.ofNat (56 - 8 * j)).toUInt8 := by
              rw [show 8 * (7 - j) = 56 - 8 * j by omega, wv_shr x _ (by omega), ← wv_byte, IntKind.wrap_u8]
            rw [e2] at hown2
            rw [e1, ← List.append_assoc, bvs_app _ [_]]
            exact hown2
          clear hown hown2 hg2 hw hx0 hone hc
          go_wp2_with fail
          go_roundw
          case rel => exact ⟨j + 1, by omega, congrArg _ (by omega), hown3, hw2⟩
          case measure => simp [intOf]; omega
        · obtain rfl : j = 8 := by omega
          have hown3 : Own wr w.heap.size u3 (bvs (words (l.take (k + 1)))) := by
            rw [hx.out.1, words_app]
            exact hown
          clear hown
          go_wp2_with fail
          go_roundw
          case rel => exact ⟨k + 1, by omega, by go_num, hown3, hw⟩
          case measure => simp [intOf]; omega
    · obtain rfl : k = n := by omega
      have hown3 : Own wr w.heap.size u3 (bvs (words l)) := by
        rw [List.take_of_length_le (by have := HL.out; omega)] at hown
        exact hown
      clear hown
      go_wp2
      go_ret
      exact ⟨_, rfl, hown3, hw⟩

theorem refsum_at (k0 k1 : UInt64) (v : Value) (bs : List UInt8) (w : World) (h : SliceAt w v (bvs bs)) (hl : bs.length ≤ 1000000000) :
    Calls Try.prog 58 #[.int .u64 (wv k0), .int .u64 (wv k1), v] w fun e w' => e = .returned (.int .u64 (wv (sum k0 k1 bs))) ∧ Below w.heap.size w w' := by
  obtain ⟨A, c, rfl, hc, hm, hr⟩ := h
  exact refsum_any k0 k1 A _ c bs w hr (by rw [bvs_len]; exact hl)
theorem refwords_at (v : Value) (l : List UInt64) (w : World) (h : SliceAt w v (wvs l)) (hl : l.length ≤ 1000000) :
    Calls Try.prog 49 #[v] w fun e w' => NewBytes w e w' (words l) := by
  obtain ⟨A, c, rfl, hc, hm, hr⟩ := h
  exact refwords_any A _ c l w hr (by rw [wvs_len]; exact hl)
theorem refmac_any (key : UInt64) (d : Int) (v : Value) (bs : List UInt8) (w : World) (h : SliceAt w v (bvs bs)) (hl : bs.length ≤ 1000000000) :
    Calls Try.prog 50 #[.int .u64 (wv key), .int .i64 d, v] w fun e w' => e = .returned (.int .u64 (wv (mac key d bs))) ∧ Below w.heap.size w w' := by
  have hd := wv_ofInt d
  have h1 : IntKind.u64.wrap (1 + wv (u64 d)) = wv (1 + u64 d) := wv_add 1 (u64 d)
  go_enter Try.func50, Try.ntmps50
  go_wp2_with fail
  refine (refsum_at _ _ _ bs _ h hl).mono ?_
  rintro e w1 ⟨rfl, hb⟩
  go_wp2
  go_ret
  exact ⟨rfl, hb⟩
end Go.Proofs.Ytbehdllomepkdaa
