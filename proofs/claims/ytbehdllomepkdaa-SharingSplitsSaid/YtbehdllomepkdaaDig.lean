/-
  The contracts of digest's absorb, little and Sum: each returns what the plain functions of PlainDig compute, for every input. No condition.
-/
import Derived.Test.YtbehdllomepkdaaDigRounds
import Derived.Test.YtbehdllomepkdaaOwn
namespace Go.Proofs.Ytbehdllomepkdaa
open Go.RowKit

set_option maxHeartbeats 400000 in
theorem absorb_any (s : St) (g : Nat) (m : UInt64) (w : World) (hb : Blk w g 85 s.cells) :
    Calls Try.prog 60 #[.pointer (some ⟨g, 0, none⟩), .int .u64 (wv m)] w fun e w' => e = .returned (.tuple #[]) ∧ Blk w' g 85 (absorb s m).cells ∧ w.grownBy w' (some g) := by
  obtain ⟨v0, v1, v2, v3⟩ := s
  replace hb : Blk w g 85 #[.int .u64 (wv v0), .int .u64 (wv v1), .int .u64 (wv v2), .int .u64 (wv v3)] := hb
  have c3 : w.cell? ⟨g, 3, none⟩ = some (.int .u64 (wv v3)) := hb.cell 3
  have f3 : w.frozen? ⟨g, 3, none⟩ = false := hb.frozen 3
  have hx := wv_xor v3 m
  go_enter Try.func60, Try.ntmps60
  go_wp2_with fail
  have h1 : Blk (w.setCell ⟨g, 3, none⟩ (.int .u64 (wv (v3 ^^^ m)))) g 85 (xor3 ⟨v0, v1, v2, v3⟩ m).cells := set4_3 hb _
  refine (rounds_any (xor3 ⟨v0, v1, v2, v3⟩ m) g 2 (by decide) _ h1).mono ?_
  rintro e w1 ⟨rfl, h2, h3⟩
  clear hx c3 f3
  obtain ⟨t, ht⟩ : ∃ t, Hid (t = rnds 2 (xor3 ⟨v0, v1, v2, v3⟩ m)) := ⟨_, Lib.hid rfl⟩
  rw [← ht.out] at h2
  obtain ⟨u0, u1, u2, u3⟩ := t
  replace h2 : Blk w1 g 85 #[.int .u64 (wv u0), .int .u64 (wv u1), .int .u64 (wv u2), .int .u64 (wv u3)] := h2
  have c0 : w1.cell? ⟨g, 0, none⟩ = some (.int .u64 (wv u0)) := h2.cell 0
  have f0 : w1.frozen? ⟨g, 0, none⟩ = false := h2.frozen 0
  have hx := wv_xor u0 m
  have h4 : Blk (w1.setCell ⟨g, 0, none⟩ (.int .u64 (wv (u0 ^^^ m)))) g 85 (absorb ⟨v0, v1, v2, v3⟩ m).cells := by
    unfold absorb; rw [← ht.out]; exact set4_0 h2 _
  have h5 : w.grownBy (w1.setCell ⟨g, 0, none⟩ (.int .u64 (wv (u0 ^^^ m)))) (some g) :=
    only_setCell (g := g) (only_trans (only_setCell (g := g) (World.grownBy.refl w _) (.inl rfl) _) h3) (.inl rfl) _
  go_wp2
  go_end0
  exact ⟨rfl, h4, h5⟩

theorem Reads.byte {w : World} {B n k : Nat} {A : Option Addr} {bs : List UInt8} (h : Reads w B A n (bvs bs)) (hl : bs.length = n) (hk : k < n) :
    ∃ ad x, A = some ad ∧ Hid (bs.take (k + 1) = bs.take k ++ [x] ∧ bs[k]? = some x) ∧ w.cell? (ad.add k) = some (.int .u8 (bv x)) := by
  obtain ⟨ad, u, e, _, hu, hc⟩ := h.at_ hk
  have hk' : k < bs.length := by omega
  refine ⟨ad, bs[k], e, ⟨List.take_succ_eq_append_getElem hk', List.getElem?_eq_getElem hk'⟩, ?_⟩
  rw [hc, ← hu]; simp [bvs, hk']

set_option maxHeartbeats 400000 in
theorem little_any (A : Option Addr) (n c : Nat) (bs : List UInt8) (B : Nat) (w : World) (hr : Reads w B A n (bvs bs)) (hn : n ≤ 8) :
    Calls Try.prog 61 #[.slice A n c] w fun e w' => e = .returned (.int .u64 (wv (le bs))) ∧ w = w' := by
  have hl : bs.length = n := by have := hr.1; rw [bvs_len] at this; exact this
  have HL := Lib.hid hl; clear hl
  go_enter Try.func61, Try.ntmps61
  go_wp2
  go_loop [3, 4, 5, 8] (fun m _ _ i => ∃ k : Nat, k ≤ n ∧ i = .int .i64 k ∧ m = .int .u64 (wv (le (bs.take k)))) (fun _ _ _ i => n - (intOf i).toNat)
  case atStart => exact ⟨0, Nat.zero_le _, rfl, rfl⟩
  case round =>
    obtain ⟨k, hk, rfl, rfl⟩ := hrel
    by_cases hlt : k < n
    · obtain ⟨ad, x, rfl, hx, hc⟩ := hr.byte HL.out hlt
      have hx0 := bv_nn x
      have hx1 := bv_lt x
      clear hr
      go_wp2
      go_round
      case rel =>
        refine ⟨k + 1, by omega, by go_num, ?_⟩
        rw [hx.out.1, le_snoc _ _ (by simp; omega), ← wv_or, ← wv_shl _ _ (by simp; omega), ← bv_wv, List.length_take, HL.out, Nat.min_eq_left (by omega)]
      case measure => simp [intOf]; omega
    · go_wp2
      go_ret
      exact ⟨by rw [List.take_of_length_le (by have := HL.out; omega)]; rfl, rfl⟩

set_option maxHeartbeats 1600000 in
theorem sum_any (k0 k1 : UInt64) (A : Option Addr) (n c : Nat) (bs : List UInt8) (w : World) (hr : Reads w w.heap.size A n (bvs bs)) (hnc : n ≤ c) (hcm : c ≤ maxLen) :
    Calls Try.prog 57 #[.int .u64 (wv k0), .int .u64 (wv k1), .slice A n c] w fun e w' => e = .returned (.int .u64 (wv (sum k0 k1 bs))) ∧ Below w.heap.size w w' := by
  have hl : bs.length = n := by have := hr.1; rw [bvs_len] at this; exact this
  have HL := Lib.hid hl; clear hl
  unfold maxLen at hcm
  have HR := Lib.hid hr; clear hr
  have e0 : bits BinOp.xor IntKind.u64 (wv k0) 8317987319222330741 = wv (k0 ^^^ 8317987319222330741) := wv_xor k0 8317987319222330741
  have e1 : bits BinOp.xor IntKind.u64 (wv k1) 7237128888997146477 = wv (k1 ^^^ 7237128888997146477) := wv_xor k1 7237128888997146477
  have e2 : bits BinOp.xor IntKind.u64 (wv k0) 7816392313619706465 = wv (k0 ^^^ 7816392313619706465) := wv_xor k0 7816392313619706465
  have e3 : bits BinOp.xor IntKind.u64 (wv k1) 8387220255154660723 = wv (k1 ^^^ 8387220255154660723) := wv_xor k1 8387220255154660723
  go_enter Try.func57, Try.ntmps57
  go_wp2_with fail
  clear e0 e1 e2 e3
  have hb1 : Blk (w.alloc (.cells #[.int .u64 (wv (k0 ^^^ 8317987319222330741)), .int .u64 (wv (k1 ^^^ 7237128888997146477)), .int .u64 (wv (k0 ^^^ 7816392313619706465)), .int .u64 (wv (k1 ^^^ 8387220255154660723))] 85)) w.heap.size 85 (absN k0 k1 bs 0).cells := Blk.new w _ _
  have hw1 : Below w.heap.size w (w.alloc (.cells #[.int .u64 (wv (k0 ^^^ 8317987319222330741)), .int .u64 (wv (k1 ^^^ 7237128888997146477)), .int .u64 (wv (k0 ^^^ 7816392313619706465)), .int .u64 (wv (k1 ^^^ 8387220255154660723))] 85)) := (Below.refl _ _).alloc (Nat.le_refl _) _
  revert hb1 hw1
  generalize w.alloc (.cells #[.int .u64 (wv (k0 ^^^ 8317987319222330741)), .int .u64 (wv (k1 ^^^ 7237128888997146477)), .int .u64 (wv (k0 ^^^ 7816392313619706465)), .int .u64 (wv (k1 ^^^ 8387220255154660723))] 85) = w1
  intro hb1 hw1
  obtain ⟨g, hg⟩ : ∃ g, Hid (g = w.heap.size) := ⟨_, Lib.hid rfl⟩
  rw [← hg.out] at hb1 ⊢
  go_loopw [9, 23] (fun _ i wr => ∃ k : Nat, k ≤ n / 8 ∧ i = .int .i64 k ∧ Blk wr g 85 (absN k0 k1 bs k).cells ∧ Below w.heap.size w wr) (fun _ i _ => n / 8 - (intOf i).toNat)
  case atStart => exact ⟨0, Nat.zero_le _, rfl, hb1, hw1⟩
  case round =>
    clear hb1 hw1 w1
    obtain ⟨k, hk, rfl, hb, hw⟩ := hrel
    by_cases hlt : k < n / 8
    · have hr := HR.out.below hw
      obtain ⟨ad, rfl, -, -⟩ := hr.2 (by omega)
      have hr2 : Reads wr w.heap.size (some (ad.add (8 * k))) 8 (bvs ((bs.drop (8 * k)).take 8)) := by
        have h1 := (hr.drop (k := 8 * k) (by omega) hnc).take (k := 8) (by omega)
        rw [if_neg (by omega)] at h1
        rw [bvs_take, bvs_drop]; exact h1
      clear hr
      go_wp2_with fail
      refine (little_any _ _ _ ((bs.drop (8 * k)).take 8) _ _ hr2 (by decide)).mono ?_
      rintro e w1 ⟨rfl, rfl⟩
      clear hr2
      go_wp2_with fail
      refine (absorb_any _ _ _ _ hb).mono ?_
      rintro e w1 ⟨rfl, hb2, hg2⟩
      clear hb
      go_wp2_with fail
      go_roundw
      case rel => exact ⟨k + 1, by omega, by go_num, hb2, hw.trans (only_below hg2 (by rw [hg.out]; exact Nat.le_refl _) hw.size)⟩
      case measure => simp [intOf]; omega
    · have hr := HR.out.below hw
      have hd1 : c = 8 * (n / 8) → Reads wr w.heap.size A (n - 8 * (n / 8)) (bvs (bs.drop (8 * (n / 8)))) := fun hc => by
        have h1 := hr.drop (k := 8 * (n / 8)) (by omega) hnc
        rw [if_pos hc] at h1
        rw [bvs_drop]; exact h1
      have hd2 : ¬ c = 8 * (n / 8) → Reads wr w.heap.size (A.map (·.add (8 * (n / 8)))) (n - 8 * (n / 8)) (bvs (bs.drop (8 * (n / 8)))) := fun hc => by
        have h1 := hr.drop (k := 8 * (n / 8)) (by omega) hnc
        rw [if_neg hc] at h1
        rw [bvs_drop]; exact h1
      have H1 := Lib.hid hd1
      have H2 := Lib.hid hd2
      clear hd1 hd2 hr HR
      obtain rfl : k = n / 8 := by omega
      have HLW : Hid (bits BinOp.or IntKind.u64 (wv (le (bs.drop (8 * (n / 8))))) (IntKind.u64.wrap (↑n * 72057594037927936)) = wv (lastWord bs)) := by
        have h1 : (n : Int) = wv (UInt64.ofNat n) := wv_lit n (by omega)
        have h2 := wv_shl (UInt64.ofNat n) 56 (by decide)
        unfold lastWord
        rw [HL.out, ← wv_or, h1]
        exact congrArg _ h2
      go_wp2_with fail
      all_goals
        refine (little_any _ _ _ (bs.drop (8 * (n / 8))) _ _ (by first | exact H1.out ‹_› | exact H2.out ‹_›) (by omega)).mono ?_
        rintro e w1 ⟨rfl, rfl⟩
        clear H1 H2
        go_wp2_with fail
        rw [HLW.out]
        refine (absorb_any _ _ _ _ hb).mono ?_
        rintro e w1 ⟨rfl, hb2, hg2⟩
        clear hb
        have hw1 : Below w.heap.size w w1 := hw.trans (only_below hg2 (by rw [hg.out]; exact Nat.le_refl _) hw.size)
        obtain ⟨t, ht⟩ : ∃ t, Hid (t = absorb (absN k0 k1 bs (n / 8)) (lastWord bs)) := ⟨_, Lib.hid rfl⟩
        rw [← ht.out] at hb2
        obtain ⟨t0, t1, t2, t3⟩ := t
        replace hb2 : Blk w1 g 85 #[.int .u64 (wv t0), .int .u64 (wv t1), .int .u64 (wv t2), .int .u64 (wv t3)] := hb2
        have c2 : w1.cell? ⟨g, 2, none⟩ = some (.int .u64 (wv t2)) := hb2.cell 2
        have f2 : w1.frozen? ⟨g, 2, none⟩ = false := hb2.frozen 2
        have e2 : bits BinOp.xor IntKind.u64 (wv t2) 255 = wv (t2 ^^^ 255) := wv_xor t2 255
        have hb3 : Blk (w1.setCell ⟨g, 2, none⟩ (.int .u64 (wv (t2 ^^^ 255)))) g 85 (xor2 ⟨t0, t1, t2, t3⟩ 255).cells := set4_2 hb2 _
        have hw3 : Below w.heap.size w (w1.setCell ⟨g, 2, none⟩ (.int .u64 (wv (t2 ^^^ 255)))) := hw1.setCell (by rw [hg.out]; exact Nat.le_refl _) _
        go_wp2_with fail
        clear c2 f2 e2
        refine (rounds_any _ g 4 (by decide) _ hb3).mono ?_
        rintro e w2 ⟨rfl, hb4, hg4⟩
        have hw4 : Below w.heap.size w w2 := hw3.trans (only_below hg4 (by rw [hg.out]; exact Nat.le_refl _) hw3.size)
        have hfin : Hid (wv (sum k0 k1 bs) = wv (finD ⟨t0, t1, t2, t3⟩)) := by
          unfold sum; rw [HL.out, ← ht.out]; rfl
        obtain ⟨s, hs⟩ : ∃ s, Hid (s = rnds 4 (xor2 ⟨t0, t1, t2, t3⟩ 255)) := ⟨_, Lib.hid rfl⟩
        have hfin2 : Hid (finD ⟨t0, t1, t2, t3⟩ = s.v0 ^^^ s.v1 ^^^ s.v2 ^^^ s.v3) := by unfold finD; rw [← hs.out]; rfl
        rw [← hs.out] at hb4
        obtain ⟨s0, s1, s2, s3⟩ := s
        replace hb4 : Blk w2 g 85 #[.int .u64 (wv s0), .int .u64 (wv s1), .int .u64 (wv s2), .int .u64 (wv s3)] := hb4
        have c0 : w2.cell? ⟨g, 0, none⟩ = some (.int .u64 (wv s0)) := hb4.cell 0
        have c1 : w2.cell? ⟨g, 1, none⟩ = some (.int .u64 (wv s1)) := hb4.cell 1
        have c2 : w2.cell? ⟨g, 2, none⟩ = some (.int .u64 (wv s2)) := hb4.cell 2
        have c3 : w2.cell? ⟨g, 3, none⟩ = some (.int .u64 (wv s3)) := hb4.cell 3
        clear hb2 hb3 hb4
        go_wp2
        go_ret
        exact ⟨ret_int (by rw [wv_xor, wv_xor, wv_xor, hfin.out, hfin2.out]), hw4⟩
end Go.Proofs.Ytbehdllomepkdaa
