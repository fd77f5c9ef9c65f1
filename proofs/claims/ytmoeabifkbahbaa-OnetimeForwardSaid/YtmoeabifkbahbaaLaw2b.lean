/-
  The laws DigestUses and DigestTail: each returns true at every input.
-/
import Derived.Test.YtmoeabifkbahbaaLaw2
import Derived.Test.YtmoeabifkbahbaaApp0
namespace Go.Proofs.Ytmoeabifkbahbaa
open Go.RowKit

set_option maxHeartbeats 800000 in
theorem digestUses_law (key : UInt64) (d : Int) (a : Option Addr) (n c : Nat) (bs : List UInt8) (s : ByteArray) (m : Int) (hl : bs.length = n) (hs : s.size ≤ maxLen) (w : World) (h : SliceAt w (.slice a n c) (bvs bs)) :
    Calls Try.prog 6 #[.int .u64 (wv key), .int .i64 d, .slice a n c, .string s, .int .i64 m] w fun e w' => e = .returned (.bool true) ∧ Below w.heap.size w w' := by
  have HL := Lib.hid hl; clear hl
  have hm : n ≤ maxLen := by have := h.len; rw [bvs_len, HL.out] at this; exact this
  unfold maxLen at hm hs
  by_cases hn : 1000 < n
  · go_enter Try.func6, Try.ntmps6
    go_wp2_with (go_at_call 14; refine (awake2_any _).mono ?_; rintro e w1 ⟨rfl, hw1⟩)
    go_ret
    exact ⟨rfl, hw1⟩
  · by_cases hs3 : 300 < s.size
    · go_enter Try.func6, Try.ntmps6
      go_wp2_with (go_at_call 14; refine (awake2_any _).mono ?_; rintro e w1 ⟨rfl, hw1⟩)
      go_ret
      exact ⟨rfl, hw1⟩
    · have hd := wv_ofInt d
      have hk : IntKind.u64.wrap (1 + wv (u64 d)) = wv (1 + u64 d) := wv_add 1 (u64 d)
      have e1 : (wv (hash d bs) == wv (sum (u64 d) 0 bs)) = true := by unfold hash; simp
      have e2 : (wv (mac key d bs) == wv (sum key (1 + u64 d) bs)) = true := by unfold mac; simp
      go_enter Try.func6, Try.ntmps6
      go_wp2_with fail
      refine (hash_any _ _ bs _ h).mono ?_; rintro e w1 ⟨rfl, hw1⟩
      go_wp2_with fail
      refine (sum_at _ 0 _ bs _ (h.below hw1)).mono ?_; rintro e w2 ⟨rfl, hw2⟩
      replace hw2 := hw1.thenCall hw2
      clear hw1
      go_wp2_with fail
      refine (mac_any _ _ _ bs _ (h.below hw2)).mono ?_; rintro e w3 ⟨rfl, hw3⟩
      replace hw3 := hw2.thenCall hw3
      clear hw2
      go_wp2_with fail
      refine (sum_at _ _ _ bs _ (h.below hw3)).mono ?_; rintro e w4 ⟨rfl, hw4⟩
      replace hw4 := hw3.thenCall hw4
      clear hw3
      go_wp2_with fail
      refine (derive_any _ s _ _ (by omega)).mono ?_; rintro e w5 ⟨rfl, hw5⟩
      replace hw5 := hw4.thenCall hw5
      clear hw4
      go_wp2_with fail
      refine (refderive_any _ s _ _ (by omega)).mono ?_; rintro e w6 ⟨rfl, hw6⟩
      replace hw6 := hw5.thenCall hw6
      clear hw5
      go_wp2_with fail
      refine (awake2_any _).mono ?_; rintro e w7 ⟨rfl, hw7⟩
      go_wp2
      go_ret
      exact ⟨rfl, hw6.thenCall hw7⟩

theorem byte_of (n : Int) (h : (Lit.int .u8 n).wf = true) : ∃ x : UInt8, n = bv x := by
  have hb : 0 ≤ n ∧ n ≤ 255 := by simpa [Lit.wf, IntKind.min, IntKind.max, IntKind.signed, IntKind.bits] using h
  exact ⟨_, (bv_of hb.1 (by omega)).symm⟩
theorem bvs_rep (m : Nat) : List.replicate m (Value.int .u8 0) = bvs (List.replicate m 0) := by unfold bvs; rw [List.map_replicate]; rfl
set_option maxRecDepth 20000 in
set_option maxHeartbeats 800000 in
theorem digestTail_law (key : UInt64) (a : Option Addr) (n c : Nat) (bs : List UInt8) (x : UInt8) (hl : bs.length = n) (w : World) (h : SliceAt w (.slice a n c) (bvs bs)) :
    Calls Try.prog 5 #[.int .u64 (wv key), .slice a n c, .int .u8 (bv x)] w fun e w' => e = .returned (.bool true) ∧ Below w.heap.size w w' := by
  have HL := Lib.hid hl; clear hl
  have hm : n ≤ maxLen := by have := h.len; rw [bvs_len, HL.out] at this; exact this
  unfold maxLen at hm
  by_cases hn : 24 < n
  · go_enter Try.func5, Try.ntmps5
    go_wp2_with (go_at_call 14; refine (awake2_any _).mono ?_; rintro e w1 ⟨rfl, hw1⟩)
    go_ret
    exact ⟨rfl, hw1⟩
  · have hx0 := bv_nn x
    have hx1 := bv_lt x
    go_enter Try.func5, Try.ntmps5
    go_wp2_with (first
      | (at_builtin; refine wpList_app _ rfl (.const (.slice none 0 0)) (.tmp 12) 23 rfl E8 w.heap.size _ [] rfl (Own.nil _ _) _ _ rfl h (bvs_one _) (by rw [bvs_len, HL.out]; simp; omega) (Nat.le_refl _) ?_; intro v1 w1 ho1 hg1 _; have hw1 : Below w.heap.size w w1 := (Below.refl _ _).thenApp (Own.nil _ _) hg1; clear hg1)
      | (at_builtin; refine wpList_app0 _ rfl (.tmp 13) (.tmp 15) 23 5 rfl E8 Try.underlying5 w.heap.size v1 _ rfl ho1 _ (x.toNat % 17) rfl (by show _ = _; unfold bv; omega) rfl (by rw [List.length_append, bvs_len, HL.out]; simp; omega) hw1.size ?_; intro v2 w2 ho2 hg2 _))
    have hw2 := hw1.thenApp ho1 hg2
    have hc2 : Own w2 w.heap.size v2 (bvs (bs ++ List.replicate (x.toNat % 17) 0)) := by
      rw [bvs_app, ← bvs_rep]; exact ho2
    clear ho1 ho2 hg2 hw1 hx0 hx1
    have hlc : (bs ++ List.replicate (x.toNat % 17) (0 : UInt8)).length ≤ 1000000000 := by rw [List.length_append, HL.out]; simp; omega
    generalize bs ++ List.replicate (x.toNat % 17) (0 : UInt8) = cs at hc2 hlc
    refine (mac_any _ _ _ bs _ (h.below hw2)).mono ?_; rintro e w3 ⟨rfl, hw3⟩
    replace hc2 := hc2.below hw3 (Nat.le_refl _)
    replace hw3 := hw2.thenCall hw3
    clear hw2
    go_wp2_with fail
    refine (refmac_any _ _ _ bs _ (h.below hw3) (by have := HL.out; omega)).mono ?_; rintro e w4 ⟨rfl, hw4⟩
    replace hc2 := hc2.below hw4 (Nat.le_refl _)
    replace hw4 := hw3.thenCall hw4
    clear hw3
    go_wp2_with fail
    refine (mac_any _ _ _ cs _ hc2.reads).mono ?_; rintro e w5 ⟨rfl, hw5⟩
    replace hc2 := hc2.below hw5 (Nat.le_refl _)
    replace hw5 := hw4.thenCall hw5
    clear hw4
    go_wp2_with fail
    refine (refmac_any _ _ _ cs _ hc2.reads hlc).mono ?_; rintro e w6 ⟨rfl, hw6⟩
    replace hw6 := hw5.thenCall hw6
    clear hw5
    go_wp2_with fail
    refine (awake2_any _).mono ?_; rintro e w7 ⟨rfl, hw7⟩
    go_wp2
    go_ret
    exact ⟨rfl, hw6.thenCall hw7⟩
end Go.Proofs.Ytmoeabifkbahbaa
