/-
  The laws of layer 2: each returns true at every input.
-/
import Derived.Test.YtmoeabifkbahbaaRefUse
namespace Go.Proofs.Ytmoeabifkbahbaa
open Go.RowKit

def upTo (n : Nat) : List UInt8 := (List.range n).map UInt8.ofNat
theorem upTo_succ (n : Nat) : upTo (n + 1) = upTo n ++ [UInt8.ofNat n] := by simp [upTo, List.range_succ]
theorem upTo_len (n : Nat) : (upTo n).length = n := by simp [upTo]
theorem vector : sum 506097522914230528 1084818905618843912 (upTo 15) = 11613035633349379557 := by decide +kernel

set_option maxHeartbeats 1600000 in
theorem awake2_any (w : World) : Calls Try.prog 14 #[] w fun e w' => e = .returned (.bool true) ∧ Below w.heap.size w w' := by
  go_enter Try.func14, Try.ntmps14
  go_wp2_with fail
  go_loopw [1, 2] (fun v i wr => ∃ k : Nat, k ≤ 15 ∧ i = .int .i64 k ∧ Own wr w.heap.size v (bvs (upTo k)) ∧ Below w.heap.size w wr) (fun _ i _ => 15 - (intOf i).toNat)
  case atStart => exact ⟨0, Nat.zero_le _, rfl, Own.nil _ _, Below.refl _ _⟩
  case round =>
    obtain ⟨k, hk, rfl, hown, hw⟩ := hrel
    by_cases hlt : k < 15
    · have hbk : Hid ((k : Int) = bv (UInt8.ofNat k)) := by unfold bv; rw [UInt8.toNat_ofNat_of_lt' (by show k < 2 ^ 8; omega)]; exact rfl
      go_wp2_with (at_builtin; refine wpList_app _ rfl (.tmp 7) (.tmp 10) 23 rfl E8 w.heap.size u1 _ rfl (hown.alloc _) _ (bvs [UInt8.ofNat k]) rfl (by rw [hbk.out]; exact SliceAt.one _ _ _) (bvs_one _) (by rw [bvs_len, upTo_len, bvs_len]; simp; omega) (hw.sizeNew _) ?_; intro v' w2 hown2 hg2 _)
      have hw2 : Below w.heap.size w w2 := (hw.thenNew _).thenApp (hown.alloc _) hg2
      rw [← bvs_app, ← upTo_succ] at hown2
      clear hown hw hg2 hbk
      go_wp2_with fail
      go_roundw
      case rel => exact ⟨k + 1, by omega, by go_num, hown2, hw2⟩
      case measure => simp [intOf]; omega
    · obtain rfl : k = 15 := by omega
      have hv : (wv (sum 506097522914230528 1084818905618843912 (upTo 15)) == 11613035633349379557) = true := by rw [vector]; decide
      go_wp2_with (first
        | (go_at_call 15; refine (sum_at 506097522914230528 1084818905618843912 _ _ _ hown.reads).mono ?_; rintro e w2 ⟨rfl, hw2⟩)
        | (go_at_call 17; refine (words_at _ [1] _ (SliceAt.one _ _ _) (by simp)).mono ?_; rintro e w3 ⟨v3, rfl, ho3, hw3⟩; have hs3 := run_string_of (P := Try.prog) ho3.reads 23 9 5 Try.underlying23 Try.underlying5 Try.underlying9))
      go_ret
      exact ⟨ret_bool (by decide), ((hw.thenCall hw2).thenNew _).thenCall hw3⟩

/-- A slice of bytes that came in. -/
theorem row_bytes {w : World} {a : Option Addr} {len cap : Nat} {zs : List Int}
    (h : (a = none ∧ len = 0 ∧ cap = 0 ∧ zs = []) ∨ ∃ x, a = some x ∧ len ≤ cap ∧ cap ≤ maxLen ∧ zs.length = cap ∧ (∀ i, i < zs.length → w.cell? (x.add i) = some (.int .u8 (zs.getD i 0))) ∧ ∀ n ∈ zs, (Lit.int .u8 n).wf = true) :
    ∃ bs : List UInt8, bs.length = len ∧ SliceAt w (.slice a len cap) (bvs bs) := by
  rcases h with ⟨rfl, rfl, rfl, rfl⟩ | ⟨x, rfl, hlc, hcm, hz, hcell, hwf⟩
  · exact ⟨[], rfl, SliceAt.nil w⟩
  · obtain ⟨l, hl, rfl⟩ := bytes_of zs hwf
    have hlen : (l.take len).length = len := by rw [List.length_take]; omega
    refine ⟨l.take len, hlen, some x, cap, by rw [bvs_len, hlen], by rw [bvs_len, hlen]; exact hlc, hcm, by rw [bvs_len], fun h0 => ⟨x, rfl, ?_, fun j u hu => ?_⟩⟩
    · rw [bvs_len, hlen] at h0
      have h1 := World.block_lt_of_cell? w _ (hcell 0 (by omega))
      rw [block_of_add] at h1; exact h1
    · have hj : j < len := by
        have := (List.getElem?_eq_some_iff.1 hu).1
        rw [bvs_len, hlen] at this; exact this
      rw [hcell j (by omega)]
      rw [bvs_at _ _ (by omega)] at hu
      rw [← hu]
      have : j < l.length := by simp at hz; omega
      simp [this, hj]
theorem row_words {w : World} {a : Option Addr} {len cap : Nat} {zs : List Int}
    (h : (a = none ∧ len = 0 ∧ cap = 0 ∧ zs = []) ∨ ∃ x, a = some x ∧ len ≤ cap ∧ cap ≤ maxLen ∧ zs.length = cap ∧ (∀ i, i < zs.length → w.cell? (x.add i) = some (.int .u64 (zs.getD i 0))) ∧ ∀ n ∈ zs, (Lit.int .u64 n).wf = true) :
    ∃ bs : List UInt64, bs.length = len ∧ SliceAt w (.slice a len cap) (wvs bs) := by
  rcases h with ⟨rfl, rfl, rfl, rfl⟩ | ⟨x, rfl, hlc, hcm, hz, hcell, hwf⟩
  · exact ⟨[], rfl, SliceAt.nil w⟩
  · obtain ⟨l, hl, rfl⟩ := words_of zs hwf
    have hlen : (l.take len).length = len := by rw [List.length_take]; omega
    refine ⟨l.take len, hlen, some x, cap, by rw [wvs_len, hlen], by rw [wvs_len, hlen]; exact hlc, hcm, by rw [wvs_len], fun h0 => ⟨x, rfl, ?_, fun j u hu => ?_⟩⟩
    · rw [wvs_len, hlen] at h0
      have h1 := World.block_lt_of_cell? w _ (hcell 0 (by omega))
      rw [block_of_add] at h1; exact h1
    · have hj : j < len := by
        have := (List.getElem?_eq_some_iff.1 hu).1
        rw [wvs_len, hlen] at this; exact this
      rw [hcell j (by omega)]
      rw [wvs_at _ _ (by omega)] at hu
      rw [← hu]
      have : j < l.length := by simp at hz; omega
      simp [this, hj]

set_option maxHeartbeats 400000 in
theorem digestSums_law (k0 k1 : UInt64) (a : Option Addr) (n c : Nat) (bs : List UInt8) (hl : bs.length = n) (w : World) (h : SliceAt w (.slice a n c) (bvs bs)) :
    Calls Try.prog 3 #[.int .u64 (wv k0), .int .u64 (wv k1), .slice a n c] w fun e w' => e = .returned (.bool true) ∧ Below w.heap.size w w' := by
  have HL := Lib.hid hl; clear hl
  have hm : n ≤ maxLen := by have := h.len; rw [bvs_len, HL.out] at this; exact this
  unfold maxLen at hm
  by_cases hn : 1000 < n
  · go_enter Try.func3, Try.ntmps3
    go_wp2_with (go_at_call 14; refine (awake2_any _).mono ?_; rintro e w1 ⟨rfl, hw1⟩)
    go_ret
    exact ⟨rfl, hw1⟩
  · go_enter Try.func3, Try.ntmps3
    go_wp2_with (first
      | (go_at_call 15; refine (sum_at _ _ _ bs _ h).mono ?_; rintro e w1 ⟨rfl, hw1⟩)
      | (go_at_call 16; refine (refsum_at _ _ _ bs _ (h.below hw1) (by have := HL.out; omega)).mono ?_; rintro e w2 ⟨rfl, hw2⟩)
      | (go_at_call 14; refine (awake2_any _).mono ?_; rintro e w3 ⟨rfl, hw3⟩))
    go_ret
    exact ⟨rfl, (hw1.thenCall hw2).thenCall hw3⟩
end Go.Proofs.Ytmoeabifkbahbaa
