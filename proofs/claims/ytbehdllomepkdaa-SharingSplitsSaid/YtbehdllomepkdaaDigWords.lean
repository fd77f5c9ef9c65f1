/-
  The contract of digest.Words: it returns a new slice with the bytes of the words, for every list of at most a million words.
-/
import Derived.Test.YtbehdllomepkdaaDig
namespace Go.Proofs.Ytbehdllomepkdaa
open Go.RowKit

theorem info8 : (Try.prog.info? 5).map (fun i => (i.zero, i.size, i.bytes)) = some (some (.int .u8 0), 1, 1) := by kernel_rfl
theorem info64 : (Try.prog.info? 54).map (fun i => (i.zero, i.size, i.bytes)) = some (some (.int .u64 0), 1, 8) := by kernel_rfl
theorem E8 : ElemT Try.prog 26 5 (.int .u8 0) 1 := by
  obtain ⟨i, h, h1, h2, h3⟩ := info_parts info8
  exact ⟨Try.underlying26, ⟨i, h, h1, h2, h3⟩, rfl, by decide⟩
theorem E64 : ElemT Try.prog 82 54 (.int .u64 0) 8 := by
  obtain ⟨i, h, h1, h2, h3⟩ := info_parts info64
  exact ⟨Try.underlying82, ⟨i, h, h1, h2, h3⟩, rfl, by decide⟩

theorem str_of {w : World} {v : Value} {l : List UInt8} (h : SliceAt w v (bvs l)) : (convert 26 9 v).run Try.prog w = .ok (.string ⟨l.toArray⟩) w := run_string_of h _ _ _ Try.underlying26 Try.underlying5 Try.underlying9
theorem Reads.word {w : World} {B n k : Nat} {A : Option Addr} {bs : List UInt64} (h : Reads w B A n (wvs bs)) (hl : bs.length = n) (hk : k < n) :
    ∃ ad x, A = some ad ∧ Hid (bs.take (k + 1) = bs.take k ++ [x] ∧ bs[k]? = some x) ∧ w.cell? (ad.add k) = some (.int .u64 (wv x)) := by
  obtain ⟨ad, u, e, _, hu, hc⟩ := h.at_ hk
  have hk' : k < bs.length := by omega
  refine ⟨ad, bs[k], e, ⟨List.take_succ_eq_append_getElem hk', List.getElem?_eq_getElem hk'⟩, ?_⟩
  rw [hc, ← hu]; simp [wvs, hk']

/-- What a call leaves that returns a new slice of bytes. -/
def NewBytes (w : World) (e : Ending) (w' : World) (bs : List UInt8) : Prop :=
  ∃ v, e = .returned v ∧ Own w' w.heap.size v (bvs bs) ∧ Below w.heap.size w w'

theorem be_take (x : UInt64) (j : Nat) (h : j < 8) : (be x).take (j + 1) = (be x).take j ++ [(x >>> UInt64.ofNat (56 - 8 * j)).toUInt8] := by
  match j, h with
  | 0, _ => rfl
  | 1, _ => rfl
  | 2, _ => rfl
  | 3, _ => rfl
  | 4, _ => rfl
  | 5, _ => rfl
  | 6, _ => rfl
  | 7, _ => rfl

set_option maxHeartbeats 1600000 in
theorem words_any (A : Option Addr) (n c : Nat) (l : List UInt64) (w : World) (hr : Reads w w.heap.size A n (wvs l)) (hn : n ≤ 1000000) :
    Calls Try.prog 48 #[.slice A n c] w fun e w' => NewBytes w e w' (words l) := by
  have hl : l.length = n := by have := hr.1; rw [wvs_len] at this; exact this
  have HL := Lib.hid hl; clear hl
  have HR := Lib.hid hr; clear hr
  go_enter Try.func48, Try.ntmps48
  go_wp2_with (at_make; refine wpList_mk0 _ rfl _ _ 26 rfl E8 w.heap.size _ _ _ (8 * n) rfl rfl (by omega) (by omega) (Nat.le_refl _) ?_; intro w1 hown hg1)
  have hw1 : Below w.heap.size w w1 := (Below.refl _ _).grown hg1 (Nat.le_refl _) (fun _ h => by cases h)
  clear hg1
  go_loopw [3, 13] (fun v i wr => ∃ k : Nat, k ≤ n ∧ i = .int .i64 k ∧ Own wr w.heap.size v (bvs (words (l.take k))) ∧ Below w.heap.size w wr) (fun _ i _ => n - (intOf i).toNat)
  case atStart => exact ⟨0, Nat.zero_le _, rfl, hown, hw1⟩
  case round =>
    clear hown hw1 w1
    obtain ⟨k, hk, rfl, hown, hw⟩ := hrel
    by_cases hlt : k < n
    · obtain ⟨ad, x, rfl, hx, hc⟩ := (HR.out.below hw).word HL.out hlt
      go_wp2_with fail
      clear hc
      obtain ⟨wo, rfl⟩ : ∃ wo : World, wo = wr := ⟨_, rfl⟩
      go_loopw [3, 17] (fun v i wr => ∃ j : Nat, j ≤ 8 ∧ i = .int .i64 j ∧ Own wr w.heap.size v (bvs (words (l.take k) ++ (be x).take j)) ∧ Below w.heap.size w wr) (fun _ i _ => 8 - (intOf i).toNat)
      case atStart => exact ⟨0, Nat.zero_le _, rfl, by simpa using hown, hw⟩
      case round =>
        clear hown hw
        obtain ⟨j, hj, rfl, hown, hw⟩ := hrel
        by_cases hjl : j < 8
        · have hx0 := wv_nn x
          have hz1 : w.heap.size ≤ wr.heap.size + 1 := by have := hw.size; omega
          have hone : ∀ u ∈ [Value.int .u8 (wv x / 2 ^ (56 - 8 * j) % 256)], u.oneCell' = true := by simp [Value.oneCell']
          go_wp2_with (at_builtin; refine wpList_app _ rfl _ _ 26 rfl E8 w.heap.size _ _ rfl (hown.alloc _) _ [.int .u8 (wv x / 2 ^ (56 - 8 * j) % 256)] rfl (SliceAt.one _ _ _) hone (by rw [bvs_len, List.length_append, words_len, List.length_take, List.length_take]; simp [be]; omega) (by simpa using hz1) ?_; intro v' w2 hown2 hg2 _)
          have hw2 : Below w.heap.size w w2 := (hw.alloc hw.size _).grown hg2 (by have := hw.size; simp; omega) (fun k' h => (hown.lt k' h).1)
          have hown3 : Own w2 w.heap.size v' (bvs (words (l.take k) ++ (be x).take (j + 1))) := by
            have e1 : (be x).take (j + 1) = (be x).take j ++ [(x >>> UInt64.ofNat (56 - 8 * j)).toUInt8] := be_take x j hjl
            have e2 : wv x / 2 ^ (56 - 8 * j) % 256 = bv (x >>> UInt64.ofNat (56 - 8 * j)).toUInt8 := by
              rw [wv_shr x _ (by omega), ← wv_byte, IntKind.wrap_u8]
            rw [e2] at hown2
            rw [e1, ← List.append_assoc, bvs_app _ [_]]
            exact hown2
          clear hown hown2 hg2 hw hx0
          go_wp2_with fail
          go_roundw
          case rel => exact ⟨j + 1, by omega, by go_num, hown3, hw2⟩
          case measure => simp [intOf]; omega
        · obtain rfl : j = 8 := by omega
          have hown3 : Own wr w.heap.size u3 (bvs (words (l.take (k + 1)))) := by
            rw [hx.out.1, words_app]
            exact hown
          clear hown
          go_wp2_with fail
          go_roundw
          case rel => exact ⟨k + 1, by omega, by go_num, hown3, hw⟩
          case measure => simp [intOf]; omega
    · obtain rfl : k = n := by omega
      have hown3 : Own wr w.heap.size u3 (bvs (words l)) := by
        rw [List.take_of_length_le (by have := HL.out; omega)] at hown
        exact hown
      clear hown
      go_wp2
      go_ret
      exact ⟨_, rfl, hown3, hw⟩
end Go.Proofs.Ytbehdllomepkdaa
