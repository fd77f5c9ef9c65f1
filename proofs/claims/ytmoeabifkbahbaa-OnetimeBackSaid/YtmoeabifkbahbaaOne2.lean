/-
  The contracts of onetime.Split, passkeyref3.Split and of the comparison of two lists of ints that are equal. No condition.
-/
import Derived.Test.YtmoeabifkbahbaaOne1
import Derived.Deep.QuietTactic
import Derived.BigQuiet
namespace Go.Proofs.Ytmoeabifkbahbaa
open Go.RowKit

theorem infoI : (Try.prog.info? 3).map (fun i => (i.zero, i.size, i.bytes)) = some (some (.int .i64 0), 1, 8) := by kernel_rfl
theorem EI : ElemT Try.prog 36 3 (.int .i64 0) 8 := by
  obtain ⟨i, h, h1, h2, h3⟩ := info_parts infoI
  exact ⟨Try.underlying36, ⟨i, h, h1, h2, h3⟩, rfl, by decide⟩
theorem SliceAt.two (w : World) (u v : Value) (e : TypeId) : SliceAt (w.alloc (.cells #[u, v] e)) (.slice (some ⟨w.heap.size, 0, none⟩) 2 2) [u, v] := SliceAt.new w #[u, v] e (by show 2 ≤ maxLen; unfold maxLen; omega)
def NewSlice (w : World) (e : Ending) (w' : World) (xs : List Value) : Prop :=
  ∃ v, e = .returned v ∧ Own w' w.heap.size v xs ∧ Below w.heap.size w w'

set_option maxHeartbeats 800000 in
theorem split_any (m : UInt64) (w : World) :
    Calls Try.prog 25 #[.int .u64 (wv m)] w fun e w' => NewSlice w e w' (ivs (digs m)) := by
  have hsz : Hid ((ivs (digs m)).toArray.size = 18) := by show _ = _; simp [ivs, digs]
  have hone : Hid ((ivs (digs m)).toArray.all (·.oneCell') = true) := by show _ = _; rw [Array.all_eq_true']; intro u hu; exact ivs_one _ u (by simpa using hu)
  obtain ⟨cs, hcs⟩ : ∃ cs, Hid (cs = (ivs (digs m)).toArray) := ⟨_, Lib.hid rfl⟩
  have hsz2 : Hid (cs.size = 18) := by show _ = _; rw [hcs.out, hsz.out]
  go_enter Try.func25, Try.ntmps25
  go_wp2_with fail
  refine (digits_any m _).mono ?_; rintro e w1 ⟨rfl, hw1⟩
  rw [← hcs.out]
  go_wp2_with (refine wpList_store_blk rfl 61 (.tmp 3) (.tmp 5) rfl w1.heap.size rfl cs rfl _ _ (Blk.new w1 _ _) (by rw [hsz2.out]; rfl) (by rw [hsz2.out]; exact info18) (by rw [hcs.out]; exact hone.out) ?_; intro w3 hr3 hg3)
  have hw3 : Below w.heap.size w w3 := (hw1.thenNew _).trans (only_below hg3 hw1.size (hw1.thenNew _).size)
  have hown : Own w3 w.heap.size (.slice (some ⟨w1.heap.size, 0, none⟩) 18 18) (ivs (digs m)) := by
    have h := Own.of_blk (base := w.heap.size) hr3 hw1.size (by rw [hsz2.out]; decide)
    rw [hsz2.out] at h
    rw [show ivs (digs m) = cs.toList by rw [hcs.out]]
    exact h
  go_wp2
  go_ret
  exact ⟨_, rfl, hown, hw3⟩

def digRev (m : UInt64) (k : Nat) : List Int := (List.range k).map fun j => (nib m j : Int)
theorem digRev_succ (m : UInt64) (k : Nat) : digRev m (k + 1) = digRev m k ++ [(nib m k : Int)] := by simp [digRev, List.range_succ]
theorem digRev_len (m : UInt64) (k : Nat) : (digRev m k).length = k := by simp [digRev]
theorem digs_eq (m : UInt64) : digs m = digRev m 16 ++ [((nibSum m 16 / 16 : Nat) : Int), ((nibSum m 16 % 16 : Nat) : Int)] := rfl
theorem nib_rev (m : UInt64) (k : Nat) (hk : k ≤ 15) : bits BinOp.and IntKind.u64 (wv m / 2 ^ (4 * (15 - k))) 15 = (nib m k : Int) := by
  rw [show 4 * (15 - k) = 60 - 4 * k by omega]; exact nib_val m k

set_option maxHeartbeats 800000 in
theorem refsplit_any (m : UInt64) (w : World) :
    Calls Try.prog 26 #[.int .u64 (wv m)] w fun e w' => NewSlice w e w' (ivs (digs m)) := by
  have hx0 := wv_nn m
  go_enter Try.func26, Try.ntmps26
  go_wp2_with fail
  go_loopw [3, 4, 5, 6] (fun v s i _ wr => ∃ k : Nat, k ≤ 16 ∧ i = .int .i64 (15 - (k : Int)) ∧ s = .int .i64 (nibSum m k : Int) ∧ Own wr w.heap.size v (ivs (digRev m k)) ∧ Below w.heap.size w wr) (fun _ _ i _ _ => (intOf i + 1).toNat)
  case atStart => exact ⟨0, Nat.zero_le _, rfl, rfl, Own.nil _ _, Below.refl _ _⟩
  case round =>
    obtain ⟨k, hk, rfl, rfl, hown, hw⟩ := hrel
    have hsum := nibSum_le m k
    by_cases hlt : k < 16
    · have hn := nib_lt m k
      have hv := nib_rev m k (by omega)
      have hone : ∀ u ∈ [Value.int .i64 (nib m k : Int)], u.oneCell' = true := by simp [Value.oneCell']
      go_wp2_with (at_builtin; refine wpList_app _ rfl _ _ 36 rfl EI w.heap.size u3 _ rfl (hown.alloc _) _ [.int .i64 (nib m k : Int)] rfl (SliceAt.one _ _ _) hone (by rw [ivs_len, digRev_len]; simp; omega) (hw.sizeNew _) ?_; intro v' w2 hown2 hg2 _)
      have hw2 : Below w.heap.size w w2 := (hw.thenNew _).thenApp (hown.alloc _) hg2
      have hown3 : Own w2 w.heap.size v' (ivs (digRev m (k + 1))) := by rw [digRev_succ, ivs_app]; exact hown2
      clear hown hown2 hg2 hw hone
      go_wp2_with fail
      go_roundw
      case rel => exact ⟨k + 1, by omega, congrArg _ (by omega), congrArg _ (by simp only [nibSum]; omega), hown3, hw2⟩
      case measure => simp [intOf]; omega
    · obtain rfl : k = 16 := by omega
      have hone : ∀ u ∈ [Value.int .i64 ((nibSum m 16 : Int) / 16), Value.int .i64 ((nibSum m 16 : Int) % 16)], u.oneCell' = true := by simp [Value.oneCell']
      go_wp2_with (at_builtin; refine wpList_app _ rfl _ _ 36 rfl EI w.heap.size u3 _ rfl (hown.alloc _) _ [.int .i64 ((nibSum m 16 : Int) / 16), .int .i64 ((nibSum m 16 : Int) % 16)] rfl (SliceAt.two _ _ _ _) hone (by rw [ivs_len, digRev_len]; simp) (hw.sizeNew _) ?_; intro v' w2 hown2 hg2 _)
      go_ret
      exact ⟨_, rfl, by rw [digs_eq, ivs_app]; exact hown2, (hw.thenNew _).thenApp (hown.alloc _) hg2⟩

theorem Reads.int {w : World} {B n k : Nat} {A : Option Addr} {l : List Int} (h : Reads w B A n (ivs l)) (hl : l.length = n) (hk : k < n) :
    ∃ ad, A = some ad ∧ w.cell? (ad.add k) = some (.int .i64 (l.getD k 0)) := by
  obtain ⟨ad, u, e, _, hu, hc⟩ := h.at_ hk
  rw [ivs_at l k (by omega)] at hu
  exact ⟨ad, e, by rw [hc, hu]⟩
set_option maxHeartbeats 800000 in
theorem ints_eq (v1 v2 : Value) (l : List Int) (w : World) (h1 : SliceAt w v1 (ivs l)) (h2 : SliceAt w v2 (ivs l)) :
    Calls Try.prog 24 #[v1, v2] w fun e w' => e = .returned (.bool true) ∧ Below w.heap.size w w' := by
  have hn : l.length ≤ maxLen := by have := h1.len; rw [ivs_len] at this; exact this
  obtain ⟨A1, c1, rfl, -, hm1, hr1⟩ := h1
  obtain ⟨A2, c2, rfl, -, hm2, hr2⟩ := h2
  rw [ivs_len] at hr1 hr2 ⊢
  unfold maxLen at hn
  have hne : ((l.length : Int) != (l.length : Int)) = false := by simp
  have H1 := Lib.hid hr1
  have H2 := Lib.hid hr2
  clear hr1 hr2 hm1 hm2
  go_enter Try.func24, Try.ntmps24
  go_wp2_with fail
  go_loopw [5] (fun i wr => ∃ k : Nat, k ≤ l.length ∧ i = .int .i64 k ∧ Below w.heap.size w wr) (fun i _ => l.length - (intOf i).toNat)
  case atStart => exact ⟨0, Nat.zero_le _, rfl, Below.refl _ _⟩
  case round =>
    obtain ⟨k, hk, rfl, hw⟩ := hrel
    by_cases hlt : k < l.length
    · obtain ⟨a1, rfl, g1⟩ := (H1.out.below hw).int rfl hlt
      obtain ⟨a2, rfl, g2⟩ := (H2.out.below hw).int rfl hlt
      have hlt' : (k : Int) < (l.length : Int) := by omega
      go_wp2_with fail
      go_quiet (fail)
      have hw2 : Below w.heap.size w (wr.drewN nq) := below_drewN hw nq
      go_wp2
      go_roundw
      case rel => exact ⟨k + 1, by omega, by go_num, hw2⟩
      case measure => simp [intOf]; omega
    · go_wp2
      go_ret
      exact ⟨rfl, hw⟩
end Go.Proofs.Ytmoeabifkbahbaa
