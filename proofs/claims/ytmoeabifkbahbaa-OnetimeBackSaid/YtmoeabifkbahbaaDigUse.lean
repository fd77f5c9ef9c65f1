/-
  The contracts of digest.Hash, Mac and Derive. Derive: for labels of at most a million bytes; the others: for every input.
-/
import Derived.Test.YtmoeabifkbahbaaDigWords
namespace Go.Proofs.Ytmoeabifkbahbaa
open Go.RowKit

/-- 'uint64(n)' -/
def u64 (n : Int) : UInt64 := UInt64.ofInt n
theorem wv_ofInt (n : Int) : IntKind.u64.wrap n = wv (u64 n) := by
  unfold wv u64; rw [IntKind.wrap_u64]
  simp [UInt64.ofInt]
  omega
def hash (d : Int) (b : List UInt8) : UInt64 := sum (u64 d) 0 b
def mac (key : UInt64) (d : Int) (b : List UInt8) : UInt64 := sum key (1 + u64 d) b
def derive (key : UInt64) (label : List UInt8) (n : Int) : UInt64 := mac key 4 (label ++ 0 :: words [u64 n])

theorem sum_at (k0 k1 : UInt64) (v : Value) (bs : List UInt8) (w : World) (h : SliceAt w v (bvs bs)) :
    Calls Try.prog 15 #[.int .u64 (wv k0), .int .u64 (wv k1), v] w fun e w' => e = .returned (.int .u64 (wv (sum k0 k1 bs))) ∧ Below w.heap.size w w' := by
  obtain ⟨A, c, rfl, hc, hm, hr⟩ := h
  exact sum_any k0 k1 A _ c bs w hr hc hm
theorem words_at (v : Value) (l : List UInt64) (w : World) (h : SliceAt w v (wvs l)) (hl : l.length ≤ 1000000) :
    Calls Try.prog 17 #[v] w fun e w' => NewBytes w e w' (words l) := by
  obtain ⟨A, c, rfl, hc, hm, hr⟩ := h
  exact words_any A _ c l w hr (by rw [wvs_len]; exact hl)

theorem hash_any (d : Int) (v : Value) (bs : List UInt8) (w : World) (h : SliceAt w v (bvs bs)) :
    Calls Try.prog 21 #[.int .i64 d, v] w fun e w' => e = .returned (.int .u64 (wv (hash d bs))) ∧ Below w.heap.size w w' := by
  have hd := wv_ofInt d
  go_enter Try.func21, Try.ntmps21
  go_wp2_with fail
  refine (sum_at _ 0 _ bs _ h).mono ?_
  rintro e w1 ⟨rfl, hb⟩
  go_wp2
  go_ret
  exact ⟨rfl, hb⟩
theorem mac_any (key : UInt64) (d : Int) (v : Value) (bs : List UInt8) (w : World) (h : SliceAt w v (bvs bs)) :
    Calls Try.prog 19 #[.int .u64 (wv key), .int .i64 d, v] w fun e w' => e = .returned (.int .u64 (wv (mac key d bs))) ∧ Below w.heap.size w w' := by
  have hd := wv_ofInt d
  have h1 : IntKind.u64.wrap (1 + wv (u64 d)) = wv (1 + u64 d) := wv_add 1 (u64 d)
  go_enter Try.func19, Try.ntmps19
  go_wp2_with fail
  refine (sum_at _ _ _ bs _ h).mono ?_
  rintro e w1 ⟨rfl, hb⟩
  go_wp2
  go_ret
  exact ⟨rfl, hb⟩
set_option maxHeartbeats 400000 in
theorem derive_any (key : UInt64) (s : ByteArray) (n : Int) (w : World) (hs : s.size ≤ 1000000) :
    Calls Try.prog 22 #[.int .u64 (wv key), .string s, .int .i64 n] w fun e w' => e = .returned (.int .u64 (wv (derive key s.data.toList n))) ∧ Below w.heap.size w w' := by
  have hd := wv_ofInt n
  have hsz : (bvs s.data.toList).length = s.size := by rw [bvs_len]; rfl
  have HSZ := Lib.hid hsz; clear hsz
  go_enter Try.func22, Try.ntmps22
  go_wp2_with (first
    | (with_reducible refine wpList_bytes _ rfl (.tmp 8) 9 23 rfl 5 s rfl Try.underlying9 Try.underlying23 Try.underlying5 (by unfold maxLen; omega) ?_); intro v1 w1 ho1 hw1
    | (at_builtin; refine wpList_app _ rfl (.tmp 9) (.tmp 10) 23 rfl E8 w.heap.size v1 _ rfl (ho1.alloc _) _ (bvs [0]) rfl (SliceAt.one _ _ _) (bvs_one _) (by rw [HSZ.out]; simp [bvs]; omega) (hw1.sizeNew _) ?_; intro v2 w2 ho2 hg2 _; have hw2 := (hw1.thenNew _).thenApp (ho1.alloc _) hg2; clear hg2)
    | (go_at_call 17; refine (words_at _ [u64 n] _ (SliceAt.one _ _ _) (by simp)).mono ?_; rintro e w3 ⟨v3, rfl, ho3, hw3⟩)
    | (at_builtin; refine wpList_app _ rfl (.tmp 13) (.tmp 17) 23 rfl E8 w.heap.size v2 _ rfl ((ho2.alloc _).below hw3 (Nat.le_refl _)) _ _ rfl ho3.reads (bvs_one _) (by rw [List.length_append, HSZ.out, bvs_len, bvs_len, words_len]; simp; omega) ((hw2.thenNew _).thenCall hw3).size ?_; intro v4 w4 ho4 hg4 _)
    | (go_at_call 19; refine (mac_any _ _ _ _ _ (by rw [← bvs_app, ← bvs_app] at ho4; exact ho4.reads)).mono ?_; rintro e w5 ⟨rfl, hw5⟩))
  go_ret
  exact ⟨rfl, (((hw2.thenNew _).thenCall hw3).thenApp ((ho2.alloc _).below hw3 (Nat.le_refl _)) hg4).thenCall hw5⟩
end Go.Proofs.Ytmoeabifkbahbaa
