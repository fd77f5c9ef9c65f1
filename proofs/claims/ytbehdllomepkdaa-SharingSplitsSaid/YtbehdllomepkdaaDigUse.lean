/-
  The contracts of digest.Hash, Mac and Derive. Derive: for labels of at most a million bytes; the others: for every input.
-/
import Derived.Test.YtbehdllomepkdaaDigWords
import Derived.Test.YtbehdllomepkdaaR20
namespace Go.Proofs.Ytbehdllomepkdaa
open Go.RowKit

def hash (d : Int) (b : List UInt8) : UInt64 := sum (u64 d) 0 b
def mac (key : UInt64) (d : Int) (b : List UInt8) : UInt64 := sum key (1 + u64 d) b
def derive (key : UInt64) (label : List UInt8) (n : Int) : UInt64 := mac key 4 (label ++ 0 :: words [u64 n])

theorem sum_at (k0 k1 : UInt64) (v : Value) (bs : List UInt8) (w : World) (h : SliceAt w v (bvs bs)) :
    Calls Try.prog 57 #[.int .u64 (wv k0), .int .u64 (wv k1), v] w fun e w' => e = .returned (.int .u64 (wv (sum k0 k1 bs))) ∧ Below w.heap.size w w' := by
  obtain ⟨A, c, rfl, hc, hm, hr⟩ := h
  exact sum_any k0 k1 A _ c bs w hr hc hm
theorem words_at (v : Value) (l : List UInt64) (w : World) (h : SliceAt w v (wvs l)) (hl : l.length ≤ 1000000) :
    Calls Try.prog 48 #[v] w fun e w' => NewBytes w e w' (words l) := by
  obtain ⟨A, c, rfl, hc, hm, hr⟩ := h
  exact words_any A _ c l w hr (by rw [wvs_len]; exact hl)

theorem mac_any (key : UInt64) (d : Int) (v : Value) (bs : List UInt8) (w : World) (h : SliceAt w v (bvs bs)) :
    Calls Try.prog 47 #[.int .u64 (wv key), .int .i64 d, v] w fun e w' => e = .returned (.int .u64 (wv (mac key d bs))) ∧ Below w.heap.size w w' := by
  have hd := wv_ofInt d
  have h1 : IntKind.u64.wrap (1 + wv (u64 d)) = wv (1 + u64 d) := wv_add 1 (u64 d)
  go_enter Try.func47, Try.ntmps47
  go_wp2_with fail
  refine (sum_at _ _ _ bs _ h).mono ?_
  rintro e w1 ⟨rfl, hb⟩
  go_wp2
  go_ret
  exact ⟨rfl, hb⟩
end Go.Proofs.Ytbehdllomepkdaa
