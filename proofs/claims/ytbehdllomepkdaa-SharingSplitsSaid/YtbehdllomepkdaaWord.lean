/-
  Words and bytes: a word of 64 bits is a UInt64, a byte is a UInt8; 'wv', 'bv' are their numbers in Go's memory. The laws below turn the walk's own spelling of Go's operations into operations on UInt64 and UInt8. No condition.
-/
import Derived.WalkKit
import Derived.Laws.BitsAllLaws
import Derived.Laws.BitsLemmas
namespace Go.Proofs.Ytbehdllomepkdaa
open Go.RowKit

def wv (x : UInt64) : Int := (x.toNat : Int)
def bv (x : UInt8) : Int := (x.toNat : Int)
theorem wv_lt (x : UInt64) : wv x < 18446744073709551616 := by have := x.toNat_lt; unfold wv; omega
theorem wv_nn (x : UInt64) : 0 ≤ wv x := by unfold wv; omega
theorem bv_lt (x : UInt8) : bv x < 256 := by have := x.toNat_lt; unfold bv; omega
theorem bv_nn (x : UInt8) : 0 ≤ bv x := by unfold bv; omega
theorem wv_inj {x y : UInt64} (h : wv x = wv y) : x = y := by unfold wv at h; exact UInt64.toNat_inj.1 (by omega)
theorem bv_inj {x y : UInt8} (h : bv x = bv y) : x = y := by unfold bv at h; exact UInt8.toNat_inj.1 (by omega)
theorem wv_beq (x y : UInt64) : (wv x == wv y) = (x == y) := by
  rw [Bool.eq_iff_iff]; simp only [beq_iff_eq]; exact ⟨wv_inj, fun h => by rw [h]⟩
theorem wv_bne (x y : UInt64) : (wv x != wv y) = (x != y) := by unfold bne; rw [wv_beq]
theorem bv_beq (x y : UInt8) : (bv x == bv y) = (x == y) := by
  rw [Bool.eq_iff_iff]; simp only [beq_iff_eq]; exact ⟨bv_inj, fun h => by rw [h]⟩
theorem bv_bne (x y : UInt8) : (bv x != bv y) = (x != y) := by unfold bne; rw [bv_beq]
theorem wv_of {n : Int} (h0 : 0 ≤ n) (h1 : n < 18446744073709551616) : wv (UInt64.ofNat n.toNat) = n := by
  unfold wv; rw [UInt64.toNat_ofNat_of_lt' (by show n.toNat < 2 ^ 64; omega)]; omega
theorem bv_of {n : Int} (h0 : 0 ≤ n) (h1 : n < 256) : bv (UInt8.ofNat n.toNat) = n := by
  unfold bv; rw [UInt8.toNat_ofNat_of_lt' (by show n.toNat < 2 ^ 8; omega)]; omega
theorem word_of (n : Int) (h : (Lit.int .u64 n).wf = true) : ∃ x : UInt64, n = wv x := by
  have hb : 0 ≤ n ∧ n ≤ 18446744073709551615 := by simpa [Lit.wf, IntKind.min, IntKind.max, IntKind.signed, IntKind.bits] using h
  exact ⟨_, (wv_of hb.1 (by omega)).symm⟩

theorem byte_of (n : Int) (h : (Lit.int .u8 n).wf = true) : ∃ x : UInt8, n = bv x := by
  have hb : 0 ≤ n ∧ n ≤ 255 := by simpa [Lit.wf, IntKind.min, IntKind.max, IntKind.signed, IntKind.bits] using h
  exact ⟨_, (bv_of hb.1 (by omega)).symm⟩
theorem wv_add (x y : UInt64) : IntKind.u64.wrap (wv x + wv y) = wv (x + y) := by
  unfold wv; rw [IntKind.wrap_u64, UInt64.toNat_add]; omega
theorem wv_xor (x y : UInt64) : bits BinOp.xor IntKind.u64 (wv x) (wv y) = wv (x ^^^ y) := by
  unfold wv; rw [u64_xor_nat _ _ x.toNat_lt y.toNat_lt, UInt64.toNat_xor]
theorem wv_or (x y : UInt64) : bits BinOp.or IntKind.u64 (wv x) (wv y) = wv (x ||| y) := by
  unfold wv; rw [u64_or_nat _ _ x.toNat_lt y.toNat_lt, UInt64.toNat_or]
theorem wv_and (x y : UInt64) : bits BinOp.and IntKind.u64 (wv x) (wv y) = wv (x &&& y) := by
  unfold wv; rw [u64_and_nat _ _ x.toNat_lt y.toNat_lt, UInt64.toNat_and]
theorem wv_lit (n : Nat) (h : n < 18446744073709551616) : (n : Int) = wv (UInt64.ofNat n) := by
  unfold wv; rw [UInt64.toNat_ofNat_of_lt' h]
theorem wv_shl (x : UInt64) (k : Nat) (hk : k < 64) : IntKind.u64.wrap (wv x * 2 ^ k) = wv (x <<< UInt64.ofNat k) := by
  unfold wv
  rw [IntKind.wrap_u64, UInt64.toNat_shiftLeft, UInt64.toNat_ofNat_of_lt' (by show k < 2 ^ 64; omega), Nat.mod_eq_of_lt hk, Nat.shiftLeft_eq]
  simp [Int.natCast_emod, Int.natCast_mul, Int.natCast_pow]
theorem wv_shr (x : UInt64) (k : Nat) (hk : k < 64) : wv x / 2 ^ k = wv (x >>> UInt64.ofNat k) := by
  unfold wv
  rw [UInt64.toNat_shiftRight, UInt64.toNat_ofNat_of_lt' (by show k < 2 ^ 64; omega), Nat.mod_eq_of_lt hk, Nat.shiftRight_eq_div_pow]
  simp [Int.natCast_ediv, Int.natCast_pow]
theorem bv_wv (c : UInt8) : bv c = wv c.toUInt64 := by unfold bv wv; rw [UInt8.toNat_toUInt64]
theorem bv_xor (x y : UInt8) : bits BinOp.xor IntKind.u8 (bv x) (bv y) = bv (x ^^^ y) := by
  unfold bv; rw [u8_xor_nat _ _ x.toNat_lt y.toNat_lt, UInt8.toNat_xor]
theorem bv_or (x y : UInt8) : bits BinOp.or IntKind.u8 (bv x) (bv y) = bv (x ||| y) := by
  unfold bv; rw [u8_or_nat _ _ x.toNat_lt y.toNat_lt, UInt8.toNat_or]
theorem bv_and (x y : UInt8) : bits BinOp.and IntKind.u8 (bv x) (bv y) = bv (x &&& y) := by
  unfold bv; rw [u8_and_nat _ _ x.toNat_lt y.toNat_lt, UInt8.toNat_and]
/-- 'byte(w)' -/
theorem wv_byte (x : UInt64) : IntKind.u8.wrap (wv x) = bv x.toUInt8 := by
  unfold wv bv; rw [IntKind.wrap_u8, UInt64.toNat_toUInt8]; omega
/-- The cells of a list of bytes, of words, of ints. -/
def bvs (l : List UInt8) : List Value := l.map fun c => .int .u8 (bv c)
def wvs (l : List UInt64) : List Value := l.map fun c => .int .u64 (wv c)
def ivs (l : List Int) : List Value := l.map fun c => .int .i64 c
theorem bvs_len (l : List UInt8) : (bvs l).length = l.length := by simp [bvs]
theorem wvs_len (l : List UInt64) : (wvs l).length = l.length := by simp [wvs]
theorem ivs_len (l : List Int) : (ivs l).length = l.length := by simp [ivs]
theorem bvs_app (l m : List UInt8) : bvs (l ++ m) = bvs l ++ bvs m := by simp [bvs]
theorem wvs_app (l m : List UInt64) : wvs (l ++ m) = wvs l ++ wvs m := by simp [wvs]
theorem ivs_app (l m : List Int) : ivs (l ++ m) = ivs l ++ ivs m := by simp [ivs]
theorem bvs_take (l : List UInt8) (k : Nat) : bvs (l.take k) = (bvs l).take k := by simp [bvs, List.map_take]
theorem bvs_drop (l : List UInt8) (k : Nat) : bvs (l.drop k) = (bvs l).drop k := by simp [bvs, List.map_drop]
theorem wvs_take (l : List UInt64) (k : Nat) : wvs (l.take k) = (wvs l).take k := by simp [wvs, List.map_take]
theorem wvs_drop (l : List UInt64) (k : Nat) : wvs (l.drop k) = (wvs l).drop k := by simp [wvs, List.map_drop]
theorem ivs_take (l : List Int) (k : Nat) : ivs (l.take k) = (ivs l).take k := by simp [ivs, List.map_take]
theorem ivs_drop (l : List Int) (k : Nat) : ivs (l.drop k) = (ivs l).drop k := by simp [ivs, List.map_drop]
theorem bvs_at (l : List UInt8) (k : Nat) (h : k < l.length) : (bvs l)[k]? = some (.int .u8 (bv (l.getD k 0))) := by
  simp [bvs, h]
theorem wvs_at (l : List UInt64) (k : Nat) (h : k < l.length) : (wvs l)[k]? = some (.int .u64 (wv (l.getD k 0))) := by
  simp [wvs, h]
theorem ivs_at (l : List Int) (k : Nat) (h : k < l.length) : (ivs l)[k]? = some (.int .i64 (l.getD k 0)) := by
  simp [ivs, h]
theorem bvs_one (l : List UInt8) : ∀ u ∈ bvs l, u.oneCell' = true := by
  intro u hu; simp only [bvs, List.mem_map] at hu; obtain ⟨c, _, rfl⟩ := hu; rfl
theorem wvs_one (l : List UInt64) : ∀ u ∈ wvs l, u.oneCell' = true := by
  intro u hu; simp only [wvs, List.mem_map] at hu; obtain ⟨c, _, rfl⟩ := hu; rfl
theorem ivs_one (l : List Int) : ∀ u ∈ ivs l, u.oneCell' = true := by
  intro u hu; simp only [ivs, List.mem_map] at hu; obtain ⟨c, _, rfl⟩ := hu; rfl
/-- A list of numbers that came in, each fitting its kind, as bytes and as words. -/
theorem bytes_of (zs : List Int) (h : ∀ n ∈ zs, (Lit.int .u8 n).wf = true) : ∃ l : List UInt8, l.length = zs.length ∧ zs = l.map bv := by
  induction zs with
  | nil => exact ⟨[], rfl, rfl⟩
  | cons z zs ih =>
    obtain ⟨l, hl, he⟩ := ih fun n hn => h n (List.mem_cons_of_mem _ hn)
    have hz := h z (List.mem_cons_self ..)
    have hb : 0 ≤ z ∧ z ≤ 255 := by simpa [Lit.wf, IntKind.min, IntKind.max, IntKind.signed, IntKind.bits] using hz
    exact ⟨UInt8.ofNat z.toNat :: l, by simp [hl], by rw [List.map_cons, ← he, bv_of hb.1 (by omega)]⟩
theorem words_of (zs : List Int) (h : ∀ n ∈ zs, (Lit.int .u64 n).wf = true) : ∃ l : List UInt64, l.length = zs.length ∧ zs = l.map wv := by
  induction zs with
  | nil => exact ⟨[], rfl, rfl⟩
  | cons z zs ih =>
    obtain ⟨l, hl, he⟩ := ih fun n hn => h n (List.mem_cons_of_mem _ hn)
    obtain ⟨x, hx⟩ := word_of z (h z (List.mem_cons_self ..))
    exact ⟨x :: l, by simp [hl], by rw [List.map_cons, ← he, hx]⟩
end Go.Proofs.Ytbehdllomepkdaa
