/-
  The values of Go's operations on words, bytes and numbers, in plain words; rows of bytes, words, numbers and bools. No condition.
-/
import Derived.Test.YtbehdllomepkdaaR18
namespace Go.Proofs.Ytbehdllomepkdaa
open Go.RowKit

/-- 'uint64(n)', 'byte(n)' -/
def u64 (n : Int) : UInt64 := UInt64.ofInt n
def u8 (n : Int) : UInt8 := UInt8.ofInt n
theorem wv_ofInt (n : Int) : IntKind.u64.wrap n = wv (u64 n) := by
  unfold wv u64; rw [IntKind.wrap_u64]
  simp [UInt64.ofInt]
  omega
theorem bv_ofInt (n : Int) : IntKind.u8.wrap n = bv (u8 n) := by
  unfold bv u8; rw [IntKind.wrap_u8]
  simp [UInt8.ofInt]
  omega
abbrev aw (x : UInt64) : AV := .val (.int .u64 (wv x))
abbrev ab (x : UInt8) : AV := .val (.int .u8 (bv x))
abbrev ai (n : Int) : AV := .val (.int .i64 n)
abbrev ao (b : Bool) : AV := .val (.bool b)
abbrev as_ (s : List UInt8) : AV := .val (.string ⟨s.toArray⟩)

theorem av_i64 {n : Int} (h1 : -9223372036854775808 ≤ n) (h2 : n ≤ 9223372036854775807) : AV.val (.int .i64 (IntKind.i64.wrap n)) = .val (.int .i64 n) := by
  rw [show IntKind.i64.wrap n = n by rw [IntKind.wrap_i64]; omega]
theorem av_i64_bv (c : UInt8) : AV.val (.int .i64 (IntKind.i64.wrap (bv c))) = .val (.int .i64 (bv c)) := av_i64 (by have := bv_nn c; omega) (by have := bv_lt c; omega)
theorem avw_conv (n : Int) : AV.val (.int .u64 (IntKind.u64.wrap n)) = aw (u64 n) := by rw [wv_ofInt]
theorem avb_conv (n : Int) : AV.val (.int .u8 (IntKind.u8.wrap n)) = ab (u8 n) := by rw [bv_ofInt]
theorem avw_bv (c : UInt8) : AV.val (.int .u64 (IntKind.u64.wrap (bv c))) = aw c.toUInt64 := by
  rw [bv_wv, show IntKind.u64.wrap (wv c.toUInt64) = wv c.toUInt64 by have := wv_lt c.toUInt64; have := wv_nn c.toUInt64; rw [IntKind.wrap_u64]; omega]
theorem avw_self (x : UInt64) : AV.val (.int .u64 (IntKind.u64.wrap (wv x))) = aw x := by
  rw [show IntKind.u64.wrap (wv x) = wv x by have := wv_lt x; have := wv_nn x; rw [IntKind.wrap_u64]; omega]
theorem avb_self (x : UInt8) : AV.val (.int .u8 (IntKind.u8.wrap (bv x))) = ab x := by
  rw [show IntKind.u8.wrap (bv x) = bv x by have := bv_lt x; have := bv_nn x; rw [IntKind.wrap_u8]; omega]
theorem avb_wv (x : UInt64) : AV.val (.int .u8 (IntKind.u8.wrap (wv x))) = ab x.toUInt8 := by rw [wv_byte]
theorem avw_add (x y : UInt64) : AV.val (.int .u64 (IntKind.u64.wrap (wv x + wv y))) = aw (x + y) := by rw [wv_add]
theorem avw_sub (x y : UInt64) : AV.val (.int .u64 (IntKind.u64.wrap (wv x - wv y))) = aw (x - y) := by
  rw [show IntKind.u64.wrap (wv x - wv y) = wv (x - y) by
    unfold wv; rw [IntKind.wrap_u64, UInt64.toNat_sub]
    have := x.toNat_lt; have := y.toNat_lt; omega]
theorem avw_mul (x y : UInt64) : AV.val (.int .u64 (IntKind.u64.wrap (wv x * wv y))) = aw (x * y) := by
  rw [show IntKind.u64.wrap (wv x * wv y) = wv (x * y) by
    unfold wv; rw [IntKind.wrap_u64, UInt64.toNat_mul, ← Int.natCast_mul]; omega]
theorem avw_and (x y : UInt64) : AV.val (.int .u64 (IntKind.u64.wrap ((BitVec.ofInt IntKind.u64.bits (wv x) &&& BitVec.ofInt IntKind.u64.bits (wv y)).toNat : Nat))) = aw (x &&& y) := congrArg (fun n => AV.val (.int .u64 n)) (wv_and x y)
theorem avw_or (x y : UInt64) : AV.val (.int .u64 (IntKind.u64.wrap ((BitVec.ofInt IntKind.u64.bits (wv x) ||| BitVec.ofInt IntKind.u64.bits (wv y)).toNat : Nat))) = aw (x ||| y) := congrArg (fun n => AV.val (.int .u64 n)) (wv_or x y)
theorem avw_xor (x y : UInt64) : AV.val (.int .u64 (IntKind.u64.wrap ((BitVec.ofInt IntKind.u64.bits (wv x) ^^^ BitVec.ofInt IntKind.u64.bits (wv y)).toNat : Nat))) = aw (x ^^^ y) := congrArg (fun n => AV.val (.int .u64 n)) (wv_xor x y)
theorem avb_and (x y : UInt8) : AV.val (.int .u8 (IntKind.u8.wrap ((BitVec.ofInt IntKind.u8.bits (bv x) &&& BitVec.ofInt IntKind.u8.bits (bv y)).toNat : Nat))) = ab (x &&& y) := congrArg (fun n => AV.val (.int .u8 n)) (bv_and x y)
theorem avb_or (x y : UInt8) : AV.val (.int .u8 (IntKind.u8.wrap ((BitVec.ofInt IntKind.u8.bits (bv x) ||| BitVec.ofInt IntKind.u8.bits (bv y)).toNat : Nat))) = ab (x ||| y) := congrArg (fun n => AV.val (.int .u8 n)) (bv_or x y)
theorem avb_xor (x y : UInt8) : AV.val (.int .u8 (IntKind.u8.wrap ((BitVec.ofInt IntKind.u8.bits (bv x) ^^^ BitVec.ofInt IntKind.u8.bits (bv y)).toNat : Nat))) = ab (x ^^^ y) := congrArg (fun n => AV.val (.int .u8 n)) (bv_xor x y)
theorem avb_add (x y : UInt8) : AV.val (.int .u8 (IntKind.u8.wrap (bv x + bv y))) = ab (x + y) := by
  rw [show IntKind.u8.wrap (bv x + bv y) = bv (x + y) by unfold bv; rw [IntKind.wrap_u8, UInt8.toNat_add]; omega]
theorem avw_shr (x : UInt64) (n : Int) (h0 : 0 ≤ n) (h1 : n < 64) : AV.val (.int .u64 ((wv x).fdiv (2 ^ min n.toNat IntKind.u64.bits))) = aw (x >>> UInt64.ofNat n.toNat) := by
  rw [show min n.toNat IntKind.u64.bits = n.toNat from Nat.min_eq_left (by show n.toNat ≤ 64; omega), Int.fdiv_eq_ediv_of_nonneg _ (Int.pow_nonneg (by decide)), wv_shr x n.toNat (by omega)]
theorem avw_shl (x : UInt64) (n : Int) (h0 : 0 ≤ n) (h1 : n < 64) : AV.val (.int .u64 (IntKind.u64.wrap (wv x * 2 ^ min n.toNat IntKind.u64.bits))) = aw (x <<< UInt64.ofNat n.toNat) := by
  rw [show min n.toNat IntKind.u64.bits = n.toNat from Nat.min_eq_left (by show n.toNat ≤ 64; omega), wv_shl x n.toNat (by omega)]
theorem bv_shr (x : UInt8) (k : Nat) (hk : k < 8) : bv x / 2 ^ k = bv (x >>> UInt8.ofNat k) := by
  unfold bv
  rw [UInt8.toNat_shiftRight, UInt8.toNat_ofNat_of_lt' (by show k < 2 ^ 8; omega), Nat.mod_eq_of_lt hk, Nat.shiftRight_eq_div_pow]
  simp [Int.natCast_ediv, Int.natCast_pow]
theorem bv_shl (x : UInt8) (k : Nat) (hk : k < 8) : IntKind.u8.wrap (bv x * 2 ^ k) = bv (x <<< UInt8.ofNat k) := by
  unfold bv
  rw [IntKind.wrap_u8, UInt8.toNat_shiftLeft, UInt8.toNat_ofNat_of_lt' (by show k < 2 ^ 8; omega), Nat.mod_eq_of_lt hk, Nat.shiftLeft_eq]
  simp [Int.natCast_emod, Int.natCast_mul, Int.natCast_pow]
theorem avb_shr (x : UInt8) (n : Int) (h0 : 0 ≤ n) (h1 : n < 8) : AV.val (.int .u8 ((bv x).fdiv (2 ^ min n.toNat IntKind.u8.bits))) = ab (x >>> UInt8.ofNat n.toNat) := by
  rw [show min n.toNat IntKind.u8.bits = n.toNat from Nat.min_eq_left (by show n.toNat ≤ 8; omega), Int.fdiv_eq_ediv_of_nonneg _ (Int.pow_nonneg (by decide)), bv_shr x n.toNat (by omega)]
theorem avb_shl (x : UInt8) (n : Int) (h0 : 0 ≤ n) (h1 : n < 8) : AV.val (.int .u8 (IntKind.u8.wrap (bv x * 2 ^ min n.toNat IntKind.u8.bits))) = ab (x <<< UInt8.ofNat n.toNat) := by
  rw [show min n.toNat IntKind.u8.bits = n.toNat from Nat.min_eq_left (by show n.toNat ≤ 8; omega), bv_shl x n.toNat (by omega)]
theorem avw_eq (x y : UInt64) : AV.val (.bool (wv x == wv y)) = ao (x == y) := by rw [wv_beq]
theorem avw_ne (x y : UInt64) : AV.val (.bool (wv x != wv y)) = ao (x != y) := by rw [wv_bne]
theorem avb_eq (x y : UInt8) : AV.val (.bool (bv x == bv y)) = ao (x == y) := by rw [bv_beq]
theorem avb_ne (x y : UInt8) : AV.val (.bool (bv x != bv y)) = ao (x != y) := by rw [bv_bne]
theorem avi_div {a b : Int} (h : 0 ≤ a) (h1 : a ≤ 9223372036854775807) (hb : 1 ≤ b) : AV.val (.int .i64 (IntKind.i64.wrap (a.tdiv b))) = ai (a / b) := by
  rw [Int.tdiv_eq_ediv_of_nonneg h]
  exact av_i64 (by have := Int.ediv_nonneg h (by omega : 0 ≤ b); omega) (by have := Int.ediv_le_self b h; omega)
theorem avi_mod {a b : Int} (h : 0 ≤ a) : AV.val (.int .i64 (a.tmod b)) = ai (a % b) := by rw [Int.tmod_eq_emod_of_nonneg h]
theorem str_eq (a b : List UInt8) : AV.val (.bool ((⟨a.toArray⟩ : ByteArray).toList == (⟨b.toArray⟩ : ByteArray).toList)) = ao (a == b) := by simp
theorem str_ne (a b : List UInt8) : AV.val (.bool (!((⟨a.toArray⟩ : ByteArray).toList == (⟨b.toArray⟩ : ByteArray).toList))) = ao (a != b) := by
  have := str_eq a b
  injection this with this; injection this with this
  rw [this]; rfl

-- rows
def boolsA (l : List Bool) : List AV := l.map fun b => .val (.bool b)
theorem boolsA_len (l : List Bool) : (boolsA l).length = l.length := by simp [boolsA]
theorem bytesA_at {l : List UInt8} {k : Nat} (h : k < l.length) : (bytesA l)[k]? = some (ab (l.getD k 0)) := by simp [bytesA, h]
theorem wordsA_at {l : List UInt64} {k : Nat} (h : k < l.length) : (wordsA l)[k]? = some (aw (l.getD k 0)) := by simp [wordsA, h]
theorem intsA_at {l : List Int} {k : Nat} (h : k < l.length) : (intsA l)[k]? = some (ai (l.getD k 0)) := by simp [intsA, h]
theorem boolsA_at {l : List Bool} {k : Nat} (h : k < l.length) : (boolsA l)[k]? = some (ao (l.getD k false)) := by simp [boolsA, h]
theorem bytesA_app (a b : List UInt8) : bytesA a ++ bytesA b = bytesA (a ++ b) := by simp [bytesA]
theorem wordsA_app (a b : List UInt64) : wordsA a ++ wordsA b = wordsA (a ++ b) := by simp [wordsA]
theorem intsA_app (a b : List Int) : intsA a ++ intsA b = intsA (a ++ b) := by simp [intsA]
theorem bytesA_snoc (a : List UInt8) (c : UInt8) : bytesA a ++ [ab c] = bytesA (a ++ [c]) := by simp [bytesA]
theorem wordsA_snoc (a : List UInt64) (c : UInt64) : wordsA a ++ [aw c] = wordsA (a ++ [c]) := by simp [wordsA]
theorem intsA_snoc (a : List Int) (c : Int) : intsA a ++ [ai c] = intsA (a ++ [c]) := by simp [intsA]
theorem bytesA_set (a : List UInt8) (k : Nat) (c : UInt8) : (bytesA a).set k (ab c) = bytesA (a.set k c) := by simp [bytesA, List.map_set]
theorem wordsA_set (a : List UInt64) (k : Nat) (c : UInt64) : (wordsA a).set k (aw c) = wordsA (a.set k c) := by simp [wordsA, List.map_set]
theorem intsA_set (a : List Int) (k : Nat) (c : Int) : (intsA a).set k (ai c) = intsA (a.set k c) := by simp [intsA, List.map_set]
theorem boolsA_set (a : List Bool) (k : Nat) (c : Bool) : (boolsA a).set k (ao c) = boolsA (a.set k c) := by simp [boolsA, List.map_set]
theorem bytesA_take (a : List UInt8) (k : Nat) : (bytesA a).take k = bytesA (a.take k) := by simp [bytesA, List.map_take]
theorem bytesA_drop (a : List UInt8) (k : Nat) : (bytesA a).drop k = bytesA (a.drop k) := by simp [bytesA, List.map_drop]
theorem wordsA_take (a : List UInt64) (k : Nat) : (wordsA a).take k = wordsA (a.take k) := by simp [wordsA, List.map_take]
theorem wordsA_drop (a : List UInt64) (k : Nat) : (wordsA a).drop k = wordsA (a.drop k) := by simp [wordsA, List.map_drop]
theorem bytesA_rep (n : Nat) : List.replicate n (AV.val (.int .u8 0)) = bytesA (List.replicate n 0) := by simp [bytesA, bv]
theorem wordsA_rep (n : Nat) : List.replicate n (AV.val (.int .u64 0)) = wordsA (List.replicate n 0) := by simp [wordsA, wv]
theorem intsA_rep (n : Nat) : List.replicate n (AV.val (.int .i64 0)) = intsA (List.replicate n 0) := by simp [intsA]
theorem boolsA_rep (n : Nat) : List.replicate n (AV.val (.bool false)) = boolsA (List.replicate n false) := by simp [boolsA]
theorem plainR_bools (l : List Bool) : plainR (boolsA l) := by
  intro x hx; simp only [boolsA, List.mem_map] at hx; obtain ⟨c, _, rfl⟩ := hx; rfl
theorem valR_bools (l : List Bool) : valR (boolsA l) := by
  intro x hx; simp only [boolsA, List.mem_map] at hx; obtain ⟨c, _, rfl⟩ := hx; exact ⟨_, rfl⟩
theorem as_eq {F F' : List (Nat × AV)} {H H' : List (Nat × Row)} (a : F = F') (b : H = H') : (⟨F, H⟩ : AS) = ⟨F', H'⟩ := by rw [a, b]
theorem f_cons {i : Nat} {x y : AV} {l l' : List (Nat × AV)} (a : x = y) (b : l = l') : (i, x) :: l = (i, y) :: l' := by rw [a, b]
theorem h_cons {i e : Nat} {p f : Bool} {x y : List AV} {l l' : List (Nat × Row)} (a : x = y) (b : l = l') : (i, (⟨e, p, f, x⟩ : Row)) :: l = (i, ⟨e, p, f, y⟩) :: l' := by rw [a, b]
theorem av_u64 {n : Int} (h1 : 0 ≤ n) (h2 : n < 18446744073709551616) : AV.val (.int .u64 (IntKind.u64.wrap n)) = .val (.int .u64 n) := by
  rw [show IntKind.u64.wrap n = n by rw [IntKind.wrap_u64]; omega]
theorem av_u8 {n : Int} (h1 : 0 ≤ n) (h2 : n < 256) : AV.val (.int .u8 (IntKind.u8.wrap n)) = .val (.int .u8 n) := by
  rw [show IntKind.u8.wrap n = n by rw [IntKind.wrap_u8]; omega]
end Go.Proofs.Ytbehdllomepkdaa
