/-
  Authenticator data: what is encoded is read back, and what is read is the encoding. In plain words. No condition.
-/
import Derived.Test.YtmmnkloadooobaaAu6
import Derived.Test.YtmmnkloadooobaaAuP
namespace Go.Proofs.Ytmmnkloadooobaa
open Go.RowKit

theorem u8_nat (n : Int) : (u8 n).toNat = (n % 256).toNat := by
  have h : 0 ≤ n % 256 := by omega
  show (UInt8.ofNat (n % 2 ^ 8).toNat).toNat = _
  rw [UInt8.toNat_ofNat']
  show (n % 256).toNat % 256 = _
  omega
theorem u8_bv (x : UInt8) : u8 (bv x) = x := by
  apply UInt8.toNat_inj.1
  have h := x.toNat_lt
  rw [u8_nat]; unfold bv; omega
theorem bv_u8 {n : Int} (h0 : 0 ≤ n) (h1 : n < 256) : bv (u8 n) = n := by
  unfold bv
  rw [u8_nat]; omega
theorem drop_cons {b : List UInt8} {k : Nat} (h : k < b.length) : b.drop k = b.getD k 0 :: b.drop (k + 1) := by
  rw [List.drop_eq_getElem_cons h, List.getD_eq_getElem?_getD, List.getElem?_eq_getElem h]; rfl
theorem parts11 {b : List UInt8} (h : 11 ≤ b.length) : b.take 8 ++ [b.getD 8 0, b.getD 9 0, b.getD 10 0] ++ b.drop 11 = b := by
  have e : b.drop 8 = [b.getD 8 0, b.getD 9 0, b.getD 10 0] ++ b.drop 11 := by
    rw [drop_cons (k := 8) (by omega), drop_cons (k := 9) (by omega), drop_cons (k := 10) (by omega)]; rfl
  rw [List.append_assoc, ← e, List.take_append_drop]
theorem key_back {k : List UInt8} (h : ¬ dkBad k) : keyD (dkH k) (dkR k) = k ∧ keyE (dkH k) = 0 := by
  have h1 : k.length = 9 := Classical.byContradiction fun h2 => h (.inl h2)
  have h2 : ¬ badH (bv (k.getD 0 0)) := fun h2 => h (.inr h2)
  obtain ⟨-, e2, e3⟩ := dk_ok k h1 h2
  rw [e2, e3]
  refine ⟨?_, if_neg h2⟩
  rw [keyD, if_neg h2, u8_bv, words_wordOf (by rw [List.length_drop]; omega)]
  exact (drop_cons (k := 0) (b := k) (by omega)).symm
theorem ad_unique {b : List UInt8} (h : dcE b = 0) : adE (dcF b) (dcC b) (dcR b) (dcM b) (dcI b) (dcH b) (dcK b) = 0 ∧ adD (dcW b) (dcF b) (dcC b) (dcR b) (dcM b) (dcI b) (dcH b) (dcK b) = b := by
  by_cases hA : deA b
  · obtain ⟨-, e2, e3, e4, e5, e6, e7, e8, e9⟩ := dc_a hA
    rw [e2, e3, e4, e5, e6, e7, e8, e9]
    refine ⟨hA.2.2, ?_⟩
    rw [adD, if_neg (fun h => h hA.2.2), if_pos hA.2.1, words_wordOf (by rw [List.length_take]; have := hA.1; omega)]
    unfold deF deC deR
    rw [u8_bv, u8_bv, u8_bv]
    have e := parts11 (b := b) (by have := hA.1; omega)
    rw [show b.drop 11 = [] from List.drop_eq_nil_of_le (by have := hA.1; omega)] at e
    exact e
  by_cases hB : deB b
  · obtain ⟨-, e2, e3, e4, e5, e6, e7, e8, e9⟩ := dc_b hB
    rw [e2, e3, e4, e5, e6, e7, e8, e9]
    have hl := hB.1
    refine ⟨hB.2.2.2, ?_⟩
    rw [adD, if_neg (fun h => h hB.2.2.2), if_neg hB.2.1, (key_back hB.2.2.1).1]
    unfold deF deC deR deM deI
    rw [u8_bv, u8_bv, u8_bv, words_wordOf (by rw [List.length_take]; omega), words_wordOf (by rw [List.length_take, List.length_drop]; omega)]
    have e1 : (b.drop 11).take 8 ++ b.drop 19 = b.drop 11 := by
      have := List.take_append_drop 8 (b.drop 11)
      rwa [List.drop_drop] at this
    have e2 : (b.drop 19).take 176 ++ b.drop 195 = b.drop 19 := by
      have := List.take_append_drop 176 (b.drop 19)
      rwa [List.drop_drop] at this
    rw [List.append_assoc (List.take 8 (List.drop 11 b)), e2, e1]
    exact parts11 (by omega)
  · rw [(dc_no hA hB).1] at h; cases h
theorem andnot93 {fl : Int} (hf : i64ok fl) (h : andnotI fl 93 = 0) : 0 ≤ fl ∧ fl ≤ 93 := by
  unfold andnotI at h
  have hz : BitVec.ofInt 64 fl &&& ~~~BitVec.ofInt 64 93 = 0#64 := by
    apply BitVec.eq_of_toNat_eq
    have hlt := (BitVec.ofInt 64 fl &&& ~~~BitVec.ofInt 64 93).isLt
    have h : IntKind.i64.wrap ((BitVec.ofInt 64 fl &&& ~~~BitVec.ofInt 64 93).toNat : Int) = 0 := h
    rw [IntKind.wrap_i64] at h
    show _ = 0
    omega
  have hle : BitVec.ofInt 64 fl ≤ 93#64 := by
    have hz : BitVec.ofInt 64 fl &&& ~~~93#64 = 0#64 := hz
    generalize BitVec.ofInt 64 fl = x at *
    have hx : x &&& 93#64 = x := by
      apply BitVec.eq_of_getLsbD_eq
      intro i hi
      have := congrArg (fun y => BitVec.getLsbD y i) hz
      simp only [BitVec.getLsbD_and, BitVec.getLsbD_not, hi, decide_true, Bool.true_and, BitVec.getLsbD_zero] at this ⊢
      generalize BitVec.getLsbD (93#64) i = y at *
      generalize BitVec.getLsbD x i = z at *
      revert this
      cases y <;> cases z <;> decide
    rw [← hx, BitVec.le_def, BitVec.toNat_and]
    exact Nat.and_le_right
  have h2 : (BitVec.ofInt 64 fl).toNat ≤ 93 := hle
  rw [BitVec.toNat_ofInt] at h2
  unfold i64ok at hf
  omega
theorem ad_back {rp : UInt64} {fl co ra : Int} {mo : UInt64} {id : List UInt8} {kh : Int} {kr : UInt64} (hf : i64ok fl) (h : adE fl co ra mo id kh kr = 0) {D : List UInt8} (hD : D = adD rp fl co ra mo id kh kr) :
    dcE D = 0 ∧ dcW D = rp ∧ dcF D = fl ∧ dcC D = co ∧ dcR D = ra ∧ dcM D = mo ∧ dcI D = id ∧ dcH D = kh ∧ dcK D = kr ∧ D.length = (if msk fl 64 = 0 then 11 else 204) := by
  have h0 := h
  rw [adD, if_neg (fun h2 => h2 h)] at hD
  unfold adE at h
  split at h
  · cases h
  rename_i c1
  have c2 : andnotI fl 93 = 0 := Classical.byContradiction fun h => c1 (.inl h)
  obtain ⟨f1, f2⟩ := andnot93 hf c2
  split at h
  · cases h
  obtain ⟨a1, a2, a3, a4, a5, a6, a7, a8, hw⟩ := list8_of (l := words [rp]) (by rw [words_len]; rfl)
  have hww := wordOf_words rp
  rw [hw] at hww hD
  split at h
  · rename_i hm
    split at h
    · cases h
    rename_i c3
    have g1 : mo = 0 := Classical.byContradiction fun h => c3 (.inl h)
    have g2 : id = [] := List.length_eq_zero_iff.1 (Classical.byContradiction fun h => c3 (.inr (.inl h)))
    have g3 : kh = 0 := Classical.byContradiction fun h => c3 (.inr (.inr (.inl h)))
    have g4 : kr = 0 := Classical.byContradiction fun h => c3 (.inr (.inr (.inr h)))
    subst g1 g2 g3 g4
    rw [if_pos hm] at hD
    have d1 : deF D = fl := by rw [hD]; exact bv_u8 f1 (by omega)
    have d2 : deC D = co := by rw [hD]; exact bv_u8 (by omega) (by omega)
    have d3 : deR D = ra := by rw [hD]; exact bv_u8 (by omega) (by omega)
    have d4 : wordOf (D.take 8) = rp := by rw [hD]; exact hww
    have hl : D.length = 11 := by rw [hD]; rfl
    have hA : deA D := ⟨hl, by rw [d1]; exact hm, by rw [d1, d2, d3]; exact h0⟩
    obtain ⟨e1, e2, e3, e4, e5, e6, e7, e8, e9⟩ := dc_a hA
    rw [e1, e2, e3, e4, e5, e6, e7, e8, e9, d1, d2, d3, d4, hl, if_pos hm]
    exact ⟨rfl, rfl, rfl, rfl, rfl, rfl, rfl, rfl, rfl, rfl⟩
  · rename_i hm
    split at h
    · cases h
    rename_i c3
    have hi : id.length = 176 := Classical.byContradiction fun h => c3 h
    have hb : ¬ badH kh := fun hb => by rw [keyE, if_pos hb] at h; cases h
    have hkk : 0 ≤ kh ∧ kh ≤ 4 := by unfold badH at hb; omega
    obtain ⟨b1, b2, b3, b4, b5, b6, b7, b8, hv⟩ := list8_of (l := words [mo]) (by rw [words_len]; rfl)
    obtain ⟨k1, k2, k3, k4, k5, k6, k7, k8, hk⟩ := list8_of (l := words [kr]) (by rw [words_len]; rfl)
    have hvv := wordOf_words mo
    have hkv := wordOf_words kr
    rw [hv] at hvv hD
    rw [hk] at hkv
    rw [if_neg hm, keyD, if_neg hb, hk] at hD
    have q : D.drop 19 = id ++ (u8 kh :: [k1, k2, k3, k4, k5, k6, k7, k8]) := by rw [hD]; rfl
    have q2 : D.drop 195 = u8 kh :: [k1, k2, k3, k4, k5, k6, k7, k8] := by
      have : D.drop 195 = (D.drop 19).drop 176 := by rw [List.drop_drop]
      rw [this, q, List.drop_left' hi]
    have d1 : deF D = fl := by rw [hD]; exact bv_u8 f1 (by omega)
    have d2 : deC D = co := by rw [hD]; exact bv_u8 (by omega) (by omega)
    have d3 : deR D = ra := by rw [hD]; exact bv_u8 (by omega) (by omega)
    have d4 : wordOf (D.take 8) = rp := by rw [hD]; exact hww
    have d5 : deM D = mo := by rw [hD]; exact hvv
    have d6 : deI D = id := by unfold deI; rw [q, List.take_left' hi]
    have hl : D.length = 204 := by
      have := congrArg List.length q2
      rw [List.length_drop] at this
      simp only [List.length_cons, List.length_nil] at this
      omega
    have hdk := dk_ok (D.drop 195) (by rw [q2]; rfl) (by rw [q2]; show ¬ badH (bv (u8 kh)); rw [bv_u8 (by omega) (by omega)]; exact hb)
    have d7 : dkH (D.drop 195) = kh := by rw [hdk.2.1, q2]; exact bv_u8 (by omega) (by omega)
    have d8 : dkR (D.drop 195) = kr := by rw [hdk.2.2, q2]; exact hkv
    have hnb : ¬ dkBad (D.drop 195) := fun hb2 => by rw [(dk_bad _ hb2).1] at hdk; exact absurd hdk.1 (by decide)
    have hB : deB D := ⟨hl, by rw [d1]; exact hm, hnb, by rw [d1, d2, d3, d5, d6, d7, d8]; exact h0⟩
    obtain ⟨e1, e2, e3, e4, e5, e6, e7, e8, e9⟩ := dc_b hB
    rw [e1, e2, e3, e4, e5, e6, e7, e8, e9, d1, d2, d3, d4, d5, d6, d7, d8, hl, if_neg hm]
    exact ⟨rfl, rfl, rfl, rfl, rfl, rfl, rfl, rfl, rfl, rfl⟩
end Go.Proofs.Ytmmnkloadooobaa
