/-
  A tree's signatures are accepted for its key; the sanity check. No condition.
-/
import Derived.Test.YtjmmhpiadafahaaTk8
namespace Go.Proofs.Ytjmmhpiadafahaa
open Go.RowKit
set_option maxRecDepth 100000
set_option maxHeartbeats 4000000
set_option linter.unusedVariables false
--@au0

theorem mod4 (c : UInt8) : AV.val (.int .u8 ((bv c).tmod 4)) = ab (c % 4) := by
  have h0 := bv_nn c
  rw [Int.tmod_eq_emod_of_nonneg h0]
  congr 2
theorem half_xor (q : Nat) (hq : q < 16) : (q % 2 = 0 → q ^^^ 1 = q + 1 ∧ q = 2 * (q / 2)) ∧ (q % 2 ≠ 0 → q ^^^ 1 = q - 1 ∧ q = 2 * (q / 2) + 1) := by
  have key : ∀ q : Fin 16, (q.val % 2 = 0 → q.val ^^^ 1 = q.val + 1 ∧ q.val = 2 * (q.val / 2)) ∧ (q.val % 2 ≠ 0 → q.val ^^^ 1 = q.val - 1 ∧ q.val = 2 * (q.val / 2) + 1) := by decide +kernel
  exact key ⟨q, hq⟩
theorem climb_node (seed : UInt64) (leaf n : Nat) (x : UInt64) (hx : x = nodeW seed 0 leaf) (h16 : leaf < 16) (k : Nat) (hk : k ≤ n) : climb leaf (pathW seed leaf n) x k = nodeW seed k (leaf / 2 ^ k) := by
  induction k with
  | zero => simp [climb, hx]
  | succ k ih =>
    have ih := ih (by omega)
    have hg : (pathW seed leaf n).getD k 0 = nodeW seed k (leaf / 2 ^ k ^^^ 1) := by simp [pathW, show k < n by omega]
    have hd : leaf / 2 ^ (k + 1) = leaf / 2 ^ k / 2 := by rw [Nat.pow_succ, Nat.div_div_eq_div_mul]
    obtain ⟨h1, h2⟩ := half_xor (leaf / 2 ^ k) (Nat.lt_of_le_of_lt (Nat.div_le_self ..) h16)
    unfold climb
    rw [ih, hg, hd]
    generalize leaf / 2 ^ k = q at *
    by_cases hq : q % 2 = 0
    · obtain ⟨e1, e2⟩ := h1 hq
      rw [if_pos hq, e1]
      show parW _ _ _ = parW _ _ _
      rw [← e2]
    · obtain ⟨e1, e2⟩ := h2 hq
      rw [if_neg hq, e1]
      show parW _ _ _ = parW _ _ _
      rw [show 2 * (q / 2) + 1 = q by omega, show 2 * (q / 2) = q - 1 by omega]
theorem ver_sign (seed : UInt64) (h leaf : Nat) (m : UInt64) (hh : h ≤ 4) (hl : leaf < 2 ^ h) : verE (h : Int) (nodeW seed h 0) m (leaf : Int) (signL seed leaf m 18) (pathW seed leaf h) = 0 := by
  have hb : ¬ badL (h : Int) (leaf : Int) := by unfold badL badH; rw [Int.toNat_natCast]; omega
  have e := climb_node seed leaf h (combine leaf (recL leaf m (signL seed leaf m 18) 18)) (by rw [rec_sign]; rfl) (Nat.lt_of_lt_of_le hl (Nat.pow_le_pow_right (by decide) hh)) h (Nat.le_refl h)
  rw [Nat.div_eq_of_lt hl] at e
  unfold verE
  rw [if_neg hb, if_neg (by rw [signL_len, pathW_len]; omega), Int.toNat_natCast, Int.toNat_natCast, if_pos e]
theorem awake4_ret : Ret Try.prog 12 [] (ao true) := by
  have h1 := public_ret 7 0
  have h2 := sign_ret 7 0 0 9
  have a1 : pkH 0 = 0 := by decide
  have a2 : pkR 7 0 = nodeW 7 0 0 := rfl
  have a3 : pkE 0 = 0 := by decide
  have a4 : sgL 0 0 = 0 := by decide
  have a5 : sgC 7 0 0 9 = signL 7 0 9 18 := by
    have hb : ¬ badL 0 0 := by decide
    exact if_neg hb
  have a6 : sgP 7 0 0 = [] := by
    have hb : ¬ badL 0 0 := by decide
    exact (if_neg hb).trans (by simp [pathW])
  have a7 : sgE 0 0 = 0 := by decide
  rw [a1, a2, a3] at h1
  rw [a4, a5, a6, a7] at h2
  have h3 := encsig_ret 0 (signL 7 0 9 18) []
  have a8 : esE 0 (signL 7 0 9 18) [] = 0 := by
    have hb : ¬ badL 0 0 := by decide
    unfold esE
    rw [if_neg (by simpa using hb), if_neg (by rw [signL_len]; simp)]
  have a9 : (esB 0 (signL 7 0 9 18) []).length = 146 := by
    have hb : ¬ badL 0 0 := by decide
    unfold esB
    rw [if_neg (by rw [signL_len]; simpa using hb)]
    simp [words_len, signL_len]
  rw [a8] at h3
  have h4 := verify_ret 0 (nodeW 7 0 0) 9 0 (signL 7 0 9 18) []
  have a10 : verE 0 (nodeW 7 0 0) 9 0 (signL 7 0 9 18) [] = 0 := by
    have := ver_sign 7 0 0 9 (by omega) (by omega)
    simpa [pathW] using this
  rw [a10] at h4
  generalize nodeW 7 0 0 = r at *
  generalize signL 7 0 9 18 = S at *
  generalize esB 0 S [] = B at *
  refine Ret.of_fn Try.func12 (by kernel_rfl) 41 (by kernel_rfl) (by kernel_rfl) ?_
  refine AWP.regsP 5 [{  }, { hs := [(0, { av := some (AV.tup [AV.agg [ai 0, aw r], ai 0]) })] }, { hs := [(0, { av := some (AV.tup [AV.agg [ai 0, AV.sl 1 (wordsA S), AV.own 1 (wordsA [])], ai 0]), b := false })] }, { hs := [(1, { av := some (AV.tup [AV.own 1 (bytesA B), ai 0]) })] }, { hs := [(12, { k := B.length }), (18, { av := some (ai 0) })] }] [.keep [0, 6, 5, 4, 3, 2, 1] [1017, 3, 301012, 1]] (by kernel_rfl) (s' := AS.mk [(0, ao ((0 : Int) == (0 : Int))), (6, ai 0), (5, AV.ref 1017), (4, ai 0), (3, AV.addr 3 0), (2, ai 0), (1, AV.addr 1 0)] [(1017, Row.mk 1 true false (bytesA B)), (3, Row.mk 1 false true [ai 0, AV.sl 1 (wordsA S), AV.ref 301012]), (301012, Row.mk 1 true false (wordsA [])), (1, Row.mk 1 false true [ai 0, aw r])]) (C := [Ret Try.prog (10 : Nat) [AV.val (Value.int .u64 7), ai 0] (AV.tup [AV.agg [ai 0, aw r], ai 0]), (2 : Nat) ≤ (2 : Nat), Ret Try.prog (13 : Nat) [AV.val (Value.int .u64 7), ai 0, ai 0, AV.val (Value.int .u64 9)] (AV.tup [AV.agg [ai 0, AV.sl 1 (wordsA S), AV.own 1 (wordsA [])], ai 0]), (3 : Nat) ≤ (3 : Nat), Ret Try.prog (29 : Nat) [AV.agg [ai 0, AV.sl 1 (wordsA S), AV.sl 1 (wordsA [])]] (AV.tup [AV.own 1 (bytesA B), ai 0]), valR (bytesA B), ((0 : Int) == (0 : Int)) = true, ((0 : Int) == (0 : Int)) = true, ((0 : Int) == (0 : Int)) = true, ((0 : Int) == (0 : Int)) = true, ((0 : Int) == (0 : Int)) = true, ((0 : Int) == (0 : Int)) = true, ((0 : Int) == (0 : Int)) = true, ((0 : Int) == (0 : Int)) = true, (bytesA B).length = B.length, ((0 : Int) == (0 : Int)) = true, ((0 : Int) == (0 : Int)) = true, ((↑B.length : Int) == (146 : Int)) = true, ((↑B.length : Int) == (146 : Int)) = true, ((↑B.length : Int) == (146 : Int)) = true, Ret Try.prog (17 : Nat) [AV.agg [ai 0, aw r], AV.val (Value.int .u64 9), AV.agg [ai 0, AV.sl 1 (wordsA S), AV.sl 1 (wordsA [])]] (ai 0), ((↑B.length : Int) == (146 : Int)) = true, ((↑B.length : Int) == (146 : Int)) = true]) (by kernel_rfl) ⟨(h1), (by omega), (h2), (by omega), (h3), (valR_bytes _), (decide_eq_true (by omega)), (decide_eq_true (by omega)), (decide_eq_true (by omega)), (decide_eq_true (by omega)), (decide_eq_true (by omega)), (decide_eq_true (by omega)), (decide_eq_true (by omega)), (decide_eq_true (by omega)), (bytesA_len _), (decide_eq_true (by omega)), (decide_eq_true (by omega)), (decide_eq_true (by omega)), (decide_eq_true (by omega)), (decide_eq_true (by omega)), (h4), (decide_eq_true (by omega)), (decide_eq_true (by omega)), trivial⟩ ?_
  refine AWP.ret (by kernel_rfl) ?_
  refine Done.ret_ (C := [Value.bool ((0 : Int) == (0 : Int)) = Value.bool true]) (by kernel_rfl) ⟨rfl, trivial⟩
end Go.Proofs.Ytjmmhpiadafahaa
