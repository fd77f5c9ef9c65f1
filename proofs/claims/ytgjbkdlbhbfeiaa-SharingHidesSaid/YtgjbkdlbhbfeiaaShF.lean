/-
  The field with 256 elements: plain laws of the products. No condition.
-/
import Derived.Test.YtgjbkdlbhbfeiaaSh2
namespace Go.Proofs.Ytgjbkdlbhbfeiaa
open Go.RowKit

/-- Doubling. -/
def xt (a : UInt8) : UInt8 := if a &&& 128 ≠ 0 then (a <<< 1) ^^^ 27 else a <<< 1
theorem all256 (p : UInt8 → Bool) (h : (List.range 256).all (fun n => p (UInt8.ofNat n)) = true) (a : UInt8) : p a = true := by
  rw [List.all_eq_true] at h
  have := h a.toNat (List.mem_range.2 (UInt8.toNat_lt a))
  simpa using this
theorem and_xor8 (a b c : UInt8) : (a ^^^ b) &&& c = (a &&& c) ^^^ (b &&& c) := by
  apply UInt8.toBitVec_inj.1; simp only [UInt8.toBitVec_and, UInt8.toBitVec_xor]; ext i hi; simp; cases a.toBitVec[i] <;> cases b.toBitVec[i] <;> cases c.toBitVec[i] <;> rfl
theorem xor_shl8 (a b : UInt8) : (a ^^^ b) <<< 1 = (a <<< 1) ^^^ (b <<< 1) := by
  apply UInt8.toBitVec_inj.1; simp [UInt8.toBitVec_shiftLeft, UInt8.toBitVec_xor, BitVec.shiftLeft_xor_distrib]
theorem xor_shr8 (a b : UInt8) : (a ^^^ b) >>> 1 = (a >>> 1) ^^^ (b >>> 1) := by
  apply UInt8.toBitVec_inj.1; simp [UInt8.toBitVec_shiftRight, UInt8.toBitVec_xor, BitVec.ushiftRight_xor_distrib]
theorem xor4 (a b c d : UInt8) : (a ^^^ b) ^^^ (c ^^^ d) = (a ^^^ c) ^^^ (b ^^^ d) := by
  rw [UInt8.xor_assoc, UInt8.xor_assoc, ← UInt8.xor_assoc b, UInt8.xor_comm b c, UInt8.xor_assoc c]
theorem hi_cases (a : UInt8) : a &&& 128 = 0 ∨ a &&& 128 = 128 := by
  have := all256 (fun a => decide (a &&& 128 = 0 ∨ a &&& 128 = 128)) (by decide +kernel) a
  exact of_decide_eq_true this
theorem lo_cases (a : UInt8) : a &&& 1 = 0 ∨ a &&& 1 = 1 := by
  have := all256 (fun a => decide (a &&& 1 = 0 ∨ a &&& 1 = 1)) (by decide +kernel) a
  exact of_decide_eq_true this
theorem xt_add (a b : UInt8) : xt (a ^^^ b) = xt a ^^^ xt b := by
  unfold xt
  rw [and_xor8, xor_shl8]
  rcases hi_cases a with h | h <;> rcases hi_cases b with k | k <;> rw [h, k] <;> simp [UInt8.xor_assoc]
  · rw [UInt8.xor_comm 27]
  · rw [← UInt8.xor_assoc 27, UInt8.xor_comm 27, UInt8.xor_assoc]; simp
theorem msteps_a (a b p : UInt8) (k : Nat) : (msteps ⟨a, b, p⟩ (k + 1)).a = xt (msteps ⟨a, b, p⟩ k).a := rfl
theorem msteps_addA (a c b p q : UInt8) : ∀ k, msteps ⟨a ^^^ c, b, p ^^^ q⟩ k = ⟨(msteps ⟨a, b, p⟩ k).a ^^^ (msteps ⟨c, b, q⟩ k).a, (msteps ⟨a, b, p⟩ k).b, (msteps ⟨a, b, p⟩ k).p ^^^ (msteps ⟨c, b, q⟩ k).p⟩ ∧ (msteps ⟨c, b, q⟩ k).b = (msteps ⟨a, b, p⟩ k).b
  | 0 => ⟨rfl, rfl⟩
  | k + 1 => by
    obtain ⟨h, hb⟩ := msteps_addA a c b p q k
    refine ⟨?_, ?_⟩
    · rw [msteps, h]
      simp only [msteps, mstep, hb]
      have := xt_add (msteps ⟨a, b, p⟩ k).a (msteps ⟨c, b, q⟩ k).a
      unfold xt at this
      rw [this]
      congr 1
      split
      · exact xor4 _ _ _ _
      · rfl
    · simp only [msteps, mstep, hb]
theorem msteps_addB (a b c p q : UInt8) : ∀ k, msteps ⟨a, b ^^^ c, p ^^^ q⟩ k = ⟨(msteps ⟨a, b, p⟩ k).a, (msteps ⟨a, b, p⟩ k).b ^^^ (msteps ⟨a, c, q⟩ k).b, (msteps ⟨a, b, p⟩ k).p ^^^ (msteps ⟨a, c, q⟩ k).p⟩ ∧ (msteps ⟨a, c, q⟩ k).a = (msteps ⟨a, b, p⟩ k).a
  | 0 => ⟨rfl, rfl⟩
  | k + 1 => by
    obtain ⟨h, hb⟩ := msteps_addB a b c p q k
    refine ⟨?_, ?_⟩
    · rw [msteps, h]
      simp only [msteps, mstep, hb, xor_shr8, and_xor8]
      congr 1
      rcases lo_cases (msteps ⟨a, b, p⟩ k).b with h1 | h1 <;> rcases lo_cases (msteps ⟨a, c, q⟩ k).b with h2 | h2 <;> rw [h1, h2] <;> simp [UInt8.xor_assoc]
      · rw [UInt8.xor_comm (msteps ⟨a, c, q⟩ k).p]
      · rw [← UInt8.xor_assoc (msteps ⟨a, b, p⟩ k).a, UInt8.xor_comm (msteps ⟨a, b, p⟩ k).a (msteps ⟨a, c, q⟩ k).p, UInt8.xor_assoc, UInt8.xor_self, UInt8.xor_zero]
    · simp only [msteps, mstep, hb]
theorem gmul_addL (a c b : UInt8) : gmul (a ^^^ c) b = gmul a b ^^^ gmul c b := by
  have := (msteps_addA a c b 0 0 8).1
  rw [UInt8.xor_self] at this
  unfold gmul; rw [this]
theorem gmul_addR (a b c : UInt8) : gmul a (b ^^^ c) = gmul a b ^^^ gmul a c := by
  have := (msteps_addB a b c 0 0 8).1
  rw [UInt8.xor_self] at this
  unfold gmul; rw [this]
/-- Two additive functions that agree at the powers of two. -/
theorem add_ext {f g : UInt8 → UInt8} (hf : ∀ a b, f (a ^^^ b) = f a ^^^ f b) (hg : ∀ a b, g (a ^^^ b) = g a ^^^ g b) (h : ∀ i, i < 8 → f (UInt8.ofNat (2 ^ i)) = g (UInt8.ofNat (2 ^ i))) (a : UInt8) : f a = g a := by
  have f0 : f 0 = 0 := by have := hf 0 0; rwa [UInt8.xor_self, UInt8.xor_self] at this
  have g0 : g 0 = 0 := by have := hg 0 0; rwa [UInt8.xor_self, UInt8.xor_self] at this
  have e : a = (((((((a &&& 1) ^^^ (a &&& 2)) ^^^ (a &&& 4)) ^^^ (a &&& 8)) ^^^ (a &&& 16)) ^^^ (a &&& 32)) ^^^ (a &&& 64)) ^^^ (a &&& 128) := by
    have := all256 (fun a => decide (a = (((((((a &&& 1) ^^^ (a &&& 2)) ^^^ (a &&& 4)) ^^^ (a &&& 8)) ^^^ (a &&& 16)) ^^^ (a &&& 32)) ^^^ (a &&& 64)) ^^^ (a &&& 128))) (by decide +kernel) a
    exact of_decide_eq_true this
  have one : ∀ i, i < 8 → a &&& UInt8.ofNat (2 ^ i) = 0 ∨ a &&& UInt8.ofNat (2 ^ i) = UInt8.ofNat (2 ^ i) := by
    intro i hi
    have := all256 (fun a => decide (∀ i, i < 8 → a &&& UInt8.ofNat (2 ^ i) = 0 ∨ a &&& UInt8.ofNat (2 ^ i) = UInt8.ofNat (2 ^ i))) (by decide +kernel) a
    exact of_decide_eq_true this i hi
  have s : ∀ i, i < 8 → f (a &&& UInt8.ofNat (2 ^ i)) = g (a &&& UInt8.ofNat (2 ^ i)) := by
    intro i hi
    rcases one i hi with h1 | h1 <;> rw [h1]
    · rw [f0, g0]
    · exact h i hi
  rw [e]
  simp only [hf, hg]
  rw [show f (a &&& 1) = g (a &&& 1) from s 0 (by omega), show f (a &&& 2) = g (a &&& 2) from s 1 (by omega), show f (a &&& 4) = g (a &&& 4) from s 2 (by omega), show f (a &&& 8) = g (a &&& 8) from s 3 (by omega), show f (a &&& 16) = g (a &&& 16) from s 4 (by omega), show f (a &&& 32) = g (a &&& 32) from s 5 (by omega), show f (a &&& 64) = g (a &&& 64) from s 6 (by omega), show f (a &&& 128) = g (a &&& 128) from s 7 (by omega)]
theorem gmul_comm (a b : UInt8) : gmul a b = gmul b a := by
  refine add_ext (f := fun a => gmul a b) (g := fun a => gmul b a) (fun x y => gmul_addL x y b) (fun x y => gmul_addR b x y) (fun i hi => ?_) a
  refine add_ext (f := fun b => gmul (UInt8.ofNat (2 ^ i)) b) (g := fun b => gmul b (UInt8.ofNat (2 ^ i))) (fun x y => gmul_addR _ x y) (fun x y => gmul_addL x y _) (fun j hj => ?_) b
  have : ∀ i, i < 8 → ∀ j, j < 8 → gmul (UInt8.ofNat (2 ^ i)) (UInt8.ofNat (2 ^ j)) = gmul (UInt8.ofNat (2 ^ j)) (UInt8.ofNat (2 ^ i)) := by decide +kernel
  exact this i hi j hj
theorem gmul_assoc (a b c : UInt8) : gmul (gmul a b) c = gmul a (gmul b c) := by
  refine add_ext (f := fun a => gmul (gmul a b) c) (g := fun a => gmul a (gmul b c)) (fun x y => by simp only [gmul_addL]) (fun x y => by simp only [gmul_addL]) (fun i hi => ?_) a
  refine add_ext (f := fun b => gmul (gmul (UInt8.ofNat (2 ^ i)) b) c) (g := fun b => gmul (UInt8.ofNat (2 ^ i)) (gmul b c)) (fun x y => by simp only [gmul_addL, gmul_addR]) (fun x y => by simp only [gmul_addL, gmul_addR]) (fun j hj => ?_) b
  refine add_ext (f := fun c => gmul (gmul (UInt8.ofNat (2 ^ i)) (UInt8.ofNat (2 ^ j))) c) (g := fun c => gmul (UInt8.ofNat (2 ^ i)) (gmul (UInt8.ofNat (2 ^ j)) c)) (fun x y => by simp only [gmul_addR]) (fun x y => by simp only [gmul_addR]) (fun k hk => ?_) c
  have : ∀ i, i < 8 → ∀ j, j < 8 → ∀ k, k < 8 → gmul (gmul (UInt8.ofNat (2 ^ i)) (UInt8.ofNat (2 ^ j))) (UInt8.ofNat (2 ^ k)) = gmul (UInt8.ofNat (2 ^ i)) (gmul (UInt8.ofNat (2 ^ j)) (UInt8.ofNat (2 ^ k))) := by decide +kernel
  exact this i hi j hj k hk
theorem gmul_one (a : UInt8) : gmul a 1 = a := of_decide_eq_true (all256 (fun a => decide (gmul a 1 = a)) (by decide +kernel) a)
theorem one_gmul (a : UInt8) : gmul 1 a = a := by rw [gmul_comm, gmul_one]
theorem gmul_zero (a : UInt8) : gmul a 0 = 0 := by have := gmul_addR a 0 0; rwa [UInt8.xor_self, UInt8.xor_self] at this
theorem zero_gmul (a : UInt8) : gmul 0 a = 0 := by rw [gmul_comm, gmul_zero]
theorem ginv_zero : ginv 0 = 0 := by decide +kernel
theorem gmul_ginv {a : UInt8} (h : a ≠ 0) : gmul a (ginv a) = 1 := by
  have := of_decide_eq_true (all256 (fun a => decide (a = 0 ∨ gmul a (ginv a) = 1)) (by decide +kernel) a)
  exact this.resolve_left h
/-- The reference's product. -/
theorem rsteps_eq (a b : UInt8) : ∀ k, k ≤ 8 → (rsteps a b k).x = (msteps ⟨a, b, 0⟩ k).a.toUInt64 ∧ (rsteps a b k).p = (msteps ⟨a, b, 0⟩ k).p ∧ (k < 8 → (msteps ⟨a, b, 0⟩ k).b = b >>> UInt8.ofNat k)
  | 0, _ => ⟨rfl, rfl, fun _ => by simp [msteps]⟩
  | k + 1, hk => by
    obtain ⟨h1, h2, h3⟩ := rsteps_eq a b k (by omega)
    have h3 := h3 (by omega)
    refine ⟨?_, ?_, fun h8 => ?_⟩
    · rw [rsteps, rstep, h1, msteps_a]
      have := all256 (fun a => decide ((if (a.toUInt64 <<< 1) &&& 256 ≠ 0 then (a.toUInt64 <<< 1) ^^^ 283 else a.toUInt64 <<< 1) = (xt a).toUInt64)) (by decide +kernel) (msteps ⟨a, b, 0⟩ k).a
      exact of_decide_eq_true this
    · rw [rsteps, rstep, h1, h2, msteps, mstep, ← h3]
      have e : (msteps ⟨a, b, 0⟩ k).a.toUInt64.toUInt8 = (msteps ⟨a, b, 0⟩ k).a := by simp
      rw [e]
      rcases lo_cases (msteps ⟨a, b, 0⟩ k).b with h | h <;> rw [h] <;> rfl
    · rw [msteps, mstep]
      show (msteps ⟨a, b, 0⟩ k).b >>> 1 = _
      rw [h3]
      have := all256 (fun b => (List.range 7).all fun k => (b >>> UInt8.ofNat k) >>> 1 == b >>> UInt8.ofNat (k + 1)) (by decide +kernel) b
      rw [List.all_eq_true] at this
      simpa using this k (List.mem_range.2 (by omega))
theorem rgmul_eq (a b : UInt8) : rgmul a b = gmul a b := (rsteps_eq a b 8 (Nat.le_refl _)).2.1
/-- Powers. -/
theorem gpow_add (a : UInt8) (m : Nat) : ∀ n, gpow a (m + n) = gmul (gpow a m) (gpow a n)
  | 0 => by rw [Nat.add_zero]; simp only [gpow]; rw [gmul_one]
  | n + 1 => by rw [← Nat.add_assoc]; simp only [gpow, rgmul_eq]; rw [gpow_add a m n, gmul_assoc]
theorem isteps_eq (a : UInt8) : ∀ k, isteps a k = (gpow a (2 ^ k), gpow a (2 ^ (k + 1) - 2))
  | 0 => by simp only [isteps, gpow, rgmul_eq, one_gmul, Nat.pow_zero]; rfl
  | k + 1 => by
    have hp : 2 ≤ 2 ^ (k + 1) := by have := Nat.one_le_two_pow (n := k); rw [Nat.pow_succ]; omega
    have e : gmul (gpow a (2 ^ k)) (gpow a (2 ^ k)) = gpow a (2 ^ (k + 1)) := by
      rw [← gpow_add]; congr 1; rw [Nat.pow_succ]; omega
    simp only [isteps, isteps_eq a k, e]
    rw [← gpow_add, show 2 ^ (k + 1) - 2 + 2 ^ (k + 1) = 2 ^ (k + 1 + 1) - 2 by rw [Nat.pow_succ 2 (k + 1)]; omega]
theorem ginv_eq (a : UInt8) : ginv a = gpow a 254 := by rw [ginv, isteps_eq]
end Go.Proofs.Ytgjbkdlbhbfeiaa
