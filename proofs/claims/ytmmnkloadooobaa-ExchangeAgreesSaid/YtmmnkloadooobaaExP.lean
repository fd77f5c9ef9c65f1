/-
  Powers modulo the prime 2^61 - 1, and Fermat's theorem for it (37 has the full order). No condition.
-/
import Derived.Test.YtmmnkloadooobaaRC
namespace Go.Proofs.Ytmmnkloadooobaa

/-- acc * a^n modulo the prime, by halving the exponent (f steps). -/
def pmE : Nat → Nat → Nat → Nat → Nat
  | 0, _, _, acc => acc % 2305843009213693951
  | f + 1, a, n, acc => pmE f (a * a % 2305843009213693951) (n / 2) (match n % 2 == 1 with | true => acc * a % 2305843009213693951 | false => acc)
theorem sq_pow (a k : Nat) : (a * a) ^ k = a ^ (2 * k) := by rw [Nat.pow_mul, Nat.pow_two]
theorem mul_powmod (Q b a k : Nat) : b * (a % Q) ^ k % Q = b * a ^ k % Q := by
  rw [Nat.mul_mod, ← Nat.pow_mod, ← Nat.mul_mod]
theorem pmE_eq : ∀ (f a n acc : Nat), n < 2 ^ f → pmE f a n acc = acc * a ^ n % 2305843009213693951
  | 0, a, n, acc, h => by
    have : n = 0 := by simpa using h
    subst this; simp [pmE]
  | f + 1, a, n, acc, h => by
    have hn : n / 2 < 2 ^ f := by rw [Nat.pow_succ] at h; omega
    simp only [pmE]
    rw [pmE_eq f _ _ _ hn, mul_powmod, sq_pow]
    cases h0 : n % 2 == 1 with
    | false =>
      have h0 : ¬ n % 2 = 1 := by simpa using h0
      simp only [show 2 * (n / 2) = n by omega]
    | true =>
      have h0 : n % 2 = 1 := by simpa using h0
      have e : n = 2 * (n / 2) + 1 := by omega
      conv => rhs; rw [e, Nat.pow_succ, Nat.mul_comm (a ^ _) a, ← Nat.mul_assoc]
      simp only []
      rw [Nat.mul_mod, Nat.mod_mod, ← Nat.mul_mod]

theorem pow_one_mod (Q a k : Nat) (h : a % Q = 1) (hQ : 1 < Q) : a ^ k % Q = 1 := by
  rw [Nat.pow_mod, h, Nat.one_pow, Nat.mod_eq_of_lt hQ]
theorem pow_mod_one {Q a x y : Nat} (hQ : 1 < Q) (h : a ^ x % Q = 1) : a ^ (x * y) % Q = 1 := by
  rw [Nat.pow_mul]; exact pow_one_mod Q _ y h hQ
theorem pow_gcd {Q a : Nat} (hQ : 1 < Q) (x y : Nat) : a ^ x % Q = 1 → a ^ y % Q = 1 → a ^ (Nat.gcd x y) % Q = 1 := by
  induction x, y using Nat.gcd.induction with
  | H0 y => intro _ h; simpa using h
  | H1 x y hx ih =>
    intro h1 h2
    rw [Nat.gcd_rec]
    refine ih ?_ h1
    have e : a ^ y = a ^ (x * (y / x)) * a ^ (y % x) := by rw [← Nat.pow_add, Nat.div_add_mod]
    rw [e, Nat.mul_mod, pow_mod_one hQ h1, Nat.one_mul, Nat.mod_mod] at h2
    exact h2

/-- A number without smaller divisors divides a factor. -/
theorem prime_dvd {q r s : Nat} (hq : 2 ≤ q) (hm : ∀ t, 2 ≤ t → t < q → ¬ t ∣ q) (h : q ∣ r * s) : q ∣ r ∨ q ∣ s := by
  have hg : Nat.gcd q r ∣ q := Nat.gcd_dvd_left q r
  have hpos : 0 < Nat.gcd q r := Nat.gcd_pos_of_pos_left r (by omega)
  have hle : Nat.gcd q r ≤ q := Nat.le_of_dvd (by omega) hg
  by_cases h1 : Nat.gcd q r = 1
  · right
    exact Nat.Coprime.dvd_of_dvd_mul_left h1 h
  · left
    by_cases h2 : Nat.gcd q r = q
    · rw [← h2]; exact Nat.gcd_dvd_right q r
    · exact absurd hg (hm _ (by omega) (by omega))
/-- The least divisor. -/
theorem least_div (m : Nat) (hm : 2 ≤ m) : ∃ q, 2 ≤ q ∧ q ∣ m ∧ ∀ t, 2 ≤ t → t < q → ¬ t ∣ q := by
  induction m using Nat.strongRecOn with
  | _ m ih =>
    by_cases h : ∃ t, 2 ≤ t ∧ t < m ∧ t ∣ m
    · obtain ⟨t, h1, h2, h3⟩ := h
      obtain ⟨q, h4, h5, h6⟩ := ih t h2 h1
      exact ⟨q, h4, Nat.dvd_trans h5 h3, h6⟩
    · exact ⟨m, hm, Nat.dvd_refl m, fun t h1 h2 h3 => h ⟨t, h1, h2, h3⟩⟩
theorem small_prime (r : Nat) (hr : (List.range (r + 1)).all (fun t => t == 0 || t == 1 || t == r || !(r % t == 0)) = true) (h2 : 2 ≤ r) {q : Nat} (hq : 2 ≤ q) (h : q ∣ r) : q = r := by
  have hle := Nat.le_of_dvd (by omega) h
  have := List.all_eq_true.1 hr q (List.mem_range.2 (by omega))
  have hm : r % q = 0 := Nat.mod_eq_zero_of_dvd h
  simp only [Bool.or_eq_true, beq_iff_eq, Bool.not_eq_true', beq_eq_false_iff_ne] at this
  rcases this with ((h | h) | h) | h
  · omega
  · omega
  · exact h
  · exact absurd hm h

/-- What maps n numbers below n to different numbers below n reaches each. -/
theorem reaches : ∀ (n : Nat) (f : Nat → Nat), (∀ i, i < n → f i < n) → (∀ i j, i < n → j < n → f i = f j → i = j) → ∀ y, y < n → ∃ i, i < n ∧ f i = y
  | 0, f, _, _, y, hy => by omega
  | n + 1, f, hb, hi, y, hy => by
    have hv : f n < n + 1 := hb n (by omega)
    have ih := reaches n (fun i => if f i = n then f n else f i) (fun i h => by
      show (if f i = n then f n else f i) < n
      by_cases e : f i = n
      · rw [if_pos e]
        have : f n ≠ n := fun e' => by have := hi i n (by omega) (by omega) (e.trans e'.symm); omega
        omega
      · rw [if_neg e]
        have := hb i (by omega)
        omega) (fun i j h1 h2 he => by
      have he : (if f i = n then f n else f i) = (if f j = n then f n else f j) := he
      by_cases e1 : f i = n
      · rw [if_pos e1] at he
        by_cases e2 : f j = n
        · exact hi i j (by omega) (by omega) (e1.trans e2.symm)
        · rw [if_neg e2] at he
          have := hi n j (by omega) (by omega) he
          omega
      · rw [if_neg e1] at he
        by_cases e2 : f j = n
        · rw [if_pos e2] at he
          have := hi i n (by omega) (by omega) he
          omega
        · rw [if_neg e2] at he
          exact hi i j (by omega) (by omega) he)
    by_cases hyn : y < n
    · obtain ⟨i, h1, h2⟩ := ih y hyn
      have h2 : (if f i = n then f n else f i) = y := h2
      by_cases e : f i = n
      · rw [if_pos e] at h2; exact ⟨n, by omega, h2⟩
      · rw [if_neg e] at h2; exact ⟨i, by omega, h2⟩
    · have hy' : y = n := by omega
      subst hy'
      by_cases e0 : f y = y
      · exact ⟨y, by omega, e0⟩
      · obtain ⟨i, h1, h2⟩ := ih (f y) (by omega)
        have h2 : (if f i = y then f y else f i) = f y := h2
        by_cases e : f i = y
        · exact ⟨i, by omega, e⟩
        · rw [if_neg e] at h2
          have := hi i y (by omega) (by omega) h2
          omega

theorem g_full {N : Nat} (hN : N = 2305843009213693950) : 37 ^ N % 2305843009213693951 = 1 := by
  have := pmE_eq 61 37 N 1 (by rw [hN]; decide)
  rw [Nat.one_mul] at this
  rw [← this, hN]; decide +kernel
theorem g_not (k : Nat) (hk : k < 2 ^ 61) (h : (pmE 61 37 k 1 == 1) = false) : 37 ^ k % 2305843009213693951 ≠ 1 := by
  have := pmE_eq 61 37 k 1 hk
  rw [Nat.one_mul] at this
  rw [← this]; simpa using h
theorem part_not {e m q k : Nat} (he : 37 ^ e % 2305843009213693951 = 1) (hN : e * m = 2305843009213693950) (hq : q ∣ m) (hqk : q * k = 2305843009213693950) (h0 : 0 < q) (hk : k < 2 ^ 61) (h : (pmE 61 37 k 1 == 1) = false) : False := by
  obtain ⟨c, rfl⟩ := hq
  have e1 : k = e * c := by
    have : q * k = q * (e * c) := by rw [hqk, ← hN, Nat.mul_left_comm]
    exact Nat.eq_of_mul_eq_mul_left h0 this
  exact g_not k hk h (by rw [e1]; exact pow_mod_one (by decide) he)
theorem g_order (d : Nat) (h0 : 0 < d) (hd : d < 2305843009213693950) : 37 ^ d % 2305843009213693951 ≠ 1 := by
  intro h
  have he := pow_gcd (by decide) d _ h (g_full rfl)
  have hdv : Nat.gcd d 2305843009213693950 ∣ 2305843009213693950 := Nat.gcd_dvd_right _ _
  have hle : Nat.gcd d 2305843009213693950 ≤ d := Nat.gcd_le_left _ h0
  generalize Nat.gcd d 2305843009213693950 = e at he hdv hle
  obtain ⟨m, hm⟩ := hdv
  have hm2 : 2 ≤ m := by
    rcases Nat.lt_or_ge m 2 with h | h
    · have : m = 0 ∨ m = 1 := by omega
      rcases this with rfl | rfl <;> omega
    · exact h
  obtain ⟨q, hq2, hqm, hqp⟩ := least_div m hm2
  have hN : q ∣ 2305843009213693950 := by rw [hm]; exact Nat.dvd_trans hqm (Nat.dvd_mul_left m e)
  have key : q = 2 ∨ q = 3 ∨ q = 5 ∨ q = 7 ∨ q = 11 ∨ q = 13 ∨ q = 31 ∨ q = 41 ∨ q = 61 ∨ q = 151 ∨ q = 331 ∨ q = 1321 := by
    rw [show (2305843009213693950 : Nat) = 2 * (3 * (3 * (5 * (5 * (7 * (11 * (13 * (31 * (41 * (61 * (151 * (331 * 1321)))))))))))) from by decide] at hN
    rcases prime_dvd hq2 hqp hN with h | h
    · exact .inl (small_prime 2 (by decide) (by decide) hq2 h)
    rcases prime_dvd hq2 hqp h with h | h
    · have := small_prime 3 (by decide) (by decide) hq2 h; omega
    rcases prime_dvd hq2 hqp h with h | h
    · have := small_prime 3 (by decide) (by decide) hq2 h; omega
    rcases prime_dvd hq2 hqp h with h | h
    · have := small_prime 5 (by decide) (by decide) hq2 h; omega
    rcases prime_dvd hq2 hqp h with h | h
    · have := small_prime 5 (by decide) (by decide) hq2 h; omega
    rcases prime_dvd hq2 hqp h with h | h
    · have := small_prime 7 (by decide) (by decide) hq2 h; omega
    rcases prime_dvd hq2 hqp h with h | h
    · have := small_prime 11 (by decide +kernel) (by decide) hq2 h; omega
    rcases prime_dvd hq2 hqp h with h | h
    · have := small_prime 13 (by decide +kernel) (by decide) hq2 h; omega
    rcases prime_dvd hq2 hqp h with h | h
    · have := small_prime 31 (by decide +kernel) (by decide) hq2 h; omega
    rcases prime_dvd hq2 hqp h with h | h
    · have := small_prime 41 (by decide +kernel) (by decide) hq2 h; omega
    rcases prime_dvd hq2 hqp h with h | h
    · have := small_prime 61 (by decide +kernel) (by decide) hq2 h; omega
    rcases prime_dvd hq2 hqp h with h | h
    · have := small_prime 151 (by decide +kernel) (by decide) hq2 h; omega
    rcases prime_dvd hq2 hqp h with h | h
    · have := small_prime 331 (by decide +kernel) (by decide) hq2 h; omega
    · have := small_prime 1321 (by decide +kernel) (by decide) hq2 h; omega
  rcases key with rfl | rfl | rfl | rfl | rfl | rfl | rfl | rfl | rfl | rfl | rfl | rfl
  · exact part_not (q := 2) (k := 1152921504606846975) he hm.symm hqm (by decide) (by decide) (by decide) (by decide +kernel)
  · exact part_not (q := 3) (k := 768614336404564650) he hm.symm hqm (by decide) (by decide) (by decide) (by decide +kernel)
  · exact part_not (q := 5) (k := 461168601842738790) he hm.symm hqm (by decide) (by decide) (by decide) (by decide +kernel)
  · exact part_not (q := 7) (k := 329406144173384850) he hm.symm hqm (by decide) (by decide) (by decide) (by decide +kernel)
  · exact part_not (q := 11) (k := 209622091746699450) he hm.symm hqm (by decide) (by decide) (by decide) (by decide +kernel)
  · exact part_not (q := 13) (k := 177372539170284150) he hm.symm hqm (by decide) (by decide) (by decide) (by decide +kernel)
  · exact part_not (q := 31) (k := 74382032555280450) he hm.symm hqm (by decide) (by decide) (by decide) (by decide +kernel)
  · exact part_not (q := 41) (k := 56240073395455950) he hm.symm hqm (by decide) (by decide) (by decide) (by decide +kernel)
  · exact part_not (q := 61) (k := 37800705069076950) he hm.symm hqm (by decide) (by decide) (by decide) (by decide +kernel)
  · exact part_not (q := 151) (k := 15270483504726450) he hm.symm hqm (by decide) (by decide) (by decide) (by decide +kernel)
  · exact part_not (q := 331) (k := 6966293079195450) he hm.symm hqm (by decide) (by decide) (by decide) (by decide +kernel)
  · exact part_not (q := 1321) (k := 1745528394559950) he hm.symm hqm (by decide) (by decide) (by decide) (by decide +kernel)
theorem g_inj {N : Nat} (hN : N = 2305843009213693950) (i j : Nat) (hi : i < 2305843009213693950) (hj : j < 2305843009213693950) (hij : i < j) (h : 37 ^ i % 2305843009213693951 = 37 ^ j % 2305843009213693951) : False := by
  refine g_order (j - i) (by omega) (by omega) ?_
  have e1 : 37 ^ (N - i) * 37 ^ j = 37 ^ N * 37 ^ (j - i) := by rw [← Nat.pow_add, ← Nat.pow_add]; congr 1; omega
  have e2 : 37 ^ (N - i) * 37 ^ i = 37 ^ N := by rw [← Nat.pow_add]; congr 1; omega
  have e3 : 37 ^ (N - i) * 37 ^ j % 2305843009213693951 = 37 ^ (N - i) * 37 ^ i % 2305843009213693951 := by rw [Nat.mul_mod, ← h, ← Nat.mul_mod]
  rw [e1, e2, g_full hN, Nat.mul_mod, g_full hN, Nat.one_mul, Nat.mod_mod] at e3
  exact e3
theorem g_pos {N : Nat} (hN : N = 2305843009213693950) (i : Nat) (hi : i < 2305843009213693950) : 37 ^ i % 2305843009213693951 ≠ 0 := by
  intro h
  have e2 : 37 ^ (N - i) * 37 ^ i = 37 ^ N := by rw [← Nat.pow_add]; congr 1; omega
  have e3 : 37 ^ (N - i) * 37 ^ i % 2305843009213693951 = 0 := by rw [Nat.mul_mod, h, Nat.mul_zero, Nat.zero_mod]
  rw [e2, g_full hN] at e3
  cases e3
theorem g_reaches (a : Nat) (ha : a % 2305843009213693951 ≠ 0) : ∃ k, 37 ^ k % 2305843009213693951 = a % 2305843009213693951 := by
  have hlt := Nat.mod_lt a (show 0 < 2305843009213693951 by decide)
  obtain ⟨i, h1, h2⟩ := reaches 2305843009213693950 (fun i => 37 ^ i % 2305843009213693951 - 1) (fun i hi => by
      have := g_pos rfl i hi
      have := Nat.mod_lt (37 ^ i) (show 0 < 2305843009213693951 by decide)
      show 37 ^ i % 2305843009213693951 - 1 < _
      omega) (fun i j hi hj h => by
      have h1 := g_pos rfl i hi
      have h2 := g_pos rfl j hj
      have h : 37 ^ i % 2305843009213693951 - 1 = 37 ^ j % 2305843009213693951 - 1 := h
      have h3 : 37 ^ i % 2305843009213693951 = 37 ^ j % 2305843009213693951 := by omega
      rcases Nat.lt_trichotomy i j with h | h | h
      · exact (g_inj rfl i j hi hj h h3).elim
      · exact h
      · exact (g_inj rfl j i hj hi h h3.symm).elim) (a % 2305843009213693951 - 1) (by omega)
  refine ⟨i, ?_⟩
  have h2 : 37 ^ i % 2305843009213693951 - 1 = a % 2305843009213693951 - 1 := h2
  have := g_pos rfl i h1
  omega
/-- Fermat's theorem. -/
theorem fermat {N : Nat} (hN : N = 2305843009213693950) (a : Nat) (ha : a % 2305843009213693951 ≠ 0) : a ^ N % 2305843009213693951 = 1 := by
  obtain ⟨k, hk⟩ := g_reaches a ha
  rw [Nat.pow_mod, ← hk, ← Nat.pow_mod, ← Nat.pow_mul, Nat.mul_comm]
  exact pow_mod_one (by decide) (g_full hN)
theorem inverse {M : Nat} (hM : M = 2305843009213693949) (a : Nat) (ha : a % 2305843009213693951 ≠ 0) : a * a ^ M % 2305843009213693951 = 1 := by
  have := fermat (N := M + 1) (by omega) a ha
  rw [Nat.pow_succ, Nat.mul_comm] at this
  exact this
end Go.Proofs.Ytmmnkloadooobaa
