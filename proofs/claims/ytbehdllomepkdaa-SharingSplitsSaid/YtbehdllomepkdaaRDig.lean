/-
  The contracts of package digest and of the reference's, in the plain reading. Conditions where the texts below say so: at most a million words, labels of at most a million bytes; the reference: at most 10^9 bytes.
-/
import Derived.Test.YtbehdllomepkdaaRefUse
import Derived.Test.YtbehdllomepkdaaR20
namespace Go.Proofs.Ytbehdllomepkdaa
open Go.RowKit

theorem rep_words {S : Nat → Prop} {w : World} {v : Value} {bs : List UInt64} (h : Rep S w v (.sl 1 (wordsA bs))) (hS : ∀ b, S b → b < w.heap.size) : SliceAt w v (wvs bs) := by
  cases h with
  | sl A n c e us row hl hn hc hm ha h =>
    have hus : us = wvs bs := by
      apply List.ext_getElem?
      intro j
      cases hu : us[j]? with
      | none =>
        have : us.length ≤ j := List.getElem?_eq_none_iff.1 hu
        rw [List.getElem?_eq_none (by rw [wvs_len]; rw [wordsA_len] at hl; omega)]
      | some u =>
        have hj : j < bs.length := by have := (List.getElem?_eq_some_iff.1 hu).1; rw [hl, wordsA_len] at this; exact this
        have hx : (wordsA bs)[j]? = some (.val (.int .u64 (wv bs[j]))) := by simp [wordsA, hj]
        have := h j u _ hu hx
        cases this
        simp [wvs, hj]
    subst hus
    rw [wordsA_len] at hn ha
    have hn' : bs.length = n := by omega
    subst hn'
    refine ⟨A, c, by rw [wvs_len], by rw [wvs_len]; exact hc, hm, by rw [wvs_len], fun h0 => ?_⟩
    rw [wvs_len] at h0
    obtain ⟨ad, e, hs, hcell⟩ := ha h0
    exact ⟨ad, e, hS _ hs, hcell⟩
theorem rep_val {S : Nat → Prop} {w : World} {v u : Value} (h : Rep S w v (.val u)) : v = u := by cases h; rfl
/-- A function that returns one plain value. -/
theorem Ret.of_val {P : Program} {f : FuncId} {args : List AV} {u : Value} (h : ∀ (w : World) (vs : List Value), vs.length = args.length → (∀ (j : Nat) v x, vs[j]? = some v → args[j]? = some x → Rep (fun b => b < w.heap.size) w v x) →
    Calls P f vs.toArray w fun e w' => e = .returned u ∧ Below w.heap.size w w') : Ret P f args (.val u) := by
  intro w S vs hS hl hr
  refine (h w vs hl fun j v x hv hx => (hr j v x hv hx).mono fun b hb => ⟨hS b hb, rfl⟩).mono fun e w' ⟨he, hb⟩ => ?_
  exact ⟨u, [], he, hb, List.nodup_nil, by simp, .inl (.inl (.rep (.val u)))⟩
/-- A function that returns new bytes. -/
theorem Ret.of_bytes {P : Program} {f : FuncId} {args : List AV} {bs : List UInt8} (h : ∀ (w : World) (vs : List Value), vs.length = args.length → (∀ (j : Nat) v x, vs[j]? = some v → args[j]? = some x → Rep (fun b => b < w.heap.size) w v x) →
    Calls P f vs.toArray w fun e w' => NewBytes w e w' bs) : Ret P f args (.own 1 (bytesA bs)) := by
  intro w S vs hS hl hr
  refine (h w vs hl fun j v x hv hx => (hr j v x hv hx).mono fun b hb => ⟨hS b hb, rfl⟩).mono fun e w' ⟨v, he, ho, hb⟩ => ?_
  rcases ho with ⟨rfl, hn⟩ | ⟨g, cap, cur, te, fr, rfl, hg0, hg, hlc, hcm, hcs, htk, hfr⟩
  · have : bs = [] := by cases bs with
      | nil => rfl
      | cons a l => simp [bvs] at hn
    subst this
    exact ⟨_, [], he, hb, List.nodup_nil, by simp, .inl (.inl (.nil 1))⟩
  · have hlt : g < w'.heap.size := by
      rcases Nat.lt_or_ge g w'.heap.size with h | h
      · exact h
      · rw [Array.getElem?_eq_none h] at hg; cases hg
    refine ⟨_, [g], he, hb, by simp, by simp [hg0, hlt], .inl (.inl (.own g _ cap 1 (bytesA bs) cur te fr hg (fun j hj => hfr j (by omega)) (by rw [bytesA_len, bvs_len, Nat.one_mul]) hlc hcm (by omega) ?_))⟩
    intro j u x hu hx
    have hj : j < bs.length := by have := (List.getElem?_eq_some_iff.1 hx).1; rwa [bytesA_len] at this
    have hx' : x = .val (.int .u8 (bv bs[j])) := by simp [bytesA, hj] at hx; exact hx.symm
    subst hx'
    have hu2 : (bvs bs)[j]? = some u := by
      rw [← htk, List.getElem?_take_of_lt (by rw [bvs_len]; exact hj)]; simpa using hu
    have : u = .int .u8 (bv bs[j]) := by simp [bvs, hj] at hu2; exact hu2.symm
    subst this
    exact .val _
theorem args1 {vs : List Value} {xs : List AV} (h : vs.length = xs.length) (hx : xs.length = 1) : ∃ v, vs = [v] := by
  match vs, h with
  | [v], _ => exact ⟨v, rfl⟩
  | [], h => simp at h; omega
  | _ :: _ :: _, h => simp at h; omega
theorem args2 {vs : List Value} {xs : List AV} (h : vs.length = xs.length) (hx : xs.length = 2) : ∃ v u, vs = [v, u] := by
  match vs, h with
  | [v, u], _ => exact ⟨v, u, rfl⟩
  | [], h => simp at h; omega
  | [_], h => simp at h; omega
  | _ :: _ :: _ :: _, h => simp at h; omega
theorem args3 {vs : List Value} {xs : List AV} (h : vs.length = xs.length) (hx : xs.length = 3) : ∃ v u t, vs = [v, u, t] := by
  match vs, h with
  | [v, u, t], _ => exact ⟨v, u, t, rfl⟩
  | [], h => simp at h; omega
  | [_], h => simp at h; omega
  | [_, _], h => simp at h; omega
  | _ :: _ :: _ :: _ :: _, h => simp at h; omega

theorem sum_ret (k0 k1 : UInt64) (bs : List UInt8) : Ret Try.prog 57 [aw k0, aw k1, .sl 1 (bytesA bs)] (aw (sum k0 k1 bs)) := by
  refine Ret.of_val fun w vs hl hr => ?_
  obtain ⟨a, b, c, rfl⟩ := args3 hl rfl
  rw [rep_val (hr 0 a _ rfl rfl), rep_val (hr 1 b _ rfl rfl)]
  exact sum_at k0 k1 c bs w (rep_bytes (hr 2 c _ rfl rfl) (fun _ h => h))
theorem words_ret (l : List UInt64) (hl : l.length ≤ 1000000) : Ret Try.prog 48 [.sl 1 (wordsA l)] (.own 1 (bytesA (words l))) := by
  refine Ret.of_bytes fun w vs hv hr => ?_
  obtain ⟨a, rfl⟩ := args1 hv rfl
  exact words_at a l w (rep_words (hr 0 a _ rfl rfl) (fun _ h => h)) hl
theorem mac_ret (key : UInt64) (d : Int) (bs : List UInt8) : Ret Try.prog 47 [aw key, ai d, .sl 1 (bytesA bs)] (aw (mac key d bs)) := by
  refine Ret.of_val fun w vs hl hr => ?_
  obtain ⟨a, b, c, rfl⟩ := args3 hl rfl
  rw [rep_val (hr 0 a _ rfl rfl), rep_val (hr 1 b _ rfl rfl)]
  exact mac_any key d c bs w (rep_bytes (hr 2 c _ rfl rfl) (fun _ h => h))
theorem refsum_ret (k0 k1 : UInt64) (bs : List UInt8) (hb : bs.length ≤ 1000000000) : Ret Try.prog 58 [aw k0, aw k1, .sl 1 (bytesA bs)] (aw (sum k0 k1 bs)) := by
  refine Ret.of_val fun w vs hl hr => ?_
  obtain ⟨a, b, c, rfl⟩ := args3 hl rfl
  rw [rep_val (hr 0 a _ rfl rfl), rep_val (hr 1 b _ rfl rfl)]
  exact refsum_at k0 k1 c bs w (rep_bytes (hr 2 c _ rfl rfl) (fun _ h => h)) hb
theorem refwords_ret (l : List UInt64) (hl : l.length ≤ 1000000) : Ret Try.prog 49 [.sl 1 (wordsA l)] (.own 1 (bytesA (words l))) := by
  refine Ret.of_bytes fun w vs hv hr => ?_
  obtain ⟨a, rfl⟩ := args1 hv rfl
  exact refwords_at a l w (rep_words (hr 0 a _ rfl rfl) (fun _ h => h)) hl
theorem refmac_ret (key : UInt64) (d : Int) (bs : List UInt8) (hb : bs.length ≤ 1000000000) : Ret Try.prog 50 [aw key, ai d, .sl 1 (bytesA bs)] (aw (mac key d bs)) := by
  refine Ret.of_val fun w vs hl hr => ?_
  obtain ⟨a, b, c, rfl⟩ := args3 hl rfl
  rw [rep_val (hr 0 a _ rfl rfl), rep_val (hr 1 b _ rfl rfl)]
  exact refmac_any key d c bs w (rep_bytes (hr 2 c _ rfl rfl) (fun _ h => h)) hb
end Go.Proofs.Ytbehdllomepkdaa
