/-
  Any shares that are enough give back the secret: the plain law. No condition.
-/
import Derived.Test.YtgjbkdlbhbfeiaaShLag
namespace Go.Proofs.Ytgjbkdlbhbfeiaa
open Go.RowKit

theorem set_getD_ne {l : List Bool} {i j : Nat} (h : i ≠ j) (b : Bool) : (l.set i b).getD j false = l.getD j false := by
  rw [List.getD_eq_getElem?_getD, List.getD_eq_getElem?_getD, List.getElem?_set_ne h]
theorem chk_ok (first : Nat) : ∀ (l : List Sh) (seen : List Bool), (∀ p ∈ l, 1 ≤ p.1 ∧ p.1 ≤ 255 ∧ p.2.length = first ∧ p.2.length ≤ 64) → (l.map (·.1)).Nodup → (∀ p ∈ l, seen.getD p.1.toNat false = false) → chk first seen l = 0
  | [], _, _, _, _ => rfl
  | q :: l, seen, h, hn, hs => by
    obtain ⟨h1, h2, h3, h4⟩ := h q (by simp)
    rw [List.map_cons, List.nodup_cons] at hn
    rw [chk, if_neg (by omega), if_neg (by rw [hs q (by simp)]; decide), if_neg (by omega), if_neg (by omega)]
    refine chk_ok first l _ (fun p hp => h p (by simp [hp])) hn.2 (fun p hp => ?_)
    obtain ⟨k1, k2, _, _⟩ := h p (by simp [hp])
    have hne : q.1 ≠ p.1 := fun e => hn.1 (List.mem_map.2 ⟨p, hp, e.symm⟩)
    rw [set_getD_ne (by omega)]
    exact hs p (by simp [hp])
theorem nodup_map_ {α β : Type} {f : α → β} (hf : ∀ a b, f a = f b → a = b) : ∀ {l : List α}, l.Nodup → (l.map f).Nodup
  | [], _ => by simp
  | a :: l, h => by
    rw [List.nodup_cons] at h
    rw [List.map_cons, List.nodup_cons]
    refine ⟨fun hm => ?_, nodup_map_ hf h.2⟩
    obtain ⟨b, hb, e⟩ := List.mem_map.1 hm
    exact h.1 (hf b a e ▸ hb)
theorem nodup_at {l : List Nat} (h : l.Nodup) {i k : Nat} (hi : i < l.length) (hk : k < l.length) (hne : i ≠ k) : l[i] ≠ l[k] := by
  have hp := List.pairwise_iff_getElem.1 h
  rcases Nat.lt_or_gt_of_ne hne with h1 | h1
  · exact hp i k hi hk h1
  · exact fun e => hp k i hk hi h1 e.symm
theorem u8_small {a : Nat} (h : a < 256) : (u8 (a : Int)).toNat = a := by
  have := bv_ofInt a
  rw [IntKind.wrap_u8] at this
  unfold bv at this
  omega
section
variable (s r : List UInt8) (K : Nat)
def mk (js : List Nat) : List Sh := js.map (splitS s r K)
theorem mk_at {js : List Nat} {i : Nat} (hi : i < js.length) : (mk s r K js).getD i default = splitS s r K js[i] := by
  rw [mk, List.getD_eq_getElem?_getD, List.getElem?_map, List.getElem?_eq_getElem hi]; rfl
theorem mk_chk {js : List Nat} (hn : js.Nodup) (hj : ∀ j ∈ js, j < 10) (hs : s.length ≤ 64) : chkE (mk s r K js) = 0 := by
  cases js with
  | nil => rfl
  | cons j0 js =>
    refine chk_ok _ _ _ (fun p hp => ?_) ?_ (fun p hp => ?_)
    · obtain ⟨j, hj1, rfl⟩ := List.mem_map.1 hp
      have := hj j hj1
      refine ⟨by show (1 : Int) ≤ (j : Int) + 1; omega, by show (j : Int) + 1 ≤ 255; omega, ?_, ?_⟩
      · show (splitD s r K _).length = _
        rw [mk_at s r K (show 0 < (j0 :: js).length by simp)]
        show _ = (splitD s r K _).length
        simp [splitD]
      · show (splitD s r K _).length ≤ 64
        simpa [splitD] using hs
    · rw [mk, List.map_map]
      exact nodup_map_ (f := fun j : Nat => (j : Int) + 1) (fun a b e => by simp at e; omega) hn
    · rw [List.getD_eq_getElem?_getD, List.getElem?_replicate]; split <;> rfl
theorem range_getD_self (l : List UInt8) : (List.range l.length).map (fun i => l.getD i 0) = l := by
  apply List.ext_getElem?
  intro i
  by_cases h : i < l.length
  · simp [h]
  · rw [List.getElem?_eq_none (by simp; omega), List.getElem?_eq_none (by omega)]
theorem rest_at {js : List Nat} (hn : js.Nodup) (hj : ∀ j ∈ js, j < 10) (hs : s.length ≤ 64) (hK : 1 ≤ K) (hl : K ≤ js.length) {x : Int} (h0 : 0 ≤ x) (h1 : x ≤ 255) :
    atE (mk s r K js) x = 0 ∧ atD (mk s r K js) x = splitD s r K (u8 x) := by
  have hlen : (mk s r K js).length = js.length := by simp [mk]
  have he : atE (mk s r K js) x = 0 := by
    rw [atE, if_neg (by omega), if_neg (by omega)]; exact mk_chk s r K hn hj hs
  refine ⟨he, ?_⟩
  have hL : ((mk s r K js).getD 0 default).2.length = s.length := by
    rw [mk_at s r K (show 0 < js.length by omega)]; show (splitD s r K _).length = _; simp [splitD]
  rw [atD, if_pos he]
  have ha := ares_len (mk s r K js) (u8 x) (mk s r K js).length
  rw [← range_getD_self (ares (mk s r K js) (u8 x) (mk s r K js).length), ha, hL, splitD]
  refine List.map_congr_left fun j hjm => ?_
  rw [List.mem_range] at hjm
  rw [ares_lag _ _ j (by omega)]
  have hd : ∀ i k, i < (mk s r K js).length → k < (mk s r K js).length → i ≠ k → u8 ((mk s r K js).getD i default).1 ≠ u8 ((mk s r K js).getD k default).1 := by
    intro i k hi hk hik e
    rw [hlen] at hi hk
    rw [mk_at s r K hi, mk_at s r K hk] at e
    have e2 := congrArg UInt8.toNat e
    have q1 := hj js[i] (List.getElem_mem hi)
    have q2 := hj js[k] (List.getElem_mem hk)
    have e3 : (u8 ((js[i] : Int) + 1)).toNat = (u8 ((js[k] : Int) + 1)).toNat := e2
    rw [show (js[i] : Int) + 1 = ((js[i] + 1 : Nat) : Int) by omega, show (js[k] : Int) + 1 = ((js[k] + 1 : Nat) : Int) by omega, u8_small (by omega), u8_small (by omega)] at e3
    exact nodup_at hn hi hk hik (by omega)
  have := lag_eq (mk s r K js) ((splitB_poly s r K hK j).mono (by omega)) hd (u8 x)
  rw [← this]
  refine xsum_congr fun i hi => ?_
  rw [hlen] at hi
  show gmul _ (((mk s r K js).getD i default).2.getD j 0) = gmul _ (splitB s r K (u8 ((mk s r K js).getD i default).1) j)
  rw [mk_at s r K hi]
  show gmul _ ((splitD s r K _).getD j 0) = _
  rw [splitD, range_getD _ _ hjm]
  rfl
theorem rest_zero {js : List Nat} (hn : js.Nodup) (hj : ∀ j ∈ js, j < 10) (hs : s.length ≤ 64) (hK : 1 ≤ K) (hl : K ≤ js.length) : atD (mk s r K js) 0 = s := by
  rw [(rest_at s r K hn hj hs hK hl (Int.le_refl 0) (by omega)).2, splitD]
  rw [show (u8 0) = 0 from rfl]
  conv => rhs; rw [← range_getD_self s]
  exact List.map_congr_left fun j _ => splitB_zero ..
end
/-- Lists without doubles. -/
theorem nodup_sub : ∀ {l m : List Nat}, l.Nodup → (∀ x ∈ l, x ∈ m) → l.length ≤ m.length
  | [], m, _, _ => by simp
  | a :: l, m, hn, hs => by
    rw [List.nodup_cons] at hn
    have ha : a ∈ m := hs a (by simp)
    have := nodup_sub (l := l) (m := m.erase a) hn.2 (fun x hx => by
      have hne : x ≠ a := fun e => hn.1 (e ▸ hx)
      exact (List.mem_erase_of_ne hne).2 (hs x (by simp [hx])))
    rw [List.length_erase_of_mem ha] at this
    have : 0 < m.length := List.length_pos_of_mem ha
    simp; omega
def seenL (n : Nat) (js : List Nat) : List Bool := (List.range n).map fun t => decide (t ∈ js)
theorem seenL_len (n : Nat) (js : List Nat) : (seenL n js).length = n := by simp [seenL]
theorem seenL_get {n : Nat} (js : List Nat) {j : Nat} (h : j < n) : (seenL n js).getD j false = decide (j ∈ js) := range_getD _ _ h
theorem seenL_set {n : Nat} (js : List Nat) {j : Nat} : (seenL n js).set j true = seenL n (js ++ [j]) := by
  apply List.ext_getElem?
  intro i
  by_cases hi : i < n
  · rw [List.getElem?_set]
    by_cases e : j = i
    · subst e; simp [seenL, hi]
    · simp [seenL, hi, e, Ne.symm e]
  · rw [List.getElem?_eq_none (by simp [seenL]; omega), List.getElem?_eq_none (by simp [seenL]; omega)]
theorem seenL_nil (n : Nat) : List.replicate n false = seenL n [] := by
  apply List.ext_getElem?
  intro i
  by_cases hi : i < n <;> simp [seenL, hi]
end Go.Proofs.Ytgjbkdlbhbfeiaa
