/-
  A region that draws its order leaves, in every order, what the plain state says. Over any program. No condition.
-/
import Derived.Test.YtbehdllomepkdaaR14
namespace Go.Proofs.Ytbehdllomepkdaa
open Go.RowKit

section
variable {P : Program} {ops : List Oper} {S0 : Nat → Prop} {w0 : World} {Q : Exit → Act → World → Prop}
theorem evHG_ok {s : AS} {o : Oper} {h : Hint} {r : AV × List Prop} (hr : evHG P ops s o h = some r) (hC : AllP r.2) {n : Nat} {a b : Act} {w : World} {φ : Nat → Option Nat} (hs : SimO S0 w0 n [] s a w φ) (hb : b.tmps = a.tmps) :
    opRule P ops.toArray Q o b w fun v w' => w.heap.size ≤ w'.heap.size ∧ Den (infoOf s.H φ) (Free S0 w' φ []) w' v r.1 := by
  unfold evHG at hr
  unfold opRule
  split at hr
  · rename_i hg
    have hw : Region.wanted o (yielded ops.toArray b.tmps) = true := by unfold Region.wanted; rw [hg]
    rw [if_pos hw]
    exact Oper.wp_mono (fun b' w' ⟨v, h1, h2, h3⟩ => ⟨v, h1, h2, h2.size, h3⟩) (evHead_ok hr hC S0 w0 n a w φ Q b hs hb)
  · rename_i j want hg
    split at hr
    · rename_i p hp
      split at hr
      · rename_i d hd
        split at hr
        · rename_i bb hbb
          have ht := hs.get d
          rw [hbb] at ht
          have hy := yielded_at (ops := ops) hp hd (den_bool ht)
          rw [← hb] at hy
          split at hr
          · rename_i hwant
            split at hr
            · rename_i x C he
              cases hr
              obtain ⟨hbg, hC⟩ := hC
              have hw : Region.wanted o (yielded ops.toArray b.tmps) = true := by
                unfold Region.wanted; rw [hg]; simp only [hy, hbg]
                have : h.g = want := by simpa using hwant
                rw [this]; simp
              rw [if_pos hw]
              exact Oper.wp_mono (fun b' w' ⟨v, h1, h2, h3⟩ => ⟨v, h1, h2, h2.size, h3⟩) (evHead_ok he hC S0 w0 n a w φ Q b hs hb)
            · cases hr
          · rename_i hwant
            cases hr
            obtain ⟨hbg, -⟩ := hC
            have hw : ¬ Region.wanted o (yielded ops.toArray b.tmps) = true := by
              unfold Region.wanted; rw [hg]; simp only [hy, hbg]
              have : ¬ h.g = want := by simpa using hwant
              simpa using this
            rw [if_neg hw]
            exact ⟨Nat.le_refl _, .dead _⟩
        · cases hr
      · cases hr
    · cases hr

theorem evHeads_at {s : AS} {ds : List Nat} {hs : List (Nat × Hint)} : ∀ (l : List Oper) (i : Nat) (avs avs' : List AV) (C : List Prop), evHeads P s ds ops hs l i avs = some (avs', C) → AllP C → avs.length = i →
    avs'.length = i + l.length ∧ avs'.take i = avs ∧ ∀ (j : Nat) (o : Oper), l[j]? = some o → ∃ x D, avs'[i + j]? = some x ∧ evHG P ops (atOp s ds ops (avs'.take (i + j)) o) o (hintAt hs (i + j)) = some (x, D) ∧ AllP D
  | [], i, avs, avs', C, he, hC, hl => by
    cases he
    exact ⟨by simp [hl], by rw [← hl, List.take_length], fun j o h => by simp at h⟩
  | o :: l, i, avs, avs', C, he, hC, hl => by
    simp only [evHeads] at he
    split at he
    · rename_i x C1 h1
      split at he
      · rename_i avs2 D h2
        cases he
        obtain ⟨hC1, hD⟩ := allP_app.1 hC
        obtain ⟨e1, e2, e3⟩ := evHeads_at l (i + 1) (avs ++ [x]) avs' D h2 hD (by simp [hl])
        have e4 : avs'.take i = avs := by
          have := congrArg (List.take i) e2
          rw [List.take_take, Nat.min_eq_left (by omega), ← hl, List.take_left] at this
          rw [← hl]; exact this
        have e5 : avs'[i]? = some x := by
          have h3 : (avs'.take (i + 1))[i]? = some x := by rw [e2, List.getElem?_append_right (by omega), hl]; simp
          exact take_get _ _ _ _ h3
        refine ⟨by rw [e1, List.length_cons]; omega, e4, fun j p hp => ?_⟩
        cases j with
        | zero =>
          simp at hp; subst hp
          exact ⟨x, C1, by simpa using e5, by simp only [Nat.add_zero]; rw [e4]; exact h1, hC1⟩
        | succ j =>
          obtain ⟨y, D', h5, h6, h7⟩ := e3 j p (by simpa using hp)
          rw [show i + 1 + j = i + (j + 1) by omega] at h5 h6
          exact ⟨y, D', h5, h6, h7⟩
      · cases he
    · cases he

theorem look_headF : ∀ (l : List Oper) (m : List AV) (i : Nat) (x : AV), look (headF l m) i = some x → ∃ (k : Nat) (o : Oper), l[k]? = some o ∧ o.dst = some i ∧ m[k]? = some x
  | [], m, i, x, h => by simp [headF, look] at h
  | o :: l, [], i, x, h => by simp [headF, look] at h
  | o :: l, y :: m, i, x, h => by
    simp only [headF] at h
    have step : look (headF l m) i = some x → ∃ (k : Nat) (p : Oper), (o :: l)[k]? = some p ∧ p.dst = some i ∧ (y :: m)[k]? = some x := fun h => by
      obtain ⟨k, p, h1, h2, h3⟩ := look_headF l m i x h
      exact ⟨k + 1, p, by simpa using h1, h2, by simpa using h3⟩
    split at h
    · rename_i d hd
      rw [look_cons] at h
      by_cases e : d = i
      · rw [if_pos e] at h; injection h with h; subst h; subst e
        exact ⟨0, o, rfl, hd, rfl⟩
      · rw [if_neg e] at h; exact step h
    · exact step h
theorem mem_head (ops : List Oper) (T : Nat) (p : Oper × Nat) : p ∈ ops.zipIdx.take T ↔ (p.2 < T ∧ ops[p.2]? = some p.1) := by
  rw [List.mem_iff_getElem?]
  constructor
  · rintro ⟨x, hx⟩
    rw [List.getElem?_take] at hx
    split at hx
    · rename_i hxT
      rw [List.getElem?_zipIdx] at hx
      cases ho : ops[x]? with
      | none => rw [ho] at hx; simp at hx
      | some q => rw [ho] at hx; simp at hx; subst hx; exact ⟨by simpa using hxT, by simpa using ho⟩
    · cases hx
  · rintro ⟨h1, h2⟩
    refine ⟨p.2, ?_⟩
    rw [List.getElem?_take, if_pos h1, List.getElem?_zipIdx, h2]; simp
theorem head_dsts (ops : List Oper) (T i : Nat) : i ∉ (ops.take T).filterMap (·.dst) ↔ ∀ (j : Nat) (p : Oper), j < T → ops[j]? = some p → p.dst ≠ some i := by
  constructor
  · intro h j p hj hp hd
    refine h (List.mem_filterMap.2 ⟨p, ?_, hd⟩)
    exact List.mem_of_getElem? (i := j) (by rw [List.getElem?_take, if_pos hj]; exact hp)
  · intro h hm
    obtain ⟨p, hp, hd⟩ := List.mem_filterMap.1 hm
    obtain ⟨j, hj⟩ := List.getElem?_of_mem hp
    rw [List.getElem?_take] at hj
    split at hj
    · rename_i hjT; exact h j p hjT hj hd
    · cases hj

theorem evDraw_ok {n T id : Nat} {hs : List (Nat × Hint)} {s s' : AS} {C : List Prop} (he : evDraw P n T ops hs s = some (s', C)) (hC : AllP C) {a : Act} {w : World} (hsim : Sim S0 w0 n s a w) (hQ : ∀ a' w', Sim S0 w0 n s' a' w' → Q .normal a' w') : (Code.region id ops.toArray true).wp P Q a w := by
  unfold evDraw at he
  split at he
  · rename_i hm hB hT
    split at he
    · rename_i avs C1 hheads
      split at he
      · rename_i s2 D htail
        cases he
        obtain ⟨hC1, hD⟩ := allP_app.1 hC
        obtain ⟨φ, hs0⟩ := hsim
        have hs1 : SimO S0 w0 n [] s a w.drew φ := hs0.grow ((Below.refl _ _).drew)
        obtain ⟨hlen, -, hat⟩ := evHeads_at _ 0 [] avs C1 hheads hC1 rfl
        simp only [Nat.zero_add] at hlen hat
        obtain ⟨hlt, hnd, hin⟩ := factsB_parts hB
        unfold tailB at hT
        simp only [Bool.and_eq_true, decide_eq_true_eq] at hT
        obtain ⟨⟨⟨hT1, hT2⟩, hT3⟩, hT4⟩ := hT
        have hTs : T < ops.length := by simpa using hT1
        have hal : avs.length = T := by rw [hlen, List.length_take]; omega
        -- the facts
        let F : Nat → Value → World → Prop := fun k v w' => w.heap.size ≤ w'.heap.size ∧ ∀ x, avs[k]? = some x → Den (infoOf s.H φ) (Free S0 w' φ []) w' v x
        have hmono : ∀ k v w1 w2, Below w1.heap.size w1 w2 → F k v w1 → F k v w2 := by
          intro k v w1 w2 hb ⟨h1, h2⟩
          refine ⟨Nat.le_trans h1 hb.size, fun x hx => (h2 x hx).mono (fun _ _ h => h) (fun b hS => ⟨⟨by have := hS.1; have := hb.size; omega, hS.2⟩, hb.block b hS.1⟩) (fun id e m g hi => ?_)⟩
          obtain ⟨r, -, -, -, hφ⟩ := info_some hi
          have := (hs0.rng id g hφ).2
          unfold cellsLen; rw [hb.block g (by omega)]
        refine wp_region_any hm (wpAny_tail hT1 hT2 hT3 hT4 hs0.tsz hB F hmono ?_ ?_ ops.toArray.size _ a _ ⟨(Below.refl _ _).drew, by simp, ?_, rfl, rfl, ?_, ?_, fun _ _ => rfl⟩ (fun j _ => by simp only [List.size_toArray]; exact getD_replicate_false _ _) (by simp))
        · -- an operation of the head
          intro k o hkT ho a' w' hb hdeps hkept
          have ho' : ops[k]? = some o := by simpa using ho
          obtain ⟨x, Dk, hx, hev, hDk⟩ := hat k o (by rw [List.getElem?_take, if_pos hkT]; exact ho')
          have hb' : Below w.heap.size w w' := hb
          have hg := hs0.grow hb'
          have hsk : SimO S0 w0 a'.tmps.size [] (atOp s ((ops.take T).filterMap (·.dst)) ops (avs.take k) o) ⟨a'.tmps, []⟩ w' φ := by
            refine ⟨rfl, rfl, hg.bel, fun i av hi => ?_, hg.rows, hg.only, hg.inj, hg.rng, hg.apart, hg.new⟩
            show Den (infoOf s.H φ) _ _ _ _
            unfold atOp at hi
            rw [look_append] at hi
            cases hdf : look (depF ops (avs.take k) (depsOf o)) i with
            | some y =>
              rw [hdf] at hi
              simp at hi; subst hi
              obtain ⟨d, p, h1, h2, h3, h4⟩ := look_depF _ _ _ _ _ hdf
              rcases hdeps d h1 with hF | ⟨q, hq, hn⟩
              · have hval : valAt ops.toArray a' d = a'.tmps.getD i undef := by
                  unfold valAt
                  have : (ops.toArray[d]?).bind (·.dst) = some i := by simp [h2, h3]
                  rw [this]
                rw [hval] at hF
                exact hF.2 y (take_get _ _ _ _ h4)
              · have hq' : ops[d]? = some q := by simpa using hq
                rw [h2] at hq'; injection hq' with hq'; subst hq'
                rw [h3] at hn; cases hn
            | none =>
              rw [hdf] at hi
              simp at hi
              obtain ⟨h1, h2⟩ := look_keptF _ _ _ _ hi
              have hk := hkept i (fun j p hj hp => (head_dsts ops T i).1 h2 j p hj (by simpa using hp))
              have hk' : a'.tmps.getD i undef = a.tmps.getD i undef := hk
              show Den _ _ _ (a'.tmps.getD i undef) av
              rw [hk']
              exact hg.slots i av h1
          have := evHG_ok (Q := Q) (ops := ops) hev hDk hsk (b := a') rfl
          unfold opRule at this ⊢
          split
          · rename_i hw
            rw [if_pos hw] at this
            exact Oper.wp_mono (fun b' w2 ⟨v, h1, h2, h3, h4⟩ => ⟨v, h1, h2, Nat.le_trans hb'.size h3, fun y hy => by rw [hx] at hy; injection hy with hy; subst hy; exact h4⟩) this
          · rename_i hw
            rw [if_neg hw] at this
            exact ⟨hb'.size, fun y hy => by rw [hx] at hy; injection hy with hy; subst hy; exact this.2⟩
        · -- the tail
          intro vs w' hb hfacts
          have hb' : Below w.heap.size w w' := hb
          have hg := hs0.grow hb'
          have hspec := putAll_spec vs (ops.zipIdx.take T) a (by
            have h1 : (ops.zipIdx.take T).filterMap (·.1.dst) = (ops.take T).filterMap (·.dst) := by
              conv => rhs; rw [← List.zipIdx_map_fst 0 ops, ← List.map_take]
              rw [List.filterMap_map]; rfl
            rw [h1]
            exact List.Nodup.sublist ((List.take_sublist T ops).filterMap _) (by simpa using hnd))
          show wpList P ops.toArray Q (ops.drop T) (putAll (ops.zipIdx.take T) vs a) w'
          refine evOps_ok (S0 := S0) (w0 := w0) _ _ _ _ _ htail hD _ _ ⟨φ, ?_⟩ hQ
          refine ⟨hspec.1.trans hs0.tsz, hspec.2.1.trans hs0.dfr, hg.bel, fun i av hi => ?_, hg.rows, hg.only, hg.inj, hg.rng, hg.apart, hg.new⟩
          show Den (infoOf s.H φ) _ _ _ _
          rw [look_append] at hi
          cases hh : look (headF (ops.take T) avs) i with
          | some y =>
            rw [hh] at hi
            simp at hi; subst hi
            obtain ⟨k, o, h1, h2, h3⟩ := look_headF _ _ _ _ hh
            have hkT : k < T := by have := (List.getElem?_eq_some_iff.1 h3).1; omega
            have ho : ops[k]? = some o := take_get _ _ _ _ h1
            have hv := hspec.2.2.1 (o, k) ((mem_head ops T _).2 ⟨hkT, ho⟩) i h2 (by rw [hs0.tsz]; exact hin k o i (by simpa using ho) h2)
            have : (putAll (ops.zipIdx.take T) vs a).tmps.getD i undef = vs k := by
              simp [hv]
            rw [this]
            exact (hfacts k hkT).2 y h3
          | none =>
            rw [hh] at hi
            simp at hi
            obtain ⟨h1, h2⟩ := look_keptF _ _ _ _ hi
            have hv := hspec.2.2.2 i (fun p hp hd => (head_dsts ops T i).1 h2 p.2 p.1 ((mem_head ops T p).1 hp).1 ((mem_head ops T p).1 hp).2 hd)
            have : (putAll (ops.zipIdx.take T) vs a).tmps.getD i undef = a.tmps.getD i undef := by
              simp [hv]
            rw [this]
            exact hg.slots i av h1
        · intro k o hk; rw [getD_replicate_false] at hk; cases hk
        · intro k o s hk; rw [getD_replicate_false] at hk; cases hk
        · intro k o hk; rw [getD_replicate_false] at hk; cases hk
      · cases he
    · cases he
  · cases he
end
end Go.Proofs.Ytbehdllomepkdaa
