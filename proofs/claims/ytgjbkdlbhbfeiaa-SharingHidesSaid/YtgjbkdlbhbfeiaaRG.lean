/-
  A region that draws its order, each of whose operations leaves a value of which a fact holds that growing memory does not turn, and turns nothing that was there: whatever the order, all facts hold in the end. Over any program. No condition.
  A region that draws its order and whose last operations come last in every order. Over any program. No condition.
-/
import Derived.Test.YtgjbkdlbhbfeiaaRW
import Derived.Orders
import Derived.BigCall
import Derived.StillTail
namespace Go.Proofs.Ytgjbkdlbhbfeiaa
open Go.RowKit

/-- The operations on which operation o waits. -/
def depsOf (o : Oper) : List Nat := (o.after.toList.filter (Region.binds .any)).map (·.on)
/-- What operation d has left in its slot. -/
def valAt (ops : Array Oper) (a : Act) (d : Nat) : Value :=
  match (ops[d]?).bind (·.dst) with
  | some s => a.tmps.getD s undef
  | none => undef
/-- Slot s is as it was when operation k comes up: whatever writes it waits for k. -/
def keptB (ops : Array Oper) (k s : Nat) : Bool := ops.toList.all fun o => o.dst != some s || (depsOf o).contains k
/-- Every operation waits for earlier ones alone; no slot is written twice; every slot lies in the frame. -/
def factsB (ops : Array Oper) (n : Nat) : Bool :=
  (ops.toList.zipIdx.all fun p => (depsOf p.1).all (· < p.2)) && (ops.toList.filterMap (·.dst)).Nodup && (ops.toList.all fun o => match o.dst with | some s => decide (s < n) | none => true)
def putAll (l : List (Oper × Nat)) (vs : Nat → Value) (a : Act) : Act := l.foldl (fun a p => a.put p.1.dst (vs p.2)) a

theorem put_get_same (a : Act) (s : Nat) (v : Value) (h : s < a.tmps.size) : (a.put (some s) v).tmps[s]? = some v := by
  simp [Act.put, h]
theorem put_get_other (a : Act) (d : Option Nat) (s : Nat) (v : Value) (h : d ≠ some s) : (a.put d v).tmps[s]? = a.tmps[s]? := by
  cases d with
  | none => rfl
  | some t =>
    have : t ≠ s := fun e => h (by rw [e])
    simp [Act.put, Array.getElem?_setIfInBounds_ne this]
theorem put_size (a : Act) (d : Option Nat) (v : Value) : (a.put d v).tmps.size = a.tmps.size := by
  cases d <;> simp [Act.put]
theorem put_defers (a : Act) (d : Option Nat) (v : Value) : (a.put d v).defers = a.defers := by
  cases d <;> simp [Act.put]
theorem putAll_spec (vs : Nat → Value) : ∀ (l : List (Oper × Nat)) (a : Act), (l.filterMap (·.1.dst)).Nodup →
    (putAll l vs a).tmps.size = a.tmps.size ∧ (putAll l vs a).defers = a.defers ∧
    (∀ p ∈ l, ∀ s, p.1.dst = some s → s < a.tmps.size → (putAll l vs a).tmps[s]? = some (vs p.2)) ∧
    (∀ s, (∀ p ∈ l, p.1.dst ≠ some s) → (putAll l vs a).tmps[s]? = a.tmps[s]?)
  | [], a, _ => ⟨rfl, rfl, by simp, fun _ _ => rfl⟩
  | p :: l, a, hn => by
    have hn' : (l.filterMap (·.1.dst)).Nodup := by
      cases hd : p.1.dst with
      | none => rw [List.filterMap_cons_none (by simpa using hd)] at hn; exact hn
      | some s => rw [List.filterMap_cons_some (by simpa using hd)] at hn; exact (List.nodup_cons.1 hn).2
    obtain ⟨h1, h2, h3, h4⟩ := putAll_spec vs l (a.put p.1.dst (vs p.2)) hn'
    refine ⟨h1.trans (put_size ..), h2.trans (put_defers ..), fun q hq s hs hlt => ?_, fun s hs => ?_⟩
    · rcases List.mem_cons.1 hq with rfl | hq
      · have hno : ∀ p ∈ l, p.1.dst ≠ some s := by
          intro p' hp' he
          rw [List.filterMap_cons_some (by simpa using hs)] at hn
          exact (List.nodup_cons.1 hn).1 (List.mem_filterMap.2 ⟨p', hp', he⟩)
        show (putAll l vs (a.put q.1.dst (vs q.2))).tmps[s]? = _
        rw [h4 s hno, hs]
        exact put_get_same a s _ hlt
      · exact h3 q hq s hs (by rw [put_size]; exact hlt)
    · show (putAll l vs (a.put p.1.dst (vs p.2))).tmps[s]? = _
      rw [h4 s fun q hq => hs q (List.mem_cons_of_mem _ hq), put_get_other a _ s _ (hs p (List.mem_cons_self ..))]

/-- What is asked of one operation, at whatever time it comes up. -/
def opRule (P : Program) (ops : Array Oper) (Q : Exit → Act → World → Prop) (o : Oper) (a : Act) (w : World) (R : Value → World → Prop) : Prop :=
  if Region.wanted o (yielded ops a.tmps) then o.wp P a w (fun a' w' => ∃ v, a' = a.put o.dst v ∧ Below w.heap.size w w' ∧ R v w') Q else R undef w

section
variable {P : Program} {ops : Array Oper} {Q : Exit → Act → World → Prop} {a : Act} {w : World}

structure Inv (ops : Array Oper) (F : Nat → Value → World → Prop) (a : Act) (w : World) (listed : Array Bool) (a' : Act) (w' : World) : Prop where
  grown : Below w.heap.size w w'
  size : listed.size = ops.size
  closed : ∀ k o, listed.getD k false = true → ops[k]? = some o → ∀ d ∈ depsOf o, listed.getD d false = true
  tsize : a'.tmps.size = a.tmps.size
  tdefers : a'.defers = a.defers
  val : ∀ k o s, listed.getD k false = true → ops[k]? = some o → o.dst = some s → ∃ v, a'.tmps[s]? = some v ∧ F k v w'
  noval : ∀ k o, listed.getD k false = true → ops[k]? = some o → o.dst = none → ∃ v, F k v w'
  old : ∀ s, (∀ k o, listed.getD k false = true → ops[k]? = some o → o.dst ≠ some s) → a'.tmps[s]? = a.tmps[s]?

theorem factsB_parts {n : Nat} (h : factsB ops n = true) : (∀ (k : Nat) (o : Oper), ops[k]? = some o → ∀ d ∈ depsOf o, d < k) ∧ (ops.toList.filterMap (·.dst)).Nodup ∧ (∀ (k : Nat) (o : Oper) (s : Nat), ops[k]? = some o → o.dst = some s → s < n) := by
  unfold factsB at h
  simp only [Bool.and_eq_true, List.all_eq_true, decide_eq_true_eq] at h
  obtain ⟨⟨h1, h2⟩, h3⟩ := h
  refine ⟨fun k o ho d hd => ?_, h2, fun k o s ho hs => ?_⟩
  · have hm : (o, k) ∈ ops.toList.zipIdx := by rw [List.mem_zipIdx_iff_getElem?]; simpa using ho
    exact h1 (o, k) hm d hd
  · have hm : o ∈ ops.toList := by
      rw [← Array.getElem?_toList] at ho
      exact List.mem_of_getElem? ho
    have := h3 o hm
    rw [hs] at this
    simpa using this

theorem dst_inj (hn : (ops.toList.filterMap (·.dst)).Nodup) {j k : Nat} {o p : Oper} {s : Nat} (hj : ops[j]? = some o) (hk : ops[k]? = some p) (ho : o.dst = some s) (hp : p.dst = some s) : j = k := by
  rw [← Array.getElem?_toList] at hj hk
  have key : ∀ (l : List Oper) (j k : Nat), (l.filterMap (·.dst)).Nodup → l[j]? = some o → l[k]? = some p → j = k := by
    intro l
    induction l with
    | nil => intro j k _ h; simp at h
    | cons x l ih =>
      intro j k hn hj hk
      have hn' : (l.filterMap (·.dst)).Nodup := by
        cases hd : x.dst with
        | none => rw [List.filterMap_cons_none (by simpa using hd)] at hn; exact hn
        | some s => rw [List.filterMap_cons_some (by simpa using hd)] at hn; exact (List.nodup_cons.1 hn).2
      have fresh : ∀ (i : Nat) (q : Oper), x.dst = some s → l[i]? = some q → q.dst ≠ some s := by
        intro i q hx hq he
        rw [List.filterMap_cons_some (by simpa using hx)] at hn
        exact (List.nodup_cons.1 hn).1 (List.mem_filterMap.2 ⟨q, List.mem_of_getElem? hq, he⟩)
      cases j with
      | zero =>
        cases k with
        | zero => rfl
        | succ k =>
          simp at hj hk; subst hj
          exact absurd hp (fresh k p ho hk)
      | succ j =>
        cases k with
        | zero =>
          simp at hj hk; subst hk
          exact absurd ho (fresh j o hp hj)
        | succ k => rw [ih j k hn' (by simpa using hj) (by simpa using hk)]
  exact key ops.toList j k hn hj hk

theorem count_set (l : List Bool) : ∀ i : Nat, l[i]? = some false → ((l.set i true).filter (· == false)).length < (l.filter (· == false)).length := by
  induction l with
  | nil => intro i hi; simp at hi
  | cons x l ih =>
    intro i hi
    cases i with
    | zero => simp at hi; subst hi; simp
    | succ i =>
      simp only [List.set_cons_succ]
      have := ih i (by simpa using hi)
      cases x
      · rw [List.filter_cons_of_pos rfl, List.filter_cons_of_pos rfl]; simp only [List.length_cons]; omega
      · rw [List.filter_cons_of_neg (by simp), List.filter_cons_of_neg (by simp)]; exact this
theorem wpAny_facts {n : Nat} (hsz : a.tmps.size = n) (hB : factsB ops n = true) (F : Nat → Value → World → Prop) (mono : ∀ k v w w', Below w.heap.size w w' → F k v w → F k v w')
    (hop : ∀ k o, ops[k]? = some o → ∀ a' w', Below w.heap.size w w' → (∀ d ∈ depsOf o, F d (valAt ops a' d) w' ∨ (∃ p, ops[d]? = some p ∧ p.dst = none)) → (∀ s, keptB ops k s = true → a'.eval (.tmp s) = a.eval (.tmp s)) → opRule P ops Q o a' w' (F k))
    (hfin : ∀ vs : Nat → Value, ∀ w', Below w.heap.size w w' → (∀ k, k < ops.size → F k (vs k) w') → Q .normal (putAll ops.toList.zipIdx vs a) w') :
    ∀ (fuel : Nat) (listed : Array Bool) (a' : Act) (w' : World), Inv ops F a w listed a' w' → (∀ j, j < ops.size → listed.getD j true = false → True) →
      (listed.toList.filter (· == false)).length ≤ fuel → wpAny P .any ops Q fuel listed a' w' := by
  obtain ⟨hlt, hnd, hin⟩ := factsB_parts hB
  -- where nothing is ready all has been listed
  have done : ∀ (listed : Array Bool) (a' : Act) (w' : World), Inv ops F a w listed a' w' → Region.ready .any ops listed = [] → Q .normal a' w' := by
    intro listed a' w' I hr
    have all : ∀ k, k < ops.size → listed.getD k false = true := by
      intro k
      induction k using Nat.strongRecOn with
      | _ k ih =>
        intro hk
        by_cases hl : listed.getD k false = true
        · exact hl
        · exfalso
          have hkl : k < listed.size := by rw [I.size]; exact hk
          have hk' : ops[k]? = some ops[k] := Array.getElem?_eq_getElem hk
          have : k ∈ Region.ready .any ops listed := by
            rw [mem_ready]
            refine ⟨?_, ops[k], hk', fun e he hb => ?_⟩
            · simp [hkl] at hl ⊢; exact hl
            · have hd : e.on ∈ depsOf ops[k] := by
                unfold depsOf
                exact List.mem_map.2 ⟨e, List.mem_filter.2 ⟨by simpa using he, hb⟩, rfl⟩
              have := hlt k _ hk' _ hd
              exact ih e.on this (by omega)
          rw [hr] at this
          cases this
    -- the values
    have hv : ∀ k, ∃ v, k < ops.size → (F k v w' ∧ ∀ o s, ops[k]? = some o → o.dst = some s → a'.tmps[s]? = some v) := by
      intro k
      by_cases hk : k < ops.size
      · have hk' : ops[k]? = some ops[k] := Array.getElem?_eq_getElem hk
        cases hd : ops[k].dst with
        | none =>
          obtain ⟨v, hv⟩ := I.noval k _ (all k hk) hk' hd
          exact ⟨v, fun _ => ⟨hv, fun o s ho hs => by rw [hk'] at ho; injection ho with ho; subst ho; rw [hd] at hs; cases hs⟩⟩
        | some s =>
          obtain ⟨v, hv, hF⟩ := I.val k _ s (all k hk) hk' hd
          exact ⟨v, fun _ => ⟨hF, fun o s' ho hs => by rw [hk'] at ho; injection ho with ho; subst ho; rw [hd] at hs; injection hs with hs; subst hs; exact hv⟩⟩
      · exact ⟨undef, fun h => absurd h hk⟩
    obtain ⟨vs, hvs⟩ := Classical.axiomOfChoice hv
    have hspec := putAll_spec vs ops.toList.zipIdx a (by
      have : ops.toList.zipIdx.filterMap (·.1.dst) = ops.toList.filterMap (·.dst) := by
        conv => rhs; rw [← List.zipIdx_map_fst 0 ops.toList]
        rw [List.filterMap_map]; rfl
      rw [this]; exact hnd)
    have he : a' = putAll ops.toList.zipIdx vs a := by
      have ht : a'.tmps = (putAll ops.toList.zipIdx vs a).tmps := by
        apply Array.ext_getElem?
        intro s
        by_cases hs : ∃ (k : Nat) (o : Oper), ops[k]? = some o ∧ o.dst = some s
        · obtain ⟨k, o, ho, hd⟩ := hs
          have hk : k < ops.size := (Array.getElem?_eq_some_iff.1 ho).1
          rw [(hvs k hk).2 o s ho hd]
          have hm : (o, k) ∈ ops.toList.zipIdx := by rw [List.mem_zipIdx_iff_getElem?]; simpa using ho
          exact (hspec.2.2.1 (o, k) hm s hd (by rw [hsz]; exact hin k o s ho hd)).symm
        · rw [I.old s fun k o _ ho hd => hs ⟨k, o, ho, hd⟩]
          refine (hspec.2.2.2 s fun p hp hd => hs ⟨p.2, p.1, ?_, hd⟩).symm
          rw [List.mem_zipIdx_iff_getElem?] at hp
          simpa using hp
      have hd : a'.defers = (putAll ops.toList.zipIdx vs a).defers := I.tdefers.trans hspec.2.1.symm
      cases a'; cases h : putAll ops.toList.zipIdx vs a
      rw [h] at ht hd
      simp only at ht hd
      rw [ht, hd]
    rw [he]
    exact hfin vs w' I.grown fun k hk => (hvs k hk).1
  intro fuel
  induction fuel with
  | zero =>
    intro listed a' w' I _ hc
    have hr : Region.ready .any ops listed = [] := by
      cases hrr : Region.ready .any ops listed with
      | nil => rfl
      | cons j rest =>
        exfalso
        have hj : j ∈ Region.ready .any ops listed := by rw [hrr]; exact List.mem_cons_self ..
        obtain ⟨h0, o, ho, _⟩ := mem_ready.1 hj
        have hjl : j < listed.size := by rw [I.size]; exact (Array.getElem?_eq_some_iff.1 ho).1
        have : false ∈ listed.toList.filter (· == false) := by
          refine List.mem_filter.2 ⟨?_, rfl⟩
          have h1 : listed.toList[j]? = some false := by simp [hjl] at h0 ⊢; exact h0
          exact List.mem_of_getElem? h1
        have := List.length_pos_of_mem this
        omega
    exact ⟨hr, done listed a' w' I hr⟩
  | succ fuel ih =>
    intro listed a' w' I _ hc
    refine ⟨fun hr => done listed a' w' I hr, fun i hi => ?_⟩
    obtain ⟨h0, o, ho, hall⟩ := mem_ready.1 hi
    have hil : i < listed.size := by rw [I.size]; exact (Array.getElem?_eq_some_iff.1 ho).1
    have h0' : listed.getD i false = false := by simp [hil] at h0 ⊢; exact h0
    have hdeps : ∀ d ∈ depsOf o, listed.getD d false = true := by
      intro d hd
      unfold depsOf at hd
      obtain ⟨e, he, rfl⟩ := List.mem_map.1 hd
      obtain ⟨he1, he2⟩ := List.mem_filter.1 he
      exact hall e (by simpa using he1) he2
    -- the next state
    have next : ∀ v w'', Below w'.heap.size w' w'' → F i v w'' → Inv ops F a w (listed.setIfInBounds i true) (a'.put o.dst v) w'' := by
      intro v w'' hb hF
      have lists : ∀ k, (listed.setIfInBounds i true).getD k false = true → k = i ∨ listed.getD k false = true := by
        intro k hk
        by_cases hki : i = k
        · exact .inl hki.symm
        · right; rw [getD_set_ne false hki] at hk; exact hk
      refine ⟨I.grown.thenCall hb, by simpa using I.size, ?_, (put_size ..).trans I.tsize, (put_defers ..).trans I.tdefers, ?_, ?_, ?_⟩
      · intro k p hk hp d hd
        rcases lists k hk with rfl | hk
        · rw [ho] at hp; injection hp with hp; subst hp
          exact getD_set_true (hdeps d hd)
        · exact getD_set_true (I.closed k p hk hp d hd)
      · intro k p s hk hp hs
        rcases lists k hk with rfl | hk
        · rw [ho] at hp; injection hp with hp; subst hp
          refine ⟨v, ?_, hF⟩
          rw [hs]
          exact put_get_same a' s v (by rw [I.tsize, hsz]; exact hin k _ s ho hs)
        · obtain ⟨u, hu, hFu⟩ := I.val k p s hk hp hs
          refine ⟨u, ?_, mono k u w' w'' hb hFu⟩
          rw [put_get_other a' o.dst s v fun he => ?_]
          · exact hu
          · have := dst_inj hnd ho hp he hs
            subst this
            rw [h0'] at hk; cases hk
      · intro k p hk hp hs
        rcases lists k hk with rfl | hk
        · exact ⟨v, hF⟩
        · obtain ⟨u, hu⟩ := I.noval k p hk hp hs
          exact ⟨u, mono k u w' w'' hb hu⟩
      · intro s hs
        rw [put_get_other a' o.dst s v (hs i o (by simp [hil]) ho)]
        exact I.old s fun k p hk hp => hs k p (getD_set_true hk) hp
    have hcount : ((listed.setIfInBounds i true).toList.filter (· == false)).length ≤ fuel := by
      have hlt' : ((listed.setIfInBounds i true).toList.filter (· == false)).length < (listed.toList.filter (· == false)).length := by
        rw [Array.toList_setIfInBounds]
        have hi' : listed.toList[i]? = some false := by simp [hil] at h0 ⊢; exact h0
        exact count_set _ i hi'
      omega
    have rule := hop i o ho a' w' I.grown (fun d hd => by
      have hl := hdeps d hd
      cases hp : ops[d]? with
      | none =>
        have hdl : d < listed.size := by
          rcases Nat.lt_or_ge d listed.size with h | h
          · exact h
          · simp [Array.getElem?_eq_none h] at hl
        rw [I.size] at hdl
        rw [Array.getElem?_eq_getElem hdl] at hp; cases hp
      | some p =>
        cases hs : p.dst with
        | none => exact .inr ⟨p, rfl, hs⟩
        | some s =>
          left
          obtain ⟨u, hu, hF⟩ := I.val d p s hl hp hs
          unfold valAt
          rw [hp]
          simp only [Option.bind_some, hs]
          simp [hu]; exact hF) (fun s hs => by
      show a'.tmps.getD s undef = a.tmps.getD s undef
      have : a'.tmps[s]? = a.tmps[s]? := I.old s fun k p hk hp hd => by
        unfold keptB at hs
        simp only [List.all_eq_true] at hs
        have hm : p ∈ ops.toList := by
          have hp' := hp
          rw [← Array.getElem?_toList] at hp'
          exact List.mem_of_getElem? hp'
        have h1 := hs p hm
        rw [hd] at h1
        simp at h1
        have := I.closed k p hk hp i h1
        rw [h0'] at this; cases this
      simp [this])
    unfold opRule at rule
    unfold wpOp
    rw [ho]
    simp only
    by_cases hw : Region.wanted o (yielded ops a'.tmps) = true
    · rw [if_pos hw] at rule ⊢
      left
      exact Oper.wp_mono (fun a'' w'' ⟨v, he, hb, hF⟩ => by
        subst he
        exact ih _ _ _ (next v w'' hb hF) (fun _ _ _ => trivial) hcount) rule
    · rw [if_neg hw] at rule ⊢
      exact ih _ _ _ (next undef w' (Below.refl _ _) rule) (fun _ _ _ => trivial) hcount

/-- A region that draws its order, each of whose operations, at whatever time it comes up, leaves a value of which F holds, and turns nothing that was there. -/
theorem wp_region_facts {id : Nat} {n : Nat} (hm : P.follows .mixedOrders = true) (hsz : a.tmps.size = n) (hB : factsB ops n = true) (F : Nat → Value → World → Prop) (mono : ∀ k v w w', Below w.heap.size w w' → F k v w → F k v w')
    (hop : ∀ k o, ops[k]? = some o → ∀ a' w', Below w.heap.size w w' → (∀ d ∈ depsOf o, F d (valAt ops a' d) w' ∨ (∃ p, ops[d]? = some p ∧ p.dst = none)) → (∀ s, keptB ops k s = true → a'.eval (.tmp s) = a.eval (.tmp s)) → opRule P ops Q o a' w' (F k))
    (hfin : ∀ vs : Nat → Value, ∀ w', Below w.heap.size w w' → (∀ k, k < ops.size → F k (vs k) w') → Q .normal (putAll ops.toList.zipIdx vs a) w') : (Code.region id ops true).wp P Q a w := by
  refine wp_region_any hm (wpAny_facts hsz hB F mono hop hfin ops.size _ a _ ⟨(Below.refl _ _).drew, by simp, ?_, rfl, rfl, ?_, ?_, fun _ _ => rfl⟩ (fun _ _ _ => trivial) ?_)
  · intro k o hk; simp [Array.getElem?_replicate] at hk; split at hk <;> simp at hk
  · intro k o s hk; simp [Array.getElem?_replicate] at hk; split at hk <;> simp at hk
  · intro k o hk; simp [Array.getElem?_replicate] at hk; split at hk <;> simp at hk
  · refine Nat.le_trans (List.length_filter_le _ _) ?_
    simp

def factAt (facts : List (Value → World → Prop)) (k : Nat) : Value → World → Prop := facts.getD k fun _ _ => True
/-- What a table says of an operation: the operations for which it waits, with their slots; its guard, by the slot. -/
abbrev Shape := List (Nat × Nat) × Option (Nat × Bool)
def rowB (ops : Array Oper) (o : Oper) (r : Shape) : Bool :=
  (r.1.all fun p => (depsOf o).contains p.1 && (ops[p.1]?).bind (·.dst) == some p.2) &&
  match o.guard, r.2 with
  | none, none => true
  | some (j, b), some (s, b') => (ops[j]?).bind (·.dst) == some s && b == b'
  | _, _ => false
/-- The table fits the region; of the slots 'vals' none is written. -/
def tabB (ops : Array Oper) (tab : List Shape) (vals : List Nat) : Bool :=
  ops.toList.length == tab.length && ((ops.toList.zip tab).all fun p => rowB ops p.1 p.2) && vals.all fun s => ops.toList.all fun o => o.dst != some s
/-- The rule of every operation of l, the first of which is number k. -/
def rules (P : Program) (Q : Exit → Act → World → Prop) (facts : List (Value → World → Prop)) (vals : List (Nat × Value)) (w : World) : List Oper → List Shape → Nat → Prop
  | o :: l, r :: t, k => (∀ a' w', Below w.heap.size w w' → (∀ p ∈ r.1, factAt facts p.1 (a'.eval (.tmp p.2)) w') → (∀ p ∈ vals, a'.eval (.tmp p.1) = p.2) →
      ((∀ p, r.2 = some p → a'.eval (.tmp p.1) = .bool p.2) ∧ o.wp P a' w' (fun a'' w'' => ∃ v, a'' = a'.put o.dst v ∧ Below w'.heap.size w' w'' ∧ factAt facts k v w'') Q) ∨
      ((∃ p, r.2 = some p ∧ a'.eval (.tmp p.1) = .bool (!p.2)) ∧ factAt facts k undef w')) ∧ rules P Q facts vals w l t (k + 1)
  | _, _, _ => True
theorem rules_at {facts : List (Value → World → Prop)} {vals : List (Nat × Value)} : ∀ (l : List Oper) (t : List Shape) (k : Nat), l.length = t.length → rules P Q facts vals w l t k → ∀ j o, l[j]? = some o → ∃ r, (l.zip t)[j]? = some (o, r) ∧
    ∀ a' w', Below w.heap.size w w' → (∀ p ∈ r.1, factAt facts p.1 (a'.eval (.tmp p.2)) w') → (∀ p ∈ vals, a'.eval (.tmp p.1) = p.2) →
      ((∀ p, r.2 = some p → a'.eval (.tmp p.1) = .bool p.2) ∧ o.wp P a' w' (fun a'' w'' => ∃ v, a'' = a'.put o.dst v ∧ Below w'.heap.size w' w'' ∧ factAt facts (k + j) v w'') Q) ∨
      ((∃ p, r.2 = some p ∧ a'.eval (.tmp p.1) = .bool (!p.2)) ∧ factAt facts (k + j) undef w')
  | [], _, _, _, _, j, o, h => by simp at h
  | x :: l, [], _, hl, _, _, _, _ => by simp at hl
  | x :: l, r :: t, k, hl, hr, j, o, h => by
    cases j with
    | zero => simp at h; subst h; exact ⟨r, rfl, hr.1⟩
    | succ j =>
      obtain ⟨r', h1, h2⟩ := rules_at l t (k + 1) (by simpa using hl) hr.2 j o (by simpa using h)
      refine ⟨r', by simpa using h1, ?_⟩
      rw [show k + 1 + j = k + (j + 1) by omega] at h2
      exact h2
theorem eval_bool {a' : Act} {s : Nat} {b : Bool} (h : a'.eval (.tmp s) = .bool b) : a'.tmps[s]? = some (.bool b) := by
  have h' : a'.tmps.getD s undef = .bool b := h
  cases ht : a'.tmps[s]? with
  | none => simp [ht, undef] at h'
  | some u => simp [ht] at h'; rw [h']
theorem yielded_of {a' : Act} {j s : Nat} {b : Bool} (h : (ops[j]?).bind (·.dst) = some s) (ht : a'.tmps[s]? = some (.bool b)) : yielded ops a'.tmps j = some b := by
  unfold yielded; rw [h]; simp [ht]
/-- The same, over a table. -/
theorem wp_region_tab {id : Nat} {l : List Oper} (n : Nat) (tab : List Shape) (slots : List Nat) (hm : P.follows .mixedOrders = true) (hsz : a.tmps.size = n) (hB : factsB l.toArray n = true) (hT : tabB l.toArray tab slots = true)
    (vals : List (Nat × Value)) (hs : vals.map (·.1) = slots) (hvals : ∀ p ∈ vals, a.eval (.tmp p.1) = p.2)
    (facts : List (Value → World → Prop)) (mono : ∀ f ∈ facts, ∀ v w w', Below w.heap.size w w' → f v w → f v w')
    (hops : rules P Q facts vals w l tab 0)
    (hfin : ∀ vs : Nat → Value, ∀ w', Below w.heap.size w w' → (∀ k, k < l.length → factAt facts k (vs k) w') → Q .normal (putAll l.zipIdx vs a) w') : (Code.region id l.toArray true).wp P Q a w := by
  unfold tabB at hT
  simp only [Bool.and_eq_true, beq_iff_eq, List.all_eq_true] at hT
  obtain ⟨⟨hlen, hrows⟩, hfree⟩ := hT
  refine wp_region_facts hm hsz hB (factAt facts) ?_ ?_ (by simpa using hfin)
  · intro k v w w' hb h
    unfold factAt at *
    rw [List.getD_eq_getElem?_getD] at *
    cases hk : facts[k]? with
    | none => simp
    | some f =>
      rw [hk] at h
      exact mono f (List.mem_of_getElem? hk) v w w' hb h
  · intro k o ho a' w' hb hd hk
    obtain ⟨r, hr, rule⟩ := rules_at l tab 0 (by simpa using hlen) hops k o (by simpa using ho)
    simp only [Nat.zero_add] at rule
    have hrow := hrows (o, r) (List.mem_of_getElem? (by simpa using hr))
    unfold rowB at hrow
    simp only [Bool.and_eq_true, List.all_eq_true] at hrow
    obtain ⟨hr1, hr2⟩ := hrow
    have hrule := rule a' w' hb (fun p hp => by
      have := hr1 p hp
      simp only [beq_iff_eq] at this
      rcases hd p.1 (by simpa using this.1) with h | ⟨q, hq, hn⟩
      · unfold valAt at h
        rw [this.2] at h
        exact h
      · have h2 := this.2
        rw [hq] at h2
        simp [hn] at h2) (fun p hp => by
      rw [← hvals p hp]
      refine hk p.1 ?_
      unfold keptB
      simp only [List.all_eq_true]
      intro q hq
      have := hfree p.1 (by rw [← hs]; exact List.mem_map_of_mem hp) q hq
      simp [this])
    unfold opRule
    rcases hrule with ⟨hw, hwp⟩ | ⟨⟨p, hp, hv⟩, hu⟩
    · have hwant : Region.wanted o (yielded l.toArray a'.tmps) = true := by
        unfold Region.wanted
        cases hg : o.guard with
        | none => rfl
        | some jb =>
          obtain ⟨j, b⟩ := jb
          cases hr' : r.2 with
          | none => rw [hg, hr'] at hr2; simp at hr2
          | some sb =>
            obtain ⟨s, b'⟩ := sb
            rw [hg, hr'] at hr2
            simp only [Bool.and_eq_true, beq_iff_eq] at hr2
            have := eval_bool (hw (s, b') hr')
            simp only at this
            simp only
            rw [yielded_of hr2.1 this, hr2.2]; simp
      rw [if_pos hwant]
      exact hwp
    · have hwant : ¬ Region.wanted o (yielded l.toArray a'.tmps) = true := by
        unfold Region.wanted
        cases hg : o.guard with
        | none => rw [hg, hp] at hr2; simp at hr2
        | some jb =>
          obtain ⟨j, b⟩ := jb
          obtain ⟨s, b'⟩ := p
          rw [hg, hp] at hr2
          simp only [Bool.and_eq_true, beq_iff_eq] at hr2
          have := eval_bool hv
          simp only at this
          simp only
          rw [yielded_of hr2.1 this, hr2.2]; simp
      rw [if_neg hwant]
      exact hu

section
variable {o : Oper} {a' : Act} {w' : World} {R : Value → World → Prop}
theorem does_run (v : Value) (hrun : (execOp a'.eval o).run P w' = .ok (.value v) w') (hR : R v w') : o.wp P a' w' (fun a'' w'' => ∃ v, a'' = a'.put o.dst v ∧ Below w'.heap.size w' w'' ∧ R v w'') Q := by
  unfold Oper.wp
  rw [hrun]
  exact ⟨v, rfl, Below.refl _ _, hR⟩
theorem does_move (x : Operand) (ho : o.op = .move x) (hR : R (a'.eval x) w') : o.wp P a' w' (fun a'' w'' => ∃ v, a'' = a'.put o.dst v ∧ Below w'.heap.size w' w'' ∧ R v w'') Q :=
  does_run _ (by unfold execOp; rw [ho]; rfl) hR
theorem does_assign (x : Operand) (ho : o.op = .assign x) (hR : R (a'.eval x) w') : o.wp P a' w' (fun a'' w'' => ∃ v, a'' = a'.put o.dst v ∧ Below w'.heap.size w' w'' ∧ R v w'') Q :=
  does_run _ (by unfold execOp; rw [ho]; rfl) hR
theorem does_call (f : FuncId) (hbody : ∀ args w, (callFunc f args).run P w = .ok (.enter f args) w) (xs : Array Operand) (ts : Array TypeId) (ho : o.op = .call { callee := .value (.func f), args := xs, argTypes := ts })
    (args : Array Value) (hargs : xs.map a'.eval = args) (hc : Calls P f args w' fun e w'' => ∃ v, e = .returned v ∧ Below w'.heap.size w' w'' ∧ R v w'') : o.wp P a' w' (fun a'' w'' => ∃ v, a'' = a'.put o.dst v ∧ Below w'.heap.size w' w'' ∧ R v w'') Q := by
  unfold Oper.wp
  obtain ⟨dst, op, type, pos, after, guard⟩ := o
  simp only at ho
  subst ho
  rw [execOp_call_go, hbody]
  simp only [Array.empty_append, Array.append_empty, hargs]
  refine hc.mono fun e w'' ⟨v, he, hb, hR⟩ => ?_
  subst he
  exact ⟨v, rfl, hb, hR⟩
end
end
theorem mono_of {P : Prop} {w0 w1 : World} (h : P) (_ : Below w0.heap.size w0 w1) : P := h
end Go.Proofs.Ytgjbkdlbhbfeiaa
namespace Go.Proofs.Ytgjbkdlbhbfeiaa
open Go.RowKit
section
variable {P : Program} {ops : Array Oper} {Q : Exit → Act → World → Prop} {a : Act} {w : World}
theorem count_set1 (l : List Bool) : ∀ i : Nat, l[i]? = some false → ((l.set i true).filter (· == false)).length + 1 = (l.filter (· == false)).length := by
  induction l with
  | nil => intro i hi; simp at hi
  | cons x l ih =>
    intro i hi
    cases i with
    | zero => simp at hi; subst hi; simp
    | succ i =>
      simp only [List.set_cons_succ]
      have := ih i (by simpa using hi)
      cases x
      · rw [List.filter_cons_of_pos rfl, List.filter_cons_of_pos rfl]; simp only [List.length_cons]; omega
      · rw [List.filter_cons_of_neg (by simp), List.filter_cons_of_neg (by simp)]; exact this
theorem wpAny_tail {n T : Nat} (hT : T < ops.size) (hsk : Region.sinkB .any ops T = true) (hch : Region.chainB .any ops T = true) (hsq : Region.seqB .any ops (ops.size - T) T ((List.range ops.size).map (decide <| · < T)).toArray = true) (hsz : a.tmps.size = n) (hB : factsB ops n = true) (F : Nat → Value → World → Prop) (mono : ∀ k v w w', Below w.heap.size w w' → F k v w → F k v w')
    (hop : ∀ k o, k < T → ops[k]? = some o → ∀ a' w', Below w.heap.size w w' → (∀ d ∈ depsOf o, F d (valAt ops a' d) w' ∨ (∃ p, ops[d]? = some p ∧ p.dst = none)) → (∀ s, (∀ (j : Nat) (p : Oper), j < T → ops[j]? = some p → p.dst ≠ some s) → a'.eval (.tmp s) = a.eval (.tmp s)) → opRule P ops Q o a' w' (F k))
    (hfin : ∀ vs : Nat → Value, ∀ w', Below w.heap.size w w' → (∀ k, k < T → F k (vs k) w') → wpList P ops Q (ops.toList.drop T) (putAll (ops.toList.zipIdx.take T) vs a) w') :
    ∀ (fuel : Nat) (listed : Array Bool) (a' : Act) (w' : World), Inv ops F a w listed a' w' → (∀ j, T ≤ j → listed.getD j false = false) →
      (listed.toList.filter (· == false)).length = fuel → wpAny P .any ops Q fuel listed a' w' := by
  obtain ⟨hlt, hnd, hin⟩ := factsB_parts hB
  -- some operation of the head that is ready, while one is not listed
  have some_ready : ∀ (listed : Array Bool) (a' : Act) (w' : World), Inv ops F a w listed a' w' → ∀ k, k < T → listed.getD k false = false → ∃ i, i < T ∧ i ∈ Region.ready .any ops listed := by
    intro listed a' w' I k
    induction k using Nat.strongRecOn with
    | _ k ih =>
      intro hk hl
      have hkl : k < listed.size := by rw [I.size]; omega
      have hk2 : k < ops.size := by omega
      have hk' : ops[k]? = some ops[k] := Array.getElem?_eq_getElem hk2
      by_cases hall : ∀ d ∈ depsOf ops[k], listed.getD d false = true
      · refine ⟨k, hk, ?_⟩
        rw [mem_ready]
        refine ⟨?_, ops[k], hk', fun e he hb => hall e.on ?_⟩
        · simp [hkl] at hl ⊢; exact hl
        · unfold depsOf
          exact List.mem_map.2 ⟨e, List.mem_filter.2 ⟨by simpa using he, hb⟩, rfl⟩
      · have : ∃ d, d ∈ depsOf ops[k] ∧ listed.getD d false = false := by
          refine Classical.byContradiction fun hno => hall fun d hd => ?_
          cases hx : listed.getD d false with
          | true => rfl
          | false => exact absurd ⟨d, hd, hx⟩ hno
        obtain ⟨d, hd, hx⟩ := this
        exact ih d (hlt k _ hk' d hd) (by have := hlt k _ hk' d hd; omega) hx
  have done : ∀ (listed : Array Bool) (a' : Act) (w' : World), Inv ops F a w listed a' w' → (∀ k, k < T → listed.getD k false = true) → (∀ j, T ≤ j → listed.getD j false = false) → wpList P ops Q (ops.toList.drop T) a' w' := by
    intro listed a' w' I all tail
    -- the values
    have hv : ∀ k, ∃ v, k < T → (F k v w' ∧ ∀ o s, ops[k]? = some o → o.dst = some s → a'.tmps[s]? = some v) := by
      intro k
      by_cases hk : k < T
      · have hk2 : k < ops.size := by omega
        have hk' : ops[k]? = some ops[k] := Array.getElem?_eq_getElem hk2
        cases hd : ops[k].dst with
        | none =>
          obtain ⟨v, hv⟩ := I.noval k _ (all k hk) hk' hd
          exact ⟨v, fun _ => ⟨hv, fun o s ho hs => by rw [hk'] at ho; injection ho with ho; subst ho; rw [hd] at hs; cases hs⟩⟩
        | some s =>
          obtain ⟨v, hv, hF⟩ := I.val k _ s (all k hk) hk' hd
          exact ⟨v, fun _ => ⟨hF, fun o s' ho hs => by rw [hk'] at ho; injection ho with ho; subst ho; rw [hd] at hs; injection hs with hs; subst hs; exact hv⟩⟩
      · exact ⟨undef, fun h => absurd h hk⟩
    obtain ⟨vs, hvs⟩ := Classical.axiomOfChoice hv
    have hmem : ∀ p : Oper × Nat, p ∈ ops.toList.zipIdx.take T ↔ (p.2 < T ∧ ops[p.2]? = some p.1) := by
      intro p
      rw [List.mem_iff_getElem?]
      constructor
      · rintro ⟨x, hx⟩
        rw [List.getElem?_take] at hx
        split at hx
        · rename_i hxT
          rw [List.getElem?_zipIdx] at hx
          cases ho : ops.toList[x]? with
          | none => rw [ho] at hx; simp at hx
          | some q =>
            rw [ho] at hx
            simp at hx
            subst hx
            exact ⟨by simpa using hxT, by simpa using ho⟩
        · cases hx
      · rintro ⟨h1, h2⟩
        refine ⟨p.2, ?_⟩
        rw [List.getElem?_take, if_pos h1, List.getElem?_zipIdx]
        have h2' : ops.toList[p.2]? = some p.1 := by simpa using h2
        rw [h2']; simp
    have hspec := putAll_spec vs (ops.toList.zipIdx.take T) a (by
      have h1 : (ops.toList.zipIdx.take T).filterMap (·.1.dst) = (ops.toList.take T).filterMap (·.dst) := by
        conv => rhs; rw [← List.zipIdx_map_fst 0 ops.toList, ← List.map_take]
        rw [List.filterMap_map]; rfl
      rw [h1]
      exact List.Nodup.sublist ((List.take_sublist T ops.toList).filterMap _) hnd)
    have he : a' = putAll (ops.toList.zipIdx.take T) vs a := by
      have ht : a'.tmps = (putAll (ops.toList.zipIdx.take T) vs a).tmps := by
        apply Array.ext_getElem?
        intro s
        by_cases hs : ∃ (k : Nat) (o : Oper), k < T ∧ ops[k]? = some o ∧ o.dst = some s
        · obtain ⟨k, o, hk, ho, hd⟩ := hs
          rw [(hvs k hk).2 o s ho hd]
          exact (hspec.2.2.1 (o, k) ((hmem _).2 ⟨hk, ho⟩) s hd (by rw [hsz]; exact hin k o s ho hd)).symm
        · rw [I.old s fun k o hl ho hd => hs ⟨k, o, (Classical.byContradiction fun hk => (by have := tail k (Nat.le_of_not_lt hk); rw [this] at hl; cases hl)), ho, hd⟩]
          exact (hspec.2.2.2 s fun p hp hd => hs ⟨p.2, p.1, ((hmem p).1 hp).1, ((hmem p).1 hp).2, hd⟩).symm
      have hd : a'.defers = (putAll (ops.toList.zipIdx.take T) vs a).defers := I.tdefers.trans hspec.2.1.symm
      cases a'; cases h : putAll (ops.toList.zipIdx.take T) vs a
      rw [h] at ht hd
      simp only at ht hd
      rw [ht, hd]
    rw [he]
    exact hfin vs w' I.grown fun k hk => (hvs k hk).1
  -- where the head is listed the rest goes in its order
  have rest : ∀ (fuel : Nat) (listed : Array Bool) (a' : Act) (w' : World), Inv ops F a w listed a' w' → (∀ j, T ≤ j → listed.getD j false = false) → (listed.toList.filter (· == false)).length = fuel → (∀ k, k < T → listed.getD k false = true) → wpAny P .any ops Q fuel listed a' w' := by
    intro fuel listed a' w' I tail hc all
    have hcanon : listed = ((List.range ops.size).map (decide <| · < T)).toArray := by
      apply Array.ext_getElem?
      intro x
      by_cases hx : x < ops.size
      · have hxl : x < listed.size := by rw [I.size]; exact hx
        have hr : ((List.range ops.size).map (decide <| · < T)).toArray[x]? = some (decide (x < T)) := by simp [hx]
        rw [hr]
        by_cases hxT : x < T
        · have := all x hxT; simp [hxl] at this ⊢; rw [this, decide_eq_true hxT]
        · have := tail x (by omega); simp [hxl] at this ⊢; rw [this, decide_eq_false hxT]
      · rw [Array.getElem?_eq_none (by rw [I.size]; omega), Array.getElem?_eq_none (by simp; omega)]
    have hlen : fuel = (ops.toList.drop T).length := by
      rw [← hc, hcanon]
      simp only [List.length_drop, Array.length_toList, List.filter_map, List.length_map]
      have key : ∀ n, T ≤ n → ((List.range n).filter ((fun x => x == false) ∘ (decide <| · < T))).length = n - T := by
        intro n hn
        induction n with
        | zero => simp
        | succ n ih =>
          rw [List.range_succ, List.filter_append, List.length_append]
          by_cases hnT : T ≤ n
          · rw [ih hnT]
            have : ((fun x => x == false) ∘ (decide <| · < T)) n = true := by simp; omega
            rw [List.filter_cons_of_pos this]; simp; omega
          · obtain rfl : T = n + 1 := by omega
            have h1 : (List.range n).filter ((fun x => x == false) ∘ (decide <| · < n + 1)) = [] := by
              rw [List.filter_eq_nil_iff]; intro x hx; have := List.mem_range.1 hx; simp; omega
            have h2 : [n].filter ((fun x => x == false) ∘ (decide <| · < n + 1)) = [] := by
              rw [List.filter_eq_nil_iff]; intro x hx; simp at hx; subst hx; simp
            rw [h1, h2]; simp
      exact key ops.size (by omega)
    rw [hlen]
    refine wpAny_of_seq (ops.toList.drop T) T listed a' w' (fun j => by rw [List.getElem?_drop]; simp) ?_ (done listed a' w' I all tail)
    rw [hcanon]
    simpa using hsq
  intro fuel
  induction fuel with
  | zero =>
    intro listed a' w' I tail hc
    refine rest 0 listed a' w' I tail hc fun k hk => ?_
    cases hx : listed.getD k false with
    | true => rfl
    | false =>
      exfalso
      have hkl : k < listed.size := by rw [I.size]; omega
      have : false ∈ listed.toList.filter (· == false) := by
        refine List.mem_filter.2 ⟨?_, rfl⟩
        have h1 : listed.toList[k]? = some false := by simp [hkl] at hx ⊢; exact hx
        exact List.mem_of_getElem? h1
      have := List.length_pos_of_mem this
      omega
  | succ fuel ih =>
    intro listed a' w' I tail hc
    by_cases hex : ∀ k, k < T → listed.getD k false = true
    · exact rest (fuel + 1) listed a' w' I tail hc hex
    have hun : ∃ k, k < T ∧ listed.getD k false = false := by
      refine Classical.byContradiction fun hno => hex fun k hk => ?_
      cases hx : listed.getD k false with
      | true => rfl
      | false => exact absurd ⟨k, hk, hx⟩ hno
    obtain ⟨k0, hk0, hx0⟩ := hun
    have hHI : HeadInv .any ops T listed := ⟨I.size, fun j oj hj hl e he hb => I.closed j oj hl hj e.on (by
        unfold depsOf
        exact List.mem_map.2 ⟨e, List.mem_filter.2 ⟨by simpa using he, hb⟩, rfl⟩), fun t ht ht' => getD_in (by rw [I.size]; exact ht') (tail t ht)⟩
    have hk0l : listed.getD k0 true = false := getD_in (by rw [I.size]; omega) hx0
    refine ⟨fun hr => (by
      obtain ⟨i, _, hi⟩ := some_ready listed a' w' I k0 hk0 hx0
      rw [hr] at hi; cases hi), fun i hi => ?_⟩
    have hiT : i < T := Classical.byContradiction fun h => tail_waits hsk hch hT hHI _ k0 rfl hk0 hk0l i (by omega) hi
    obtain ⟨h0, o, ho, hall⟩ := mem_ready.1 hi
    have hil : i < listed.size := by rw [I.size]; exact (Array.getElem?_eq_some_iff.1 ho).1
    have h0' : listed.getD i false = false := by simp [hil] at h0 ⊢; exact h0
    have hdeps : ∀ d ∈ depsOf o, listed.getD d false = true := by
      intro d hd
      unfold depsOf at hd
      obtain ⟨e, he, rfl⟩ := List.mem_map.1 hd
      obtain ⟨he1, he2⟩ := List.mem_filter.1 he
      exact hall e (by simpa using he1) he2
    -- the next state
    have next : ∀ v w'', Below w'.heap.size w' w'' → F i v w'' → Inv ops F a w (listed.setIfInBounds i true) (a'.put o.dst v) w'' := by
      intro v w'' hb hF
      have lists : ∀ k, (listed.setIfInBounds i true).getD k false = true → k = i ∨ listed.getD k false = true := by
        intro k hk
        by_cases hki : i = k
        · exact .inl hki.symm
        · right; rw [getD_set_ne false hki] at hk; exact hk
      refine ⟨I.grown.thenCall hb, by simpa using I.size, ?_, (put_size ..).trans I.tsize, (put_defers ..).trans I.tdefers, ?_, ?_, ?_⟩
      · intro k p hk hp d hd
        rcases lists k hk with rfl | hk
        · rw [ho] at hp; injection hp with hp; subst hp
          exact getD_set_true (hdeps d hd)
        · exact getD_set_true (I.closed k p hk hp d hd)
      · intro k p s hk hp hs
        rcases lists k hk with rfl | hk
        · rw [ho] at hp; injection hp with hp; subst hp
          refine ⟨v, ?_, hF⟩
          rw [hs]
          exact put_get_same a' s v (by rw [I.tsize, hsz]; exact hin k _ s ho hs)
        · obtain ⟨u, hu, hFu⟩ := I.val k p s hk hp hs
          refine ⟨u, ?_, mono k u w' w'' hb hFu⟩
          rw [put_get_other a' o.dst s v fun he => ?_]
          · exact hu
          · have := dst_inj hnd ho hp he hs
            subst this
            rw [h0'] at hk; cases hk
      · intro k p hk hp hs
        rcases lists k hk with rfl | hk
        · exact ⟨v, hF⟩
        · obtain ⟨u, hu⟩ := I.noval k p hk hp hs
          exact ⟨u, mono k u w' w'' hb hu⟩
      · intro s hs
        rw [put_get_other a' o.dst s v (hs i o (by simp [hil]) ho)]
        exact I.old s fun k p hk hp => hs k p (getD_set_true hk) hp
    have htail' : ∀ j, T ≤ j → (listed.setIfInBounds i true).getD j false = false := fun j hj => by rw [getD_set_ne false (by omega)]; exact tail j hj
    have hcount : ((listed.setIfInBounds i true).toList.filter (· == false)).length = fuel := by
      have hlt' : ((listed.setIfInBounds i true).toList.filter (· == false)).length + 1 = (listed.toList.filter (· == false)).length := by
        rw [Array.toList_setIfInBounds]
        have hi' : listed.toList[i]? = some false := by simp [hil] at h0 ⊢; exact h0
        exact count_set1 _ i hi'
      omega
    have rule := hop i o hiT ho a' w' I.grown (fun d hd => by
      have hl := hdeps d hd
      cases hp : ops[d]? with
      | none =>
        have hdl : d < listed.size := by
          rcases Nat.lt_or_ge d listed.size with h | h
          · exact h
          · simp [Array.getElem?_eq_none h] at hl
        rw [I.size] at hdl
        rw [Array.getElem?_eq_getElem hdl] at hp; cases hp
      | some p =>
        cases hs : p.dst with
        | none => exact .inr ⟨p, rfl, hs⟩
        | some s =>
          left
          obtain ⟨u, hu, hF⟩ := I.val d p s hl hp hs
          unfold valAt
          rw [hp]
          simp only [Option.bind_some, hs]
          simp [hu]; exact hF) (fun s hs => by
      show a'.tmps.getD s undef = a.tmps.getD s undef
      have : a'.tmps[s]? = a.tmps[s]? := I.old s fun k p hk hp hd => by
        have hkT : k < T := Classical.byContradiction fun h => (by have := tail k (Nat.le_of_not_lt h); rw [this] at hk; cases hk)
        exact hs k p hkT hp hd
      simp [this])
    unfold opRule at rule
    unfold wpOp
    rw [ho]
    simp only
    by_cases hw : Region.wanted o (yielded ops a'.tmps) = true
    · rw [if_pos hw] at rule ⊢
      left
      exact Oper.wp_mono (fun a'' w'' ⟨v, he, hb, hF⟩ => by
        subst he
        exact ih _ _ _ (next v w'' hb hF) htail' hcount) rule
    · rw [if_neg hw] at rule ⊢
      exact ih _ _ _ (next undef w' (Below.refl _ _) rule) htail' hcount


/-- The last operations, from number T on, wait for all others and for one another. -/
def tailB (ops : Array Oper) (T : Nat) : Bool :=
  decide (T < ops.size) && Region.sinkB .any ops T && Region.chainB .any ops T && Region.seqB .any ops (ops.size - T) T ((List.range ops.size).map (decide <| · < T)).toArray
def tabTB (ops : Array Oper) (T : Nat) (tab : List Shape) (vals : List Nat) : Bool :=
  (ops.toList.take T).length == tab.length && (((ops.toList.take T).zip tab).all fun p => rowB ops p.1 p.2) && vals.all fun s => (ops.toList.take T).all fun o => o.dst != some s
/-- A region that draws its order, whose last operations come last in every order: the others by a table, the last ones walked as they stand. -/
theorem wp_region_tabT {id : Nat} {l : List Oper} (n T : Nat) (tab : List Shape) (slots : List Nat) (hm : P.follows .mixedOrders = true) (hsz : a.tmps.size = n) (hB : factsB l.toArray n = true) (hT : tailB l.toArray T = true) (hTab : tabTB l.toArray T tab slots = true)
    (vals : List (Nat × Value)) (hs : vals.map (·.1) = slots) (hvals : ∀ p ∈ vals, a.eval (.tmp p.1) = p.2)
    (facts : List (Value → World → Prop)) (mono : ∀ f ∈ facts, ∀ v w w', Below w.heap.size w w' → f v w → f v w')
    (hops : rules P Q facts vals w (l.take T) tab 0)
    (hfin : ∀ vs : Nat → Value, ∀ w', Below w.heap.size w w' → (∀ k, k < T → factAt facts k (vs k) w') → wpList P l.toArray Q (l.drop T) (putAll (l.zipIdx.take T) vs a) w') : (Code.region id l.toArray true).wp P Q a w := by
  unfold tabTB at hTab
  simp only [Bool.and_eq_true, beq_iff_eq, List.all_eq_true] at hTab
  obtain ⟨⟨hlen, hrows⟩, hfree⟩ := hTab
  unfold tailB at hT
  simp only [Bool.and_eq_true, decide_eq_true_eq] at hT
  obtain ⟨⟨⟨hT1, hT2⟩, hT3⟩, hT4⟩ := hT
  refine wp_region_any hm (wpAny_tail hT1 hT2 hT3 hT4 hsz hB (factAt facts) ?_ ?_ (by simpa using hfin) l.toArray.size _ a _ ⟨(Below.refl _ _).drew, by simp, ?_, rfl, rfl, ?_, ?_, fun _ _ => rfl⟩ (fun j _ => by simp only [List.size_toArray]; exact getD_replicate_false _ _) (by simp))
  · intro k v w w' hb h
    unfold factAt at *
    rw [List.getD_eq_getElem?_getD] at *
    cases hk : facts[k]? with
    | none => simp
    | some f =>
      rw [hk] at h
      exact mono f (List.mem_of_getElem? hk) v w w' hb h
  · intro k o hkT ho a' w' hb hd hk
    obtain ⟨r, hr, rule⟩ := rules_at (l.take T) tab 0 (by simpa using hlen) hops k o (by rw [List.getElem?_take, if_pos hkT]; simpa using ho)
    simp only [Nat.zero_add] at rule
    have hrow := hrows (o, r) (List.mem_of_getElem? (by simpa using hr))
    unfold rowB at hrow
    simp only [Bool.and_eq_true, List.all_eq_true] at hrow
    obtain ⟨hr1, hr2⟩ := hrow
    have hrule := rule a' w' hb (fun p hp => by
      have := hr1 p hp
      simp only [beq_iff_eq] at this
      rcases hd p.1 (by simpa using this.1) with h | ⟨q, hq, hn⟩
      · unfold valAt at h
        rw [this.2] at h
        exact h
      · have h2 := this.2
        rw [hq] at h2
        simp [hn] at h2) (fun p hp => by
      rw [← hvals p hp]
      refine hk p.1 fun j q hj hq => ?_
      have hq' : q ∈ l.take T := List.mem_of_getElem? (i := j) (by rw [List.getElem?_take, if_pos hj]; simpa using hq)
      have := hfree p.1 (by rw [← hs]; exact List.mem_map_of_mem hp) q (by simpa using hq')
      simpa using this)
    unfold opRule
    rcases hrule with ⟨hw, hwp⟩ | ⟨⟨p, hp, hv⟩, hu⟩
    · have hwant : Region.wanted o (yielded l.toArray a'.tmps) = true := by
        unfold Region.wanted
        cases hg : o.guard with
        | none => rfl
        | some jb =>
          obtain ⟨j, b⟩ := jb
          cases hr' : r.2 with
          | none => rw [hg, hr'] at hr2; simp at hr2
          | some sb =>
            obtain ⟨s, b'⟩ := sb
            rw [hg, hr'] at hr2
            simp only [Bool.and_eq_true, beq_iff_eq] at hr2
            have := eval_bool (hw (s, b') hr')
            simp only at this
            simp only
            rw [yielded_of hr2.1 this, hr2.2]; simp
      rw [if_pos hwant]
      exact hwp
    · have hwant : ¬ Region.wanted o (yielded l.toArray a'.tmps) = true := by
        unfold Region.wanted
        cases hg : o.guard with
        | none => rw [hg, hp] at hr2; simp at hr2
        | some jb =>
          obtain ⟨j, b⟩ := jb
          obtain ⟨s, b'⟩ := p
          rw [hg, hp] at hr2
          simp only [Bool.and_eq_true, beq_iff_eq] at hr2
          have := eval_bool hv
          simp only at this
          simp only
          rw [yielded_of hr2.1 this, hr2.2]; simp
      rw [if_neg hwant]
      exact hu
  · intro k o hk; rw [getD_replicate_false] at hk; cases hk
  · intro k o s hk; rw [getD_replicate_false] at hk; cases hk
  · intro k o hk; rw [getD_replicate_false] at hk; cases hk
end
end Go.Proofs.Ytgjbkdlbhbfeiaa
