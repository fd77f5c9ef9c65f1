/-
  append and copy on plain states, as the evaluator has them. Over any program. No condition.
-/
import Derived.Test.YtbehdllomepkdaaR10
namespace Go.Proofs.Ytbehdllomepkdaa
open Go.RowKit

def plainR (row : List AV) : Prop := ∀ x ∈ row, plain0 x = true
theorem plainR_bytes (l : List UInt8) : plainR (bytesA l) := by
  intro x hx; simp only [bytesA, List.mem_map] at hx; obtain ⟨c, _, rfl⟩ := hx; rfl
theorem plainR_words (l : List UInt64) : plainR (wordsA l) := by
  intro x hx; simp only [wordsA, List.mem_map] at hx; obtain ⟨c, _, rfl⟩ := hx; rfl
theorem plainR_ints (l : List Int) : plainR (intsA l) := by
  intro x hx; simp only [intsA, List.mem_map] at hx; obtain ⟨c, _, rfl⟩ := hx; rfl
theorem plainR_of : ∀ {l : List AV}, plainL l = true → plainR l
  | [], _ => by intro x hx; simp at hx
  | y :: l, h => by
    simp only [plainL] at h
    split at h
    · rename_i hy
      intro x hx
      rcases List.mem_cons.1 hx with rfl | hx
      · exact hy
      · exact plainR_of h x hx
    · cases h
theorem plainR_app {l m : List AV} (h1 : plainR l) (h2 : plainR m) : plainR (l ++ m) := by
  intro x hx
  rcases List.mem_append.1 hx with h | h
  · exact h1 x h
  · exact h2 x h
/-- The cells that are appended hold one value each. -/
def plainC (h : Hint) (row : List AV) : Option (List Prop) := match h.b with | true => (match plainL row with | true => some [] | false => none) | false => some [plainR row]
theorem plainC_ok {h : Hint} {row : List AV} {C D : List Prop} (hp : plainC h row = some C) (hC : AllP (C ++ D)) : plainR row ∧ AllP D := by
  unfold plainC at hp
  split at hp
  · split at hp
    · rename_i h1; cases hp; exact ⟨plainR_of h1, hC⟩
    · cases hp
  · cases hp; exact hC

def srcAny (P : Program) (s : AS) (xt : TypeId) (z : Nat) (x : AV) : Option (List AV) :=
  match P.underlying xt with
  | some (.slice _) => (match srcOf s x with | some (e, row) => (match Nat.beq e z with | true => some row | false => (match x with | .nil => some [] | _ => none)) | none => none)
  | some .string => (match x, z with | .val (.string b), 1 => some (bytesA b.data.toList) | _, _ => none)
  | _ => none
/-- The slice that is appended to: its cells, and the state without it. -/
def dstOf (s : AS) (e : Nat) : AV → Option (List AV × AS)
  | .nil => some ([], s)
  | .ref id => (match look s.H id with | some ⟨e', true, _, cells⟩ => (match Nat.beq e e' with | true => some (cells, retire id s) | false => none) | _ => none)
  | .pre id l => (match look s.H id with | some ⟨e', true, _, cells⟩ => (match Nat.beq e e' with | true => some (cells.take l, retire id s) | false => none) | _ => none)
  | _ => none
def evAppend (P : Program) (n : Nat) (s : AS) (d t xt : Nat) (x y : AV) (h : Hint) : Option (AS × List Prop) :=
  match P.underlying t with
  | some (.slice el) => (match P.info? el with
    | some i => (match i.zero, i.size, i.bytes with
      | some zero, z + 1, b + 1 => (match Nat.beq zero.cells.size (z + 1), dstOf s (z + 1) x, srcAny P s xt (z + 1) y with
        | true, some (cells, s1), some row => (match plainC h row, putD n ⟨(retire d s1).F, (d, ⟨z + 1, true, false, (named h (cells ++ row)).1⟩) :: (retire d s1).H⟩ (some d) (.ref d) with
          | some C, some s' => some (s', (named h (cells ++ row)).2 ++ (C ++ [(cells.length + row.length) * (b + 1) ≤ (z + 1) * 140737488355328]))
          | _, _ => none)
        | _, _, _ => none)
      | _, _, _ => none)
    | none => none)
  | _ => none
section
variable {P : Program} {n : Nat} {s : AS} {o : Oper} {h : Hint} {q : AS × List Prop}
theorem rep_one {S : Nat → Prop} {w : World} {v : Value} {x : AV} (h : Rep S w v x) (hp : plain0 x = true) : v.oneCell' = true := (plain0_rep (I := fun _ => none) (.rep h) hp).2
/-- The source of an append. -/
theorem srcAny_ok {S0 : Nat → Prop} {w0 w : World} {a : Act} {φ : Nat → Option Nat} (hs : SimO S0 w0 n [] s a w φ) {xt : TypeId} {v : Value} {x : AV} (hx : Den (infoOf s.H φ) (Free S0 w φ []) w v x) {z : Nat} {row : List AV} (he : srcAny P s xt z x = some row) (hone : plainR row) :
    ∃ m us, SrcRun P w xt z v m us ∧ us.length = row.length ∧ ∀ (j : Nat) u x, us[j]? = some u → row[j]? = some x → Rep (Free S0 w φ []) w u x := by
  unfold srcAny at he
  split at he
  · rename_i e2 hu
    split at he
    · rename_i e row' hsrc
      split at he
      · rename_i hb
        have hb := Nat.eq_of_beq_eq_true hb
        cases he
        subst hb
        obtain ⟨A, m, c, us, rfl, h1, h2, h3, h4, h5⟩ := src_ok hs hx hsrc
        have ho : ∀ u ∈ us, u.oneCell' = true := by
          intro u hu
          obtain ⟨j, hj⟩ := List.getElem?_of_mem hu
          have hjl : j < row.length := by have := (List.getElem?_eq_some_iff.1 hj).1; omega
          exact rep_one (h4 j u _ hj (List.getElem?_eq_getElem hjl)) (hone _ (List.getElem_mem hjl))
        exact ⟨m, us, srcRun_slice hu (by rw [h2, h1, Nat.mul_comm]) (fun h0 => h3 (by omega)) ho, h2, h4⟩
      · split at he
        · cases he
          cases hx with | rep hx => cases hx with | nil => exact ⟨0, [], srcRun_slice hu (by simp) (fun h => by simp at h) (by simp), rfl, fun j u x hu => by simp at hu⟩
        · cases he
    · cases he
  · rename_i hu
    split at he
    · rename_i b
      cases he
      have hv := den_val hx
      subst hv
      refine ⟨b.size, bvs b.data.toList, srcRun_string hu b, by rw [bvs_len, bytesA_len], fun j u x hu hx => ?_⟩
      have hj : j < b.data.toList.length := by have := (List.getElem?_eq_some_iff.1 hu).1; rw [bvs_len] at this; exact this
      rw [bvs_at _ _ hj] at hu
      injection hu with hu; subst hu
      have e2 : (bytesA b.data.toList)[j]? = some (.val (.int .u8 (bv (b.data.toList.getD j 0)))) := by
        simp only [bytesA, List.getElem?_map, List.getElem?_eq_getElem hj, Option.map_some, List.getD_eq_getElem?_getD, Option.getD_some]
      rw [e2] at hx
      injection hx with hx; subst hx
      exact .val _
    · cases he
  · cases he
/-- The destination of an append. -/
theorem dstOf_ok {S0 : Nat → Prop} {w0 w : World} {a : Act} {φ : Nat → Option Nat} (hs : SimO S0 w0 n [] s a w φ) {v : Value} {x : AV} (hx : Den (infoOf s.H φ) (Free S0 w φ []) w v x) {e : Nat} {cells : List AV} {s1 : AS} (he : dstOf s e x = some (cells, s1)) :
    (v = .slice none 0 0 ∧ cells = [] ∧ ∃ φ1, SimO S0 w0 n [] s1 a w φ1 ∧ ∀ b, Free S0 w φ [] b → Free S0 w φ1 [] b) ∨
    ∃ (g l c : Nat) (φ1 : Nat → Option Nat), v = .slice (some ⟨g, 0, none⟩) l c ∧ SimO S0 w0 n [g] s1 a w φ1 ∧ (∀ b, Free S0 w φ [] b → Free S0 w φ1 [g] b) ∧ l ≤ c ∧ c ≤ maxLen ∧ cells.length = e * l ∧ w0.heap.size ≤ g ∧ g < w.heap.size ∧
      ∃ cur te fr, w.heap[g]? = some (.cells cur te fr) ∧ (∀ j, j < cur.size → ¬ (fr.1 ≤ j ∧ j < fr.2)) ∧ cur.size = e * c ∧ ∀ (j : Nat) u x, cur[j]? = some u → cells[j]? = some x → Rep (Free S0 w φ []) w u x := by
  have own : ∀ (id g l c m : Nat) (e' : Nat) (fu : Bool) (rc : List AV), look s.H id = some ⟨e', true, fu, rc⟩ → infoOf s.H φ id = some (e', m, some g) → e = e' → l ≤ c → c ≤ maxLen → cellsLen w g = e' * c → cells.length = e * l → (∀ (j : Nat) x, cells[j]? = some x → rc[j]? = some x) → s1 = retire id s → v = .slice (some ⟨g, 0, none⟩) l c →
      ∃ (g l c : Nat) (φ1 : Nat → Option Nat), v = .slice (some ⟨g, 0, none⟩) l c ∧ SimO S0 w0 n [g] s1 a w φ1 ∧ (∀ b, Free S0 w φ [] b → Free S0 w φ1 [g] b) ∧ l ≤ c ∧ c ≤ maxLen ∧ cells.length = e * l ∧ w0.heap.size ≤ g ∧ g < w.heap.size ∧
      ∃ cur te fr, w.heap[g]? = some (.cells cur te fr) ∧ (∀ j, j < cur.size → ¬ (fr.1 ≤ j ∧ j < fr.2)) ∧ cur.size = e * c ∧ ∀ (j : Nat) u x, cur[j]? = some u → cells[j]? = some x → Rep (Free S0 w φ []) w u x := by
    intro id g l c m e' fu rc hr hi hee hlc hcm hcl hlen hsub hs1 hv
    subst hs1; subst hee
    obtain ⟨r', hr', -, -, hφ⟩ := info_some hi
    obtain ⟨cur, te, fr, hg, hf, hle, hc⟩ := row_pure hs hr rfl hφ
    refine ⟨g, l, c, erase φ id, hv, hs.retire_ id [g] (by rw [hφ]), fun b hb => ⟨hb.1, by simp; exact fun e => hb.2.2.1 id (by rw [hφ, e]), fun i hi => ?_, hb.2.2.2⟩, hlc, hcm, hlen, (hs.rng id g hφ).1, (hs.rng id g hφ).2, cur, te, fr, hg, hf, ?_, fun j u x hu hx => hc j u x hu (hsub j x hx)⟩
    · unfold erase at hi
      split at hi
      · cases hi
      · exact hb.2.2.1 i hi
    · unfold cellsLen at hcl; rw [hg] at hcl; exact hcl
  have none_ : ∀ id, φ id = none → s1 = retire id s → v = .slice none 0 0 → cells = [] → v = .slice none 0 0 ∧ cells = [] ∧ ∃ φ1, SimO S0 w0 n [] s1 a w φ1 ∧ ∀ b, Free S0 w φ [] b → Free S0 w φ1 [] b := by
    intro id hφ hs1 hv hc
    subst hs1
    refine ⟨hv, hc, erase φ id, hs.retire_ id [] (by rw [hφ]), fun b hb => ⟨hb.1, by simp, fun i hi => ?_, hb.2.2.2⟩⟩
    unfold erase at hi
    split at hi
    · cases hi
    · exact hb.2.2.1 i hi
  cases hx with
  | rep hx =>
    cases hx with
    | nil => cases he; exact .inl ⟨rfl, rfl, φ, hs, fun _ h => h⟩
    | _ => cases he
  | agg => cases he
  | tup => cases he
  | dead => cases he
  | addr => cases he
  | win => cases he
  | ref id e' m g l c hi hm hc hx hs' =>
    obtain ⟨r, hr, h1, h2, hφ⟩ := info_some hi
    obtain ⟨re, rp, rf, rc⟩ := r
    simp only [dstOf, hr] at he
    split at he
    · rename_i heq
      injection heq with heq; cases heq
      split at he
      · rename_i hb
        have hb := Nat.eq_of_beq_eq_true hb
        cases he
        simp only at h1 h2
        subst h1
        exact .inr (own id g l c m _ _ _ hr hi hb hc hx hs' (by rw [h2, hm, hb]) (fun _ _ h => h) rfl rfl)
      · cases he
    · cases he
  | refnil id e' hi =>
    obtain ⟨r, hr, h1, h2, hφ⟩ := info_some hi
    obtain ⟨re, rp, rf, rc⟩ := r
    simp only [dstOf, hr] at he
    split at he
    · rename_i heq
      injection heq with heq; cases heq
      split at he
      · cases he
        simp only at h2
        exact .inl (none_ id hφ rfl rfl (List.length_eq_zero_iff.1 h2))
      · cases he
    · cases he
  | pre id k e' m g l c hi hn hm hc hx hs' =>
    obtain ⟨r, hr, h1, h2, hφ⟩ := info_some hi
    obtain ⟨re, rp, rf, rc⟩ := r
    simp only [dstOf, hr] at he
    split at he
    · rename_i heq
      injection heq with heq; cases heq
      split at he
      · rename_i hb
        have hb := Nat.eq_of_beq_eq_true hb
        cases he
        simp only at h1 h2
        subst h1
        exact .inr (own id g l c m _ _ _ hr hi hb hc hx hs' (by rw [List.length_take, h2, hb, ← hn]; omega) (fun j x h => take_get _ _ _ _ h) rfl rfl)
      · cases he
    · cases he
  | prenil id e' hi =>
    obtain ⟨r, hr, h1, h2, hφ⟩ := info_some hi
    obtain ⟨re, rp, rf, rc⟩ := r
    simp only [dstOf, hr] at he
    split at he
    · rename_i heq
      injection heq with heq; cases heq
      split at he
      · cases he
        exact .inl (none_ id hφ rfl rfl (by simp))
      · cases he
    · cases he
theorem evAppend_ok {t xt d : Nat} {x y : Operand} (ho : o.op = .call ⟨.builtin .append, ⟨[x, y]⟩, ⟨[t, xt]⟩⟩) (hd : o.dst = some d) (hr : evAppend P n s d t xt (opd s x) (opd s y) h = some q) : OpOK P n s o q.1 q.2 := by
  intro hC S0 w0 a w Q ⟨φ, hs⟩
  unfold evAppend at hr
  split at hr
  · rename_i el hu
    split at hr
    · rename_i i hi
      split at hr
      · rename_i zero z b hz hsz hby
        split at hr
        · rename_i cells s1 row hzs hdst hsrc
          split at hr
          · rename_i C s' hpl hput
            injection hr with hr; subst hr
            obtain ⟨hn, hC2⟩ := named_ok hC
            obtain ⟨hpr, hbd, -⟩ := plainC_ok hpl hC2
            have hzs := Nat.eq_of_beq_eq_true hzs
            replace hsz : i.size = z + 1 := hsz
            replace hby : i.bytes = b + 1 := hby
            obtain ⟨m, us, hsr, hul, hrep⟩ := srcAny_ok (P := P) hs (hs.opd y) hsrc hpr
            have hrow : row.length = (z + 1) * m := by rw [← hul, hsr.hl, Nat.mul_comm]
            rw [hn] at hput
            have wp : ∀ v' w', (Builtin.append_ #[t, xt] o.type #[a.eval x, a.eval y]).run P w = .ok v' w' → Sim S0 w0 n s' (a.put o.dst v') w' → o.wp P a w (fun a' w' => Sim S0 w0 n s' a' w') Q := by
              intro v' w' hrun hsim
              refine wp_of_run (v := v') (w' := w') ?_ hsim
              unfold execOp
              simp [ho, resolve, invoke, builtin, hrun]
            have rlook : ∀ s1 : AS, look (retire d s1).H d = none := fun s1 => look_retire_none d
            rcases dstOf_ok hs (hs.opd x) hdst with ⟨hv, hce, φ1, hs1, hF⟩ | ⟨g, l, c, φ1, hv, hs1, hF, hlc, hcm, hcl, hg0, hg1, cur, te, fr, hg, hf, hcs, hold⟩
            · subst hce
              simp only [List.nil_append, List.length_nil, Nat.zero_add] at hput hbd
              have hnb : m * i.bytes ≤ 140737488355328 := by
                have := need_ok (l := 0) (m := m) (by omega) (by rw [Nat.zero_add]; exact hrow) hbd
                rw [Nat.zero_add] at this; rw [hby]; exact this
              have hs2 := hs1.retire0 d
              rcases run_appN (ty := o.type) hu hi hz (by rw [hzs, hsz]) (by omega) (by rw [hsz]; exact hsr) hnb with ⟨hm, hrun⟩ | ⟨v', w', hrun, hA⟩
              · have hre : row = [] := List.length_eq_zero_iff.1 (by rw [hrow, hm]; simp)
                subst hre
                refine wp (.slice none 0 0) w (by rw [hv]; exact hrun) ⟨erase φ1 d, ?_⟩
                rw [hd]
                exact putD_ok (hs2.adopt_nil (id := d) (r := ⟨z + 1, true, false, []⟩) (rlook s1) rfl) (.refnil d (z + 1) (by rw [info_of (r := ⟨z + 1, true, false, []⟩) (by rw [look_cons, if_pos rfl]), hs2.only d (rlook s1)]; rfl)) hput
              · rw [hsz] at hA
                obtain ⟨φ2, h3, h4⟩ := hs2.appended (g0 := none) rfl (by simp) (by simp) (rlook s1) hA (row := row) hul.symm (fun j u x hu hx => (hrep j u x hu hx).mono fun b hb => ⟨⟨hb.1, by simp, fun i hi => by
                  unfold erase at hi
                  split at hi
                  · cases hi
                  · exact (hF b hb).2.2.1 i hi, hb.2.2.2⟩, rfl⟩)
                refine wp _ _ (by rw [hv]; exact hrun) ⟨φ2, ?_⟩
                rw [hd]
                exact putD_ok h3 h4 hput
            · have htk : (cur.toList.take (l * (z + 1))).length = cells.length := by
                have hcl2 : cur.toList.length = cur.size := rfl
                rw [List.length_take, hcl, hcl2, hcs, Nat.mul_comm]
                exact Nat.min_eq_left (Nat.mul_le_mul_left _ hlc)
              have hnb : (l + m) * i.bytes ≤ 140737488355328 := by
                rw [hby]; exact need_ok (by omega) (by rw [hcl, hrow, ← Nat.mul_add]) hbd
              have hs2 : SimO S0 w0 n [g] (retire d s1) a w (erase φ1 d) := by
                cases hφd : φ1 d with
                | none => exact hs1.retire_ d [g] (by rw [hφd])
                | some gd => exact (hs1.retire_ d [gd, g] (by rw [hφd])).free_
              obtain ⟨v', w', g', hrun, hA⟩ := run_appO (ty := o.type) hu hi hz (by rw [hzs, hsz]) (by omega) (by rw [hsz]; exact hsr) hg hf (by rw [hsz]; exact hcs) hlc hcm hnb
              rw [hsz] at hA
              have hFr : ∀ b, Free S0 w φ [] b → Free S0 w (erase φ1 d) [g] b := fun b hb => ⟨hb.1, (hF b hb).2.1, fun i hi => by
                unfold erase at hi
                split at hi
                · cases hi
                · exact (hF b hb).2.2.1 i hi, hb.2.2.2⟩
              obtain ⟨φ2, h3, h4⟩ := hs2.appended (g0 := some g) rfl (by simpa using hg0) (by simpa using hg1) (rlook s1) hA (row := cells ++ row) (by rw [List.length_append, List.length_append, htk, hul]) (fun j u x hu hx => by
                refine Rep.mono (fun b hb => ⟨hFr b hb, rfl⟩) (?_ : Rep (Free S0 w φ []) w u x)
                by_cases hj : j < cells.length
                · rw [List.getElem?_append_left (by omega)] at hu
                  rw [List.getElem?_append_left hj] at hx
                  have := take_get _ _ _ _ hu
                  exact hold j u x (by simpa using this) hx
                · rw [List.getElem?_append_right (by omega)] at hu
                  rw [List.getElem?_append_right (by omega)] at hx
                  rw [htk] at hu
                  exact hrep _ u x hu hx)
              refine wp _ _ (by rw [hv]; exact hrun) ⟨φ2, ?_⟩
              rw [hd]
              exact putD_ok h3 h4 hput
          · cases hr
        · cases hr
      · cases hr
    · cases hr
  · cases hr

-- copy

/-- The part of a row that is copied into: its row, where it begins, how many cells it has. -/
def copyTo (s : AS) : AV → Option (Nat × Nat × Nat)
  | .ref id => (match look s.H id with | some r => some (id, 0, r.cells.length) | none => none)
  | .pre id l => some (id, 0, l)
  | .win id o l => some (id, o, l)
  | _ => none
def evCopy (P : Program) (n : Nat) (s : AS) (d : Option Nat) (t xt : Nat) (x y : AV) (h : Hint) : Option (AS × List Prop) :=
  match P.underlying t with
  | some (.slice el) => (match sizeT P el, copyTo s x with
    | some (z + 1), some (id, off, l) => (match look s.H id, srcAny P s xt (z + 1) y with
      | some ⟨e, true, fu, cells⟩, some row => (match Nat.beq e (z + 1), plainC h row, putD n (setH s id ⟨e, true, fu, (named h (setCells cells off (row.take (mul1 h.k (z + 1))))).1⟩) d (.val (.int .i64 h.k)) with
        | true, some C, some s' => some (s', (named h (setCells cells off (row.take (mul1 h.k (z + 1))))).2 ++ (C ++ [min row.length l = mul1 h.k (z + 1), 0 < h.k]))
        | _, _, _ => none)
      | _, _ => none)
    | _, _ => none)
  | _ => none
theorem evCopy_ok {t xt : Nat} {x y : Operand} (ho : o.op = .call ⟨.builtin .copy, ⟨[x, y]⟩, ⟨[t, xt]⟩⟩) (hr : evCopy P n s o.dst t xt (opd s x) (opd s y) h = some q) : OpOK P n s o q.1 q.2 := by
  intro hC S0 w0 a w Q ⟨φ, hs⟩
  unfold evCopy at hr
  split at hr
  · rename_i el hu
    split at hr
    · rename_i z id off l hsz hto
      split at hr
      · rename_i e fu cells row hrow hsrc
        split at hr
        · rename_i C s' he hpl hput
          injection hr with hr; subst hr
          have he := Nat.eq_of_beq_eq_true he
          obtain ⟨hn, hC2⟩ := named_ok hC
          obtain ⟨hpr, hmin, hk0, -⟩ := plainC_ok hpl hC2
          obtain ⟨m, us, hsr, hul, hrep⟩ := srcAny_ok (P := P) hs (hs.opd y) hsrc hpr
          rw [mul1_eq] at hmin
          have hrl : row.length = (z + 1) * m := by rw [← hul, hsr.hl, Nat.mul_comm]
          have hI := info_of (φ := φ) hrow
          -- where the destination lies
          have hx := hs.opd x
          have hdst : ∃ (g dl c : Nat), a.eval x = .slice (some ⟨g, off, none⟩) dl c ∧ φ id = some g ∧ l = (z + 1) * dl ∧ off + l ≤ cells.length := by
            have hl0 : 0 < l := by
              have := Nat.mul_pos hk0 (show 0 < z + 1 by omega)
              omega
            generalize a.eval x = V at hx
            unfold copyTo at hto
            split at hto
            · rename_i id' hxe
              rw [hxe] at hx
              split at hto
              · rename_i r' hr'
                cases hto
                rw [hrow] at hr'; injection hr' with hr'; subst hr'
                cases hx with
                | rep h => cases h
                | ref _ e' m' g l' c hi hm hc hx hs' =>
                  rw [hI] at hi; injection hi with hi; injection hi with h1 hi; injection hi with h2 h3
                  simp only at h1 h2 ⊢
                  exact ⟨g, l', c, rfl, h3, by rw [h2, hm, ← h1, he], by omega⟩
                | refnil _ e' hi =>
                  rw [hI] at hi; injection hi with hi; injection hi with h1 hi; injection hi with h2 h3
                  simp only at h2 hl0; omega
              · cases hto
            · rename_i id' l' hxe
              rw [hxe] at hx
              cases hto
              cases hx with
              | rep h => cases h
              | pre _ _ e' m' g l' c hi hn' hm hc hx hs' =>
                rw [hI] at hi; injection hi with hi; injection hi with h1 hi; injection hi with h2 h3
                simp only at h1 h2 ⊢
                exact ⟨g, l', c, rfl, h3, by rw [hn', ← h1, he], by omega⟩
              | prenil _ e' hi => omega
            · rename_i id' o' l' hxe
              rw [hxe] at hx
              cases hto
              cases hx with
              | rep h => cases h
              | win _ _ _ e' m' l' c g A hi hn' hm hc hx ha =>
                rw [hI] at hi; injection hi with hi; injection hi with h1 hi; injection hi with h2 h3
                obtain ⟨b, hb, rfl⟩ := ha hl0
                simp only at h1 h2 ⊢
                exact ⟨b, l', c, rfl, by rw [h3, hb], by rw [hn', ← h1, he], by omega⟩
            · cases hto
          obtain ⟨g, dl, c, hv, hφ, hl, hfit⟩ := hdst
          obtain ⟨cur, te, fr, hg, hf, hle, hold⟩ := row_at hs hrow hφ
          have hle' : cells.length ≤ cur.size := hle
          have hkm : min m dl = h.k := by
            rw [hrl, hl, Nat.mul_comm h.k, Nat.mul_min_mul_left] at hmin
            exact Nat.eq_of_mul_eq_mul_left (by omega) hmin
          have hkl : h.k * (z + 1) ≤ l := by omega
          have hkr : h.k * (z + 1) ≤ row.length := by omega
          have htl : (row.take (mul1 h.k (z + 1))).length = h.k * (z + 1) := by rw [mul1_eq, List.length_take]; omega
          have hut : (us.take (h.k * (z + 1))).length = h.k * (z + 1) := by rw [List.length_take]; omega
          have hcells : (Builtin.firstCells (z + 1) h.k (a.eval y)).run P w = .ok (us.take (h.k * (z + 1))).toArray w := hsr.part w h.k rfl (by omega)
          have hone : ∀ u ∈ us.take (h.k * (z + 1)), u.oneCell' = true := fun u hu => hsr.one u (List.mem_of_mem_take hu)
          have hst := run_storeCells_free P g te fr cur.size hf off (us.take (h.k * (z + 1))) 0 cur w hg (by rw [hut]; omega) rfl hone
          simp only [Nat.add_zero] at hst
          have hsim := hs.written (off := off) (l := row.take (mul1 h.k (z + 1))) (vs := us.take (h.k * (z + 1))) hrow hφ hg hle hold (by rw [htl, hut]) (by rw [htl]; simp only; omega) hn (fun j u x hu hx => by
            show Rep _ _ _ _
            exact hrep j u x (take_get _ _ _ _ hu) (take_get _ _ _ _ hx))
          have hsz' : (sizeOf el).run P w = .ok (z + 1) w := run_sizeOf hsz
          refine wp_of_run (v := .int .i64 h.k) (w' := w.setRow g (cur.toList.take off ++ us.take (h.k * (z + 1)) ++ cur.toList.drop (off + (us.take (h.k * (z + 1))).length)).toArray) ?_ ⟨φ, putD_ok hsim (.rep (.val _)) hput⟩
          have hnm : Nat.min m dl = h.k := hkm
          unfold execOp
          simp [ho, resolve, invoke, builtin, Builtin.copy_, run_underlying hu, hv, hsr.len, hnm, hsz', hcells, hst, goInt]
        · cases hr
      · cases hr
    · cases hr
  · cases hr
end
end Go.Proofs.Ytbehdllomepkdaa
