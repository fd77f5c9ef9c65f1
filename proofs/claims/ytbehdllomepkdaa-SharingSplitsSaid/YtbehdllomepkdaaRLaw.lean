/-
  From a contract of a law (it returns true for arguments that read as plain data) to the row's statement: what a law's arguments read as, by type; what they read behind the call. Over any program. No condition.
-/
import Derived.Test.YtbehdllomepkdaaR20
import Derived.WalkKit
import Derived.ProofKit
import Derived.OpenShut
import Derived.ShutString
import Derived.ChangeOld
import Derived.Below
namespace Go.Proofs.Ytbehdllomepkdaa
open Go.RowKit Go.ChangeShapes Go.WideShapes Go.ChangeAt

/-- Cells of the type t read as f a, for some a with ok a. -/
def ReadC (P : Program) (t : TypeId) {T : Type} (f : T → List AV) (ok : T → Prop) : Prop :=
  ∀ (H : Type) (enc : TypeId × Value → H) (w : World) (fuel : Nat) (cs : List Value) (x : DataW H × List MemPlace), DataW.trod enc P w 0 (fun _ => true) true fuel t cs = some x →
    ∃ a, ok a ∧ (f a).length = cs.length ∧ ∀ (j : Nat) u y, cs[j]? = some u → (f a)[j]? = some y → Rep (fun b => b < w.heap.size) w u y
/-- A value of the type t reads as g a, for some a with ok a. -/
def ReadT (P : Program) (t : TypeId) {T : Type} (g : T → AV) (ok : T → Prop) : Prop :=
  ∀ (H : Type) (enc : TypeId × Value → H) (w : World) (base : Nat) (v : Value) (d : DataW H) (ps : List MemPlace), Value.okWide P w .any base t v → DataW.Trod enc P w 0 (fun _ => true) true t v d ps →
    ∃ a, ok a ∧ Rep (fun b => b < w.heap.size) w v (g a)
section
variable {P : Program} {t : TypeId} {T T' : Type} {f : T → List AV} {ok : T → Prop}
theorem ReadC.map (h : ReadC P t f ok) (g : T → T') {f' : T' → List AV} {ok' : T' → Prop} (hf : ∀ a, ok a → f' (g a) = f a) (ho : ∀ a, ok a → ok' (g a)) : ReadC P t f' ok' := by
  intro H enc w fuel cs x hx
  obtain ⟨a, h1, h2, h3⟩ := h H enc w fuel cs x hx
  exact ⟨g a, ho a h1, by rw [hf a h1]; exact h2, by rw [hf a h1]; exact h3⟩
theorem ReadT.map {k : T → AV} (h : ReadT P t k ok) (g : T → T') {k' : T' → AV} {ok' : T' → Prop} (hf : ∀ a, ok a → k' (g a) = k a) (ho : ∀ a, ok a → ok' (g a)) : ReadT P t k' ok' := by
  intro H enc w base v d ps h1 h2
  obtain ⟨a, h3, h4⟩ := h H enc w base v d ps h1 h2
  exact ⟨g a, ho a h3, by rw [hf a h3]; exact h4⟩
theorem rep_cells1 {S : Nat → Prop} {w : World} {v : Value} {x : AV} (h : Rep S w v x) (j : Nat) (u : Value) (y : AV) (hu : [v][j]? = some u) (hy : [x][j]? = some y) : Rep S w u y := by
  cases j with
  | zero => simp at hu hy; subst hu hy; exact h
  | succ j => simp at hu
theorem read_word (ht : P.underlying t = some (.int .u64)) : ReadC P t (fun c : UInt64 => [aw c]) (fun _ => True) := by
  intro H enc w fuel cs x hx
  obtain ⟨n, rfl, _, hw⟩ := DataW.trod_int ht hx
  obtain ⟨c, rfl⟩ := word_of n hw
  exact ⟨c, trivial, rfl, rep_cells1 (.val _)⟩
theorem read_byte (ht : P.underlying t = some (.int .u8)) : ReadC P t (fun c : UInt8 => [ab c]) (fun _ => True) := by
  intro H enc w fuel cs x hx
  obtain ⟨n, rfl, _, hw⟩ := DataW.trod_int ht hx
  obtain ⟨c, rfl⟩ := byte_of n hw
  exact ⟨c, trivial, rfl, rep_cells1 (.val _)⟩
abbrev i64ok (n : Int) : Prop := -9223372036854775808 ≤ n ∧ n ≤ 9223372036854775807
theorem read_int (ht : P.underlying t = some (.int .i64)) : ReadC P t (fun c : Int => [ai c]) i64ok := by
  intro H enc w fuel cs x hx
  obtain ⟨n, rfl, _, hw⟩ := DataW.trod_int ht hx
  refine ⟨n, ?_, rfl, rep_cells1 (.val _)⟩
  simpa [Lit.wf, IntKind.min, IntKind.max, IntKind.signed, IntKind.bits] using hw
theorem read_u16 (ht : P.underlying t = some (.int .u16)) : ReadC P t (fun c : Nat => [AV.val (.int .u16 c)]) (fun n => n < 65536) := by
  intro H enc w fuel cs x hx
  obtain ⟨n, rfl, _, hw⟩ := DataW.trod_int ht hx
  have hb : 0 ≤ n ∧ n ≤ 65535 := by simpa [Lit.wf, IntKind.min, IntKind.max, IntKind.signed, IntKind.bits] using hw
  obtain ⟨m, rfl⟩ := Int.eq_ofNat_of_zero_le hb.1
  exact ⟨m, by omega, rfl, rep_cells1 (.val _)⟩
theorem read_bool (ht : P.underlying t = some .bool) : ReadC P t (fun c : Bool => [ao c]) (fun _ => True) := by
  intro H enc w fuel cs x hx
  obtain ⟨b, rfl, _⟩ : ∃ b, cs = [.bool b] ∧ x = (.lit (.bool b), []) := DataW.trod_bool ht hx
  exact ⟨b, trivial, rfl, rep_cells1 (.val _)⟩
theorem read_string (ht : P.underlying t = some .string) : ReadC P t (fun s : List UInt8 => [as_ s]) (fun s => s.length ≤ 9223372036854775807) := by
  intro H enc w fuel cs x hx
  obtain ⟨s, rfl, _, hs⟩ := DataW.trod_string ht hx
  refine ⟨s.data.toList, ?_, rfl, rep_cells1 ?_⟩
  · show s.data.toList.length ≤ _; rw [Array.length_toList]; exact hs
  · show Rep _ _ _ (.val (.string ⟨s.data.toList.toArray⟩)); rw [show (⟨s.data.toList.toArray⟩ : ByteArray) = s by simp]; exact .val _
theorem mapM_get {α β : Type} {g : α → Option β} : ∀ {l : List α} {m : List β}, l.mapM g = some m → m.length = l.length ∧ ∀ (i : Nat) (a : α), l[i]? = some a → g a = m[i]? := by
  intro l
  induction l with
  | nil => intro m h; simp at h; subst h; simp
  | cons a l ih =>
    intro m h
    simp only [List.mapM_cons, Option.bind_eq_bind, Option.bind_eq_some_iff, Option.pure_def, Option.some.injEq] at h
    obtain ⟨b, hb, m', hm, rfl⟩ := h
    obtain ⟨h1, h2⟩ := ih hm
    refine ⟨by simp [h1], fun i x hx => ?_⟩
    cases i with
    | zero => simp at hx; subst hx; simpa using hb
    | succ i => simpa using h2 i x (by simpa using hx)
theorem cells_of {w : World} {ad : Addr} {n : Nat} {cs : List Value} (h : w.cells? 0 ad n = some cs) : cs.length = n ∧ ∀ j, j < n → w.cell? (ad.add j) = cs[j]? := by
  simp only [World.cells?, Nat.zero_le, if_true] at h
  obtain ⟨h1, h2⟩ := mapM_get h
  exact ⟨by simpa using h1, fun j hj => h2 j j (by simp [hj])⟩
/-- Elements that follow each other. -/
theorem elems_read {H : Type} {enc : TypeId × Value → H} {w : World} {fuel e : Nat} (hC : ReadC P t f ok) (ad : Addr) : ∀ (n : Nat) (elems : List (DataW H × List MemPlace)), n ≤ elems.length →
    (∀ i, i < n → (w.cells? 0 (ad.add (i * e)) e).bind (DataW.trod enc P w 0 (fun _ => true) true fuel t) = elems[i]?) →
    ∃ (l : List T) (us : List Value), l.length = n ∧ (∀ a ∈ l, ok a) ∧ us.length = n * e ∧ (encA f l).length = n * e ∧ (∀ (j : Nat) u, us[j]? = some u → w.cell? (ad.add j) = some u) ∧ ∀ (j : Nat) u y, us[j]? = some u → (encA f l)[j]? = some y → Rep (fun b => b < w.heap.size) w u y := by
  intro n
  induction n with
  | zero => intro elems _ _; exact ⟨[], [], rfl, by simp, by simp, by simp [encA], by simp, by simp⟩
  | succ n ih =>
    intro elems hn hel
    obtain ⟨l, us, h1, h2, h3, h4, h5, h6⟩ := ih elems (by omega) (fun i hi => hel i (by omega))
    have hx := hel n (by omega)
    rw [List.getElem?_eq_getElem (by omega)] at hx
    rw [Option.bind_eq_some_iff] at hx
    obtain ⟨cs, hcs, htr⟩ := hx
    obtain ⟨hcl, hcc⟩ := cells_of hcs
    obtain ⟨a, ha, hfl, hfr⟩ := hC H enc w fuel cs _ htr
    refine ⟨l ++ [a], us ++ cs, by simp [h1], ?_, ?_, ?_, ?_, ?_⟩
    · intro b hb
      rcases List.mem_append.1 hb with hb | hb
      · exact h2 b hb
      · simp at hb; subst hb; exact ha
    · rw [List.length_append, h3, hcl, Nat.add_mul]; omega
    · rw [← encA_snoc, List.length_append, h4, hfl, hcl, Nat.add_mul]; omega
    · intro j u hu
      by_cases hj : j < us.length
      · rw [List.getElem?_append_left hj] at hu; exact h5 j u hu
      · rw [List.getElem?_append_right (by omega)] at hu
        have hlt : j - us.length < e := by
          have := (List.getElem?_eq_some_iff.1 hu).1; omega
        have := hcc (j - us.length) hlt
        rw [hu, Addr.add_add] at this
        rw [← this]; congr 2; omega
    · intro j u y hu hy
      rw [← encA_snoc] at hy
      by_cases hj : j < us.length
      · rw [List.getElem?_append_left hj] at hu
        rw [List.getElem?_append_left (by omega)] at hy
        exact h6 j u y hu hy
      · rw [List.getElem?_append_right (by omega)] at hu
        rw [List.getElem?_append_right (by omega), h4, ← h3] at hy
        exact hfr _ u y hu hy
theorem read_slice {te : TypeId} {e : Nat} (ht : P.underlying t = some (.slice te)) (he : P.cellsOf te = e) (hC : ReadC P te f ok) : ReadC P t (fun l : List T => [.sl e (encA f l)]) (fun l => ∀ a ∈ l, ok a) := by
  intro H enc w fuel cs x hx
  rcases DataW.trod_slice ht hx with ⟨rfl, _⟩ | ⟨a, len, cap, elems, rest, n, _, rfl, hxe, _, hlc, hcm, hel, hat, _, _⟩
  · exact ⟨[], by simp, rfl, rep_cells1 (sl_empty none 0 0 e (by simp) (Nat.le_refl _) (by simp))⟩
  · rw [he] at hat
    obtain ⟨l, us, h1, h2, h3, h4, h5, h6⟩ := elems_read hC a len elems (by omega) hat
    refine ⟨l, h2, rfl, rep_cells1 (.sl _ _ _ _ us _ (h3.trans h4.symm) (by rw [h4, Nat.mul_comm]) hlc hcm (fun h0 => ⟨a, rfl, ?_, h5⟩) h6)⟩
    have hu : 0 < us.length := by omega
    have := h5 0 us[0] (List.getElem?_eq_getElem hu)
    have hb : w.heap[(a.add 0).block]? ≠ none := by
      intro hn
      rw [World.cell?, hn] at this
      cases this
    rw [block_of_add] at hb
    exact Nat.lt_of_not_le fun hle => hb (Array.getElem?_eq_none hle)
/-- Fields of a struct, from the cell o on. -/
def ReadF (P : Program) (fs : List Field) (o : Nat) {T : Type} (f : T → List AV) (ok : T → Prop) : Prop :=
  ∀ (H : Type) (enc : TypeId × Value → H) (w : World) (fuel : Nat) (cs : List Value) (xs : List (DataW H × List MemPlace)), (∀ (i : Nat) (fd : Field), fs[i]? = some fd → DataW.trod enc P w 0 (fun _ => true) true fuel fd.type ((cs.drop fd.offset).take (P.cellsOf fd.type)) = xs[i]?) → xs.length = fs.length →
    ∃ a, ok a ∧ ∀ (j : Nat) u y, cs[o + j]? = some u → (f a)[j]? = some y → Rep (fun b => b < w.heap.size) w u y
theorem read_end (o : Nat) : ReadF P [] o (fun _ : Unit => []) (fun _ => True) := by
  intro H enc w fuel cs xs _ _; exact ⟨(), trivial, by simp⟩
theorem read_field {fd : Field} {fs : List Field} {o e : Nat} {T2 : Type} {f2 : T2 → List AV} {ok2 : T2 → Prop} (hC : ReadC P fd.type f ok) (ho : fd.offset = o) (he : P.cellsOf fd.type = e) (hf : ∀ a, (f a).length = e) (hF : ReadF P fs (o + e) f2 ok2) :
    ReadF P (fd :: fs) o (fun p : T × T2 => f p.1 ++ f2 p.2) (fun p => ok p.1 ∧ ok2 p.2) := by
  intro H enc w fuel cs xs hx hl
  cases xs with
  | nil => simp at hl
  | cons x xs =>
    obtain ⟨a, ha, hfl, hfr⟩ := hC H enc w fuel _ x (hx 0 fd rfl)
    obtain ⟨b, hb, hbr⟩ := hF H enc w fuel cs xs (fun i g hg => hx (i + 1) g hg) (by simpa using hl)
    refine ⟨(a, b), ⟨ha, hb⟩, fun j u y hu hy => ?_⟩
    by_cases hj : j < e
    · rw [List.getElem?_append_left (by rw [hf]; exact hj)] at hy
      refine hfr j u y ?_ hy
      rw [List.getElem?_take_of_lt (by omega), List.getElem?_drop, ho]; exact hu
    · rw [List.getElem?_append_right (by rw [hf]; omega), hf] at hy
      exact hbr (j - e) u y (by rw [← hu]; congr 1; omega) hy
theorem read_struct {fs : Array Field} {fl : List Field} {e : Nat} (ht : P.underlying t = some (.struct fs)) (hfl : fs.toList = fl) (he : P.cellsOf t = e) (hf : ∀ a, (f a).length = e) (hF : ReadF P fl 0 f ok) : ReadC P t f ok := by
  intro H enc w fuel cs x hx
  obtain ⟨xs, n, _, _, hcl, hxl, hat⟩ := DataW.trod_struct ht hx
  subst hfl
  obtain ⟨a, ha, har⟩ := hF H enc w n cs xs (fun i g hg => hat i g (by simpa using hg)) (by simpa using hxl)
  exact ⟨a, ha, by rw [hf, hcl, he], fun j u y hu hy => har j u y (by rw [Nat.zero_add]; exact hu) hy⟩
/-- A type of one cell, no struct and no array. -/
def oneT (P : Program) (t : TypeId) : Bool := match P.underlying t with | some (.int _) | some .string | some .bool | some (.slice _) => true | _ => false
theorem ReadC.one {g : T → AV} (h : ReadC P t (fun a => [g a]) ok) (ht : oneT P t = true) : ReadT P t g ok := by
  intro H enc w base v d ps hv hd
  obtain ⟨fuel, hd⟩ := hd
  have hc : v.cells = #[v] := by
    simp only [oneT] at ht
    split at ht
    · rename_i hu; obtain ⟨n, rfl⟩ := okWide_int hu hv; rfl
    · rename_i hu
      simp only [Value.okWide, hu, Cell.okWide] at hv
      cases v <;> simp_all [Cell.ok]
      rfl
    · rename_i hu
      simp only [Value.okWide, hu, Cell.okWide] at hv
      cases v <;> simp_all [Cell.ok]
      rfl
    · rename_i hu; obtain ⟨_, _, _, rfl⟩ := okWide_slice hu hv; rfl
    · cases ht
  rw [hc] at hd
  obtain ⟨a, h1, h2, h3⟩ := h H enc w fuel _ _ hd
  exact ⟨a, h1, h3 0 _ _ rfl rfl⟩
theorem ReadC.whole {fs : Array Field} (h : ReadC P t f ok) (ht : P.underlying t = some (.struct fs)) : ReadT P t (fun a => .agg (f a)) ok := by
  intro H enc w base v d ps hv hd
  obtain ⟨fuel, hd⟩ := hd
  simp only [Value.okWide, ht] at hv
  obtain ⟨cs, rfl, _, _⟩ := hv
  obtain ⟨a, h1, h2, h3⟩ := h H enc w fuel _ _ hd
  refine ⟨a, h1, ?_⟩
  have := Rep.agg (S := fun b => b < w.heap.size) (w := w) cs.toList (f a) (by simpa [Value.cells] using h2.symm) (by simpa [Value.cells] using h3)
  simpa using this
theorem encA_bytes (l : List UInt8) : encA (fun c : UInt8 => [ab c]) l = bytesA l := by
  induction l with
  | nil => rfl
  | cons c l ih => rw [encA_cons, ih]; rfl
theorem encA_words (l : List UInt64) : encA (fun c : UInt64 => [aw c]) l = wordsA l := by
  induction l with
  | nil => rfl
  | cons c l ih => rw [encA_cons, ih]; rfl
theorem encA_ints (l : List Int) : encA (fun c : Int => [ai c]) l = intsA l := by
  induction l with
  | nil => rfl
  | cons c l ih => rw [encA_cons, ih]; rfl
theorem read_bytes {te : TypeId} (ht : P.underlying t = some (.slice te)) (he : P.underlying te = some (.int .u8)) (hc : P.cellsOf te = 1) : ReadC P t (fun l : List UInt8 => [.sl 1 (bytesA l)]) (fun _ => True) :=
  (read_slice ht hc (read_byte he)).map id (fun l _ => by rw [encA_bytes]; rfl) (fun _ _ => trivial)
theorem read_words {te : TypeId} (ht : P.underlying t = some (.slice te)) (he : P.underlying te = some (.int .u64)) (hc : P.cellsOf te = 1) : ReadC P t (fun l : List UInt64 => [.sl 1 (wordsA l)]) (fun _ => True) :=
  (read_slice ht hc (read_word he)).map id (fun l _ => by rw [encA_words]; rfl) (fun _ _ => trivial)
theorem read_ints {te : TypeId} (ht : P.underlying t = some (.slice te)) (he : P.underlying te = some (.int .i64)) (hc : P.cellsOf te = 1) : ReadC P t (fun l : List Int => [.sl 1 (intsA l)]) (fun l => ∀ n ∈ l, i64ok n) :=
  (read_slice ht hc (read_int he)).map id (fun l _ => by rw [encA_ints]; rfl) (fun _ h => h)
end
/-- A law whose contract says that it returns true. -/
theorem Ret.law {P : Program} {f : FuncId} {args : List AV} (h : Ret P f args (ao true)) (w : World) (vs : List Value) (hl : vs.length = args.length) (hr : ∀ (j : Nat) v x, vs[j]? = some v → args[j]? = some x → Rep (fun b => b < w.heap.size) w v x) :
    Calls P f vs.toArray w fun e w' => e = .returned (.bool true) ∧ Below w.heap.size w w' := by
  refine (h w (fun b => b < w.heap.size) vs (fun _ h => h) hl hr).mono fun e w' ⟨v, O, he, hb, _, _, hg⟩ => ⟨?_, hb⟩
  subst he
  rcases hg with hg | ⟨_, _, _, hx, _⟩
  · rcases hg with hg | ⟨_, _, _, hx, _⟩
    · cases hg with
      | rep hrep => cases hrep; rfl
    · cases hx
  · cases hx
theorem rep_nil (S : Nat → Prop) (w : World) (j : Nat) (v : Value) (x : AV) (h : ([] : List Value)[j]? = some v) (_ : ([] : List AV)[j]? = some x) : Rep S w v x := by simp at h
theorem rep_cons {S : Nat → Prop} {w : World} {v : Value} {x : AV} {vs : List Value} {xs : List AV} (h : Rep S w v x) (h2 : ∀ (j : Nat) v x, vs[j]? = some v → xs[j]? = some x → Rep S w v x) (j : Nat) (u : Value) (y : AV) (hu : (v :: vs)[j]? = some u) (hy : (x :: xs)[j]? = some y) : Rep S w u y := by
  cases j with
  | zero => simp at hu hy; subst hu hy; exact h
  | succ j => exact h2 j u y (by simpa using hu) (by simpa using hy)
/-- What the arguments read behind the call. -/
theorem Below.trodAll_ {H : Type} {enc : TypeId × Value → H} {P : Program} (hl : laidOutB P = true) {W W' : World} (hb : Below W.heap.size W W') : ∀ (ts : List TypeId) (vs : List Value) (ds : List (DataW H)) (ps : List MemPlace), (ts.all fun t => P.readableRec t && decide (t < P.types.size)) = true →
    DataW.TrodAll enc P W 0 (fun _ => true) true ts vs ds ps → DataW.TrodAll enc P W' 0 (fun b => decide (b < W.heap.size)) true ts vs ds ps := by
  intro ts
  induction ts with
  | nil => intro vs ds ps _ h; cases vs <;> cases ds <;> simp_all [DataW.TrodAll]
  | cons t ts ih =>
    intro vs ds ps hr h
    rw [List.all_cons, Bool.and_eq_true, Bool.and_eq_true] at hr
    obtain ⟨v, vs', d, ds', p, q, rfl, rfl, rfl, h1, h2⟩ := trodAll_cons h
    have lt : ∀ x ∈ p, x.block < W.heap.size := by obtain ⟨m, hm⟩ := h1; exact DataW.trod_lt m _ _ _ hm
    exact ⟨p, q, Below.trod hl hr.1.1 (of_decide_eq_true hr.1.2) h1 hb lt, ih _ _ _ hr.2 h2, rfl⟩
end Go.Proofs.Ytbehdllomepkdaa
