/-
  Rows of structs: each element has a fixed number of cells. No condition.
-/
import Derived.Test.YtbehdllomepkdaaR19
namespace Go.Proofs.Ytbehdllomepkdaa
open Go.RowKit

/-- The cells of a list of elements. -/
def encA {T : Type} (f : T → List AV) (l : List T) : List AV := l.flatMap f
section
variable {T : Type} {f : T → List AV} {e : Nat}
theorem encA_nil : encA f [] = [] := rfl
theorem encA_cons (x : T) (l : List T) : encA f (x :: l) = f x ++ encA f l := rfl
theorem encA_app (a b : List T) : encA f a ++ encA f b = encA f (a ++ b) := by simp [encA]
theorem encA_one (x : T) : encA f [x] = f x := by simp [encA]
theorem encA_len (he : ∀ x, (f x).length = e) (l : List T) : (encA f l).length = l.length * e := by
  induction l with
  | nil => simp [encA]
  | cons x l ih => rw [encA_cons, List.length_append, ih, he, List.length_cons, Nat.succ_mul]; omega
theorem encA_drop (he : ∀ x, (f x).length = e) (l : List T) (k : Nat) : (encA f l).drop (k * e) = encA f (l.drop k) := by
  induction k generalizing l with
  | zero => simp
  | succ k ih =>
    cases l with
    | nil => simp [encA]
    | cons x l =>
      rw [encA_cons, List.drop_succ_cons, ← ih l, Nat.succ_mul, Nat.add_comm, ← List.drop_drop, List.drop_append_of_le_length (by rw [he]; omega), show List.drop e (f x) = [] from List.drop_eq_nil_of_le (by rw [he]; omega), List.nil_append]
theorem encA_take (he : ∀ x, (f x).length = e) (l : List T) (k : Nat) : (encA f l).take (k * e) = encA f (l.take k) := by
  induction k generalizing l with
  | zero => simp [encA]
  | succ k ih =>
    cases l with
    | nil => simp [encA]
    | cons x l =>
      rw [encA_cons, List.take_succ_cons, encA_cons, ← ih l, Nat.succ_mul, Nat.add_comm, List.take_append, he, show e + k * e - e = k * e by omega, List.take_of_length_le (by rw [he]; omega)]
/-- An element, read as a whole. -/
theorem encA_elem [Inhabited T] (he : ∀ x, (f x).length = e) {l : List T} {k : Nat} (hk : k < l.length) : ((encA f l).drop (k * e)).take e = f (l.getD k default) := by
  rw [encA_drop he, List.drop_eq_getElem_cons hk, encA_cons, List.take_append_of_le_length (by rw [he]; omega), List.take_of_length_le (by rw [he]; omega)]
  simp [hk]
/-- A cell of an element. -/
theorem encA_at [Inhabited T] (he : ∀ x, (f x).length = e) {l : List T} {k j : Nat} {c : AV} (hk : k < l.length) (hj : (f (l.getD k default))[j]? = some c) : (encA f l)[k * e + j]? = some c := by
  have h1 : j < e := by
    have := (List.getElem?_eq_some_iff.1 hj).1
    rw [he] at this; exact this
  rw [← encA_elem he hk, List.getElem?_take_of_lt h1, List.getElem?_drop] at hj
  exact hj
/-- A part of an element. -/
theorem encA_sub [Inhabited T] (he : ∀ x, (f x).length = e) {l : List T} {k j z : Nat} {cs : List AV} (hk : k < l.length) (hz : j + z ≤ e) (hj : ((f (l.getD k default)).drop j).take z = cs) : ((encA f l).drop (k * e + j)).take z = cs := by
  rw [← hj, ← encA_elem he hk, List.drop_take, List.take_take, Nat.min_eq_left (by omega), List.drop_drop]
theorem encA_at0 [Inhabited T] (he : ∀ x, (f x).length = e) {l : List T} {k : Nat} {c : AV} (hk : k < l.length) (hj : (f (l.getD k default))[0]? = some c) : (encA f l)[k * e]? = some c := encA_at he hk hj
theorem encA_set (he : ∀ x, (f x).length = e) {l : List T} {k : Nat} (x : T) (hk : k < l.length) : (encA f l).take (k * e) ++ f x ++ (encA f l).drop (k * e + e) = encA f (l.set k x) := by
  rw [encA_take he, show k * e + e = (k + 1) * e by rw [Nat.succ_mul], encA_drop he, List.set_eq_take_append_cons_drop, if_pos hk, ← encA_app, encA_cons, List.append_assoc]
theorem encA_rep (x : T) (n : Nat) : (List.replicate n (f x)).flatten = encA f (List.replicate n x) := by
  induction n with
  | zero => rfl
  | succ n ih => rw [List.replicate_succ, List.flatten_cons, ih, List.replicate_succ, encA_cons]
theorem encA_plain (hf : ∀ x, plainR (f x)) (l : List T) : plainR (encA f l) := by
  intro x hx
  simp only [encA, List.mem_flatMap] at hx
  obtain ⟨y, _, h⟩ := hx
  exact hf y x h
theorem rep_len (zs : List AV) (n : Nat) : (List.replicate n zs).flatten.length = n * zs.length := by
  induction n with
  | zero => simp
  | succ n ih => rw [List.replicate_succ, List.flatten_cons, List.length_append, ih, Nat.succ_mul]; omega
/-- The next of a row of zeros is filled. -/
theorem fill_next (he : ∀ x, (f x).length = e) (zs : List AV) (hz : zs.length = e) (a : List T) (x : T) (m : Nat) (off : Nat) (ho : off = a.length * e) :
    (encA f a ++ (List.replicate (m + 1) zs).flatten).take off ++ f x ++ (encA f a ++ (List.replicate (m + 1) zs).flatten).drop (off + e) = encA f (a ++ [x]) ++ (List.replicate m zs).flatten := by
  have hl := encA_len he a
  rw [List.take_append_of_le_length (by omega), List.take_of_length_le (by omega), List.drop_append, List.drop_eq_nil_of_le (by omega), List.nil_append, List.replicate_succ, List.flatten_cons, show off + e - (encA f a).length = zs.length by omega, List.drop_left, ← encA_app, encA_one]
end
theorem bytes_next (g : List UInt8) (x : UInt8) (m k : Nat) (hk : k = g.length) : (bytesA (g ++ List.replicate (m + 1) 0)).set k (ab x) = bytesA ((g ++ [x]) ++ List.replicate m 0) := by
  rw [bytesA_set, hk, List.replicate_succ, List.set_append_right _ _ (by omega)]
  simp
theorem range_fill {α : Type} (g : Nat → α) (z : α) {j L : Nat} (h : j < L) : ((List.range j).map g ++ List.replicate (L - j) z).set j (g j) = (List.range (j + 1)).map g ++ List.replicate (L - (j + 1)) z := by
  obtain ⟨m, hm⟩ : ∃ m, L - j = m + 1 := ⟨L - j - 1, by omega⟩
  rw [hm, show L - (j + 1) = m by omega, List.set_append_right _ _ (by simp), List.replicate_succ, List.range_succ]
  simp
theorem enc_fill {T : Type} {f : T → List AV} {e : Nat} (he : ∀ x, (f x).length = e) (zs : List AV) (hz : zs.length = e) (g : Nat → T) {j L : Nat} (h : j < L) :
    (encA f ((List.range j).map g) ++ (List.replicate (L - j) zs).flatten).take (j * e) ++ f (g j) ++ (encA f ((List.range j).map g) ++ (List.replicate (L - j) zs).flatten).drop (j * e + e) = encA f ((List.range (j + 1)).map g) ++ (List.replicate (L - (j + 1)) zs).flatten := by
  obtain ⟨m, hm⟩ : ∃ m, L - j = m + 1 := ⟨L - j - 1, by omega⟩
  rw [hm, show L - (j + 1) = m by omega, List.range_succ, List.map_append]
  exact fill_next he zs hz _ (g j) m _ (by simp)
/-- An argument's slice is never longer than Go allows. -/
theorem Ret.len {P : Program} {f : FuncId} {args : List AV} {r : AV} (i : Nat) {e : Nat} {row : List AV} (hi : args[i]? = some (.sl e row)) (h : row.length ≤ e * 9223372036854775807 → Ret P f args r) : Ret P f args r := by
  intro w S vs hS hl hr
  have hlt : i < vs.length := by rw [hl]; exact (List.getElem?_eq_some_iff.1 hi).1
  have hrep := hr i vs[i] _ (List.getElem?_eq_getElem hlt) hi
  refine h ?_ w S vs hS hl hr
  generalize vs[i] = v at hrep
  cases hrep with
  | sl A n c e us row hl hn hc hm ha h =>
    rw [hn]
    refine Nat.mul_le_mul_left e ?_
    simp only [maxLen] at hm
    omega
theorem range_snoc {α : Type} (g : Nat → α) (j : Nat) : (List.range j).map g ++ [g j] = (List.range (j + 1)).map g := by rw [List.range_succ, List.map_append]; rfl
theorem encA_snoc {T : Type} {f : T → List AV} (l : List T) (x : T) : encA f l ++ f x = encA f (l ++ [x]) := by rw [← encA_app, encA_one]
theorem enc_range {T : Type} {f : T → List AV} (g : Nat → T) (j : Nat) : encA f ((List.range j).map g) ++ f (g j) = encA f ((List.range (j + 1)).map g) := by rw [encA_snoc, range_snoc]
end Go.Proofs.Ytbehdllomepkdaa
