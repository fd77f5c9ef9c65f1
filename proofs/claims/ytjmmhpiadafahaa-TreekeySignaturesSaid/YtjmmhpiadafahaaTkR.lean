/-
  The readers of arguments of the types api.PublicKey and api.Signature. No condition.
-/
import Derived.Test.YtjmmhpiadafahaaRC
import Derived.Test.YtjmmhpiadafahaaProg
namespace Go.Proofs.Ytjmmhpiadafahaa
open Go.RowKit

structure Pk where
  h : Int
  r : UInt64
structure Sg where
  l : Int
  c : List UInt64
  p : List UInt64
def pkC (t : Pk) : List AV := [ai t.h, aw t.r]
theorem read_pk : ReadT Try.prog 24 (fun t : Pk => .agg [ai t.h, aw t.r]) (fun _ => True) := by
  have h := read_struct (P := Try.prog) (t := 24) (e := 2) Try.underlying24 rfl (by kernel_rfl) (fun _ => rfl)
    (read_field (read_int (by kernel_rfl)) rfl (by kernel_rfl) (fun _ => rfl) (read_field (read_word (by kernel_rfl)) rfl (by kernel_rfl) (fun _ => rfl) (read_end _)))
  exact (h.map (f' := pkC) (fun a => (⟨a.1, a.2.1⟩ : Pk)) (fun _ _ => rfl) (fun _ _ => trivial)).whole Try.underlying24
def sgA (t : Sg) : List AV := [ai t.l, .sl 1 (wordsA t.c), .sl 1 (wordsA t.p)]
theorem read_sg : ReadT Try.prog 32 (fun t : Sg => .agg [ai t.l, .sl 1 (wordsA t.c), .sl 1 (wordsA t.p)]) (fun _ => True) := by
  have h := read_struct (P := Try.prog) (t := 32) (e := 3) Try.underlying32 rfl (by kernel_rfl) (fun _ => rfl)
    (read_field (read_int (by kernel_rfl)) rfl (by kernel_rfl) (fun _ => rfl) (read_field (read_words Try.underlying30 Try.underlying22 (by kernel_rfl)) rfl (by kernel_rfl) (fun _ => rfl) (read_field (read_words Try.underlying30 Try.underlying22 (by kernel_rfl)) rfl (by kernel_rfl) (fun _ => rfl) (read_end _))))
  exact (h.map (f' := sgA) (fun a => (⟨a.1, a.2.1, a.2.2.1⟩ : Sg)) (fun _ _ => rfl) (fun _ _ => trivial)).whole Try.underlying32
end Go.Proofs.Ytjmmhpiadafahaa
