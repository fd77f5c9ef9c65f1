/-
  The reader of an argument of type api.AuthData. No condition.
-/
import Derived.Test.YtmmnkloadooobaaRC
import Derived.Test.YtmmnkloadooobaaProg
namespace Go.Proofs.Ytmmnkloadooobaa
open Go.RowKit

structure Ad where
  rp : UInt64
  fl : Int
  co : Int
  ra : Int
  mo : UInt64
  id : List UInt8
  kh : Int
  kr : UInt64
def okAd (_ : Ad) : Prop := True
def adC (t : Ad) : List AV := [aw t.rp, ai t.fl, ai t.co, ai t.ra, aw t.mo, .sl 1 (bytesA t.id), ai t.kh, aw t.kr]
theorem read_ad : ReadT Try.prog 27 (fun t : Ad => .agg [aw t.rp, ai t.fl, ai t.co, ai t.ra, aw t.mo, .sl 1 (bytesA t.id), ai t.kh, aw t.kr]) okAd := by
  have hk := read_struct (P := Try.prog) (t := 25) (e := 2) Try.underlying25 rfl (by kernel_rfl) (fun _ => rfl)
    (read_field (read_int (by kernel_rfl)) rfl (by kernel_rfl) (fun _ => rfl) (read_field (read_word (by kernel_rfl)) rfl (by kernel_rfl) (fun _ => rfl) (read_end _)))
  have h := read_struct (P := Try.prog) (t := 27) (e := 8) Try.underlying27 rfl (by kernel_rfl) (fun _ => rfl)
    (read_field (read_word (by kernel_rfl)) rfl (by kernel_rfl) (fun _ => rfl) (read_field (read_int (by kernel_rfl)) rfl (by kernel_rfl) (fun _ => rfl) (read_field (read_int (by kernel_rfl)) rfl (by kernel_rfl) (fun _ => rfl) (read_field (read_int (by kernel_rfl)) rfl (by kernel_rfl) (fun _ => rfl)
      (read_field (read_word (by kernel_rfl)) rfl (by kernel_rfl) (fun _ => rfl) (read_field (read_bytes Try.underlying23 Try.underlying5 (by kernel_rfl)) rfl (by kernel_rfl) (fun _ => rfl) (read_field (e := 2) hk rfl (by kernel_rfl) (fun _ => rfl) (read_end _))))))))
  exact (h.map (f' := adC) (fun a => (⟨a.1, a.2.1, a.2.2.1, a.2.2.2.1, a.2.2.2.2.1, a.2.2.2.2.2.1, a.2.2.2.2.2.2.1.1, a.2.2.2.2.2.2.1.2.1⟩ : Ad)) (fun _ _ => rfl) (fun _ _ => trivial)).whole Try.underlying27
end Go.Proofs.Ytmmnkloadooobaa
