/-
  The reader of an argument of type []api.Share. No condition.
-/
import Derived.Test.YtbehdllomepkdaaSh4
import Derived.Test.YtbehdllomepkdaaProg
namespace Go.Proofs.Ytbehdllomepkdaa
open Go.RowKit

theorem read_shares : ReadT Try.prog 29 (fun l : List Sh => .sl 2 (encA shareC l)) (fun _ => True) := by
  have h := read_struct (P := Try.prog) (t := 37) (e := 2) Try.underlying37 rfl (by kernel_rfl) (fun _ => rfl)
    (read_field (read_int (by kernel_rfl)) rfl (by kernel_rfl) (fun _ => rfl) (read_field (read_bytes Try.underlying26 Try.underlying5 (by kernel_rfl)) rfl (by kernel_rfl) (fun _ => rfl) (read_end _)))
  have h2 := h.map (f' := shareC) (fun a => ((a.1, a.2.1) : Sh)) (fun _ _ => rfl) (ok' := fun _ => True) (fun _ _ => trivial)
  have h3 := read_slice (P := Try.prog) (t := 29) (e := 2) Try.underlying29 (by kernel_rfl) h2
  exact (h3.map (f' := fun l : List Sh => [.sl 2 (encA shareC l)]) (fun l => l) (fun _ _ => rfl) (ok' := fun _ => True) (fun _ _ => trivial)).one (by kernel_rfl)
end Go.Proofs.Ytbehdllomepkdaa
