/-
  What a token as an argument reads as. No condition.
-/
import Derived.Test.YthfipmkhadkldaaTok1
namespace Go.Proofs.Ythfipmkhadkldaa
open Go.RowKit

def okTok (t : Tok) : Prop := i64ok t.perms ∧ t.rp.length ≤ 9223372036854775807 ∧ i64ok t.since
theorem read_tok : ReadT Try.prog 33 (fun t : Tok => .agg [aw t.secret, ao t.active, aw t.value, ai t.perms, as_ t.rp, ai t.since]) okTok := by
  have h := read_struct (P := Try.prog) (t := 33) (e := 6) Try.underlying33 rfl (by kernel_rfl) (fun _ => rfl)
    (read_field (read_word (by kernel_rfl)) rfl (by kernel_rfl) (fun _ => rfl) (read_field (read_bool (by kernel_rfl)) rfl (by kernel_rfl) (fun _ => rfl) (read_field (read_word (by kernel_rfl)) rfl (by kernel_rfl) (fun _ => rfl)
      (read_field (read_int (by kernel_rfl)) rfl (by kernel_rfl) (fun _ => rfl) (read_field (read_string (by kernel_rfl)) rfl (by kernel_rfl) (fun _ => rfl) (read_field (read_int (by kernel_rfl)) rfl (by kernel_rfl) (fun _ => rfl) (read_end _)))))))
  exact (h.map (f' := tokC) (fun p => (⟨p.1, p.2.1, p.2.2.1, p.2.2.2.1, p.2.2.2.2.1, p.2.2.2.2.2.1⟩ : Tok)) (fun _ _ => rfl) (fun _ h => ⟨h.2.2.2.1, h.2.2.2.2.1, h.2.2.2.2.2.1⟩)).whole Try.underlying33
end Go.Proofs.Ythfipmkhadkldaa
