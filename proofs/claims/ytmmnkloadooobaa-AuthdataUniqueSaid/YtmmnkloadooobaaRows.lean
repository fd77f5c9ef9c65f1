/-
  No cell of these rows narrows 'for every input' (looked for: loops, veiled, ifaces, maps, wideKeys, modest, calm, conditions, laid).
  DERIVED. THE GIVEN ROWS OF THIS SEAT. 11 by the template 'for every input the law returns true; each argument reads behind the call as it read before'; 0 by the template 'total and deterministic' (their statements: YtmmnkloadooobaaTotals.lean).
  GIVEN WITH THE SEED: the statements are not yours to turn. If you find one false, say at which input.
  Laid BY PROGRAM, IN A SANDBOX (cutbox-rows.mjs): the forced cells as the released guide's own fill.sh prints them over the translation fb9d8c882b6ff96a… (all of the seat's roots in one cut). By AI agents, Wed Nov 11 2026. No macro, syntax, notation, axiom, sorry.
-/
import Derived.Test.YtmmnkloadooobaaChecked
import GoSem.Claim
import GoSem.ClaimJoined
import GoSem.ClaimMapViews
import Derived.JoinedTies
import Derived.KernelRfl
namespace Go.Proofs.Ytmmnkloadooobaa
/- THE CELL 'sum', in the pinned program and in every row, IS THE sha256 OF THE DUMP (.gsa) THAT YtmmnkloadooobaaProg.lean LOADS. Nothing in Lean hashes anything: it is a label: what it is worth is what the hold of that sum in a sandbox is worth. -/
noncomputable def Try.pinned : Pinned := { name := "ytmmnkloadooobaa", sum := "fb9d8c882b6ff96ab3fd2488b52b3526b4f4efc9cf5869d20d6fa7ba166af392", checked := Try.checked }
namespace Rows
def none {H : Type} : Left H := { results := [], args := [] }

/-- 'passkeylaw14.AuthdataValidates': WHATEVER THE INPUT: true; the input reads as it did. -/
def authdataValidatesSpec : ChangeSpec := { name := "authdataValidates", fn := fun _ => fun
  | [d1, d2, d3] => { results := [.lit (.bool true)], args := [d1, d2, d3] }
  | _ => none }
def authdataValidatesRow : OpenClaim := { program := "ytmmnkloadooobaa", sum := "fb9d8c882b6ff96ab3fd2488b52b3526b4f4efc9cf5869d20d6fa7ba166af392", func := "passkey/passkeylaw14.AuthdataValidates", spec := "authdataValidates", apart := false }
def AuthdataValidatesSaid : Prop := authdataValidatesRow.holds Try.pinned (OpenSpec.ofChange authdataValidatesSpec)

/-- ITS FALSE NEIGHBOUR: 'it returns false'. Refute it at one input. -/
def authdataValidatesWrong : ChangeSpec := { name := "authdataValidates", fn := fun _ => fun
  | [d1, d2, d3] => { results := [.lit (.bool false)], args := [d1, d2, d3] }
  | _ => none }
def AuthdataValidatesWrongFalsely : Prop := authdataValidatesRow.holds Try.pinned (OpenSpec.ofChange authdataValidatesWrong)

/-- 'passkeylaw14.AuthdataWords': WHATEVER THE INPUT: true; the input reads as it did. -/
def authdataWordsSpec : ChangeSpec := { name := "authdataWords", fn := fun _ => fun
  | [d1, d2, d3] => { results := [.lit (.bool true)], args := [d1, d2, d3] }
  | _ => none }
def authdataWordsRow : OpenClaim := { program := "ytmmnkloadooobaa", sum := "fb9d8c882b6ff96ab3fd2488b52b3526b4f4efc9cf5869d20d6fa7ba166af392", func := "passkey/passkeylaw14.AuthdataWords", spec := "authdataWords", apart := false }
def AuthdataWordsSaid : Prop := authdataWordsRow.holds Try.pinned (OpenSpec.ofChange authdataWordsSpec)

/-- ITS FALSE NEIGHBOUR: 'it returns false'. Refute it at one input. -/
def authdataWordsWrong : ChangeSpec := { name := "authdataWords", fn := fun _ => fun
  | [d1, d2, d3] => { results := [.lit (.bool false)], args := [d1, d2, d3] }
  | _ => none }
def AuthdataWordsWrongFalsely : Prop := authdataWordsRow.holds Try.pinned (OpenSpec.ofChange authdataWordsWrong)

/-- 'passkeylaw5.ExchangeMul': WHATEVER THE INPUT: true; the input reads as it did. -/
def exchangeMulSpec : ChangeSpec := { name := "exchangeMul", fn := fun _ => fun
  | [d1, d2, d3] => { results := [.lit (.bool true)], args := [d1, d2, d3] }
  | _ => none }
def exchangeMulRow : OpenClaim := { program := "ytmmnkloadooobaa", sum := "fb9d8c882b6ff96ab3fd2488b52b3526b4f4efc9cf5869d20d6fa7ba166af392", func := "passkey/passkeylaw5.ExchangeMul", spec := "exchangeMul", named := ["math/bits.divideError", "math/bits.overflowError"], apart := false }
def ExchangeMulSaid : Prop := exchangeMulRow.holds Try.pinned (OpenSpec.ofChange exchangeMulSpec)

/-- ITS FALSE NEIGHBOUR: 'it returns false'. Refute it at one input. -/
def exchangeMulWrong : ChangeSpec := { name := "exchangeMul", fn := fun _ => fun
  | [d1, d2, d3] => { results := [.lit (.bool false)], args := [d1, d2, d3] }
  | _ => none }
def ExchangeMulWrongFalsely : Prop := exchangeMulRow.holds Try.pinned (OpenSpec.ofChange exchangeMulWrong)

/-- 'passkeylaw5.ExchangePower': WHATEVER THE INPUT: true; the input reads as it did. -/
def exchangePowerSpec : ChangeSpec := { name := "exchangePower", fn := fun _ => fun
  | [d1, d2, d3] => { results := [.lit (.bool true)], args := [d1, d2, d3] }
  | _ => none }
def exchangePowerRow : OpenClaim := { program := "ytmmnkloadooobaa", sum := "fb9d8c882b6ff96ab3fd2488b52b3526b4f4efc9cf5869d20d6fa7ba166af392", func := "passkey/passkeylaw5.ExchangePower", spec := "exchangePower", named := ["math/bits.divideError", "math/bits.overflowError"], apart := false }
def ExchangePowerSaid : Prop := exchangePowerRow.holds Try.pinned (OpenSpec.ofChange exchangePowerSpec)

/-- ITS FALSE NEIGHBOUR: 'it returns false'. Refute it at one input. -/
def exchangePowerWrong : ChangeSpec := { name := "exchangePower", fn := fun _ => fun
  | [d1, d2, d3] => { results := [.lit (.bool false)], args := [d1, d2, d3] }
  | _ => none }
def ExchangePowerWrongFalsely : Prop := exchangePowerRow.holds Try.pinned (OpenSpec.ofChange exchangePowerWrong)

/-- 'passkeylaw5.ExchangeField': WHATEVER THE INPUT: true; the input reads as it did. -/
def exchangeFieldSpec : ChangeSpec := { name := "exchangeField", fn := fun _ => fun
  | [d1, d2, d3] => { results := [.lit (.bool true)], args := [d1, d2, d3] }
  | _ => none }
def exchangeFieldRow : OpenClaim := { program := "ytmmnkloadooobaa", sum := "fb9d8c882b6ff96ab3fd2488b52b3526b4f4efc9cf5869d20d6fa7ba166af392", func := "passkey/passkeylaw5.ExchangeField", spec := "exchangeField", named := ["math/bits.divideError", "math/bits.overflowError"], apart := false }
def ExchangeFieldSaid : Prop := exchangeFieldRow.holds Try.pinned (OpenSpec.ofChange exchangeFieldSpec)

/-- ITS FALSE NEIGHBOUR: 'it returns false'. Refute it at one input. -/
def exchangeFieldWrong : ChangeSpec := { name := "exchangeField", fn := fun _ => fun
  | [d1, d2, d3] => { results := [.lit (.bool false)], args := [d1, d2, d3] }
  | _ => none }
def ExchangeFieldWrongFalsely : Prop := exchangeFieldRow.holds Try.pinned (OpenSpec.ofChange exchangeFieldWrong)

/-- 'passkeylaw5.ExchangeSums': WHATEVER THE INPUT: true; the input reads as it did. -/
def exchangeSumsSpec : ChangeSpec := { name := "exchangeSums", fn := fun _ => fun
  | [d1, d2, d3] => { results := [.lit (.bool true)], args := [d1, d2, d3] }
  | _ => none }
def exchangeSumsRow : OpenClaim := { program := "ytmmnkloadooobaa", sum := "fb9d8c882b6ff96ab3fd2488b52b3526b4f4efc9cf5869d20d6fa7ba166af392", func := "passkey/passkeylaw5.ExchangeSums", spec := "exchangeSums", named := ["math/bits.divideError", "math/bits.overflowError"], apart := false }
def ExchangeSumsSaid : Prop := exchangeSumsRow.holds Try.pinned (OpenSpec.ofChange exchangeSumsSpec)

/-- ITS FALSE NEIGHBOUR: 'it returns false'. Refute it at one input. -/
def exchangeSumsWrong : ChangeSpec := { name := "exchangeSums", fn := fun _ => fun
  | [d1, d2, d3] => { results := [.lit (.bool false)], args := [d1, d2, d3] }
  | _ => none }
def ExchangeSumsWrongFalsely : Prop := exchangeSumsRow.holds Try.pinned (OpenSpec.ofChange exchangeSumsWrong)

/-- 'passkeylaw5.ExchangeShared': WHATEVER THE INPUT: true; the input reads as it did. -/
def exchangeSharedSpec : ChangeSpec := { name := "exchangeShared", fn := fun _ => fun
  | [d1, d2, d3] => { results := [.lit (.bool true)], args := [d1, d2, d3] }
  | _ => none }
def exchangeSharedRow : OpenClaim := { program := "ytmmnkloadooobaa", sum := "fb9d8c882b6ff96ab3fd2488b52b3526b4f4efc9cf5869d20d6fa7ba166af392", func := "passkey/passkeylaw5.ExchangeShared", spec := "exchangeShared", named := ["math/bits.divideError", "math/bits.overflowError"], apart := false }
def ExchangeSharedSaid : Prop := exchangeSharedRow.holds Try.pinned (OpenSpec.ofChange exchangeSharedSpec)

/-- ITS FALSE NEIGHBOUR: 'it returns false'. Refute it at one input. -/
def exchangeSharedWrong : ChangeSpec := { name := "exchangeShared", fn := fun _ => fun
  | [d1, d2, d3] => { results := [.lit (.bool false)], args := [d1, d2, d3] }
  | _ => none }
def ExchangeSharedWrongFalsely : Prop := exchangeSharedRow.holds Try.pinned (OpenSpec.ofChange exchangeSharedWrong)

/-- 'passkeylaw5.ExchangeAgrees': WHATEVER THE INPUT: true; the input reads as it did. -/
def exchangeAgreesSpec : ChangeSpec := { name := "exchangeAgrees", fn := fun _ => fun
  | [d1, d2] => { results := [.lit (.bool true)], args := [d1, d2] }
  | _ => none }
def exchangeAgreesRow : OpenClaim := { program := "ytmmnkloadooobaa", sum := "fb9d8c882b6ff96ab3fd2488b52b3526b4f4efc9cf5869d20d6fa7ba166af392", func := "passkey/passkeylaw5.ExchangeAgrees", spec := "exchangeAgrees", named := ["math/bits.divideError", "math/bits.overflowError"], apart := false }
def ExchangeAgreesSaid : Prop := exchangeAgreesRow.holds Try.pinned (OpenSpec.ofChange exchangeAgreesSpec)

/-- ITS FALSE NEIGHBOUR: 'it returns false'. Refute it at one input. -/
def exchangeAgreesWrong : ChangeSpec := { name := "exchangeAgrees", fn := fun _ => fun
  | [d1, d2] => { results := [.lit (.bool false)], args := [d1, d2] }
  | _ => none }
def ExchangeAgreesWrongFalsely : Prop := exchangeAgreesRow.holds Try.pinned (OpenSpec.ofChange exchangeAgreesWrong)

/-- 'passkeylaw14.AuthdataDecodes': WHATEVER THE INPUT: true; the input reads as it did. -/
def authdataDecodesSpec : ChangeSpec := { name := "authdataDecodes", fn := fun _ => fun
  | [d1, d2, d3, d4] => { results := [.lit (.bool true)], args := [d1, d2, d3, d4] }
  | _ => none }
def authdataDecodesRow : OpenClaim := { program := "ytmmnkloadooobaa", sum := "fb9d8c882b6ff96ab3fd2488b52b3526b4f4efc9cf5869d20d6fa7ba166af392", func := "passkey/passkeylaw14.AuthdataDecodes", spec := "authdataDecodes", apart := false }
def AuthdataDecodesSaid : Prop := authdataDecodesRow.holds Try.pinned (OpenSpec.ofChange authdataDecodesSpec)

/-- ITS FALSE NEIGHBOUR: 'it returns false'. Refute it at one input. -/
def authdataDecodesWrong : ChangeSpec := { name := "authdataDecodes", fn := fun _ => fun
  | [d1, d2, d3, d4] => { results := [.lit (.bool false)], args := [d1, d2, d3, d4] }
  | _ => none }
def AuthdataDecodesWrongFalsely : Prop := authdataDecodesRow.holds Try.pinned (OpenSpec.ofChange authdataDecodesWrong)

/-- 'passkeylaw14.AuthdataBack': WHATEVER THE INPUT: true; the input reads as it did. -/
def authdataBackSpec : ChangeSpec := { name := "authdataBack", fn := fun _ => fun
  | [d1, d2] => { results := [.lit (.bool true)], args := [d1, d2] }
  | _ => none }
def authdataBackRow : OpenClaim := { program := "ytmmnkloadooobaa", sum := "fb9d8c882b6ff96ab3fd2488b52b3526b4f4efc9cf5869d20d6fa7ba166af392", func := "passkey/passkeylaw14.AuthdataBack", spec := "authdataBack", apart := false }
def AuthdataBackSaid : Prop := authdataBackRow.holds Try.pinned (OpenSpec.ofChange authdataBackSpec)

/-- ITS FALSE NEIGHBOUR: 'it returns false'. Refute it at one input. -/
def authdataBackWrong : ChangeSpec := { name := "authdataBack", fn := fun _ => fun
  | [d1, d2] => { results := [.lit (.bool false)], args := [d1, d2] }
  | _ => none }
def AuthdataBackWrongFalsely : Prop := authdataBackRow.holds Try.pinned (OpenSpec.ofChange authdataBackWrong)

/-- 'passkeylaw14.AuthdataUnique': WHATEVER THE INPUT: true; the input reads as it did. -/
def authdataUniqueSpec : ChangeSpec := { name := "authdataUnique", fn := fun _ => fun
  | [d1, d2, d3, d4] => { results := [.lit (.bool true)], args := [d1, d2, d3, d4] }
  | _ => none }
def authdataUniqueRow : OpenClaim := { program := "ytmmnkloadooobaa", sum := "fb9d8c882b6ff96ab3fd2488b52b3526b4f4efc9cf5869d20d6fa7ba166af392", func := "passkey/passkeylaw14.AuthdataUnique", spec := "authdataUnique", apart := false }
def AuthdataUniqueSaid : Prop := authdataUniqueRow.holds Try.pinned (OpenSpec.ofChange authdataUniqueSpec)

/-- ITS FALSE NEIGHBOUR: 'it returns false'. Refute it at one input. -/
def authdataUniqueWrong : ChangeSpec := { name := "authdataUnique", fn := fun _ => fun
  | [d1, d2, d3, d4] => { results := [.lit (.bool false)], args := [d1, d2, d3, d4] }
  | _ => none }
def AuthdataUniqueWrongFalsely : Prop := authdataUniqueRow.holds Try.pinned (OpenSpec.ofChange authdataUniqueWrong)

/- THE SECOND FORM. 'bulk': how many values and letters a reading holds, each counted each time it is reached (what is shared counts as often as it is met; a slice's spare places count too). A statement '..UptoSaid' is the law's where the arguments, and the package variables that the reading takes, are together of bulk at most 1048576: NARROWER than '..Said'. Prove '..Said' where nothing that the law and all that it calls make is longer than what came in: it says more and counts as full. Else prove '..UptoSaid'. A law counts once. -/
mutual
def uptoBulk {H : Type} : DataW H → Nat
  | .lit (.string bytes) => bytes.length + 1
  | .lit _ => 1
  | .nil => 1
  | .ptr d => uptoBulk d + 1
  | .slice elems spare => uptoBulkAll elems + uptoBulkAll spare + 1
  | .agg parts => uptoBulkAll parts + 1
  | .iface _ d => uptoBulk d + 1
  | .map entries => uptoBulkEntries entries + 1
  | .held _ => 1
def uptoBulkAll {H : Type} : List (DataW H) → Nat
  | [] => 0
  | d :: r => uptoBulk d + uptoBulkAll r
def uptoBulkEntries {H : Type} : List (Lit × DataW H) → Nat
  | [] => 0
  | x :: r => uptoBulkEntry x + uptoBulkEntries r
def uptoBulkEntry {H : Type} : Lit × DataW H → Nat
  | (.string bytes, d) => bytes.length + uptoBulk d + 1
  | (_, d) => uptoBulk d + 1
 end
def uptoSmall : (H : Type) → List (DataW H) → Bool := fun _ ds => decide (uptoBulkAll ds ≤ 1048576)
def OpenSpec.upto (s : _root_.Go.ChangeSpec) : _root_.Go.OpenSpec := { _root_.Go.OpenSpec.ofChange s with cond := some uptoSmall }

/-- 'passkeylaw14.AuthdataValidates', WHERE WHAT IT READS IS OF BULK AT MOST 1048576: true; the input reads as it did. -/
def authdataValidatesUptoRow : OpenClaim := { program := "ytmmnkloadooobaa", sum := "fb9d8c882b6ff96ab3fd2488b52b3526b4f4efc9cf5869d20d6fa7ba166af392", func := "passkey/passkeylaw14.AuthdataValidates", spec := "authdataValidates", apart := false, narrowed := true }
def AuthdataValidatesUptoSaid : Prop := authdataValidatesUptoRow.holds Try.pinned (OpenSpec.upto authdataValidatesSpec)

/-- 'passkeylaw14.AuthdataWords', WHERE WHAT IT READS IS OF BULK AT MOST 1048576: true; the input reads as it did. -/
def authdataWordsUptoRow : OpenClaim := { program := "ytmmnkloadooobaa", sum := "fb9d8c882b6ff96ab3fd2488b52b3526b4f4efc9cf5869d20d6fa7ba166af392", func := "passkey/passkeylaw14.AuthdataWords", spec := "authdataWords", apart := false, narrowed := true }
def AuthdataWordsUptoSaid : Prop := authdataWordsUptoRow.holds Try.pinned (OpenSpec.upto authdataWordsSpec)

/-- 'passkeylaw5.ExchangeMul', WHERE WHAT IT READS IS OF BULK AT MOST 1048576: true; the input reads as it did. -/
def exchangeMulUptoRow : OpenClaim := { program := "ytmmnkloadooobaa", sum := "fb9d8c882b6ff96ab3fd2488b52b3526b4f4efc9cf5869d20d6fa7ba166af392", func := "passkey/passkeylaw5.ExchangeMul", spec := "exchangeMul", named := ["math/bits.divideError", "math/bits.overflowError"], apart := false, narrowed := true }
def ExchangeMulUptoSaid : Prop := exchangeMulUptoRow.holds Try.pinned (OpenSpec.upto exchangeMulSpec)

/-- 'passkeylaw5.ExchangePower', WHERE WHAT IT READS IS OF BULK AT MOST 1048576: true; the input reads as it did. -/
def exchangePowerUptoRow : OpenClaim := { program := "ytmmnkloadooobaa", sum := "fb9d8c882b6ff96ab3fd2488b52b3526b4f4efc9cf5869d20d6fa7ba166af392", func := "passkey/passkeylaw5.ExchangePower", spec := "exchangePower", named := ["math/bits.divideError", "math/bits.overflowError"], apart := false, narrowed := true }
def ExchangePowerUptoSaid : Prop := exchangePowerUptoRow.holds Try.pinned (OpenSpec.upto exchangePowerSpec)

/-- 'passkeylaw5.ExchangeField', WHERE WHAT IT READS IS OF BULK AT MOST 1048576: true; the input reads as it did. -/
def exchangeFieldUptoRow : OpenClaim := { program := "ytmmnkloadooobaa", sum := "fb9d8c882b6ff96ab3fd2488b52b3526b4f4efc9cf5869d20d6fa7ba166af392", func := "passkey/passkeylaw5.ExchangeField", spec := "exchangeField", named := ["math/bits.divideError", "math/bits.overflowError"], apart := false, narrowed := true }
def ExchangeFieldUptoSaid : Prop := exchangeFieldUptoRow.holds Try.pinned (OpenSpec.upto exchangeFieldSpec)

/-- 'passkeylaw5.ExchangeSums', WHERE WHAT IT READS IS OF BULK AT MOST 1048576: true; the input reads as it did. -/
def exchangeSumsUptoRow : OpenClaim := { program := "ytmmnkloadooobaa", sum := "fb9d8c882b6ff96ab3fd2488b52b3526b4f4efc9cf5869d20d6fa7ba166af392", func := "passkey/passkeylaw5.ExchangeSums", spec := "exchangeSums", named := ["math/bits.divideError", "math/bits.overflowError"], apart := false, narrowed := true }
def ExchangeSumsUptoSaid : Prop := exchangeSumsUptoRow.holds Try.pinned (OpenSpec.upto exchangeSumsSpec)

/-- 'passkeylaw5.ExchangeShared', WHERE WHAT IT READS IS OF BULK AT MOST 1048576: true; the input reads as it did. -/
def exchangeSharedUptoRow : OpenClaim := { program := "ytmmnkloadooobaa", sum := "fb9d8c882b6ff96ab3fd2488b52b3526b4f4efc9cf5869d20d6fa7ba166af392", func := "passkey/passkeylaw5.ExchangeShared", spec := "exchangeShared", named := ["math/bits.divideError", "math/bits.overflowError"], apart := false, narrowed := true }
def ExchangeSharedUptoSaid : Prop := exchangeSharedUptoRow.holds Try.pinned (OpenSpec.upto exchangeSharedSpec)

/-- 'passkeylaw5.ExchangeAgrees', WHERE WHAT IT READS IS OF BULK AT MOST 1048576: true; the input reads as it did. -/
def exchangeAgreesUptoRow : OpenClaim := { program := "ytmmnkloadooobaa", sum := "fb9d8c882b6ff96ab3fd2488b52b3526b4f4efc9cf5869d20d6fa7ba166af392", func := "passkey/passkeylaw5.ExchangeAgrees", spec := "exchangeAgrees", named := ["math/bits.divideError", "math/bits.overflowError"], apart := false, narrowed := true }
def ExchangeAgreesUptoSaid : Prop := exchangeAgreesUptoRow.holds Try.pinned (OpenSpec.upto exchangeAgreesSpec)

/-- 'passkeylaw14.AuthdataDecodes', WHERE WHAT IT READS IS OF BULK AT MOST 1048576: true; the input reads as it did. -/
def authdataDecodesUptoRow : OpenClaim := { program := "ytmmnkloadooobaa", sum := "fb9d8c882b6ff96ab3fd2488b52b3526b4f4efc9cf5869d20d6fa7ba166af392", func := "passkey/passkeylaw14.AuthdataDecodes", spec := "authdataDecodes", apart := false, narrowed := true }
def AuthdataDecodesUptoSaid : Prop := authdataDecodesUptoRow.holds Try.pinned (OpenSpec.upto authdataDecodesSpec)

/-- 'passkeylaw14.AuthdataBack', WHERE WHAT IT READS IS OF BULK AT MOST 1048576: true; the input reads as it did. -/
def authdataBackUptoRow : OpenClaim := { program := "ytmmnkloadooobaa", sum := "fb9d8c882b6ff96ab3fd2488b52b3526b4f4efc9cf5869d20d6fa7ba166af392", func := "passkey/passkeylaw14.AuthdataBack", spec := "authdataBack", apart := false, narrowed := true }
def AuthdataBackUptoSaid : Prop := authdataBackUptoRow.holds Try.pinned (OpenSpec.upto authdataBackSpec)

/-- 'passkeylaw14.AuthdataUnique', WHERE WHAT IT READS IS OF BULK AT MOST 1048576: true; the input reads as it did. -/
def authdataUniqueUptoRow : OpenClaim := { program := "ytmmnkloadooobaa", sum := "fb9d8c882b6ff96ab3fd2488b52b3526b4f4efc9cf5869d20d6fa7ba166af392", func := "passkey/passkeylaw14.AuthdataUnique", spec := "authdataUnique", apart := false, narrowed := true }
def AuthdataUniqueUptoSaid : Prop := authdataUniqueUptoRow.holds Try.pinned (OpenSpec.upto authdataUniqueSpec)

end Rows
end Go.Proofs.Ytmmnkloadooobaa
