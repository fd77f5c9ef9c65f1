/-
  No cell of these rows narrows 'for every input' (looked for: loops, veiled, ifaces, maps, wideKeys, modest, calm, conditions, laid).
  DERIVED. THE GIVEN ROWS OF THIS SEAT. 7 by the template 'for every input the law returns true; each argument reads behind the call as it read before'; 0 by the template 'total and deterministic' (their statements: YtjmmhpiadafahaaTotals.lean).
  GIVEN WITH THE SEED: the statements are not yours to turn. If you find one false, say at which input.
  Laid BY PROGRAM, IN A SANDBOX (cutbox-rows.mjs): the forced cells as the released guide's own fill.sh prints them over the translation 75edab334e8ea335… (all of the seat's roots in one cut). By AI agents, Wed Nov 11 2026. No macro, syntax, notation, axiom, sorry.
-/
import Derived.Test.YtjmmhpiadafahaaChecked
import GoSem.Claim
import GoSem.ClaimJoined
import GoSem.ClaimMapViews
import Derived.JoinedTies
import Derived.KernelRfl
namespace Go.Proofs.Ytjmmhpiadafahaa
/- THE CELL 'sum', in the pinned program and in every row, IS THE sha256 OF THE DUMP (.gsa) THAT YtjmmhpiadafahaaProg.lean LOADS. Nothing in Lean hashes anything: it is a label: what it is worth is what the hold of that sum in a sandbox is worth. -/
noncomputable def Try.pinned : Pinned := { name := "ytjmmhpiadafahaa", sum := "75edab334e8ea335a62f053cc16a9dd1196b3c86cd89f84a9f6562c56a9df482", checked := Try.checked }
namespace Rows
def none {H : Type} : Left H := { results := [], args := [] }

/-- 'passkeylaw4.TreekeyPublics': WHATEVER THE INPUT: true; the input reads as it did. -/
def treekeyPublicsSpec : ChangeSpec := { name := "treekeyPublics", fn := fun _ => fun
  | [d1, d2] => { results := [.lit (.bool true)], args := [d1, d2] }
  | _ => none }
def treekeyPublicsRow : OpenClaim := { program := "ytjmmhpiadafahaa", sum := "75edab334e8ea335a62f053cc16a9dd1196b3c86cd89f84a9f6562c56a9df482", func := "passkey/passkeylaw4.TreekeyPublics", spec := "treekeyPublics", unfollowed := true, recurses := true, apart := false }
def TreekeyPublicsSaid : Prop := treekeyPublicsRow.holds Try.pinned (OpenSpec.ofChange treekeyPublicsSpec)

/-- ITS FALSE NEIGHBOUR: 'it returns false'. Refute it at one input. -/
def treekeyPublicsWrong : ChangeSpec := { name := "treekeyPublics", fn := fun _ => fun
  | [d1, d2] => { results := [.lit (.bool false)], args := [d1, d2] }
  | _ => none }
def TreekeyPublicsWrongFalsely : Prop := treekeyPublicsRow.holds Try.pinned (OpenSpec.ofChange treekeyPublicsWrong)

/-- 'passkeylaw4.TreekeySigns': WHATEVER THE INPUT: true; the input reads as it did. -/
def treekeySignsSpec : ChangeSpec := { name := "treekeySigns", fn := fun _ => fun
  | [d1, d2, d3, d4] => { results := [.lit (.bool true)], args := [d1, d2, d3, d4] }
  | _ => none }
def treekeySignsRow : OpenClaim := { program := "ytjmmhpiadafahaa", sum := "75edab334e8ea335a62f053cc16a9dd1196b3c86cd89f84a9f6562c56a9df482", func := "passkey/passkeylaw4.TreekeySigns", spec := "treekeySigns", unfollowed := true, recurses := true, apart := false }
def TreekeySignsSaid : Prop := treekeySignsRow.holds Try.pinned (OpenSpec.ofChange treekeySignsSpec)

/-- ITS FALSE NEIGHBOUR: 'it returns false'. Refute it at one input. -/
def treekeySignsWrong : ChangeSpec := { name := "treekeySigns", fn := fun _ => fun
  | [d1, d2, d3, d4] => { results := [.lit (.bool false)], args := [d1, d2, d3, d4] }
  | _ => none }
def TreekeySignsWrongFalsely : Prop := treekeySignsRow.holds Try.pinned (OpenSpec.ofChange treekeySignsWrong)

/-- 'passkeylaw4.TreekeyVerifies': WHATEVER THE INPUT: true; the input reads as it did. -/
def treekeyVerifiesSpec : ChangeSpec := { name := "treekeyVerifies", fn := fun _ => fun
  | [d1, d2, d3, d4, d5, d6] => { results := [.lit (.bool true)], args := [d1, d2, d3, d4, d5, d6] }
  | _ => none }
def treekeyVerifiesRow : OpenClaim := { program := "ytjmmhpiadafahaa", sum := "75edab334e8ea335a62f053cc16a9dd1196b3c86cd89f84a9f6562c56a9df482", func := "passkey/passkeylaw4.TreekeyVerifies", spec := "treekeyVerifies", unfollowed := true, recurses := true, apart := false }
def TreekeyVerifiesSaid : Prop := treekeyVerifiesRow.holds Try.pinned (OpenSpec.ofChange treekeyVerifiesSpec)

/-- ITS FALSE NEIGHBOUR: 'it returns false'. Refute it at one input. -/
def treekeyVerifiesWrong : ChangeSpec := { name := "treekeyVerifies", fn := fun _ => fun
  | [d1, d2, d3, d4, d5, d6] => { results := [.lit (.bool false)], args := [d1, d2, d3, d4, d5, d6] }
  | _ => none }
def TreekeyVerifiesWrongFalsely : Prop := treekeyVerifiesRow.holds Try.pinned (OpenSpec.ofChange treekeyVerifiesWrong)

/-- 'passkeylaw4.TreekeyRaw': WHATEVER THE INPUT: true; the input reads as it did. -/
def treekeyRawSpec : ChangeSpec := { name := "treekeyRaw", fn := fun _ => fun
  | [d1, d2, d3] => { results := [.lit (.bool true)], args := [d1, d2, d3] }
  | _ => none }
def treekeyRawRow : OpenClaim := { program := "ytjmmhpiadafahaa", sum := "75edab334e8ea335a62f053cc16a9dd1196b3c86cd89f84a9f6562c56a9df482", func := "passkey/passkeylaw4.TreekeyRaw", spec := "treekeyRaw", unfollowed := true, recurses := true, apart := false }
def TreekeyRawSaid : Prop := treekeyRawRow.holds Try.pinned (OpenSpec.ofChange treekeyRawSpec)

/-- ITS FALSE NEIGHBOUR: 'it returns false'. Refute it at one input. -/
def treekeyRawWrong : ChangeSpec := { name := "treekeyRaw", fn := fun _ => fun
  | [d1, d2, d3] => { results := [.lit (.bool false)], args := [d1, d2, d3] }
  | _ => none }
def TreekeyRawWrongFalsely : Prop := treekeyRawRow.holds Try.pinned (OpenSpec.ofChange treekeyRawWrong)

/-- 'passkeylaw4.TreekeyBack': WHATEVER THE INPUT: true; the input reads as it did. -/
def treekeyBackSpec : ChangeSpec := { name := "treekeyBack", fn := fun _ => fun
  | [d1, d2, d3] => { results := [.lit (.bool true)], args := [d1, d2, d3] }
  | _ => none }
def treekeyBackRow : OpenClaim := { program := "ytjmmhpiadafahaa", sum := "75edab334e8ea335a62f053cc16a9dd1196b3c86cd89f84a9f6562c56a9df482", func := "passkey/passkeylaw4.TreekeyBack", spec := "treekeyBack", unfollowed := true, recurses := true, apart := false }
def TreekeyBackSaid : Prop := treekeyBackRow.holds Try.pinned (OpenSpec.ofChange treekeyBackSpec)

/-- ITS FALSE NEIGHBOUR: 'it returns false'. Refute it at one input. -/
def treekeyBackWrong : ChangeSpec := { name := "treekeyBack", fn := fun _ => fun
  | [d1, d2, d3] => { results := [.lit (.bool false)], args := [d1, d2, d3] }
  | _ => none }
def TreekeyBackWrongFalsely : Prop := treekeyBackRow.holds Try.pinned (OpenSpec.ofChange treekeyBackWrong)

/-- 'passkeylaw4.TreekeySignatures': WHATEVER THE INPUT: true; the input reads as it did. -/
def treekeySignaturesSpec : ChangeSpec := { name := "treekeySignatures", fn := fun _ => fun
  | [d1, d2, d3, d4, d5] => { results := [.lit (.bool true)], args := [d1, d2, d3, d4, d5] }
  | _ => none }
def treekeySignaturesRow : OpenClaim := { program := "ytjmmhpiadafahaa", sum := "75edab334e8ea335a62f053cc16a9dd1196b3c86cd89f84a9f6562c56a9df482", func := "passkey/passkeylaw4.TreekeySignatures", spec := "treekeySignatures", unfollowed := true, recurses := true, apart := false }
def TreekeySignaturesSaid : Prop := treekeySignaturesRow.holds Try.pinned (OpenSpec.ofChange treekeySignaturesSpec)

/-- ITS FALSE NEIGHBOUR: 'it returns false'. Refute it at one input. -/
def treekeySignaturesWrong : ChangeSpec := { name := "treekeySignatures", fn := fun _ => fun
  | [d1, d2, d3, d4, d5] => { results := [.lit (.bool false)], args := [d1, d2, d3, d4, d5] }
  | _ => none }
def TreekeySignaturesWrongFalsely : Prop := treekeySignaturesRow.holds Try.pinned (OpenSpec.ofChange treekeySignaturesWrong)

/-- 'passkeylaw4.TreekeyKeys': WHATEVER THE INPUT: true; the input reads as it did. -/
def treekeyKeysSpec : ChangeSpec := { name := "treekeyKeys", fn := fun _ => fun
  | [d1, d2, d3] => { results := [.lit (.bool true)], args := [d1, d2, d3] }
  | _ => none }
def treekeyKeysRow : OpenClaim := { program := "ytjmmhpiadafahaa", sum := "75edab334e8ea335a62f053cc16a9dd1196b3c86cd89f84a9f6562c56a9df482", func := "passkey/passkeylaw4.TreekeyKeys", spec := "treekeyKeys", unfollowed := true, recurses := true, apart := false }
def TreekeyKeysSaid : Prop := treekeyKeysRow.holds Try.pinned (OpenSpec.ofChange treekeyKeysSpec)

/-- ITS FALSE NEIGHBOUR: 'it returns false'. Refute it at one input. -/
def treekeyKeysWrong : ChangeSpec := { name := "treekeyKeys", fn := fun _ => fun
  | [d1, d2, d3] => { results := [.lit (.bool false)], args := [d1, d2, d3] }
  | _ => none }
def TreekeyKeysWrongFalsely : Prop := treekeyKeysRow.holds Try.pinned (OpenSpec.ofChange treekeyKeysWrong)

/- THE SECOND FORM. 'bulk': how many values and letters a reading holds, each counted each time it is reached (what is shared counts as often as it is met; a slice's spare places count too). A statement '..UptoSaid' is the law's where the arguments, and the package variables that the reading takes, are together of bulk at most 1048576: NARROWER than '..Said'. Prove '..Said' where nothing that the law and all that it calls make is longer than what came in: it says more and counts as full. Else prove '..UptoSaid'. A law counts once. -/
mutual
def uptoBulk {H : Type} : DataW H → Nat
  | .lit (.string bytes) => bytes.length + 1
  | .lit _ => 1
  | .nil => 1
  | .ptr d => uptoBulk d + 1
  | .slice elems spare => uptoBulkAll elems + uptoBulkAll spare + 1
  | .agg parts => uptoBulkAll parts + 1
  | .iface _ d => uptoBulk d + 1
  | .map entries => uptoBulkEntries entries + 1
  | .held _ => 1
def uptoBulkAll {H : Type} : List (DataW H) → Nat
  | [] => 0
  | d :: r => uptoBulk d + uptoBulkAll r
def uptoBulkEntries {H : Type} : List (Lit × DataW H) → Nat
  | [] => 0
  | x :: r => uptoBulkEntry x + uptoBulkEntries r
def uptoBulkEntry {H : Type} : Lit × DataW H → Nat
  | (.string bytes, d) => bytes.length + uptoBulk d + 1
  | (_, d) => uptoBulk d + 1
 end
def uptoSmall : (H : Type) → List (DataW H) → Bool := fun _ ds => decide (uptoBulkAll ds ≤ 1048576)
def OpenSpec.upto (s : _root_.Go.ChangeSpec) : _root_.Go.OpenSpec := { _root_.Go.OpenSpec.ofChange s with cond := some uptoSmall }

/-- 'passkeylaw4.TreekeyPublics', WHERE WHAT IT READS IS OF BULK AT MOST 1048576: true; the input reads as it did. -/
def treekeyPublicsUptoRow : OpenClaim := { program := "ytjmmhpiadafahaa", sum := "75edab334e8ea335a62f053cc16a9dd1196b3c86cd89f84a9f6562c56a9df482", func := "passkey/passkeylaw4.TreekeyPublics", spec := "treekeyPublics", unfollowed := true, recurses := true, apart := false, narrowed := true }
def TreekeyPublicsUptoSaid : Prop := treekeyPublicsUptoRow.holds Try.pinned (OpenSpec.upto treekeyPublicsSpec)

/-- 'passkeylaw4.TreekeySigns', WHERE WHAT IT READS IS OF BULK AT MOST 1048576: true; the input reads as it did. -/
def treekeySignsUptoRow : OpenClaim := { program := "ytjmmhpiadafahaa", sum := "75edab334e8ea335a62f053cc16a9dd1196b3c86cd89f84a9f6562c56a9df482", func := "passkey/passkeylaw4.TreekeySigns", spec := "treekeySigns", unfollowed := true, recurses := true, apart := false, narrowed := true }
def TreekeySignsUptoSaid : Prop := treekeySignsUptoRow.holds Try.pinned (OpenSpec.upto treekeySignsSpec)

/-- 'passkeylaw4.TreekeyVerifies', WHERE WHAT IT READS IS OF BULK AT MOST 1048576: true; the input reads as it did. -/
def treekeyVerifiesUptoRow : OpenClaim := { program := "ytjmmhpiadafahaa", sum := "75edab334e8ea335a62f053cc16a9dd1196b3c86cd89f84a9f6562c56a9df482", func := "passkey/passkeylaw4.TreekeyVerifies", spec := "treekeyVerifies", unfollowed := true, recurses := true, apart := false, narrowed := true }
def TreekeyVerifiesUptoSaid : Prop := treekeyVerifiesUptoRow.holds Try.pinned (OpenSpec.upto treekeyVerifiesSpec)

/-- 'passkeylaw4.TreekeyRaw', WHERE WHAT IT READS IS OF BULK AT MOST 1048576: true; the input reads as it did. -/
def treekeyRawUptoRow : OpenClaim := { program := "ytjmmhpiadafahaa", sum := "75edab334e8ea335a62f053cc16a9dd1196b3c86cd89f84a9f6562c56a9df482", func := "passkey/passkeylaw4.TreekeyRaw", spec := "treekeyRaw", unfollowed := true, recurses := true, apart := false, narrowed := true }
def TreekeyRawUptoSaid : Prop := treekeyRawUptoRow.holds Try.pinned (OpenSpec.upto treekeyRawSpec)

/-- 'passkeylaw4.TreekeyBack', WHERE WHAT IT READS IS OF BULK AT MOST 1048576: true; the input reads as it did. -/
def treekeyBackUptoRow : OpenClaim := { program := "ytjmmhpiadafahaa", sum := "75edab334e8ea335a62f053cc16a9dd1196b3c86cd89f84a9f6562c56a9df482", func := "passkey/passkeylaw4.TreekeyBack", spec := "treekeyBack", unfollowed := true, recurses := true, apart := false, narrowed := true }
def TreekeyBackUptoSaid : Prop := treekeyBackUptoRow.holds Try.pinned (OpenSpec.upto treekeyBackSpec)

/-- 'passkeylaw4.TreekeySignatures', WHERE WHAT IT READS IS OF BULK AT MOST 1048576: true; the input reads as it did. -/
def treekeySignaturesUptoRow : OpenClaim := { program := "ytjmmhpiadafahaa", sum := "75edab334e8ea335a62f053cc16a9dd1196b3c86cd89f84a9f6562c56a9df482", func := "passkey/passkeylaw4.TreekeySignatures", spec := "treekeySignatures", unfollowed := true, recurses := true, apart := false, narrowed := true }
def TreekeySignaturesUptoSaid : Prop := treekeySignaturesUptoRow.holds Try.pinned (OpenSpec.upto treekeySignaturesSpec)

/-- 'passkeylaw4.TreekeyKeys', WHERE WHAT IT READS IS OF BULK AT MOST 1048576: true; the input reads as it did. -/
def treekeyKeysUptoRow : OpenClaim := { program := "ytjmmhpiadafahaa", sum := "75edab334e8ea335a62f053cc16a9dd1196b3c86cd89f84a9f6562c56a9df482", func := "passkey/passkeylaw4.TreekeyKeys", spec := "treekeyKeys", unfollowed := true, recurses := true, apart := false, narrowed := true }
def TreekeyKeysUptoSaid : Prop := treekeyKeysUptoRow.holds Try.pinned (OpenSpec.upto treekeyKeysSpec)

end Rows
end Go.Proofs.Ytjmmhpiadafahaa
