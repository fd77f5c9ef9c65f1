/-
  No cell of these rows narrows 'for every input' (looked for: loops, veiled, ifaces, maps, wideKeys, modest, calm, conditions, laid).
  DERIVED. THE GIVEN ROWS OF THIS SEAT. 7 by the template 'for every input the law returns true; each argument reads behind the call as it read before'; 0 by the template 'total and deterministic' (their statements: YthfipmkhadkldaaTotals.lean).
  GIVEN WITH THE SEED: the statements are not yours to turn. If you find one false, say at which input.
  Laid BY PROGRAM, IN A SANDBOX (cutbox-rows.mjs): the forced cells as the released guide's own fill.sh prints them over the translation 94237e9d4271548b… (all of the seat's roots in one cut). By AI agents, Wed Nov 11 2026. No macro, syntax, notation, axiom, sorry.
-/
import Derived.Test.YthfipmkhadkldaaChecked
import GoSem.Claim
import GoSem.ClaimJoined
import GoSem.ClaimMapViews
import Derived.JoinedTies
import Derived.KernelRfl
namespace Go.Proofs.Ythfipmkhadkldaa
/- THE CELL 'sum', in the pinned program and in every row, IS THE sha256 OF THE DUMP (.gsa) THAT YthfipmkhadkldaaProg.lean LOADS. Nothing in Lean hashes anything: it is a label: what it is worth is what the hold of that sum in a sandbox is worth. -/
noncomputable def Try.pinned : Pinned := { name := "ythfipmkhadkldaa", sum := "94237e9d4271548b14739beb4a1b9966dfb2592645db6468c0ff6a4f4854d08a", checked := Try.checked }
namespace Rows
def none {H : Type} : Left H := { results := [], args := [] }

/-- 'passkeylaw12.TokenPins': WHATEVER THE INPUT: true; the input reads as it did. -/
def tokenPinsSpec : ChangeSpec := { name := "tokenPins", fn := fun _ => fun
  | [d1, d2, d3, d4, d5] => { results := [.lit (.bool true)], args := [d1, d2, d3, d4, d5] }
  | _ => none }
def tokenPinsRow : OpenClaim := { program := "ythfipmkhadkldaa", sum := "94237e9d4271548b14739beb4a1b9966dfb2592645db6468c0ff6a4f4854d08a", func := "passkey/passkeylaw12.TokenPins", spec := "tokenPins", inPlace := ["internal/bytealg.IndexByte"], apart := false }
def TokenPinsSaid : Prop := tokenPinsRow.holds Try.pinned (OpenSpec.ofChange tokenPinsSpec)

/-- ITS FALSE NEIGHBOUR: 'it returns false'. Refute it at one input. -/
def tokenPinsWrong : ChangeSpec := { name := "tokenPins", fn := fun _ => fun
  | [d1, d2, d3, d4, d5] => { results := [.lit (.bool false)], args := [d1, d2, d3, d4, d5] }
  | _ => none }
def TokenPinsWrongFalsely : Prop := tokenPinsRow.holds Try.pinned (OpenSpec.ofChange tokenPinsWrong)

/-- 'passkeylaw12.TokenIssues': WHATEVER THE INPUT: true; the input reads as it did. -/
def tokenIssuesSpec : ChangeSpec := { name := "tokenIssues", fn := fun _ => fun
  | [d1, d2, d3, d4, d5] => { results := [.lit (.bool true)], args := [d1, d2, d3, d4, d5] }
  | _ => none }
def tokenIssuesRow : OpenClaim := { program := "ythfipmkhadkldaa", sum := "94237e9d4271548b14739beb4a1b9966dfb2592645db6468c0ff6a4f4854d08a", func := "passkey/passkeylaw12.TokenIssues", spec := "tokenIssues", inPlace := ["internal/bytealg.IndexByte"], apart := false }
def TokenIssuesSaid : Prop := tokenIssuesRow.holds Try.pinned (OpenSpec.ofChange tokenIssuesSpec)

/-- ITS FALSE NEIGHBOUR: 'it returns false'. Refute it at one input. -/
def tokenIssuesWrong : ChangeSpec := { name := "tokenIssues", fn := fun _ => fun
  | [d1, d2, d3, d4, d5] => { results := [.lit (.bool false)], args := [d1, d2, d3, d4, d5] }
  | _ => none }
def TokenIssuesWrongFalsely : Prop := tokenIssuesRow.holds Try.pinned (OpenSpec.ofChange tokenIssuesWrong)

/-- 'passkeylaw12.TokenVerifies': WHATEVER THE INPUT: true; the input reads as it did. -/
def tokenVerifiesSpec : ChangeSpec := { name := "tokenVerifies", fn := fun _ => fun
  | [d1, d2, d3, d4, d5, d6, d7] => { results := [.lit (.bool true)], args := [d1, d2, d3, d4, d5, d6, d7] }
  | _ => none }
def tokenVerifiesRow : OpenClaim := { program := "ythfipmkhadkldaa", sum := "94237e9d4271548b14739beb4a1b9966dfb2592645db6468c0ff6a4f4854d08a", func := "passkey/passkeylaw12.TokenVerifies", spec := "tokenVerifies", inPlace := ["internal/bytealg.IndexByte"], apart := false }
def TokenVerifiesSaid : Prop := tokenVerifiesRow.holds Try.pinned (OpenSpec.ofChange tokenVerifiesSpec)

/-- ITS FALSE NEIGHBOUR: 'it returns false'. Refute it at one input. -/
def tokenVerifiesWrong : ChangeSpec := { name := "tokenVerifies", fn := fun _ => fun
  | [d1, d2, d3, d4, d5, d6, d7] => { results := [.lit (.bool false)], args := [d1, d2, d3, d4, d5, d6, d7] }
  | _ => none }
def TokenVerifiesWrongFalsely : Prop := tokenVerifiesRow.holds Try.pinned (OpenSpec.ofChange tokenVerifiesWrong)

/-- 'passkeylaw12.TokenUses': WHATEVER THE INPUT: true; the input reads as it did. -/
def tokenUsesSpec : ChangeSpec := { name := "tokenUses", fn := fun _ => fun
  | [d1, d2, d3] => { results := [.lit (.bool true)], args := [d1, d2, d3] }
  | _ => none }
def tokenUsesRow : OpenClaim := { program := "ythfipmkhadkldaa", sum := "94237e9d4271548b14739beb4a1b9966dfb2592645db6468c0ff6a4f4854d08a", func := "passkey/passkeylaw12.TokenUses", spec := "tokenUses", inPlace := ["internal/bytealg.IndexByte"], apart := false }
def TokenUsesSaid : Prop := tokenUsesRow.holds Try.pinned (OpenSpec.ofChange tokenUsesSpec)

/-- ITS FALSE NEIGHBOUR: 'it returns false'. Refute it at one input. -/
def tokenUsesWrong : ChangeSpec := { name := "tokenUses", fn := fun _ => fun
  | [d1, d2, d3] => { results := [.lit (.bool false)], args := [d1, d2, d3] }
  | _ => none }
def TokenUsesWrongFalsely : Prop := tokenUsesRow.holds Try.pinned (OpenSpec.ofChange tokenUsesWrong)

/-- 'passkeylaw12.TokenOnce': WHATEVER THE INPUT: true; the input reads as it did. -/
def tokenOnceSpec : ChangeSpec := { name := "tokenOnce", fn := fun _ => fun
  | [d1, d2, d3, d4, d5] => { results := [.lit (.bool true)], args := [d1, d2, d3, d4, d5] }
  | _ => none }
def tokenOnceRow : OpenClaim := { program := "ythfipmkhadkldaa", sum := "94237e9d4271548b14739beb4a1b9966dfb2592645db6468c0ff6a4f4854d08a", func := "passkey/passkeylaw12.TokenOnce", spec := "tokenOnce", inPlace := ["internal/bytealg.IndexByte"], apart := false }
def TokenOnceSaid : Prop := tokenOnceRow.holds Try.pinned (OpenSpec.ofChange tokenOnceSpec)

/-- ITS FALSE NEIGHBOUR: 'it returns false'. Refute it at one input. -/
def tokenOnceWrong : ChangeSpec := { name := "tokenOnce", fn := fun _ => fun
  | [d1, d2, d3, d4, d5] => { results := [.lit (.bool false)], args := [d1, d2, d3, d4, d5] }
  | _ => none }
def TokenOnceWrongFalsely : Prop := tokenOnceRow.holds Try.pinned (OpenSpec.ofChange tokenOnceWrong)

/-- 'passkeylaw12.TokenBack': WHATEVER THE INPUT: true; the input reads as it did. -/
def tokenBackSpec : ChangeSpec := { name := "tokenBack", fn := fun _ => fun
  | [d1, d2, d3, d4] => { results := [.lit (.bool true)], args := [d1, d2, d3, d4] }
  | _ => none }
def tokenBackRow : OpenClaim := { program := "ythfipmkhadkldaa", sum := "94237e9d4271548b14739beb4a1b9966dfb2592645db6468c0ff6a4f4854d08a", func := "passkey/passkeylaw12.TokenBack", spec := "tokenBack", inPlace := ["internal/bytealg.IndexByte"], apart := false }
def TokenBackSaid : Prop := tokenBackRow.holds Try.pinned (OpenSpec.ofChange tokenBackSpec)

/-- ITS FALSE NEIGHBOUR: 'it returns false'. Refute it at one input. -/
def tokenBackWrong : ChangeSpec := { name := "tokenBack", fn := fun _ => fun
  | [d1, d2, d3, d4] => { results := [.lit (.bool false)], args := [d1, d2, d3, d4] }
  | _ => none }
def TokenBackWrongFalsely : Prop := tokenBackRow.holds Try.pinned (OpenSpec.ofChange tokenBackWrong)

/-- 'passkeylaw12.TokenWords': WHATEVER THE INPUT: true; the input reads as it did. -/
def tokenWordsSpec : ChangeSpec := { name := "tokenWords", fn := fun _ => fun
  | [d1, d2, d3, d4, d5] => { results := [.lit (.bool true)], args := [d1, d2, d3, d4, d5] }
  | _ => none }
def tokenWordsRow : OpenClaim := { program := "ythfipmkhadkldaa", sum := "94237e9d4271548b14739beb4a1b9966dfb2592645db6468c0ff6a4f4854d08a", func := "passkey/passkeylaw12.TokenWords", spec := "tokenWords", inPlace := ["internal/bytealg.IndexByte"], apart := false }
def TokenWordsSaid : Prop := tokenWordsRow.holds Try.pinned (OpenSpec.ofChange tokenWordsSpec)

/-- ITS FALSE NEIGHBOUR: 'it returns false'. Refute it at one input. -/
def tokenWordsWrong : ChangeSpec := { name := "tokenWords", fn := fun _ => fun
  | [d1, d2, d3, d4, d5] => { results := [.lit (.bool false)], args := [d1, d2, d3, d4, d5] }
  | _ => none }
def TokenWordsWrongFalsely : Prop := tokenWordsRow.holds Try.pinned (OpenSpec.ofChange tokenWordsWrong)

/- THE SECOND FORM. 'bulk': how many values and letters a reading holds, each counted each time it is reached (what is shared counts as often as it is met; a slice's spare places count too). A statement '..UptoSaid' is the law's where the arguments, and the package variables that the reading takes, are together of bulk at most 1048576: NARROWER than '..Said'. Prove '..Said' where nothing that the law and all that it calls make is longer than what came in: it says more and counts as full. Else prove '..UptoSaid'. A law counts once. -/
mutual
def uptoBulk {H : Type} : DataW H → Nat
  | .lit (.string bytes) => bytes.length + 1
  | .lit _ => 1
  | .nil => 1
  | .ptr d => uptoBulk d + 1
  | .slice elems spare => uptoBulkAll elems + uptoBulkAll spare + 1
  | .agg parts => uptoBulkAll parts + 1
  | .iface _ d => uptoBulk d + 1
  | .map entries => uptoBulkEntries entries + 1
  | .held _ => 1
def uptoBulkAll {H : Type} : List (DataW H) → Nat
  | [] => 0
  | d :: r => uptoBulk d + uptoBulkAll r
def uptoBulkEntries {H : Type} : List (Lit × DataW H) → Nat
  | [] => 0
  | x :: r => uptoBulkEntry x + uptoBulkEntries r
def uptoBulkEntry {H : Type} : Lit × DataW H → Nat
  | (.string bytes, d) => bytes.length + uptoBulk d + 1
  | (_, d) => uptoBulk d + 1
 end
def uptoSmall : (H : Type) → List (DataW H) → Bool := fun _ ds => decide (uptoBulkAll ds ≤ 1048576)
def OpenSpec.upto (s : _root_.Go.ChangeSpec) : _root_.Go.OpenSpec := { _root_.Go.OpenSpec.ofChange s with cond := some uptoSmall }

/-- 'passkeylaw12.TokenPins', WHERE WHAT IT READS IS OF BULK AT MOST 1048576: true; the input reads as it did. -/
def tokenPinsUptoRow : OpenClaim := { program := "ythfipmkhadkldaa", sum := "94237e9d4271548b14739beb4a1b9966dfb2592645db6468c0ff6a4f4854d08a", func := "passkey/passkeylaw12.TokenPins", spec := "tokenPins", inPlace := ["internal/bytealg.IndexByte"], apart := false, narrowed := true }
def TokenPinsUptoSaid : Prop := tokenPinsUptoRow.holds Try.pinned (OpenSpec.upto tokenPinsSpec)

/-- 'passkeylaw12.TokenIssues', WHERE WHAT IT READS IS OF BULK AT MOST 1048576: true; the input reads as it did. -/
def tokenIssuesUptoRow : OpenClaim := { program := "ythfipmkhadkldaa", sum := "94237e9d4271548b14739beb4a1b9966dfb2592645db6468c0ff6a4f4854d08a", func := "passkey/passkeylaw12.TokenIssues", spec := "tokenIssues", inPlace := ["internal/bytealg.IndexByte"], apart := false, narrowed := true }
def TokenIssuesUptoSaid : Prop := tokenIssuesUptoRow.holds Try.pinned (OpenSpec.upto tokenIssuesSpec)

/-- 'passkeylaw12.TokenVerifies', WHERE WHAT IT READS IS OF BULK AT MOST 1048576: true; the input reads as it did. -/
def tokenVerifiesUptoRow : OpenClaim := { program := "ythfipmkhadkldaa", sum := "94237e9d4271548b14739beb4a1b9966dfb2592645db6468c0ff6a4f4854d08a", func := "passkey/passkeylaw12.TokenVerifies", spec := "tokenVerifies", inPlace := ["internal/bytealg.IndexByte"], apart := false, narrowed := true }
def TokenVerifiesUptoSaid : Prop := tokenVerifiesUptoRow.holds Try.pinned (OpenSpec.upto tokenVerifiesSpec)

/-- 'passkeylaw12.TokenUses', WHERE WHAT IT READS IS OF BULK AT MOST 1048576: true; the input reads as it did. -/
def tokenUsesUptoRow : OpenClaim := { program := "ythfipmkhadkldaa", sum := "94237e9d4271548b14739beb4a1b9966dfb2592645db6468c0ff6a4f4854d08a", func := "passkey/passkeylaw12.TokenUses", spec := "tokenUses", inPlace := ["internal/bytealg.IndexByte"], apart := false, narrowed := true }
def TokenUsesUptoSaid : Prop := tokenUsesUptoRow.holds Try.pinned (OpenSpec.upto tokenUsesSpec)

/-- 'passkeylaw12.TokenOnce', WHERE WHAT IT READS IS OF BULK AT MOST 1048576: true; the input reads as it did. -/
def tokenOnceUptoRow : OpenClaim := { program := "ythfipmkhadkldaa", sum := "94237e9d4271548b14739beb4a1b9966dfb2592645db6468c0ff6a4f4854d08a", func := "passkey/passkeylaw12.TokenOnce", spec := "tokenOnce", inPlace := ["internal/bytealg.IndexByte"], apart := false, narrowed := true }
def TokenOnceUptoSaid : Prop := tokenOnceUptoRow.holds Try.pinned (OpenSpec.upto tokenOnceSpec)

/-- 'passkeylaw12.TokenBack', WHERE WHAT IT READS IS OF BULK AT MOST 1048576: true; the input reads as it did. -/
def tokenBackUptoRow : OpenClaim := { program := "ythfipmkhadkldaa", sum := "94237e9d4271548b14739beb4a1b9966dfb2592645db6468c0ff6a4f4854d08a", func := "passkey/passkeylaw12.TokenBack", spec := "tokenBack", inPlace := ["internal/bytealg.IndexByte"], apart := false, narrowed := true }
def TokenBackUptoSaid : Prop := tokenBackUptoRow.holds Try.pinned (OpenSpec.upto tokenBackSpec)

/-- 'passkeylaw12.TokenWords', WHERE WHAT IT READS IS OF BULK AT MOST 1048576: true; the input reads as it did. -/
def tokenWordsUptoRow : OpenClaim := { program := "ythfipmkhadkldaa", sum := "94237e9d4271548b14739beb4a1b9966dfb2592645db6468c0ff6a4f4854d08a", func := "passkey/passkeylaw12.TokenWords", spec := "tokenWords", inPlace := ["internal/bytealg.IndexByte"], apart := false, narrowed := true }
def TokenWordsUptoSaid : Prop := tokenWordsUptoRow.holds Try.pinned (OpenSpec.upto tokenWordsSpec)

end Rows
end Go.Proofs.Ythfipmkhadkldaa
