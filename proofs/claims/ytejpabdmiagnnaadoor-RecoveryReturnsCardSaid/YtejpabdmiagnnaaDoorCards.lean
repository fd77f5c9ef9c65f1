/-
  DERIVED. GIVEN WITH THE SEED: THE CARDS: each row of YtejpabdmiagnnaaDoorRows.lean that lists a variable, with what it lists TIED to the program's text (the seventh form; the later family's looks); each row that meets fmt, with fmt's text TOLD by the authors' own Lean function (tested against real Go, not proved from fmt's source: count such statements apart). THE CARD IS WHAT COUNTS. Prove the row's statement (the work); the ties are given (YtejpabdmiagnnaaDoorTie.lean); close each card by the builder's one call (the guide's Derived/Test/ToyasCard.lean, 'card_holds'). Laid BY PROGRAM, IN A SANDBOX (cutbox-door.mjs). By AI agents, Wed Nov 11 2026. No macro, syntax, notation, axiom, sorry.
-/
import Derived.Test.YtejpabdmiagnnaaDoorRows
import GoSem.ClaimSeven
namespace Go.Proofs.YtejpabdmiagnnaaDoor
namespace Rows

/-- THE TIED CARD OF 'passkeylaw39.RecoveryPrepares'. -/
def recoveryPreparesCard : Claim7 := { stood := { row := recoveryPreparesRow, standIns := [], harness := (true, "8e4d47c34cde0db918153680695d7e23bab8418001794300e7d4381e31a393f1"), looks := false }, kinds := [], alts := [], laidByText := true, laidKinds := [.data, .pinned], laidTests := true, laidLooks := .later }
def RecoveryPreparesCardSaid : Prop := Claim7.holds Tryd.pinned (.plain (OpenSpec.ofChange recoveryPreparesSpec)) recoveryPreparesCard

/-- THE TIED CARD OF 'passkeylaw39.RecoveryReturns'. -/
def recoveryReturnsCard : Claim7 := { stood := { row := recoveryReturnsRow, standIns := [], harness := (true, "8e4d47c34cde0db918153680695d7e23bab8418001794300e7d4381e31a393f1"), looks := false }, kinds := [], alts := [], laidByText := true, laidKinds := [.data, .pinned], laidTests := true, laidLooks := .later }
def RecoveryReturnsCardSaid : Prop := Claim7.holds Tryd.pinned (.plain (OpenSpec.ofChange recoveryReturnsSpec)) recoveryReturnsCard

/-- THE SECOND FORM's CARD OF 'passkeylaw39.RecoveryPrepares'. -/
def recoveryPreparesUptoCard : Claim7 := { stood := { row := recoveryPreparesUptoRow, standIns := [], harness := (true, "8e4d47c34cde0db918153680695d7e23bab8418001794300e7d4381e31a393f1"), looks := false }, kinds := [], alts := [], laidByText := true, laidKinds := [.data, .pinned], laidTests := true, laidLooks := .later }
def RecoveryPreparesUptoCardSaid : Prop := Claim7.holds Tryd.pinned (.plain (OpenSpec.upto recoveryPreparesSpec)) recoveryPreparesUptoCard

/-- THE SECOND FORM's CARD OF 'passkeylaw39.RecoveryReturns'. -/
def recoveryReturnsUptoCard : Claim7 := { stood := { row := recoveryReturnsUptoRow, standIns := [], harness := (true, "8e4d47c34cde0db918153680695d7e23bab8418001794300e7d4381e31a393f1"), looks := false }, kinds := [], alts := [], laidByText := true, laidKinds := [.data, .pinned], laidTests := true, laidLooks := .later }
def RecoveryReturnsUptoCardSaid : Prop := Claim7.holds Tryd.pinned (.plain (OpenSpec.upto recoveryReturnsSpec)) recoveryReturnsUptoCard
end Rows
end Go.Proofs.YtejpabdmiagnnaaDoor
