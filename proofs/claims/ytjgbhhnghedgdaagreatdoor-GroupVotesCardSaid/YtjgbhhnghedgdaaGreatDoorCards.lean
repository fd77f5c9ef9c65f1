/-
  DERIVED. GIVEN WITH THE SEED: THE CARDS: each row of YtjgbhhnghedgdaaGreatDoorRows.lean that lists a variable, with what it lists TIED to the program's text (the seventh form; the later family's looks); each row that meets fmt, with fmt's text TOLD by the authors' own Lean function (tested against real Go, not proved from fmt's source: count such statements apart). THE CARD IS WHAT COUNTS. Prove the row's statement (the work); the ties are given (YtjgbhhnghedgdaaGreatDoorTie.lean); close each card by the builder's one call (the guide's Derived/Test/ToyasCard.lean, 'card_holds'). Laid BY PROGRAM, IN A SANDBOX (cutbox-door.mjs). By AI agents, Wed Nov 11 2026. No macro, syntax, notation, axiom, sorry.
-/
import Derived.Test.YtjgbhhnghedgdaaGreatDoorRows
import GoSem.ClaimSeven
namespace Go.Proofs.YtjgbhhnghedgdaaGreatDoor
namespace Rows

/-- THE TIED CARD OF 'passkeylaw38.GroupBodies'. -/
def groupBodiesCard : Claim7 := { stood := { row := groupBodiesRow, standIns := [], harness := (true, "fab67545d1c5343aea5e1f3d0de8eea608bff556b3f6889684a4119b28c12f87"), looks := false }, kinds := [], alts := [], laidByText := true, laidKinds := [.data, .pinned], laidTests := true, laidLooks := .later }
def GroupBodiesCardSaid : Prop := Claim7.holds Tryz.pinned (.plain (OpenSpec.ofChange groupBodiesSpec)) groupBodiesCard

/-- THE TIED CARD OF 'passkeylaw38.GroupStarts'. -/
def groupStartsCard : Claim7 := { stood := { row := groupStartsRow, standIns := [], harness := (true, "fab67545d1c5343aea5e1f3d0de8eea608bff556b3f6889684a4119b28c12f87"), looks := false }, kinds := [], alts := [], laidByText := true, laidKinds := [.data, .pinned], laidTests := true, laidLooks := .later }
def GroupStartsCardSaid : Prop := Claim7.holds Tryz.pinned (.plain (OpenSpec.ofChange groupStartsSpec)) groupStartsCard

/-- THE TIED CARD OF 'passkeylaw38.GroupVotes'. -/
def groupVotesCard : Claim7 := { stood := { row := groupVotesRow, standIns := [], harness := (true, "fab67545d1c5343aea5e1f3d0de8eea608bff556b3f6889684a4119b28c12f87"), looks := false }, kinds := [], alts := [], laidByText := true, laidKinds := [.data, .pinned], laidTests := true, laidLooks := .later }
def GroupVotesCardSaid : Prop := Claim7.holds Tryz.pinned (.plain (OpenSpec.ofChange groupVotesSpec)) groupVotesCard

/-- THE TIED CARD OF 'passkeylaw38.GroupPlays'. -/
def groupPlaysCard : Claim7 := { stood := { row := groupPlaysRow, standIns := [], harness := (true, "fab67545d1c5343aea5e1f3d0de8eea608bff556b3f6889684a4119b28c12f87"), looks := false }, kinds := [], alts := [], laidByText := true, laidKinds := [.data, .pinned], laidTests := true, laidLooks := .later }
def GroupPlaysCardSaid : Prop := Claim7.holds Tryz.pinned (.plain (OpenSpec.ofChange groupPlaysSpec)) groupPlaysCard

/-- THE TIED CARD OF 'passkeylaw38.GroupAny'. -/
def groupAnyCard : Claim7 := { stood := { row := groupAnyRow, standIns := [], harness := (true, "fab67545d1c5343aea5e1f3d0de8eea608bff556b3f6889684a4119b28c12f87"), looks := false }, kinds := [], alts := [], laidByText := true, laidKinds := [.data, .pinned], laidTests := true, laidLooks := .later }
def GroupAnyCardSaid : Prop := Claim7.holds Tryz.pinned (.plain (OpenSpec.ofChange groupAnySpec)) groupAnyCard

/-- THE TIED CARD OF 'passkeylaw38.GroupSafe'. -/
def groupSafeCard : Claim7 := { stood := { row := groupSafeRow, standIns := [], harness := (true, "fab67545d1c5343aea5e1f3d0de8eea608bff556b3f6889684a4119b28c12f87"), looks := false }, kinds := [], alts := [], laidByText := true, laidKinds := [.data, .pinned], laidTests := true, laidLooks := .later }
def GroupSafeCardSaid : Prop := Claim7.holds Tryz.pinned (.plain (OpenSpec.ofChange groupSafeSpec)) groupSafeCard

/-- THE TIED CARD OF 'passkeylaw38.GroupMerges'. -/
def groupMergesCard : Claim7 := { stood := { row := groupMergesRow, standIns := [], harness := (true, "fab67545d1c5343aea5e1f3d0de8eea608bff556b3f6889684a4119b28c12f87"), looks := false }, kinds := [], alts := [], laidByText := true, laidKinds := [.data, .pinned], laidTests := true, laidLooks := .later }
def GroupMergesCardSaid : Prop := Claim7.holds Tryz.pinned (.plain (OpenSpec.ofChange groupMergesSpec)) groupMergesCard

/-- THE TIED CARD OF 'passkeylaw38.GroupForks'. -/
def groupForksCard : Claim7 := { stood := { row := groupForksRow, standIns := [], harness := (true, "fab67545d1c5343aea5e1f3d0de8eea608bff556b3f6889684a4119b28c12f87"), looks := false }, kinds := [], alts := [], laidByText := true, laidKinds := [.data, .pinned], laidTests := true, laidLooks := .later }
def GroupForksCardSaid : Prop := Claim7.holds Tryz.pinned (.plain (OpenSpec.ofChange groupForksSpec)) groupForksCard

/-- THE SECOND FORM's CARD OF 'passkeylaw38.GroupBodies'. -/
def groupBodiesUptoCard : Claim7 := { stood := { row := groupBodiesUptoRow, standIns := [], harness := (true, "fab67545d1c5343aea5e1f3d0de8eea608bff556b3f6889684a4119b28c12f87"), looks := false }, kinds := [], alts := [], laidByText := true, laidKinds := [.data, .pinned], laidTests := true, laidLooks := .later }
def GroupBodiesUptoCardSaid : Prop := Claim7.holds Tryz.pinned (.plain (OpenSpec.upto groupBodiesSpec)) groupBodiesUptoCard

/-- THE SECOND FORM's CARD OF 'passkeylaw38.GroupStarts'. -/
def groupStartsUptoCard : Claim7 := { stood := { row := groupStartsUptoRow, standIns := [], harness := (true, "fab67545d1c5343aea5e1f3d0de8eea608bff556b3f6889684a4119b28c12f87"), looks := false }, kinds := [], alts := [], laidByText := true, laidKinds := [.data, .pinned], laidTests := true, laidLooks := .later }
def GroupStartsUptoCardSaid : Prop := Claim7.holds Tryz.pinned (.plain (OpenSpec.upto groupStartsSpec)) groupStartsUptoCard

/-- THE SECOND FORM's CARD OF 'passkeylaw38.GroupVotes'. -/
def groupVotesUptoCard : Claim7 := { stood := { row := groupVotesUptoRow, standIns := [], harness := (true, "fab67545d1c5343aea5e1f3d0de8eea608bff556b3f6889684a4119b28c12f87"), looks := false }, kinds := [], alts := [], laidByText := true, laidKinds := [.data, .pinned], laidTests := true, laidLooks := .later }
def GroupVotesUptoCardSaid : Prop := Claim7.holds Tryz.pinned (.plain (OpenSpec.upto groupVotesSpec)) groupVotesUptoCard

/-- THE SECOND FORM's CARD OF 'passkeylaw38.GroupPlays'. -/
def groupPlaysUptoCard : Claim7 := { stood := { row := groupPlaysUptoRow, standIns := [], harness := (true, "fab67545d1c5343aea5e1f3d0de8eea608bff556b3f6889684a4119b28c12f87"), looks := false }, kinds := [], alts := [], laidByText := true, laidKinds := [.data, .pinned], laidTests := true, laidLooks := .later }
def GroupPlaysUptoCardSaid : Prop := Claim7.holds Tryz.pinned (.plain (OpenSpec.upto groupPlaysSpec)) groupPlaysUptoCard

/-- THE SECOND FORM's CARD OF 'passkeylaw38.GroupAny'. -/
def groupAnyUptoCard : Claim7 := { stood := { row := groupAnyUptoRow, standIns := [], harness := (true, "fab67545d1c5343aea5e1f3d0de8eea608bff556b3f6889684a4119b28c12f87"), looks := false }, kinds := [], alts := [], laidByText := true, laidKinds := [.data, .pinned], laidTests := true, laidLooks := .later }
def GroupAnyUptoCardSaid : Prop := Claim7.holds Tryz.pinned (.plain (OpenSpec.upto groupAnySpec)) groupAnyUptoCard

/-- THE SECOND FORM's CARD OF 'passkeylaw38.GroupSafe'. -/
def groupSafeUptoCard : Claim7 := { stood := { row := groupSafeUptoRow, standIns := [], harness := (true, "fab67545d1c5343aea5e1f3d0de8eea608bff556b3f6889684a4119b28c12f87"), looks := false }, kinds := [], alts := [], laidByText := true, laidKinds := [.data, .pinned], laidTests := true, laidLooks := .later }
def GroupSafeUptoCardSaid : Prop := Claim7.holds Tryz.pinned (.plain (OpenSpec.upto groupSafeSpec)) groupSafeUptoCard

/-- THE SECOND FORM's CARD OF 'passkeylaw38.GroupMerges'. -/
def groupMergesUptoCard : Claim7 := { stood := { row := groupMergesUptoRow, standIns := [], harness := (true, "fab67545d1c5343aea5e1f3d0de8eea608bff556b3f6889684a4119b28c12f87"), looks := false }, kinds := [], alts := [], laidByText := true, laidKinds := [.data, .pinned], laidTests := true, laidLooks := .later }
def GroupMergesUptoCardSaid : Prop := Claim7.holds Tryz.pinned (.plain (OpenSpec.upto groupMergesSpec)) groupMergesUptoCard

/-- THE SECOND FORM's CARD OF 'passkeylaw38.GroupForks'. -/
def groupForksUptoCard : Claim7 := { stood := { row := groupForksUptoRow, standIns := [], harness := (true, "fab67545d1c5343aea5e1f3d0de8eea608bff556b3f6889684a4119b28c12f87"), looks := false }, kinds := [], alts := [], laidByText := true, laidKinds := [.data, .pinned], laidTests := true, laidLooks := .later }
def GroupForksUptoCardSaid : Prop := Claim7.holds Tryz.pinned (.plain (OpenSpec.upto groupForksSpec)) groupForksUptoCard
end Rows
end Go.Proofs.YtjgbhhnghedgdaaGreatDoor
