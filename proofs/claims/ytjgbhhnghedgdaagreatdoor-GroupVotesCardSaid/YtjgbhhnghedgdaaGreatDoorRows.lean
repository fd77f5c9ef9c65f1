/-
  NARROWER THAN 'FOR EVERY INPUT', by the rows' own cells (each row's printed sentence says how): GroupBodies: laid · GroupStarts: laid · GroupVotes: laid · GroupPlays: laid · GroupAny: laid · GroupSafe: laid · GroupMerges: laid · GroupForks: laid.
  DERIVED. THE GIVEN ROWS OF THIS SEAT. 8 by the template 'for every input the law returns true; each argument reads behind the call as it read before'; 0 by the template 'total and deterministic' (their statements: YtjgbhhnghedgdaaGreatDoorTotals.lean).
  GIVEN WITH THE SEED: the statements are not yours to turn. If you find one false, say at which input.
  Laid BY PROGRAM, IN A SANDBOX (cutbox-rows.mjs): the forced cells as the released guide's own fill.sh prints them over the translation 36101d5f0edb2d2a… (all of the seat's roots in one cut). By AI agents, Wed Nov 11 2026. No macro, syntax, notation, axiom, sorry.
-/
import Derived.Test.YtjgbhhnghedgdaaGreatDoorChecked
import GoSem.PinnedTables
import GoSem.Claim
import GoSem.ClaimJoined
import GoSem.ClaimMapViews
import Derived.JoinedTies
import Derived.KernelRfl
namespace Go.Proofs.YtjgbhhnghedgdaaGreatDoor
/- THE CELL 'sum', in the pinned program and in every row, IS THE sha256 OF THE DUMP (.gsa) THAT YtjgbhhnghedgdaaGreatDoorProg.lean LOADS. Nothing in Lean hashes anything: it is a label: what it is worth is what the hold of that sum in a sandbox is worth. -/
noncomputable def Tryz.pinned : Pinned := { name := "ytjgbhhnghedgdaagreatdoor", sum := "36101d5f0edb2d2ade12d53474a0f1795309597c416265571f4a718501f4dfb2", checked := Tryz.checked }
namespace Rows
def none {H : Type} : Left H := { results := [], args := [] }

/- WHAT THE LISTED PACKAGE-LEVEL VARIABLES READ AS WHEN THE CALL BEGINS. Each datum BY PROGRAM (the guide's laid-datum.mjs) off the statement by which the dump's own 'gosem.cut.vars' lays the variable. In a bare row this is a premise. The card (YtjgbhhnghedgdaaGreatDoorCards.lean) ties it to the program's text. -/
def laid_unicode_utf8_acceptRanges {H : Type} : DataW H := .agg [.agg [.lit (.int .u8 128), .lit (.int .u8 191)], .agg [.lit (.int .u8 160), .lit (.int .u8 191)], .agg [.lit (.int .u8 128), .lit (.int .u8 159)], .agg [.lit (.int .u8 144), .lit (.int .u8 191)], .agg [.lit (.int .u8 128), .lit (.int .u8 143)], .agg [.lit (.int .u8 0), .lit (.int .u8 0)], .agg [.lit (.int .u8 0), .lit (.int .u8 0)], .agg [.lit (.int .u8 0), .lit (.int .u8 0)], .agg [.lit (.int .u8 0), .lit (.int .u8 0)], .agg [.lit (.int .u8 0), .lit (.int .u8 0)], .agg [.lit (.int .u8 0), .lit (.int .u8 0)], .agg [.lit (.int .u8 0), .lit (.int .u8 0)], .agg [.lit (.int .u8 0), .lit (.int .u8 0)], .agg [.lit (.int .u8 0), .lit (.int .u8 0)], .agg [.lit (.int .u8 0), .lit (.int .u8 0)], .agg [.lit (.int .u8 0), .lit (.int .u8 0)]]
/-- One of Go's own tables, pinned by name: the form's constant. -/
def laid_unicode_utf8_first : DataW Unit := Go.Pinned.utf8First

/-- 'passkeylaw38.GroupBodies': WHATEVER THE INPUT: true; the input reads as it did. -/
def groupBodiesSpec : ChangeSpec := { name := "groupBodies", fn := fun _ => fun
  | [d1, d2] => { results := [.lit (.bool true)], args := [d1, d2] }
  | _ => none }
def groupBodiesRow : OpenClaim := { program := "ytjgbhhnghedgdaagreatdoor", sum := "36101d5f0edb2d2ade12d53474a0f1795309597c416265571f4a718501f4dfb2", func := "passkey/passkeylaw38.GroupBodies", spec := "groupBodies", inPlace := ["internal/bytealg.Compare", "slices.overlaps[passkey/api.Vote]"], unfollowed := true, recurses := true, named := ["unicode/utf8.first", "unicode/utf8.acceptRanges"], apart := false, laid := [("unicode/utf8.acceptRanges", laid_unicode_utf8_acceptRanges), ("unicode/utf8.first", laid_unicode_utf8_first)] }
def GroupBodiesSaid : Prop := groupBodiesRow.holds Tryz.pinned (OpenSpec.ofChange groupBodiesSpec)

/-- ITS FALSE NEIGHBOUR: 'it returns false'. Refute it at one input. -/
def groupBodiesWrong : ChangeSpec := { name := "groupBodies", fn := fun _ => fun
  | [d1, d2] => { results := [.lit (.bool false)], args := [d1, d2] }
  | _ => none }
def GroupBodiesWrongFalsely : Prop := groupBodiesRow.holds Tryz.pinned (OpenSpec.ofChange groupBodiesWrong)

/-- 'passkeylaw38.GroupStarts': WHATEVER THE INPUT: true; the input reads as it did. -/
def groupStartsSpec : ChangeSpec := { name := "groupStarts", fn := fun _ => fun
  | [d1, d2, d3] => { results := [.lit (.bool true)], args := [d1, d2, d3] }
  | _ => none }
def groupStartsRow : OpenClaim := { program := "ytjgbhhnghedgdaagreatdoor", sum := "36101d5f0edb2d2ade12d53474a0f1795309597c416265571f4a718501f4dfb2", func := "passkey/passkeylaw38.GroupStarts", spec := "groupStarts", inPlace := ["internal/bytealg.Compare", "slices.overlaps[passkey/api.Vote]"], unfollowed := true, recurses := true, named := ["unicode/utf8.first", "unicode/utf8.acceptRanges"], apart := false, laid := [("unicode/utf8.acceptRanges", laid_unicode_utf8_acceptRanges), ("unicode/utf8.first", laid_unicode_utf8_first)] }
def GroupStartsSaid : Prop := groupStartsRow.holds Tryz.pinned (OpenSpec.ofChange groupStartsSpec)

/-- ITS FALSE NEIGHBOUR: 'it returns false'. Refute it at one input. -/
def groupStartsWrong : ChangeSpec := { name := "groupStarts", fn := fun _ => fun
  | [d1, d2, d3] => { results := [.lit (.bool false)], args := [d1, d2, d3] }
  | _ => none }
def GroupStartsWrongFalsely : Prop := groupStartsRow.holds Tryz.pinned (OpenSpec.ofChange groupStartsWrong)

/-- 'passkeylaw38.GroupVotes': WHATEVER THE INPUT: true; the input reads as it did. -/
def groupVotesSpec : ChangeSpec := { name := "groupVotes", fn := fun _ => fun
  | [d1, d2, d3, d4, d5, d6] => { results := [.lit (.bool true)], args := [d1, d2, d3, d4, d5, d6] }
  | _ => none }
def groupVotesRow : OpenClaim := { program := "ytjgbhhnghedgdaagreatdoor", sum := "36101d5f0edb2d2ade12d53474a0f1795309597c416265571f4a718501f4dfb2", func := "passkey/passkeylaw38.GroupVotes", spec := "groupVotes", inPlace := ["internal/bytealg.Compare", "slices.overlaps[passkey/api.Vote]"], unfollowed := true, recurses := true, named := ["unicode/utf8.first", "unicode/utf8.acceptRanges"], apart := false, laid := [("unicode/utf8.acceptRanges", laid_unicode_utf8_acceptRanges), ("unicode/utf8.first", laid_unicode_utf8_first)] }
def GroupVotesSaid : Prop := groupVotesRow.holds Tryz.pinned (OpenSpec.ofChange groupVotesSpec)

/-- ITS FALSE NEIGHBOUR: 'it returns false'. Refute it at one input. -/
def groupVotesWrong : ChangeSpec := { name := "groupVotes", fn := fun _ => fun
  | [d1, d2, d3, d4, d5, d6] => { results := [.lit (.bool false)], args := [d1, d2, d3, d4, d5, d6] }
  | _ => none }
def GroupVotesWrongFalsely : Prop := groupVotesRow.holds Tryz.pinned (OpenSpec.ofChange groupVotesWrong)

/-- 'passkeylaw38.GroupPlays': WHATEVER THE INPUT: true; the input reads as it did. -/
def groupPlaysSpec : ChangeSpec := { name := "groupPlays", fn := fun _ => fun
  | [d] => { results := [.lit (.bool true)], args := [d] }
  | _ => none }
def groupPlaysRow : OpenClaim := { program := "ytjgbhhnghedgdaagreatdoor", sum := "36101d5f0edb2d2ade12d53474a0f1795309597c416265571f4a718501f4dfb2", func := "passkey/passkeylaw38.GroupPlays", spec := "groupPlays", inPlace := ["internal/bytealg.Compare", "slices.overlaps[passkey/api.Vote]"], unfollowed := true, recurses := true, named := ["unicode/utf8.first", "unicode/utf8.acceptRanges"], apart := false, laid := [("unicode/utf8.acceptRanges", laid_unicode_utf8_acceptRanges), ("unicode/utf8.first", laid_unicode_utf8_first)] }
def GroupPlaysSaid : Prop := groupPlaysRow.holds Tryz.pinned (OpenSpec.ofChange groupPlaysSpec)

/-- ITS FALSE NEIGHBOUR: 'it returns false'. Refute it at one input. -/
def groupPlaysWrong : ChangeSpec := { name := "groupPlays", fn := fun _ => fun
  | [d] => { results := [.lit (.bool false)], args := [d] }
  | _ => none }
def GroupPlaysWrongFalsely : Prop := groupPlaysRow.holds Tryz.pinned (OpenSpec.ofChange groupPlaysWrong)

/-- 'passkeylaw38.GroupAny': WHATEVER THE INPUT: true; the input reads as it did. -/
def groupAnySpec : ChangeSpec := { name := "groupAny", fn := fun _ => fun
  | [d1, d2] => { results := [.lit (.bool true)], args := [d1, d2] }
  | _ => none }
def groupAnyRow : OpenClaim := { program := "ytjgbhhnghedgdaagreatdoor", sum := "36101d5f0edb2d2ade12d53474a0f1795309597c416265571f4a718501f4dfb2", func := "passkey/passkeylaw38.GroupAny", spec := "groupAny", inPlace := ["internal/bytealg.Compare", "slices.overlaps[passkey/api.Vote]"], unfollowed := true, recurses := true, named := ["unicode/utf8.first", "unicode/utf8.acceptRanges"], apart := false, laid := [("unicode/utf8.acceptRanges", laid_unicode_utf8_acceptRanges), ("unicode/utf8.first", laid_unicode_utf8_first)] }
def GroupAnySaid : Prop := groupAnyRow.holds Tryz.pinned (OpenSpec.ofChange groupAnySpec)

/-- ITS FALSE NEIGHBOUR: 'it returns false'. Refute it at one input. -/
def groupAnyWrong : ChangeSpec := { name := "groupAny", fn := fun _ => fun
  | [d1, d2] => { results := [.lit (.bool false)], args := [d1, d2] }
  | _ => none }
def GroupAnyWrongFalsely : Prop := groupAnyRow.holds Tryz.pinned (OpenSpec.ofChange groupAnyWrong)

/-- 'passkeylaw38.GroupSafe': WHATEVER THE INPUT: true; the input reads as it did. -/
def groupSafeSpec : ChangeSpec := { name := "groupSafe", fn := fun _ => fun
  | [d] => { results := [.lit (.bool true)], args := [d] }
  | _ => none }
def groupSafeRow : OpenClaim := { program := "ytjgbhhnghedgdaagreatdoor", sum := "36101d5f0edb2d2ade12d53474a0f1795309597c416265571f4a718501f4dfb2", func := "passkey/passkeylaw38.GroupSafe", spec := "groupSafe", inPlace := ["internal/bytealg.Compare", "slices.overlaps[passkey/api.Vote]"], unfollowed := true, recurses := true, named := ["unicode/utf8.first", "unicode/utf8.acceptRanges"], apart := false, laid := [("unicode/utf8.acceptRanges", laid_unicode_utf8_acceptRanges), ("unicode/utf8.first", laid_unicode_utf8_first)] }
def GroupSafeSaid : Prop := groupSafeRow.holds Tryz.pinned (OpenSpec.ofChange groupSafeSpec)

/-- ITS FALSE NEIGHBOUR: 'it returns false'. Refute it at one input. -/
def groupSafeWrong : ChangeSpec := { name := "groupSafe", fn := fun _ => fun
  | [d] => { results := [.lit (.bool false)], args := [d] }
  | _ => none }
def GroupSafeWrongFalsely : Prop := groupSafeRow.holds Tryz.pinned (OpenSpec.ofChange groupSafeWrong)

/-- 'passkeylaw38.GroupMerges': WHATEVER THE INPUT: true; the input reads as it did. -/
def groupMergesSpec : ChangeSpec := { name := "groupMerges", fn := fun _ => fun
  | [d1, d2, d3, d4] => { results := [.lit (.bool true)], args := [d1, d2, d3, d4] }
  | _ => none }
def groupMergesRow : OpenClaim := { program := "ytjgbhhnghedgdaagreatdoor", sum := "36101d5f0edb2d2ade12d53474a0f1795309597c416265571f4a718501f4dfb2", func := "passkey/passkeylaw38.GroupMerges", spec := "groupMerges", inPlace := ["internal/bytealg.Compare", "slices.overlaps[passkey/api.Vote]"], unfollowed := true, recurses := true, named := ["unicode/utf8.first", "unicode/utf8.acceptRanges"], apart := false, laid := [("unicode/utf8.acceptRanges", laid_unicode_utf8_acceptRanges), ("unicode/utf8.first", laid_unicode_utf8_first)] }
def GroupMergesSaid : Prop := groupMergesRow.holds Tryz.pinned (OpenSpec.ofChange groupMergesSpec)

/-- ITS FALSE NEIGHBOUR: 'it returns false'. Refute it at one input. -/
def groupMergesWrong : ChangeSpec := { name := "groupMerges", fn := fun _ => fun
  | [d1, d2, d3, d4] => { results := [.lit (.bool false)], args := [d1, d2, d3, d4] }
  | _ => none }
def GroupMergesWrongFalsely : Prop := groupMergesRow.holds Tryz.pinned (OpenSpec.ofChange groupMergesWrong)

/-- 'passkeylaw38.GroupForks': WHATEVER THE INPUT: true; the input reads as it did. -/
def groupForksSpec : ChangeSpec := { name := "groupForks", fn := fun _ => fun
  | [d1, d2, d3] => { results := [.lit (.bool true)], args := [d1, d2, d3] }
  | _ => none }
def groupForksRow : OpenClaim := { program := "ytjgbhhnghedgdaagreatdoor", sum := "36101d5f0edb2d2ade12d53474a0f1795309597c416265571f4a718501f4dfb2", func := "passkey/passkeylaw38.GroupForks", spec := "groupForks", inPlace := ["internal/bytealg.Compare", "slices.overlaps[passkey/api.Vote]"], unfollowed := true, recurses := true, named := ["unicode/utf8.first", "unicode/utf8.acceptRanges"], apart := false, laid := [("unicode/utf8.acceptRanges", laid_unicode_utf8_acceptRanges), ("unicode/utf8.first", laid_unicode_utf8_first)] }
def GroupForksSaid : Prop := groupForksRow.holds Tryz.pinned (OpenSpec.ofChange groupForksSpec)

/-- ITS FALSE NEIGHBOUR: 'it returns false'. Refute it at one input. -/
def groupForksWrong : ChangeSpec := { name := "groupForks", fn := fun _ => fun
  | [d1, d2, d3] => { results := [.lit (.bool false)], args := [d1, d2, d3] }
  | _ => none }
def GroupForksWrongFalsely : Prop := groupForksRow.holds Tryz.pinned (OpenSpec.ofChange groupForksWrong)

/- THE SECOND FORM. 'bulk': how many values and letters a reading holds, each counted each time it is reached (what is shared counts as often as it is met; a slice's spare places count too). A statement '..UptoSaid' is the law's where the arguments, and the package variables that the reading takes, are together of bulk at most 1048576: NARROWER than '..Said'. Prove '..Said' where nothing that the law and all that it calls make is longer than what came in: it says more and counts as full. Else prove '..UptoSaid'. A law counts once. -/
mutual
def uptoBulk {H : Type} : DataW H → Nat
  | .lit (.string bytes) => bytes.length + 1
  | .lit _ => 1
  | .nil => 1
  | .ptr d => uptoBulk d + 1
  | .slice elems spare => uptoBulkAll elems + uptoBulkAll spare + 1
  | .agg parts => uptoBulkAll parts + 1
  | .iface _ d => uptoBulk d + 1
  | .map entries => uptoBulkEntries entries + 1
  | .held _ => 1
def uptoBulkAll {H : Type} : List (DataW H) → Nat
  | [] => 0
  | d :: r => uptoBulk d + uptoBulkAll r
def uptoBulkEntries {H : Type} : List (Lit × DataW H) → Nat
  | [] => 0
  | x :: r => uptoBulkEntry x + uptoBulkEntries r
def uptoBulkEntry {H : Type} : Lit × DataW H → Nat
  | (.string bytes, d) => bytes.length + uptoBulk d + 1
  | (_, d) => uptoBulk d + 1
 end
def uptoSmall : (H : Type) → List (DataW H) → Bool := fun _ ds => decide (uptoBulkAll ds ≤ 1048576)
def OpenSpec.upto (s : _root_.Go.ChangeSpec) : _root_.Go.OpenSpec := { _root_.Go.OpenSpec.ofChange s with cond := some uptoSmall }

/-- 'passkeylaw38.GroupBodies', WHERE WHAT IT READS IS OF BULK AT MOST 1048576: true; the input reads as it did. -/
def groupBodiesUptoRow : OpenClaim := { program := "ytjgbhhnghedgdaagreatdoor", sum := "36101d5f0edb2d2ade12d53474a0f1795309597c416265571f4a718501f4dfb2", func := "passkey/passkeylaw38.GroupBodies", spec := "groupBodies", inPlace := ["internal/bytealg.Compare", "slices.overlaps[passkey/api.Vote]"], unfollowed := true, recurses := true, named := ["unicode/utf8.first", "unicode/utf8.acceptRanges"], apart := false, laid := [("unicode/utf8.acceptRanges", laid_unicode_utf8_acceptRanges), ("unicode/utf8.first", laid_unicode_utf8_first)], narrowed := true }
def GroupBodiesUptoSaid : Prop := groupBodiesUptoRow.holds Tryz.pinned (OpenSpec.upto groupBodiesSpec)

/-- 'passkeylaw38.GroupStarts', WHERE WHAT IT READS IS OF BULK AT MOST 1048576: true; the input reads as it did. -/
def groupStartsUptoRow : OpenClaim := { program := "ytjgbhhnghedgdaagreatdoor", sum := "36101d5f0edb2d2ade12d53474a0f1795309597c416265571f4a718501f4dfb2", func := "passkey/passkeylaw38.GroupStarts", spec := "groupStarts", inPlace := ["internal/bytealg.Compare", "slices.overlaps[passkey/api.Vote]"], unfollowed := true, recurses := true, named := ["unicode/utf8.first", "unicode/utf8.acceptRanges"], apart := false, laid := [("unicode/utf8.acceptRanges", laid_unicode_utf8_acceptRanges), ("unicode/utf8.first", laid_unicode_utf8_first)], narrowed := true }
def GroupStartsUptoSaid : Prop := groupStartsUptoRow.holds Tryz.pinned (OpenSpec.upto groupStartsSpec)

/-- 'passkeylaw38.GroupVotes', WHERE WHAT IT READS IS OF BULK AT MOST 1048576: true; the input reads as it did. -/
def groupVotesUptoRow : OpenClaim := { program := "ytjgbhhnghedgdaagreatdoor", sum := "36101d5f0edb2d2ade12d53474a0f1795309597c416265571f4a718501f4dfb2", func := "passkey/passkeylaw38.GroupVotes", spec := "groupVotes", inPlace := ["internal/bytealg.Compare", "slices.overlaps[passkey/api.Vote]"], unfollowed := true, recurses := true, named := ["unicode/utf8.first", "unicode/utf8.acceptRanges"], apart := false, laid := [("unicode/utf8.acceptRanges", laid_unicode_utf8_acceptRanges), ("unicode/utf8.first", laid_unicode_utf8_first)], narrowed := true }
def GroupVotesUptoSaid : Prop := groupVotesUptoRow.holds Tryz.pinned (OpenSpec.upto groupVotesSpec)

/-- 'passkeylaw38.GroupPlays', WHERE WHAT IT READS IS OF BULK AT MOST 1048576: true; the input reads as it did. -/
def groupPlaysUptoRow : OpenClaim := { program := "ytjgbhhnghedgdaagreatdoor", sum := "36101d5f0edb2d2ade12d53474a0f1795309597c416265571f4a718501f4dfb2", func := "passkey/passkeylaw38.GroupPlays", spec := "groupPlays", inPlace := ["internal/bytealg.Compare", "slices.overlaps[passkey/api.Vote]"], unfollowed := true, recurses := true, named := ["unicode/utf8.first", "unicode/utf8.acceptRanges"], apart := false, laid := [("unicode/utf8.acceptRanges", laid_unicode_utf8_acceptRanges), ("unicode/utf8.first", laid_unicode_utf8_first)], narrowed := true }
def GroupPlaysUptoSaid : Prop := groupPlaysUptoRow.holds Tryz.pinned (OpenSpec.upto groupPlaysSpec)

/-- 'passkeylaw38.GroupAny', WHERE WHAT IT READS IS OF BULK AT MOST 1048576: true; the input reads as it did. -/
def groupAnyUptoRow : OpenClaim := { program := "ytjgbhhnghedgdaagreatdoor", sum := "36101d5f0edb2d2ade12d53474a0f1795309597c416265571f4a718501f4dfb2", func := "passkey/passkeylaw38.GroupAny", spec := "groupAny", inPlace := ["internal/bytealg.Compare", "slices.overlaps[passkey/api.Vote]"], unfollowed := true, recurses := true, named := ["unicode/utf8.first", "unicode/utf8.acceptRanges"], apart := false, laid := [("unicode/utf8.acceptRanges", laid_unicode_utf8_acceptRanges), ("unicode/utf8.first", laid_unicode_utf8_first)], narrowed := true }
def GroupAnyUptoSaid : Prop := groupAnyUptoRow.holds Tryz.pinned (OpenSpec.upto groupAnySpec)

/-- 'passkeylaw38.GroupSafe', WHERE WHAT IT READS IS OF BULK AT MOST 1048576: true; the input reads as it did. -/
def groupSafeUptoRow : OpenClaim := { program := "ytjgbhhnghedgdaagreatdoor", sum := "36101d5f0edb2d2ade12d53474a0f1795309597c416265571f4a718501f4dfb2", func := "passkey/passkeylaw38.GroupSafe", spec := "groupSafe", inPlace := ["internal/bytealg.Compare", "slices.overlaps[passkey/api.Vote]"], unfollowed := true, recurses := true, named := ["unicode/utf8.first", "unicode/utf8.acceptRanges"], apart := false, laid := [("unicode/utf8.acceptRanges", laid_unicode_utf8_acceptRanges), ("unicode/utf8.first", laid_unicode_utf8_first)], narrowed := true }
def GroupSafeUptoSaid : Prop := groupSafeUptoRow.holds Tryz.pinned (OpenSpec.upto groupSafeSpec)

/-- 'passkeylaw38.GroupMerges', WHERE WHAT IT READS IS OF BULK AT MOST 1048576: true; the input reads as it did. -/
def groupMergesUptoRow : OpenClaim := { program := "ytjgbhhnghedgdaagreatdoor", sum := "36101d5f0edb2d2ade12d53474a0f1795309597c416265571f4a718501f4dfb2", func := "passkey/passkeylaw38.GroupMerges", spec := "groupMerges", inPlace := ["internal/bytealg.Compare", "slices.overlaps[passkey/api.Vote]"], unfollowed := true, recurses := true, named := ["unicode/utf8.first", "unicode/utf8.acceptRanges"], apart := false, laid := [("unicode/utf8.acceptRanges", laid_unicode_utf8_acceptRanges), ("unicode/utf8.first", laid_unicode_utf8_first)], narrowed := true }
def GroupMergesUptoSaid : Prop := groupMergesUptoRow.holds Tryz.pinned (OpenSpec.upto groupMergesSpec)

/-- 'passkeylaw38.GroupForks', WHERE WHAT IT READS IS OF BULK AT MOST 1048576: true; the input reads as it did. -/
def groupForksUptoRow : OpenClaim := { program := "ytjgbhhnghedgdaagreatdoor", sum := "36101d5f0edb2d2ade12d53474a0f1795309597c416265571f4a718501f4dfb2", func := "passkey/passkeylaw38.GroupForks", spec := "groupForks", inPlace := ["internal/bytealg.Compare", "slices.overlaps[passkey/api.Vote]"], unfollowed := true, recurses := true, named := ["unicode/utf8.first", "unicode/utf8.acceptRanges"], apart := false, laid := [("unicode/utf8.acceptRanges", laid_unicode_utf8_acceptRanges), ("unicode/utf8.first", laid_unicode_utf8_first)], narrowed := true }
def GroupForksUptoSaid : Prop := groupForksUptoRow.holds Tryz.pinned (OpenSpec.upto groupForksSpec)

end Rows
end Go.Proofs.YtjgbhhnghedgdaaGreatDoor
