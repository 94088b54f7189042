/-
  No cell of these rows narrows 'for every input' (looked for: loops, veiled, ifaces, maps, wideKeys, modest, calm, conditions, laid).
  DERIVED. THE GIVEN ROWS OF THIS SEAT. 14 by the template 'for every input the law returns true; each argument reads behind the call as it read before'; 0 by the template 'total and deterministic' (their statements: YtpoolpppmgacnaaTotals.lean).
  GIVEN WITH THE SEED: the statements are not yours to turn. If you find one false, say at which input.
  Laid BY PROGRAM, IN A SANDBOX (cutbox-rows.mjs): the forced cells as the released guide's own fill.sh prints them over the translation e0c8e290f8d66c36… (all of the seat's roots in one cut). By AI agents, Wed Nov 11 2026. No macro, syntax, notation, axiom, sorry.
-/
import Derived.Test.YtpoolpppmgacnaaChecked
import GoSem.Claim
import GoSem.ClaimJoined
import GoSem.ClaimMapViews
import Derived.JoinedTies
import Derived.KernelRfl
namespace Go.Proofs.Ytpoolpppmgacnaa
/- THE CELL 'sum', in the pinned program and in every row, IS THE sha256 OF THE DUMP (.gsa) THAT YtpoolpppmgacnaaProg.lean LOADS. Nothing in Lean hashes anything: it is a label: what it is worth is what the hold of that sum in a sandbox is worth. -/
noncomputable def Try.pinned : Pinned := { name := "ytpoolpppmgacnaa", sum := "e0c8e290f8d66c3629c7a30cd7fff91108ea04fdcc192e2d77ed60787aa5012f", checked := Try.checked }
namespace Rows
def none {H : Type} : Left H := { results := [], args := [] }

/-- 'straightedgelaw29.DiskApart': WHATEVER THE INPUT: true; the input reads as it did. -/
def diskApartSpec : ChangeSpec := { name := "diskApart", fn := fun _ => fun
  | [d1, d2] => { results := [.lit (.bool true)], args := [d1, d2] }
  | _ => none }
def diskApartRow : OpenClaim := { program := "ytpoolpppmgacnaa", sum := "e0c8e290f8d66c3629c7a30cd7fff91108ea04fdcc192e2d77ed60787aa5012f", func := "straightedge/straightedgelaw29.DiskApart", spec := "diskApart", apart := false }
def DiskApartSaid : Prop := diskApartRow.holds Try.pinned (OpenSpec.ofChange diskApartSpec)

/-- ITS FALSE NEIGHBOUR: 'it returns false'. Refute it at one input. -/
def diskApartWrong : ChangeSpec := { name := "diskApart", fn := fun _ => fun
  | [d1, d2] => { results := [.lit (.bool false)], args := [d1, d2] }
  | _ => none }
def DiskApartWrongFalsely : Prop := diskApartRow.holds Try.pinned (OpenSpec.ofChange diskApartWrong)

/-- 'straightedgelaw29.DiskKeeps': WHATEVER THE INPUT: true; the input reads as it did. -/
def diskKeepsSpec : ChangeSpec := { name := "diskKeeps", fn := fun _ => fun
  | [d1, d2, d3, d4] => { results := [.lit (.bool true)], args := [d1, d2, d3, d4] }
  | _ => none }
def diskKeepsRow : OpenClaim := { program := "ytpoolpppmgacnaa", sum := "e0c8e290f8d66c3629c7a30cd7fff91108ea04fdcc192e2d77ed60787aa5012f", func := "straightedge/straightedgelaw29.DiskKeeps", spec := "diskKeeps", apart := false }
def DiskKeepsSaid : Prop := diskKeepsRow.holds Try.pinned (OpenSpec.ofChange diskKeepsSpec)

/-- ITS FALSE NEIGHBOUR: 'it returns false'. Refute it at one input. -/
def diskKeepsWrong : ChangeSpec := { name := "diskKeeps", fn := fun _ => fun
  | [d1, d2, d3, d4] => { results := [.lit (.bool false)], args := [d1, d2, d3, d4] }
  | _ => none }
def DiskKeepsWrongFalsely : Prop := diskKeepsRow.holds Try.pinned (OpenSpec.ofChange diskKeepsWrong)

/-- 'straightedgelaw29.DiskTears': WHATEVER THE INPUT: true; the input reads as it did. -/
def diskTearsSpec : ChangeSpec := { name := "diskTears", fn := fun _ => fun
  | [d1, d2, d3] => { results := [.lit (.bool true)], args := [d1, d2, d3] }
  | _ => none }
def diskTearsRow : OpenClaim := { program := "ytpoolpppmgacnaa", sum := "e0c8e290f8d66c3629c7a30cd7fff91108ea04fdcc192e2d77ed60787aa5012f", func := "straightedge/straightedgelaw29.DiskTears", spec := "diskTears", apart := false }
def DiskTearsSaid : Prop := diskTearsRow.holds Try.pinned (OpenSpec.ofChange diskTearsSpec)

/-- ITS FALSE NEIGHBOUR: 'it returns false'. Refute it at one input. -/
def diskTearsWrong : ChangeSpec := { name := "diskTears", fn := fun _ => fun
  | [d1, d2, d3] => { results := [.lit (.bool false)], args := [d1, d2, d3] }
  | _ => none }
def DiskTearsWrongFalsely : Prop := diskTearsRow.holds Try.pinned (OpenSpec.ofChange diskTearsWrong)

/-- 'straightedgelaw29.DiskPlays': WHATEVER THE INPUT: true; the input reads as it did. -/
def diskPlaysSpec : ChangeSpec := { name := "diskPlays", fn := fun _ => fun
  | [d1, d2] => { results := [.lit (.bool true)], args := [d1, d2] }
  | _ => none }
def diskPlaysRow : OpenClaim := { program := "ytpoolpppmgacnaa", sum := "e0c8e290f8d66c3629c7a30cd7fff91108ea04fdcc192e2d77ed60787aa5012f", func := "straightedge/straightedgelaw29.DiskPlays", spec := "diskPlays", apart := false }
def DiskPlaysSaid : Prop := diskPlaysRow.holds Try.pinned (OpenSpec.ofChange diskPlaysSpec)

/-- ITS FALSE NEIGHBOUR: 'it returns false'. Refute it at one input. -/
def diskPlaysWrong : ChangeSpec := { name := "diskPlays", fn := fun _ => fun
  | [d1, d2] => { results := [.lit (.bool false)], args := [d1, d2] }
  | _ => none }
def DiskPlaysWrongFalsely : Prop := diskPlaysRow.holds Try.pinned (OpenSpec.ofChange diskPlaysWrong)

/-- 'straightedgelaw29.DiskEnds': WHATEVER THE INPUT: true; the input reads as it did. -/
def diskEndsSpec : ChangeSpec := { name := "diskEnds", fn := fun _ => fun
  | [d1, d2, d3] => { results := [.lit (.bool true)], args := [d1, d2, d3] }
  | _ => none }
def diskEndsRow : OpenClaim := { program := "ytpoolpppmgacnaa", sum := "e0c8e290f8d66c3629c7a30cd7fff91108ea04fdcc192e2d77ed60787aa5012f", func := "straightedge/straightedgelaw29.DiskEnds", spec := "diskEnds", apart := false }
def DiskEndsSaid : Prop := diskEndsRow.holds Try.pinned (OpenSpec.ofChange diskEndsSpec)

/-- ITS FALSE NEIGHBOUR: 'it returns false'. Refute it at one input. -/
def diskEndsWrong : ChangeSpec := { name := "diskEnds", fn := fun _ => fun
  | [d1, d2, d3] => { results := [.lit (.bool false)], args := [d1, d2, d3] }
  | _ => none }
def DiskEndsWrongFalsely : Prop := diskEndsRow.holds Try.pinned (OpenSpec.ofChange diskEndsWrong)

/-- 'straightedgelaw29.DiskNil': WHATEVER THE INPUT: true; the input reads as it did. -/
def diskNilSpec : ChangeSpec := { name := "diskNil", fn := fun _ => fun
  | [d] => { results := [.lit (.bool true)], args := [d] }
  | _ => none }
def diskNilRow : OpenClaim := { program := "ytpoolpppmgacnaa", sum := "e0c8e290f8d66c3629c7a30cd7fff91108ea04fdcc192e2d77ed60787aa5012f", func := "straightedge/straightedgelaw29.DiskNil", spec := "diskNil", apart := false }
def DiskNilSaid : Prop := diskNilRow.holds Try.pinned (OpenSpec.ofChange diskNilSpec)

/-- ITS FALSE NEIGHBOUR: 'it returns false'. Refute it at one input. -/
def diskNilWrong : ChangeSpec := { name := "diskNil", fn := fun _ => fun
  | [d] => { results := [.lit (.bool false)], args := [d] }
  | _ => none }
def DiskNilWrongFalsely : Prop := diskNilRow.holds Try.pinned (OpenSpec.ofChange diskNilWrong)

/-- 'straightedgelaw29.DiskFuses': WHATEVER THE INPUT: true; the input reads as it did. -/
def diskFusesSpec : ChangeSpec := { name := "diskFuses", fn := fun _ => fun
  | [d1, d2] => { results := [.lit (.bool true)], args := [d1, d2] }
  | _ => none }
def diskFusesRow : OpenClaim := { program := "ytpoolpppmgacnaa", sum := "e0c8e290f8d66c3629c7a30cd7fff91108ea04fdcc192e2d77ed60787aa5012f", func := "straightedge/straightedgelaw29.DiskFuses", spec := "diskFuses", apart := false }
def DiskFusesSaid : Prop := diskFusesRow.holds Try.pinned (OpenSpec.ofChange diskFusesSpec)

/-- ITS FALSE NEIGHBOUR: 'it returns false'. Refute it at one input. -/
def diskFusesWrong : ChangeSpec := { name := "diskFuses", fn := fun _ => fun
  | [d1, d2] => { results := [.lit (.bool false)], args := [d1, d2] }
  | _ => none }
def DiskFusesWrongFalsely : Prop := diskFusesRow.holds Try.pinned (OpenSpec.ofChange diskFusesWrong)

/-- 'straightedgelaw30.JournalMatchesChecksum': WHATEVER THE INPUT: true; the input reads as it did. -/
def journalMatchesChecksumSpec : ChangeSpec := { name := "journalMatchesChecksum", fn := fun _ => fun
  | [d] => { results := [.lit (.bool true)], args := [d] }
  | _ => none }
def journalMatchesChecksumRow : OpenClaim := { program := "ytpoolpppmgacnaa", sum := "e0c8e290f8d66c3629c7a30cd7fff91108ea04fdcc192e2d77ed60787aa5012f", func := "straightedge/straightedgelaw30.JournalMatchesChecksum", spec := "journalMatchesChecksum", unfollowed := true, recurses := true, apart := false }
def JournalMatchesChecksumSaid : Prop := journalMatchesChecksumRow.holds Try.pinned (OpenSpec.ofChange journalMatchesChecksumSpec)

/-- ITS FALSE NEIGHBOUR: 'it returns false'. Refute it at one input. -/
def journalMatchesChecksumWrong : ChangeSpec := { name := "journalMatchesChecksum", fn := fun _ => fun
  | [d] => { results := [.lit (.bool false)], args := [d] }
  | _ => none }
def JournalMatchesChecksumWrongFalsely : Prop := journalMatchesChecksumRow.holds Try.pinned (OpenSpec.ofChange journalMatchesChecksumWrong)

/-- 'straightedgelaw30.JournalContinues': WHATEVER THE INPUT: true; the input reads as it did. -/
def journalContinuesSpec : ChangeSpec := { name := "journalContinues", fn := fun _ => fun
  | [d1, d2] => { results := [.lit (.bool true)], args := [d1, d2] }
  | _ => none }
def journalContinuesRow : OpenClaim := { program := "ytpoolpppmgacnaa", sum := "e0c8e290f8d66c3629c7a30cd7fff91108ea04fdcc192e2d77ed60787aa5012f", func := "straightedge/straightedgelaw30.JournalContinues", spec := "journalContinues", unfollowed := true, recurses := true, apart := false }
def JournalContinuesSaid : Prop := journalContinuesRow.holds Try.pinned (OpenSpec.ofChange journalContinuesSpec)

/-- ITS FALSE NEIGHBOUR: 'it returns false'. Refute it at one input. -/
def journalContinuesWrong : ChangeSpec := { name := "journalContinues", fn := fun _ => fun
  | [d1, d2] => { results := [.lit (.bool false)], args := [d1, d2] }
  | _ => none }
def JournalContinuesWrongFalsely : Prop := journalContinuesRow.holds Try.pinned (OpenSpec.ofChange journalContinuesWrong)

/-- 'straightedgelaw30.JournalRoom': WHATEVER THE INPUT: true; the input reads as it did. -/
def journalRoomSpec : ChangeSpec := { name := "journalRoom", fn := fun _ => fun
  | [d1, d2, d3] => { results := [.lit (.bool true)], args := [d1, d2, d3] }
  | _ => none }
def journalRoomRow : OpenClaim := { program := "ytpoolpppmgacnaa", sum := "e0c8e290f8d66c3629c7a30cd7fff91108ea04fdcc192e2d77ed60787aa5012f", func := "straightedge/straightedgelaw30.JournalRoom", spec := "journalRoom", unfollowed := true, recurses := true, apart := false }
def JournalRoomSaid : Prop := journalRoomRow.holds Try.pinned (OpenSpec.ofChange journalRoomSpec)

/-- ITS FALSE NEIGHBOUR: 'it returns false'. Refute it at one input. -/
def journalRoomWrong : ChangeSpec := { name := "journalRoom", fn := fun _ => fun
  | [d1, d2, d3] => { results := [.lit (.bool false)], args := [d1, d2, d3] }
  | _ => none }
def JournalRoomWrongFalsely : Prop := journalRoomRow.holds Try.pinned (OpenSpec.ofChange journalRoomWrong)

/-- 'straightedgelaw30.JournalOwns': WHATEVER THE INPUT: true; the input reads as it did. -/
def journalOwnsSpec : ChangeSpec := { name := "journalOwns", fn := fun _ => fun
  | [d] => { results := [.lit (.bool true)], args := [d] }
  | _ => none }
def journalOwnsRow : OpenClaim := { program := "ytpoolpppmgacnaa", sum := "e0c8e290f8d66c3629c7a30cd7fff91108ea04fdcc192e2d77ed60787aa5012f", func := "straightedge/straightedgelaw30.JournalOwns", spec := "journalOwns", unfollowed := true, recurses := true, apart := false }
def JournalOwnsSaid : Prop := journalOwnsRow.holds Try.pinned (OpenSpec.ofChange journalOwnsSpec)

/-- ITS FALSE NEIGHBOUR: 'it returns false'. Refute it at one input. -/
def journalOwnsWrong : ChangeSpec := { name := "journalOwns", fn := fun _ => fun
  | [d] => { results := [.lit (.bool false)], args := [d] }
  | _ => none }
def JournalOwnsWrongFalsely : Prop := journalOwnsRow.holds Try.pinned (OpenSpec.ofChange journalOwnsWrong)

/-- 'straightedgelaw30.JournalRots': WHATEVER THE INPUT: true; the input reads as it did. -/
def journalRotsSpec : ChangeSpec := { name := "journalRots", fn := fun _ => fun
  | [d1, d2, d3] => { results := [.lit (.bool true)], args := [d1, d2, d3] }
  | _ => none }
def journalRotsRow : OpenClaim := { program := "ytpoolpppmgacnaa", sum := "e0c8e290f8d66c3629c7a30cd7fff91108ea04fdcc192e2d77ed60787aa5012f", func := "straightedge/straightedgelaw30.JournalRots", spec := "journalRots", unfollowed := true, recurses := true, apart := false }
def JournalRotsSaid : Prop := journalRotsRow.holds Try.pinned (OpenSpec.ofChange journalRotsSpec)

/-- ITS FALSE NEIGHBOUR: 'it returns false'. Refute it at one input. -/
def journalRotsWrong : ChangeSpec := { name := "journalRots", fn := fun _ => fun
  | [d1, d2, d3] => { results := [.lit (.bool false)], args := [d1, d2, d3] }
  | _ => none }
def JournalRotsWrongFalsely : Prop := journalRotsRow.holds Try.pinned (OpenSpec.ofChange journalRotsWrong)

/-- 'straightedgelaw30.JournalSurvives': WHATEVER THE INPUT: true; the input reads as it did. -/
def journalSurvivesSpec : ChangeSpec := { name := "journalSurvives", fn := fun _ => fun
  | [d1, d2] => { results := [.lit (.bool true)], args := [d1, d2] }
  | _ => none }
def journalSurvivesRow : OpenClaim := { program := "ytpoolpppmgacnaa", sum := "e0c8e290f8d66c3629c7a30cd7fff91108ea04fdcc192e2d77ed60787aa5012f", func := "straightedge/straightedgelaw30.JournalSurvives", spec := "journalSurvives", unfollowed := true, recurses := true, apart := false }
def JournalSurvivesSaid : Prop := journalSurvivesRow.holds Try.pinned (OpenSpec.ofChange journalSurvivesSpec)

/-- ITS FALSE NEIGHBOUR: 'it returns false'. Refute it at one input. -/
def journalSurvivesWrong : ChangeSpec := { name := "journalSurvives", fn := fun _ => fun
  | [d1, d2] => { results := [.lit (.bool false)], args := [d1, d2] }
  | _ => none }
def JournalSurvivesWrongFalsely : Prop := journalSurvivesRow.holds Try.pinned (OpenSpec.ofChange journalSurvivesWrong)

/-- 'straightedgelaw30.JournalMatches': WHATEVER THE INPUT: true; the input reads as it did. -/
def journalMatchesSpec : ChangeSpec := { name := "journalMatches", fn := fun _ => fun
  | [d1, d2] => { results := [.lit (.bool true)], args := [d1, d2] }
  | _ => none }
def journalMatchesRow : OpenClaim := { program := "ytpoolpppmgacnaa", sum := "e0c8e290f8d66c3629c7a30cd7fff91108ea04fdcc192e2d77ed60787aa5012f", func := "straightedge/straightedgelaw30.JournalMatches", spec := "journalMatches", unfollowed := true, recurses := true, apart := false }
def JournalMatchesSaid : Prop := journalMatchesRow.holds Try.pinned (OpenSpec.ofChange journalMatchesSpec)

/-- ITS FALSE NEIGHBOUR: 'it returns false'. Refute it at one input. -/
def journalMatchesWrong : ChangeSpec := { name := "journalMatches", fn := fun _ => fun
  | [d1, d2] => { results := [.lit (.bool false)], args := [d1, d2] }
  | _ => none }
def JournalMatchesWrongFalsely : Prop := journalMatchesRow.holds Try.pinned (OpenSpec.ofChange journalMatchesWrong)

/- THE SECOND FORM. 'bulk': how many values and letters a reading holds, each counted each time it is reached (what is shared counts as often as it is met; a slice's spare places count too). A statement '..UptoSaid' is the law's where the arguments, and the package variables that the reading takes, are together of bulk at most 1048576: NARROWER than '..Said'. Prove '..Said' where nothing that the law and all that it calls make is longer than what came in: it says more and counts as full. Else prove '..UptoSaid'. A law counts once. -/
mutual
def uptoBulk {H : Type} : DataW H → Nat
  | .lit (.string bytes) => bytes.length + 1
  | .lit _ => 1
  | .nil => 1
  | .ptr d => uptoBulk d + 1
  | .slice elems spare => uptoBulkAll elems + uptoBulkAll spare + 1
  | .agg parts => uptoBulkAll parts + 1
  | .iface _ d => uptoBulk d + 1
  | .map entries => uptoBulkEntries entries + 1
  | .held _ => 1
def uptoBulkAll {H : Type} : List (DataW H) → Nat
  | [] => 0
  | d :: r => uptoBulk d + uptoBulkAll r
def uptoBulkEntries {H : Type} : List (Lit × DataW H) → Nat
  | [] => 0
  | x :: r => uptoBulkEntry x + uptoBulkEntries r
def uptoBulkEntry {H : Type} : Lit × DataW H → Nat
  | (.string bytes, d) => bytes.length + uptoBulk d + 1
  | (_, d) => uptoBulk d + 1
 end
def uptoSmall : (H : Type) → List (DataW H) → Bool := fun _ ds => decide (uptoBulkAll ds ≤ 1048576)
def OpenSpec.upto (s : _root_.Go.ChangeSpec) : _root_.Go.OpenSpec := { _root_.Go.OpenSpec.ofChange s with cond := some uptoSmall }

/-- 'straightedgelaw29.DiskApart', WHERE WHAT IT READS IS OF BULK AT MOST 1048576: true; the input reads as it did. -/
def diskApartUptoRow : OpenClaim := { program := "ytpoolpppmgacnaa", sum := "e0c8e290f8d66c3629c7a30cd7fff91108ea04fdcc192e2d77ed60787aa5012f", func := "straightedge/straightedgelaw29.DiskApart", spec := "diskApart", apart := false, narrowed := true }
def DiskApartUptoSaid : Prop := diskApartUptoRow.holds Try.pinned (OpenSpec.upto diskApartSpec)

/-- 'straightedgelaw29.DiskKeeps', WHERE WHAT IT READS IS OF BULK AT MOST 1048576: true; the input reads as it did. -/
def diskKeepsUptoRow : OpenClaim := { program := "ytpoolpppmgacnaa", sum := "e0c8e290f8d66c3629c7a30cd7fff91108ea04fdcc192e2d77ed60787aa5012f", func := "straightedge/straightedgelaw29.DiskKeeps", spec := "diskKeeps", apart := false, narrowed := true }
def DiskKeepsUptoSaid : Prop := diskKeepsUptoRow.holds Try.pinned (OpenSpec.upto diskKeepsSpec)

/-- 'straightedgelaw29.DiskTears', WHERE WHAT IT READS IS OF BULK AT MOST 1048576: true; the input reads as it did. -/
def diskTearsUptoRow : OpenClaim := { program := "ytpoolpppmgacnaa", sum := "e0c8e290f8d66c3629c7a30cd7fff91108ea04fdcc192e2d77ed60787aa5012f", func := "straightedge/straightedgelaw29.DiskTears", spec := "diskTears", apart := false, narrowed := true }
def DiskTearsUptoSaid : Prop := diskTearsUptoRow.holds Try.pinned (OpenSpec.upto diskTearsSpec)

/-- 'straightedgelaw29.DiskPlays', WHERE WHAT IT READS IS OF BULK AT MOST 1048576: true; the input reads as it did. -/
def diskPlaysUptoRow : OpenClaim := { program := "ytpoolpppmgacnaa", sum := "e0c8e290f8d66c3629c7a30cd7fff91108ea04fdcc192e2d77ed60787aa5012f", func := "straightedge/straightedgelaw29.DiskPlays", spec := "diskPlays", apart := false, narrowed := true }
def DiskPlaysUptoSaid : Prop := diskPlaysUptoRow.holds Try.pinned (OpenSpec.upto diskPlaysSpec)

/-- 'straightedgelaw29.DiskEnds', WHERE WHAT IT READS IS OF BULK AT MOST 1048576: true; the input reads as it did. -/
def diskEndsUptoRow : OpenClaim := { program := "ytpoolpppmgacnaa", sum := "e0c8e290f8d66c3629c7a30cd7fff91108ea04fdcc192e2d77ed60787aa5012f", func := "straightedge/straightedgelaw29.DiskEnds", spec := "diskEnds", apart := false, narrowed := true }
def DiskEndsUptoSaid : Prop := diskEndsUptoRow.holds Try.pinned (OpenSpec.upto diskEndsSpec)

/-- 'straightedgelaw29.DiskNil', WHERE WHAT IT READS IS OF BULK AT MOST 1048576: true; the input reads as it did. -/
def diskNilUptoRow : OpenClaim := { program := "ytpoolpppmgacnaa", sum := "e0c8e290f8d66c3629c7a30cd7fff91108ea04fdcc192e2d77ed60787aa5012f", func := "straightedge/straightedgelaw29.DiskNil", spec := "diskNil", apart := false, narrowed := true }
def DiskNilUptoSaid : Prop := diskNilUptoRow.holds Try.pinned (OpenSpec.upto diskNilSpec)

/-- 'straightedgelaw29.DiskFuses', WHERE WHAT IT READS IS OF BULK AT MOST 1048576: true; the input reads as it did. -/
def diskFusesUptoRow : OpenClaim := { program := "ytpoolpppmgacnaa", sum := "e0c8e290f8d66c3629c7a30cd7fff91108ea04fdcc192e2d77ed60787aa5012f", func := "straightedge/straightedgelaw29.DiskFuses", spec := "diskFuses", apart := false, narrowed := true }
def DiskFusesUptoSaid : Prop := diskFusesUptoRow.holds Try.pinned (OpenSpec.upto diskFusesSpec)

/-- 'straightedgelaw30.JournalMatchesChecksum', WHERE WHAT IT READS IS OF BULK AT MOST 1048576: true; the input reads as it did. -/
def journalMatchesChecksumUptoRow : OpenClaim := { program := "ytpoolpppmgacnaa", sum := "e0c8e290f8d66c3629c7a30cd7fff91108ea04fdcc192e2d77ed60787aa5012f", func := "straightedge/straightedgelaw30.JournalMatchesChecksum", spec := "journalMatchesChecksum", unfollowed := true, recurses := true, apart := false, narrowed := true }
def JournalMatchesChecksumUptoSaid : Prop := journalMatchesChecksumUptoRow.holds Try.pinned (OpenSpec.upto journalMatchesChecksumSpec)

/-- 'straightedgelaw30.JournalContinues', WHERE WHAT IT READS IS OF BULK AT MOST 1048576: true; the input reads as it did. -/
def journalContinuesUptoRow : OpenClaim := { program := "ytpoolpppmgacnaa", sum := "e0c8e290f8d66c3629c7a30cd7fff91108ea04fdcc192e2d77ed60787aa5012f", func := "straightedge/straightedgelaw30.JournalContinues", spec := "journalContinues", unfollowed := true, recurses := true, apart := false, narrowed := true }
def JournalContinuesUptoSaid : Prop := journalContinuesUptoRow.holds Try.pinned (OpenSpec.upto journalContinuesSpec)

/-- 'straightedgelaw30.JournalRoom', WHERE WHAT IT READS IS OF BULK AT MOST 1048576: true; the input reads as it did. -/
def journalRoomUptoRow : OpenClaim := { program := "ytpoolpppmgacnaa", sum := "e0c8e290f8d66c3629c7a30cd7fff91108ea04fdcc192e2d77ed60787aa5012f", func := "straightedge/straightedgelaw30.JournalRoom", spec := "journalRoom", unfollowed := true, recurses := true, apart := false, narrowed := true }
def JournalRoomUptoSaid : Prop := journalRoomUptoRow.holds Try.pinned (OpenSpec.upto journalRoomSpec)

/-- 'straightedgelaw30.JournalOwns', WHERE WHAT IT READS IS OF BULK AT MOST 1048576: true; the input reads as it did. -/
def journalOwnsUptoRow : OpenClaim := { program := "ytpoolpppmgacnaa", sum := "e0c8e290f8d66c3629c7a30cd7fff91108ea04fdcc192e2d77ed60787aa5012f", func := "straightedge/straightedgelaw30.JournalOwns", spec := "journalOwns", unfollowed := true, recurses := true, apart := false, narrowed := true }
def JournalOwnsUptoSaid : Prop := journalOwnsUptoRow.holds Try.pinned (OpenSpec.upto journalOwnsSpec)

/-- 'straightedgelaw30.JournalRots', WHERE WHAT IT READS IS OF BULK AT MOST 1048576: true; the input reads as it did. -/
def journalRotsUptoRow : OpenClaim := { program := "ytpoolpppmgacnaa", sum := "e0c8e290f8d66c3629c7a30cd7fff91108ea04fdcc192e2d77ed60787aa5012f", func := "straightedge/straightedgelaw30.JournalRots", spec := "journalRots", unfollowed := true, recurses := true, apart := false, narrowed := true }
def JournalRotsUptoSaid : Prop := journalRotsUptoRow.holds Try.pinned (OpenSpec.upto journalRotsSpec)

/-- 'straightedgelaw30.JournalSurvives', WHERE WHAT IT READS IS OF BULK AT MOST 1048576: true; the input reads as it did. -/
def journalSurvivesUptoRow : OpenClaim := { program := "ytpoolpppmgacnaa", sum := "e0c8e290f8d66c3629c7a30cd7fff91108ea04fdcc192e2d77ed60787aa5012f", func := "straightedge/straightedgelaw30.JournalSurvives", spec := "journalSurvives", unfollowed := true, recurses := true, apart := false, narrowed := true }
def JournalSurvivesUptoSaid : Prop := journalSurvivesUptoRow.holds Try.pinned (OpenSpec.upto journalSurvivesSpec)

/-- 'straightedgelaw30.JournalMatches', WHERE WHAT IT READS IS OF BULK AT MOST 1048576: true; the input reads as it did. -/
def journalMatchesUptoRow : OpenClaim := { program := "ytpoolpppmgacnaa", sum := "e0c8e290f8d66c3629c7a30cd7fff91108ea04fdcc192e2d77ed60787aa5012f", func := "straightedge/straightedgelaw30.JournalMatches", spec := "journalMatches", unfollowed := true, recurses := true, apart := false, narrowed := true }
def JournalMatchesUptoSaid : Prop := journalMatchesUptoRow.holds Try.pinned (OpenSpec.upto journalMatchesSpec)

end Rows
end Go.Proofs.Ytpoolpppmgacnaa
