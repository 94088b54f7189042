/-
  No cell of these rows narrows 'for every input' (looked for: loops, veiled, ifaces, maps, wideKeys, modest, calm, conditions, laid).
  DERIVED. THE GIVEN ROWS OF THIS SEAT. 12 by the template 'for every input the law returns true; each argument reads behind the call as it read before'; 0 by the template 'total and deterministic' (their statements: YtnabpemjcidhdaaTotals.lean).
  GIVEN WITH THE SEED: the statements are not yours to turn. If you find one false, say at which input.
  Laid BY PROGRAM, IN A SANDBOX (cutbox-rows.mjs): the forced cells as the released guide's own fill.sh prints them over the translation 23890f17cf27c11a… (all of the seat's roots in one cut). By AI agents, Wed Nov 11 2026. No macro, syntax, notation, axiom, sorry.
-/
import Derived.Test.YtnabpemjcidhdaaChecked
import GoSem.Claim
import GoSem.ClaimJoined
import GoSem.ClaimMapViews
import Derived.JoinedTies
import Derived.KernelRfl
namespace Go.Proofs.Ytnabpemjcidhdaa
/- THE CELL 'sum', in the pinned program and in every row, IS THE sha256 OF THE DUMP (.gsa) THAT YtnabpemjcidhdaaProg.lean LOADS. Nothing in Lean hashes anything: it is a label: what it is worth is what the hold of that sum in a sandbox is worth. -/
noncomputable def Try.pinned : Pinned := { name := "ytnabpemjcidhdaa", sum := "23890f17cf27c11a9cebbd8e13818669184ad015aed19aa72bbfed6e6a256f65", checked := Try.checked }
namespace Rows
def none {H : Type} : Left H := { results := [], args := [] }

/-- 'straightedgelaw02.RationalMatchesMake': WHATEVER THE INPUT: true; the input reads as it did. -/
def rationalMatchesMakeSpec : ChangeSpec := { name := "rationalMatchesMake", fn := fun _ => fun
  | [d1, d2, d3, d4] => { results := [.lit (.bool true)], args := [d1, d2, d3, d4] }
  | _ => none }
def rationalMatchesMakeRow : OpenClaim := { program := "ytnabpemjcidhdaa", sum := "23890f17cf27c11a9cebbd8e13818669184ad015aed19aa72bbfed6e6a256f65", func := "straightedge/straightedgelaw02.RationalMatchesMake", spec := "rationalMatchesMake", inPlace := ["internal/bytealg.IndexByteString", "internal/bytealg.IndexString"], unfollowed := true, recurses := true, named := ["internal/bytealg.MaxLen"], apart := false }
def RationalMatchesMakeSaid : Prop := rationalMatchesMakeRow.holds Try.pinned (OpenSpec.ofChange rationalMatchesMakeSpec)

/-- ITS FALSE NEIGHBOUR: 'it returns false'. Refute it at one input. -/
def rationalMatchesMakeWrong : ChangeSpec := { name := "rationalMatchesMake", fn := fun _ => fun
  | [d1, d2, d3, d4] => { results := [.lit (.bool false)], args := [d1, d2, d3, d4] }
  | _ => none }
def RationalMatchesMakeWrongFalsely : Prop := rationalMatchesMakeRow.holds Try.pinned (OpenSpec.ofChange rationalMatchesMakeWrong)

/-- 'straightedgelaw02.RationalMatchesSimplest': WHATEVER THE INPUT: true; the input reads as it did. -/
def rationalMatchesSimplestSpec : ChangeSpec := { name := "rationalMatchesSimplest", fn := fun _ => fun
  | [d1, d2] => { results := [.lit (.bool true)], args := [d1, d2] }
  | _ => none }
def rationalMatchesSimplestRow : OpenClaim := { program := "ytnabpemjcidhdaa", sum := "23890f17cf27c11a9cebbd8e13818669184ad015aed19aa72bbfed6e6a256f65", func := "straightedge/straightedgelaw02.RationalMatchesSimplest", spec := "rationalMatchesSimplest", inPlace := ["internal/bytealg.IndexByteString", "internal/bytealg.IndexString"], unfollowed := true, recurses := true, named := ["internal/bytealg.MaxLen"], apart := false }
def RationalMatchesSimplestSaid : Prop := rationalMatchesSimplestRow.holds Try.pinned (OpenSpec.ofChange rationalMatchesSimplestSpec)

/-- ITS FALSE NEIGHBOUR: 'it returns false'. Refute it at one input. -/
def rationalMatchesSimplestWrong : ChangeSpec := { name := "rationalMatchesSimplest", fn := fun _ => fun
  | [d1, d2] => { results := [.lit (.bool false)], args := [d1, d2] }
  | _ => none }
def RationalMatchesSimplestWrongFalsely : Prop := rationalMatchesSimplestRow.holds Try.pinned (OpenSpec.ofChange rationalMatchesSimplestWrong)

/-- 'straightedgelaw02.RationalMatchesText': WHATEVER THE INPUT: true; the input reads as it did. -/
def rationalMatchesTextSpec : ChangeSpec := { name := "rationalMatchesText", fn := fun _ => fun
  | [d1, d2] => { results := [.lit (.bool true)], args := [d1, d2] }
  | _ => none }
def rationalMatchesTextRow : OpenClaim := { program := "ytnabpemjcidhdaa", sum := "23890f17cf27c11a9cebbd8e13818669184ad015aed19aa72bbfed6e6a256f65", func := "straightedge/straightedgelaw02.RationalMatchesText", spec := "rationalMatchesText", inPlace := ["internal/bytealg.IndexByteString", "internal/bytealg.IndexString"], unfollowed := true, recurses := true, named := ["internal/bytealg.MaxLen"], apart := false }
def RationalMatchesTextSaid : Prop := rationalMatchesTextRow.holds Try.pinned (OpenSpec.ofChange rationalMatchesTextSpec)

/-- ITS FALSE NEIGHBOUR: 'it returns false'. Refute it at one input. -/
def rationalMatchesTextWrong : ChangeSpec := { name := "rationalMatchesText", fn := fun _ => fun
  | [d1, d2] => { results := [.lit (.bool false)], args := [d1, d2] }
  | _ => none }
def RationalMatchesTextWrongFalsely : Prop := rationalMatchesTextRow.holds Try.pinned (OpenSpec.ofChange rationalMatchesTextWrong)

/-- 'straightedgelaw02.RationalTextRoundTrip': WHATEVER THE INPUT: true; the input reads as it did. -/
def rationalTextRoundTripSpec : ChangeSpec := { name := "rationalTextRoundTrip", fn := fun _ => fun
  | [d1, d2] => { results := [.lit (.bool true)], args := [d1, d2] }
  | _ => none }
def rationalTextRoundTripRow : OpenClaim := { program := "ytnabpemjcidhdaa", sum := "23890f17cf27c11a9cebbd8e13818669184ad015aed19aa72bbfed6e6a256f65", func := "straightedge/straightedgelaw02.RationalTextRoundTrip", spec := "rationalTextRoundTrip", inPlace := ["internal/bytealg.IndexByteString", "internal/bytealg.IndexString"], unfollowed := true, recurses := true, named := ["internal/bytealg.MaxLen"], apart := false }
def RationalTextRoundTripSaid : Prop := rationalTextRoundTripRow.holds Try.pinned (OpenSpec.ofChange rationalTextRoundTripSpec)

/-- ITS FALSE NEIGHBOUR: 'it returns false'. Refute it at one input. -/
def rationalTextRoundTripWrong : ChangeSpec := { name := "rationalTextRoundTrip", fn := fun _ => fun
  | [d1, d2] => { results := [.lit (.bool false)], args := [d1, d2] }
  | _ => none }
def RationalTextRoundTripWrongFalsely : Prop := rationalTextRoundTripRow.holds Try.pinned (OpenSpec.ofChange rationalTextRoundTripWrong)

/-- 'straightedgelaw02.RationalMatchesOrder': WHATEVER THE INPUT: true; the input reads as it did. -/
def rationalMatchesOrderSpec : ChangeSpec := { name := "rationalMatchesOrder", fn := fun _ => fun
  | [d1, d2, d3] => { results := [.lit (.bool true)], args := [d1, d2, d3] }
  | _ => none }
def rationalMatchesOrderRow : OpenClaim := { program := "ytnabpemjcidhdaa", sum := "23890f17cf27c11a9cebbd8e13818669184ad015aed19aa72bbfed6e6a256f65", func := "straightedge/straightedgelaw02.RationalMatchesOrder", spec := "rationalMatchesOrder", inPlace := ["internal/bytealg.IndexByteString", "internal/bytealg.IndexString"], unfollowed := true, recurses := true, named := ["internal/bytealg.MaxLen"], apart := false }
def RationalMatchesOrderSaid : Prop := rationalMatchesOrderRow.holds Try.pinned (OpenSpec.ofChange rationalMatchesOrderSpec)

/-- ITS FALSE NEIGHBOUR: 'it returns false'. Refute it at one input. -/
def rationalMatchesOrderWrong : ChangeSpec := { name := "rationalMatchesOrder", fn := fun _ => fun
  | [d1, d2, d3] => { results := [.lit (.bool false)], args := [d1, d2, d3] }
  | _ => none }
def RationalMatchesOrderWrongFalsely : Prop := rationalMatchesOrderRow.holds Try.pinned (OpenSpec.ofChange rationalMatchesOrderWrong)

/-- 'straightedgelaw02.RationalField': WHATEVER THE INPUT: true; the input reads as it did. -/
def rationalFieldSpec : ChangeSpec := { name := "rationalField", fn := fun _ => fun
  | [d1, d2, d3] => { results := [.lit (.bool true)], args := [d1, d2, d3] }
  | _ => none }
def rationalFieldRow : OpenClaim := { program := "ytnabpemjcidhdaa", sum := "23890f17cf27c11a9cebbd8e13818669184ad015aed19aa72bbfed6e6a256f65", func := "straightedge/straightedgelaw02.RationalField", spec := "rationalField", inPlace := ["internal/bytealg.IndexByteString", "internal/bytealg.IndexString"], unfollowed := true, recurses := true, named := ["internal/bytealg.MaxLen"], apart := false }
def RationalFieldSaid : Prop := rationalFieldRow.holds Try.pinned (OpenSpec.ofChange rationalFieldSpec)

/-- ITS FALSE NEIGHBOUR: 'it returns false'. Refute it at one input. -/
def rationalFieldWrong : ChangeSpec := { name := "rationalField", fn := fun _ => fun
  | [d1, d2, d3] => { results := [.lit (.bool false)], args := [d1, d2, d3] }
  | _ => none }
def RationalFieldWrongFalsely : Prop := rationalFieldRow.holds Try.pinned (OpenSpec.ofChange rationalFieldWrong)

/-- 'straightedgelaw02.RationalFloors': WHATEVER THE INPUT: true; the input reads as it did. -/
def rationalFloorsSpec : ChangeSpec := { name := "rationalFloors", fn := fun _ => fun
  | [d1, d2] => { results := [.lit (.bool true)], args := [d1, d2] }
  | _ => none }
def rationalFloorsRow : OpenClaim := { program := "ytnabpemjcidhdaa", sum := "23890f17cf27c11a9cebbd8e13818669184ad015aed19aa72bbfed6e6a256f65", func := "straightedge/straightedgelaw02.RationalFloors", spec := "rationalFloors", inPlace := ["internal/bytealg.IndexByteString", "internal/bytealg.IndexString"], unfollowed := true, recurses := true, named := ["internal/bytealg.MaxLen"], apart := false }
def RationalFloorsSaid : Prop := rationalFloorsRow.holds Try.pinned (OpenSpec.ofChange rationalFloorsSpec)

/-- ITS FALSE NEIGHBOUR: 'it returns false'. Refute it at one input. -/
def rationalFloorsWrong : ChangeSpec := { name := "rationalFloors", fn := fun _ => fun
  | [d1, d2] => { results := [.lit (.bool false)], args := [d1, d2] }
  | _ => none }
def RationalFloorsWrongFalsely : Prop := rationalFloorsRow.holds Try.pinned (OpenSpec.ofChange rationalFloorsWrong)

/-- 'straightedgelaw02.RationalReverses': WHATEVER THE INPUT: true; the input reads as it did. -/
def rationalReversesSpec : ChangeSpec := { name := "rationalReverses", fn := fun _ => fun
  | [d1, d2] => { results := [.lit (.bool true)], args := [d1, d2] }
  | _ => none }
def rationalReversesRow : OpenClaim := { program := "ytnabpemjcidhdaa", sum := "23890f17cf27c11a9cebbd8e13818669184ad015aed19aa72bbfed6e6a256f65", func := "straightedge/straightedgelaw02.RationalReverses", spec := "rationalReverses", inPlace := ["internal/bytealg.IndexByteString", "internal/bytealg.IndexString"], unfollowed := true, recurses := true, named := ["internal/bytealg.MaxLen"], apart := false }
def RationalReversesSaid : Prop := rationalReversesRow.holds Try.pinned (OpenSpec.ofChange rationalReversesSpec)

/-- ITS FALSE NEIGHBOUR: 'it returns false'. Refute it at one input. -/
def rationalReversesWrong : ChangeSpec := { name := "rationalReverses", fn := fun _ => fun
  | [d1, d2] => { results := [.lit (.bool false)], args := [d1, d2] }
  | _ => none }
def RationalReversesWrongFalsely : Prop := rationalReversesRow.holds Try.pinned (OpenSpec.ofChange rationalReversesWrong)

/-- 'straightedgelaw02.RationalOrder': WHATEVER THE INPUT: true; the input reads as it did. -/
def rationalOrderSpec : ChangeSpec := { name := "rationalOrder", fn := fun _ => fun
  | [d1, d2, d3] => { results := [.lit (.bool true)], args := [d1, d2, d3] }
  | _ => none }
def rationalOrderRow : OpenClaim := { program := "ytnabpemjcidhdaa", sum := "23890f17cf27c11a9cebbd8e13818669184ad015aed19aa72bbfed6e6a256f65", func := "straightedge/straightedgelaw02.RationalOrder", spec := "rationalOrder", inPlace := ["internal/bytealg.IndexByteString", "internal/bytealg.IndexString"], unfollowed := true, recurses := true, named := ["internal/bytealg.MaxLen"], apart := false }
def RationalOrderSaid : Prop := rationalOrderRow.holds Try.pinned (OpenSpec.ofChange rationalOrderSpec)

/-- ITS FALSE NEIGHBOUR: 'it returns false'. Refute it at one input. -/
def rationalOrderWrong : ChangeSpec := { name := "rationalOrder", fn := fun _ => fun
  | [d1, d2, d3] => { results := [.lit (.bool false)], args := [d1, d2, d3] }
  | _ => none }
def RationalOrderWrongFalsely : Prop := rationalOrderRow.holds Try.pinned (OpenSpec.ofChange rationalOrderWrong)

/-- 'straightedgelaw02.RationalSquares': WHATEVER THE INPUT: true; the input reads as it did. -/
def rationalSquaresSpec : ChangeSpec := { name := "rationalSquares", fn := fun _ => fun
  | [d] => { results := [.lit (.bool true)], args := [d] }
  | _ => none }
def rationalSquaresRow : OpenClaim := { program := "ytnabpemjcidhdaa", sum := "23890f17cf27c11a9cebbd8e13818669184ad015aed19aa72bbfed6e6a256f65", func := "straightedge/straightedgelaw02.RationalSquares", spec := "rationalSquares", inPlace := ["internal/bytealg.IndexByteString", "internal/bytealg.IndexString"], unfollowed := true, recurses := true, named := ["internal/bytealg.MaxLen"], apart := false }
def RationalSquaresSaid : Prop := rationalSquaresRow.holds Try.pinned (OpenSpec.ofChange rationalSquaresSpec)

/-- ITS FALSE NEIGHBOUR: 'it returns false'. Refute it at one input. -/
def rationalSquaresWrong : ChangeSpec := { name := "rationalSquares", fn := fun _ => fun
  | [d] => { results := [.lit (.bool false)], args := [d] }
  | _ => none }
def RationalSquaresWrongFalsely : Prop := rationalSquaresRow.holds Try.pinned (OpenSpec.ofChange rationalSquaresWrong)

/-- 'straightedgelaw02.RationalSimplestTurns': WHATEVER THE INPUT: true; the input reads as it did. -/
def rationalSimplestTurnsSpec : ChangeSpec := { name := "rationalSimplestTurns", fn := fun _ => fun
  | [d1, d2] => { results := [.lit (.bool true)], args := [d1, d2] }
  | _ => none }
def rationalSimplestTurnsRow : OpenClaim := { program := "ytnabpemjcidhdaa", sum := "23890f17cf27c11a9cebbd8e13818669184ad015aed19aa72bbfed6e6a256f65", func := "straightedge/straightedgelaw02.RationalSimplestTurns", spec := "rationalSimplestTurns", inPlace := ["internal/bytealg.IndexByteString", "internal/bytealg.IndexString"], unfollowed := true, recurses := true, named := ["internal/bytealg.MaxLen"], apart := false }
def RationalSimplestTurnsSaid : Prop := rationalSimplestTurnsRow.holds Try.pinned (OpenSpec.ofChange rationalSimplestTurnsSpec)

/-- ITS FALSE NEIGHBOUR: 'it returns false'. Refute it at one input. -/
def rationalSimplestTurnsWrong : ChangeSpec := { name := "rationalSimplestTurns", fn := fun _ => fun
  | [d1, d2] => { results := [.lit (.bool false)], args := [d1, d2] }
  | _ => none }
def RationalSimplestTurnsWrongFalsely : Prop := rationalSimplestTurnsRow.holds Try.pinned (OpenSpec.ofChange rationalSimplestTurnsWrong)

/-- 'straightedgelaw02.RationalSimplestLeast': WHATEVER THE INPUT: true; the input reads as it did. -/
def rationalSimplestLeastSpec : ChangeSpec := { name := "rationalSimplestLeast", fn := fun _ => fun
  | [d1, d2, d3, d4] => { results := [.lit (.bool true)], args := [d1, d2, d3, d4] }
  | _ => none }
def rationalSimplestLeastRow : OpenClaim := { program := "ytnabpemjcidhdaa", sum := "23890f17cf27c11a9cebbd8e13818669184ad015aed19aa72bbfed6e6a256f65", func := "straightedge/straightedgelaw02.RationalSimplestLeast", spec := "rationalSimplestLeast", inPlace := ["internal/bytealg.IndexByteString", "internal/bytealg.IndexString"], unfollowed := true, recurses := true, named := ["internal/bytealg.MaxLen"], apart := false }
def RationalSimplestLeastSaid : Prop := rationalSimplestLeastRow.holds Try.pinned (OpenSpec.ofChange rationalSimplestLeastSpec)

/-- ITS FALSE NEIGHBOUR: 'it returns false'. Refute it at one input. -/
def rationalSimplestLeastWrong : ChangeSpec := { name := "rationalSimplestLeast", fn := fun _ => fun
  | [d1, d2, d3, d4] => { results := [.lit (.bool false)], args := [d1, d2, d3, d4] }
  | _ => none }
def RationalSimplestLeastWrongFalsely : Prop := rationalSimplestLeastRow.holds Try.pinned (OpenSpec.ofChange rationalSimplestLeastWrong)

/- THE SECOND FORM. 'bulk': how many values and letters a reading holds, each counted each time it is reached (what is shared counts as often as it is met; a slice's spare places count too). A statement '..UptoSaid' is the law's where the arguments, and the package variables that the reading takes, are together of bulk at most 1048576: NARROWER than '..Said'. Prove '..Said' where nothing that the law and all that it calls make is longer than what came in: it says more and counts as full. Else prove '..UptoSaid'. A law counts once. -/
mutual
def uptoBulk {H : Type} : DataW H → Nat
  | .lit (.string bytes) => bytes.length + 1
  | .lit _ => 1
  | .nil => 1
  | .ptr d => uptoBulk d + 1
  | .slice elems spare => uptoBulkAll elems + uptoBulkAll spare + 1
  | .agg parts => uptoBulkAll parts + 1
  | .iface _ d => uptoBulk d + 1
  | .map entries => uptoBulkEntries entries + 1
  | .held _ => 1
def uptoBulkAll {H : Type} : List (DataW H) → Nat
  | [] => 0
  | d :: r => uptoBulk d + uptoBulkAll r
def uptoBulkEntries {H : Type} : List (Lit × DataW H) → Nat
  | [] => 0
  | x :: r => uptoBulkEntry x + uptoBulkEntries r
def uptoBulkEntry {H : Type} : Lit × DataW H → Nat
  | (.string bytes, d) => bytes.length + uptoBulk d + 1
  | (_, d) => uptoBulk d + 1
 end
def uptoSmall : (H : Type) → List (DataW H) → Bool := fun _ ds => decide (uptoBulkAll ds ≤ 1048576)
def OpenSpec.upto (s : _root_.Go.ChangeSpec) : _root_.Go.OpenSpec := { _root_.Go.OpenSpec.ofChange s with cond := some uptoSmall }

/-- 'straightedgelaw02.RationalMatchesMake', WHERE WHAT IT READS IS OF BULK AT MOST 1048576: true; the input reads as it did. -/
def rationalMatchesMakeUptoRow : OpenClaim := { program := "ytnabpemjcidhdaa", sum := "23890f17cf27c11a9cebbd8e13818669184ad015aed19aa72bbfed6e6a256f65", func := "straightedge/straightedgelaw02.RationalMatchesMake", spec := "rationalMatchesMake", inPlace := ["internal/bytealg.IndexByteString", "internal/bytealg.IndexString"], unfollowed := true, recurses := true, named := ["internal/bytealg.MaxLen"], apart := false, narrowed := true }
def RationalMatchesMakeUptoSaid : Prop := rationalMatchesMakeUptoRow.holds Try.pinned (OpenSpec.upto rationalMatchesMakeSpec)

/-- 'straightedgelaw02.RationalMatchesSimplest', WHERE WHAT IT READS IS OF BULK AT MOST 1048576: true; the input reads as it did. -/
def rationalMatchesSimplestUptoRow : OpenClaim := { program := "ytnabpemjcidhdaa", sum := "23890f17cf27c11a9cebbd8e13818669184ad015aed19aa72bbfed6e6a256f65", func := "straightedge/straightedgelaw02.RationalMatchesSimplest", spec := "rationalMatchesSimplest", inPlace := ["internal/bytealg.IndexByteString", "internal/bytealg.IndexString"], unfollowed := true, recurses := true, named := ["internal/bytealg.MaxLen"], apart := false, narrowed := true }
def RationalMatchesSimplestUptoSaid : Prop := rationalMatchesSimplestUptoRow.holds Try.pinned (OpenSpec.upto rationalMatchesSimplestSpec)

/-- 'straightedgelaw02.RationalMatchesText', WHERE WHAT IT READS IS OF BULK AT MOST 1048576: true; the input reads as it did. -/
def rationalMatchesTextUptoRow : OpenClaim := { program := "ytnabpemjcidhdaa", sum := "23890f17cf27c11a9cebbd8e13818669184ad015aed19aa72bbfed6e6a256f65", func := "straightedge/straightedgelaw02.RationalMatchesText", spec := "rationalMatchesText", inPlace := ["internal/bytealg.IndexByteString", "internal/bytealg.IndexString"], unfollowed := true, recurses := true, named := ["internal/bytealg.MaxLen"], apart := false, narrowed := true }
def RationalMatchesTextUptoSaid : Prop := rationalMatchesTextUptoRow.holds Try.pinned (OpenSpec.upto rationalMatchesTextSpec)

/-- 'straightedgelaw02.RationalTextRoundTrip', WHERE WHAT IT READS IS OF BULK AT MOST 1048576: true; the input reads as it did. -/
def rationalTextRoundTripUptoRow : OpenClaim := { program := "ytnabpemjcidhdaa", sum := "23890f17cf27c11a9cebbd8e13818669184ad015aed19aa72bbfed6e6a256f65", func := "straightedge/straightedgelaw02.RationalTextRoundTrip", spec := "rationalTextRoundTrip", inPlace := ["internal/bytealg.IndexByteString", "internal/bytealg.IndexString"], unfollowed := true, recurses := true, named := ["internal/bytealg.MaxLen"], apart := false, narrowed := true }
def RationalTextRoundTripUptoSaid : Prop := rationalTextRoundTripUptoRow.holds Try.pinned (OpenSpec.upto rationalTextRoundTripSpec)

/-- 'straightedgelaw02.RationalMatchesOrder', WHERE WHAT IT READS IS OF BULK AT MOST 1048576: true; the input reads as it did. -/
def rationalMatchesOrderUptoRow : OpenClaim := { program := "ytnabpemjcidhdaa", sum := "23890f17cf27c11a9cebbd8e13818669184ad015aed19aa72bbfed6e6a256f65", func := "straightedge/straightedgelaw02.RationalMatchesOrder", spec := "rationalMatchesOrder", inPlace := ["internal/bytealg.IndexByteString", "internal/bytealg.IndexString"], unfollowed := true, recurses := true, named := ["internal/bytealg.MaxLen"], apart := false, narrowed := true }
def RationalMatchesOrderUptoSaid : Prop := rationalMatchesOrderUptoRow.holds Try.pinned (OpenSpec.upto rationalMatchesOrderSpec)

/-- 'straightedgelaw02.RationalField', WHERE WHAT IT READS IS OF BULK AT MOST 1048576: true; the input reads as it did. -/
def rationalFieldUptoRow : OpenClaim := { program := "ytnabpemjcidhdaa", sum := "23890f17cf27c11a9cebbd8e13818669184ad015aed19aa72bbfed6e6a256f65", func := "straightedge/straightedgelaw02.RationalField", spec := "rationalField", inPlace := ["internal/bytealg.IndexByteString", "internal/bytealg.IndexString"], unfollowed := true, recurses := true, named := ["internal/bytealg.MaxLen"], apart := false, narrowed := true }
def RationalFieldUptoSaid : Prop := rationalFieldUptoRow.holds Try.pinned (OpenSpec.upto rationalFieldSpec)

/-- 'straightedgelaw02.RationalFloors', WHERE WHAT IT READS IS OF BULK AT MOST 1048576: true; the input reads as it did. -/
def rationalFloorsUptoRow : OpenClaim := { program := "ytnabpemjcidhdaa", sum := "23890f17cf27c11a9cebbd8e13818669184ad015aed19aa72bbfed6e6a256f65", func := "straightedge/straightedgelaw02.RationalFloors", spec := "rationalFloors", inPlace := ["internal/bytealg.IndexByteString", "internal/bytealg.IndexString"], unfollowed := true, recurses := true, named := ["internal/bytealg.MaxLen"], apart := false, narrowed := true }
def RationalFloorsUptoSaid : Prop := rationalFloorsUptoRow.holds Try.pinned (OpenSpec.upto rationalFloorsSpec)

/-- 'straightedgelaw02.RationalReverses', WHERE WHAT IT READS IS OF BULK AT MOST 1048576: true; the input reads as it did. -/
def rationalReversesUptoRow : OpenClaim := { program := "ytnabpemjcidhdaa", sum := "23890f17cf27c11a9cebbd8e13818669184ad015aed19aa72bbfed6e6a256f65", func := "straightedge/straightedgelaw02.RationalReverses", spec := "rationalReverses", inPlace := ["internal/bytealg.IndexByteString", "internal/bytealg.IndexString"], unfollowed := true, recurses := true, named := ["internal/bytealg.MaxLen"], apart := false, narrowed := true }
def RationalReversesUptoSaid : Prop := rationalReversesUptoRow.holds Try.pinned (OpenSpec.upto rationalReversesSpec)

/-- 'straightedgelaw02.RationalOrder', WHERE WHAT IT READS IS OF BULK AT MOST 1048576: true; the input reads as it did. -/
def rationalOrderUptoRow : OpenClaim := { program := "ytnabpemjcidhdaa", sum := "23890f17cf27c11a9cebbd8e13818669184ad015aed19aa72bbfed6e6a256f65", func := "straightedge/straightedgelaw02.RationalOrder", spec := "rationalOrder", inPlace := ["internal/bytealg.IndexByteString", "internal/bytealg.IndexString"], unfollowed := true, recurses := true, named := ["internal/bytealg.MaxLen"], apart := false, narrowed := true }
def RationalOrderUptoSaid : Prop := rationalOrderUptoRow.holds Try.pinned (OpenSpec.upto rationalOrderSpec)

/-- 'straightedgelaw02.RationalSquares', WHERE WHAT IT READS IS OF BULK AT MOST 1048576: true; the input reads as it did. -/
def rationalSquaresUptoRow : OpenClaim := { program := "ytnabpemjcidhdaa", sum := "23890f17cf27c11a9cebbd8e13818669184ad015aed19aa72bbfed6e6a256f65", func := "straightedge/straightedgelaw02.RationalSquares", spec := "rationalSquares", inPlace := ["internal/bytealg.IndexByteString", "internal/bytealg.IndexString"], unfollowed := true, recurses := true, named := ["internal/bytealg.MaxLen"], apart := false, narrowed := true }
def RationalSquaresUptoSaid : Prop := rationalSquaresUptoRow.holds Try.pinned (OpenSpec.upto rationalSquaresSpec)

/-- 'straightedgelaw02.RationalSimplestTurns', WHERE WHAT IT READS IS OF BULK AT MOST 1048576: true; the input reads as it did. -/
def rationalSimplestTurnsUptoRow : OpenClaim := { program := "ytnabpemjcidhdaa", sum := "23890f17cf27c11a9cebbd8e13818669184ad015aed19aa72bbfed6e6a256f65", func := "straightedge/straightedgelaw02.RationalSimplestTurns", spec := "rationalSimplestTurns", inPlace := ["internal/bytealg.IndexByteString", "internal/bytealg.IndexString"], unfollowed := true, recurses := true, named := ["internal/bytealg.MaxLen"], apart := false, narrowed := true }
def RationalSimplestTurnsUptoSaid : Prop := rationalSimplestTurnsUptoRow.holds Try.pinned (OpenSpec.upto rationalSimplestTurnsSpec)

/-- 'straightedgelaw02.RationalSimplestLeast', WHERE WHAT IT READS IS OF BULK AT MOST 1048576: true; the input reads as it did. -/
def rationalSimplestLeastUptoRow : OpenClaim := { program := "ytnabpemjcidhdaa", sum := "23890f17cf27c11a9cebbd8e13818669184ad015aed19aa72bbfed6e6a256f65", func := "straightedge/straightedgelaw02.RationalSimplestLeast", spec := "rationalSimplestLeast", inPlace := ["internal/bytealg.IndexByteString", "internal/bytealg.IndexString"], unfollowed := true, recurses := true, named := ["internal/bytealg.MaxLen"], apart := false, narrowed := true }
def RationalSimplestLeastUptoSaid : Prop := rationalSimplestLeastUptoRow.holds Try.pinned (OpenSpec.upto rationalSimplestLeastSpec)

end Rows
end Go.Proofs.Ytnabpemjcidhdaa
