/-
  No cell of these rows narrows 'for every input' (looked for: loops, veiled, ifaces, maps, wideKeys, modest, calm, conditions, laid).
  DERIVED. THE GIVEN ROWS OF THIS SEAT. 15 by the template 'for every input the law returns true; each argument reads behind the call as it read before'; 0 by the template 'total and deterministic' (their statements: YtipajnobkladeaaTotals.lean).
  GIVEN WITH THE SEED: the statements are not yours to turn. If you find one false, say at which input.
  Laid BY PROGRAM, IN A SANDBOX (cutbox-rows.mjs): the forced cells as the released guide's own fill.sh prints them over the translation 0e0bc3312d7ce110… (all of the seat's roots in one cut). By AI agents, Wed Nov 11 2026. No macro, syntax, notation, axiom, sorry.
-/
import Derived.Test.YtipajnobkladeaaChecked
import GoSem.Claim
import GoSem.ClaimJoined
import GoSem.ClaimMapViews
import Derived.JoinedTies
import Derived.KernelRfl
namespace Go.Proofs.Ytipajnobkladeaa
/- THE CELL 'sum', in the pinned program and in every row, IS THE sha256 OF THE DUMP (.gsa) THAT YtipajnobkladeaaProg.lean LOADS. Nothing in Lean hashes anything: it is a label: what it is worth is what the hold of that sum in a sandbox is worth. -/
noncomputable def Try.pinned : Pinned := { name := "ytipajnobkladeaa", sum := "0e0bc3312d7ce11069049766cdd6e0aa2ab768ae1282e6fdb3fa58011c6a920b", checked := Try.checked }
namespace Rows
def none {H : Type} : Left H := { results := [], args := [] }

/-- 'straightedgelaw01.IntegerQuotients': WHATEVER THE INPUT: true; the input reads as it did. -/
def integerQuotientsSpec : ChangeSpec := { name := "integerQuotients", fn := fun _ => fun
  | [d1, d2] => { results := [.lit (.bool true)], args := [d1, d2] }
  | _ => none }
def integerQuotientsRow : OpenClaim := { program := "ytipajnobkladeaa", sum := "0e0bc3312d7ce11069049766cdd6e0aa2ab768ae1282e6fdb3fa58011c6a920b", func := "straightedge/straightedgelaw01.IntegerQuotients", spec := "integerQuotients", apart := false }
def IntegerQuotientsSaid : Prop := integerQuotientsRow.holds Try.pinned (OpenSpec.ofChange integerQuotientsSpec)

/-- ITS FALSE NEIGHBOUR: 'it returns false'. Refute it at one input. -/
def integerQuotientsWrong : ChangeSpec := { name := "integerQuotients", fn := fun _ => fun
  | [d1, d2] => { results := [.lit (.bool false)], args := [d1, d2] }
  | _ => none }
def IntegerQuotientsWrongFalsely : Prop := integerQuotientsRow.holds Try.pinned (OpenSpec.ofChange integerQuotientsWrong)

/-- 'straightedgelaw01.IntegerTexts': WHATEVER THE INPUT: true; the input reads as it did. -/
def integerTextsSpec : ChangeSpec := { name := "integerTexts", fn := fun _ => fun
  | [d1, d2] => { results := [.lit (.bool true)], args := [d1, d2] }
  | _ => none }
def integerTextsRow : OpenClaim := { program := "ytipajnobkladeaa", sum := "0e0bc3312d7ce11069049766cdd6e0aa2ab768ae1282e6fdb3fa58011c6a920b", func := "straightedge/straightedgelaw01.IntegerTexts", spec := "integerTexts", apart := false }
def IntegerTextsSaid : Prop := integerTextsRow.holds Try.pinned (OpenSpec.ofChange integerTextsSpec)

/-- ITS FALSE NEIGHBOUR: 'it returns false'. Refute it at one input. -/
def integerTextsWrong : ChangeSpec := { name := "integerTexts", fn := fun _ => fun
  | [d1, d2] => { results := [.lit (.bool false)], args := [d1, d2] }
  | _ => none }
def IntegerTextsWrongFalsely : Prop := integerTextsRow.holds Try.pinned (OpenSpec.ofChange integerTextsWrong)

/-- 'straightedgelaw01.IntegerHalves': WHATEVER THE INPUT: true; the input reads as it did. -/
def integerHalvesSpec : ChangeSpec := { name := "integerHalves", fn := fun _ => fun
  | [d1, d2] => { results := [.lit (.bool true)], args := [d1, d2] }
  | _ => none }
def integerHalvesRow : OpenClaim := { program := "ytipajnobkladeaa", sum := "0e0bc3312d7ce11069049766cdd6e0aa2ab768ae1282e6fdb3fa58011c6a920b", func := "straightedge/straightedgelaw01.IntegerHalves", spec := "integerHalves", apart := false }
def IntegerHalvesSaid : Prop := integerHalvesRow.holds Try.pinned (OpenSpec.ofChange integerHalvesSpec)

/-- ITS FALSE NEIGHBOUR: 'it returns false'. Refute it at one input. -/
def integerHalvesWrong : ChangeSpec := { name := "integerHalves", fn := fun _ => fun
  | [d1, d2] => { results := [.lit (.bool false)], args := [d1, d2] }
  | _ => none }
def IntegerHalvesWrongFalsely : Prop := integerHalvesRow.holds Try.pinned (OpenSpec.ofChange integerHalvesWrong)

/-- 'straightedgelaw01.IntegerReads': WHATEVER THE INPUT: true; the input reads as it did. -/
def integerReadsSpec : ChangeSpec := { name := "integerReads", fn := fun _ => fun
  | [d1, d2] => { results := [.lit (.bool true)], args := [d1, d2] }
  | _ => none }
def integerReadsRow : OpenClaim := { program := "ytipajnobkladeaa", sum := "0e0bc3312d7ce11069049766cdd6e0aa2ab768ae1282e6fdb3fa58011c6a920b", func := "straightedge/straightedgelaw01.IntegerReads", spec := "integerReads", apart := false }
def IntegerReadsSaid : Prop := integerReadsRow.holds Try.pinned (OpenSpec.ofChange integerReadsSpec)

/-- ITS FALSE NEIGHBOUR: 'it returns false'. Refute it at one input. -/
def integerReadsWrong : ChangeSpec := { name := "integerReads", fn := fun _ => fun
  | [d1, d2] => { results := [.lit (.bool false)], args := [d1, d2] }
  | _ => none }
def IntegerReadsWrongFalsely : Prop := integerReadsRow.holds Try.pinned (OpenSpec.ofChange integerReadsWrong)

/-- 'straightedgelaw01.IntegerProducts': WHATEVER THE INPUT: true; the input reads as it did. -/
def integerProductsSpec : ChangeSpec := { name := "integerProducts", fn := fun _ => fun
  | [d1, d2] => { results := [.lit (.bool true)], args := [d1, d2] }
  | _ => none }
def integerProductsRow : OpenClaim := { program := "ytipajnobkladeaa", sum := "0e0bc3312d7ce11069049766cdd6e0aa2ab768ae1282e6fdb3fa58011c6a920b", func := "straightedge/straightedgelaw01.IntegerProducts", spec := "integerProducts", apart := false }
def IntegerProductsSaid : Prop := integerProductsRow.holds Try.pinned (OpenSpec.ofChange integerProductsSpec)

/-- ITS FALSE NEIGHBOUR: 'it returns false'. Refute it at one input. -/
def integerProductsWrong : ChangeSpec := { name := "integerProducts", fn := fun _ => fun
  | [d1, d2] => { results := [.lit (.bool false)], args := [d1, d2] }
  | _ => none }
def IntegerProductsWrongFalsely : Prop := integerProductsRow.holds Try.pinned (OpenSpec.ofChange integerProductsWrong)

/-- 'straightedgelaw01.IntegerEuclid': WHATEVER THE INPUT: true; the input reads as it did. -/
def integerEuclidSpec : ChangeSpec := { name := "integerEuclid", fn := fun _ => fun
  | [d1, d2, d3] => { results := [.lit (.bool true)], args := [d1, d2, d3] }
  | _ => none }
def integerEuclidRow : OpenClaim := { program := "ytipajnobkladeaa", sum := "0e0bc3312d7ce11069049766cdd6e0aa2ab768ae1282e6fdb3fa58011c6a920b", func := "straightedge/straightedgelaw01.IntegerEuclid", spec := "integerEuclid", apart := false }
def IntegerEuclidSaid : Prop := integerEuclidRow.holds Try.pinned (OpenSpec.ofChange integerEuclidSpec)

/-- ITS FALSE NEIGHBOUR: 'it returns false'. Refute it at one input. -/
def integerEuclidWrong : ChangeSpec := { name := "integerEuclid", fn := fun _ => fun
  | [d1, d2, d3] => { results := [.lit (.bool false)], args := [d1, d2, d3] }
  | _ => none }
def IntegerEuclidWrongFalsely : Prop := integerEuclidRow.holds Try.pinned (OpenSpec.ofChange integerEuclidWrong)

/-- 'straightedgelaw01.IntegerDivisors': WHATEVER THE INPUT: true; the input reads as it did. -/
def integerDivisorsSpec : ChangeSpec := { name := "integerDivisors", fn := fun _ => fun
  | [d1, d2] => { results := [.lit (.bool true)], args := [d1, d2] }
  | _ => none }
def integerDivisorsRow : OpenClaim := { program := "ytipajnobkladeaa", sum := "0e0bc3312d7ce11069049766cdd6e0aa2ab768ae1282e6fdb3fa58011c6a920b", func := "straightedge/straightedgelaw01.IntegerDivisors", spec := "integerDivisors", apart := false }
def IntegerDivisorsSaid : Prop := integerDivisorsRow.holds Try.pinned (OpenSpec.ofChange integerDivisorsSpec)

/-- ITS FALSE NEIGHBOUR: 'it returns false'. Refute it at one input. -/
def integerDivisorsWrong : ChangeSpec := { name := "integerDivisors", fn := fun _ => fun
  | [d1, d2] => { results := [.lit (.bool false)], args := [d1, d2] }
  | _ => none }
def IntegerDivisorsWrongFalsely : Prop := integerDivisorsRow.holds Try.pinned (OpenSpec.ofChange integerDivisorsWrong)

/-- 'straightedgelaw01.IntegerValid': WHATEVER THE INPUT: true; the input reads as it did. -/
def integerValidSpec : ChangeSpec := { name := "integerValid", fn := fun _ => fun
  | [d1, d2] => { results := [.lit (.bool true)], args := [d1, d2] }
  | _ => none }
def integerValidRow : OpenClaim := { program := "ytipajnobkladeaa", sum := "0e0bc3312d7ce11069049766cdd6e0aa2ab768ae1282e6fdb3fa58011c6a920b", func := "straightedge/straightedgelaw01.IntegerValid", spec := "integerValid", apart := false }
def IntegerValidSaid : Prop := integerValidRow.holds Try.pinned (OpenSpec.ofChange integerValidSpec)

/-- ITS FALSE NEIGHBOUR: 'it returns false'. Refute it at one input. -/
def integerValidWrong : ChangeSpec := { name := "integerValid", fn := fun _ => fun
  | [d1, d2] => { results := [.lit (.bool false)], args := [d1, d2] }
  | _ => none }
def IntegerValidWrongFalsely : Prop := integerValidRow.holds Try.pinned (OpenSpec.ofChange integerValidWrong)

/-- 'straightedgelaw01.IntegerSums': WHATEVER THE INPUT: true; the input reads as it did. -/
def integerSumsSpec : ChangeSpec := { name := "integerSums", fn := fun _ => fun
  | [d1, d2] => { results := [.lit (.bool true)], args := [d1, d2] }
  | _ => none }
def integerSumsRow : OpenClaim := { program := "ytipajnobkladeaa", sum := "0e0bc3312d7ce11069049766cdd6e0aa2ab768ae1282e6fdb3fa58011c6a920b", func := "straightedge/straightedgelaw01.IntegerSums", spec := "integerSums", apart := false }
def IntegerSumsSaid : Prop := integerSumsRow.holds Try.pinned (OpenSpec.ofChange integerSumsSpec)

/-- ITS FALSE NEIGHBOUR: 'it returns false'. Refute it at one input. -/
def integerSumsWrong : ChangeSpec := { name := "integerSums", fn := fun _ => fun
  | [d1, d2] => { results := [.lit (.bool false)], args := [d1, d2] }
  | _ => none }
def IntegerSumsWrongFalsely : Prop := integerSumsRow.holds Try.pinned (OpenSpec.ofChange integerSumsWrong)

/-- 'straightedgelaw01.IntegerRing': WHATEVER THE INPUT: true; the input reads as it did. -/
def integerRingSpec : ChangeSpec := { name := "integerRing", fn := fun _ => fun
  | [d1, d2, d3] => { results := [.lit (.bool true)], args := [d1, d2, d3] }
  | _ => none }
def integerRingRow : OpenClaim := { program := "ytipajnobkladeaa", sum := "0e0bc3312d7ce11069049766cdd6e0aa2ab768ae1282e6fdb3fa58011c6a920b", func := "straightedge/straightedgelaw01.IntegerRing", spec := "integerRing", apart := false }
def IntegerRingSaid : Prop := integerRingRow.holds Try.pinned (OpenSpec.ofChange integerRingSpec)

/-- ITS FALSE NEIGHBOUR: 'it returns false'. Refute it at one input. -/
def integerRingWrong : ChangeSpec := { name := "integerRing", fn := fun _ => fun
  | [d1, d2, d3] => { results := [.lit (.bool false)], args := [d1, d2, d3] }
  | _ => none }
def IntegerRingWrongFalsely : Prop := integerRingRow.holds Try.pinned (OpenSpec.ofChange integerRingWrong)

/-- 'straightedgelaw01.IntegerRoots': WHATEVER THE INPUT: true; the input reads as it did. -/
def integerRootsSpec : ChangeSpec := { name := "integerRoots", fn := fun _ => fun
  | [d] => { results := [.lit (.bool true)], args := [d] }
  | _ => none }
def integerRootsRow : OpenClaim := { program := "ytipajnobkladeaa", sum := "0e0bc3312d7ce11069049766cdd6e0aa2ab768ae1282e6fdb3fa58011c6a920b", func := "straightedge/straightedgelaw01.IntegerRoots", spec := "integerRoots", apart := false }
def IntegerRootsSaid : Prop := integerRootsRow.holds Try.pinned (OpenSpec.ofChange integerRootsSpec)

/-- ITS FALSE NEIGHBOUR: 'it returns false'. Refute it at one input. -/
def integerRootsWrong : ChangeSpec := { name := "integerRoots", fn := fun _ => fun
  | [d] => { results := [.lit (.bool false)], args := [d] }
  | _ => none }
def IntegerRootsWrongFalsely : Prop := integerRootsRow.holds Try.pinned (OpenSpec.ofChange integerRootsWrong)

/-- 'straightedgelaw01.IntegerShifts': WHATEVER THE INPUT: true; the input reads as it did. -/
def integerShiftsSpec : ChangeSpec := { name := "integerShifts", fn := fun _ => fun
  | [d1, d2] => { results := [.lit (.bool true)], args := [d1, d2] }
  | _ => none }
def integerShiftsRow : OpenClaim := { program := "ytipajnobkladeaa", sum := "0e0bc3312d7ce11069049766cdd6e0aa2ab768ae1282e6fdb3fa58011c6a920b", func := "straightedge/straightedgelaw01.IntegerShifts", spec := "integerShifts", apart := false }
def IntegerShiftsSaid : Prop := integerShiftsRow.holds Try.pinned (OpenSpec.ofChange integerShiftsSpec)

/-- ITS FALSE NEIGHBOUR: 'it returns false'. Refute it at one input. -/
def integerShiftsWrong : ChangeSpec := { name := "integerShifts", fn := fun _ => fun
  | [d1, d2] => { results := [.lit (.bool false)], args := [d1, d2] }
  | _ => none }
def IntegerShiftsWrongFalsely : Prop := integerShiftsRow.holds Try.pinned (OpenSpec.ofChange integerShiftsWrong)

/-- 'straightedgelaw01.IntegerDivision': WHATEVER THE INPUT: true; the input reads as it did. -/
def integerDivisionSpec : ChangeSpec := { name := "integerDivision", fn := fun _ => fun
  | [d1, d2] => { results := [.lit (.bool true)], args := [d1, d2] }
  | _ => none }
def integerDivisionRow : OpenClaim := { program := "ytipajnobkladeaa", sum := "0e0bc3312d7ce11069049766cdd6e0aa2ab768ae1282e6fdb3fa58011c6a920b", func := "straightedge/straightedgelaw01.IntegerDivision", spec := "integerDivision", apart := false }
def IntegerDivisionSaid : Prop := integerDivisionRow.holds Try.pinned (OpenSpec.ofChange integerDivisionSpec)

/-- ITS FALSE NEIGHBOUR: 'it returns false'. Refute it at one input. -/
def integerDivisionWrong : ChangeSpec := { name := "integerDivision", fn := fun _ => fun
  | [d1, d2] => { results := [.lit (.bool false)], args := [d1, d2] }
  | _ => none }
def IntegerDivisionWrongFalsely : Prop := integerDivisionRow.holds Try.pinned (OpenSpec.ofChange integerDivisionWrong)

/-- 'straightedgelaw01.IntegerOrder': WHATEVER THE INPUT: true; the input reads as it did. -/
def integerOrderSpec : ChangeSpec := { name := "integerOrder", fn := fun _ => fun
  | [d1, d2, d3] => { results := [.lit (.bool true)], args := [d1, d2, d3] }
  | _ => none }
def integerOrderRow : OpenClaim := { program := "ytipajnobkladeaa", sum := "0e0bc3312d7ce11069049766cdd6e0aa2ab768ae1282e6fdb3fa58011c6a920b", func := "straightedge/straightedgelaw01.IntegerOrder", spec := "integerOrder", apart := false }
def IntegerOrderSaid : Prop := integerOrderRow.holds Try.pinned (OpenSpec.ofChange integerOrderSpec)

/-- ITS FALSE NEIGHBOUR: 'it returns false'. Refute it at one input. -/
def integerOrderWrong : ChangeSpec := { name := "integerOrder", fn := fun _ => fun
  | [d1, d2, d3] => { results := [.lit (.bool false)], args := [d1, d2, d3] }
  | _ => none }
def IntegerOrderWrongFalsely : Prop := integerOrderRow.holds Try.pinned (OpenSpec.ofChange integerOrderWrong)

/-- 'straightedgelaw01.IntegerSquares': WHATEVER THE INPUT: true; the input reads as it did. -/
def integerSquaresSpec : ChangeSpec := { name := "integerSquares", fn := fun _ => fun
  | [d] => { results := [.lit (.bool true)], args := [d] }
  | _ => none }
def integerSquaresRow : OpenClaim := { program := "ytipajnobkladeaa", sum := "0e0bc3312d7ce11069049766cdd6e0aa2ab768ae1282e6fdb3fa58011c6a920b", func := "straightedge/straightedgelaw01.IntegerSquares", spec := "integerSquares", apart := false }
def IntegerSquaresSaid : Prop := integerSquaresRow.holds Try.pinned (OpenSpec.ofChange integerSquaresSpec)

/-- ITS FALSE NEIGHBOUR: 'it returns false'. Refute it at one input. -/
def integerSquaresWrong : ChangeSpec := { name := "integerSquares", fn := fun _ => fun
  | [d] => { results := [.lit (.bool false)], args := [d] }
  | _ => none }
def IntegerSquaresWrongFalsely : Prop := integerSquaresRow.holds Try.pinned (OpenSpec.ofChange integerSquaresWrong)

/- THE SECOND FORM. 'bulk': how many values and letters a reading holds, each counted each time it is reached (what is shared counts as often as it is met; a slice's spare places count too). A statement '..UptoSaid' is the law's where the arguments, and the package variables that the reading takes, are together of bulk at most 1048576: NARROWER than '..Said'. Prove '..Said' where nothing that the law and all that it calls make is longer than what came in: it says more and counts as full. Else prove '..UptoSaid'. A law counts once. -/
mutual
def uptoBulk {H : Type} : DataW H → Nat
  | .lit (.string bytes) => bytes.length + 1
  | .lit _ => 1
  | .nil => 1
  | .ptr d => uptoBulk d + 1
  | .slice elems spare => uptoBulkAll elems + uptoBulkAll spare + 1
  | .agg parts => uptoBulkAll parts + 1
  | .iface _ d => uptoBulk d + 1
  | .map entries => uptoBulkEntries entries + 1
  | .held _ => 1
def uptoBulkAll {H : Type} : List (DataW H) → Nat
  | [] => 0
  | d :: r => uptoBulk d + uptoBulkAll r
def uptoBulkEntries {H : Type} : List (Lit × DataW H) → Nat
  | [] => 0
  | x :: r => uptoBulkEntry x + uptoBulkEntries r
def uptoBulkEntry {H : Type} : Lit × DataW H → Nat
  | (.string bytes, d) => bytes.length + uptoBulk d + 1
  | (_, d) => uptoBulk d + 1
 end
def uptoSmall : (H : Type) → List (DataW H) → Bool := fun _ ds => decide (uptoBulkAll ds ≤ 1048576)
def OpenSpec.upto (s : _root_.Go.ChangeSpec) : _root_.Go.OpenSpec := { _root_.Go.OpenSpec.ofChange s with cond := some uptoSmall }

/-- 'straightedgelaw01.IntegerQuotients', WHERE WHAT IT READS IS OF BULK AT MOST 1048576: true; the input reads as it did. -/
def integerQuotientsUptoRow : OpenClaim := { program := "ytipajnobkladeaa", sum := "0e0bc3312d7ce11069049766cdd6e0aa2ab768ae1282e6fdb3fa58011c6a920b", func := "straightedge/straightedgelaw01.IntegerQuotients", spec := "integerQuotients", apart := false, narrowed := true }
def IntegerQuotientsUptoSaid : Prop := integerQuotientsUptoRow.holds Try.pinned (OpenSpec.upto integerQuotientsSpec)

/-- 'straightedgelaw01.IntegerTexts', WHERE WHAT IT READS IS OF BULK AT MOST 1048576: true; the input reads as it did. -/
def integerTextsUptoRow : OpenClaim := { program := "ytipajnobkladeaa", sum := "0e0bc3312d7ce11069049766cdd6e0aa2ab768ae1282e6fdb3fa58011c6a920b", func := "straightedge/straightedgelaw01.IntegerTexts", spec := "integerTexts", apart := false, narrowed := true }
def IntegerTextsUptoSaid : Prop := integerTextsUptoRow.holds Try.pinned (OpenSpec.upto integerTextsSpec)

/-- 'straightedgelaw01.IntegerHalves', WHERE WHAT IT READS IS OF BULK AT MOST 1048576: true; the input reads as it did. -/
def integerHalvesUptoRow : OpenClaim := { program := "ytipajnobkladeaa", sum := "0e0bc3312d7ce11069049766cdd6e0aa2ab768ae1282e6fdb3fa58011c6a920b", func := "straightedge/straightedgelaw01.IntegerHalves", spec := "integerHalves", apart := false, narrowed := true }
def IntegerHalvesUptoSaid : Prop := integerHalvesUptoRow.holds Try.pinned (OpenSpec.upto integerHalvesSpec)

/-- 'straightedgelaw01.IntegerReads', WHERE WHAT IT READS IS OF BULK AT MOST 1048576: true; the input reads as it did. -/
def integerReadsUptoRow : OpenClaim := { program := "ytipajnobkladeaa", sum := "0e0bc3312d7ce11069049766cdd6e0aa2ab768ae1282e6fdb3fa58011c6a920b", func := "straightedge/straightedgelaw01.IntegerReads", spec := "integerReads", apart := false, narrowed := true }
def IntegerReadsUptoSaid : Prop := integerReadsUptoRow.holds Try.pinned (OpenSpec.upto integerReadsSpec)

/-- 'straightedgelaw01.IntegerProducts', WHERE WHAT IT READS IS OF BULK AT MOST 1048576: true; the input reads as it did. -/
def integerProductsUptoRow : OpenClaim := { program := "ytipajnobkladeaa", sum := "0e0bc3312d7ce11069049766cdd6e0aa2ab768ae1282e6fdb3fa58011c6a920b", func := "straightedge/straightedgelaw01.IntegerProducts", spec := "integerProducts", apart := false, narrowed := true }
def IntegerProductsUptoSaid : Prop := integerProductsUptoRow.holds Try.pinned (OpenSpec.upto integerProductsSpec)

/-- 'straightedgelaw01.IntegerEuclid', WHERE WHAT IT READS IS OF BULK AT MOST 1048576: true; the input reads as it did. -/
def integerEuclidUptoRow : OpenClaim := { program := "ytipajnobkladeaa", sum := "0e0bc3312d7ce11069049766cdd6e0aa2ab768ae1282e6fdb3fa58011c6a920b", func := "straightedge/straightedgelaw01.IntegerEuclid", spec := "integerEuclid", apart := false, narrowed := true }
def IntegerEuclidUptoSaid : Prop := integerEuclidUptoRow.holds Try.pinned (OpenSpec.upto integerEuclidSpec)

/-- 'straightedgelaw01.IntegerDivisors', WHERE WHAT IT READS IS OF BULK AT MOST 1048576: true; the input reads as it did. -/
def integerDivisorsUptoRow : OpenClaim := { program := "ytipajnobkladeaa", sum := "0e0bc3312d7ce11069049766cdd6e0aa2ab768ae1282e6fdb3fa58011c6a920b", func := "straightedge/straightedgelaw01.IntegerDivisors", spec := "integerDivisors", apart := false, narrowed := true }
def IntegerDivisorsUptoSaid : Prop := integerDivisorsUptoRow.holds Try.pinned (OpenSpec.upto integerDivisorsSpec)

/-- 'straightedgelaw01.IntegerValid', WHERE WHAT IT READS IS OF BULK AT MOST 1048576: true; the input reads as it did. -/
def integerValidUptoRow : OpenClaim := { program := "ytipajnobkladeaa", sum := "0e0bc3312d7ce11069049766cdd6e0aa2ab768ae1282e6fdb3fa58011c6a920b", func := "straightedge/straightedgelaw01.IntegerValid", spec := "integerValid", apart := false, narrowed := true }
def IntegerValidUptoSaid : Prop := integerValidUptoRow.holds Try.pinned (OpenSpec.upto integerValidSpec)

/-- 'straightedgelaw01.IntegerSums', WHERE WHAT IT READS IS OF BULK AT MOST 1048576: true; the input reads as it did. -/
def integerSumsUptoRow : OpenClaim := { program := "ytipajnobkladeaa", sum := "0e0bc3312d7ce11069049766cdd6e0aa2ab768ae1282e6fdb3fa58011c6a920b", func := "straightedge/straightedgelaw01.IntegerSums", spec := "integerSums", apart := false, narrowed := true }
def IntegerSumsUptoSaid : Prop := integerSumsUptoRow.holds Try.pinned (OpenSpec.upto integerSumsSpec)

/-- 'straightedgelaw01.IntegerRing', WHERE WHAT IT READS IS OF BULK AT MOST 1048576: true; the input reads as it did. -/
def integerRingUptoRow : OpenClaim := { program := "ytipajnobkladeaa", sum := "0e0bc3312d7ce11069049766cdd6e0aa2ab768ae1282e6fdb3fa58011c6a920b", func := "straightedge/straightedgelaw01.IntegerRing", spec := "integerRing", apart := false, narrowed := true }
def IntegerRingUptoSaid : Prop := integerRingUptoRow.holds Try.pinned (OpenSpec.upto integerRingSpec)

/-- 'straightedgelaw01.IntegerRoots', WHERE WHAT IT READS IS OF BULK AT MOST 1048576: true; the input reads as it did. -/
def integerRootsUptoRow : OpenClaim := { program := "ytipajnobkladeaa", sum := "0e0bc3312d7ce11069049766cdd6e0aa2ab768ae1282e6fdb3fa58011c6a920b", func := "straightedge/straightedgelaw01.IntegerRoots", spec := "integerRoots", apart := false, narrowed := true }
def IntegerRootsUptoSaid : Prop := integerRootsUptoRow.holds Try.pinned (OpenSpec.upto integerRootsSpec)

/-- 'straightedgelaw01.IntegerShifts', WHERE WHAT IT READS IS OF BULK AT MOST 1048576: true; the input reads as it did. -/
def integerShiftsUptoRow : OpenClaim := { program := "ytipajnobkladeaa", sum := "0e0bc3312d7ce11069049766cdd6e0aa2ab768ae1282e6fdb3fa58011c6a920b", func := "straightedge/straightedgelaw01.IntegerShifts", spec := "integerShifts", apart := false, narrowed := true }
def IntegerShiftsUptoSaid : Prop := integerShiftsUptoRow.holds Try.pinned (OpenSpec.upto integerShiftsSpec)

/-- 'straightedgelaw01.IntegerDivision', WHERE WHAT IT READS IS OF BULK AT MOST 1048576: true; the input reads as it did. -/
def integerDivisionUptoRow : OpenClaim := { program := "ytipajnobkladeaa", sum := "0e0bc3312d7ce11069049766cdd6e0aa2ab768ae1282e6fdb3fa58011c6a920b", func := "straightedge/straightedgelaw01.IntegerDivision", spec := "integerDivision", apart := false, narrowed := true }
def IntegerDivisionUptoSaid : Prop := integerDivisionUptoRow.holds Try.pinned (OpenSpec.upto integerDivisionSpec)

/-- 'straightedgelaw01.IntegerOrder', WHERE WHAT IT READS IS OF BULK AT MOST 1048576: true; the input reads as it did. -/
def integerOrderUptoRow : OpenClaim := { program := "ytipajnobkladeaa", sum := "0e0bc3312d7ce11069049766cdd6e0aa2ab768ae1282e6fdb3fa58011c6a920b", func := "straightedge/straightedgelaw01.IntegerOrder", spec := "integerOrder", apart := false, narrowed := true }
def IntegerOrderUptoSaid : Prop := integerOrderUptoRow.holds Try.pinned (OpenSpec.upto integerOrderSpec)

/-- 'straightedgelaw01.IntegerSquares', WHERE WHAT IT READS IS OF BULK AT MOST 1048576: true; the input reads as it did. -/
def integerSquaresUptoRow : OpenClaim := { program := "ytipajnobkladeaa", sum := "0e0bc3312d7ce11069049766cdd6e0aa2ab768ae1282e6fdb3fa58011c6a920b", func := "straightedge/straightedgelaw01.IntegerSquares", spec := "integerSquares", apart := false, narrowed := true }
def IntegerSquaresUptoSaid : Prop := integerSquaresUptoRow.holds Try.pinned (OpenSpec.upto integerSquaresSpec)

end Rows
end Go.Proofs.Ytipajnobkladeaa
