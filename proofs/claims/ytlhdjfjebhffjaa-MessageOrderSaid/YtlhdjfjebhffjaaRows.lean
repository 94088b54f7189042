/-
  No cell of these rows narrows 'for every input' (looked for: loops, veiled, ifaces, maps, wideKeys, modest, calm, conditions, laid).
  DERIVED. THE GIVEN ROWS OF THIS SEAT. 6 by the template 'for every input the law returns true; each argument reads behind the call as it read before'; 0 by the template 'total and deterministic' (their statements: YtlhdjfjebhffjaaTotals.lean).
  GIVEN WITH THE SEED: the statements are not yours to turn. If you find one false, say at which input.
  Laid BY PROGRAM, IN A SANDBOX (cutbox-rows.mjs): the forced cells as the released guide's own fill.sh prints them over the translation ca93fe3d424af8f5… (all of the seat's roots in one cut). By AI agents, Wed Nov 11 2026. No macro, syntax, notation, axiom, sorry.
-/
import Derived.Test.YtlhdjfjebhffjaaChecked
import GoSem.Claim
import GoSem.ClaimJoined
import GoSem.ClaimMapViews
import Derived.JoinedTies
import Derived.KernelRfl
namespace Go.Proofs.Ytlhdjfjebhffjaa
/- THE CELL 'sum', in the pinned program and in every row, IS THE sha256 OF THE DUMP (.gsa) THAT YtlhdjfjebhffjaaProg.lean LOADS. Nothing in Lean hashes anything: it is a label: what it is worth is what the hold of that sum in a sandbox is worth. -/
noncomputable def Try.pinned : Pinned := { name := "ytlhdjfjebhffjaa", sum := "ca93fe3d424af8f554c2dfe844daf710149a35bfd807b5bfc2e08f6b54bdb844", checked := Try.checked }
namespace Rows
def none {H : Type} : Left H := { results := [], args := [] }

/-- 'straightedgelaw31.MessageHashes': WHATEVER THE INPUT: true; the input reads as it did. -/
def messageHashesSpec : ChangeSpec := { name := "messageHashes", fn := fun _ => fun
  | [d1, d2, d3, d4] => { results := [.lit (.bool true)], args := [d1, d2, d3, d4] }
  | _ => none }
def messageHashesRow : OpenClaim := { program := "ytlhdjfjebhffjaa", sum := "ca93fe3d424af8f554c2dfe844daf710149a35bfd807b5bfc2e08f6b54bdb844", func := "straightedge/straightedgelaw31.MessageHashes", spec := "messageHashes", inPlace := ["internal/abi.NoEscape", "internal/bytealg.MakeNoZero"], unfollowed := true, recurses := true, apart := false }
def MessageHashesSaid : Prop := messageHashesRow.holds Try.pinned (OpenSpec.ofChange messageHashesSpec)

/-- ITS FALSE NEIGHBOUR: 'it returns false'. Refute it at one input. -/
def messageHashesWrong : ChangeSpec := { name := "messageHashes", fn := fun _ => fun
  | [d1, d2, d3, d4] => { results := [.lit (.bool false)], args := [d1, d2, d3, d4] }
  | _ => none }
def MessageHashesWrongFalsely : Prop := messageHashesRow.holds Try.pinned (OpenSpec.ofChange messageHashesWrong)

/-- 'straightedgelaw31.MessageRoundTrip': WHATEVER THE INPUT: true; the input reads as it did. -/
def messageRoundTripSpec : ChangeSpec := { name := "messageRoundTrip", fn := fun _ => fun
  | [d1, d2, d3] => { results := [.lit (.bool true)], args := [d1, d2, d3] }
  | _ => none }
def messageRoundTripRow : OpenClaim := { program := "ytlhdjfjebhffjaa", sum := "ca93fe3d424af8f554c2dfe844daf710149a35bfd807b5bfc2e08f6b54bdb844", func := "straightedge/straightedgelaw31.MessageRoundTrip", spec := "messageRoundTrip", inPlace := ["internal/abi.NoEscape", "internal/bytealg.MakeNoZero"], unfollowed := true, recurses := true, apart := false }
def MessageRoundTripSaid : Prop := messageRoundTripRow.holds Try.pinned (OpenSpec.ofChange messageRoundTripSpec)

/-- ITS FALSE NEIGHBOUR: 'it returns false'. Refute it at one input. -/
def messageRoundTripWrong : ChangeSpec := { name := "messageRoundTrip", fn := fun _ => fun
  | [d1, d2, d3] => { results := [.lit (.bool false)], args := [d1, d2, d3] }
  | _ => none }
def MessageRoundTripWrongFalsely : Prop := messageRoundTripRow.holds Try.pinned (OpenSpec.ofChange messageRoundTripWrong)

/-- 'straightedgelaw31.MessageCanonical': WHATEVER THE INPUT: true; the input reads as it did. -/
def messageCanonicalSpec : ChangeSpec := { name := "messageCanonical", fn := fun _ => fun
  | [d1, d2, d3, d4, d5, d6] => { results := [.lit (.bool true)], args := [d1, d2, d3, d4, d5, d6] }
  | _ => none }
def messageCanonicalRow : OpenClaim := { program := "ytlhdjfjebhffjaa", sum := "ca93fe3d424af8f554c2dfe844daf710149a35bfd807b5bfc2e08f6b54bdb844", func := "straightedge/straightedgelaw31.MessageCanonical", spec := "messageCanonical", inPlace := ["internal/abi.NoEscape", "internal/bytealg.MakeNoZero"], unfollowed := true, recurses := true, apart := false }
def MessageCanonicalSaid : Prop := messageCanonicalRow.holds Try.pinned (OpenSpec.ofChange messageCanonicalSpec)

/-- ITS FALSE NEIGHBOUR: 'it returns false'. Refute it at one input. -/
def messageCanonicalWrong : ChangeSpec := { name := "messageCanonical", fn := fun _ => fun
  | [d1, d2, d3, d4, d5, d6] => { results := [.lit (.bool false)], args := [d1, d2, d3, d4, d5, d6] }
  | _ => none }
def MessageCanonicalWrongFalsely : Prop := messageCanonicalRow.holds Try.pinned (OpenSpec.ofChange messageCanonicalWrong)

/-- 'straightedgelaw31.MessageForged': WHATEVER THE INPUT: true; the input reads as it did. -/
def messageForgedSpec : ChangeSpec := { name := "messageForged", fn := fun _ => fun
  | [d1, d2, d3, d4, d5] => { results := [.lit (.bool true)], args := [d1, d2, d3, d4, d5] }
  | _ => none }
def messageForgedRow : OpenClaim := { program := "ytlhdjfjebhffjaa", sum := "ca93fe3d424af8f554c2dfe844daf710149a35bfd807b5bfc2e08f6b54bdb844", func := "straightedge/straightedgelaw31.MessageForged", spec := "messageForged", inPlace := ["internal/abi.NoEscape", "internal/bytealg.MakeNoZero"], unfollowed := true, recurses := true, apart := false }
def MessageForgedSaid : Prop := messageForgedRow.holds Try.pinned (OpenSpec.ofChange messageForgedSpec)

/-- ITS FALSE NEIGHBOUR: 'it returns false'. Refute it at one input. -/
def messageForgedWrong : ChangeSpec := { name := "messageForged", fn := fun _ => fun
  | [d1, d2, d3, d4, d5] => { results := [.lit (.bool false)], args := [d1, d2, d3, d4, d5] }
  | _ => none }
def MessageForgedWrongFalsely : Prop := messageForgedRow.holds Try.pinned (OpenSpec.ofChange messageForgedWrong)

/-- 'straightedgelaw31.MessageOrder': WHATEVER THE INPUT: true; the input reads as it did. -/
def messageOrderSpec : ChangeSpec := { name := "messageOrder", fn := fun _ => fun
  | [d1, d2, d3, d4] => { results := [.lit (.bool true)], args := [d1, d2, d3, d4] }
  | _ => none }
def messageOrderRow : OpenClaim := { program := "ytlhdjfjebhffjaa", sum := "ca93fe3d424af8f554c2dfe844daf710149a35bfd807b5bfc2e08f6b54bdb844", func := "straightedge/straightedgelaw31.MessageOrder", spec := "messageOrder", inPlace := ["internal/abi.NoEscape", "internal/bytealg.MakeNoZero"], unfollowed := true, recurses := true, apart := false }
def MessageOrderSaid : Prop := messageOrderRow.holds Try.pinned (OpenSpec.ofChange messageOrderSpec)

/-- ITS FALSE NEIGHBOUR: 'it returns false'. Refute it at one input. -/
def messageOrderWrong : ChangeSpec := { name := "messageOrder", fn := fun _ => fun
  | [d1, d2, d3, d4] => { results := [.lit (.bool false)], args := [d1, d2, d3, d4] }
  | _ => none }
def MessageOrderWrongFalsely : Prop := messageOrderRow.holds Try.pinned (OpenSpec.ofChange messageOrderWrong)

/-- 'straightedgelaw31.MessageNumbers': WHATEVER THE INPUT: true; the input reads as it did. -/
def messageNumbersSpec : ChangeSpec := { name := "messageNumbers", fn := fun _ => fun
  | [d1, d2, d3] => { results := [.lit (.bool true)], args := [d1, d2, d3] }
  | _ => none }
def messageNumbersRow : OpenClaim := { program := "ytlhdjfjebhffjaa", sum := "ca93fe3d424af8f554c2dfe844daf710149a35bfd807b5bfc2e08f6b54bdb844", func := "straightedge/straightedgelaw31.MessageNumbers", spec := "messageNumbers", inPlace := ["internal/abi.NoEscape", "internal/bytealg.MakeNoZero"], unfollowed := true, recurses := true, apart := false }
def MessageNumbersSaid : Prop := messageNumbersRow.holds Try.pinned (OpenSpec.ofChange messageNumbersSpec)

/-- ITS FALSE NEIGHBOUR: 'it returns false'. Refute it at one input. -/
def messageNumbersWrong : ChangeSpec := { name := "messageNumbers", fn := fun _ => fun
  | [d1, d2, d3] => { results := [.lit (.bool false)], args := [d1, d2, d3] }
  | _ => none }
def MessageNumbersWrongFalsely : Prop := messageNumbersRow.holds Try.pinned (OpenSpec.ofChange messageNumbersWrong)

/- THE SECOND FORM. 'bulk': how many values and letters a reading holds, each counted each time it is reached (what is shared counts as often as it is met; a slice's spare places count too). A statement '..UptoSaid' is the law's where the arguments, and the package variables that the reading takes, are together of bulk at most 1048576: NARROWER than '..Said'. Prove '..Said' where nothing that the law and all that it calls make is longer than what came in: it says more and counts as full. Else prove '..UptoSaid'. A law counts once. -/
mutual
def uptoBulk {H : Type} : DataW H → Nat
  | .lit (.string bytes) => bytes.length + 1
  | .lit _ => 1
  | .nil => 1
  | .ptr d => uptoBulk d + 1
  | .slice elems spare => uptoBulkAll elems + uptoBulkAll spare + 1
  | .agg parts => uptoBulkAll parts + 1
  | .iface _ d => uptoBulk d + 1
  | .map entries => uptoBulkEntries entries + 1
  | .held _ => 1
def uptoBulkAll {H : Type} : List (DataW H) → Nat
  | [] => 0
  | d :: r => uptoBulk d + uptoBulkAll r
def uptoBulkEntries {H : Type} : List (Lit × DataW H) → Nat
  | [] => 0
  | x :: r => uptoBulkEntry x + uptoBulkEntries r
def uptoBulkEntry {H : Type} : Lit × DataW H → Nat
  | (.string bytes, d) => bytes.length + uptoBulk d + 1
  | (_, d) => uptoBulk d + 1
 end
def uptoSmall : (H : Type) → List (DataW H) → Bool := fun _ ds => decide (uptoBulkAll ds ≤ 1048576)
def OpenSpec.upto (s : _root_.Go.ChangeSpec) : _root_.Go.OpenSpec := { _root_.Go.OpenSpec.ofChange s with cond := some uptoSmall }

/-- 'straightedgelaw31.MessageHashes', WHERE WHAT IT READS IS OF BULK AT MOST 1048576: true; the input reads as it did. -/
def messageHashesUptoRow : OpenClaim := { program := "ytlhdjfjebhffjaa", sum := "ca93fe3d424af8f554c2dfe844daf710149a35bfd807b5bfc2e08f6b54bdb844", func := "straightedge/straightedgelaw31.MessageHashes", spec := "messageHashes", inPlace := ["internal/abi.NoEscape", "internal/bytealg.MakeNoZero"], unfollowed := true, recurses := true, apart := false, narrowed := true }
def MessageHashesUptoSaid : Prop := messageHashesUptoRow.holds Try.pinned (OpenSpec.upto messageHashesSpec)

/-- 'straightedgelaw31.MessageRoundTrip', WHERE WHAT IT READS IS OF BULK AT MOST 1048576: true; the input reads as it did. -/
def messageRoundTripUptoRow : OpenClaim := { program := "ytlhdjfjebhffjaa", sum := "ca93fe3d424af8f554c2dfe844daf710149a35bfd807b5bfc2e08f6b54bdb844", func := "straightedge/straightedgelaw31.MessageRoundTrip", spec := "messageRoundTrip", inPlace := ["internal/abi.NoEscape", "internal/bytealg.MakeNoZero"], unfollowed := true, recurses := true, apart := false, narrowed := true }
def MessageRoundTripUptoSaid : Prop := messageRoundTripUptoRow.holds Try.pinned (OpenSpec.upto messageRoundTripSpec)

/-- 'straightedgelaw31.MessageCanonical', WHERE WHAT IT READS IS OF BULK AT MOST 1048576: true; the input reads as it did. -/
def messageCanonicalUptoRow : OpenClaim := { program := "ytlhdjfjebhffjaa", sum := "ca93fe3d424af8f554c2dfe844daf710149a35bfd807b5bfc2e08f6b54bdb844", func := "straightedge/straightedgelaw31.MessageCanonical", spec := "messageCanonical", inPlace := ["internal/abi.NoEscape", "internal/bytealg.MakeNoZero"], unfollowed := true, recurses := true, apart := false, narrowed := true }
def MessageCanonicalUptoSaid : Prop := messageCanonicalUptoRow.holds Try.pinned (OpenSpec.upto messageCanonicalSpec)

/-- 'straightedgelaw31.MessageForged', WHERE WHAT IT READS IS OF BULK AT MOST 1048576: true; the input reads as it did. -/
def messageForgedUptoRow : OpenClaim := { program := "ytlhdjfjebhffjaa", sum := "ca93fe3d424af8f554c2dfe844daf710149a35bfd807b5bfc2e08f6b54bdb844", func := "straightedge/straightedgelaw31.MessageForged", spec := "messageForged", inPlace := ["internal/abi.NoEscape", "internal/bytealg.MakeNoZero"], unfollowed := true, recurses := true, apart := false, narrowed := true }
def MessageForgedUptoSaid : Prop := messageForgedUptoRow.holds Try.pinned (OpenSpec.upto messageForgedSpec)

/-- 'straightedgelaw31.MessageOrder', WHERE WHAT IT READS IS OF BULK AT MOST 1048576: true; the input reads as it did. -/
def messageOrderUptoRow : OpenClaim := { program := "ytlhdjfjebhffjaa", sum := "ca93fe3d424af8f554c2dfe844daf710149a35bfd807b5bfc2e08f6b54bdb844", func := "straightedge/straightedgelaw31.MessageOrder", spec := "messageOrder", inPlace := ["internal/abi.NoEscape", "internal/bytealg.MakeNoZero"], unfollowed := true, recurses := true, apart := false, narrowed := true }
def MessageOrderUptoSaid : Prop := messageOrderUptoRow.holds Try.pinned (OpenSpec.upto messageOrderSpec)

/-- 'straightedgelaw31.MessageNumbers', WHERE WHAT IT READS IS OF BULK AT MOST 1048576: true; the input reads as it did. -/
def messageNumbersUptoRow : OpenClaim := { program := "ytlhdjfjebhffjaa", sum := "ca93fe3d424af8f554c2dfe844daf710149a35bfd807b5bfc2e08f6b54bdb844", func := "straightedge/straightedgelaw31.MessageNumbers", spec := "messageNumbers", inPlace := ["internal/abi.NoEscape", "internal/bytealg.MakeNoZero"], unfollowed := true, recurses := true, apart := false, narrowed := true }
def MessageNumbersUptoSaid : Prop := messageNumbersUptoRow.holds Try.pinned (OpenSpec.upto messageNumbersSpec)

end Rows
end Go.Proofs.Ytlhdjfjebhffjaa
