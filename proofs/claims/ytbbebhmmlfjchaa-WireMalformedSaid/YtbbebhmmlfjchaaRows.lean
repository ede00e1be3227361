/-
  No cell of these rows narrows 'for every input' (looked for: loops, veiled, ifaces, maps, wideKeys, modest, calm, conditions, laid).
  DERIVED. THE GIVEN ROWS OF THIS SEAT. 6 by the template 'for every input the law returns true; each argument reads behind the call as it read before'; 0 by the template 'total and deterministic' (their statements: YtbbebhmmlfjchaaTotals.lean).
  GIVEN WITH THE SEED: the statements are not yours to turn. If you find one false, say at which input.
  Laid BY PROGRAM, IN A SANDBOX (cutbox-rows.mjs): the forced cells as the released guide's own fill.sh prints them over the translation e624c3b00e81d83b… (all of the seat's roots in one cut). By AI agents, Wed Nov 11 2026. No macro, syntax, notation, axiom, sorry.
-/
import Derived.Test.YtbbebhmmlfjchaaChecked
import GoSem.Claim
import GoSem.ClaimJoined
import GoSem.ClaimMapViews
import Derived.JoinedTies
import Derived.KernelRfl
namespace Go.Proofs.Ytbbebhmmlfjchaa
/- THE CELL 'sum', in the pinned program and in every row, IS THE sha256 OF THE DUMP (.gsa) THAT YtbbebhmmlfjchaaProg.lean LOADS. Nothing in Lean hashes anything: it is a label: what it is worth is what the hold of that sum in a sandbox is worth. -/
noncomputable def Try.pinned : Pinned := { name := "ytbbebhmmlfjchaa", sum := "e624c3b00e81d83b01944621e1e0f03766954f8f9e4fa1692b4e4017ff942698", checked := Try.checked }
namespace Rows
def none {H : Type} : Left H := { results := [], args := [] }

/-- 'pontagelaw6.WireMalformed': WHATEVER THE INPUT: true; the input reads as it did. -/
def wireMalformedSpec : ChangeSpec := { name := "wireMalformed", fn := fun _ => fun
  | [d1, d2, d3, d4, d5] => { results := [.lit (.bool true)], args := [d1, d2, d3, d4, d5] }
  | _ => none }
def wireMalformedRow : OpenClaim := { program := "ytbbebhmmlfjchaa", sum := "e624c3b00e81d83b01944621e1e0f03766954f8f9e4fa1692b4e4017ff942698", func := "pontage/pontagelaw6.WireMalformed", spec := "wireMalformed", apart := false }
def WireMalformedSaid : Prop := wireMalformedRow.holds Try.pinned (OpenSpec.ofChange wireMalformedSpec)

/-- ITS FALSE NEIGHBOUR: 'it returns false'. Refute it at one input. -/
def wireMalformedWrong : ChangeSpec := { name := "wireMalformed", fn := fun _ => fun
  | [d1, d2, d3, d4, d5] => { results := [.lit (.bool false)], args := [d1, d2, d3, d4, d5] }
  | _ => none }
def WireMalformedWrongFalsely : Prop := wireMalformedRow.holds Try.pinned (OpenSpec.ofChange wireMalformedWrong)

/-- 'pontagelaw6.WireSequences': WHATEVER THE INPUT: true; the input reads as it did. -/
def wireSequencesSpec : ChangeSpec := { name := "wireSequences", fn := fun _ => fun
  | [d1, d2] => { results := [.lit (.bool true)], args := [d1, d2] }
  | _ => none }
def wireSequencesRow : OpenClaim := { program := "ytbbebhmmlfjchaa", sum := "e624c3b00e81d83b01944621e1e0f03766954f8f9e4fa1692b4e4017ff942698", func := "pontage/pontagelaw6.WireSequences", spec := "wireSequences", apart := false }
def WireSequencesSaid : Prop := wireSequencesRow.holds Try.pinned (OpenSpec.ofChange wireSequencesSpec)

/-- ITS FALSE NEIGHBOUR: 'it returns false'. Refute it at one input. -/
def wireSequencesWrong : ChangeSpec := { name := "wireSequences", fn := fun _ => fun
  | [d1, d2] => { results := [.lit (.bool false)], args := [d1, d2] }
  | _ => none }
def WireSequencesWrongFalsely : Prop := wireSequencesRow.holds Try.pinned (OpenSpec.ofChange wireSequencesWrong)

/-- 'pontagelaw6.WireAppend': WHATEVER THE INPUT: true; the input reads as it did. -/
def wireAppendSpec : ChangeSpec := { name := "wireAppend", fn := fun _ => fun
  | [d1, d2, d3, d4, d5] => { results := [.lit (.bool true)], args := [d1, d2, d3, d4, d5] }
  | _ => none }
def wireAppendRow : OpenClaim := { program := "ytbbebhmmlfjchaa", sum := "e624c3b00e81d83b01944621e1e0f03766954f8f9e4fa1692b4e4017ff942698", func := "pontage/pontagelaw6.WireAppend", spec := "wireAppend", apart := false }
def WireAppendSaid : Prop := wireAppendRow.holds Try.pinned (OpenSpec.ofChange wireAppendSpec)

/-- ITS FALSE NEIGHBOUR: 'it returns false'. Refute it at one input. -/
def wireAppendWrong : ChangeSpec := { name := "wireAppend", fn := fun _ => fun
  | [d1, d2, d3, d4, d5] => { results := [.lit (.bool false)], args := [d1, d2, d3, d4, d5] }
  | _ => none }
def WireAppendWrongFalsely : Prop := wireAppendRow.holds Try.pinned (OpenSpec.ofChange wireAppendWrong)

/-- 'pontagelaw6.WireRead': WHATEVER THE INPUT: true; the input reads as it did. -/
def wireReadSpec : ChangeSpec := { name := "wireRead", fn := fun _ => fun
  | [d1, d2] => { results := [.lit (.bool true)], args := [d1, d2] }
  | _ => none }
def wireReadRow : OpenClaim := { program := "ytbbebhmmlfjchaa", sum := "e624c3b00e81d83b01944621e1e0f03766954f8f9e4fa1692b4e4017ff942698", func := "pontage/pontagelaw6.WireRead", spec := "wireRead", apart := false }
def WireReadSaid : Prop := wireReadRow.holds Try.pinned (OpenSpec.ofChange wireReadSpec)

/-- ITS FALSE NEIGHBOUR: 'it returns false'. Refute it at one input. -/
def wireReadWrong : ChangeSpec := { name := "wireRead", fn := fun _ => fun
  | [d1, d2] => { results := [.lit (.bool false)], args := [d1, d2] }
  | _ => none }
def WireReadWrongFalsely : Prop := wireReadRow.holds Try.pinned (OpenSpec.ofChange wireReadWrong)

/-- 'pontagelaw6.WireCanonical': WHATEVER THE INPUT: true; the input reads as it did. -/
def wireCanonicalSpec : ChangeSpec := { name := "wireCanonical", fn := fun _ => fun
  | [d1, d2] => { results := [.lit (.bool true)], args := [d1, d2] }
  | _ => none }
def wireCanonicalRow : OpenClaim := { program := "ytbbebhmmlfjchaa", sum := "e624c3b00e81d83b01944621e1e0f03766954f8f9e4fa1692b4e4017ff942698", func := "pontage/pontagelaw6.WireCanonical", spec := "wireCanonical", apart := false }
def WireCanonicalSaid : Prop := wireCanonicalRow.holds Try.pinned (OpenSpec.ofChange wireCanonicalSpec)

/-- ITS FALSE NEIGHBOUR: 'it returns false'. Refute it at one input. -/
def wireCanonicalWrong : ChangeSpec := { name := "wireCanonical", fn := fun _ => fun
  | [d1, d2] => { results := [.lit (.bool false)], args := [d1, d2] }
  | _ => none }
def WireCanonicalWrongFalsely : Prop := wireCanonicalRow.holds Try.pinned (OpenSpec.ofChange wireCanonicalWrong)

/-- 'pontagelaw6.WireRoundTrip': WHATEVER THE INPUT: true; the input reads as it did. -/
def wireRoundTripSpec : ChangeSpec := { name := "wireRoundTrip", fn := fun _ => fun
  | [d1, d2, d3, d4, d5, d6] => { results := [.lit (.bool true)], args := [d1, d2, d3, d4, d5, d6] }
  | _ => none }
def wireRoundTripRow : OpenClaim := { program := "ytbbebhmmlfjchaa", sum := "e624c3b00e81d83b01944621e1e0f03766954f8f9e4fa1692b4e4017ff942698", func := "pontage/pontagelaw6.WireRoundTrip", spec := "wireRoundTrip", apart := false }
def WireRoundTripSaid : Prop := wireRoundTripRow.holds Try.pinned (OpenSpec.ofChange wireRoundTripSpec)

/-- ITS FALSE NEIGHBOUR: 'it returns false'. Refute it at one input. -/
def wireRoundTripWrong : ChangeSpec := { name := "wireRoundTrip", fn := fun _ => fun
  | [d1, d2, d3, d4, d5, d6] => { results := [.lit (.bool false)], args := [d1, d2, d3, d4, d5, d6] }
  | _ => none }
def WireRoundTripWrongFalsely : Prop := wireRoundTripRow.holds Try.pinned (OpenSpec.ofChange wireRoundTripWrong)

/- THE SECOND FORM. 'bulk': how many values and letters a reading holds, each counted each time it is reached (what is shared counts as often as it is met; a slice's spare places count too). A statement '..UptoSaid' is the law's where the arguments, and the package variables that the reading takes, are together of bulk at most 1048576: NARROWER than '..Said'. Prove '..Said' where nothing that the law and all that it calls make is longer than what came in: it says more and counts as full. Else prove '..UptoSaid'. A law counts once. -/
mutual
def uptoBulk {H : Type} : DataW H → Nat
  | .lit (.string bytes) => bytes.length + 1
  | .lit _ => 1
  | .nil => 1
  | .ptr d => uptoBulk d + 1
  | .slice elems spare => uptoBulkAll elems + uptoBulkAll spare + 1
  | .agg parts => uptoBulkAll parts + 1
  | .iface _ d => uptoBulk d + 1
  | .map entries => uptoBulkEntries entries + 1
  | .held _ => 1
def uptoBulkAll {H : Type} : List (DataW H) → Nat
  | [] => 0
  | d :: r => uptoBulk d + uptoBulkAll r
def uptoBulkEntries {H : Type} : List (Lit × DataW H) → Nat
  | [] => 0
  | x :: r => uptoBulkEntry x + uptoBulkEntries r
def uptoBulkEntry {H : Type} : Lit × DataW H → Nat
  | (.string bytes, d) => bytes.length + uptoBulk d + 1
  | (_, d) => uptoBulk d + 1
 end
def uptoSmall : (H : Type) → List (DataW H) → Bool := fun _ ds => decide (uptoBulkAll ds ≤ 1048576)
def OpenSpec.upto (s : _root_.Go.ChangeSpec) : _root_.Go.OpenSpec := { _root_.Go.OpenSpec.ofChange s with cond := some uptoSmall }

/-- 'pontagelaw6.WireMalformed', WHERE WHAT IT READS IS OF BULK AT MOST 1048576: true; the input reads as it did. -/
def wireMalformedUptoRow : OpenClaim := { program := "ytbbebhmmlfjchaa", sum := "e624c3b00e81d83b01944621e1e0f03766954f8f9e4fa1692b4e4017ff942698", func := "pontage/pontagelaw6.WireMalformed", spec := "wireMalformed", apart := false, narrowed := true }
def WireMalformedUptoSaid : Prop := wireMalformedUptoRow.holds Try.pinned (OpenSpec.upto wireMalformedSpec)

/-- 'pontagelaw6.WireSequences', WHERE WHAT IT READS IS OF BULK AT MOST 1048576: true; the input reads as it did. -/
def wireSequencesUptoRow : OpenClaim := { program := "ytbbebhmmlfjchaa", sum := "e624c3b00e81d83b01944621e1e0f03766954f8f9e4fa1692b4e4017ff942698", func := "pontage/pontagelaw6.WireSequences", spec := "wireSequences", apart := false, narrowed := true }
def WireSequencesUptoSaid : Prop := wireSequencesUptoRow.holds Try.pinned (OpenSpec.upto wireSequencesSpec)

/-- 'pontagelaw6.WireAppend', WHERE WHAT IT READS IS OF BULK AT MOST 1048576: true; the input reads as it did. -/
def wireAppendUptoRow : OpenClaim := { program := "ytbbebhmmlfjchaa", sum := "e624c3b00e81d83b01944621e1e0f03766954f8f9e4fa1692b4e4017ff942698", func := "pontage/pontagelaw6.WireAppend", spec := "wireAppend", apart := false, narrowed := true }
def WireAppendUptoSaid : Prop := wireAppendUptoRow.holds Try.pinned (OpenSpec.upto wireAppendSpec)

/-- 'pontagelaw6.WireRead', WHERE WHAT IT READS IS OF BULK AT MOST 1048576: true; the input reads as it did. -/
def wireReadUptoRow : OpenClaim := { program := "ytbbebhmmlfjchaa", sum := "e624c3b00e81d83b01944621e1e0f03766954f8f9e4fa1692b4e4017ff942698", func := "pontage/pontagelaw6.WireRead", spec := "wireRead", apart := false, narrowed := true }
def WireReadUptoSaid : Prop := wireReadUptoRow.holds Try.pinned (OpenSpec.upto wireReadSpec)

/-- 'pontagelaw6.WireCanonical', WHERE WHAT IT READS IS OF BULK AT MOST 1048576: true; the input reads as it did. -/
def wireCanonicalUptoRow : OpenClaim := { program := "ytbbebhmmlfjchaa", sum := "e624c3b00e81d83b01944621e1e0f03766954f8f9e4fa1692b4e4017ff942698", func := "pontage/pontagelaw6.WireCanonical", spec := "wireCanonical", apart := false, narrowed := true }
def WireCanonicalUptoSaid : Prop := wireCanonicalUptoRow.holds Try.pinned (OpenSpec.upto wireCanonicalSpec)

/-- 'pontagelaw6.WireRoundTrip', WHERE WHAT IT READS IS OF BULK AT MOST 1048576: true; the input reads as it did. -/
def wireRoundTripUptoRow : OpenClaim := { program := "ytbbebhmmlfjchaa", sum := "e624c3b00e81d83b01944621e1e0f03766954f8f9e4fa1692b4e4017ff942698", func := "pontage/pontagelaw6.WireRoundTrip", spec := "wireRoundTrip", apart := false, narrowed := true }
def WireRoundTripUptoSaid : Prop := wireRoundTripUptoRow.holds Try.pinned (OpenSpec.upto wireRoundTripSpec)

end Rows
end Go.Proofs.Ytbbebhmmlfjchaa
