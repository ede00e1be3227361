/-
  No cell of these rows narrows 'for every input' (looked for: loops, veiled, ifaces, maps, wideKeys, modest, calm, conditions, laid).
  DERIVED. THE GIVEN ROWS OF THIS SEAT. 6 by the template 'for every input the law returns true; each argument reads behind the call as it read before'; 0 by the template 'total and deterministic' (their statements: YtjhofjdkialggaaTotals.lean).
  GIVEN WITH THE SEED: the statements are not yours to turn. If you find one false, say at which input.
  Laid BY PROGRAM, IN A SANDBOX (cutbox-rows.mjs): the forced cells as the released guide's own fill.sh prints them over the translation 7519e357e83669fd… (all of the seat's roots in one cut). By AI agents, Wed Nov 11 2026. No macro, syntax, notation, axiom, sorry.
-/
import Derived.Test.YtjhofjdkialggaaChecked
import GoSem.Claim
import GoSem.ClaimJoined
import GoSem.ClaimMapViews
import Derived.JoinedTies
import Derived.KernelRfl
namespace Go.Proofs.Ytjhofjdkialggaa
/- THE CELL 'sum', in the pinned program and in every row, IS THE sha256 OF THE DUMP (.gsa) THAT YtjhofjdkialggaaProg.lean LOADS. Nothing in Lean hashes anything: it is a label: what it is worth is what the hold of that sum in a sandbox is worth. -/
noncomputable def Try.pinned : Pinned := { name := "ytjhofjdkialggaa", sum := "7519e357e83669fd40e220ddc57e6fc06411343f4254b248d0bd342286f94981", checked := Try.checked }
namespace Rows
def none {H : Type} : Left H := { results := [], args := [] }

/-- 'pontagelaw26.StepDecode': WHATEVER THE INPUT: true; the input reads as it did. -/
def stepDecodeSpec : ChangeSpec := { name := "stepDecode", fn := fun _ => fun
  | [d1, d2, d3, d4, d5] => { results := [.lit (.bool true)], args := [d1, d2, d3, d4, d5] }
  | _ => none }
def stepDecodeRow : OpenClaim := { program := "ytjhofjdkialggaa", sum := "7519e357e83669fd40e220ddc57e6fc06411343f4254b248d0bd342286f94981", func := "pontage/pontagelaw26.StepDecode", spec := "stepDecode", apart := false }
def StepDecodeSaid : Prop := stepDecodeRow.holds Try.pinned (OpenSpec.ofChange stepDecodeSpec)

/-- ITS FALSE NEIGHBOUR: 'it returns false'. Refute it at one input. -/
def stepDecodeWrong : ChangeSpec := { name := "stepDecode", fn := fun _ => fun
  | [d1, d2, d3, d4, d5] => { results := [.lit (.bool false)], args := [d1, d2, d3, d4, d5] }
  | _ => none }
def StepDecodeWrongFalsely : Prop := stepDecodeRow.holds Try.pinned (OpenSpec.ofChange stepDecodeWrong)

/-- 'pontagelaw26.StepErrors': WHATEVER THE INPUT: true; the input reads as it did. -/
def stepErrorsSpec : ChangeSpec := { name := "stepErrors", fn := fun _ => fun
  | [d1, d2, d3] => { results := [.lit (.bool true)], args := [d1, d2, d3] }
  | _ => none }
def stepErrorsRow : OpenClaim := { program := "ytjhofjdkialggaa", sum := "7519e357e83669fd40e220ddc57e6fc06411343f4254b248d0bd342286f94981", func := "pontage/pontagelaw26.StepErrors", spec := "stepErrors", apart := false }
def StepErrorsSaid : Prop := stepErrorsRow.holds Try.pinned (OpenSpec.ofChange stepErrorsSpec)

/-- ITS FALSE NEIGHBOUR: 'it returns false'. Refute it at one input. -/
def stepErrorsWrong : ChangeSpec := { name := "stepErrors", fn := fun _ => fun
  | [d1, d2, d3] => { results := [.lit (.bool false)], args := [d1, d2, d3] }
  | _ => none }
def StepErrorsWrongFalsely : Prop := stepErrorsRow.holds Try.pinned (OpenSpec.ofChange stepErrorsWrong)

/-- 'pontagelaw26.StepEncode': WHATEVER THE INPUT: true; the input reads as it did. -/
def stepEncodeSpec : ChangeSpec := { name := "stepEncode", fn := fun _ => fun
  | [d1, d2] => { results := [.lit (.bool true)], args := [d1, d2] }
  | _ => none }
def stepEncodeRow : OpenClaim := { program := "ytjhofjdkialggaa", sum := "7519e357e83669fd40e220ddc57e6fc06411343f4254b248d0bd342286f94981", func := "pontage/pontagelaw26.StepEncode", spec := "stepEncode", apart := false }
def StepEncodeSaid : Prop := stepEncodeRow.holds Try.pinned (OpenSpec.ofChange stepEncodeSpec)

/-- ITS FALSE NEIGHBOUR: 'it returns false'. Refute it at one input. -/
def stepEncodeWrong : ChangeSpec := { name := "stepEncode", fn := fun _ => fun
  | [d1, d2] => { results := [.lit (.bool false)], args := [d1, d2] }
  | _ => none }
def StepEncodeWrongFalsely : Prop := stepEncodeRow.holds Try.pinned (OpenSpec.ofChange stepEncodeWrong)

/-- 'pontagelaw26.StepRoundTrip': WHATEVER THE INPUT: true; the input reads as it did. -/
def stepRoundTripSpec : ChangeSpec := { name := "stepRoundTrip", fn := fun _ => fun
  | [d1, d2, d3] => { results := [.lit (.bool true)], args := [d1, d2, d3] }
  | _ => none }
def stepRoundTripRow : OpenClaim := { program := "ytjhofjdkialggaa", sum := "7519e357e83669fd40e220ddc57e6fc06411343f4254b248d0bd342286f94981", func := "pontage/pontagelaw26.StepRoundTrip", spec := "stepRoundTrip", apart := false }
def StepRoundTripSaid : Prop := stepRoundTripRow.holds Try.pinned (OpenSpec.ofChange stepRoundTripSpec)

/-- ITS FALSE NEIGHBOUR: 'it returns false'. Refute it at one input. -/
def stepRoundTripWrong : ChangeSpec := { name := "stepRoundTrip", fn := fun _ => fun
  | [d1, d2, d3] => { results := [.lit (.bool false)], args := [d1, d2, d3] }
  | _ => none }
def StepRoundTripWrongFalsely : Prop := stepRoundTripRow.holds Try.pinned (OpenSpec.ofChange stepRoundTripWrong)

/-- 'pontagelaw26.StepCanonical': WHATEVER THE INPUT: true; the input reads as it did. -/
def stepCanonicalSpec : ChangeSpec := { name := "stepCanonical", fn := fun _ => fun
  | [d1, d2, d3, d4, d5] => { results := [.lit (.bool true)], args := [d1, d2, d3, d4, d5] }
  | _ => none }
def stepCanonicalRow : OpenClaim := { program := "ytjhofjdkialggaa", sum := "7519e357e83669fd40e220ddc57e6fc06411343f4254b248d0bd342286f94981", func := "pontage/pontagelaw26.StepCanonical", spec := "stepCanonical", apart := false }
def StepCanonicalSaid : Prop := stepCanonicalRow.holds Try.pinned (OpenSpec.ofChange stepCanonicalSpec)

/-- ITS FALSE NEIGHBOUR: 'it returns false'. Refute it at one input. -/
def stepCanonicalWrong : ChangeSpec := { name := "stepCanonical", fn := fun _ => fun
  | [d1, d2, d3, d4, d5] => { results := [.lit (.bool false)], args := [d1, d2, d3, d4, d5] }
  | _ => none }
def StepCanonicalWrongFalsely : Prop := stepCanonicalRow.holds Try.pinned (OpenSpec.ofChange stepCanonicalWrong)

/-- 'pontagelaw26.StepInjective': WHATEVER THE INPUT: true; the input reads as it did. -/
def stepInjectiveSpec : ChangeSpec := { name := "stepInjective", fn := fun _ => fun
  | [d1, d2, d3] => { results := [.lit (.bool true)], args := [d1, d2, d3] }
  | _ => none }
def stepInjectiveRow : OpenClaim := { program := "ytjhofjdkialggaa", sum := "7519e357e83669fd40e220ddc57e6fc06411343f4254b248d0bd342286f94981", func := "pontage/pontagelaw26.StepInjective", spec := "stepInjective", apart := false }
def StepInjectiveSaid : Prop := stepInjectiveRow.holds Try.pinned (OpenSpec.ofChange stepInjectiveSpec)

/-- ITS FALSE NEIGHBOUR: 'it returns false'. Refute it at one input. -/
def stepInjectiveWrong : ChangeSpec := { name := "stepInjective", fn := fun _ => fun
  | [d1, d2, d3] => { results := [.lit (.bool false)], args := [d1, d2, d3] }
  | _ => none }
def StepInjectiveWrongFalsely : Prop := stepInjectiveRow.holds Try.pinned (OpenSpec.ofChange stepInjectiveWrong)

/- THE SECOND FORM. 'bulk': how many values and letters a reading holds, each counted each time it is reached (what is shared counts as often as it is met; a slice's spare places count too). A statement '..UptoSaid' is the law's where the arguments, and the package variables that the reading takes, are together of bulk at most 1048576: NARROWER than '..Said'. Prove '..Said' where nothing that the law and all that it calls make is longer than what came in: it says more and counts as full. Else prove '..UptoSaid'. A law counts once. -/
mutual
def uptoBulk {H : Type} : DataW H → Nat
  | .lit (.string bytes) => bytes.length + 1
  | .lit _ => 1
  | .nil => 1
  | .ptr d => uptoBulk d + 1
  | .slice elems spare => uptoBulkAll elems + uptoBulkAll spare + 1
  | .agg parts => uptoBulkAll parts + 1
  | .iface _ d => uptoBulk d + 1
  | .map entries => uptoBulkEntries entries + 1
  | .held _ => 1
def uptoBulkAll {H : Type} : List (DataW H) → Nat
  | [] => 0
  | d :: r => uptoBulk d + uptoBulkAll r
def uptoBulkEntries {H : Type} : List (Lit × DataW H) → Nat
  | [] => 0
  | x :: r => uptoBulkEntry x + uptoBulkEntries r
def uptoBulkEntry {H : Type} : Lit × DataW H → Nat
  | (.string bytes, d) => bytes.length + uptoBulk d + 1
  | (_, d) => uptoBulk d + 1
 end
def uptoSmall : (H : Type) → List (DataW H) → Bool := fun _ ds => decide (uptoBulkAll ds ≤ 1048576)
def OpenSpec.upto (s : _root_.Go.ChangeSpec) : _root_.Go.OpenSpec := { _root_.Go.OpenSpec.ofChange s with cond := some uptoSmall }

/-- 'pontagelaw26.StepDecode', WHERE WHAT IT READS IS OF BULK AT MOST 1048576: true; the input reads as it did. -/
def stepDecodeUptoRow : OpenClaim := { program := "ytjhofjdkialggaa", sum := "7519e357e83669fd40e220ddc57e6fc06411343f4254b248d0bd342286f94981", func := "pontage/pontagelaw26.StepDecode", spec := "stepDecode", apart := false, narrowed := true }
def StepDecodeUptoSaid : Prop := stepDecodeUptoRow.holds Try.pinned (OpenSpec.upto stepDecodeSpec)

/-- 'pontagelaw26.StepErrors', WHERE WHAT IT READS IS OF BULK AT MOST 1048576: true; the input reads as it did. -/
def stepErrorsUptoRow : OpenClaim := { program := "ytjhofjdkialggaa", sum := "7519e357e83669fd40e220ddc57e6fc06411343f4254b248d0bd342286f94981", func := "pontage/pontagelaw26.StepErrors", spec := "stepErrors", apart := false, narrowed := true }
def StepErrorsUptoSaid : Prop := stepErrorsUptoRow.holds Try.pinned (OpenSpec.upto stepErrorsSpec)

/-- 'pontagelaw26.StepEncode', WHERE WHAT IT READS IS OF BULK AT MOST 1048576: true; the input reads as it did. -/
def stepEncodeUptoRow : OpenClaim := { program := "ytjhofjdkialggaa", sum := "7519e357e83669fd40e220ddc57e6fc06411343f4254b248d0bd342286f94981", func := "pontage/pontagelaw26.StepEncode", spec := "stepEncode", apart := false, narrowed := true }
def StepEncodeUptoSaid : Prop := stepEncodeUptoRow.holds Try.pinned (OpenSpec.upto stepEncodeSpec)

/-- 'pontagelaw26.StepRoundTrip', WHERE WHAT IT READS IS OF BULK AT MOST 1048576: true; the input reads as it did. -/
def stepRoundTripUptoRow : OpenClaim := { program := "ytjhofjdkialggaa", sum := "7519e357e83669fd40e220ddc57e6fc06411343f4254b248d0bd342286f94981", func := "pontage/pontagelaw26.StepRoundTrip", spec := "stepRoundTrip", apart := false, narrowed := true }
def StepRoundTripUptoSaid : Prop := stepRoundTripUptoRow.holds Try.pinned (OpenSpec.upto stepRoundTripSpec)

/-- 'pontagelaw26.StepCanonical', WHERE WHAT IT READS IS OF BULK AT MOST 1048576: true; the input reads as it did. -/
def stepCanonicalUptoRow : OpenClaim := { program := "ytjhofjdkialggaa", sum := "7519e357e83669fd40e220ddc57e6fc06411343f4254b248d0bd342286f94981", func := "pontage/pontagelaw26.StepCanonical", spec := "stepCanonical", apart := false, narrowed := true }
def StepCanonicalUptoSaid : Prop := stepCanonicalUptoRow.holds Try.pinned (OpenSpec.upto stepCanonicalSpec)

/-- 'pontagelaw26.StepInjective', WHERE WHAT IT READS IS OF BULK AT MOST 1048576: true; the input reads as it did. -/
def stepInjectiveUptoRow : OpenClaim := { program := "ytjhofjdkialggaa", sum := "7519e357e83669fd40e220ddc57e6fc06411343f4254b248d0bd342286f94981", func := "pontage/pontagelaw26.StepInjective", spec := "stepInjective", apart := false, narrowed := true }
def StepInjectiveUptoSaid : Prop := stepInjectiveUptoRow.holds Try.pinned (OpenSpec.upto stepInjectiveSpec)

end Rows
end Go.Proofs.Ytjhofjdkialggaa
