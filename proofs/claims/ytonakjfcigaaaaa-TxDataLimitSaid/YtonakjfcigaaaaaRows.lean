/-
  No cell of these rows narrows 'for every input' (looked for: loops, veiled, ifaces, maps, wideKeys, modest, calm, conditions, laid).
  DERIVED. THE GIVEN ROWS OF THIS SEAT. 6 by the template 'for every input the law returns true; each argument reads behind the call as it read before'; 0 by the template 'total and deterministic' (their statements: YtonakjfcigaaaaaTotals.lean).
  GIVEN WITH THE SEED: the statements are not yours to turn. If you find one false, say at which input.
  Laid BY PROGRAM, IN A SANDBOX (cutbox-rows.mjs): the forced cells as the released guide's own fill.sh prints them over the translation 881ad484ce565a4a… (all of the seat's roots in one cut). By AI agents, Wed Nov 11 2026. No macro, syntax, notation, axiom, sorry.
-/
import Derived.Test.YtonakjfcigaaaaaChecked
import GoSem.Claim
import GoSem.ClaimJoined
import GoSem.ClaimMapViews
import Derived.JoinedTies
import Derived.KernelRfl
namespace Go.Proofs.Ytonakjfcigaaaaa
/- THE CELL 'sum', in the pinned program and in every row, IS THE sha256 OF THE DUMP (.gsa) THAT YtonakjfcigaaaaaProg.lean LOADS. Nothing in Lean hashes anything: it is a label: what it is worth is what the hold of that sum in a sandbox is worth. -/
noncomputable def Try.pinned : Pinned := { name := "ytonakjfcigaaaaa", sum := "881ad484ce565a4a889773003c6b28ef1f1fee817abe2db21f690797ef74f97d", checked := Try.checked }
namespace Rows
def none {H : Type} : Left H := { results := [], args := [] }

/-- 'pontagelaw22.TxEncode': WHATEVER THE INPUT: true; the input reads as it did. -/
def txEncodeSpec : ChangeSpec := { name := "txEncode", fn := fun _ => fun
  | [d1, d2] => { results := [.lit (.bool true)], args := [d1, d2] }
  | _ => none }
def txEncodeRow : OpenClaim := { program := "ytonakjfcigaaaaa", sum := "881ad484ce565a4a889773003c6b28ef1f1fee817abe2db21f690797ef74f97d", func := "pontage/pontagelaw22.TxEncode", spec := "txEncode", apart := false }
def TxEncodeSaid : Prop := txEncodeRow.holds Try.pinned (OpenSpec.ofChange txEncodeSpec)

/-- ITS FALSE NEIGHBOUR: 'it returns false'. Refute it at one input. -/
def txEncodeWrong : ChangeSpec := { name := "txEncode", fn := fun _ => fun
  | [d1, d2] => { results := [.lit (.bool false)], args := [d1, d2] }
  | _ => none }
def TxEncodeWrongFalsely : Prop := txEncodeRow.holds Try.pinned (OpenSpec.ofChange txEncodeWrong)

/-- 'pontagelaw22.TxDecode': WHATEVER THE INPUT: true; the input reads as it did. -/
def txDecodeSpec : ChangeSpec := { name := "txDecode", fn := fun _ => fun
  | [d1, d2, d3, d4, d5] => { results := [.lit (.bool true)], args := [d1, d2, d3, d4, d5] }
  | _ => none }
def txDecodeRow : OpenClaim := { program := "ytonakjfcigaaaaa", sum := "881ad484ce565a4a889773003c6b28ef1f1fee817abe2db21f690797ef74f97d", func := "pontage/pontagelaw22.TxDecode", spec := "txDecode", apart := false }
def TxDecodeSaid : Prop := txDecodeRow.holds Try.pinned (OpenSpec.ofChange txDecodeSpec)

/-- ITS FALSE NEIGHBOUR: 'it returns false'. Refute it at one input. -/
def txDecodeWrong : ChangeSpec := { name := "txDecode", fn := fun _ => fun
  | [d1, d2, d3, d4, d5] => { results := [.lit (.bool false)], args := [d1, d2, d3, d4, d5] }
  | _ => none }
def TxDecodeWrongFalsely : Prop := txDecodeRow.holds Try.pinned (OpenSpec.ofChange txDecodeWrong)

/-- 'pontagelaw22.TxRoundTrip': WHATEVER THE INPUT: true; the input reads as it did. -/
def txRoundTripSpec : ChangeSpec := { name := "txRoundTrip", fn := fun _ => fun
  | [d1, d2] => { results := [.lit (.bool true)], args := [d1, d2] }
  | _ => none }
def txRoundTripRow : OpenClaim := { program := "ytonakjfcigaaaaa", sum := "881ad484ce565a4a889773003c6b28ef1f1fee817abe2db21f690797ef74f97d", func := "pontage/pontagelaw22.TxRoundTrip", spec := "txRoundTrip", apart := false }
def TxRoundTripSaid : Prop := txRoundTripRow.holds Try.pinned (OpenSpec.ofChange txRoundTripSpec)

/-- ITS FALSE NEIGHBOUR: 'it returns false'. Refute it at one input. -/
def txRoundTripWrong : ChangeSpec := { name := "txRoundTrip", fn := fun _ => fun
  | [d1, d2] => { results := [.lit (.bool false)], args := [d1, d2] }
  | _ => none }
def TxRoundTripWrongFalsely : Prop := txRoundTripRow.holds Try.pinned (OpenSpec.ofChange txRoundTripWrong)

/-- 'pontagelaw22.TxCanonical': WHATEVER THE INPUT: true; the input reads as it did. -/
def txCanonicalSpec : ChangeSpec := { name := "txCanonical", fn := fun _ => fun
  | [d1, d2, d3, d4] => { results := [.lit (.bool true)], args := [d1, d2, d3, d4] }
  | _ => none }
def txCanonicalRow : OpenClaim := { program := "ytonakjfcigaaaaa", sum := "881ad484ce565a4a889773003c6b28ef1f1fee817abe2db21f690797ef74f97d", func := "pontage/pontagelaw22.TxCanonical", spec := "txCanonical", apart := false }
def TxCanonicalSaid : Prop := txCanonicalRow.holds Try.pinned (OpenSpec.ofChange txCanonicalSpec)

/-- ITS FALSE NEIGHBOUR: 'it returns false'. Refute it at one input. -/
def txCanonicalWrong : ChangeSpec := { name := "txCanonical", fn := fun _ => fun
  | [d1, d2, d3, d4] => { results := [.lit (.bool false)], args := [d1, d2, d3, d4] }
  | _ => none }
def TxCanonicalWrongFalsely : Prop := txCanonicalRow.holds Try.pinned (OpenSpec.ofChange txCanonicalWrong)

/-- 'pontagelaw22.TxDataLimit': WHATEVER THE INPUT: true; the input reads as it did. -/
def txDataLimitSpec : ChangeSpec := { name := "txDataLimit", fn := fun _ => fun
  | [d1, d2] => { results := [.lit (.bool true)], args := [d1, d2] }
  | _ => none }
def txDataLimitRow : OpenClaim := { program := "ytonakjfcigaaaaa", sum := "881ad484ce565a4a889773003c6b28ef1f1fee817abe2db21f690797ef74f97d", func := "pontage/pontagelaw22.TxDataLimit", spec := "txDataLimit", apart := false }
def TxDataLimitSaid : Prop := txDataLimitRow.holds Try.pinned (OpenSpec.ofChange txDataLimitSpec)

/-- ITS FALSE NEIGHBOUR: 'it returns false'. Refute it at one input. -/
def txDataLimitWrong : ChangeSpec := { name := "txDataLimit", fn := fun _ => fun
  | [d1, d2] => { results := [.lit (.bool false)], args := [d1, d2] }
  | _ => none }
def TxDataLimitWrongFalsely : Prop := txDataLimitRow.holds Try.pinned (OpenSpec.ofChange txDataLimitWrong)

/-- 'pontagelaw22.TxInjective': WHATEVER THE INPUT: true; the input reads as it did. -/
def txInjectiveSpec : ChangeSpec := { name := "txInjective", fn := fun _ => fun
  | [d1, d2, d3] => { results := [.lit (.bool true)], args := [d1, d2, d3] }
  | _ => none }
def txInjectiveRow : OpenClaim := { program := "ytonakjfcigaaaaa", sum := "881ad484ce565a4a889773003c6b28ef1f1fee817abe2db21f690797ef74f97d", func := "pontage/pontagelaw22.TxInjective", spec := "txInjective", apart := false }
def TxInjectiveSaid : Prop := txInjectiveRow.holds Try.pinned (OpenSpec.ofChange txInjectiveSpec)

/-- ITS FALSE NEIGHBOUR: 'it returns false'. Refute it at one input. -/
def txInjectiveWrong : ChangeSpec := { name := "txInjective", fn := fun _ => fun
  | [d1, d2, d3] => { results := [.lit (.bool false)], args := [d1, d2, d3] }
  | _ => none }
def TxInjectiveWrongFalsely : Prop := txInjectiveRow.holds Try.pinned (OpenSpec.ofChange txInjectiveWrong)

/- THE SECOND FORM. 'bulk': how many values and letters a reading holds, each counted each time it is reached (what is shared counts as often as it is met; a slice's spare places count too). A statement '..UptoSaid' is the law's where the arguments, and the package variables that the reading takes, are together of bulk at most 1048576: NARROWER than '..Said'. Prove '..Said' where nothing that the law and all that it calls make is longer than what came in: it says more and counts as full. Else prove '..UptoSaid'. A law counts once. -/
mutual
def uptoBulk {H : Type} : DataW H → Nat
  | .lit (.string bytes) => bytes.length + 1
  | .lit _ => 1
  | .nil => 1
  | .ptr d => uptoBulk d + 1
  | .slice elems spare => uptoBulkAll elems + uptoBulkAll spare + 1
  | .agg parts => uptoBulkAll parts + 1
  | .iface _ d => uptoBulk d + 1
  | .map entries => uptoBulkEntries entries + 1
  | .held _ => 1
def uptoBulkAll {H : Type} : List (DataW H) → Nat
  | [] => 0
  | d :: r => uptoBulk d + uptoBulkAll r
def uptoBulkEntries {H : Type} : List (Lit × DataW H) → Nat
  | [] => 0
  | x :: r => uptoBulkEntry x + uptoBulkEntries r
def uptoBulkEntry {H : Type} : Lit × DataW H → Nat
  | (.string bytes, d) => bytes.length + uptoBulk d + 1
  | (_, d) => uptoBulk d + 1
 end
def uptoSmall : (H : Type) → List (DataW H) → Bool := fun _ ds => decide (uptoBulkAll ds ≤ 1048576)
def OpenSpec.upto (s : _root_.Go.ChangeSpec) : _root_.Go.OpenSpec := { _root_.Go.OpenSpec.ofChange s with cond := some uptoSmall }

/-- 'pontagelaw22.TxEncode', WHERE WHAT IT READS IS OF BULK AT MOST 1048576: true; the input reads as it did. -/
def txEncodeUptoRow : OpenClaim := { program := "ytonakjfcigaaaaa", sum := "881ad484ce565a4a889773003c6b28ef1f1fee817abe2db21f690797ef74f97d", func := "pontage/pontagelaw22.TxEncode", spec := "txEncode", apart := false, narrowed := true }
def TxEncodeUptoSaid : Prop := txEncodeUptoRow.holds Try.pinned (OpenSpec.upto txEncodeSpec)

/-- 'pontagelaw22.TxDecode', WHERE WHAT IT READS IS OF BULK AT MOST 1048576: true; the input reads as it did. -/
def txDecodeUptoRow : OpenClaim := { program := "ytonakjfcigaaaaa", sum := "881ad484ce565a4a889773003c6b28ef1f1fee817abe2db21f690797ef74f97d", func := "pontage/pontagelaw22.TxDecode", spec := "txDecode", apart := false, narrowed := true }
def TxDecodeUptoSaid : Prop := txDecodeUptoRow.holds Try.pinned (OpenSpec.upto txDecodeSpec)

/-- 'pontagelaw22.TxRoundTrip', WHERE WHAT IT READS IS OF BULK AT MOST 1048576: true; the input reads as it did. -/
def txRoundTripUptoRow : OpenClaim := { program := "ytonakjfcigaaaaa", sum := "881ad484ce565a4a889773003c6b28ef1f1fee817abe2db21f690797ef74f97d", func := "pontage/pontagelaw22.TxRoundTrip", spec := "txRoundTrip", apart := false, narrowed := true }
def TxRoundTripUptoSaid : Prop := txRoundTripUptoRow.holds Try.pinned (OpenSpec.upto txRoundTripSpec)

/-- 'pontagelaw22.TxCanonical', WHERE WHAT IT READS IS OF BULK AT MOST 1048576: true; the input reads as it did. -/
def txCanonicalUptoRow : OpenClaim := { program := "ytonakjfcigaaaaa", sum := "881ad484ce565a4a889773003c6b28ef1f1fee817abe2db21f690797ef74f97d", func := "pontage/pontagelaw22.TxCanonical", spec := "txCanonical", apart := false, narrowed := true }
def TxCanonicalUptoSaid : Prop := txCanonicalUptoRow.holds Try.pinned (OpenSpec.upto txCanonicalSpec)

/-- 'pontagelaw22.TxDataLimit', WHERE WHAT IT READS IS OF BULK AT MOST 1048576: true; the input reads as it did. -/
def txDataLimitUptoRow : OpenClaim := { program := "ytonakjfcigaaaaa", sum := "881ad484ce565a4a889773003c6b28ef1f1fee817abe2db21f690797ef74f97d", func := "pontage/pontagelaw22.TxDataLimit", spec := "txDataLimit", apart := false, narrowed := true }
def TxDataLimitUptoSaid : Prop := txDataLimitUptoRow.holds Try.pinned (OpenSpec.upto txDataLimitSpec)

/-- 'pontagelaw22.TxInjective', WHERE WHAT IT READS IS OF BULK AT MOST 1048576: true; the input reads as it did. -/
def txInjectiveUptoRow : OpenClaim := { program := "ytonakjfcigaaaaa", sum := "881ad484ce565a4a889773003c6b28ef1f1fee817abe2db21f690797ef74f97d", func := "pontage/pontagelaw22.TxInjective", spec := "txInjective", apart := false, narrowed := true }
def TxInjectiveUptoSaid : Prop := txInjectiveUptoRow.holds Try.pinned (OpenSpec.upto txInjectiveSpec)

end Rows
end Go.Proofs.Ytonakjfcigaaaaa
