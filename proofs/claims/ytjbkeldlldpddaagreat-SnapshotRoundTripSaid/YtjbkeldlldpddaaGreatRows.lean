/-
  No cell of these rows narrows 'for every input' (looked for: loops, veiled, ifaces, maps, wideKeys, modest, calm, conditions, laid).
  DERIVED. THE GIVEN ROWS OF THIS SEAT. 5 by the template 'for every input the law returns true; each argument reads behind the call as it read before'; 0 by the template 'total and deterministic' (their statements: YtjbkeldlldpddaaGreatTotals.lean).
  GIVEN WITH THE SEED: the statements are not yours to turn. If you find one false, say at which input.
  Laid BY PROGRAM, IN A SANDBOX (cutbox-rows.mjs): the forced cells as the released guide's own fill.sh prints them over the translation 78aa981053d54ebe… (all of the seat's roots in one cut). By AI agents, Wed Nov 11 2026. No macro, syntax, notation, axiom, sorry.
-/
import Derived.Test.YtjbkeldlldpddaaGreatChecked
import GoSem.Claim
import GoSem.ClaimJoined
import GoSem.ClaimMapViews
import Derived.JoinedTies
import Derived.KernelRfl
namespace Go.Proofs.YtjbkeldlldpddaaGreat
/- THE CELL 'sum', in the pinned program and in every row, IS THE sha256 OF THE DUMP (.gsa) THAT YtjbkeldlldpddaaGreatProg.lean LOADS. Nothing in Lean hashes anything: it is a label: what it is worth is what the hold of that sum in a sandbox is worth. -/
noncomputable def Tryz.pinned : Pinned := { name := "ytjbkeldlldpddaagreat", sum := "78aa981053d54ebe667346e91c7335547dbbcd3e39eff000597b747f991f001c", checked := Tryz.checked }
namespace Rows
def none {H : Type} : Left H := { results := [], args := [] }

/-- 'pontagelaw27.SnapshotDecode': WHATEVER THE INPUT: true; the input reads as it did. -/
def snapshotDecodeSpec : ChangeSpec := { name := "snapshotDecode", fn := fun _ => fun
  | [d1, d2, d3, d4, d5] => { results := [.lit (.bool true)], args := [d1, d2, d3, d4, d5] }
  | _ => none }
def snapshotDecodeRow : OpenClaim := { program := "ytjbkeldlldpddaagreat", sum := "78aa981053d54ebe667346e91c7335547dbbcd3e39eff000597b747f991f001c", func := "pontage/pontagelaw27.SnapshotDecode", spec := "snapshotDecode", inPlace := ["math/bits.Add64"], unfollowed := true, recurses := true, apart := false }
def SnapshotDecodeSaid : Prop := snapshotDecodeRow.holds Tryz.pinned (OpenSpec.ofChange snapshotDecodeSpec)

/-- ITS FALSE NEIGHBOUR: 'it returns false'. Refute it at one input. -/
def snapshotDecodeWrong : ChangeSpec := { name := "snapshotDecode", fn := fun _ => fun
  | [d1, d2, d3, d4, d5] => { results := [.lit (.bool false)], args := [d1, d2, d3, d4, d5] }
  | _ => none }
def SnapshotDecodeWrongFalsely : Prop := snapshotDecodeRow.holds Tryz.pinned (OpenSpec.ofChange snapshotDecodeWrong)

/-- 'pontagelaw27.SnapshotCanonical': WHATEVER THE INPUT: true; the input reads as it did. -/
def snapshotCanonicalSpec : ChangeSpec := { name := "snapshotCanonical", fn := fun _ => fun
  | [d1, d2, d3] => { results := [.lit (.bool true)], args := [d1, d2, d3] }
  | _ => none }
def snapshotCanonicalRow : OpenClaim := { program := "ytjbkeldlldpddaagreat", sum := "78aa981053d54ebe667346e91c7335547dbbcd3e39eff000597b747f991f001c", func := "pontage/pontagelaw27.SnapshotCanonical", spec := "snapshotCanonical", inPlace := ["math/bits.Add64"], unfollowed := true, recurses := true, apart := false }
def SnapshotCanonicalSaid : Prop := snapshotCanonicalRow.holds Tryz.pinned (OpenSpec.ofChange snapshotCanonicalSpec)

/-- ITS FALSE NEIGHBOUR: 'it returns false'. Refute it at one input. -/
def snapshotCanonicalWrong : ChangeSpec := { name := "snapshotCanonical", fn := fun _ => fun
  | [d1, d2, d3] => { results := [.lit (.bool false)], args := [d1, d2, d3] }
  | _ => none }
def SnapshotCanonicalWrongFalsely : Prop := snapshotCanonicalRow.holds Tryz.pinned (OpenSpec.ofChange snapshotCanonicalWrong)

/-- 'pontagelaw27.SnapshotReference': WHATEVER THE INPUT: true; the input reads as it did. -/
def snapshotReferenceSpec : ChangeSpec := { name := "snapshotReference", fn := fun _ => fun
  | [d1, d2, d3, d4] => { results := [.lit (.bool true)], args := [d1, d2, d3, d4] }
  | _ => none }
def snapshotReferenceRow : OpenClaim := { program := "ytjbkeldlldpddaagreat", sum := "78aa981053d54ebe667346e91c7335547dbbcd3e39eff000597b747f991f001c", func := "pontage/pontagelaw27.SnapshotReference", spec := "snapshotReference", inPlace := ["math/bits.Add64"], unfollowed := true, recurses := true, apart := false }
def SnapshotReferenceSaid : Prop := snapshotReferenceRow.holds Tryz.pinned (OpenSpec.ofChange snapshotReferenceSpec)

/-- ITS FALSE NEIGHBOUR: 'it returns false'. Refute it at one input. -/
def snapshotReferenceWrong : ChangeSpec := { name := "snapshotReference", fn := fun _ => fun
  | [d1, d2, d3, d4] => { results := [.lit (.bool false)], args := [d1, d2, d3, d4] }
  | _ => none }
def SnapshotReferenceWrongFalsely : Prop := snapshotReferenceRow.holds Tryz.pinned (OpenSpec.ofChange snapshotReferenceWrong)

/-- 'pontagelaw27.SnapshotRoundTrip': WHATEVER THE INPUT: true; the input reads as it did. -/
def snapshotRoundTripSpec : ChangeSpec := { name := "snapshotRoundTrip", fn := fun _ => fun
  | [d1, d2, d3, d4] => { results := [.lit (.bool true)], args := [d1, d2, d3, d4] }
  | _ => none }
def snapshotRoundTripRow : OpenClaim := { program := "ytjbkeldlldpddaagreat", sum := "78aa981053d54ebe667346e91c7335547dbbcd3e39eff000597b747f991f001c", func := "pontage/pontagelaw27.SnapshotRoundTrip", spec := "snapshotRoundTrip", inPlace := ["math/bits.Add64"], unfollowed := true, recurses := true, apart := false }
def SnapshotRoundTripSaid : Prop := snapshotRoundTripRow.holds Tryz.pinned (OpenSpec.ofChange snapshotRoundTripSpec)

/-- ITS FALSE NEIGHBOUR: 'it returns false'. Refute it at one input. -/
def snapshotRoundTripWrong : ChangeSpec := { name := "snapshotRoundTrip", fn := fun _ => fun
  | [d1, d2, d3, d4] => { results := [.lit (.bool false)], args := [d1, d2, d3, d4] }
  | _ => none }
def SnapshotRoundTripWrongFalsely : Prop := snapshotRoundTripRow.holds Tryz.pinned (OpenSpec.ofChange snapshotRoundTripWrong)

/-- 'pontagelaw27.SnapshotInjective': WHATEVER THE INPUT: true; the input reads as it did. -/
def snapshotInjectiveSpec : ChangeSpec := { name := "snapshotInjective", fn := fun _ => fun
  | [d1, d2, d3] => { results := [.lit (.bool true)], args := [d1, d2, d3] }
  | _ => none }
def snapshotInjectiveRow : OpenClaim := { program := "ytjbkeldlldpddaagreat", sum := "78aa981053d54ebe667346e91c7335547dbbcd3e39eff000597b747f991f001c", func := "pontage/pontagelaw27.SnapshotInjective", spec := "snapshotInjective", inPlace := ["math/bits.Add64"], unfollowed := true, recurses := true, apart := false }
def SnapshotInjectiveSaid : Prop := snapshotInjectiveRow.holds Tryz.pinned (OpenSpec.ofChange snapshotInjectiveSpec)

/-- ITS FALSE NEIGHBOUR: 'it returns false'. Refute it at one input. -/
def snapshotInjectiveWrong : ChangeSpec := { name := "snapshotInjective", fn := fun _ => fun
  | [d1, d2, d3] => { results := [.lit (.bool false)], args := [d1, d2, d3] }
  | _ => none }
def SnapshotInjectiveWrongFalsely : Prop := snapshotInjectiveRow.holds Tryz.pinned (OpenSpec.ofChange snapshotInjectiveWrong)

/- THE SECOND FORM. 'bulk': how many values and letters a reading holds, each counted each time it is reached (what is shared counts as often as it is met; a slice's spare places count too). A statement '..UptoSaid' is the law's where the arguments, and the package variables that the reading takes, are together of bulk at most 1048576: NARROWER than '..Said'. Prove '..Said' where nothing that the law and all that it calls make is longer than what came in: it says more and counts as full. Else prove '..UptoSaid'. A law counts once. -/
mutual
def uptoBulk {H : Type} : DataW H → Nat
  | .lit (.string bytes) => bytes.length + 1
  | .lit _ => 1
  | .nil => 1
  | .ptr d => uptoBulk d + 1
  | .slice elems spare => uptoBulkAll elems + uptoBulkAll spare + 1
  | .agg parts => uptoBulkAll parts + 1
  | .iface _ d => uptoBulk d + 1
  | .map entries => uptoBulkEntries entries + 1
  | .held _ => 1
def uptoBulkAll {H : Type} : List (DataW H) → Nat
  | [] => 0
  | d :: r => uptoBulk d + uptoBulkAll r
def uptoBulkEntries {H : Type} : List (Lit × DataW H) → Nat
  | [] => 0
  | x :: r => uptoBulkEntry x + uptoBulkEntries r
def uptoBulkEntry {H : Type} : Lit × DataW H → Nat
  | (.string bytes, d) => bytes.length + uptoBulk d + 1
  | (_, d) => uptoBulk d + 1
 end
def uptoSmall : (H : Type) → List (DataW H) → Bool := fun _ ds => decide (uptoBulkAll ds ≤ 1048576)
def OpenSpec.upto (s : _root_.Go.ChangeSpec) : _root_.Go.OpenSpec := { _root_.Go.OpenSpec.ofChange s with cond := some uptoSmall }

/-- 'pontagelaw27.SnapshotDecode', WHERE WHAT IT READS IS OF BULK AT MOST 1048576: true; the input reads as it did. -/
def snapshotDecodeUptoRow : OpenClaim := { program := "ytjbkeldlldpddaagreat", sum := "78aa981053d54ebe667346e91c7335547dbbcd3e39eff000597b747f991f001c", func := "pontage/pontagelaw27.SnapshotDecode", spec := "snapshotDecode", inPlace := ["math/bits.Add64"], unfollowed := true, recurses := true, apart := false, narrowed := true }
def SnapshotDecodeUptoSaid : Prop := snapshotDecodeUptoRow.holds Tryz.pinned (OpenSpec.upto snapshotDecodeSpec)

/-- 'pontagelaw27.SnapshotCanonical', WHERE WHAT IT READS IS OF BULK AT MOST 1048576: true; the input reads as it did. -/
def snapshotCanonicalUptoRow : OpenClaim := { program := "ytjbkeldlldpddaagreat", sum := "78aa981053d54ebe667346e91c7335547dbbcd3e39eff000597b747f991f001c", func := "pontage/pontagelaw27.SnapshotCanonical", spec := "snapshotCanonical", inPlace := ["math/bits.Add64"], unfollowed := true, recurses := true, apart := false, narrowed := true }
def SnapshotCanonicalUptoSaid : Prop := snapshotCanonicalUptoRow.holds Tryz.pinned (OpenSpec.upto snapshotCanonicalSpec)

/-- 'pontagelaw27.SnapshotReference', WHERE WHAT IT READS IS OF BULK AT MOST 1048576: true; the input reads as it did. -/
def snapshotReferenceUptoRow : OpenClaim := { program := "ytjbkeldlldpddaagreat", sum := "78aa981053d54ebe667346e91c7335547dbbcd3e39eff000597b747f991f001c", func := "pontage/pontagelaw27.SnapshotReference", spec := "snapshotReference", inPlace := ["math/bits.Add64"], unfollowed := true, recurses := true, apart := false, narrowed := true }
def SnapshotReferenceUptoSaid : Prop := snapshotReferenceUptoRow.holds Tryz.pinned (OpenSpec.upto snapshotReferenceSpec)

/-- 'pontagelaw27.SnapshotRoundTrip', WHERE WHAT IT READS IS OF BULK AT MOST 1048576: true; the input reads as it did. -/
def snapshotRoundTripUptoRow : OpenClaim := { program := "ytjbkeldlldpddaagreat", sum := "78aa981053d54ebe667346e91c7335547dbbcd3e39eff000597b747f991f001c", func := "pontage/pontagelaw27.SnapshotRoundTrip", spec := "snapshotRoundTrip", inPlace := ["math/bits.Add64"], unfollowed := true, recurses := true, apart := false, narrowed := true }
def SnapshotRoundTripUptoSaid : Prop := snapshotRoundTripUptoRow.holds Tryz.pinned (OpenSpec.upto snapshotRoundTripSpec)

/-- 'pontagelaw27.SnapshotInjective', WHERE WHAT IT READS IS OF BULK AT MOST 1048576: true; the input reads as it did. -/
def snapshotInjectiveUptoRow : OpenClaim := { program := "ytjbkeldlldpddaagreat", sum := "78aa981053d54ebe667346e91c7335547dbbcd3e39eff000597b747f991f001c", func := "pontage/pontagelaw27.SnapshotInjective", spec := "snapshotInjective", inPlace := ["math/bits.Add64"], unfollowed := true, recurses := true, apart := false, narrowed := true }
def SnapshotInjectiveUptoSaid : Prop := snapshotInjectiveUptoRow.holds Tryz.pinned (OpenSpec.upto snapshotInjectiveSpec)

end Rows
end Go.Proofs.YtjbkeldlldpddaaGreat
