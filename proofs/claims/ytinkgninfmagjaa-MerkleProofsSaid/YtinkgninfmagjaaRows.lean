/-
  No cell of these rows narrows 'for every input' (looked for: loops, veiled, ifaces, maps, wideKeys, modest, calm, conditions, laid).
  DERIVED. THE GIVEN ROWS OF THIS SEAT. 6 by the template 'for every input the law returns true; each argument reads behind the call as it read before'; 0 by the template 'total and deterministic' (their statements: YtinkgninfmagjaaTotals.lean).
  GIVEN WITH THE SEED: the statements are not yours to turn. If you find one false, say at which input.
  Laid BY PROGRAM, IN A SANDBOX (cutbox-rows.mjs): the forced cells as the released guide's own fill.sh prints them over the translation fee54161159ee95a… (all of the seat's roots in one cut). By AI agents, Wed Nov 11 2026. No macro, syntax, notation, axiom, sorry.
-/
import Derived.Test.YtinkgninfmagjaaChecked
import GoSem.Claim
import GoSem.ClaimJoined
import GoSem.ClaimMapViews
import Derived.JoinedTies
import Derived.KernelRfl
namespace Go.Proofs.Ytinkgninfmagjaa
/- THE CELL 'sum', in the pinned program and in every row, IS THE sha256 OF THE DUMP (.gsa) THAT YtinkgninfmagjaaProg.lean LOADS. Nothing in Lean hashes anything: it is a label: what it is worth is what the hold of that sum in a sandbox is worth. -/
noncomputable def Try.pinned : Pinned := { name := "ytinkgninfmagjaa", sum := "fee54161159ee95a3cf5453611be898700f69a3df24c79242a0d49332a6fbb1b", checked := Try.checked }
namespace Rows
def none {H : Type} : Left H := { results := [], args := [] }

/-- 'pontagelaw8.MerkleProofs': WHATEVER THE INPUT: true; the input reads as it did. -/
def merkleProofsSpec : ChangeSpec := { name := "merkleProofs", fn := fun _ => fun
  | [d1, d2, d3] => { results := [.lit (.bool true)], args := [d1, d2, d3] }
  | _ => none }
def merkleProofsRow : OpenClaim := { program := "ytinkgninfmagjaa", sum := "fee54161159ee95a3cf5453611be898700f69a3df24c79242a0d49332a6fbb1b", func := "pontage/pontagelaw8.MerkleProofs", spec := "merkleProofs", recurses := true, apart := false }
def MerkleProofsSaid : Prop := merkleProofsRow.holds Try.pinned (OpenSpec.ofChange merkleProofsSpec)

/-- ITS FALSE NEIGHBOUR: 'it returns false'. Refute it at one input. -/
def merkleProofsWrong : ChangeSpec := { name := "merkleProofs", fn := fun _ => fun
  | [d1, d2, d3] => { results := [.lit (.bool false)], args := [d1, d2, d3] }
  | _ => none }
def MerkleProofsWrongFalsely : Prop := merkleProofsRow.holds Try.pinned (OpenSpec.ofChange merkleProofsWrong)

/-- 'pontagelaw8.MerkleSubtrees': WHATEVER THE INPUT: true; the input reads as it did. -/
def merkleSubtreesSpec : ChangeSpec := { name := "merkleSubtrees", fn := fun _ => fun
  | [d1, d2] => { results := [.lit (.bool true)], args := [d1, d2] }
  | _ => none }
def merkleSubtreesRow : OpenClaim := { program := "ytinkgninfmagjaa", sum := "fee54161159ee95a3cf5453611be898700f69a3df24c79242a0d49332a6fbb1b", func := "pontage/pontagelaw8.MerkleSubtrees", spec := "merkleSubtrees", recurses := true, apart := false }
def MerkleSubtreesSaid : Prop := merkleSubtreesRow.holds Try.pinned (OpenSpec.ofChange merkleSubtreesSpec)

/-- ITS FALSE NEIGHBOUR: 'it returns false'. Refute it at one input. -/
def merkleSubtreesWrong : ChangeSpec := { name := "merkleSubtrees", fn := fun _ => fun
  | [d1, d2] => { results := [.lit (.bool false)], args := [d1, d2] }
  | _ => none }
def MerkleSubtreesWrongFalsely : Prop := merkleSubtreesRow.holds Try.pinned (OpenSpec.ofChange merkleSubtreesWrong)

/-- 'pontagelaw8.MerkleRoots': WHATEVER THE INPUT: true; the input reads as it did. -/
def merkleRootsSpec : ChangeSpec := { name := "merkleRoots", fn := fun _ => fun
  | [d1, d2] => { results := [.lit (.bool true)], args := [d1, d2] }
  | _ => none }
def merkleRootsRow : OpenClaim := { program := "ytinkgninfmagjaa", sum := "fee54161159ee95a3cf5453611be898700f69a3df24c79242a0d49332a6fbb1b", func := "pontage/pontagelaw8.MerkleRoots", spec := "merkleRoots", recurses := true, apart := false }
def MerkleRootsSaid : Prop := merkleRootsRow.holds Try.pinned (OpenSpec.ofChange merkleRootsSpec)

/-- ITS FALSE NEIGHBOUR: 'it returns false'. Refute it at one input. -/
def merkleRootsWrong : ChangeSpec := { name := "merkleRoots", fn := fun _ => fun
  | [d1, d2] => { results := [.lit (.bool false)], args := [d1, d2] }
  | _ => none }
def MerkleRootsWrongFalsely : Prop := merkleRootsRow.holds Try.pinned (OpenSpec.ofChange merkleRootsWrong)

/-- 'pontagelaw8.MerkleAppendOnly': WHATEVER THE INPUT: true; the input reads as it did. -/
def merkleAppendOnlySpec : ChangeSpec := { name := "merkleAppendOnly", fn := fun _ => fun
  | [d1, d2, d3] => { results := [.lit (.bool true)], args := [d1, d2, d3] }
  | _ => none }
def merkleAppendOnlyRow : OpenClaim := { program := "ytinkgninfmagjaa", sum := "fee54161159ee95a3cf5453611be898700f69a3df24c79242a0d49332a6fbb1b", func := "pontage/pontagelaw8.MerkleAppendOnly", spec := "merkleAppendOnly", recurses := true, apart := false }
def MerkleAppendOnlySaid : Prop := merkleAppendOnlyRow.holds Try.pinned (OpenSpec.ofChange merkleAppendOnlySpec)

/-- ITS FALSE NEIGHBOUR: 'it returns false'. Refute it at one input. -/
def merkleAppendOnlyWrong : ChangeSpec := { name := "merkleAppendOnly", fn := fun _ => fun
  | [d1, d2, d3] => { results := [.lit (.bool false)], args := [d1, d2, d3] }
  | _ => none }
def MerkleAppendOnlyWrongFalsely : Prop := merkleAppendOnlyRow.holds Try.pinned (OpenSpec.ofChange merkleAppendOnlyWrong)

/-- 'pontagelaw8.MerkleVerify': WHATEVER THE INPUT: true; the input reads as it did. -/
def merkleVerifySpec : ChangeSpec := { name := "merkleVerify", fn := fun _ => fun
  | [d1, d2, d3, d4, d5, d6, d7, d8] => { results := [.lit (.bool true)], args := [d1, d2, d3, d4, d5, d6, d7, d8] }
  | _ => none }
def merkleVerifyRow : OpenClaim := { program := "ytinkgninfmagjaa", sum := "fee54161159ee95a3cf5453611be898700f69a3df24c79242a0d49332a6fbb1b", func := "pontage/pontagelaw8.MerkleVerify", spec := "merkleVerify", recurses := true, apart := false }
def MerkleVerifySaid : Prop := merkleVerifyRow.holds Try.pinned (OpenSpec.ofChange merkleVerifySpec)

/-- ITS FALSE NEIGHBOUR: 'it returns false'. Refute it at one input. -/
def merkleVerifyWrong : ChangeSpec := { name := "merkleVerify", fn := fun _ => fun
  | [d1, d2, d3, d4, d5, d6, d7, d8] => { results := [.lit (.bool false)], args := [d1, d2, d3, d4, d5, d6, d7, d8] }
  | _ => none }
def MerkleVerifyWrongFalsely : Prop := merkleVerifyRow.holds Try.pinned (OpenSpec.ofChange merkleVerifyWrong)

/-- 'pontagelaw8.MerkleCompleteness': WHATEVER THE INPUT: true; the input reads as it did. -/
def merkleCompletenessSpec : ChangeSpec := { name := "merkleCompleteness", fn := fun _ => fun
  | [d1, d2, d3] => { results := [.lit (.bool true)], args := [d1, d2, d3] }
  | _ => none }
def merkleCompletenessRow : OpenClaim := { program := "ytinkgninfmagjaa", sum := "fee54161159ee95a3cf5453611be898700f69a3df24c79242a0d49332a6fbb1b", func := "pontage/pontagelaw8.MerkleCompleteness", spec := "merkleCompleteness", recurses := true, apart := false }
def MerkleCompletenessSaid : Prop := merkleCompletenessRow.holds Try.pinned (OpenSpec.ofChange merkleCompletenessSpec)

/-- ITS FALSE NEIGHBOUR: 'it returns false'. Refute it at one input. -/
def merkleCompletenessWrong : ChangeSpec := { name := "merkleCompleteness", fn := fun _ => fun
  | [d1, d2, d3] => { results := [.lit (.bool false)], args := [d1, d2, d3] }
  | _ => none }
def MerkleCompletenessWrongFalsely : Prop := merkleCompletenessRow.holds Try.pinned (OpenSpec.ofChange merkleCompletenessWrong)

/- THE SECOND FORM. 'bulk': how many values and letters a reading holds, each counted each time it is reached (what is shared counts as often as it is met; a slice's spare places count too). A statement '..UptoSaid' is the law's where the arguments, and the package variables that the reading takes, are together of bulk at most 1048576: NARROWER than '..Said'. Prove '..Said' where nothing that the law and all that it calls make is longer than what came in: it says more and counts as full. Else prove '..UptoSaid'. A law counts once. -/
mutual
def uptoBulk {H : Type} : DataW H → Nat
  | .lit (.string bytes) => bytes.length + 1
  | .lit _ => 1
  | .nil => 1
  | .ptr d => uptoBulk d + 1
  | .slice elems spare => uptoBulkAll elems + uptoBulkAll spare + 1
  | .agg parts => uptoBulkAll parts + 1
  | .iface _ d => uptoBulk d + 1
  | .map entries => uptoBulkEntries entries + 1
  | .held _ => 1
def uptoBulkAll {H : Type} : List (DataW H) → Nat
  | [] => 0
  | d :: r => uptoBulk d + uptoBulkAll r
def uptoBulkEntries {H : Type} : List (Lit × DataW H) → Nat
  | [] => 0
  | x :: r => uptoBulkEntry x + uptoBulkEntries r
def uptoBulkEntry {H : Type} : Lit × DataW H → Nat
  | (.string bytes, d) => bytes.length + uptoBulk d + 1
  | (_, d) => uptoBulk d + 1
 end
def uptoSmall : (H : Type) → List (DataW H) → Bool := fun _ ds => decide (uptoBulkAll ds ≤ 1048576)
def OpenSpec.upto (s : _root_.Go.ChangeSpec) : _root_.Go.OpenSpec := { _root_.Go.OpenSpec.ofChange s with cond := some uptoSmall }

/-- 'pontagelaw8.MerkleProofs', WHERE WHAT IT READS IS OF BULK AT MOST 1048576: true; the input reads as it did. -/
def merkleProofsUptoRow : OpenClaim := { program := "ytinkgninfmagjaa", sum := "fee54161159ee95a3cf5453611be898700f69a3df24c79242a0d49332a6fbb1b", func := "pontage/pontagelaw8.MerkleProofs", spec := "merkleProofs", recurses := true, apart := false, narrowed := true }
def MerkleProofsUptoSaid : Prop := merkleProofsUptoRow.holds Try.pinned (OpenSpec.upto merkleProofsSpec)

/-- 'pontagelaw8.MerkleSubtrees', WHERE WHAT IT READS IS OF BULK AT MOST 1048576: true; the input reads as it did. -/
def merkleSubtreesUptoRow : OpenClaim := { program := "ytinkgninfmagjaa", sum := "fee54161159ee95a3cf5453611be898700f69a3df24c79242a0d49332a6fbb1b", func := "pontage/pontagelaw8.MerkleSubtrees", spec := "merkleSubtrees", recurses := true, apart := false, narrowed := true }
def MerkleSubtreesUptoSaid : Prop := merkleSubtreesUptoRow.holds Try.pinned (OpenSpec.upto merkleSubtreesSpec)

/-- 'pontagelaw8.MerkleRoots', WHERE WHAT IT READS IS OF BULK AT MOST 1048576: true; the input reads as it did. -/
def merkleRootsUptoRow : OpenClaim := { program := "ytinkgninfmagjaa", sum := "fee54161159ee95a3cf5453611be898700f69a3df24c79242a0d49332a6fbb1b", func := "pontage/pontagelaw8.MerkleRoots", spec := "merkleRoots", recurses := true, apart := false, narrowed := true }
def MerkleRootsUptoSaid : Prop := merkleRootsUptoRow.holds Try.pinned (OpenSpec.upto merkleRootsSpec)

/-- 'pontagelaw8.MerkleAppendOnly', WHERE WHAT IT READS IS OF BULK AT MOST 1048576: true; the input reads as it did. -/
def merkleAppendOnlyUptoRow : OpenClaim := { program := "ytinkgninfmagjaa", sum := "fee54161159ee95a3cf5453611be898700f69a3df24c79242a0d49332a6fbb1b", func := "pontage/pontagelaw8.MerkleAppendOnly", spec := "merkleAppendOnly", recurses := true, apart := false, narrowed := true }
def MerkleAppendOnlyUptoSaid : Prop := merkleAppendOnlyUptoRow.holds Try.pinned (OpenSpec.upto merkleAppendOnlySpec)

/-- 'pontagelaw8.MerkleVerify', WHERE WHAT IT READS IS OF BULK AT MOST 1048576: true; the input reads as it did. -/
def merkleVerifyUptoRow : OpenClaim := { program := "ytinkgninfmagjaa", sum := "fee54161159ee95a3cf5453611be898700f69a3df24c79242a0d49332a6fbb1b", func := "pontage/pontagelaw8.MerkleVerify", spec := "merkleVerify", recurses := true, apart := false, narrowed := true }
def MerkleVerifyUptoSaid : Prop := merkleVerifyUptoRow.holds Try.pinned (OpenSpec.upto merkleVerifySpec)

/-- 'pontagelaw8.MerkleCompleteness', WHERE WHAT IT READS IS OF BULK AT MOST 1048576: true; the input reads as it did. -/
def merkleCompletenessUptoRow : OpenClaim := { program := "ytinkgninfmagjaa", sum := "fee54161159ee95a3cf5453611be898700f69a3df24c79242a0d49332a6fbb1b", func := "pontage/pontagelaw8.MerkleCompleteness", spec := "merkleCompleteness", recurses := true, apart := false, narrowed := true }
def MerkleCompletenessUptoSaid : Prop := merkleCompletenessUptoRow.holds Try.pinned (OpenSpec.upto merkleCompletenessSpec)

end Rows
end Go.Proofs.Ytinkgninfmagjaa
