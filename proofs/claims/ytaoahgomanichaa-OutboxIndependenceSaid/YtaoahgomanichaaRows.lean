/-
  No cell of these rows narrows 'for every input' (looked for: loops, veiled, ifaces, maps, wideKeys, modest, calm, conditions, laid).
  DERIVED. THE GIVEN ROWS OF THIS SEAT. 5 by the template 'for every input the law returns true; each argument reads behind the call as it read before'; 0 by the template 'total and deterministic' (their statements: YtaoahgomanichaaTotals.lean).
  GIVEN WITH THE SEED: the statements are not yours to turn. If you find one false, say at which input.
  Laid BY PROGRAM, IN A SANDBOX (cutbox-rows.mjs): the forced cells as the released guide's own fill.sh prints them over the translation 3d0bea2c9bc14fc9… (all of the seat's roots in one cut). By AI agents, Wed Nov 11 2026. No macro, syntax, notation, axiom, sorry.
-/
import Derived.Test.YtaoahgomanichaaChecked
import GoSem.Claim
import GoSem.ClaimJoined
import GoSem.ClaimMapViews
import Derived.JoinedTies
import Derived.KernelRfl
namespace Go.Proofs.Ytaoahgomanichaa
/- THE CELL 'sum', in the pinned program and in every row, IS THE sha256 OF THE DUMP (.gsa) THAT YtaoahgomanichaaProg.lean LOADS. Nothing in Lean hashes anything: it is a label: what it is worth is what the hold of that sum in a sandbox is worth. -/
noncomputable def Try.pinned : Pinned := { name := "ytaoahgomanichaa", sum := "3d0bea2c9bc14fc9803cba9fda24fbfdbf873050cf6bcc8ff10a63f052722870", checked := Try.checked }
namespace Rows
def none {H : Type} : Left H := { results := [], args := [] }

/-- 'pontagelaw24.OutboxLoad': WHATEVER THE INPUT: true; the input reads as it did. -/
def outboxLoadSpec : ChangeSpec := { name := "outboxLoad", fn := fun _ => fun
  | [d1, d2, d3, d4] => { results := [.lit (.bool true)], args := [d1, d2, d3, d4] }
  | _ => none }
def outboxLoadRow : OpenClaim := { program := "ytaoahgomanichaa", sum := "3d0bea2c9bc14fc9803cba9fda24fbfdbf873050cf6bcc8ff10a63f052722870", func := "pontage/pontagelaw24.OutboxLoad", spec := "outboxLoad", apart := false }
def OutboxLoadSaid : Prop := outboxLoadRow.holds Try.pinned (OpenSpec.ofChange outboxLoadSpec)

/-- ITS FALSE NEIGHBOUR: 'it returns false'. Refute it at one input. -/
def outboxLoadWrong : ChangeSpec := { name := "outboxLoad", fn := fun _ => fun
  | [d1, d2, d3, d4] => { results := [.lit (.bool false)], args := [d1, d2, d3, d4] }
  | _ => none }
def OutboxLoadWrongFalsely : Prop := outboxLoadRow.holds Try.pinned (OpenSpec.ofChange outboxLoadWrong)

/-- 'pontagelaw24.OutboxPrefixStable': WHATEVER THE INPUT: true; the input reads as it did. -/
def outboxPrefixStableSpec : ChangeSpec := { name := "outboxPrefixStable", fn := fun _ => fun
  | [d1, d2, d3, d4] => { results := [.lit (.bool true)], args := [d1, d2, d3, d4] }
  | _ => none }
def outboxPrefixStableRow : OpenClaim := { program := "ytaoahgomanichaa", sum := "3d0bea2c9bc14fc9803cba9fda24fbfdbf873050cf6bcc8ff10a63f052722870", func := "pontage/pontagelaw24.OutboxPrefixStable", spec := "outboxPrefixStable", recurses := true, apart := false }
def OutboxPrefixStableSaid : Prop := outboxPrefixStableRow.holds Try.pinned (OpenSpec.ofChange outboxPrefixStableSpec)

/-- ITS FALSE NEIGHBOUR: 'it returns false'. Refute it at one input. -/
def outboxPrefixStableWrong : ChangeSpec := { name := "outboxPrefixStable", fn := fun _ => fun
  | [d1, d2, d3, d4] => { results := [.lit (.bool false)], args := [d1, d2, d3, d4] }
  | _ => none }
def OutboxPrefixStableWrongFalsely : Prop := outboxPrefixStableRow.holds Try.pinned (OpenSpec.ofChange outboxPrefixStableWrong)

/-- 'pontagelaw24.OutboxCalls': WHATEVER THE INPUT: true; the input reads as it did. -/
def outboxCallsSpec : ChangeSpec := { name := "outboxCalls", fn := fun _ => fun
  | [d1, d2, d3] => { results := [.lit (.bool true)], args := [d1, d2, d3] }
  | _ => none }
def outboxCallsRow : OpenClaim := { program := "ytaoahgomanichaa", sum := "3d0bea2c9bc14fc9803cba9fda24fbfdbf873050cf6bcc8ff10a63f052722870", func := "pontage/pontagelaw24.OutboxCalls", spec := "outboxCalls", recurses := true, apart := false }
def OutboxCallsSaid : Prop := outboxCallsRow.holds Try.pinned (OpenSpec.ofChange outboxCallsSpec)

/-- ITS FALSE NEIGHBOUR: 'it returns false'. Refute it at one input. -/
def outboxCallsWrong : ChangeSpec := { name := "outboxCalls", fn := fun _ => fun
  | [d1, d2, d3] => { results := [.lit (.bool false)], args := [d1, d2, d3] }
  | _ => none }
def OutboxCallsWrongFalsely : Prop := outboxCallsRow.holds Try.pinned (OpenSpec.ofChange outboxCallsWrong)

/-- 'pontagelaw24.OutboxProofs': WHATEVER THE INPUT: true; the input reads as it did. -/
def outboxProofsSpec : ChangeSpec := { name := "outboxProofs", fn := fun _ => fun
  | [d1, d2, d3] => { results := [.lit (.bool true)], args := [d1, d2, d3] }
  | _ => none }
def outboxProofsRow : OpenClaim := { program := "ytaoahgomanichaa", sum := "3d0bea2c9bc14fc9803cba9fda24fbfdbf873050cf6bcc8ff10a63f052722870", func := "pontage/pontagelaw24.OutboxProofs", spec := "outboxProofs", recurses := true, apart := false }
def OutboxProofsSaid : Prop := outboxProofsRow.holds Try.pinned (OpenSpec.ofChange outboxProofsSpec)

/-- ITS FALSE NEIGHBOUR: 'it returns false'. Refute it at one input. -/
def outboxProofsWrong : ChangeSpec := { name := "outboxProofs", fn := fun _ => fun
  | [d1, d2, d3] => { results := [.lit (.bool false)], args := [d1, d2, d3] }
  | _ => none }
def OutboxProofsWrongFalsely : Prop := outboxProofsRow.holds Try.pinned (OpenSpec.ofChange outboxProofsWrong)

/-- 'pontagelaw24.OutboxIndependence': WHATEVER THE INPUT: true; the input reads as it did. -/
def outboxIndependenceSpec : ChangeSpec := { name := "outboxIndependence", fn := fun _ => fun
  | [d1, d2, d3, d4] => { results := [.lit (.bool true)], args := [d1, d2, d3, d4] }
  | _ => none }
def outboxIndependenceRow : OpenClaim := { program := "ytaoahgomanichaa", sum := "3d0bea2c9bc14fc9803cba9fda24fbfdbf873050cf6bcc8ff10a63f052722870", func := "pontage/pontagelaw24.OutboxIndependence", spec := "outboxIndependence", recurses := true, apart := false }
def OutboxIndependenceSaid : Prop := outboxIndependenceRow.holds Try.pinned (OpenSpec.ofChange outboxIndependenceSpec)

/-- ITS FALSE NEIGHBOUR: 'it returns false'. Refute it at one input. -/
def outboxIndependenceWrong : ChangeSpec := { name := "outboxIndependence", fn := fun _ => fun
  | [d1, d2, d3, d4] => { results := [.lit (.bool false)], args := [d1, d2, d3, d4] }
  | _ => none }
def OutboxIndependenceWrongFalsely : Prop := outboxIndependenceRow.holds Try.pinned (OpenSpec.ofChange outboxIndependenceWrong)

/- THE SECOND FORM. 'bulk': how many values and letters a reading holds, each counted each time it is reached (what is shared counts as often as it is met; a slice's spare places count too). A statement '..UptoSaid' is the law's where the arguments, and the package variables that the reading takes, are together of bulk at most 1048576: NARROWER than '..Said'. Prove '..Said' where nothing that the law and all that it calls make is longer than what came in: it says more and counts as full. Else prove '..UptoSaid'. A law counts once. -/
mutual
def uptoBulk {H : Type} : DataW H → Nat
  | .lit (.string bytes) => bytes.length + 1
  | .lit _ => 1
  | .nil => 1
  | .ptr d => uptoBulk d + 1
  | .slice elems spare => uptoBulkAll elems + uptoBulkAll spare + 1
  | .agg parts => uptoBulkAll parts + 1
  | .iface _ d => uptoBulk d + 1
  | .map entries => uptoBulkEntries entries + 1
  | .held _ => 1
def uptoBulkAll {H : Type} : List (DataW H) → Nat
  | [] => 0
  | d :: r => uptoBulk d + uptoBulkAll r
def uptoBulkEntries {H : Type} : List (Lit × DataW H) → Nat
  | [] => 0
  | x :: r => uptoBulkEntry x + uptoBulkEntries r
def uptoBulkEntry {H : Type} : Lit × DataW H → Nat
  | (.string bytes, d) => bytes.length + uptoBulk d + 1
  | (_, d) => uptoBulk d + 1
 end
def uptoSmall : (H : Type) → List (DataW H) → Bool := fun _ ds => decide (uptoBulkAll ds ≤ 1048576)
def OpenSpec.upto (s : _root_.Go.ChangeSpec) : _root_.Go.OpenSpec := { _root_.Go.OpenSpec.ofChange s with cond := some uptoSmall }

/-- 'pontagelaw24.OutboxLoad', WHERE WHAT IT READS IS OF BULK AT MOST 1048576: true; the input reads as it did. -/
def outboxLoadUptoRow : OpenClaim := { program := "ytaoahgomanichaa", sum := "3d0bea2c9bc14fc9803cba9fda24fbfdbf873050cf6bcc8ff10a63f052722870", func := "pontage/pontagelaw24.OutboxLoad", spec := "outboxLoad", apart := false, narrowed := true }
def OutboxLoadUptoSaid : Prop := outboxLoadUptoRow.holds Try.pinned (OpenSpec.upto outboxLoadSpec)

/-- 'pontagelaw24.OutboxPrefixStable', WHERE WHAT IT READS IS OF BULK AT MOST 1048576: true; the input reads as it did. -/
def outboxPrefixStableUptoRow : OpenClaim := { program := "ytaoahgomanichaa", sum := "3d0bea2c9bc14fc9803cba9fda24fbfdbf873050cf6bcc8ff10a63f052722870", func := "pontage/pontagelaw24.OutboxPrefixStable", spec := "outboxPrefixStable", recurses := true, apart := false, narrowed := true }
def OutboxPrefixStableUptoSaid : Prop := outboxPrefixStableUptoRow.holds Try.pinned (OpenSpec.upto outboxPrefixStableSpec)

/-- 'pontagelaw24.OutboxCalls', WHERE WHAT IT READS IS OF BULK AT MOST 1048576: true; the input reads as it did. -/
def outboxCallsUptoRow : OpenClaim := { program := "ytaoahgomanichaa", sum := "3d0bea2c9bc14fc9803cba9fda24fbfdbf873050cf6bcc8ff10a63f052722870", func := "pontage/pontagelaw24.OutboxCalls", spec := "outboxCalls", recurses := true, apart := false, narrowed := true }
def OutboxCallsUptoSaid : Prop := outboxCallsUptoRow.holds Try.pinned (OpenSpec.upto outboxCallsSpec)

/-- 'pontagelaw24.OutboxProofs', WHERE WHAT IT READS IS OF BULK AT MOST 1048576: true; the input reads as it did. -/
def outboxProofsUptoRow : OpenClaim := { program := "ytaoahgomanichaa", sum := "3d0bea2c9bc14fc9803cba9fda24fbfdbf873050cf6bcc8ff10a63f052722870", func := "pontage/pontagelaw24.OutboxProofs", spec := "outboxProofs", recurses := true, apart := false, narrowed := true }
def OutboxProofsUptoSaid : Prop := outboxProofsUptoRow.holds Try.pinned (OpenSpec.upto outboxProofsSpec)

/-- 'pontagelaw24.OutboxIndependence', WHERE WHAT IT READS IS OF BULK AT MOST 1048576: true; the input reads as it did. -/
def outboxIndependenceUptoRow : OpenClaim := { program := "ytaoahgomanichaa", sum := "3d0bea2c9bc14fc9803cba9fda24fbfdbf873050cf6bcc8ff10a63f052722870", func := "pontage/pontagelaw24.OutboxIndependence", spec := "outboxIndependence", recurses := true, apart := false, narrowed := true }
def OutboxIndependenceUptoSaid : Prop := outboxIndependenceUptoRow.holds Try.pinned (OpenSpec.upto outboxIndependenceSpec)

end Rows
end Go.Proofs.Ytaoahgomanichaa
