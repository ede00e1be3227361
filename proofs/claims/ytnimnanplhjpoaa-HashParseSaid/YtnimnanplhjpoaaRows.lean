/-
  No cell of these rows narrows 'for every input' (looked for: loops, veiled, ifaces, maps, wideKeys, modest, calm, conditions, laid).
  DERIVED. THE GIVEN ROWS OF THIS SEAT. 6 by the template 'for every input the law returns true; each argument reads behind the call as it read before'; 0 by the template 'total and deterministic' (their statements: YtnimnanplhjpoaaTotals.lean).
  GIVEN WITH THE SEED: the statements are not yours to turn. If you find one false, say at which input.
  Laid BY PROGRAM, IN A SANDBOX (cutbox-rows.mjs): the forced cells as the released guide's own fill.sh prints them over the translation 9c1f0ac60b0bf2af… (all of the seat's roots in one cut). By AI agents, Wed Nov 11 2026. No macro, syntax, notation, axiom, sorry.
-/
import Derived.Test.YtnimnanplhjpoaaChecked
import GoSem.Claim
import GoSem.ClaimJoined
import GoSem.ClaimMapViews
import Derived.JoinedTies
import Derived.KernelRfl
namespace Go.Proofs.Ytnimnanplhjpoaa
/- THE CELL 'sum', in the pinned program and in every row, IS THE sha256 OF THE DUMP (.gsa) THAT YtnimnanplhjpoaaProg.lean LOADS. Nothing in Lean hashes anything: it is a label: what it is worth is what the hold of that sum in a sandbox is worth. -/
noncomputable def Try.pinned : Pinned := { name := "ytnimnanplhjpoaa", sum := "9c1f0ac60b0bf2af93427dfffc26d212fad3951594d866b9de090ff7c85f17b1", checked := Try.checked }
namespace Rows
def none {H : Type} : Left H := { results := [], args := [] }

/-- 'pontagelaw7.HashPadding': WHATEVER THE INPUT: true; the input reads as it did. -/
def hashPaddingSpec : ChangeSpec := { name := "hashPadding", fn := fun _ => fun
  | [d1, d2, d3] => { results := [.lit (.bool true)], args := [d1, d2, d3] }
  | _ => none }
def hashPaddingRow : OpenClaim := { program := "ytnimnanplhjpoaa", sum := "9c1f0ac60b0bf2af93427dfffc26d212fad3951594d866b9de090ff7c85f17b1", func := "pontage/pontagelaw7.HashPadding", spec := "hashPadding", apart := false }
def HashPaddingSaid : Prop := hashPaddingRow.holds Try.pinned (OpenSpec.ofChange hashPaddingSpec)

/-- ITS FALSE NEIGHBOUR: 'it returns false'. Refute it at one input. -/
def hashPaddingWrong : ChangeSpec := { name := "hashPadding", fn := fun _ => fun
  | [d1, d2, d3] => { results := [.lit (.bool false)], args := [d1, d2, d3] }
  | _ => none }
def HashPaddingWrongFalsely : Prop := hashPaddingRow.holds Try.pinned (OpenSpec.ofChange hashPaddingWrong)

/-- 'pontagelaw7.HashSum': WHATEVER THE INPUT: true; the input reads as it did. -/
def hashSumSpec : ChangeSpec := { name := "hashSum", fn := fun _ => fun
  | [d] => { results := [.lit (.bool true)], args := [d] }
  | _ => none }
def hashSumRow : OpenClaim := { program := "ytnimnanplhjpoaa", sum := "9c1f0ac60b0bf2af93427dfffc26d212fad3951594d866b9de090ff7c85f17b1", func := "pontage/pontagelaw7.HashSum", spec := "hashSum", apart := false }
def HashSumSaid : Prop := hashSumRow.holds Try.pinned (OpenSpec.ofChange hashSumSpec)

/-- ITS FALSE NEIGHBOUR: 'it returns false'. Refute it at one input. -/
def hashSumWrong : ChangeSpec := { name := "hashSum", fn := fun _ => fun
  | [d] => { results := [.lit (.bool false)], args := [d] }
  | _ => none }
def HashSumWrongFalsely : Prop := hashSumRow.holds Try.pinned (OpenSpec.ofChange hashSumWrong)

/-- 'pontagelaw7.HashNode': WHATEVER THE INPUT: true; the input reads as it did. -/
def hashNodeSpec : ChangeSpec := { name := "hashNode", fn := fun _ => fun
  | [d1, d2] => { results := [.lit (.bool true)], args := [d1, d2] }
  | _ => none }
def hashNodeRow : OpenClaim := { program := "ytnimnanplhjpoaa", sum := "9c1f0ac60b0bf2af93427dfffc26d212fad3951594d866b9de090ff7c85f17b1", func := "pontage/pontagelaw7.HashNode", spec := "hashNode", apart := false }
def HashNodeSaid : Prop := hashNodeRow.holds Try.pinned (OpenSpec.ofChange hashNodeSpec)

/-- ITS FALSE NEIGHBOUR: 'it returns false'. Refute it at one input. -/
def hashNodeWrong : ChangeSpec := { name := "hashNode", fn := fun _ => fun
  | [d1, d2] => { results := [.lit (.bool false)], args := [d1, d2] }
  | _ => none }
def HashNodeWrongFalsely : Prop := hashNodeRow.holds Try.pinned (OpenSpec.ofChange hashNodeWrong)

/-- 'pontagelaw7.HashPure': WHATEVER THE INPUT: true; the input reads as it did. -/
def hashPureSpec : ChangeSpec := { name := "hashPure", fn := fun _ => fun
  | [d1, d2, d3] => { results := [.lit (.bool true)], args := [d1, d2, d3] }
  | _ => none }
def hashPureRow : OpenClaim := { program := "ytnimnanplhjpoaa", sum := "9c1f0ac60b0bf2af93427dfffc26d212fad3951594d866b9de090ff7c85f17b1", func := "pontage/pontagelaw7.HashPure", spec := "hashPure", apart := false }
def HashPureSaid : Prop := hashPureRow.holds Try.pinned (OpenSpec.ofChange hashPureSpec)

/-- ITS FALSE NEIGHBOUR: 'it returns false'. Refute it at one input. -/
def hashPureWrong : ChangeSpec := { name := "hashPure", fn := fun _ => fun
  | [d1, d2, d3] => { results := [.lit (.bool false)], args := [d1, d2, d3] }
  | _ => none }
def HashPureWrongFalsely : Prop := hashPureRow.holds Try.pinned (OpenSpec.ofChange hashPureWrong)

/-- 'pontagelaw7.HashFormat': WHATEVER THE INPUT: true; the input reads as it did. -/
def hashFormatSpec : ChangeSpec := { name := "hashFormat", fn := fun _ => fun
  | [d] => { results := [.lit (.bool true)], args := [d] }
  | _ => none }
def hashFormatRow : OpenClaim := { program := "ytnimnanplhjpoaa", sum := "9c1f0ac60b0bf2af93427dfffc26d212fad3951594d866b9de090ff7c85f17b1", func := "pontage/pontagelaw7.HashFormat", spec := "hashFormat", apart := false }
def HashFormatSaid : Prop := hashFormatRow.holds Try.pinned (OpenSpec.ofChange hashFormatSpec)

/-- ITS FALSE NEIGHBOUR: 'it returns false'. Refute it at one input. -/
def hashFormatWrong : ChangeSpec := { name := "hashFormat", fn := fun _ => fun
  | [d] => { results := [.lit (.bool false)], args := [d] }
  | _ => none }
def HashFormatWrongFalsely : Prop := hashFormatRow.holds Try.pinned (OpenSpec.ofChange hashFormatWrong)

/-- 'pontagelaw7.HashParse': WHATEVER THE INPUT: true; the input reads as it did. -/
def hashParseSpec : ChangeSpec := { name := "hashParse", fn := fun _ => fun
  | [d1, d2, d3, d4, d5] => { results := [.lit (.bool true)], args := [d1, d2, d3, d4, d5] }
  | _ => none }
def hashParseRow : OpenClaim := { program := "ytnimnanplhjpoaa", sum := "9c1f0ac60b0bf2af93427dfffc26d212fad3951594d866b9de090ff7c85f17b1", func := "pontage/pontagelaw7.HashParse", spec := "hashParse", apart := false }
def HashParseSaid : Prop := hashParseRow.holds Try.pinned (OpenSpec.ofChange hashParseSpec)

/-- ITS FALSE NEIGHBOUR: 'it returns false'. Refute it at one input. -/
def hashParseWrong : ChangeSpec := { name := "hashParse", fn := fun _ => fun
  | [d1, d2, d3, d4, d5] => { results := [.lit (.bool false)], args := [d1, d2, d3, d4, d5] }
  | _ => none }
def HashParseWrongFalsely : Prop := hashParseRow.holds Try.pinned (OpenSpec.ofChange hashParseWrong)

/- THE SECOND FORM. 'bulk': how many values and letters a reading holds, each counted each time it is reached (what is shared counts as often as it is met; a slice's spare places count too). A statement '..UptoSaid' is the law's where the arguments, and the package variables that the reading takes, are together of bulk at most 1048576: NARROWER than '..Said'. Prove '..Said' where nothing that the law and all that it calls make is longer than what came in: it says more and counts as full. Else prove '..UptoSaid'. A law counts once. -/
mutual
def uptoBulk {H : Type} : DataW H → Nat
  | .lit (.string bytes) => bytes.length + 1
  | .lit _ => 1
  | .nil => 1
  | .ptr d => uptoBulk d + 1
  | .slice elems spare => uptoBulkAll elems + uptoBulkAll spare + 1
  | .agg parts => uptoBulkAll parts + 1
  | .iface _ d => uptoBulk d + 1
  | .map entries => uptoBulkEntries entries + 1
  | .held _ => 1
def uptoBulkAll {H : Type} : List (DataW H) → Nat
  | [] => 0
  | d :: r => uptoBulk d + uptoBulkAll r
def uptoBulkEntries {H : Type} : List (Lit × DataW H) → Nat
  | [] => 0
  | x :: r => uptoBulkEntry x + uptoBulkEntries r
def uptoBulkEntry {H : Type} : Lit × DataW H → Nat
  | (.string bytes, d) => bytes.length + uptoBulk d + 1
  | (_, d) => uptoBulk d + 1
 end
def uptoSmall : (H : Type) → List (DataW H) → Bool := fun _ ds => decide (uptoBulkAll ds ≤ 1048576)
def OpenSpec.upto (s : _root_.Go.ChangeSpec) : _root_.Go.OpenSpec := { _root_.Go.OpenSpec.ofChange s with cond := some uptoSmall }

/-- 'pontagelaw7.HashPadding', WHERE WHAT IT READS IS OF BULK AT MOST 1048576: true; the input reads as it did. -/
def hashPaddingUptoRow : OpenClaim := { program := "ytnimnanplhjpoaa", sum := "9c1f0ac60b0bf2af93427dfffc26d212fad3951594d866b9de090ff7c85f17b1", func := "pontage/pontagelaw7.HashPadding", spec := "hashPadding", apart := false, narrowed := true }
def HashPaddingUptoSaid : Prop := hashPaddingUptoRow.holds Try.pinned (OpenSpec.upto hashPaddingSpec)

/-- 'pontagelaw7.HashSum', WHERE WHAT IT READS IS OF BULK AT MOST 1048576: true; the input reads as it did. -/
def hashSumUptoRow : OpenClaim := { program := "ytnimnanplhjpoaa", sum := "9c1f0ac60b0bf2af93427dfffc26d212fad3951594d866b9de090ff7c85f17b1", func := "pontage/pontagelaw7.HashSum", spec := "hashSum", apart := false, narrowed := true }
def HashSumUptoSaid : Prop := hashSumUptoRow.holds Try.pinned (OpenSpec.upto hashSumSpec)

/-- 'pontagelaw7.HashNode', WHERE WHAT IT READS IS OF BULK AT MOST 1048576: true; the input reads as it did. -/
def hashNodeUptoRow : OpenClaim := { program := "ytnimnanplhjpoaa", sum := "9c1f0ac60b0bf2af93427dfffc26d212fad3951594d866b9de090ff7c85f17b1", func := "pontage/pontagelaw7.HashNode", spec := "hashNode", apart := false, narrowed := true }
def HashNodeUptoSaid : Prop := hashNodeUptoRow.holds Try.pinned (OpenSpec.upto hashNodeSpec)

/-- 'pontagelaw7.HashPure', WHERE WHAT IT READS IS OF BULK AT MOST 1048576: true; the input reads as it did. -/
def hashPureUptoRow : OpenClaim := { program := "ytnimnanplhjpoaa", sum := "9c1f0ac60b0bf2af93427dfffc26d212fad3951594d866b9de090ff7c85f17b1", func := "pontage/pontagelaw7.HashPure", spec := "hashPure", apart := false, narrowed := true }
def HashPureUptoSaid : Prop := hashPureUptoRow.holds Try.pinned (OpenSpec.upto hashPureSpec)

/-- 'pontagelaw7.HashFormat', WHERE WHAT IT READS IS OF BULK AT MOST 1048576: true; the input reads as it did. -/
def hashFormatUptoRow : OpenClaim := { program := "ytnimnanplhjpoaa", sum := "9c1f0ac60b0bf2af93427dfffc26d212fad3951594d866b9de090ff7c85f17b1", func := "pontage/pontagelaw7.HashFormat", spec := "hashFormat", apart := false, narrowed := true }
def HashFormatUptoSaid : Prop := hashFormatUptoRow.holds Try.pinned (OpenSpec.upto hashFormatSpec)

/-- 'pontagelaw7.HashParse', WHERE WHAT IT READS IS OF BULK AT MOST 1048576: true; the input reads as it did. -/
def hashParseUptoRow : OpenClaim := { program := "ytnimnanplhjpoaa", sum := "9c1f0ac60b0bf2af93427dfffc26d212fad3951594d866b9de090ff7c85f17b1", func := "pontage/pontagelaw7.HashParse", spec := "hashParse", apart := false, narrowed := true }
def HashParseUptoSaid : Prop := hashParseUptoRow.holds Try.pinned (OpenSpec.upto hashParseSpec)

end Rows
end Go.Proofs.Ytnimnanplhjpoaa
