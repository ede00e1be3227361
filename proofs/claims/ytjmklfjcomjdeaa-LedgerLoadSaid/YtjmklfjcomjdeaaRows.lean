/-
  No cell of these rows narrows 'for every input' (looked for: loops, veiled, ifaces, maps, wideKeys, modest, calm, conditions, laid).
  DERIVED. THE GIVEN ROWS OF THIS SEAT. 7 by the template 'for every input the law returns true; each argument reads behind the call as it read before'; 0 by the template 'total and deterministic' (their statements: YtjmklfjcomjdeaaTotals.lean).
  GIVEN WITH THE SEED: the statements are not yours to turn. If you find one false, say at which input.
  Laid BY PROGRAM, IN A SANDBOX (cutbox-rows.mjs): the forced cells as the released guide's own fill.sh prints them over the translation 6a148b74864968e5… (all of the seat's roots in one cut). By AI agents, Wed Nov 11 2026. No macro, syntax, notation, axiom, sorry.
-/
import Derived.Test.YtjmklfjcomjdeaaChecked
import GoSem.Claim
import GoSem.ClaimJoined
import GoSem.ClaimMapViews
import Derived.JoinedTies
import Derived.KernelRfl
namespace Go.Proofs.Ytjmklfjcomjdeaa
/- THE CELL 'sum', in the pinned program and in every row, IS THE sha256 OF THE DUMP (.gsa) THAT YtjmklfjcomjdeaaProg.lean LOADS. Nothing in Lean hashes anything: it is a label: what it is worth is what the hold of that sum in a sandbox is worth. -/
noncomputable def Try.pinned : Pinned := { name := "ytjmklfjcomjdeaa", sum := "6a148b74864968e57d199c212029d2fd1b6708d75b785364ff3a7d12f187b2f5", checked := Try.checked }
namespace Rows
def none {H : Type} : Left H := { results := [], args := [] }

/-- 'pontagelaw11.LedgerTransfer': WHATEVER THE INPUT: true; the input reads as it did. -/
def ledgerTransferSpec : ChangeSpec := { name := "ledgerTransfer", fn := fun _ => fun
  | [d1, d2, d3, d4, d5] => { results := [.lit (.bool true)], args := [d1, d2, d3, d4, d5] }
  | _ => none }
def ledgerTransferRow : OpenClaim := { program := "ytjmklfjcomjdeaa", sum := "6a148b74864968e57d199c212029d2fd1b6708d75b785364ff3a7d12f187b2f5", func := "pontage/pontagelaw11.LedgerTransfer", spec := "ledgerTransfer", inPlace := ["math/bits.Add64", "slices.overlaps[pontage/api.Account]", "math/bits.Sub64"], unfollowed := true, recurses := true, apart := false }
def LedgerTransferSaid : Prop := ledgerTransferRow.holds Try.pinned (OpenSpec.ofChange ledgerTransferSpec)

/-- ITS FALSE NEIGHBOUR: 'it returns false'. Refute it at one input. -/
def ledgerTransferWrong : ChangeSpec := { name := "ledgerTransfer", fn := fun _ => fun
  | [d1, d2, d3, d4, d5] => { results := [.lit (.bool false)], args := [d1, d2, d3, d4, d5] }
  | _ => none }
def LedgerTransferWrongFalsely : Prop := ledgerTransferRow.holds Try.pinned (OpenSpec.ofChange ledgerTransferWrong)

/-- 'pontagelaw11.LedgerLoad': WHATEVER THE INPUT: true; the input reads as it did. -/
def ledgerLoadSpec : ChangeSpec := { name := "ledgerLoad", fn := fun _ => fun
  | [d1, d2, d3, d4] => { results := [.lit (.bool true)], args := [d1, d2, d3, d4] }
  | _ => none }
def ledgerLoadRow : OpenClaim := { program := "ytjmklfjcomjdeaa", sum := "6a148b74864968e57d199c212029d2fd1b6708d75b785364ff3a7d12f187b2f5", func := "pontage/pontagelaw11.LedgerLoad", spec := "ledgerLoad", inPlace := ["math/bits.Add64", "slices.overlaps[pontage/api.Account]", "math/bits.Sub64"], unfollowed := true, recurses := true, apart := false }
def LedgerLoadSaid : Prop := ledgerLoadRow.holds Try.pinned (OpenSpec.ofChange ledgerLoadSpec)

/-- ITS FALSE NEIGHBOUR: 'it returns false'. Refute it at one input. -/
def ledgerLoadWrong : ChangeSpec := { name := "ledgerLoad", fn := fun _ => fun
  | [d1, d2, d3, d4] => { results := [.lit (.bool false)], args := [d1, d2, d3, d4] }
  | _ => none }
def LedgerLoadWrongFalsely : Prop := ledgerLoadRow.holds Try.pinned (OpenSpec.ofChange ledgerLoadWrong)

/-- 'pontagelaw11.LedgerCalls': WHATEVER THE INPUT: true; the input reads as it did. -/
def ledgerCallsSpec : ChangeSpec := { name := "ledgerCalls", fn := fun _ => fun
  | [d] => { results := [.lit (.bool true)], args := [d] }
  | _ => none }
def ledgerCallsRow : OpenClaim := { program := "ytjmklfjcomjdeaa", sum := "6a148b74864968e57d199c212029d2fd1b6708d75b785364ff3a7d12f187b2f5", func := "pontage/pontagelaw11.LedgerCalls", spec := "ledgerCalls", inPlace := ["math/bits.Add64", "slices.overlaps[pontage/api.Account]", "math/bits.Sub64"], unfollowed := true, recurses := true, apart := false }
def LedgerCallsSaid : Prop := ledgerCallsRow.holds Try.pinned (OpenSpec.ofChange ledgerCallsSpec)

/-- ITS FALSE NEIGHBOUR: 'it returns false'. Refute it at one input. -/
def ledgerCallsWrong : ChangeSpec := { name := "ledgerCalls", fn := fun _ => fun
  | [d] => { results := [.lit (.bool false)], args := [d] }
  | _ => none }
def LedgerCallsWrongFalsely : Prop := ledgerCallsRow.holds Try.pinned (OpenSpec.ofChange ledgerCallsWrong)

/-- 'pontagelaw11.LedgerCopy': WHATEVER THE INPUT: true; the input reads as it did. -/
def ledgerCopySpec : ChangeSpec := { name := "ledgerCopy", fn := fun _ => fun
  | [d1, d2] => { results := [.lit (.bool true)], args := [d1, d2] }
  | _ => none }
def ledgerCopyRow : OpenClaim := { program := "ytjmklfjcomjdeaa", sum := "6a148b74864968e57d199c212029d2fd1b6708d75b785364ff3a7d12f187b2f5", func := "pontage/pontagelaw11.LedgerCopy", spec := "ledgerCopy", inPlace := ["math/bits.Add64", "slices.overlaps[pontage/api.Account]", "math/bits.Sub64"], unfollowed := true, recurses := true, apart := false }
def LedgerCopySaid : Prop := ledgerCopyRow.holds Try.pinned (OpenSpec.ofChange ledgerCopySpec)

/-- ITS FALSE NEIGHBOUR: 'it returns false'. Refute it at one input. -/
def ledgerCopyWrong : ChangeSpec := { name := "ledgerCopy", fn := fun _ => fun
  | [d1, d2] => { results := [.lit (.bool false)], args := [d1, d2] }
  | _ => none }
def LedgerCopyWrongFalsely : Prop := ledgerCopyRow.holds Try.pinned (OpenSpec.ofChange ledgerCopyWrong)

/-- 'pontagelaw11.LedgerNil': WHATEVER THE INPUT: true; the input reads as it did. -/
def ledgerNilSpec : ChangeSpec := { name := "ledgerNil", fn := fun _ => fun
  | [d1, d2, d3, d4] => { results := [.lit (.bool true)], args := [d1, d2, d3, d4] }
  | _ => none }
def ledgerNilRow : OpenClaim := { program := "ytjmklfjcomjdeaa", sum := "6a148b74864968e57d199c212029d2fd1b6708d75b785364ff3a7d12f187b2f5", func := "pontage/pontagelaw11.LedgerNil", spec := "ledgerNil", inPlace := ["math/bits.Add64", "slices.overlaps[pontage/api.Account]", "math/bits.Sub64"], unfollowed := true, recurses := true, apart := false }
def LedgerNilSaid : Prop := ledgerNilRow.holds Try.pinned (OpenSpec.ofChange ledgerNilSpec)

/-- ITS FALSE NEIGHBOUR: 'it returns false'. Refute it at one input. -/
def ledgerNilWrong : ChangeSpec := { name := "ledgerNil", fn := fun _ => fun
  | [d1, d2, d3, d4] => { results := [.lit (.bool false)], args := [d1, d2, d3, d4] }
  | _ => none }
def LedgerNilWrongFalsely : Prop := ledgerNilRow.holds Try.pinned (OpenSpec.ofChange ledgerNilWrong)

/-- 'pontagelaw11.LedgerConservation': WHATEVER THE INPUT: true; the input reads as it did. -/
def ledgerConservationSpec : ChangeSpec := { name := "ledgerConservation", fn := fun _ => fun
  | [d] => { results := [.lit (.bool true)], args := [d] }
  | _ => none }
def ledgerConservationRow : OpenClaim := { program := "ytjmklfjcomjdeaa", sum := "6a148b74864968e57d199c212029d2fd1b6708d75b785364ff3a7d12f187b2f5", func := "pontage/pontagelaw11.LedgerConservation", spec := "ledgerConservation", inPlace := ["math/bits.Add64", "slices.overlaps[pontage/api.Account]", "math/bits.Sub64"], unfollowed := true, recurses := true, apart := false }
def LedgerConservationSaid : Prop := ledgerConservationRow.holds Try.pinned (OpenSpec.ofChange ledgerConservationSpec)

/-- ITS FALSE NEIGHBOUR: 'it returns false'. Refute it at one input. -/
def ledgerConservationWrong : ChangeSpec := { name := "ledgerConservation", fn := fun _ => fun
  | [d] => { results := [.lit (.bool false)], args := [d] }
  | _ => none }
def LedgerConservationWrongFalsely : Prop := ledgerConservationRow.holds Try.pinned (OpenSpec.ofChange ledgerConservationWrong)

/-- 'pontagelaw11.LedgerReload': WHATEVER THE INPUT: true; the input reads as it did. -/
def ledgerReloadSpec : ChangeSpec := { name := "ledgerReload", fn := fun _ => fun
  | [d1, d2] => { results := [.lit (.bool true)], args := [d1, d2] }
  | _ => none }
def ledgerReloadRow : OpenClaim := { program := "ytjmklfjcomjdeaa", sum := "6a148b74864968e57d199c212029d2fd1b6708d75b785364ff3a7d12f187b2f5", func := "pontage/pontagelaw11.LedgerReload", spec := "ledgerReload", inPlace := ["math/bits.Add64", "slices.overlaps[pontage/api.Account]", "math/bits.Sub64"], unfollowed := true, recurses := true, apart := false }
def LedgerReloadSaid : Prop := ledgerReloadRow.holds Try.pinned (OpenSpec.ofChange ledgerReloadSpec)

/-- ITS FALSE NEIGHBOUR: 'it returns false'. Refute it at one input. -/
def ledgerReloadWrong : ChangeSpec := { name := "ledgerReload", fn := fun _ => fun
  | [d1, d2] => { results := [.lit (.bool false)], args := [d1, d2] }
  | _ => none }
def LedgerReloadWrongFalsely : Prop := ledgerReloadRow.holds Try.pinned (OpenSpec.ofChange ledgerReloadWrong)

/- THE SECOND FORM. 'bulk': how many values and letters a reading holds, each counted each time it is reached (what is shared counts as often as it is met; a slice's spare places count too). A statement '..UptoSaid' is the law's where the arguments, and the package variables that the reading takes, are together of bulk at most 1048576: NARROWER than '..Said'. Prove '..Said' where nothing that the law and all that it calls make is longer than what came in: it says more and counts as full. Else prove '..UptoSaid'. A law counts once. -/
mutual
def uptoBulk {H : Type} : DataW H → Nat
  | .lit (.string bytes) => bytes.length + 1
  | .lit _ => 1
  | .nil => 1
  | .ptr d => uptoBulk d + 1
  | .slice elems spare => uptoBulkAll elems + uptoBulkAll spare + 1
  | .agg parts => uptoBulkAll parts + 1
  | .iface _ d => uptoBulk d + 1
  | .map entries => uptoBulkEntries entries + 1
  | .held _ => 1
def uptoBulkAll {H : Type} : List (DataW H) → Nat
  | [] => 0
  | d :: r => uptoBulk d + uptoBulkAll r
def uptoBulkEntries {H : Type} : List (Lit × DataW H) → Nat
  | [] => 0
  | x :: r => uptoBulkEntry x + uptoBulkEntries r
def uptoBulkEntry {H : Type} : Lit × DataW H → Nat
  | (.string bytes, d) => bytes.length + uptoBulk d + 1
  | (_, d) => uptoBulk d + 1
 end
def uptoSmall : (H : Type) → List (DataW H) → Bool := fun _ ds => decide (uptoBulkAll ds ≤ 1048576)
def OpenSpec.upto (s : _root_.Go.ChangeSpec) : _root_.Go.OpenSpec := { _root_.Go.OpenSpec.ofChange s with cond := some uptoSmall }

/-- 'pontagelaw11.LedgerTransfer', WHERE WHAT IT READS IS OF BULK AT MOST 1048576: true; the input reads as it did. -/
def ledgerTransferUptoRow : OpenClaim := { program := "ytjmklfjcomjdeaa", sum := "6a148b74864968e57d199c212029d2fd1b6708d75b785364ff3a7d12f187b2f5", func := "pontage/pontagelaw11.LedgerTransfer", spec := "ledgerTransfer", inPlace := ["math/bits.Add64", "slices.overlaps[pontage/api.Account]", "math/bits.Sub64"], unfollowed := true, recurses := true, apart := false, narrowed := true }
def LedgerTransferUptoSaid : Prop := ledgerTransferUptoRow.holds Try.pinned (OpenSpec.upto ledgerTransferSpec)

/-- 'pontagelaw11.LedgerLoad', WHERE WHAT IT READS IS OF BULK AT MOST 1048576: true; the input reads as it did. -/
def ledgerLoadUptoRow : OpenClaim := { program := "ytjmklfjcomjdeaa", sum := "6a148b74864968e57d199c212029d2fd1b6708d75b785364ff3a7d12f187b2f5", func := "pontage/pontagelaw11.LedgerLoad", spec := "ledgerLoad", inPlace := ["math/bits.Add64", "slices.overlaps[pontage/api.Account]", "math/bits.Sub64"], unfollowed := true, recurses := true, apart := false, narrowed := true }
def LedgerLoadUptoSaid : Prop := ledgerLoadUptoRow.holds Try.pinned (OpenSpec.upto ledgerLoadSpec)

/-- 'pontagelaw11.LedgerCalls', WHERE WHAT IT READS IS OF BULK AT MOST 1048576: true; the input reads as it did. -/
def ledgerCallsUptoRow : OpenClaim := { program := "ytjmklfjcomjdeaa", sum := "6a148b74864968e57d199c212029d2fd1b6708d75b785364ff3a7d12f187b2f5", func := "pontage/pontagelaw11.LedgerCalls", spec := "ledgerCalls", inPlace := ["math/bits.Add64", "slices.overlaps[pontage/api.Account]", "math/bits.Sub64"], unfollowed := true, recurses := true, apart := false, narrowed := true }
def LedgerCallsUptoSaid : Prop := ledgerCallsUptoRow.holds Try.pinned (OpenSpec.upto ledgerCallsSpec)

/-- 'pontagelaw11.LedgerCopy', WHERE WHAT IT READS IS OF BULK AT MOST 1048576: true; the input reads as it did. -/
def ledgerCopyUptoRow : OpenClaim := { program := "ytjmklfjcomjdeaa", sum := "6a148b74864968e57d199c212029d2fd1b6708d75b785364ff3a7d12f187b2f5", func := "pontage/pontagelaw11.LedgerCopy", spec := "ledgerCopy", inPlace := ["math/bits.Add64", "slices.overlaps[pontage/api.Account]", "math/bits.Sub64"], unfollowed := true, recurses := true, apart := false, narrowed := true }
def LedgerCopyUptoSaid : Prop := ledgerCopyUptoRow.holds Try.pinned (OpenSpec.upto ledgerCopySpec)

/-- 'pontagelaw11.LedgerNil', WHERE WHAT IT READS IS OF BULK AT MOST 1048576: true; the input reads as it did. -/
def ledgerNilUptoRow : OpenClaim := { program := "ytjmklfjcomjdeaa", sum := "6a148b74864968e57d199c212029d2fd1b6708d75b785364ff3a7d12f187b2f5", func := "pontage/pontagelaw11.LedgerNil", spec := "ledgerNil", inPlace := ["math/bits.Add64", "slices.overlaps[pontage/api.Account]", "math/bits.Sub64"], unfollowed := true, recurses := true, apart := false, narrowed := true }
def LedgerNilUptoSaid : Prop := ledgerNilUptoRow.holds Try.pinned (OpenSpec.upto ledgerNilSpec)

/-- 'pontagelaw11.LedgerConservation', WHERE WHAT IT READS IS OF BULK AT MOST 1048576: true; the input reads as it did. -/
def ledgerConservationUptoRow : OpenClaim := { program := "ytjmklfjcomjdeaa", sum := "6a148b74864968e57d199c212029d2fd1b6708d75b785364ff3a7d12f187b2f5", func := "pontage/pontagelaw11.LedgerConservation", spec := "ledgerConservation", inPlace := ["math/bits.Add64", "slices.overlaps[pontage/api.Account]", "math/bits.Sub64"], unfollowed := true, recurses := true, apart := false, narrowed := true }
def LedgerConservationUptoSaid : Prop := ledgerConservationUptoRow.holds Try.pinned (OpenSpec.upto ledgerConservationSpec)

/-- 'pontagelaw11.LedgerReload', WHERE WHAT IT READS IS OF BULK AT MOST 1048576: true; the input reads as it did. -/
def ledgerReloadUptoRow : OpenClaim := { program := "ytjmklfjcomjdeaa", sum := "6a148b74864968e57d199c212029d2fd1b6708d75b785364ff3a7d12f187b2f5", func := "pontage/pontagelaw11.LedgerReload", spec := "ledgerReload", inPlace := ["math/bits.Add64", "slices.overlaps[pontage/api.Account]", "math/bits.Sub64"], unfollowed := true, recurses := true, apart := false, narrowed := true }
def LedgerReloadUptoSaid : Prop := ledgerReloadUptoRow.holds Try.pinned (OpenSpec.upto ledgerReloadSpec)

end Rows
end Go.Proofs.Ytjmklfjcomjdeaa
