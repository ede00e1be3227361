/-
  No cell of these rows narrows 'for every input' (looked for: loops, veiled, ifaces, maps, wideKeys, modest, calm, conditions, laid).
  DERIVED. THE GIVEN ROWS OF THIS SEAT. 5 by the template 'for every input the law returns true; each argument reads behind the call as it read before'; 0 by the template 'total and deterministic' (their statements: YtnobaioimppdiaaTotals.lean).
  GIVEN WITH THE SEED: the statements are not yours to turn. If you find one false, say at which input.
  Laid BY PROGRAM, IN A SANDBOX (cutbox-rows.mjs): the forced cells as the released guide's own fill.sh prints them over the translation 783463e2899ce50a… (all of the seat's roots in one cut). By AI agents, Wed Nov 11 2026. No macro, syntax, notation, axiom, sorry.
-/
import Derived.Test.YtnobaioimppdiaaChecked
import GoSem.Claim
import GoSem.ClaimJoined
import GoSem.ClaimMapViews
import Derived.JoinedTies
import Derived.KernelRfl
namespace Go.Proofs.Ytnobaioimppdiaa
/- THE CELL 'sum', in the pinned program and in every row, IS THE sha256 OF THE DUMP (.gsa) THAT YtnobaioimppdiaaProg.lean LOADS. Nothing in Lean hashes anything: it is a label: what it is worth is what the hold of that sum in a sandbox is worth. -/
noncomputable def Try.pinned : Pinned := { name := "ytnobaioimppdiaa", sum := "783463e2899ce50a1cf990368f61e3a67e858fc3551538a1f441ce26b437e38f", checked := Try.checked }
namespace Rows
def none {H : Type} : Left H := { results := [], args := [] }

/-- 'pontagelaw16.PosterDebtInvariant': WHATEVER THE INPUT: true; the input reads as it did. -/
def posterDebtInvariantSpec : ChangeSpec := { name := "posterDebtInvariant", fn := fun _ => fun
  | [d] => { results := [.lit (.bool true)], args := [d] }
  | _ => none }
def posterDebtInvariantRow : OpenClaim := { program := "ytnobaioimppdiaa", sum := "783463e2899ce50a1cf990368f61e3a67e858fc3551538a1f441ce26b437e38f", func := "pontage/pontagelaw16.PosterDebtInvariant", spec := "posterDebtInvariant", inPlace := ["math/bits.Add64", "slices.overlaps[pontage/api.Poster]", "math/bits.Sub64"], unfollowed := true, recurses := true, apart := false }
def PosterDebtInvariantSaid : Prop := posterDebtInvariantRow.holds Try.pinned (OpenSpec.ofChange posterDebtInvariantSpec)

/-- ITS FALSE NEIGHBOUR: 'it returns false'. Refute it at one input. -/
def posterDebtInvariantWrong : ChangeSpec := { name := "posterDebtInvariant", fn := fun _ => fun
  | [d] => { results := [.lit (.bool false)], args := [d] }
  | _ => none }
def PosterDebtInvariantWrongFalsely : Prop := posterDebtInvariantRow.holds Try.pinned (OpenSpec.ofChange posterDebtInvariantWrong)

/-- 'pontagelaw16.PosterCapacity': WHATEVER THE INPUT: true; the input reads as it did. -/
def posterCapacitySpec : ChangeSpec := { name := "posterCapacity", fn := fun _ => fun
  | [d1, d2] => { results := [.lit (.bool true)], args := [d1, d2] }
  | _ => none }
def posterCapacityRow : OpenClaim := { program := "ytnobaioimppdiaa", sum := "783463e2899ce50a1cf990368f61e3a67e858fc3551538a1f441ce26b437e38f", func := "pontage/pontagelaw16.PosterCapacity", spec := "posterCapacity", inPlace := ["math/bits.Add64", "slices.overlaps[pontage/api.Poster]", "math/bits.Sub64"], unfollowed := true, recurses := true, apart := false }
def PosterCapacitySaid : Prop := posterCapacityRow.holds Try.pinned (OpenSpec.ofChange posterCapacitySpec)

/-- ITS FALSE NEIGHBOUR: 'it returns false'. Refute it at one input. -/
def posterCapacityWrong : ChangeSpec := { name := "posterCapacity", fn := fun _ => fun
  | [d1, d2] => { results := [.lit (.bool false)], args := [d1, d2] }
  | _ => none }
def PosterCapacityWrongFalsely : Prop := posterCapacityRow.holds Try.pinned (OpenSpec.ofChange posterCapacityWrong)

/-- 'pontagelaw16.PosterSettleAll': WHATEVER THE INPUT: true; the input reads as it did. -/
def posterSettleAllSpec : ChangeSpec := { name := "posterSettleAll", fn := fun _ => fun
  | [d1, d2] => { results := [.lit (.bool true)], args := [d1, d2] }
  | _ => none }
def posterSettleAllRow : OpenClaim := { program := "ytnobaioimppdiaa", sum := "783463e2899ce50a1cf990368f61e3a67e858fc3551538a1f441ce26b437e38f", func := "pontage/pontagelaw16.PosterSettleAll", spec := "posterSettleAll", inPlace := ["math/bits.Add64", "slices.overlaps[pontage/api.Poster]", "math/bits.Sub64"], unfollowed := true, recurses := true, apart := false }
def PosterSettleAllSaid : Prop := posterSettleAllRow.holds Try.pinned (OpenSpec.ofChange posterSettleAllSpec)

/-- ITS FALSE NEIGHBOUR: 'it returns false'. Refute it at one input. -/
def posterSettleAllWrong : ChangeSpec := { name := "posterSettleAll", fn := fun _ => fun
  | [d1, d2] => { results := [.lit (.bool false)], args := [d1, d2] }
  | _ => none }
def PosterSettleAllWrongFalsely : Prop := posterSettleAllRow.holds Try.pinned (OpenSpec.ofChange posterSettleAllWrong)

/-- 'pontagelaw16.PosterCalls': WHATEVER THE INPUT: true; the input reads as it did. -/
def posterCallsSpec : ChangeSpec := { name := "posterCalls", fn := fun _ => fun
  | [d] => { results := [.lit (.bool true)], args := [d] }
  | _ => none }
def posterCallsRow : OpenClaim := { program := "ytnobaioimppdiaa", sum := "783463e2899ce50a1cf990368f61e3a67e858fc3551538a1f441ce26b437e38f", func := "pontage/pontagelaw16.PosterCalls", spec := "posterCalls", inPlace := ["math/bits.Add64", "slices.overlaps[pontage/api.Poster]", "math/bits.Sub64"], unfollowed := true, recurses := true, apart := false }
def PosterCallsSaid : Prop := posterCallsRow.holds Try.pinned (OpenSpec.ofChange posterCallsSpec)

/-- ITS FALSE NEIGHBOUR: 'it returns false'. Refute it at one input. -/
def posterCallsWrong : ChangeSpec := { name := "posterCalls", fn := fun _ => fun
  | [d] => { results := [.lit (.bool false)], args := [d] }
  | _ => none }
def PosterCallsWrongFalsely : Prop := posterCallsRow.holds Try.pinned (OpenSpec.ofChange posterCallsWrong)

/-- 'pontagelaw16.PosterArbitraryTables': WHATEVER THE INPUT: true; the input reads as it did. -/
def posterArbitraryTablesSpec : ChangeSpec := { name := "posterArbitraryTables", fn := fun _ => fun
  | [d1, d2, d3, d4, d5, d6] => { results := [.lit (.bool true)], args := [d1, d2, d3, d4, d5, d6] }
  | _ => none }
def posterArbitraryTablesRow : OpenClaim := { program := "ytnobaioimppdiaa", sum := "783463e2899ce50a1cf990368f61e3a67e858fc3551538a1f441ce26b437e38f", func := "pontage/pontagelaw16.PosterArbitraryTables", spec := "posterArbitraryTables", inPlace := ["math/bits.Add64", "slices.overlaps[pontage/api.Poster]", "math/bits.Sub64"], unfollowed := true, recurses := true, apart := false }
def PosterArbitraryTablesSaid : Prop := posterArbitraryTablesRow.holds Try.pinned (OpenSpec.ofChange posterArbitraryTablesSpec)

/-- ITS FALSE NEIGHBOUR: 'it returns false'. Refute it at one input. -/
def posterArbitraryTablesWrong : ChangeSpec := { name := "posterArbitraryTables", fn := fun _ => fun
  | [d1, d2, d3, d4, d5, d6] => { results := [.lit (.bool false)], args := [d1, d2, d3, d4, d5, d6] }
  | _ => none }
def PosterArbitraryTablesWrongFalsely : Prop := posterArbitraryTablesRow.holds Try.pinned (OpenSpec.ofChange posterArbitraryTablesWrong)

/- THE SECOND FORM. 'bulk': how many values and letters a reading holds, each counted each time it is reached (what is shared counts as often as it is met; a slice's spare places count too). A statement '..UptoSaid' is the law's where the arguments, and the package variables that the reading takes, are together of bulk at most 1048576: NARROWER than '..Said'. Prove '..Said' where nothing that the law and all that it calls make is longer than what came in: it says more and counts as full. Else prove '..UptoSaid'. A law counts once. -/
mutual
def uptoBulk {H : Type} : DataW H → Nat
  | .lit (.string bytes) => bytes.length + 1
  | .lit _ => 1
  | .nil => 1
  | .ptr d => uptoBulk d + 1
  | .slice elems spare => uptoBulkAll elems + uptoBulkAll spare + 1
  | .agg parts => uptoBulkAll parts + 1
  | .iface _ d => uptoBulk d + 1
  | .map entries => uptoBulkEntries entries + 1
  | .held _ => 1
def uptoBulkAll {H : Type} : List (DataW H) → Nat
  | [] => 0
  | d :: r => uptoBulk d + uptoBulkAll r
def uptoBulkEntries {H : Type} : List (Lit × DataW H) → Nat
  | [] => 0
  | x :: r => uptoBulkEntry x + uptoBulkEntries r
def uptoBulkEntry {H : Type} : Lit × DataW H → Nat
  | (.string bytes, d) => bytes.length + uptoBulk d + 1
  | (_, d) => uptoBulk d + 1
 end
def uptoSmall : (H : Type) → List (DataW H) → Bool := fun _ ds => decide (uptoBulkAll ds ≤ 1048576)
def OpenSpec.upto (s : _root_.Go.ChangeSpec) : _root_.Go.OpenSpec := { _root_.Go.OpenSpec.ofChange s with cond := some uptoSmall }

/-- 'pontagelaw16.PosterDebtInvariant', WHERE WHAT IT READS IS OF BULK AT MOST 1048576: true; the input reads as it did. -/
def posterDebtInvariantUptoRow : OpenClaim := { program := "ytnobaioimppdiaa", sum := "783463e2899ce50a1cf990368f61e3a67e858fc3551538a1f441ce26b437e38f", func := "pontage/pontagelaw16.PosterDebtInvariant", spec := "posterDebtInvariant", inPlace := ["math/bits.Add64", "slices.overlaps[pontage/api.Poster]", "math/bits.Sub64"], unfollowed := true, recurses := true, apart := false, narrowed := true }
def PosterDebtInvariantUptoSaid : Prop := posterDebtInvariantUptoRow.holds Try.pinned (OpenSpec.upto posterDebtInvariantSpec)

/-- 'pontagelaw16.PosterCapacity', WHERE WHAT IT READS IS OF BULK AT MOST 1048576: true; the input reads as it did. -/
def posterCapacityUptoRow : OpenClaim := { program := "ytnobaioimppdiaa", sum := "783463e2899ce50a1cf990368f61e3a67e858fc3551538a1f441ce26b437e38f", func := "pontage/pontagelaw16.PosterCapacity", spec := "posterCapacity", inPlace := ["math/bits.Add64", "slices.overlaps[pontage/api.Poster]", "math/bits.Sub64"], unfollowed := true, recurses := true, apart := false, narrowed := true }
def PosterCapacityUptoSaid : Prop := posterCapacityUptoRow.holds Try.pinned (OpenSpec.upto posterCapacitySpec)

/-- 'pontagelaw16.PosterSettleAll', WHERE WHAT IT READS IS OF BULK AT MOST 1048576: true; the input reads as it did. -/
def posterSettleAllUptoRow : OpenClaim := { program := "ytnobaioimppdiaa", sum := "783463e2899ce50a1cf990368f61e3a67e858fc3551538a1f441ce26b437e38f", func := "pontage/pontagelaw16.PosterSettleAll", spec := "posterSettleAll", inPlace := ["math/bits.Add64", "slices.overlaps[pontage/api.Poster]", "math/bits.Sub64"], unfollowed := true, recurses := true, apart := false, narrowed := true }
def PosterSettleAllUptoSaid : Prop := posterSettleAllUptoRow.holds Try.pinned (OpenSpec.upto posterSettleAllSpec)

/-- 'pontagelaw16.PosterCalls', WHERE WHAT IT READS IS OF BULK AT MOST 1048576: true; the input reads as it did. -/
def posterCallsUptoRow : OpenClaim := { program := "ytnobaioimppdiaa", sum := "783463e2899ce50a1cf990368f61e3a67e858fc3551538a1f441ce26b437e38f", func := "pontage/pontagelaw16.PosterCalls", spec := "posterCalls", inPlace := ["math/bits.Add64", "slices.overlaps[pontage/api.Poster]", "math/bits.Sub64"], unfollowed := true, recurses := true, apart := false, narrowed := true }
def PosterCallsUptoSaid : Prop := posterCallsUptoRow.holds Try.pinned (OpenSpec.upto posterCallsSpec)

/-- 'pontagelaw16.PosterArbitraryTables', WHERE WHAT IT READS IS OF BULK AT MOST 1048576: true; the input reads as it did. -/
def posterArbitraryTablesUptoRow : OpenClaim := { program := "ytnobaioimppdiaa", sum := "783463e2899ce50a1cf990368f61e3a67e858fc3551538a1f441ce26b437e38f", func := "pontage/pontagelaw16.PosterArbitraryTables", spec := "posterArbitraryTables", inPlace := ["math/bits.Add64", "slices.overlaps[pontage/api.Poster]", "math/bits.Sub64"], unfollowed := true, recurses := true, apart := false, narrowed := true }
def PosterArbitraryTablesUptoSaid : Prop := posterArbitraryTablesUptoRow.holds Try.pinned (OpenSpec.upto posterArbitraryTablesSpec)

end Rows
end Go.Proofs.Ytnobaioimppdiaa
