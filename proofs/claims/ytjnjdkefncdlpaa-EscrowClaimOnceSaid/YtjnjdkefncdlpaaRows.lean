/-
  No cell of these rows narrows 'for every input' (looked for: loops, veiled, ifaces, maps, wideKeys, modest, calm, conditions, laid).
  DERIVED. THE GIVEN ROWS OF THIS SEAT. 7 by the template 'for every input the law returns true; each argument reads behind the call as it read before'; 0 by the template 'total and deterministic' (their statements: YtjnjdkefncdlpaaTotals.lean).
  GIVEN WITH THE SEED: the statements are not yours to turn. If you find one false, say at which input.
  Laid BY PROGRAM, IN A SANDBOX (cutbox-rows.mjs): the forced cells as the released guide's own fill.sh prints them over the translation 3d8379a0e6e2c88c… (all of the seat's roots in one cut). By AI agents, Wed Nov 11 2026. No macro, syntax, notation, axiom, sorry.
-/
import Derived.Test.YtjnjdkefncdlpaaChecked
import GoSem.Claim
import GoSem.ClaimJoined
import GoSem.ClaimMapViews
import Derived.JoinedTies
import Derived.KernelRfl
namespace Go.Proofs.Ytjnjdkefncdlpaa
/- THE CELL 'sum', in the pinned program and in every row, IS THE sha256 OF THE DUMP (.gsa) THAT YtjnjdkefncdlpaaProg.lean LOADS. Nothing in Lean hashes anything: it is a label: what it is worth is what the hold of that sum in a sandbox is worth. -/
noncomputable def Try.pinned : Pinned := { name := "ytjnjdkefncdlpaa", sum := "3d8379a0e6e2c88cea5ad7b4c560ff32661acc3228a2fba88798b58640834074", checked := Try.checked }
namespace Rows
def none {H : Type} : Left H := { results := [], args := [] }

/-- 'pontagelaw25.EscrowForgedClaims': WHATEVER THE INPUT: true; the input reads as it did. -/
def escrowForgedClaimsSpec : ChangeSpec := { name := "escrowForgedClaims", fn := fun _ => fun
  | [d1, d2, d3, d4, d5] => { results := [.lit (.bool true)], args := [d1, d2, d3, d4, d5] }
  | _ => none }
def escrowForgedClaimsRow : OpenClaim := { program := "ytjnjdkefncdlpaa", sum := "3d8379a0e6e2c88cea5ad7b4c560ff32661acc3228a2fba88798b58640834074", func := "pontage/pontagelaw25.EscrowForgedClaims", spec := "escrowForgedClaims", inPlace := ["math/bits.Add64", "math/bits.Sub64", "slices.overlaps[pontage/api.Payment]"], unfollowed := true, recurses := true, apart := false }
def EscrowForgedClaimsSaid : Prop := escrowForgedClaimsRow.holds Try.pinned (OpenSpec.ofChange escrowForgedClaimsSpec)

/-- ITS FALSE NEIGHBOUR: 'it returns false'. Refute it at one input. -/
def escrowForgedClaimsWrong : ChangeSpec := { name := "escrowForgedClaims", fn := fun _ => fun
  | [d1, d2, d3, d4, d5] => { results := [.lit (.bool false)], args := [d1, d2, d3, d4, d5] }
  | _ => none }
def EscrowForgedClaimsWrongFalsely : Prop := escrowForgedClaimsRow.holds Try.pinned (OpenSpec.ofChange escrowForgedClaimsWrong)

/-- 'pontagelaw25.EscrowClaimOnce': WHATEVER THE INPUT: true; the input reads as it did. -/
def escrowClaimOnceSpec : ChangeSpec := { name := "escrowClaimOnce", fn := fun _ => fun
  | [d1, d2, d3] => { results := [.lit (.bool true)], args := [d1, d2, d3] }
  | _ => none }
def escrowClaimOnceRow : OpenClaim := { program := "ytjnjdkefncdlpaa", sum := "3d8379a0e6e2c88cea5ad7b4c560ff32661acc3228a2fba88798b58640834074", func := "pontage/pontagelaw25.EscrowClaimOnce", spec := "escrowClaimOnce", inPlace := ["math/bits.Add64", "math/bits.Sub64", "slices.overlaps[pontage/api.Payment]"], unfollowed := true, recurses := true, apart := false }
def EscrowClaimOnceSaid : Prop := escrowClaimOnceRow.holds Try.pinned (OpenSpec.ofChange escrowClaimOnceSpec)

/-- ITS FALSE NEIGHBOUR: 'it returns false'. Refute it at one input. -/
def escrowClaimOnceWrong : ChangeSpec := { name := "escrowClaimOnce", fn := fun _ => fun
  | [d1, d2, d3] => { results := [.lit (.bool false)], args := [d1, d2, d3] }
  | _ => none }
def EscrowClaimOnceWrongFalsely : Prop := escrowClaimOnceRow.holds Try.pinned (OpenSpec.ofChange escrowClaimOnceWrong)

/-- 'pontagelaw25.EscrowCommute': WHATEVER THE INPUT: true; the input reads as it did. -/
def escrowCommuteSpec : ChangeSpec := { name := "escrowCommute", fn := fun _ => fun
  | [d1, d2, d3] => { results := [.lit (.bool true)], args := [d1, d2, d3] }
  | _ => none }
def escrowCommuteRow : OpenClaim := { program := "ytjnjdkefncdlpaa", sum := "3d8379a0e6e2c88cea5ad7b4c560ff32661acc3228a2fba88798b58640834074", func := "pontage/pontagelaw25.EscrowCommute", spec := "escrowCommute", inPlace := ["math/bits.Add64", "math/bits.Sub64", "slices.overlaps[pontage/api.Payment]"], unfollowed := true, recurses := true, apart := false }
def EscrowCommuteSaid : Prop := escrowCommuteRow.holds Try.pinned (OpenSpec.ofChange escrowCommuteSpec)

/-- ITS FALSE NEIGHBOUR: 'it returns false'. Refute it at one input. -/
def escrowCommuteWrong : ChangeSpec := { name := "escrowCommute", fn := fun _ => fun
  | [d1, d2, d3] => { results := [.lit (.bool false)], args := [d1, d2, d3] }
  | _ => none }
def EscrowCommuteWrongFalsely : Prop := escrowCommuteRow.holds Try.pinned (OpenSpec.ofChange escrowCommuteWrong)

/-- 'pontagelaw25.EscrowCalls': WHATEVER THE INPUT: true; the input reads as it did. -/
def escrowCallsSpec : ChangeSpec := { name := "escrowCalls", fn := fun _ => fun
  | [d1, d2] => { results := [.lit (.bool true)], args := [d1, d2] }
  | _ => none }
def escrowCallsRow : OpenClaim := { program := "ytjnjdkefncdlpaa", sum := "3d8379a0e6e2c88cea5ad7b4c560ff32661acc3228a2fba88798b58640834074", func := "pontage/pontagelaw25.EscrowCalls", spec := "escrowCalls", inPlace := ["math/bits.Add64", "math/bits.Sub64", "slices.overlaps[pontage/api.Payment]"], unfollowed := true, recurses := true, apart := false }
def EscrowCallsSaid : Prop := escrowCallsRow.holds Try.pinned (OpenSpec.ofChange escrowCallsSpec)

/-- ITS FALSE NEIGHBOUR: 'it returns false'. Refute it at one input. -/
def escrowCallsWrong : ChangeSpec := { name := "escrowCalls", fn := fun _ => fun
  | [d1, d2] => { results := [.lit (.bool false)], args := [d1, d2] }
  | _ => none }
def EscrowCallsWrongFalsely : Prop := escrowCallsRow.holds Try.pinned (OpenSpec.ofChange escrowCallsWrong)

/-- 'pontagelaw25.EscrowConservation': WHATEVER THE INPUT: true; the input reads as it did. -/
def escrowConservationSpec : ChangeSpec := { name := "escrowConservation", fn := fun _ => fun
  | [d1, d2] => { results := [.lit (.bool true)], args := [d1, d2] }
  | _ => none }
def escrowConservationRow : OpenClaim := { program := "ytjnjdkefncdlpaa", sum := "3d8379a0e6e2c88cea5ad7b4c560ff32661acc3228a2fba88798b58640834074", func := "pontage/pontagelaw25.EscrowConservation", spec := "escrowConservation", inPlace := ["math/bits.Add64", "math/bits.Sub64", "slices.overlaps[pontage/api.Payment]"], unfollowed := true, recurses := true, apart := false }
def EscrowConservationSaid : Prop := escrowConservationRow.holds Try.pinned (OpenSpec.ofChange escrowConservationSpec)

/-- ITS FALSE NEIGHBOUR: 'it returns false'. Refute it at one input. -/
def escrowConservationWrong : ChangeSpec := { name := "escrowConservation", fn := fun _ => fun
  | [d1, d2] => { results := [.lit (.bool false)], args := [d1, d2] }
  | _ => none }
def EscrowConservationWrongFalsely : Prop := escrowConservationRow.holds Try.pinned (OpenSpec.ofChange escrowConservationWrong)

/-- 'pontagelaw25.EscrowNil': WHATEVER THE INPUT: true; the input reads as it did. -/
def escrowNilSpec : ChangeSpec := { name := "escrowNil", fn := fun _ => fun
  | [d1, d2, d3, d4] => { results := [.lit (.bool true)], args := [d1, d2, d3, d4] }
  | _ => none }
def escrowNilRow : OpenClaim := { program := "ytjnjdkefncdlpaa", sum := "3d8379a0e6e2c88cea5ad7b4c560ff32661acc3228a2fba88798b58640834074", func := "pontage/pontagelaw25.EscrowNil", spec := "escrowNil", inPlace := ["math/bits.Add64", "math/bits.Sub64", "slices.overlaps[pontage/api.Payment]"], unfollowed := true, recurses := true, apart := false }
def EscrowNilSaid : Prop := escrowNilRow.holds Try.pinned (OpenSpec.ofChange escrowNilSpec)

/-- ITS FALSE NEIGHBOUR: 'it returns false'. Refute it at one input. -/
def escrowNilWrong : ChangeSpec := { name := "escrowNil", fn := fun _ => fun
  | [d1, d2, d3, d4] => { results := [.lit (.bool false)], args := [d1, d2, d3, d4] }
  | _ => none }
def EscrowNilWrongFalsely : Prop := escrowNilRow.holds Try.pinned (OpenSpec.ofChange escrowNilWrong)

/-- 'pontagelaw25.EscrowLoad': WHATEVER THE INPUT: true; the input reads as it did. -/
def escrowLoadSpec : ChangeSpec := { name := "escrowLoad", fn := fun _ => fun
  | [d1, d2, d3, d4, d5, d6] => { results := [.lit (.bool true)], args := [d1, d2, d3, d4, d5, d6] }
  | _ => none }
def escrowLoadRow : OpenClaim := { program := "ytjnjdkefncdlpaa", sum := "3d8379a0e6e2c88cea5ad7b4c560ff32661acc3228a2fba88798b58640834074", func := "pontage/pontagelaw25.EscrowLoad", spec := "escrowLoad", inPlace := ["math/bits.Add64", "math/bits.Sub64", "slices.overlaps[pontage/api.Payment]"], unfollowed := true, recurses := true, apart := false }
def EscrowLoadSaid : Prop := escrowLoadRow.holds Try.pinned (OpenSpec.ofChange escrowLoadSpec)

/-- ITS FALSE NEIGHBOUR: 'it returns false'. Refute it at one input. -/
def escrowLoadWrong : ChangeSpec := { name := "escrowLoad", fn := fun _ => fun
  | [d1, d2, d3, d4, d5, d6] => { results := [.lit (.bool false)], args := [d1, d2, d3, d4, d5, d6] }
  | _ => none }
def EscrowLoadWrongFalsely : Prop := escrowLoadRow.holds Try.pinned (OpenSpec.ofChange escrowLoadWrong)

/- THE SECOND FORM. 'bulk': how many values and letters a reading holds, each counted each time it is reached (what is shared counts as often as it is met; a slice's spare places count too). A statement '..UptoSaid' is the law's where the arguments, and the package variables that the reading takes, are together of bulk at most 1048576: NARROWER than '..Said'. Prove '..Said' where nothing that the law and all that it calls make is longer than what came in: it says more and counts as full. Else prove '..UptoSaid'. A law counts once. -/
mutual
def uptoBulk {H : Type} : DataW H → Nat
  | .lit (.string bytes) => bytes.length + 1
  | .lit _ => 1
  | .nil => 1
  | .ptr d => uptoBulk d + 1
  | .slice elems spare => uptoBulkAll elems + uptoBulkAll spare + 1
  | .agg parts => uptoBulkAll parts + 1
  | .iface _ d => uptoBulk d + 1
  | .map entries => uptoBulkEntries entries + 1
  | .held _ => 1
def uptoBulkAll {H : Type} : List (DataW H) → Nat
  | [] => 0
  | d :: r => uptoBulk d + uptoBulkAll r
def uptoBulkEntries {H : Type} : List (Lit × DataW H) → Nat
  | [] => 0
  | x :: r => uptoBulkEntry x + uptoBulkEntries r
def uptoBulkEntry {H : Type} : Lit × DataW H → Nat
  | (.string bytes, d) => bytes.length + uptoBulk d + 1
  | (_, d) => uptoBulk d + 1
 end
def uptoSmall : (H : Type) → List (DataW H) → Bool := fun _ ds => decide (uptoBulkAll ds ≤ 1048576)
def OpenSpec.upto (s : _root_.Go.ChangeSpec) : _root_.Go.OpenSpec := { _root_.Go.OpenSpec.ofChange s with cond := some uptoSmall }

/-- 'pontagelaw25.EscrowForgedClaims', WHERE WHAT IT READS IS OF BULK AT MOST 1048576: true; the input reads as it did. -/
def escrowForgedClaimsUptoRow : OpenClaim := { program := "ytjnjdkefncdlpaa", sum := "3d8379a0e6e2c88cea5ad7b4c560ff32661acc3228a2fba88798b58640834074", func := "pontage/pontagelaw25.EscrowForgedClaims", spec := "escrowForgedClaims", inPlace := ["math/bits.Add64", "math/bits.Sub64", "slices.overlaps[pontage/api.Payment]"], unfollowed := true, recurses := true, apart := false, narrowed := true }
def EscrowForgedClaimsUptoSaid : Prop := escrowForgedClaimsUptoRow.holds Try.pinned (OpenSpec.upto escrowForgedClaimsSpec)

/-- 'pontagelaw25.EscrowClaimOnce', WHERE WHAT IT READS IS OF BULK AT MOST 1048576: true; the input reads as it did. -/
def escrowClaimOnceUptoRow : OpenClaim := { program := "ytjnjdkefncdlpaa", sum := "3d8379a0e6e2c88cea5ad7b4c560ff32661acc3228a2fba88798b58640834074", func := "pontage/pontagelaw25.EscrowClaimOnce", spec := "escrowClaimOnce", inPlace := ["math/bits.Add64", "math/bits.Sub64", "slices.overlaps[pontage/api.Payment]"], unfollowed := true, recurses := true, apart := false, narrowed := true }
def EscrowClaimOnceUptoSaid : Prop := escrowClaimOnceUptoRow.holds Try.pinned (OpenSpec.upto escrowClaimOnceSpec)

/-- 'pontagelaw25.EscrowCommute', WHERE WHAT IT READS IS OF BULK AT MOST 1048576: true; the input reads as it did. -/
def escrowCommuteUptoRow : OpenClaim := { program := "ytjnjdkefncdlpaa", sum := "3d8379a0e6e2c88cea5ad7b4c560ff32661acc3228a2fba88798b58640834074", func := "pontage/pontagelaw25.EscrowCommute", spec := "escrowCommute", inPlace := ["math/bits.Add64", "math/bits.Sub64", "slices.overlaps[pontage/api.Payment]"], unfollowed := true, recurses := true, apart := false, narrowed := true }
def EscrowCommuteUptoSaid : Prop := escrowCommuteUptoRow.holds Try.pinned (OpenSpec.upto escrowCommuteSpec)

/-- 'pontagelaw25.EscrowCalls', WHERE WHAT IT READS IS OF BULK AT MOST 1048576: true; the input reads as it did. -/
def escrowCallsUptoRow : OpenClaim := { program := "ytjnjdkefncdlpaa", sum := "3d8379a0e6e2c88cea5ad7b4c560ff32661acc3228a2fba88798b58640834074", func := "pontage/pontagelaw25.EscrowCalls", spec := "escrowCalls", inPlace := ["math/bits.Add64", "math/bits.Sub64", "slices.overlaps[pontage/api.Payment]"], unfollowed := true, recurses := true, apart := false, narrowed := true }
def EscrowCallsUptoSaid : Prop := escrowCallsUptoRow.holds Try.pinned (OpenSpec.upto escrowCallsSpec)

/-- 'pontagelaw25.EscrowConservation', WHERE WHAT IT READS IS OF BULK AT MOST 1048576: true; the input reads as it did. -/
def escrowConservationUptoRow : OpenClaim := { program := "ytjnjdkefncdlpaa", sum := "3d8379a0e6e2c88cea5ad7b4c560ff32661acc3228a2fba88798b58640834074", func := "pontage/pontagelaw25.EscrowConservation", spec := "escrowConservation", inPlace := ["math/bits.Add64", "math/bits.Sub64", "slices.overlaps[pontage/api.Payment]"], unfollowed := true, recurses := true, apart := false, narrowed := true }
def EscrowConservationUptoSaid : Prop := escrowConservationUptoRow.holds Try.pinned (OpenSpec.upto escrowConservationSpec)

/-- 'pontagelaw25.EscrowNil', WHERE WHAT IT READS IS OF BULK AT MOST 1048576: true; the input reads as it did. -/
def escrowNilUptoRow : OpenClaim := { program := "ytjnjdkefncdlpaa", sum := "3d8379a0e6e2c88cea5ad7b4c560ff32661acc3228a2fba88798b58640834074", func := "pontage/pontagelaw25.EscrowNil", spec := "escrowNil", inPlace := ["math/bits.Add64", "math/bits.Sub64", "slices.overlaps[pontage/api.Payment]"], unfollowed := true, recurses := true, apart := false, narrowed := true }
def EscrowNilUptoSaid : Prop := escrowNilUptoRow.holds Try.pinned (OpenSpec.upto escrowNilSpec)

/-- 'pontagelaw25.EscrowLoad', WHERE WHAT IT READS IS OF BULK AT MOST 1048576: true; the input reads as it did. -/
def escrowLoadUptoRow : OpenClaim := { program := "ytjnjdkefncdlpaa", sum := "3d8379a0e6e2c88cea5ad7b4c560ff32661acc3228a2fba88798b58640834074", func := "pontage/pontagelaw25.EscrowLoad", spec := "escrowLoad", inPlace := ["math/bits.Add64", "math/bits.Sub64", "slices.overlaps[pontage/api.Payment]"], unfollowed := true, recurses := true, apart := false, narrowed := true }
def EscrowLoadUptoSaid : Prop := escrowLoadUptoRow.holds Try.pinned (OpenSpec.upto escrowLoadSpec)

end Rows
end Go.Proofs.Ytjnjdkefncdlpaa
