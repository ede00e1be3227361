/-
  LedgerLoad: for every input the law returns true, and its arguments read as before.
-/
import Derived.Test.YtjmklfjcomjdeaaRows
import Derived.ProofKit
import Derived.WalkKit
import Derived.OpenShut
import Derived.Test.YtjmklfjcomjdeaaTabLedgerLoad
set_option autoImplicit false
set_option linter.unusedVariables false
set_option maxRecDepth 100000
namespace Go.Proofs.Ytjmklfjcomjdeaa
open Go Go.Pon Go.ChangeShapes Go.WideShapes Go.ChangeAt Go.RowKit

theorem row_read : Try.f4.params.toList.all (fun T => Try.prog.readableRec T && decide (T < Try.prog.types.size)) = true := by kernel_rfl

theorem row_lifted (os : Os) (started : os.Started) (H : Type) (enc : TypeId × Value → H) :
    ReturnsInHanded {} Try.checked os 4 .any (Rows.ledgerLoadSpec.pre6 enc Try.prog Try.f4 Rows.ledgerLoadRow.domain false) (Rows.ledgerLoadSpec.post enc Try.prog Try.f4 false true false false) :=
  law_lifted (C := Try.checked) (f := 4) (fn := Try.f4) (c := Try.f4.body.getD .skip) (ins := s_law11_LedgerLoad.ins) (F := sol_law11_LedgerLoad) (spec := Rows.ledgerLoadSpec) (Tb := 4) (enc := enc)
    (by kernel_rfl) started (by kernel_rfl) (by kernel_rfl)
    (ChangeSpec.witness6 (enc := enc) (C := Try.checked) false ⟨#[], #[.slice none 0 0, .agg #[.int .u64 0, .int .u64 0, .int .u64 0, .int .u64 0, .int .u64 0, .int .u64 0, .int .u64 0, .int .u64 0, .int .u64 0, .int .u64 0, .int .u64 0, .int .u64 0, .int .u64 0, .int .u64 0, .int .u64 0, .int .u64 0], .slice none 0 0, .int .i64 0], []⟩ 12 (by kernel_rfl) (by kernel_rfl) (by kernel_rfl) (by kernel_rfl))
    Go.Pon.Ytjmklfjcomjdeaa.ok_law11_LedgerLoad Try.func4 (by kernel_rfl) (by decide) (by kernel_rfl)
    (fun T hT => by
      have h := List.all_eq_true.1 row_read T hT
      simp only [Bool.and_eq_true, decide_eq_true_eq] at h
      exact h)
    (by kernel_rfl) (by kernel_rfl) rfl
    (fun ds hl => by
      have hl : ds.length = 4 := hl
      match ds, hl with
      | [d0, d1, d2, d3], _ => exact ⟨rfl, rfl, rfl⟩)
    Go.Pon.law_LedgerLoad

theorem law_proved : Rows.LedgerLoadSaid :=
  OpenClaim.holds_of_wide 4 Try.f4 rfl rfl rfl rfl rfl rfl rfl ⟨rfl, rfl, rfl, rfl, rfl⟩ rfl rfl rfl rfl rfl (by kernel_rfl) Try.func4 (by kernel_rfl)
    (of_decide_eq_true (by kernel_rfl)) (by unfold Func.isWrapper; first | (rw [if_pos (by decide +kernel)]; kernel_rfl) | (rw [if_neg (by decide +kernel)]; exact ⟨rfl, rfl⟩))
    (fun os started H enc _ => row_lifted os started H enc)

#print axioms law_proved
end Go.Proofs.Ytjmklfjcomjdeaa
