/-
  TxDataLimit: for every input the law returns true, and its arguments read as before.
-/
import Derived.Test.YtonakjfcigaaaaaRows
import Derived.ProofKit
import Derived.WalkKit
import Derived.OpenShut
import Derived.Test.YtonakjfcigaaaaaTabTxDataLimit
set_option autoImplicit false
set_option linter.unusedVariables false
set_option maxRecDepth 100000
namespace Go.Proofs.Ytonakjfcigaaaaa
open Go Go.Pon Go.ChangeShapes Go.WideShapes Go.ChangeAt Go.RowKit

theorem row_read : Try.f7.params.toList.all (fun T => Try.prog.readableRec T && decide (T < Try.prog.types.size)) = true := by kernel_rfl

theorem row_lifted (os : Os) (started : os.Started) (H : Type) (enc : TypeId × Value → H) :
    ReturnsInHanded {} Try.checked os 7 .any (Rows.txDataLimitSpec.pre6 enc Try.prog Try.f7 Rows.txDataLimitRow.domain false) (Rows.txDataLimitSpec.post enc Try.prog Try.f7 false true false false) :=
  law_lifted (C := Try.checked) (f := 7) (fn := Try.f7) (c := Try.f7.body.getD .skip) (ins := s_law22_TxDataLimit.ins) (F := sol_law22_TxDataLimit) (spec := Rows.txDataLimitSpec) (Tb := 4) (enc := enc)
    (by kernel_rfl) started (by kernel_rfl) (by kernel_rfl)
    (ChangeSpec.witness6 (enc := enc) (C := Try.checked) false ⟨#[], #[.int .u8 0, .int .i64 0], []⟩ 12 (by kernel_rfl) (by kernel_rfl) (by kernel_rfl) (by kernel_rfl))
    Go.Pon.Ytonakjfcigaaaaa.ok_law22_TxDataLimit Try.func7 (by kernel_rfl) (by decide) (by kernel_rfl)
    (fun T hT => by
      have h := List.all_eq_true.1 row_read T hT
      simp only [Bool.and_eq_true, decide_eq_true_eq] at h
      exact h)
    (by kernel_rfl) (by kernel_rfl) rfl
    (fun ds hl => by
      have hl : ds.length = 2 := hl
      match ds, hl with
      | [d0, d1], _ => exact ⟨rfl, rfl, rfl⟩)
    Go.Pon.law_TxDataLimit

theorem law_proved : Rows.TxDataLimitSaid :=
  OpenClaim.holds_of_wide 7 Try.f7 rfl rfl rfl rfl rfl rfl rfl ⟨rfl, rfl, rfl, rfl, rfl⟩ rfl rfl rfl rfl rfl (by kernel_rfl) Try.func7 (by kernel_rfl)
    (of_decide_eq_true (by kernel_rfl)) (by unfold Func.isWrapper; first | (rw [if_pos (by decide +kernel)]; kernel_rfl) | (rw [if_neg (by decide +kernel)]; exact ⟨rfl, rfl⟩))
    (fun os started H enc _ => row_lifted os started H enc)

#print axioms law_proved
end Go.Proofs.Ytonakjfcigaaaaa
