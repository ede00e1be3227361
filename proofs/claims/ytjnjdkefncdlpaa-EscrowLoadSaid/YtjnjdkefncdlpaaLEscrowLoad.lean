/-
  EscrowLoad: for every input the law returns true, and its arguments read as before.
-/
import Derived.Test.YtjnjdkefncdlpaaRows
import Derived.ProofKit
import Derived.WalkKit
import Derived.OpenShut
import Derived.Test.YtjnjdkefncdlpaaTabEscrowLoad
set_option autoImplicit false
set_option linter.unusedVariables false
set_option maxRecDepth 100000
namespace Go.Proofs.Ytjnjdkefncdlpaa
open Go Go.Pon Go.ChangeShapes Go.WideShapes Go.ChangeAt Go.RowKit

theorem row_read : Try.f9.params.toList.all (fun T => Try.prog.readableRec T && decide (T < Try.prog.types.size)) = true := by kernel_rfl

theorem row_lifted (os : Os) (started : os.Started) (H : Type) (enc : TypeId × Value → H) :
    ReturnsInHanded {} Try.checked os 9 .any (Rows.escrowLoadSpec.pre6 enc Try.prog Try.f9 Rows.escrowLoadRow.domain false) (Rows.escrowLoadSpec.post enc Try.prog Try.f9 false true false false) :=
  law_lifted (C := Try.checked) (f := 9) (fn := Try.f9) (c := Try.f9.body.getD .skip) (ins := s_law25_EscrowLoad.ins) (F := sol_law25_EscrowLoad) (spec := Rows.escrowLoadSpec) (Tb := 4) (enc := enc)
    (by kernel_rfl) started (by kernel_rfl) (by kernel_rfl)
    (ChangeSpec.witness6 (enc := enc) (C := Try.checked) false ⟨#[], #[.slice none 0 0, .slice none 0 0, .agg #[.int .u64 0, .int .u64 0, .int .u64 0, .int .u64 0], .slice none 0 0, .slice none 0 0, .agg #[.int .i64 0, .int .i64 0, .int .i64 0, .int .i64 0, .int .u64 0, .int .u64 0, .int .u64 0, .int .u64 0, .int .u8 0, .int .u8 0, .int .u8 0, .int .u8 0, .int .u8 0, .int .u8 0, .int .u8 0, .int .u8 0, .int .u8 0, .int .u8 0, .int .u8 0, .int .u8 0, .int .u8 0, .int .u8 0, .int .u8 0, .int .u8 0, .int .u8 0, .int .u8 0, .int .u8 0, .int .u8 0, .int .u8 0, .int .u8 0, .int .u8 0, .int .u8 0, .int .u8 0, .int .u8 0, .int .u8 0, .int .u8 0, .int .u8 0, .int .u8 0, .int .u8 0, .int .u8 0, .int .u64 0, .int .u64 0, .int .u64 0, .int .u64 0, .int .u64 0, .int .u64 0, .int .u64 0, .slice none 0 0]], []⟩ 12 (by kernel_rfl) (by kernel_rfl) (by kernel_rfl) (by kernel_rfl))
    Go.Pon.Ytjnjdkefncdlpaa.ok_law25_EscrowLoad Try.func9 (by kernel_rfl) (by decide) (by kernel_rfl)
    (fun T hT => by
      have h := List.all_eq_true.1 row_read T hT
      simp only [Bool.and_eq_true, decide_eq_true_eq] at h
      exact h)
    (by kernel_rfl) (by kernel_rfl) rfl
    (fun ds hl => by
      have hl : ds.length = 6 := hl
      match ds, hl with
      | [d0, d1, d2, d3, d4, d5], _ => exact ⟨rfl, rfl, rfl⟩)
    Go.Pon.law_EscrowLoad

theorem law_proved : Rows.EscrowLoadSaid :=
  OpenClaim.holds_of_wide 9 Try.f9 rfl rfl rfl rfl rfl rfl rfl ⟨rfl, rfl, rfl, rfl, rfl⟩ rfl rfl rfl rfl rfl (by kernel_rfl) Try.func9 (by kernel_rfl)
    (of_decide_eq_true (by kernel_rfl)) (by unfold Func.isWrapper; first | (rw [if_pos (by decide +kernel)]; kernel_rfl) | (rw [if_neg (by decide +kernel)]; exact ⟨rfl, rfl⟩))
    (fun os started H enc _ => row_lifted os started H enc)

#print axioms law_proved
end Go.Proofs.Ytjnjdkefncdlpaa
