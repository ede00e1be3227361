/-
  SnapshotReference: for every input the law returns true, and its arguments read as before.
-/
import Derived.Test.YtjbkeldlldpddaaGreatRows
import Derived.ProofKit
import Derived.WalkKit
import Derived.OpenShut
import Derived.Test.YtjbkeldlldpddaaGreatTabSnapshotReference
set_option autoImplicit false
set_option linter.unusedVariables false
set_option maxRecDepth 100000
namespace Go.Proofs.YtjbkeldlldpddaaGreat
open Go Go.Pon Go.ChangeShapes Go.WideShapes Go.ChangeAt Go.RowKit

theorem row_read:Tryz.f5.params.toList.all (fun T=>Tryz.prog.readableRec T&&decide (T<Tryz.prog.types.size))=true:=by kernel_rfl

theorem row_lifted(os:Os)(started:os.Started)(H:Type)(enc:TypeId×Value→H) :
  ReturnsInHanded {} Tryz.checked os 5 .any (Rows.snapshotReferenceSpec.pre6 enc Tryz.prog Tryz.f5 Rows.snapshotReferenceRow.domain false) (Rows.snapshotReferenceSpec.post enc Tryz.prog Tryz.f5 false true false false) :=
 Ccm (C:=Tryz.checked) (f:=5) (fn:=Tryz.f5) (c:=Tryz.f5.body.getD .skip) (ins:=Hj.ins) (F:=Gg) (spec:=Rows.snapshotReferenceSpec) (Tb:=4) (enc:=enc)
  (by kernel_rfl) started (by kernel_rfl) (by kernel_rfl)
  (ChangeSpec.witness6 (enc:=enc) (C:=Tryz.checked) false ⟨#[],#[.agg #[.int .u64 0,.int .u64 0,.int .u64 0,.int .u64 0,.int .u64 0,.int .u64 0,.int .u64 0,.int .u64 0,.int .u64 0,.int .u64 0,.int .u64 0,.int .u64 0,.int .u64 0,.int .u64 0,.int .u64 0,.int .u64 0,.int .u64 0,.int .u64 0,.int .u64 0,.int .u64 0,.int .u64 0,.int .u64 0,.int .u64 0,.int .u64 0,.int .u64 0,.int .u64 0,.int .u64 0,.int .u64 0,.int .u64 0,.int .u64 0,.int .u64 0,.int .u64 0,.int .u64 0,.int .u64 0,.int .u64 0,.int .u64 0,.int .u64 0,.bool false,.int .u64 0,.int .u64 0,.int .u64 0,.int .u64 0,.slice none 0 0,.slice none 0 0,.int .u64 0,.int .u64 0,.int .u64 0,.int .u64 0,.int .u64 0,.int .u64 0,.int .u64 0,.int .u64 0,.int .u64 0,.int .u64 0,.int .u64 0,.int .u64 0,.int .u64 0,.int .u64 0,.int .u64 0,.int .u64 0,.slice none 0 0,.slice none 0 0,.int .u64 0,.int .u64 0,.int .u64 0,.int .u64 0,.slice none 0 0],.slice none 0 0,.int .i64 0,.agg #[.int .u64 0,.int .u64 0,.int .u64 0,.int .u64 0]],[]⟩ 12 (by kernel_rfl) (by kernel_rfl) (by kernel_rfl) (by kernel_rfl))
  Go.Pon.YtjbkeldlldpddaaGreat.ok_law27_SnapshotReference Tryz.func5 (by kernel_rfl) (by decide) (by kernel_rfl)
  (fun T hT=>by
   have h:=List.all_eq_true.1 row_read T hT
   simp only[Bool.and_eq_true,decide_eq_true_eq] at h
   exact h)
  (by kernel_rfl) (by kernel_rfl) rfl
  (fun ds hl=>by
   have hl:ds.length=4:=hl
   match ds,hl with
   | [d0,d1,d2,d3],_=>exact⟨rfl,rfl,rfl⟩)
  Go.Pon.law_SnapshotReference

theorem law_proved:Rows.SnapshotReferenceSaid :=
 OpenClaim.holds_of_wide 5 Tryz.f5 rfl rfl rfl rfl rfl rfl rfl ⟨rfl,rfl,rfl,rfl,rfl⟩ rfl rfl rfl rfl rfl (by kernel_rfl) Tryz.func5 (by kernel_rfl)
  (of_decide_eq_true (by kernel_rfl)) (by unfold Func.isWrapper;first | (rw[if_pos (by decide +kernel)];kernel_rfl) | (rw[if_neg (by decide +kernel)];exact⟨rfl,rfl⟩))
  (fun os started H enc _=>row_lifted os started H enc)

#print axioms law_proved
end Go.Proofs.YtjbkeldlldpddaaGreat
