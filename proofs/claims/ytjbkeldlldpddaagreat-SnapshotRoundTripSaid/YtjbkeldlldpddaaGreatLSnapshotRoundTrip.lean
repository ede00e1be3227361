/-
  SnapshotRoundTrip: for every input the law returns true, and its arguments read as before.
-/
import Derived.Test.YtjbkeldlldpddaaGreatRows
import Derived.ProofKit
import Derived.WalkKit
import Derived.OpenShut
import Derived.Test.YtjbkeldlldpddaaGreatTabSnapshotRoundTrip
set_option autoImplicit false
set_option linter.unusedVariables false
set_option maxRecDepth 100000
namespace Go.Proofs.YtjbkeldlldpddaaGreat
open Go Go.Pon Go.ChangeShapes Go.WideShapes Go.ChangeAt Go.RowKit

theorem row_read:Tryz.f6.params.toList.all (fun T=>Tryz.prog.readableRec T&&decide (T<Tryz.prog.types.size))=true:=by kernel_rfl

theorem row_lifted(os:Os)(started:os.Started)(H:Type)(enc:TypeId×Value→H) :
  ReturnsInHanded {} Tryz.checked os 6 .any (Rows.snapshotRoundTripSpec.pre6 enc Tryz.prog Tryz.f6 Rows.snapshotRoundTripRow.domain false) (Rows.snapshotRoundTripSpec.post enc Tryz.prog Tryz.f6 false true false false) :=
 Bz1 (C:=Tryz.checked) (f:=6) (fn:=Tryz.f6) (c:=Tryz.f6.body.getD .skip) (ins:=J5.ins) (F:=Gh) (spec:=Rows.snapshotRoundTripSpec) (Tb:=4) (enc:=enc)
  (by kernel_rfl) started (by kernel_rfl) (by kernel_rfl)
  (ChangeSpec.witness6 (enc:=enc) (C:=Tryz.checked) false ⟨#[],#[.slice none 0 0,.int .i64 0,.agg #[.int .u64 0,.int .u64 0,.int .u64 0,.int .u64 0],.int .u8 0],[]⟩ 12 (by kernel_rfl) (by kernel_rfl) (by kernel_rfl) (by kernel_rfl))
  Go.Pon.YtjbkeldlldpddaaGreat.ok_law27_SnapshotRoundTrip Tryz.func6 (by kernel_rfl) (by decide) (by kernel_rfl)
  (fun T hT=>by
   have h:=List.all_eq_true.1 row_read T hT
   simp only[aa5,ac4] at h
   exact h)
  (by kernel_rfl) (by kernel_rfl) rfl
  (fun ds hl=>by
   have hl:ds.length=4:=hl
   match ds,hl with
   | [d0,d1,d2,d3],_=>exact⟨rfl,rfl,rfl⟩)
  Go.Pon.law_SnapshotRoundTrip

theorem law_proved:Rows.SnapshotRoundTripSaid :=
 OpenClaim.holds_of_wide 6 Tryz.f6 rfl rfl rfl rfl rfl rfl rfl ⟨rfl,rfl,rfl,rfl,rfl⟩ rfl rfl rfl rfl rfl (by kernel_rfl) Tryz.func6 (by kernel_rfl)
  (ar4 (by kernel_rfl)) (by unfold Func.isWrapper;first | (rw[aa0 (by decide +kernel)];kernel_rfl) | (rw[aa1 (by decide +kernel)];exact⟨rfl,rfl⟩))
  (fun os started H enc _=>row_lifted os started H enc)

#print axioms law_proved
end Go.Proofs.YtjbkeldlldpddaaGreat
