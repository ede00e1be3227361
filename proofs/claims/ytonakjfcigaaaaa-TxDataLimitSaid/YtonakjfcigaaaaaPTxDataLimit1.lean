/-
  Part of a proof: general lemmas, merged by a program of this work.
-/
import Derived.Test.YtonakjfcigaaaaaF3
set_option autoImplicit false
set_option linter.unusedVariables false
set_option maxRecDepth 100000
namespace Go.Pon
open Go
abbrev s_law0_Mod : Sig := ⟨[(.ro true (.int .i64)), (.ro true (.int .i64))], [(.ro true (.int .i64))]⟩
abbrev F_law0_Mod := (Int × (Int × Unit)) → Option ((Int × Unit) × (Unit × (Unit × Unit)))
noncomputable def T_law0_Mod (L : LoopD) (x_ : Int) (n_ : Int) : Option ((Int × Unit) × (Unit × (Unit × Unit))) := (brR (decide ((IntKind.wrap (IntKind.u64) n_) ≠ (0 : Int))) (some (((IntKind.wrap (IntKind.i64) (Int.tmod (IntKind.wrap (IntKind.u64) x_) (IntKind.wrap (IntKind.u64) n_))), ()), ((), ((), ())))) none)
noncomputable def sol_law0_Mod : F_law0_Mod := fun x => T_law0_Mod bigLoop x.1 x.2.1
end Go.Pon
set_option autoImplicit false
set_option linter.unusedVariables false
set_option maxRecDepth 100000
namespace Go.Pon
open Go
abbrev s_ref6_digits : Sig := ⟨[(.ro true (.arr 4 (.int .u64)))], [(.own true (.int .u8))]⟩
abbrev F_ref6_digits := ((List Int) × Unit) → Option (((List Int) × Unit) × (Unit × Unit))
noncomputable def T_ref6_digits_loop0 (again_0 : ((List Int) × ((List Int) × (Int × Unit))) → Option (((List Int) × Unit) × (Unit × Unit))) (n_1 : (List Int)) (out_2 : (List Int)) (i_3 : Int) : Option (((List Int) × Unit) × (Unit × Unit)) := (letR (IntKind.wrap (IntKind.u64) (IntKind.wrap (IntKind.i64) ((8 : Int) * (Int.tmod i_3 (8 : Int))))) fun (v_4 : Int) => (letR (IntKind.wrap (IntKind.u8) (Int.fdiv (List.getD n_1 (Int.toNat (IntKind.wrap (IntKind.i64) (Int.tdiv i_3 (8 : Int)))) (0 : Int)) ((2 : Int) ^ (min (Int.toNat v_4) (64 : Nat))))) fun (v_5 : Int) => (brR (decide (i_3 ≥ (0 : Int))) (brR (inR (IntKind.wrap (IntKind.i64) (Int.tdiv i_3 (8 : Int))) (4 : Nat)) (brR (decide ((0 : Int) ≤ v_4)) (brR (decide ((((List.length out_2) : Nat) : Int) > (0 : Int))) (brR (roomy ((List.length out_2) + (1 : Nat)) (Ty.int IntKind.u8)) (again_0 (n_1, ((List.append out_2 [v_5]), ((IntKind.wrap (IntKind.i64) (i_3 - (1 : Int))), ())))) none) (brR (decide (v_5 > (0 : Int))) (brR (roomy ((List.length out_2) + (1 : Nat)) (Ty.int IntKind.u8)) (again_0 (n_1, ((List.append out_2 [v_5]), ((IntKind.wrap (IntKind.i64) (i_3 - (1 : Int))), ())))) none) (again_0 (n_1, (out_2, ((IntKind.wrap (IntKind.i64) (i_3 - (1 : Int))), ())))))) none) none) (some ((out_2, ()), ((), ()))))))
noncomputable def T_ref6_digits (L : LoopD) (n_ : (List Int)) : Option (((List Int) × Unit) × (Unit × Unit)) := (L _ _ (fun again x => T_ref6_digits_loop0 again x.1 x.2.1 x.2.2.1) (n_, (([] : List Int), ((31 : Int), ()))))
noncomputable def sol_ref6_digits : F_ref6_digits := fun x => T_ref6_digits bigLoop x.1
abbrev s_ref6_AppendUint256 : Sig := ⟨[(.ro false (.slice (.int .u8))), (.ro true (.arr 4 (.int .u64)))], [(.own true (.int .u8))]⟩
abbrev F_ref6_AppendUint256 := ((List Int) × ((List Int) × Unit)) → Option (((List Int) × Unit) × (Unit × (Unit × Unit)))
noncomputable def T_ref6_AppendUint256 (L : LoopD) (c_ref6_digits : F_ref6_digits) (b_ : (List Int)) (n_ : (List Int)) : Option (((List Int) × Unit) × (Unit × (Unit × Unit))) := (Option.bind (c_ref6_digits (n_, ())) (fun (y_0 : (((List Int) × Unit) × (Unit × Unit))) => (letR (List.length y_0.1.1) fun (v_1 : Nat) => (letR (List.append b_ [(IntKind.wrap (IntKind.u8) ((v_1 : Nat) : Int))]) fun (v_2 : (List Int)) => (brR (roomy ((0 : Nat) + (List.length b_)) (Ty.int IntKind.u8)) (brR (roomy ((List.length b_) + (1 : Nat)) (Ty.int IntKind.u8)) (brR (roomy ((List.length v_2) + v_1) (Ty.int IntKind.u8)) (some (((List.append v_2 y_0.1.1), ()), ((), ((), ())))) none) none) none)))))
noncomputable def sol_ref6_AppendUint256 : F_ref6_AppendUint256 := fun x => T_ref6_AppendUint256 bigLoop sol_ref6_digits x.1 x.2.1
abbrev s_ref6_AppendUint64 : Sig := ⟨[(.ro false (.slice (.int .u8))), (.ro true (.int .u64))], [(.own true (.int .u8))]⟩
abbrev F_ref6_AppendUint64 := ((List Int) × (Int × Unit)) → Option (((List Int) × Unit) × (Unit × (Unit × Unit)))
noncomputable def T_ref6_AppendUint64 (L : LoopD) (c_ref6_AppendUint256 : F_ref6_AppendUint256) (b_ : (List Int)) (n_ : Int) : Option (((List Int) × Unit) × (Unit × (Unit × Unit))) := (Option.bind (c_ref6_AppendUint256 (b_, ([n_, (0 : Int), (0 : Int), (0 : Int)], ()))) (fun (y_0 : (((List Int) × Unit) × (Unit × (Unit × Unit)))) => (some ((y_0.1.1, ()), ((), ((), ()))))))
noncomputable def sol_ref6_AppendUint64 : F_ref6_AppendUint64 := fun x => T_ref6_AppendUint64 bigLoop sol_ref6_AppendUint256 x.1 x.2.1
abbrev s_ref6_AppendBytes : Sig := ⟨[(.ro false (.slice (.int .u8))), (.ro false (.slice (.int .u8)))], [(.own true (.int .u8))]⟩
abbrev F_ref6_AppendBytes := ((List Int) × ((List Int) × Unit)) → Option (((List Int) × Unit) × (Unit × (Unit × Unit)))
noncomputable def T_ref6_AppendBytes (L : LoopD) (c_ref6_AppendUint64 : F_ref6_AppendUint64) (b_ : (List Int)) (x_ : (List Int)) : Option (((List Int) × Unit) × (Unit × (Unit × Unit))) := (Option.bind (c_ref6_AppendUint64 (b_, ((IntKind.wrap (IntKind.u64) (((List.length x_) : Nat) : Int)), ()))) (fun (y_0 : (((List Int) × Unit) × (Unit × (Unit × Unit)))) => (brR (roomy ((List.length y_0.1.1) + (List.length x_)) (Ty.int IntKind.u8)) (some (((List.append y_0.1.1 x_), ()), ((), ((), ())))) none)))
noncomputable def sol_ref6_AppendBytes : F_ref6_AppendBytes := fun x => T_ref6_AppendBytes bigLoop sol_ref6_AppendUint64 x.1 x.2.1
end Go.Pon
set_option autoImplicit false
set_option linter.unusedVariables false
set_option maxRecDepth 100000
namespace Go.Pon
open Go
abbrev s_ref22_Equal : Sig := ⟨[(.ro false (.pair (.int .u64) (.pair (.int .u64) (.pair (.int .u64) (.pair (.arr 4 (.int .u64)) (.pair (.int .u64) (.pair (.arr 4 (.int .u64)) (.pair (.arr 4 (.int .u64)) (.pair (.int .u64) (.pair (.slice (.int .u8)) .unit)))))))))), (.ro false (.pair (.int .u64) (.pair (.int .u64) (.pair (.int .u64) (.pair (.arr 4 (.int .u64)) (.pair (.int .u64) (.pair (.arr 4 (.int .u64)) (.pair (.arr 4 (.int .u64)) (.pair (.int .u64) (.pair (.slice (.int .u8)) .unit))))))))))], [(.ro true .bool)]⟩
abbrev F_ref22_Equal := ((Int × (Int × (Int × ((List Int) × (Int × ((List Int) × ((List Int) × (Int × ((List Int) × Unit))))))))) × ((Int × (Int × (Int × ((List Int) × (Int × ((List Int) × ((List Int) × (Int × ((List Int) × Unit))))))))) × Unit)) → Option ((Bool × Unit) × (Unit × (Unit × Unit)))
noncomputable def T_ref22_Equal (L : LoopD) (a_ : (Int × (Int × (Int × ((List Int) × (Int × ((List Int) × ((List Int) × (Int × ((List Int) × Unit)))))))))) (b_ : (Int × (Int × (Int × ((List Int) × (Int × ((List Int) × ((List Int) × (Int × ((List Int) × Unit)))))))))) : Option ((Bool × Unit) × (Unit × (Unit × Unit))) := (brR (decide (a_.1 = b_.1)) (brR (decide (a_.2.1 = b_.2.1)) (brR (decide (a_.2.2.1 = b_.2.2.1)) (brR (eqD (Ty.arr 4 (Ty.int IntKind.u64)) a_.2.2.2.1 b_.2.2.2.1) (brR (decide (a_.2.2.2.2.1 = b_.2.2.2.2.1)) (brR (eqD (Ty.arr 4 (Ty.int IntKind.u64)) a_.2.2.2.2.2.1 b_.2.2.2.2.2.1) (brR (eqD (Ty.arr 4 (Ty.int IntKind.u64)) a_.2.2.2.2.2.2.1 b_.2.2.2.2.2.2.1) (brR (decide (a_.2.2.2.2.2.2.2.1 = b_.2.2.2.2.2.2.2.1)) (some (((eqD (Ty.str) a_.2.2.2.2.2.2.2.2.1 b_.2.2.2.2.2.2.2.2.1), ()), ((), ((), ())))) (some ((false, ()), ((), ((), ()))))) (some ((false, ()), ((), ((), ()))))) (some ((false, ()), ((), ((), ()))))) (some ((false, ()), ((), ((), ()))))) (some ((false, ()), ((), ((), ()))))) (some ((false, ()), ((), ((), ()))))) (some ((false, ()), ((), ((), ()))))) (some ((false, ()), ((), ((), ())))))
noncomputable def sol_ref22_Equal : F_ref22_Equal := fun x => T_ref22_Equal bigLoop x.1 x.2.1
end Go.Pon
set_option autoImplicit false
set_option linter.unusedVariables false
set_option maxRecDepth 100000
namespace Go.Pon
open Go
abbrev s_slices_Grow_byte_byte : Sig := ⟨[.nilm (.int .u8), .ro true (.int .i64)], [.own true (.int .u8)]⟩
abbrev F_slices_Grow_byte_byte := (Unit × (Int × Unit)) → Option (((List Int) × Unit) × (Unit × (Unit × Unit)))
noncomputable def T_slices_Grow_byte_byte (L : LoopD) (s_ : Unit) (n_ : Int) : Option (((List Int) × Unit) × (Unit × (Unit × Unit))) := (brR (decide (n_ < (0 : Int))) none (brR (decide ((IntKind.wrap (IntKind.i64) (n_ - (0 : Int))) > (0 : Int))) (brR (((decide ((0 : Int) ≤ (IntKind.wrap (IntKind.i64) (n_ - (0 : Int))))) && (roomy (Int.toNat (IntKind.wrap (IntKind.i64) (n_ - (0 : Int)))) (Ty.int IntKind.u8))) && true) (brR (decide ((0 : Int) ≤ (((List.length (List.replicate (Int.toNat (IntKind.wrap (IntKind.i64) (n_ - (0 : Int)))) (0 : Int))) : Nat) : Int))) (some (((List.take (0 : Nat) (List.replicate (Int.toNat (IntKind.wrap (IntKind.i64) (n_ - (0 : Int)))) (0 : Int))), ()), ((), ((), ())))) none) none) (some ((([] : List Int), ()), ((), ((), ()))))))
noncomputable def sol_slices_Grow_byte_byte : F_slices_Grow_byte_byte := fun x => T_slices_Grow_byte_byte bigLoop x.1 x.2.1
abbrev s_slices_Concat_byte_byte : Sig := ⟨[(.ro false (.slice (.slice (.int .u8))))], [(.own true (.int .u8))]⟩
abbrev F_slices_Concat_byte_byte := ((List (List Int)) × Unit) → Option (((List Int) × Unit) × (Unit × Unit))
noncomputable def T_slices_Concat_byte_byte_loop1 (again_8 : ((List Int) × ((List (List Int)) × (Int × (Int × Unit)))) → Option (((List Int) × Unit) × (Unit × Unit))) (newslice_9 : (List Int)) (t25_10 : (List (List Int))) (t26_11 : Int) (t27_12 : Int) : Option (((List Int) × Unit) × (Unit × Unit)) := (brR (decide (t27_12 < t26_11)) (brR (inR t27_12 (List.length t25_10)) (brR (roomy ((List.length newslice_9) + (List.length (List.getD t25_10 (Int.toNat t27_12) ([] : List Int)))) (Ty.int IntKind.u8)) (again_8 ((List.append newslice_9 (List.getD t25_10 (Int.toNat t27_12) ([] : List Int))), (t25_10, (t26_11, ((IntKind.wrap (IntKind.i64) (t27_12 + (1 : Int))), ()))))) none) none) (some ((newslice_9, ()), ((), ()))))
noncomputable def T_slices_Concat_byte_byte_loop0 (L : LoopD) (c_slices_Grow_byte_byte : F_slices_Grow_byte_byte) (again_0 : ((List (List Int)) × (Int × ((List (List Int)) × (Int × (Int × Unit))))) → Option (((List Int) × Unit) × (Unit × Unit))) (slices_1 : (List (List Int))) (size_2 : Int) (t9_3 : (List (List Int))) (t10_4 : Int) (t11_5 : Int) : Option (((List Int) × Unit) × (Unit × Unit)) := (letR (IntKind.wrap (IntKind.i64) (size_2 + (((List.length (List.getD t9_3 (Int.toNat t11_5) ([] : List Int))) : Nat) : Int))) fun (v_6 : Int) => (brR (decide (t11_5 < t10_4)) (brR (inR t11_5 (List.length t9_3)) (brR (decide (v_6 < (0 : Int))) none (again_0 (slices_1, (v_6, (t9_3, (t10_4, ((IntKind.wrap (IntKind.i64) (t11_5 + (1 : Int))), ()))))))) none) (Option.bind (c_slices_Grow_byte_byte ((), (size_2, ()))) (fun (y_7 : (((List Int) × Unit) × (Unit × (Unit × Unit)))) => (L _ _ (fun again x => T_slices_Concat_byte_byte_loop1 again x.1 x.2.1 x.2.2.1 x.2.2.2.1) (y_7.1.1, (slices_1, ((((List.length slices_1) : Nat) : Int), ((0 : Int), ())))))))))
noncomputable def T_slices_Concat_byte_byte (L : LoopD) (c_slices_Grow_byte_byte : F_slices_Grow_byte_byte) (slices_ : (List (List Int))) : Option (((List Int) × Unit) × (Unit × Unit)) := (L _ _ (fun again x => T_slices_Concat_byte_byte_loop0 L c_slices_Grow_byte_byte again x.1 x.2.1 x.2.2.1 x.2.2.2.1 x.2.2.2.2.1) (slices_, ((0 : Int), (slices_, ((((List.length slices_) : Nat) : Int), ((0 : Int), ()))))))
noncomputable def sol_slices_Concat_byte_byte : F_slices_Concat_byte_byte := fun x => T_slices_Concat_byte_byte bigLoop sol_slices_Grow_byte_byte x.1
abbrev s_slices_Clone_byte_byte : Sig := ⟨[(.ro false (.slice (.int .u8)))], [(.own true (.int .u8))]⟩
abbrev F_slices_Clone_byte_byte := ((List Int) × Unit) → Option (((List Int) × Unit) × (Unit × Unit))
noncomputable def T_slices_Clone_byte_byte (L : LoopD) (s_ : (List Int)) : Option (((List Int) × Unit) × (Unit × Unit)) := (brR (decide ((List.length s_) = (0 : Nat))) (bothR (some ((([] : List Int), ()), ((), ()))) (brR (roomy ((0 : Nat) + (List.length s_)) (Ty.int IntKind.u8)) (some ((s_, ()), ((), ()))) none)) (brR (roomy ((0 : Nat) + (List.length s_)) (Ty.int IntKind.u8)) (some ((s_, ()), ((), ()))) none))
noncomputable def sol_slices_Clone_byte_byte : F_slices_Clone_byte_byte := fun x => T_slices_Clone_byte_byte bigLoop x.1
end Go.Pon
set_option autoImplicit false
set_option linter.unusedVariables false
set_option maxRecDepth 100000
namespace Go.Pon
open Go
abbrev s_math_bits_Len64 : Sig := ⟨[(.ro true (.int .u64))], [(.ro true (.int .i64))]⟩
abbrev F_math_bits_Len64 := (Int × Unit) → Option ((Int × Unit) × (Unit × Unit))
noncomputable def T_math_bits_Len64 (L : LoopD) (x_ : Int) : Option ((Int × Unit) × (Unit × Unit)) := (brR (decide (x_ ≥ (4294967296 : Int))) (brR (decide ((Int.fdiv x_ (4294967296 : Int)) ≥ (65536 : Int))) (brR (decide ((Int.fdiv (Int.fdiv x_ (4294967296 : Int)) (65536 : Int)) ≥ (256 : Int))) (brR (inR (IntKind.wrap (IntKind.u8) (Int.fdiv (Int.fdiv (Int.fdiv x_ (4294967296 : Int)) (65536 : Int)) (256 : Int))) (256 : Nat)) (some (((IntKind.wrap (IntKind.i64) ((56 : Int) + (IntKind.wrap (IntKind.i64) (List.getD [(0 : Int), (1 : Int), (2 : Int), (2 : Int), (3 : Int), (3 : Int), (3 : Int), (3 : Int), (4 : Int), (4 : Int), (4 : Int), (4 : Int), (4 : Int), (4 : Int), (4 : Int), (4 : Int), (5 : Int), (5 : Int), (5 : Int), (5 : Int), (5 : Int), (5 : Int), (5 : Int), (5 : Int), (5 : Int), (5 : Int), (5 : Int), (5 : Int), (5 : Int), (5 : Int), (5 : Int), (5 : Int), (6 : Int), (6 : Int), (6 : Int), (6 : Int), (6 : Int), (6 : Int), (6 : Int), (6 : Int), (6 : Int), (6 : Int), (6 : Int), (6 : Int), (6 : Int), (6 : Int), (6 : Int), (6 : Int), (6 : Int), (6 : Int), (6 : Int), (6 : Int), (6 : Int), (6 : Int), (6 : Int), (6 : Int), (6 : Int), (6 : Int), (6 : Int), (6 : Int), (6 : Int), (6 : Int), (6 : Int), (6 : Int), (7 : Int), (7 : Int), (7 : Int), (7 : Int), (7 : Int), (7 : Int), (7 : Int), (7 : Int), (7 : Int), (7 : Int), (7 : Int), (7 : Int), (7 : Int), (7 : Int), (7 : Int), (7 : Int), (7 : Int), (7 : Int), (7 : Int), (7 : Int), (7 : Int), (7 : Int), (7 : Int), (7 : Int), (7 : Int), (7 : Int), (7 : Int), (7 : Int), (7 : Int), (7 : Int), (7 : Int), (7 : Int), (7 : Int), (7 : Int), (7 : Int), (7 : Int), (7 : Int), (7 : Int), (7 : Int), (7 : Int), (7 : Int), (7 : Int), (7 : Int), (7 : Int), (7 : Int), (7 : Int), (7 : Int), (7 : Int), (7 : Int), (7 : Int), (7 : Int), (7 : Int), (7 : Int), (7 : Int), (7 : Int), (7 : Int), (7 : Int), (7 : Int), (7 : Int), (7 : Int), (7 : Int), (7 : Int), (7 : Int), (7 : Int), (8 : Int), (8 : Int), (8 : Int), (8 : Int), (8 : Int), (8 : Int), (8 : Int), (8 : Int), (8 : Int), (8 : Int), (8 : Int), (8 : Int), (8 : Int), (8 : Int), (8 : Int), (8 : Int), (8 : Int), (8 : Int), (8 : Int), (8 : Int), (8 : Int), (8 : Int), (8 : Int), (8 : Int), (8 : Int), (8 : Int), (8 : Int), (8 : Int), (8 : Int), (8 : Int), (8 : Int), (8 : Int), (8 : Int), (8 : Int), (8 : Int), (8 : Int), (8 : Int), (8 : Int), (8 : Int), (8 : Int), (8 : Int), (8 : Int), (8 : Int), (8 : Int), (8 : Int), (8 : Int), (8 : Int), (8 : Int), (8 : Int), (8 : Int), (8 : Int), (8 : Int), (8 : Int), (8 : Int), (8 : Int), (8 : Int), (8 : Int), (8 : Int), (8 : Int), (8 : Int), (8 : Int), (8 : Int), (8 : Int), (8 : Int), (8 : Int), (8 : Int), (8 : Int), (8 : Int), (8 : Int), (8 : Int), (8 : Int), (8 : Int), (8 : Int), (8 : Int), (8 : Int), (8 : Int), (8 : Int), (8 : Int), (8 : Int), (8 : Int), (8 : Int), (8 : Int), (8 : Int), (8 : Int), (8 : Int), (8 : Int), (8 : Int), (8 : Int), (8 : Int), (8 : Int), (8 : Int), (8 : Int), (8 : Int), (8 : Int), (8 : Int), (8 : Int), (8 : Int), (8 : Int), (8 : Int), (8 : Int), (8 : Int), (8 : Int), (8 : Int), (8 : Int), (8 : Int), (8 : Int), (8 : Int), (8 : Int), (8 : Int), (8 : Int), (8 : Int), (8 : Int), (8 : Int), (8 : Int), (8 : Int), (8 : Int), (8 : Int), (8 : Int), (8 : Int), (8 : Int), (8 : Int), (8 : Int), (8 : Int), (8 : Int), (8 : Int), (8 : Int), (8 : Int), (8 : Int)] (Int.toNat (IntKind.wrap (IntKind.u8) (Int.fdiv (Int.fdiv (Int.fdiv x_ (4294967296 : Int)) (65536 : Int)) (256 : Int)))) (0 : Int))))), ()), ((), ()))) none) (brR (inR (IntKind.wrap (IntKind.u8) (Int.fdiv (Int.fdiv x_ (4294967296 : Int)) (65536 : Int))) (256 : Nat)) (some (((IntKind.wrap (IntKind.i64) ((48 : Int) + (IntKind.wrap (IntKind.i64) (List.getD [(0 : Int), (1 : Int), (2 : Int), (2 : Int), (3 : Int), (3 : Int), (3 : Int), (3 : Int), (4 : Int), (4 : Int), (4 : Int), (4 : Int), (4 : Int), (4 : Int), (4 : Int), (4 : Int), (5 : Int), (5 : Int), (5 : Int), (5 : Int), (5 : Int), (5 : Int), (5 : Int), (5 : Int), (5 : Int), (5 : Int), (5 : Int), (5 : Int), (5 : Int), (5 : Int), (5 : Int), (5 : Int), (6 : Int), (6 : Int), (6 : Int), (6 : Int), (6 : Int), (6 : Int), (6 : Int), (6 : Int), (6 : Int), (6 : Int), (6 : Int), (6 : Int), (6 : Int), (6 : Int), (6 : Int), (6 : Int), (6 : Int), (6 : Int), (6 : Int), (6 : Int), (6 : Int), (6 : Int), (6 : Int), (6 : Int), (6 : Int), (6 : Int), (6 : Int), (6 : Int), (6 : Int), (6 : Int), (6 : Int), (6 : Int), (7 : Int), (7 : Int), (7 : Int), (7 : Int), (7 : Int), (7 : Int), (7 : Int), (7 : Int), (7 : Int), (7 : Int), (7 : Int), (7 : Int), (7 : Int), (7 : Int), (7 : Int), (7 : Int), (7 : Int), (7 : Int), (7 : Int), (7 : Int), (7 : Int), (7 : Int), (7 : Int), (7 : Int), (7 : Int), (7 : Int), (7 : Int), (7 : Int), (7 : Int), (7 : Int), (7 : Int), (7 : Int), (7 : Int), (7 : Int), (7 : Int), (7 : Int), (7 : Int), (7 : Int), (7 : Int), (7 : Int), (7 : Int), (7 : Int), (7 : Int), (7 : Int), (7 : Int), (7 : Int), (7 : Int), (7 : Int), (7 : Int), (7 : Int), (7 : Int), (7 : Int), (7 : Int), (7 : Int), (7 : Int), (7 : Int), (7 : Int), (7 : Int), (7 : Int), (7 : Int), (7 : Int), (7 : Int), (7 : Int), (7 : Int), (8 : Int), (8 : Int), (8 : Int), (8 : Int), (8 : Int), (8 : Int), (8 : Int), (8 : Int), (8 : Int), (8 : Int), (8 : Int), (8 : Int), (8 : Int), (8 : Int), (8 : Int), (8 : Int), (8 : Int), (8 : Int), (8 : Int), (8 : Int), (8 : Int), (8 : Int), (8 : Int), (8 : Int), (8 : Int), (8 : Int), (8 : Int), (8 : Int), (8 : Int), (8 : Int), (8 : Int), (8 : Int), (8 : Int), (8 : Int), (8 : Int), (8 : Int), (8 : Int), (8 : Int), (8 : Int), (8 : Int), (8 : Int), (8 : Int), (8 : Int), (8 : Int), (8 : Int), (8 : Int), (8 : Int), (8 : Int), (8 : Int), (8 : Int), (8 : Int), (8 : Int), (8 : Int), (8 : Int), (8 : Int), (8 : Int), (8 : Int), (8 : Int), (8 : Int), (8 : Int), (8 : Int), (8 : Int), (8 : Int), (8 : Int), (8 : Int), (8 : Int), (8 : Int), (8 : Int), (8 : Int), (8 : Int), (8 : Int), (8 : Int), (8 : Int), (8 : Int), (8 : Int), (8 : Int), (8 : Int), (8 : Int), (8 : Int), (8 : Int), (8 : Int), (8 : Int), (8 : Int), (8 : Int), (8 : Int), (8 : Int), (8 : Int), (8 : Int), (8 : Int), (8 : Int), (8 : Int), (8 : Int), (8 : Int), (8 : Int), (8 : Int), (8 : Int), (8 : Int), (8 : Int), (8 : Int), (8 : Int), (8 : Int), (8 : Int), (8 : Int), (8 : Int), (8 : Int), (8 : Int), (8 : Int), (8 : Int), (8 : Int), (8 : Int), (8 : Int), (8 : Int), (8 : Int), (8 : Int), (8 : Int), (8 : Int), (8 : Int), (8 : Int), (8 : Int), (8 : Int), (8 : Int), (8 : Int), (8 : Int), (8 : Int), (8 : Int), (8 : Int), (8 : Int), (8 : Int)] (Int.toNat (IntKind.wrap (IntKind.u8) (Int.fdiv (Int.fdiv x_ (4294967296 : Int)) (65536 : Int)))) (0 : Int))))), ()), ((), ()))) none)) (brR (decide ((Int.fdiv x_ (4294967296 : Int)) ≥ (256 : Int))) (brR (inR (IntKind.wrap (IntKind.u8) (Int.fdiv (Int.fdiv x_ (4294967296 : Int)) (256 : Int))) (256 : Nat)) (some (((IntKind.wrap (IntKind.i64) ((40 : Int) + (IntKind.wrap (IntKind.i64) (List.getD [(0 : Int), (1 : Int), (2 : Int), (2 : Int), (3 : Int), (3 : Int), (3 : Int), (3 : Int), (4 : Int), (4 : Int), (4 : Int), (4 : Int), (4 : Int), (4 : Int), (4 : Int), (4 : Int), (5 : Int), (5 : Int), (5 : Int), (5 : Int), (5 : Int), (5 : Int), (5 : Int), (5 : Int), (5 : Int), (5 : Int), (5 : Int), (5 : Int), (5 : Int), (5 : Int), (5 : Int), (5 : Int), (6 : Int), (6 : Int), (6 : Int), (6 : Int), (6 : Int), (6 : Int), (6 : Int), (6 : Int), (6 : Int), (6 : Int), (6 : Int), (6 : Int), (6 : Int), (6 : Int), (6 : Int), (6 : Int), (6 : Int), (6 : Int), (6 : Int), (6 : Int), (6 : Int), (6 : Int), (6 : Int), (6 : Int), (6 : Int), (6 : Int), (6 : Int), (6 : Int), (6 : Int), (6 : Int), (6 : Int), (6 : Int), (7 : Int), (7 : Int), (7 : Int), (7 : Int), (7 : Int), (7 : Int), (7 : Int), (7 : Int), (7 : Int), (7 : Int), (7 : Int), (7 : Int), (7 : Int), (7 : Int), (7 : Int), (7 : Int), (7 : Int), (7 : Int), (7 : Int), (7 : Int), (7 : Int), (7 : Int), (7 : Int), (7 : Int), (7 : Int), (7 : Int), (7 : Int), (7 : Int), (7 : Int), (7 : Int), (7 : Int), (7 : Int), (7 : Int), (7 : Int), (7 : Int), (7 : Int), (7 : Int), (7 : Int), (7 : Int), (7 : Int), (7 : Int), (7 : Int), (7 : Int), (7 : Int), (7 : Int), (7 : Int), (7 : Int), (7 : Int), (7 : Int), (7 : Int), (7 : Int), (7 : Int), (7 : Int), (7 : Int), (7 : Int), (7 : Int), (7 : Int), (7 : Int), (7 : Int), (7 : Int), (7 : Int), (7 : Int), (7 : Int), (7 : Int), (8 : Int), (8 : Int), (8 : Int), (8 : Int), (8 : Int), (8 : Int), (8 : Int), (8 : Int), (8 : Int), (8 : Int), (8 : Int), (8 : Int), (8 : Int), (8 : Int), (8 : Int), (8 : Int), (8 : Int), (8 : Int), (8 : Int), (8 : Int), (8 : Int), (8 : Int), (8 : Int), (8 : Int), (8 : Int), (8 : Int), (8 : Int), (8 : Int), (8 : Int), (8 : Int), (8 : Int), (8 : Int), (8 : Int), (8 : Int), (8 : Int), (8 : Int), (8 : Int), (8 : Int), (8 : Int), (8 : Int), (8 : Int), (8 : Int), (8 : Int), (8 : Int), (8 : Int), (8 : Int), (8 : Int), (8 : Int), (8 : Int), (8 : Int), (8 : Int), (8 : Int), (8 : Int), (8 : Int), (8 : Int), (8 : Int), (8 : Int), (8 : Int), (8 : Int), (8 : Int), (8 : Int), (8 : Int), (8 : Int), (8 : Int), (8 : Int), (8 : Int), (8 : Int), (8 : Int), (8 : Int), (8 : Int), (8 : Int), (8 : Int), (8 : Int), (8 : Int), (8 : Int), (8 : Int), (8 : Int), (8 : Int), (8 : Int), (8 : Int), (8 : Int), (8 : Int), (8 : Int), (8 : Int), (8 : Int), (8 : Int), (8 : Int), (8 : Int), (8 : Int), (8 : Int), (8 : Int), (8 : Int), (8 : Int), (8 : Int), (8 : Int), (8 : Int), (8 : Int), (8 : Int), (8 : Int), (8 : Int), (8 : Int), (8 : Int), (8 : Int), (8 : Int), (8 : Int), (8 : Int), (8 : Int), (8 : Int), (8 : Int), (8 : Int), (8 : Int), (8 : Int), (8 : Int), (8 : Int), (8 : Int), (8 : Int), (8 : Int), (8 : Int), (8 : Int), (8 : Int), (8 : Int), (8 : Int), (8 : Int), (8 : Int), (8 : Int), (8 : Int), (8 : Int), (8 : Int)] (Int.toNat (IntKind.wrap (IntKind.u8) (Int.fdiv (Int.fdiv x_ (4294967296 : Int)) (256 : Int)))) (0 : Int))))), ()), ((), ()))) none) (brR (inR (IntKind.wrap (IntKind.u8) (Int.fdiv x_ (4294967296 : Int))) (256 : Nat)) (some (((IntKind.wrap (IntKind.i64) ((32 : Int) + (IntKind.wrap (IntKind.i64) (List.getD [(0 : Int), (1 : Int), (2 : Int), (2 : Int), (3 : Int), (3 : Int), (3 : Int), (3 : Int), (4 : Int), (4 : Int), (4 : Int), (4 : Int), (4 : Int), (4 : Int), (4 : Int), (4 : Int), (5 : Int), (5 : Int), (5 : Int), (5 : Int), (5 : Int), (5 : Int), (5 : Int), (5 : Int), (5 : Int), (5 : Int), (5 : Int), (5 : Int), (5 : Int), (5 : Int), (5 : Int), (5 : Int), (6 : Int), (6 : Int), (6 : Int), (6 : Int), (6 : Int), (6 : Int), (6 : Int), (6 : Int), (6 : Int), (6 : Int), (6 : Int), (6 : Int), (6 : Int), (6 : Int), (6 : Int), (6 : Int), (6 : Int), (6 : Int), (6 : Int), (6 : Int), (6 : Int), (6 : Int), (6 : Int), (6 : Int), (6 : Int), (6 : Int), (6 : Int), (6 : Int), (6 : Int), (6 : Int), (6 : Int), (6 : Int), (7 : Int), (7 : Int), (7 : Int), (7 : Int), (7 : Int), (7 : Int), (7 : Int), (7 : Int), (7 : Int), (7 : Int), (7 : Int), (7 : Int), (7 : Int), (7 : Int), (7 : Int), (7 : Int), (7 : Int), (7 : Int), (7 : Int), (7 : Int), (7 : Int), (7 : Int), (7 : Int), (7 : Int), (7 : Int), (7 : Int), (7 : Int), (7 : Int), (7 : Int), (7 : Int), (7 : Int), (7 : Int), (7 : Int), (7 : Int), (7 : Int), (7 : Int), (7 : Int), (7 : Int), (7 : Int), (7 : Int), (7 : Int), (7 : Int), (7 : Int), (7 : Int), (7 : Int), (7 : Int), (7 : Int), (7 : Int), (7 : Int), (7 : Int), (7 : Int), (7 : Int), (7 : Int), (7 : Int), (7 : Int), (7 : Int), (7 : Int), (7 : Int), (7 : Int), (7 : Int), (7 : Int), (7 : Int), (7 : Int), (7 : Int), (8 : Int), (8 : Int), (8 : Int), (8 : Int), (8 : Int), (8 : Int), (8 : Int), (8 : Int), (8 : Int), (8 : Int), (8 : Int), (8 : Int), (8 : Int), (8 : Int), (8 : Int), (8 : Int), (8 : Int), (8 : Int), (8 : Int), (8 : Int), (8 : Int), (8 : Int), (8 : Int), (8 : Int), (8 : Int), (8 : Int), (8 : Int), (8 : Int), (8 : Int), (8 : Int), (8 : Int), (8 : Int), (8 : Int), (8 : Int), (8 : Int), (8 : Int), (8 : Int), (8 : Int), (8 : Int), (8 : Int), (8 : Int), (8 : Int), (8 : Int), (8 : Int), (8 : Int), (8 : Int), (8 : Int), (8 : Int), (8 : Int), (8 : Int), (8 : Int), (8 : Int), (8 : Int), (8 : Int), (8 : Int), (8 : Int), (8 : Int), (8 : Int), (8 : Int), (8 : Int), (8 : Int), (8 : Int), (8 : Int), (8 : Int), (8 : Int), (8 : Int), (8 : Int), (8 : Int), (8 : Int), (8 : Int), (8 : Int), (8 : Int), (8 : Int), (8 : Int), (8 : Int), (8 : Int), (8 : Int), (8 : Int), (8 : Int), (8 : Int), (8 : Int), (8 : Int), (8 : Int), (8 : Int), (8 : Int), (8 : Int), (8 : Int), (8 : Int), (8 : Int), (8 : Int), (8 : Int), (8 : Int), (8 : Int), (8 : Int), (8 : Int), (8 : Int), (8 : Int), (8 : Int), (8 : Int), (8 : Int), (8 : Int), (8 : Int), (8 : Int), (8 : Int), (8 : Int), (8 : Int), (8 : Int), (8 : Int), (8 : Int), (8 : Int), (8 : Int), (8 : Int), (8 : Int), (8 : Int), (8 : Int), (8 : Int), (8 : Int), (8 : Int), (8 : Int), (8 : Int), (8 : Int), (8 : Int), (8 : Int), (8 : Int), (8 : Int), (8 : Int), (8 : Int), (8 : Int)] (Int.toNat (IntKind.wrap (IntKind.u8) (Int.fdiv x_ (4294967296 : Int)))) (0 : Int))))), ()), ((), ()))) none))) (brR (decide (x_ ≥ (65536 : Int))) (brR (decide ((Int.fdiv x_ (65536 : Int)) ≥ (256 : Int))) (brR (inR (IntKind.wrap (IntKind.u8) (Int.fdiv (Int.fdiv x_ (65536 : Int)) (256 : Int))) (256 : Nat)) (some (((IntKind.wrap (IntKind.i64) ((24 : Int) + (IntKind.wrap (IntKind.i64) (List.getD [(0 : Int), (1 : Int), (2 : Int), (2 : Int), (3 : Int), (3 : Int), (3 : Int), (3 : Int), (4 : Int), (4 : Int), (4 : Int), (4 : Int), (4 : Int), (4 : Int), (4 : Int), (4 : Int), (5 : Int), (5 : Int), (5 : Int), (5 : Int), (5 : Int), (5 : Int), (5 : Int), (5 : Int), (5 : Int), (5 : Int), (5 : Int), (5 : Int), (5 : Int), (5 : Int), (5 : Int), (5 : Int), (6 : Int), (6 : Int), (6 : Int), (6 : Int), (6 : Int), (6 : Int), (6 : Int), (6 : Int), (6 : Int), (6 : Int), (6 : Int), (6 : Int), (6 : Int), (6 : Int), (6 : Int), (6 : Int), (6 : Int), (6 : Int), (6 : Int), (6 : Int), (6 : Int), (6 : Int), (6 : Int), (6 : Int), (6 : Int), (6 : Int), (6 : Int), (6 : Int), (6 : Int), (6 : Int), (6 : Int), (6 : Int), (7 : Int), (7 : Int), (7 : Int), (7 : Int), (7 : Int), (7 : Int), (7 : Int), (7 : Int), (7 : Int), (7 : Int), (7 : Int), (7 : Int), (7 : Int), (7 : Int), (7 : Int), (7 : Int), (7 : Int), (7 : Int), (7 : Int), (7 : Int), (7 : Int), (7 : Int), (7 : Int), (7 : Int), (7 : Int), (7 : Int), (7 : Int), (7 : Int), (7 : Int), (7 : Int), (7 : Int), (7 : Int), (7 : Int), (7 : Int), (7 : Int), (7 : Int), (7 : Int), (7 : Int), (7 : Int), (7 : Int), (7 : Int), (7 : Int), (7 : Int), (7 : Int), (7 : Int), (7 : Int), (7 : Int), (7 : Int), (7 : Int), (7 : Int), (7 : Int), (7 : Int), (7 : Int), (7 : Int), (7 : Int), (7 : Int), (7 : Int), (7 : Int), (7 : Int), (7 : Int), (7 : Int), (7 : Int), (7 : Int), (7 : Int), (8 : Int), (8 : Int), (8 : Int), (8 : Int), (8 : Int), (8 : Int), (8 : Int), (8 : Int), (8 : Int), (8 : Int), (8 : Int), (8 : Int), (8 : Int), (8 : Int), (8 : Int), (8 : Int), (8 : Int), (8 : Int), (8 : Int), (8 : Int), (8 : Int), (8 : Int), (8 : Int), (8 : Int), (8 : Int), (8 : Int), (8 : Int), (8 : Int), (8 : Int), (8 : Int), (8 : Int), (8 : Int), (8 : Int), (8 : Int), (8 : Int), (8 : Int), (8 : Int), (8 : Int), (8 : Int), (8 : Int), (8 : Int), (8 : Int), (8 : Int), (8 : Int), (8 : Int), (8 : Int), (8 : Int), (8 : Int), (8 : Int), (8 : Int), (8 : Int), (8 : Int), (8 : Int), (8 : Int), (8 : Int), (8 : Int), (8 : Int), (8 : Int), (8 : Int), (8 : Int), (8 : Int), (8 : Int), (8 : Int), (8 : Int), (8 : Int), (8 : Int), (8 : Int), (8 : Int), (8 : Int), (8 : Int), (8 : Int), (8 : Int), (8 : Int), (8 : Int), (8 : Int), (8 : Int), (8 : Int), (8 : Int), (8 : Int), (8 : Int), (8 : Int), (8 : Int), (8 : Int), (8 : Int), (8 : Int), (8 : Int), (8 : Int), (8 : Int), (8 : Int), (8 : Int), (8 : Int), (8 : Int), (8 : Int), (8 : Int), (8 : Int), (8 : Int), (8 : Int), (8 : Int), (8 : Int), (8 : Int), (8 : Int), (8 : Int), (8 : Int), (8 : Int), (8 : Int), (8 : Int), (8 : Int), (8 : Int), (8 : Int), (8 : Int), (8 : Int), (8 : Int), (8 : Int), (8 : Int), (8 : Int), (8 : Int), (8 : Int), (8 : Int), (8 : Int), (8 : Int), (8 : Int), (8 : Int), (8 : Int), (8 : Int), (8 : Int), (8 : Int), (8 : Int), (8 : Int)] (Int.toNat (IntKind.wrap (IntKind.u8) (Int.fdiv (Int.fdiv x_ (65536 : Int)) (256 : Int)))) (0 : Int))))), ()), ((), ()))) none) (brR (inR (IntKind.wrap (IntKind.u8) (Int.fdiv x_ (65536 : Int))) (256 : Nat)) (some (((IntKind.wrap (IntKind.i64) ((16 : Int) + (IntKind.wrap (IntKind.i64) (List.getD [(0 : Int), (1 : Int), (2 : Int), (2 : Int), (3 : Int), (3 : Int), (3 : Int), (3 : Int), (4 : Int), (4 : Int), (4 : Int), (4 : Int), (4 : Int), (4 : Int), (4 : Int), (4 : Int), (5 : Int), (5 : Int), (5 : Int), (5 : Int), (5 : Int), (5 : Int), (5 : Int), (5 : Int), (5 : Int), (5 : Int), (5 : Int), (5 : Int), (5 : Int), (5 : Int), (5 : Int), (5 : Int), (6 : Int), (6 : Int), (6 : Int), (6 : Int), (6 : Int), (6 : Int), (6 : Int), (6 : Int), (6 : Int), (6 : Int), (6 : Int), (6 : Int), (6 : Int), (6 : Int), (6 : Int), (6 : Int), (6 : Int), (6 : Int), (6 : Int), (6 : Int), (6 : Int), (6 : Int), (6 : Int), (6 : Int), (6 : Int), (6 : Int), (6 : Int), (6 : Int), (6 : Int), (6 : Int), (6 : Int), (6 : Int), (7 : Int), (7 : Int), (7 : Int), (7 : Int), (7 : Int), (7 : Int), (7 : Int), (7 : Int), (7 : Int), (7 : Int), (7 : Int), (7 : Int), (7 : Int), (7 : Int), (7 : Int), (7 : Int), (7 : Int), (7 : Int), (7 : Int), (7 : Int), (7 : Int), (7 : Int), (7 : Int), (7 : Int), (7 : Int), (7 : Int), (7 : Int), (7 : Int), (7 : Int), (7 : Int), (7 : Int), (7 : Int), (7 : Int), (7 : Int), (7 : Int), (7 : Int), (7 : Int), (7 : Int), (7 : Int), (7 : Int), (7 : Int), (7 : Int), (7 : Int), (7 : Int), (7 : Int), (7 : Int), (7 : Int), (7 : Int), (7 : Int), (7 : Int), (7 : Int), (7 : Int), (7 : Int), (7 : Int), (7 : Int), (7 : Int), (7 : Int), (7 : Int), (7 : Int), (7 : Int), (7 : Int), (7 : Int), (7 : Int), (7 : Int), (8 : Int), (8 : Int), (8 : Int), (8 : Int), (8 : Int), (8 : Int), (8 : Int), (8 : Int), (8 : Int), (8 : Int), (8 : Int), (8 : Int), (8 : Int), (8 : Int), (8 : Int), (8 : Int), (8 : Int), (8 : Int), (8 : Int), (8 : Int), (8 : Int), (8 : Int), (8 : Int), (8 : Int), (8 : Int), (8 : Int), (8 : Int), (8 : Int), (8 : Int), (8 : Int), (8 : Int), (8 : Int), (8 : Int), (8 : Int), (8 : Int), (8 : Int), (8 : Int), (8 : Int), (8 : Int), (8 : Int), (8 : Int), (8 : Int), (8 : Int), (8 : Int), (8 : Int), (8 : Int), (8 : Int), (8 : Int), (8 : Int), (8 : Int), (8 : Int), (8 : Int), (8 : Int), (8 : Int), (8 : Int), (8 : Int), (8 : Int), (8 : Int), (8 : Int), (8 : Int), (8 : Int), (8 : Int), (8 : Int), (8 : Int), (8 : Int), (8 : Int), (8 : Int), (8 : Int), (8 : Int), (8 : Int), (8 : Int), (8 : Int), (8 : Int), (8 : Int), (8 : Int), (8 : Int), (8 : Int), (8 : Int), (8 : Int), (8 : Int), (8 : Int), (8 : Int), (8 : Int), (8 : Int), (8 : Int), (8 : Int), (8 : Int), (8 : Int), (8 : Int), (8 : Int), (8 : Int), (8 : Int), (8 : Int), (8 : Int), (8 : Int), (8 : Int), (8 : Int), (8 : Int), (8 : Int), (8 : Int), (8 : Int), (8 : Int), (8 : Int), (8 : Int), (8 : Int), (8 : Int), (8 : Int), (8 : Int), (8 : Int), (8 : Int), (8 : Int), (8 : Int), (8 : Int), (8 : Int), (8 : Int), (8 : Int), (8 : Int), (8 : Int), (8 : Int), (8 : Int), (8 : Int), (8 : Int), (8 : Int), (8 : Int), (8 : Int), (8 : Int), (8 : Int), (8 : Int)] (Int.toNat (IntKind.wrap (IntKind.u8) (Int.fdiv x_ (65536 : Int)))) (0 : Int))))), ()), ((), ()))) none)) (brR (decide (x_ ≥ (256 : Int))) (brR (inR (IntKind.wrap (IntKind.u8) (Int.fdiv x_ (256 : Int))) (256 : Nat)) (some (((IntKind.wrap (IntKind.i64) ((8 : Int) + (IntKind.wrap (IntKind.i64) (List.getD [(0 : Int), (1 : Int), (2 : Int), (2 : Int), (3 : Int), (3 : Int), (3 : Int), (3 : Int), (4 : Int), (4 : Int), (4 : Int), (4 : Int), (4 : Int), (4 : Int), (4 : Int), (4 : Int), (5 : Int), (5 : Int), (5 : Int), (5 : Int), (5 : Int), (5 : Int), (5 : Int), (5 : Int), (5 : Int), (5 : Int), (5 : Int), (5 : Int), (5 : Int), (5 : Int), (5 : Int), (5 : Int), (6 : Int), (6 : Int), (6 : Int), (6 : Int), (6 : Int), (6 : Int), (6 : Int), (6 : Int), (6 : Int), (6 : Int), (6 : Int), (6 : Int), (6 : Int), (6 : Int), (6 : Int), (6 : Int), (6 : Int), (6 : Int), (6 : Int), (6 : Int), (6 : Int), (6 : Int), (6 : Int), (6 : Int), (6 : Int), (6 : Int), (6 : Int), (6 : Int), (6 : Int), (6 : Int), (6 : Int), (6 : Int), (7 : Int), (7 : Int), (7 : Int), (7 : Int), (7 : Int), (7 : Int), (7 : Int), (7 : Int), (7 : Int), (7 : Int), (7 : Int), (7 : Int), (7 : Int), (7 : Int), (7 : Int), (7 : Int), (7 : Int), (7 : Int), (7 : Int), (7 : Int), (7 : Int), (7 : Int), (7 : Int), (7 : Int), (7 : Int), (7 : Int), (7 : Int), (7 : Int), (7 : Int), (7 : Int), (7 : Int), (7 : Int), (7 : Int), (7 : Int), (7 : Int), (7 : Int), (7 : Int), (7 : Int), (7 : Int), (7 : Int), (7 : Int), (7 : Int), (7 : Int), (7 : Int), (7 : Int), (7 : Int), (7 : Int), (7 : Int), (7 : Int), (7 : Int), (7 : Int), (7 : Int), (7 : Int), (7 : Int), (7 : Int), (7 : Int), (7 : Int), (7 : Int), (7 : Int), (7 : Int), (7 : Int), (7 : Int), (7 : Int), (7 : Int), (8 : Int), (8 : Int), (8 : Int), (8 : Int), (8 : Int), (8 : Int), (8 : Int), (8 : Int), (8 : Int), (8 : Int), (8 : Int), (8 : Int), (8 : Int), (8 : Int), (8 : Int), (8 : Int), (8 : Int), (8 : Int), (8 : Int), (8 : Int), (8 : Int), (8 : Int), (8 : Int), (8 : Int), (8 : Int), (8 : Int), (8 : Int), (8 : Int), (8 : Int), (8 : Int), (8 : Int), (8 : Int), (8 : Int), (8 : Int), (8 : Int), (8 : Int), (8 : Int), (8 : Int), (8 : Int), (8 : Int), (8 : Int), (8 : Int), (8 : Int), (8 : Int), (8 : Int), (8 : Int), (8 : Int), (8 : Int), (8 : Int), (8 : Int), (8 : Int), (8 : Int), (8 : Int), (8 : Int), (8 : Int), (8 : Int), (8 : Int), (8 : Int), (8 : Int), (8 : Int), (8 : Int), (8 : Int), (8 : Int), (8 : Int), (8 : Int), (8 : Int), (8 : Int), (8 : Int), (8 : Int), (8 : Int), (8 : Int), (8 : Int), (8 : Int), (8 : Int), (8 : Int), (8 : Int), (8 : Int), (8 : Int), (8 : Int), (8 : Int), (8 : Int), (8 : Int), (8 : Int), (8 : Int), (8 : Int), (8 : Int), (8 : Int), (8 : Int), (8 : Int), (8 : Int), (8 : Int), (8 : Int), (8 : Int), (8 : Int), (8 : Int), (8 : Int), (8 : Int), (8 : Int), (8 : Int), (8 : Int), (8 : Int), (8 : Int), (8 : Int), (8 : Int), (8 : Int), (8 : Int), (8 : Int), (8 : Int), (8 : Int), (8 : Int), (8 : Int), (8 : Int), (8 : Int), (8 : Int), (8 : Int), (8 : Int), (8 : Int), (8 : Int), (8 : Int), (8 : Int), (8 : Int), (8 : Int), (8 : Int), (8 : Int), (8 : Int), (8 : Int), (8 : Int), (8 : Int)] (Int.toNat (IntKind.wrap (IntKind.u8) (Int.fdiv x_ (256 : Int)))) (0 : Int))))), ()), ((), ()))) none) (brR (inR (IntKind.wrap (IntKind.u8) x_) (256 : Nat)) (some (((IntKind.wrap (IntKind.i64) ((0 : Int) + (IntKind.wrap (IntKind.i64) (List.getD [(0 : Int), (1 : Int), (2 : Int), (2 : Int), (3 : Int), (3 : Int), (3 : Int), (3 : Int), (4 : Int), (4 : Int), (4 : Int), (4 : Int), (4 : Int), (4 : Int), (4 : Int), (4 : Int), (5 : Int), (5 : Int), (5 : Int), (5 : Int), (5 : Int), (5 : Int), (5 : Int), (5 : Int), (5 : Int), (5 : Int), (5 : Int), (5 : Int), (5 : Int), (5 : Int), (5 : Int), (5 : Int), (6 : Int), (6 : Int), (6 : Int), (6 : Int), (6 : Int), (6 : Int), (6 : Int), (6 : Int), (6 : Int), (6 : Int), (6 : Int), (6 : Int), (6 : Int), (6 : Int), (6 : Int), (6 : Int), (6 : Int), (6 : Int), (6 : Int), (6 : Int), (6 : Int), (6 : Int), (6 : Int), (6 : Int), (6 : Int), (6 : Int), (6 : Int), (6 : Int), (6 : Int), (6 : Int), (6 : Int), (6 : Int), (7 : Int), (7 : Int), (7 : Int), (7 : Int), (7 : Int), (7 : Int), (7 : Int), (7 : Int), (7 : Int), (7 : Int), (7 : Int), (7 : Int), (7 : Int), (7 : Int), (7 : Int), (7 : Int), (7 : Int), (7 : Int), (7 : Int), (7 : Int), (7 : Int), (7 : Int), (7 : Int), (7 : Int), (7 : Int), (7 : Int), (7 : Int), (7 : Int), (7 : Int), (7 : Int), (7 : Int), (7 : Int), (7 : Int), (7 : Int), (7 : Int), (7 : Int), (7 : Int), (7 : Int), (7 : Int), (7 : Int), (7 : Int), (7 : Int), (7 : Int), (7 : Int), (7 : Int), (7 : Int), (7 : Int), (7 : Int), (7 : Int), (7 : Int), (7 : Int), (7 : Int), (7 : Int), (7 : Int), (7 : Int), (7 : Int), (7 : Int), (7 : Int), (7 : Int), (7 : Int), (7 : Int), (7 : Int), (7 : Int), (7 : Int), (8 : Int), (8 : Int), (8 : Int), (8 : Int), (8 : Int), (8 : Int), (8 : Int), (8 : Int), (8 : Int), (8 : Int), (8 : Int), (8 : Int), (8 : Int), (8 : Int), (8 : Int), (8 : Int), (8 : Int), (8 : Int), (8 : Int), (8 : Int), (8 : Int), (8 : Int), (8 : Int), (8 : Int), (8 : Int), (8 : Int), (8 : Int), (8 : Int), (8 : Int), (8 : Int), (8 : Int), (8 : Int), (8 : Int), (8 : Int), (8 : Int), (8 : Int), (8 : Int), (8 : Int), (8 : Int), (8 : Int), (8 : Int), (8 : Int), (8 : Int), (8 : Int), (8 : Int), (8 : Int), (8 : Int), (8 : Int), (8 : Int), (8 : Int), (8 : Int), (8 : Int), (8 : Int), (8 : Int), (8 : Int), (8 : Int), (8 : Int), (8 : Int), (8 : Int), (8 : Int), (8 : Int), (8 : Int), (8 : Int), (8 : Int), (8 : Int), (8 : Int), (8 : Int), (8 : Int), (8 : Int), (8 : Int), (8 : Int), (8 : Int), (8 : Int), (8 : Int), (8 : Int), (8 : Int), (8 : Int), (8 : Int), (8 : Int), (8 : Int), (8 : Int), (8 : Int), (8 : Int), (8 : Int), (8 : Int), (8 : Int), (8 : Int), (8 : Int), (8 : Int), (8 : Int), (8 : Int), (8 : Int), (8 : Int), (8 : Int), (8 : Int), (8 : Int), (8 : Int), (8 : Int), (8 : Int), (8 : Int), (8 : Int), (8 : Int), (8 : Int), (8 : Int), (8 : Int), (8 : Int), (8 : Int), (8 : Int), (8 : Int), (8 : Int), (8 : Int), (8 : Int), (8 : Int), (8 : Int), (8 : Int), (8 : Int), (8 : Int), (8 : Int), (8 : Int), (8 : Int), (8 : Int), (8 : Int), (8 : Int), (8 : Int), (8 : Int), (8 : Int), (8 : Int), (8 : Int)] (Int.toNat (IntKind.wrap (IntKind.u8) x_)) (0 : Int))))), ()), ((), ()))) none))))
noncomputable def sol_math_bits_Len64 : F_math_bits_Len64 := fun x => T_math_bits_Len64 bigLoop x.1
end Go.Pon
set_option autoImplicit false
set_option linter.unusedVariables false
set_option maxRecDepth 100000
namespace Go.Pon
open Go
abbrev s_uint256_FromUint64 : Sig := ⟨[(.ro true (.int .u64))], [(.ro true (.arr 4 (.int .u64)))]⟩
abbrev F_uint256_FromUint64 := (Int × Unit) → Option (((List Int) × Unit) × (Unit × Unit))
noncomputable def T_uint256_FromUint64 (L : LoopD) (n_ : Int) : Option (((List Int) × Unit) × (Unit × Unit)) := (some (([n_, (0 : Int), (0 : Int), (0 : Int)], ()), ((), ())))
noncomputable def sol_uint256_FromUint64 : F_uint256_FromUint64 := fun x => T_uint256_FromUint64 bigLoop x.1
abbrev s_uint256_BitLen : Sig := ⟨[(.ro true (.arr 4 (.int .u64)))], [(.ro true (.int .i64))]⟩
abbrev F_uint256_BitLen := ((List Int) × Unit) → Option ((Int × Unit) × (Unit × Unit))
noncomputable def T_uint256_BitLen_loop0 (c_math_bits_Len64 : F_math_bits_Len64) (again_0 : ((List Int) × (Int × Unit)) → Option ((Int × Unit) × (Unit × Unit))) (a_1 : (List Int)) (i_2 : Int) : Option ((Int × Unit) × (Unit × Unit)) := (brR (decide (i_2 ≥ (0 : Int))) (brR (inR i_2 (4 : Nat)) (brR (!(decide ((List.getD a_1 (Int.toNat i_2) (0 : Int)) = (0 : Int)))) (brR (inR i_2 (4 : Nat)) (Option.bind (c_math_bits_Len64 ((List.getD a_1 (Int.toNat i_2) (0 : Int)), ())) (fun (y_3 : ((Int × Unit) × (Unit × Unit))) => (some (((IntKind.wrap (IntKind.i64) ((IntKind.wrap (IntKind.i64) ((64 : Int) * i_2)) + y_3.1.1)), ()), ((), ()))))) none) (again_0 (a_1, ((IntKind.wrap (IntKind.i64) (i_2 - (1 : Int))), ())))) none) (some (((0 : Int), ()), ((), ()))))
noncomputable def T_uint256_BitLen (L : LoopD) (c_math_bits_Len64 : F_math_bits_Len64) (a_ : (List Int)) : Option ((Int × Unit) × (Unit × Unit)) := (L _ _ (fun again x => T_uint256_BitLen_loop0 c_math_bits_Len64 again x.1 x.2.1) (a_, ((3 : Int), ())))
noncomputable def sol_uint256_BitLen : F_uint256_BitLen := fun x => T_uint256_BitLen bigLoop sol_math_bits_Len64 x.1
end Go.Pon
set_option autoImplicit false
set_option linter.unusedVariables false
set_option maxRecDepth 100000
namespace Go.Pon
open Go
abbrev s_wire_encode : Sig := ⟨[(.ro true (.arr 4 (.int .u64)))], [(.own true (.int .u8))]⟩
abbrev F_wire_encode := ((List Int) × Unit) → Option (((List Int) × Unit) × (Unit × Unit))
noncomputable def T_wire_encode_loop0 (again_2 : ((List Int) × ((List Int) × (Int × Unit))) → Option (((List Int) × Unit) × (Unit × Unit))) (n_3 : (List Int)) (out_4 : (List Int)) (i_5 : Int) : Option (((List Int) × Unit) × (Unit × Unit)) := (letR (IntKind.wrap (IntKind.i64) ((8 : Int) * (Int.tmod i_5 (8 : Int)))) fun (v_6 : Int) => (brR (decide (i_5 ≥ (0 : Int))) (brR (inR (IntKind.wrap (IntKind.i64) (Int.tdiv i_5 (8 : Int))) (4 : Nat)) (brR (decide ((0 : Int) ≤ v_6)) (brR (roomy ((List.length out_4) + (1 : Nat)) (Ty.int IntKind.u8)) (again_2 (n_3, ((List.append out_4 [(IntKind.wrap (IntKind.u8) (Int.fdiv (List.getD n_3 (Int.toNat (IntKind.wrap (IntKind.i64) (Int.tdiv i_5 (8 : Int)))) (0 : Int)) ((2 : Int) ^ (min (Int.toNat v_6) (64 : Nat)))))]), ((IntKind.wrap (IntKind.i64) (i_5 - (1 : Int))), ())))) none) none) none) (some ((out_4, ()), ((), ())))))
noncomputable def T_wire_encode (L : LoopD) (c_uint256_BitLen : F_uint256_BitLen) (n_ : (List Int)) : Option (((List Int) × Unit) × (Unit × Unit)) := (Option.bind (c_uint256_BitLen (n_, ())) (fun (y_0 : ((Int × Unit) × (Unit × Unit))) => (letR (IntKind.wrap (IntKind.i64) (Int.tdiv (IntKind.wrap (IntKind.i64) (y_0.1.1 + (7 : Int))) (8 : Int))) fun (v_1 : Int) => (L _ _ (fun again x => T_wire_encode_loop0 again x.1 x.2.1 x.2.2.1) (n_, ([(IntKind.wrap (IntKind.u8) v_1)], ((IntKind.wrap (IntKind.i64) (v_1 - (1 : Int))), ())))))))
noncomputable def sol_wire_encode : F_wire_encode := fun x => T_wire_encode bigLoop sol_uint256_BitLen x.1
abbrev s_wire_AppendUint256 : Sig := ⟨[(.ro false (.slice (.int .u8))), (.ro true (.arr 4 (.int .u64)))], [(.own true (.int .u8))]⟩
abbrev F_wire_AppendUint256 := ((List Int) × ((List Int) × Unit)) → Option (((List Int) × Unit) × (Unit × (Unit × Unit)))
noncomputable def T_wire_AppendUint256 (L : LoopD) (c_wire_encode : F_wire_encode) (c_slices_Concat_byte_byte : F_slices_Concat_byte_byte) (b_ : (List Int)) (n_ : (List Int)) : Option (((List Int) × Unit) × (Unit × (Unit × Unit))) := (Option.bind (c_wire_encode (n_, ())) (fun (y_0 : (((List Int) × Unit) × (Unit × Unit))) => (Option.bind (c_slices_Concat_byte_byte ([b_, y_0.1.1], ())) (fun (y_1 : (((List Int) × Unit) × (Unit × Unit))) => (some ((y_1.1.1, ()), ((), ((), ()))))))))
noncomputable def sol_wire_AppendUint256 : F_wire_AppendUint256 := fun x => T_wire_AppendUint256 bigLoop sol_wire_encode sol_slices_Concat_byte_byte x.1 x.2.1
abbrev s_wire_AppendUint64 : Sig := ⟨[(.ro false (.slice (.int .u8))), (.ro true (.int .u64))], [(.own true (.int .u8))]⟩
abbrev F_wire_AppendUint64 := ((List Int) × (Int × Unit)) → Option (((List Int) × Unit) × (Unit × (Unit × Unit)))
noncomputable def T_wire_AppendUint64 (L : LoopD) (c_uint256_FromUint64 : F_uint256_FromUint64) (c_wire_AppendUint256 : F_wire_AppendUint256) (b_ : (List Int)) (n_ : Int) : Option (((List Int) × Unit) × (Unit × (Unit × Unit))) := (Option.bind (c_uint256_FromUint64 (n_, ())) (fun (y_0 : (((List Int) × Unit) × (Unit × Unit))) => (Option.bind (c_wire_AppendUint256 (b_, (y_0.1.1, ()))) (fun (y_1 : (((List Int) × Unit) × (Unit × (Unit × Unit)))) => (some ((y_1.1.1, ()), ((), ((), ()))))))))
noncomputable def sol_wire_AppendUint64 : F_wire_AppendUint64 := fun x => T_wire_AppendUint64 bigLoop sol_uint256_FromUint64 sol_wire_AppendUint256 x.1 x.2.1
abbrev s_wire_AppendBytes : Sig := ⟨[(.ro false (.slice (.int .u8))), (.ro false (.slice (.int .u8)))], [(.own true (.int .u8))]⟩
abbrev F_wire_AppendBytes := ((List Int) × ((List Int) × Unit)) → Option (((List Int) × Unit) × (Unit × (Unit × Unit)))
noncomputable def T_wire_AppendBytes (L : LoopD) (c_uint256_FromUint64 : F_uint256_FromUint64) (c_wire_encode : F_wire_encode) (c_slices_Concat_byte_byte : F_slices_Concat_byte_byte) (b_ : (List Int)) (x_ : (List Int)) : Option (((List Int) × Unit) × (Unit × (Unit × Unit))) := (Option.bind (c_uint256_FromUint64 ((IntKind.wrap (IntKind.u64) (((List.length x_) : Nat) : Int)), ())) (fun (y_0 : (((List Int) × Unit) × (Unit × Unit))) => (Option.bind (c_wire_encode (y_0.1.1, ())) (fun (y_1 : (((List Int) × Unit) × (Unit × Unit))) => (Option.bind (c_slices_Concat_byte_byte ([b_, y_1.1.1, x_], ())) (fun (y_2 : (((List Int) × Unit) × (Unit × Unit))) => (some ((y_2.1.1, ()), ((), ((), ()))))))))))
noncomputable def sol_wire_AppendBytes : F_wire_AppendBytes := fun x => T_wire_AppendBytes bigLoop sol_uint256_FromUint64 sol_wire_encode sol_slices_Concat_byte_byte x.1 x.2.1
abbrev s_wire_readUint : Sig := ⟨[(.ro false (.slice (.int .u8))), (.ro true (.int .i64)), (.ro true (.int .i64))], [(.ro true (.arr 4 (.int .u64))), (.ro true (.int .i64)), (.ro true (.int .i64))]⟩
abbrev F_wire_readUint := ((List Int) × (Int × (Int × Unit))) → Option (((List Int) × (Int × (Int × Unit))) × (Unit × (Unit × (Unit × Unit))))
noncomputable def T_wire_readUint_loop0 (again_6 : (Int × ((List Int) × ((List Int) × (Int × ((List Int) × (Int × (Int × Unit))))))) → Option (((List Int) × (Int × (Int × Unit))) × (Unit × (Unit × (Unit × Unit))))) (at_7 : Int) (t6_8 : (List Int)) (rest_9 : (List Int)) (k_10 : Int) (n_11 : (List Int)) (t56_12 : Int) (t57_13 : Int) : Option (((List Int) × (Int × (Int × Unit))) × (Unit × (Unit × (Unit × Unit)))) := (letR (IntKind.wrap (IntKind.i64) ((IntKind.wrap (IntKind.i64) (k_10 - (1 : Int))) - t57_13)) fun (v_14 : Int) => (letR (IntKind.wrap (IntKind.i64) (Int.tdiv v_14 (8 : Int))) fun (v_15 : Int) => (letR (IntKind.wrap (IntKind.i64) ((8 : Int) * (Int.tmod v_14 (8 : Int)))) fun (v_16 : Int) => (brR (decide (t57_13 < t56_12)) (brR (inR v_15 (4 : Nat)) (brR (inR t57_13 (List.length rest_9)) (brR (decide ((0 : Int) ≤ v_16)) (brR (inR v_15 (4 : Nat)) (again_6 (at_7, (t6_8, (rest_9, (k_10, ((List.set n_11 (Int.toNat v_15) (IntKind.wrap (IntKind.u64) (((BitVec.toNat ((BitVec.ofInt (64 : Nat) (List.getD n_11 (Int.toNat v_15) (0 : Int))) ||| (BitVec.ofInt (64 : Nat) (IntKind.wrap (IntKind.u64) ((IntKind.wrap (IntKind.u64) (List.getD rest_9 (Int.toNat t57_13) (0 : Int))) * ((2 : Int) ^ (min (Int.toNat v_16) (64 : Nat)))))))) : Nat) : Int))), (t56_12, ((IntKind.wrap (IntKind.i64) (t57_13 + (1 : Int))), ())))))))) none) none) none) none) (some ((n_11, ((IntKind.wrap (IntKind.i64) ((IntKind.wrap (IntKind.i64) (at_7 + (1 : Int))) + k_10)), ((0 : Int), ()))), ((), ((), ((), ())))))))))
noncomputable def T_wire_readUint (L : LoopD) (b_ : (List Int)) (at_ : Int) (most_ : Int) : Option (((List Int) × (Int × (Int × Unit))) × (Unit × (Unit × (Unit × Unit)))) := (letR (List.take ((List.length b_) - (Int.toNat at_)) (List.drop (Int.toNat at_) b_)) fun (v_0 : (List Int)) => (letR (List.length v_0) fun (v_1 : Nat) => (letR ((v_1 : Nat) : Int) fun (v_2 : Int) => (letR (IntKind.wrap (IntKind.i64) (List.getD v_0 (0 : Nat) (0 : Int))) fun (v_3 : Int) => (letR (List.take (v_1 - (1 : Nat)) (List.drop (1 : Nat) v_0)) fun (v_4 : (List Int)) => (letR (List.length v_4) fun (v_5 : Nat) => (brR (decide (at_ < (0 : Int))) (some (([(0 : Int), (0 : Int), (0 : Int), (0 : Int)], ((0 : Int), ((2 : Int), ()))), ((), ((), ((), ()))))) (brR (decide (at_ > (((List.length b_) : Nat) : Int))) (some (([(0 : Int), (0 : Int), (0 : Int), (0 : Int)], ((0 : Int), ((2 : Int), ()))), ((), ((), ((), ()))))) (brR ((decide ((0 : Int) ≤ at_)) && (decide (at_ ≤ (((List.length b_) : Nat) : Int)))) (brR (decide (v_2 = (0 : Int))) (some (([(0 : Int), (0 : Int), (0 : Int), (0 : Int)], ((0 : Int), ((3 : Int), ()))), ((), ((), ((), ()))))) (brR (inR (0 : Int) v_1) (brR (decide ((1 : Int) ≤ v_2)) (brR (decide (v_3 > most_)) (some (([(0 : Int), (0 : Int), (0 : Int), (0 : Int)], ((0 : Int), ((3 : Int), ()))), ((), ((), ((), ()))))) (brR (decide (v_3 > ((v_5 : Nat) : Int))) (some (([(0 : Int), (0 : Int), (0 : Int), (0 : Int)], ((0 : Int), ((3 : Int), ()))), ((), ((), ((), ()))))) (brR (decide (v_3 > (0 : Int))) (brR (inR (0 : Int) v_5) (brR (decide ((List.getD v_4 (0 : Nat) (0 : Int)) = (0 : Int))) (some (([(0 : Int), (0 : Int), (0 : Int), (0 : Int)], ((0 : Int), ((3 : Int), ()))), ((), ((), ((), ()))))) (L _ _ (fun again x => T_wire_readUint_loop0 again x.1 x.2.1 x.2.2.1 x.2.2.2.1 x.2.2.2.2.1 x.2.2.2.2.2.1 x.2.2.2.2.2.2.1) (at_, ([(0 : Int), (0 : Int), (0 : Int), (0 : Int)], (v_4, (v_3, ([(0 : Int), (0 : Int), (0 : Int), (0 : Int)], (v_3, ((0 : Int), ()))))))))) none) (L _ _ (fun again x => T_wire_readUint_loop0 again x.1 x.2.1 x.2.2.1 x.2.2.2.1 x.2.2.2.2.1 x.2.2.2.2.2.1 x.2.2.2.2.2.2.1) (at_, ([(0 : Int), (0 : Int), (0 : Int), (0 : Int)], (v_4, (v_3, ([(0 : Int), (0 : Int), (0 : Int), (0 : Int)], (v_3, ((0 : Int), ()))))))))))) none) none)) none)))))))))
noncomputable def sol_wire_readUint : F_wire_readUint := fun x => T_wire_readUint bigLoop x.1 x.2.1 x.2.2.1
abbrev s_wire_ReadUint64 : Sig := ⟨[(.ro false (.slice (.int .u8))), (.ro true (.int .i64))], [(.ro true (.int .u64)), (.ro true (.int .i64)), (.ro true (.int .i64))]⟩
abbrev F_wire_ReadUint64 := ((List Int) × (Int × Unit)) → Option ((Int × (Int × (Int × Unit))) × (Unit × (Unit × Unit)))
noncomputable def T_wire_ReadUint64 (L : LoopD) (c_wire_readUint : F_wire_readUint) (b_ : (List Int)) (at_ : Int) : Option ((Int × (Int × (Int × Unit))) × (Unit × (Unit × Unit))) := (Option.bind (c_wire_readUint (b_, (at_, ((8 : Int), ())))) (fun (y_0 : (((List Int) × (Int × (Int × Unit))) × (Unit × (Unit × (Unit × Unit))))) => (some (((List.getD y_0.1.1 (0 : Nat) (0 : Int)), (y_0.1.2.1, (y_0.1.2.2.1, ()))), ((), ((), ()))))))
noncomputable def sol_wire_ReadUint64 : F_wire_ReadUint64 := fun x => T_wire_ReadUint64 bigLoop sol_wire_readUint x.1 x.2.1
abbrev s_wire_ReadUint256 : Sig := ⟨[(.ro false (.slice (.int .u8))), (.ro true (.int .i64))], [(.ro true (.arr 4 (.int .u64))), (.ro true (.int .i64)), (.ro true (.int .i64))]⟩
abbrev F_wire_ReadUint256 := ((List Int) × (Int × Unit)) → Option (((List Int) × (Int × (Int × Unit))) × (Unit × (Unit × Unit)))
noncomputable def T_wire_ReadUint256 (L : LoopD) (c_wire_readUint : F_wire_readUint) (b_ : (List Int)) (at_ : Int) : Option (((List Int) × (Int × (Int × Unit))) × (Unit × (Unit × Unit))) := (Option.bind (c_wire_readUint (b_, (at_, ((32 : Int), ())))) (fun (y_0 : (((List Int) × (Int × (Int × Unit))) × (Unit × (Unit × (Unit × Unit))))) => (some ((y_0.1.1, (y_0.1.2.1, (y_0.1.2.2.1, ()))), ((), ((), ()))))))
noncomputable def sol_wire_ReadUint256 : F_wire_ReadUint256 := fun x => T_wire_ReadUint256 bigLoop sol_wire_readUint x.1 x.2.1
abbrev s_wire_ReadBytes : Sig := ⟨[(.ro false (.slice (.int .u8))), (.ro true (.int .i64))], [(.own true (.int .u8)), (.ro true (.int .i64)), (.ro true (.int .i64))]⟩
abbrev F_wire_ReadBytes := ((List Int) × (Int × Unit)) → Option (((List Int) × (Int × (Int × Unit))) × (Unit × (Unit × Unit)))
noncomputable def T_wire_ReadBytes (L : LoopD) (c_wire_ReadUint64 : F_wire_ReadUint64) (c_slices_Clone_byte_byte : F_slices_Clone_byte_byte) (b_ : (List Int)) (at_ : Int) : Option (((List Int) × (Int × (Int × Unit))) × (Unit × (Unit × Unit))) := (Option.bind (c_wire_ReadUint64 (b_, (at_, ()))) (fun (y_0 : ((Int × (Int × (Int × Unit))) × (Unit × (Unit × Unit)))) => (letR (IntKind.wrap (IntKind.i64) (y_0.1.2.1 + (IntKind.wrap (IntKind.i64) y_0.1.1))) fun (v_1 : Int) => (brR (!(decide (y_0.1.2.2.1 = (0 : Int)))) (some ((([] : List Int), ((0 : Int), (y_0.1.2.2.1, ()))), ((), ((), ())))) (brR (decide (y_0.1.1 > (IntKind.wrap (IntKind.u64) (IntKind.wrap (IntKind.i64) ((((List.length b_) : Nat) : Int) - y_0.1.2.1))))) (some ((([] : List Int), ((0 : Int), ((3 : Int), ()))), ((), ((), ())))) (brR (((decide ((0 : Int) ≤ y_0.1.2.1)) && (decide (y_0.1.2.1 ≤ v_1))) && (decide (v_1 ≤ (((List.length b_) : Nat) : Int)))) (Option.bind (c_slices_Clone_byte_byte ((List.take ((Int.toNat v_1) - (Int.toNat y_0.1.2.1)) (List.drop (Int.toNat y_0.1.2.1) b_)), ())) (fun (y_2 : (((List Int) × Unit) × (Unit × Unit))) => (some ((y_2.1.1, (v_1, ((0 : Int), ()))), ((), ((), ())))))) none))))))
noncomputable def sol_wire_ReadBytes : F_wire_ReadBytes := fun x => T_wire_ReadBytes bigLoop sol_wire_ReadUint64 sol_slices_Clone_byte_byte x.1 x.2.1
end Go.Pon
set_option autoImplicit false
set_option linter.unusedVariables false
set_option maxRecDepth 100000
namespace Go.Pon
open Go
abbrev s_wirereader_New : Sig := ⟨[(.ro false (.slice (.int .u8)))], [(.ptr (.pair (.ro false (.slice (.int .u8))) (.pair (.ro true (.int .i64)) (.pair (.ro true .bool) (.ro true .unit)))))]⟩
abbrev F_wirereader_New := ((List Int) × Unit) → Option ((((List Int) × (Int × (Bool × Unit))) × Unit) × (Unit × Unit))
noncomputable def T_wirereader_New (L : LoopD) (b_ : (List Int)) : Option ((((List Int) × (Int × (Bool × Unit))) × Unit) × (Unit × Unit)) := (some (((b_, ((0 : Int), (false, ()))), ()), ((), ())))
noncomputable def sol_wirereader_New : F_wirereader_New := fun x => T_wirereader_New bigLoop x.1
abbrev s_wirereader_Reader_advance : Sig := ⟨[(.ptr (.pair (.ro false (.slice (.int .u8))) (.pair (.ro true (.int .i64)) (.pair (.ro true .bool) (.ro true .unit))))), (.ro true (.int .i64)), (.ro true (.int .i64))], [(.ro true .bool)]⟩
abbrev F_wirereader_Reader_advance := (((List Int) × (Int × (Bool × Unit))) × (Int × (Int × Unit))) → Option ((Bool × Unit) × (((List Int) × (Int × (Bool × Unit))) × (Unit × (Unit × Unit))))
noncomputable def T_wirereader_Reader_advance (L : LoopD) (s_ : ((List Int) × (Int × (Bool × Unit)))) (to_ : Int) (e_ : Int) : Option ((Bool × Unit) × (((List Int) × (Int × (Bool × Unit))) × (Unit × (Unit × Unit)))) := (brR s_.2.2.1 (some ((false, ()), ((s_.1, (s_.2.1, (true, s_.2.2.2))), ((), ((), ()))))) (brR (!(decide (e_ = (0 : Int)))) (some ((false, ()), ((s_.1, (s_.2.1, (true, s_.2.2.2))), ((), ((), ()))))) (some ((true, ()), ((s_.1, (to_, (s_.2.2.1, s_.2.2.2))), ((), ((), ())))))))
noncomputable def sol_wirereader_Reader_advance : F_wirereader_Reader_advance := fun x => T_wirereader_Reader_advance bigLoop x.1 x.2.1 x.2.2.1
abbrev s_wirereader_Reader_Uint64 : Sig := ⟨[(.ptr (.pair (.ro false (.slice (.int .u8))) (.pair (.ro true (.int .i64)) (.pair (.ro true .bool) (.ro true .unit)))))], [(.ro true (.int .u64))]⟩
abbrev F_wirereader_Reader_Uint64 := (((List Int) × (Int × (Bool × Unit))) × Unit) → Option ((Int × Unit) × (((List Int) × (Int × (Bool × Unit))) × Unit))
noncomputable def T_wirereader_Reader_Uint64 (L : LoopD) (c_wire_ReadUint64 : F_wire_ReadUint64) (c_wirereader_Reader_advance : F_wirereader_Reader_advance) (s_ : ((List Int) × (Int × (Bool × Unit)))) : Option ((Int × Unit) × (((List Int) × (Int × (Bool × Unit))) × Unit)) := (Option.bind (c_wire_ReadUint64 (s_.1, (s_.2.1, ()))) (fun (y_0 : ((Int × (Int × (Int × Unit))) × (Unit × (Unit × Unit)))) => (Option.bind (c_wirereader_Reader_advance ((s_.1, (s_.2.1, (s_.2.2.1, s_.2.2.2))), (y_0.1.2.1, (y_0.1.2.2.1, ())))) (fun (y_1 : ((Bool × Unit) × (((List Int) × (Int × (Bool × Unit))) × (Unit × (Unit × Unit))))) => (brR (!y_1.1.1) (some (((0 : Int), ()), ((y_1.2.1.1, (y_1.2.1.2.1, (y_1.2.1.2.2.1, y_1.2.1.2.2.2))), ()))) (some ((y_0.1.1, ()), ((y_1.2.1.1, (y_1.2.1.2.1, (y_1.2.1.2.2.1, y_1.2.1.2.2.2))), ()))))))))
noncomputable def sol_wirereader_Reader_Uint64 : F_wirereader_Reader_Uint64 := fun x => T_wirereader_Reader_Uint64 bigLoop sol_wire_ReadUint64 sol_wirereader_Reader_advance x.1
abbrev s_wirereader_Reader_Uint256 : Sig := ⟨[(.ptr (.pair (.ro false (.slice (.int .u8))) (.pair (.ro true (.int .i64)) (.pair (.ro true .bool) (.ro true .unit)))))], [(.ro true (.arr 4 (.int .u64)))]⟩
abbrev F_wirereader_Reader_Uint256 := (((List Int) × (Int × (Bool × Unit))) × Unit) → Option (((List Int) × Unit) × (((List Int) × (Int × (Bool × Unit))) × Unit))
noncomputable def T_wirereader_Reader_Uint256 (L : LoopD) (c_wire_ReadUint256 : F_wire_ReadUint256) (c_wirereader_Reader_advance : F_wirereader_Reader_advance) (s_ : ((List Int) × (Int × (Bool × Unit)))) : Option (((List Int) × Unit) × (((List Int) × (Int × (Bool × Unit))) × Unit)) := (Option.bind (c_wire_ReadUint256 (s_.1, (s_.2.1, ()))) (fun (y_0 : (((List Int) × (Int × (Int × Unit))) × (Unit × (Unit × Unit)))) => (Option.bind (c_wirereader_Reader_advance ((s_.1, (s_.2.1, (s_.2.2.1, s_.2.2.2))), (y_0.1.2.1, (y_0.1.2.2.1, ())))) (fun (y_1 : ((Bool × Unit) × (((List Int) × (Int × (Bool × Unit))) × (Unit × (Unit × Unit))))) => (brR (!y_1.1.1) (some (([(0 : Int), (0 : Int), (0 : Int), (0 : Int)], ()), ((y_1.2.1.1, (y_1.2.1.2.1, (y_1.2.1.2.2.1, y_1.2.1.2.2.2))), ()))) (some ((y_0.1.1, ()), ((y_1.2.1.1, (y_1.2.1.2.1, (y_1.2.1.2.2.1, y_1.2.1.2.2.2))), ()))))))))
noncomputable def sol_wirereader_Reader_Uint256 : F_wirereader_Reader_Uint256 := fun x => T_wirereader_Reader_Uint256 bigLoop sol_wire_ReadUint256 sol_wirereader_Reader_advance x.1
abbrev s_wirereader_Reader_Bytes : Sig := ⟨[(.ptr (.pair (.ro false (.slice (.int .u8))) (.pair (.ro true (.int .i64)) (.pair (.ro true .bool) (.ro true .unit)))))], [(.own true (.int .u8))]⟩
abbrev F_wirereader_Reader_Bytes := (((List Int) × (Int × (Bool × Unit))) × Unit) → Option (((List Int) × Unit) × (((List Int) × (Int × (Bool × Unit))) × Unit))
noncomputable def T_wirereader_Reader_Bytes (L : LoopD) (c_wire_ReadBytes : F_wire_ReadBytes) (c_wirereader_Reader_advance : F_wirereader_Reader_advance) (s_ : ((List Int) × (Int × (Bool × Unit)))) : Option (((List Int) × Unit) × (((List Int) × (Int × (Bool × Unit))) × Unit)) := (Option.bind (c_wire_ReadBytes (s_.1, (s_.2.1, ()))) (fun (y_0 : (((List Int) × (Int × (Int × Unit))) × (Unit × (Unit × Unit)))) => (Option.bind (c_wirereader_Reader_advance ((s_.1, (s_.2.1, (s_.2.2.1, s_.2.2.2))), (y_0.1.2.1, (y_0.1.2.2.1, ())))) (fun (y_1 : ((Bool × Unit) × (((List Int) × (Int × (Bool × Unit))) × (Unit × (Unit × Unit))))) => (brR (!y_1.1.1) (some ((([] : List Int), ()), ((y_1.2.1.1, (y_1.2.1.2.1, (y_1.2.1.2.2.1, y_1.2.1.2.2.2))), ()))) (some ((y_0.1.1, ()), ((y_1.2.1.1, (y_1.2.1.2.1, (y_1.2.1.2.2.1, y_1.2.1.2.2.2))), ()))))))))
noncomputable def sol_wirereader_Reader_Bytes : F_wirereader_Reader_Bytes := fun x => T_wirereader_Reader_Bytes bigLoop sol_wire_ReadBytes sol_wirereader_Reader_advance x.1
abbrev s_wirereader_Reader_Done : Sig := ⟨[(.ptr (.pair (.ro false (.slice (.int .u8))) (.pair (.ro true (.int .i64)) (.pair (.ro true .bool) (.ro true .unit)))))], [(.ro true .bool)]⟩
abbrev F_wirereader_Reader_Done := (((List Int) × (Int × (Bool × Unit))) × Unit) → Option ((Bool × Unit) × (((List Int) × (Int × (Bool × Unit))) × Unit))
noncomputable def T_wirereader_Reader_Done (L : LoopD) (s_ : ((List Int) × (Int × (Bool × Unit)))) : Option ((Bool × Unit) × (((List Int) × (Int × (Bool × Unit))) × Unit)) := (brR (!s_.2.2.1) (some (((decide (s_.2.1 = (((List.length s_.1) : Nat) : Int))), ()), ((s_.1, (s_.2.1, (s_.2.2.1, s_.2.2.2))), ()))) (some ((false, ()), ((s_.1, (s_.2.1, (s_.2.2.1, s_.2.2.2))), ()))))
noncomputable def sol_wirereader_Reader_Done : F_wirereader_Reader_Done := fun x => T_wirereader_Reader_Done bigLoop x.1
end Go.Pon
set_option autoImplicit false
set_option linter.unusedVariables false
set_option maxRecDepth 100000
namespace Go.Pon
open Go
abbrev s_tx_Encode : Sig := ⟨[(.ro false (.pair (.int .u64) (.pair (.int .u64) (.pair (.int .u64) (.pair (.arr 4 (.int .u64)) (.pair (.int .u64) (.pair (.arr 4 (.int .u64)) (.pair (.arr 4 (.int .u64)) (.pair (.int .u64) (.pair (.slice (.int .u8)) .unit))))))))))], [(.own true (.int .u8)), (.ro true (.int .i64))]⟩
abbrev F_tx_Encode := ((Int × (Int × (Int × ((List Int) × (Int × ((List Int) × ((List Int) × (Int × ((List Int) × Unit))))))))) × Unit) → Option (((List Int) × (Int × Unit)) × (Unit × Unit))
noncomputable def T_tx_Encode (L : LoopD) (c_wire_AppendUint64 : F_wire_AppendUint64) (c_wire_AppendUint256 : F_wire_AppendUint256) (c_wire_AppendBytes : F_wire_AppendBytes) (t_ : (Int × (Int × (Int × ((List Int) × (Int × ((List Int) × ((List Int) × (Int × ((List Int) × Unit)))))))))) : Option (((List Int) × (Int × Unit)) × (Unit × Unit)) := (brR (decide ((((List.length t_.2.2.2.2.2.2.2.2.1) : Nat) : Int) > (4096 : Int))) (some ((([] : List Int), ((6 : Int), ())), ((), ()))) (Option.bind (c_wire_AppendUint64 (([] : List Int), (t_.1, ()))) (fun (y_0 : (((List Int) × Unit) × (Unit × (Unit × Unit)))) => (Option.bind (c_wire_AppendUint64 (y_0.1.1, (t_.2.1, ()))) (fun (y_1 : (((List Int) × Unit) × (Unit × (Unit × Unit)))) => (Option.bind (c_wire_AppendUint64 (y_1.1.1, (t_.2.2.1, ()))) (fun (y_2 : (((List Int) × Unit) × (Unit × (Unit × Unit)))) => (Option.bind (c_wire_AppendUint256 (y_2.1.1, (t_.2.2.2.1, ()))) (fun (y_3 : (((List Int) × Unit) × (Unit × (Unit × Unit)))) => (Option.bind (c_wire_AppendUint64 (y_3.1.1, (t_.2.2.2.2.1, ()))) (fun (y_4 : (((List Int) × Unit) × (Unit × (Unit × Unit)))) => (Option.bind (c_wire_AppendUint256 (y_4.1.1, (t_.2.2.2.2.2.1, ()))) (fun (y_5 : (((List Int) × Unit) × (Unit × (Unit × Unit)))) => (Option.bind (c_wire_AppendUint256 (y_5.1.1, (t_.2.2.2.2.2.2.1, ()))) (fun (y_6 : (((List Int) × Unit) × (Unit × (Unit × Unit)))) => (Option.bind (c_wire_AppendUint64 (y_6.1.1, (t_.2.2.2.2.2.2.2.1, ()))) (fun (y_7 : (((List Int) × Unit) × (Unit × (Unit × Unit)))) => (Option.bind (c_wire_AppendBytes (y_7.1.1, (t_.2.2.2.2.2.2.2.2.1, ()))) (fun (y_8 : (((List Int) × Unit) × (Unit × (Unit × Unit)))) => (some ((y_8.1.1, ((0 : Int), ())), ((), ()))))))))))))))))))))))
noncomputable def sol_tx_Encode : F_tx_Encode := fun x => T_tx_Encode bigLoop sol_wire_AppendUint64 sol_wire_AppendUint256 sol_wire_AppendBytes x.1
abbrev s_tx_Decode : Sig := ⟨[(.ro false (.slice (.int .u8)))], [(.ro true (.pair (.int .u64) (.pair (.int .u64) (.pair (.int .u64) (.pair (.arr 4 (.int .u64)) (.pair (.int .u64) (.pair (.arr 4 (.int .u64)) (.pair (.arr 4 (.int .u64)) (.pair (.int .u64) (.pair (.slice (.int .u8)) .unit)))))))))), (.ro true (.int .i64))]⟩
abbrev F_tx_Decode := ((List Int) × Unit) → Option (((Int × (Int × (Int × ((List Int) × (Int × ((List Int) × ((List Int) × (Int × ((List Int) × Unit))))))))) × (Int × Unit)) × (Unit × Unit))
noncomputable def T_tx_Decode (L : LoopD) (c_wirereader_New : F_wirereader_New) (c_wirereader_Reader_Uint64 : F_wirereader_Reader_Uint64) (c_wirereader_Reader_Uint256 : F_wirereader_Reader_Uint256) (c_wirereader_Reader_Bytes : F_wirereader_Reader_Bytes) (c_wirereader_Reader_Done : F_wirereader_Reader_Done) (b_ : (List Int)) : Option (((Int × (Int × (Int × ((List Int) × (Int × ((List Int) × ((List Int) × (Int × ((List Int) × Unit))))))))) × (Int × Unit)) × (Unit × Unit)) := (Option.bind (c_wirereader_New (b_, ())) (fun (y_0 : ((((List Int) × (Int × (Bool × Unit))) × Unit) × (Unit × Unit))) => (Option.bind (c_wirereader_Reader_Uint64 ((y_0.1.1.1, (y_0.1.1.2.1, (y_0.1.1.2.2.1, y_0.1.1.2.2.2))), ())) (fun (y_1 : ((Int × Unit) × (((List Int) × (Int × (Bool × Unit))) × Unit))) => (Option.bind (c_wirereader_Reader_Uint64 ((y_1.2.1.1, (y_1.2.1.2.1, (y_1.2.1.2.2.1, y_1.2.1.2.2.2))), ())) (fun (y_2 : ((Int × Unit) × (((List Int) × (Int × (Bool × Unit))) × Unit))) => (Option.bind (c_wirereader_Reader_Uint64 ((y_2.2.1.1, (y_2.2.1.2.1, (y_2.2.1.2.2.1, y_2.2.1.2.2.2))), ())) (fun (y_3 : ((Int × Unit) × (((List Int) × (Int × (Bool × Unit))) × Unit))) => (Option.bind (c_wirereader_Reader_Uint256 ((y_3.2.1.1, (y_3.2.1.2.1, (y_3.2.1.2.2.1, y_3.2.1.2.2.2))), ())) (fun (y_4 : (((List Int) × Unit) × (((List Int) × (Int × (Bool × Unit))) × Unit))) => (Option.bind (c_wirereader_Reader_Uint64 ((y_4.2.1.1, (y_4.2.1.2.1, (y_4.2.1.2.2.1, y_4.2.1.2.2.2))), ())) (fun (y_5 : ((Int × Unit) × (((List Int) × (Int × (Bool × Unit))) × Unit))) => (Option.bind (c_wirereader_Reader_Uint256 ((y_5.2.1.1, (y_5.2.1.2.1, (y_5.2.1.2.2.1, y_5.2.1.2.2.2))), ())) (fun (y_6 : (((List Int) × Unit) × (((List Int) × (Int × (Bool × Unit))) × Unit))) => (Option.bind (c_wirereader_Reader_Uint256 ((y_6.2.1.1, (y_6.2.1.2.1, (y_6.2.1.2.2.1, y_6.2.1.2.2.2))), ())) (fun (y_7 : (((List Int) × Unit) × (((List Int) × (Int × (Bool × Unit))) × Unit))) => (Option.bind (c_wirereader_Reader_Uint64 ((y_7.2.1.1, (y_7.2.1.2.1, (y_7.2.1.2.2.1, y_7.2.1.2.2.2))), ())) (fun (y_8 : ((Int × Unit) × (((List Int) × (Int × (Bool × Unit))) × Unit))) => (Option.bind (c_wirereader_Reader_Bytes ((y_8.2.1.1, (y_8.2.1.2.1, (y_8.2.1.2.2.1, y_8.2.1.2.2.2))), ())) (fun (y_9 : (((List Int) × Unit) × (((List Int) × (Int × (Bool × Unit))) × Unit))) => (Option.bind (c_wirereader_Reader_Done ((y_9.2.1.1, (y_9.2.1.2.1, (y_9.2.1.2.2.1, y_9.2.1.2.2.2))), ())) (fun (y_10 : ((Bool × Unit) × (((List Int) × (Int × (Bool × Unit))) × Unit))) => (brR (!y_10.1.1) (some ((((0 : Int), ((0 : Int), ((0 : Int), ([(0 : Int), (0 : Int), (0 : Int), (0 : Int)], ((0 : Int), ([(0 : Int), (0 : Int), (0 : Int), (0 : Int)], ([(0 : Int), (0 : Int), (0 : Int), (0 : Int)], ((0 : Int), (([] : List Int), ()))))))))), ((3 : Int), ())), ((), ()))) (brR (decide ((((List.length y_9.1.1) : Nat) : Int) > (4096 : Int))) (some ((((0 : Int), ((0 : Int), ((0 : Int), ([(0 : Int), (0 : Int), (0 : Int), (0 : Int)], ((0 : Int), ([(0 : Int), (0 : Int), (0 : Int), (0 : Int)], ([(0 : Int), (0 : Int), (0 : Int), (0 : Int)], ((0 : Int), (([] : List Int), ()))))))))), ((3 : Int), ())), ((), ()))) (some (((y_1.1.1, (y_2.1.1, (y_3.1.1, (y_4.1.1, (y_5.1.1, (y_6.1.1, (y_7.1.1, (y_8.1.1, (y_9.1.1, ()))))))))), ((0 : Int), ())), ((), ())))))))))))))))))))))))))))
noncomputable def sol_tx_Decode : F_tx_Decode := fun x => T_tx_Decode bigLoop sol_wirereader_New sol_wirereader_Reader_Uint64 sol_wirereader_Reader_Uint256 sol_wirereader_Reader_Bytes sol_wirereader_Reader_Done x.1
end Go.Pon
set_option autoImplicit false
set_option linter.unusedVariables false
set_option maxRecDepth 100000
namespace Go.Pon
open Go
abbrev s_law22_awake : Sig := ⟨[], [(.ro true .bool)]⟩
abbrev F_law22_awake := Unit → Option ((Bool × Unit) × Unit)
noncomputable def T_law22_awake (L : LoopD) (c_tx_Encode : F_tx_Encode) (c_tx_Decode : F_tx_Decode) : Option ((Bool × Unit) × Unit) := (Option.bind (c_tx_Encode (((0 : Int), ((0 : Int), ((0 : Int), ([(0 : Int), (0 : Int), (0 : Int), (0 : Int)], ((0 : Int), ([(0 : Int), (0 : Int), (0 : Int), (0 : Int)], ([(0 : Int), (0 : Int), (0 : Int), (0 : Int)], ((0 : Int), (([] : List Int), ()))))))))), ())) (fun (y_0 : (((List Int) × (Int × Unit)) × (Unit × Unit))) => (letR (List.length y_0.1.1) fun (v_1 : Nat) => (Option.bind (c_tx_Decode (([] : List Int), ())) (fun (y_2 : (((Int × (Int × (Int × ((List Int) × (Int × ((List Int) × ((List Int) × (Int × ((List Int) × Unit))))))))) × (Int × Unit)) × (Unit × Unit))) => (brR (decide (y_0.1.2.1 = (0 : Int))) (brR (decide (((v_1 : Nat) : Int) = (9 : Int))) (brR (inR (0 : Int) v_1) (brR (decide ((List.getD y_0.1.1 (0 : Nat) (0 : Int)) = (0 : Int))) (brR (inR (8 : Int) v_1) (brR (decide ((List.getD y_0.1.1 (8 : Nat) (0 : Int)) = (0 : Int))) (some (((decide (y_2.1.2.1 = (3 : Int))), ()), ())) (some ((false, ()), ()))) none) (some ((false, ()), ()))) none) (some ((false, ()), ()))) (some ((false, ()), ()))))))))
noncomputable def sol_law22_awake : F_law22_awake := fun x => T_law22_awake bigLoop sol_tx_Encode sol_tx_Decode
abbrev s_law22_TxDataLimit : Sig := ⟨[(.ro true (.int .u8)), (.ro true (.int .i64))], [(.ro true .bool)]⟩
abbrev F_law22_TxDataLimit := (Int × (Int × Unit)) → Option ((Bool × Unit) × (Unit × (Unit × Unit)))
noncomputable def T_law22_TxDataLimit_loop0 (c_law0_Mod : F_law0_Mod) (c_tx_Encode : F_tx_Encode) (c_tx_Decode : F_tx_Decode) (c_ref6_AppendUint64 : F_ref6_AppendUint64) (c_ref6_AppendBytes : F_ref6_AppendBytes) (c_ref22_Equal : F_ref22_Equal) (c_law22_awake : F_law22_awake) (again_0 : (Int × (Int × ((List Int) × (Int × Unit)))) → Option ((Bool × Unit) × (Unit × (Unit × Unit)))) (c_1 : Int) (less_2 : Int) (d_3 : (List Int)) (i_4 : Int) : Option ((Bool × Unit) × (Unit × (Unit × Unit))) := (letR ((List.length d_3) - (0 : Nat)) fun (v_5 : Nat) => (letR ((v_5 : Nat) : Int) fun (v_6 : Int) => (letR (List.set d_3 ((0 : Nat) + (Int.toNat i_4)) c_1) fun (v_7 : (List Int)) => (letR (List.drop ((0 : Nat) + (0 : Nat)) d_3) fun (v_8 : (List Int)) => (letR (List.take v_5 (List.drop (0 : Nat) d_3)) fun (v_9 : (List Int)) => (letR (List.append v_9 [c_1]) fun (v_10 : (List Int)) => (brR (decide (i_4 < v_6)) (brR (inR i_4 v_5) (brR ((decide ((0 : Nat) < (List.length d_3))) && (decide ((List.length d_3) = (List.length v_7)))) (again_0 (c_1, (less_2, (v_7, ((IntKind.wrap (IntKind.i64) (i_4 + (1 : Int))), ()))))) none) none) (Option.bind (c_law0_Mod (less_2, ((5 : Int), ()))) (fun (y_11 : ((Int × Unit) × (Unit × (Unit × Unit)))) => (letR (IntKind.wrap (IntKind.i64) ((4096 : Int) - y_11.1.1)) fun (v_12 : Int) => (brR ((decide ((0 : Int) ≤ v_12)) && (decide (v_12 ≤ v_6))) (Option.bind (c_tx_Encode (((1 : Int), ((0 : Int), ((0 : Int), ([(0 : Int), (0 : Int), (0 : Int), (0 : Int)], ((0 : Int), ([(0 : Int), (0 : Int), (0 : Int), (0 : Int)], ([(0 : Int), (0 : Int), (0 : Int), (0 : Int)], ((0 : Int), ((List.take (((0 : Nat) + (Int.toNat v_12)) - ((0 : Nat) + (0 : Nat))) v_8), ()))))))))), ())) (fun (y_13 : (((List Int) × (Int × Unit)) × (Unit × Unit))) => (Option.bind (c_tx_Decode (y_13.1.1, ())) (fun (y_14 : (((Int × (Int × (Int × ((List Int) × (Int × ((List Int) × ((List Int) × (Int × ((List Int) × Unit))))))))) × (Int × Unit)) × (Unit × Unit))) => (brR ((decide ((0 : Nat) < (1 : Nat))) && (roomy ((List.length v_9) + (1 : Nat)) (Ty.int IntKind.u8))) (Option.bind (c_tx_Encode (((1 : Int), ((0 : Int), ((0 : Int), ([(0 : Int), (0 : Int), (0 : Int), (0 : Int)], ((0 : Int), ([(0 : Int), (0 : Int), (0 : Int), (0 : Int)], ([(0 : Int), (0 : Int), (0 : Int), (0 : Int)], ((0 : Int), (v_10, ()))))))))), ())) (fun (y_15 : (((List Int) × (Int × Unit)) × (Unit × Unit))) => (Option.bind (c_ref6_AppendUint64 (([] : List Int), ((1 : Int), ()))) (fun (y_16 : (((List Int) × Unit) × (Unit × (Unit × Unit)))) => (brR ((decide ((0 : Nat) < (1 : Nat))) && (roomy ((List.length v_9) + (1 : Nat)) (Ty.int IntKind.u8))) (Option.bind (c_ref6_AppendBytes (y_16.1.1, (v_10, ()))) (fun (y_17 : (((List Int) × Unit) × (Unit × (Unit × Unit)))) => (letR (List.length y_17.1.1) fun (v_18 : Nat) => (letR (List.take (v_18 - (2 : Nat)) (List.drop (2 : Nat) y_17.1.1)) fun (v_19 : (List Int)) => (brR (decide ((2 : Int) ≤ ((v_18 : Nat) : Int))) (brR (roomy ((9 : Nat) + (List.length v_19)) (Ty.int IntKind.u8)) (Option.bind (c_tx_Decode ((List.append [(1 : Int), (1 : Int), (0 : Int), (0 : Int), (0 : Int), (0 : Int), (0 : Int), (0 : Int), (0 : Int)] v_19), ())) (fun (y_20 : (((Int × (Int × (Int × ((List Int) × (Int × ((List Int) × ((List Int) × (Int × ((List Int) × Unit))))))))) × (Int × Unit)) × (Unit × Unit))) => (brR (decide (y_13.1.2.1 = (0 : Int))) (brR (decide (y_14.1.2.1 = (0 : Int))) (Option.bind (c_ref22_Equal (y_14.1.1, (((1 : Int), ((0 : Int), ((0 : Int), ([(0 : Int), (0 : Int), (0 : Int), (0 : Int)], ((0 : Int), ([(0 : Int), (0 : Int), (0 : Int), (0 : Int)], ([(0 : Int), (0 : Int), (0 : Int), (0 : Int)], ((0 : Int), ((List.take (((0 : Nat) + (Int.toNat v_12)) - ((0 : Nat) + (0 : Nat))) v_8), ()))))))))), ()))) (fun (y_21 : ((Bool × Unit) × (Unit × (Unit × Unit)))) => (brR y_21.1.1 (brR (decide (y_15.1.2.1 = (6 : Int))) (brR (decide (y_20.1.2.1 = (3 : Int))) (Option.bind (c_law22_awake ()) (fun (y_22 : ((Bool × Unit) × Unit)) => (some ((y_22.1.1, ()), ((), ((), ())))))) (some ((false, ()), ((), ((), ()))))) (some ((false, ()), ((), ((), ()))))) (some ((false, ()), ((), ((), ()))))))) (some ((false, ()), ((), ((), ()))))) (some ((false, ()), ((), ((), ()))))))) none) none))))) none))))) none))))) none)))))))))))
noncomputable def T_law22_TxDataLimit (L : LoopD) (c_law0_Mod : F_law0_Mod) (c_tx_Encode : F_tx_Encode) (c_tx_Decode : F_tx_Decode) (c_ref6_AppendUint64 : F_ref6_AppendUint64) (c_ref6_AppendBytes : F_ref6_AppendBytes) (c_ref22_Equal : F_ref22_Equal) (c_law22_awake : F_law22_awake) (c_ : Int) (less_ : Int) : Option ((Bool × Unit) × (Unit × (Unit × Unit))) := (L _ _ (fun again x => T_law22_TxDataLimit_loop0 c_law0_Mod c_tx_Encode c_tx_Decode c_ref6_AppendUint64 c_ref6_AppendBytes c_ref22_Equal c_law22_awake again x.1 x.2.1 x.2.2.1 x.2.2.2.1) (c_, (less_, ((List.replicate (4096 : Nat) (0 : Int)), ((0 : Int), ())))))
noncomputable def sol_law22_TxDataLimit : F_law22_TxDataLimit := fun x => T_law22_TxDataLimit bigLoop sol_law0_Mod sol_tx_Encode sol_tx_Decode sol_ref6_AppendUint64 sol_ref6_AppendBytes sol_ref22_Equal sol_law22_awake x.1 x.2.1
end Go.Pon
set_option autoImplicit false
set_option linter.unusedVariables false
namespace Go.Pon
open Go
theorem brR_ite {α : Type} (c : Bool) (t e : Option α) : brR c t e = if c = true then t else e := by cases c <;> rfl
theorem brR_dec {α : Type} (p : Prop) [Decidable p] (t e : Option α) : brR (decide p) t e = if p then t else e := by
  rw [brR_ite]; by_cases h : p <;> simp [h]
theorem brR_not {α : Type} (c : Bool) (t e : Option α) : brR (!c) t e = brR c e t := by cases c <;> rfl
theorem brR_and {α : Type} (a b : Bool) (t e : Option α) : brR (a && b) t e = brR a (brR b t e) e := by cases a <;> rfl
theorem brR_inR {α : Type} (i : Int) (n : Nat) (t e : Option α) : brR (inR i n) t e = if 0 ≤ i ∧ i < n then t else e := by
  unfold inR; rw [brR_and, brR_dec, brR_dec]; by_cases h1 : 0 ≤ i <;> by_cases h2 : i < n <;> simp [h1, h2]
theorem bind_some' {α β : Type} (a : α) (f : α → Option β) : Option.bind (some a) f = f a := rfl
theorem roomy_dec {n : Nat} {t : Ty} : roomy n t = decide (0 < t.size ∧ n * (24 * t.size) ≤ 140737488355328) := by
  unfold roomy
  by_cases h : 0 < t.size
  · simp [h]
  · simp [h]
theorem brR_roomy {α : Type} (n : Nat) (t : Ty) (a b : Option α) : brR (roomy n t) a b = if 0 < t.size ∧ n * (24 * t.size) ≤ 140737488355328 then a else b := by
  rw [roomy_dec, brR_dec]
theorem bigLoop_rule {ω δ : Type} {round : (δ → Option ω) → δ → Option ω} (I : δ → Prop) (m : δ → Nat) (g : δ → Option ω)
    (h : ∀ x (again : δ → Option ω), I x → (∀ y, I y → m y < m x → again y = g y) → round again x = g x) {x : δ} (hx : I x) (hm : m x < bigN) : bigLoop ω δ round x = g x := by
  have key : ∀ n x, I x → m x < n → loopN round n x = g x := by
    intro n
    induction n with
    | zero => intro x _ hm; omega
    | succ n ih =>
      intro x hx hm
      rw [loopN_succ]
      exact h x _ hx fun y hy hlt => ih y hy (by omega)
  rw [bigLoop_def]
  exact key bigN x hx hm
theorem bigN_eq : bigN = 18446744073709551616 := rfl
theorem w_i64 {n : Int} (h1 : -9223372036854775808 ≤ n) (h2 : n ≤ 9223372036854775807) : IntKind.i64.wrap n = n := by rw [IntKind.wrap_i64]; omega
theorem w_u64 {n : Int} (h1 : 0 ≤ n) (h2 : n ≤ 18446744073709551615) : IntKind.u64.wrap n = n := by rw [IntKind.wrap_u64]; omega
theorem w_u8 {n : Int} (h1 : 0 ≤ n) (h2 : n ≤ 255) : IntKind.u8.wrap n = n := by rw [IntKind.wrap_u8]; omega
theorem tdiv_pos {a b : Int} (h : 0 ≤ a) : Int.tdiv a b = a / b := Int.tdiv_eq_ediv_of_nonneg h
theorem tmod_pos {a b : Int} (h : 0 ≤ a) : Int.tmod a b = a % b := Int.tmod_eq_emod_of_nonneg h
theorem inK_u8 {n : Int} : inK .u8 n ↔ 0 ≤ n ∧ n ≤ 255 := by simp [inK, IntKind.min, IntKind.max, IntKind.signed, IntKind.bits]
theorem inK_i64 {n : Int} : inK .i64 n ↔ -9223372036854775808 ≤ n ∧ n ≤ 9223372036854775807 := by simp [inK, IntKind.min, IntKind.max, IntKind.signed, IntKind.bits]
theorem eqD_dec (t : Ty) (x y : t.den) [Decidable (x = y)] : eqD t x y = decide (x = y) := by
  rw [Bool.eq_iff_iff, eqD_iff]; simp
theorem brR_eqD {α : Type} (t : Ty) (x y : t.den) [Decidable (x = y)] (a b : Option α) : brR (eqD t x y) a b = if x = y then a else b := by rw [eqD_dec, brR_dec]
theorem getD_mem {α : Type} {l : List α} {i : Nat} {d : α} (h : i < l.length) : List.getD l i d ∈ l := by
  rw [List.getD_eq_getElem?_getD, List.getElem?_eq_getElem h]; simp
theorem getD_all {p : Int → Prop} {l : List Int} (h : ∀ x ∈ l, p x) (h0 : p 0) (i : Nat) : p (List.getD l i 0) := by
  rcases Nat.lt_or_ge i l.length with hi | hi
  · exact h _ (getD_mem hi)
  · rw [List.getD_eq_getElem?_getD, List.getElem?_eq_none hi]; exact h0
theorem append_def {α : Type} (l m : List α) : List.append l m = l ++ m := rfl
end Go.Pon
set_option autoImplicit false
set_option linter.unusedVariables false
namespace Go.Pon
open Go
def bitlen (n : Nat) : Nat := if n = 0 then 0 else Nat.log2 n + 1
theorem bitlen_zero : bitlen 0 = 0 := rfl
theorem lt_bitlen (n : Nat) : n < 2 ^ bitlen n := by
  unfold bitlen
  by_cases h : n = 0
  · subst h; simp
  · rw [if_neg h]; exact Nat.lt_log2_self
theorem bitlen_le {n b : Nat} : bitlen n ≤ b ↔ n < 2 ^ b := by
  unfold bitlen
  by_cases h : n = 0
  · subst h; simp [Nat.two_pow_pos]
  · rw [if_neg h, Nat.succ_le_iff, Nat.log2_lt h]
theorem bitlen_eq {n b : Nat} (h1 : n < 2 ^ b) (h2 : ∀ c, c < b → 2 ^ c ≤ n) : bitlen n = b := by
  rcases Nat.lt_trichotomy (bitlen n) b with h | h | h
  · have := h2 _ h
    have := lt_bitlen n
    omega
  · exact h
  · have := bitlen_le.2 h1
    omega
theorem bitlen_div {n k : Nat} (h : 2 ^ k ≤ n) : bitlen n = k + bitlen (n / 2 ^ k) := by
  have hpos : 0 < 2 ^ k := Nat.two_pow_pos k
  have h1 : n / 2 ^ k ≠ 0 := by
    have : 1 ≤ n / 2 ^ k := (Nat.le_div_iff_mul_le hpos).2 (by omega)
    omega
  refine bitlen_eq ?_ fun c hc => ?_
  · have := lt_bitlen (n / 2 ^ k)
    rw [Nat.div_lt_iff_lt_mul hpos, ← Nat.pow_add] at this
    rwa [Nat.add_comm] at this
  · rcases Nat.lt_or_ge c k with hck | hck
    · exact Nat.le_trans (Nat.pow_le_pow_right (by omega) (by omega)) h
    · have h2 : ¬ (n / 2 ^ k) < 2 ^ (c - k) := fun hh => by
        have := bitlen_le.2 hh
        omega
      have h3 : 2 ^ (c - k) ≤ n / 2 ^ k := by omega
      rw [Nat.le_div_iff_mul_le hpos, ← Nat.pow_add] at h3
      rwa [Nat.sub_add_cancel hck] at h3
def lim (n : Nat) : List Int := [((n % 18446744073709551616 : Nat) : Int), ((n / 18446744073709551616 % 18446744073709551616 : Nat) : Int), ((n / 340282366920938463463374607431768211456 % 18446744073709551616 : Nat) : Int), ((n / 6277101735386680763835789423207666416102355444464034512896 : Nat) : Int)]
def val4 (l : List Int) : Nat := (l.getD 0 0).toNat + (l.getD 1 0).toNat * 18446744073709551616 + (l.getD 2 0).toNat * 340282366920938463463374607431768211456 + (l.getD 3 0).toNat * 6277101735386680763835789423207666416102355444464034512896
theorem val4_lim {n : Nat} : val4 (lim n) = n := by
  simp only [val4, lim, List.getD_cons_zero, List.getD_cons_succ, Int.toNat_natCast]
  omega
theorem len_lim {n : Nat} : (lim n).length = 4 := rfl
theorem lim_small {x : Int} (h1 : 0 ≤ x) (h2 : x ≤ 18446744073709551615) : ([x, 0, 0, 0] : List Int) = lim x.toNat := by
  simp only [lim, List.cons.injEq, and_true]
  refine ⟨?_, ?_, ?_, ?_⟩ <;> omega
theorem lim_getD {n i : Nat} (hn : n < 115792089237316195423570985008687907853269984665640564039457584007913129639936) (hi : i < 4) : (lim n).getD i 0 = ((n / 18446744073709551616 ^ i % 18446744073709551616 : Nat) : Int) := by
  match i, hi with
  | 0, _ => simp [lim]
  | 1, _ => simp [lim]
  | 2, _ => simp [lim]
  | 3, _ =>
    simp only [lim, List.getD_cons_zero, List.getD_cons_succ]
    have : n / 6277101735386680763835789423207666416102355444464034512896 % 18446744073709551616 = n / 6277101735386680763835789423207666416102355444464034512896 := Nat.mod_eq_of_lt (by omega)
    rw [show (18446744073709551616 : Nat) ^ 3 = 6277101735386680763835789423207666416102355444464034512896 from rfl, this]
def beB : Nat → Nat → List Int
  | 0, _ => []
  | k + 1, n => ((n / 256 ^ k % 256 : Nat) : Int) :: beB k n
theorem len_beB : ∀ {k n : Nat}, (beB k n).length = k
  | 0, _ => rfl
  | k + 1, n => by simp [beB, len_beB]
theorem beB_byte : ∀ {k n : Nat}, ∀ x ∈ beB k n, 0 ≤ x ∧ x ≤ 255
  | 0, _, x, h => by simp [beB] at h
  | k + 1, n, x, h => by
    rcases List.mem_cons.1 h with rfl | h
    · have := Nat.mod_lt (n / 256 ^ k) (show 0 < 256 by omega)
      omega
    · exact beB_byte x h
def bylen (n : Nat) : Nat := (bitlen n + 7) / 8
theorem pow256 (k : Nat) : 256 ^ k = 2 ^ (8 * k) := by rw [show (256 : Nat) = 2 ^ 8 from rfl, ← Nat.pow_mul]
theorem bylen_le {n k : Nat} : bylen n ≤ k ↔ n < 256 ^ k := by
  rw [pow256, ← bitlen_le]; unfold bylen; omega
theorem bylen_256 {n : Nat} (h : n < 115792089237316195423570985008687907853269984665640564039457584007913129639936) : bylen n ≤ 32 := bylen_le.2 h
theorem bylen_64 {n : Nat} (h : n < 18446744073709551616) : bylen n ≤ 8 := bylen_le.2 h
theorem bylen_zero : bylen 0 = 0 := rfl
def beV (l : List Int) : Nat := l.foldl (fun v x => v * 256 + x.toNat) 0
theorem beV_append (l : List Int) (x : Int) : beV (l ++ [x]) = beV l * 256 + x.toNat := by simp [beV]
theorem beV_nil : beV [] = 0 := rfl
theorem snoc_ind {α : Type} {motive : List α → Prop} (l : List α) (nil : motive []) (append : ∀ l x, motive l → motive (l ++ [x])) : motive l := by
  have : motive l.reverse.reverse := by
    induction l.reverse with
    | nil => exact nil
    | cons a m ih => rw [List.reverse_cons]; exact append _ _ ih
  simpa using this
theorem beV_lt (l : List Int) : (∀ x ∈ l, 0 ≤ x ∧ x ≤ 255) → beV l < 256 ^ l.length := by
  refine snoc_ind (motive := fun l => (∀ x ∈ l, 0 ≤ x ∧ x ≤ 255) → beV l < 256 ^ l.length) l ?_ ?_
  · intro _; simp [beV]
  · intro l x ih h
    have h1 := ih fun y hy => h y (by simp [hy])
    have h2 := h x (by simp)
    rw [beV_append, List.length_append, List.length_singleton, Nat.pow_succ]
    omega
theorem or_bits {x y : Nat} (hx : x < 18446744073709551616) (hy : y < 18446744073709551616) : (((BitVec.ofInt 64 ((x : Nat) : Int) ||| BitVec.ofInt 64 ((y : Nat) : Int)).toNat : Nat) : Int) = ((x ||| y : Nat) : Int) := by
  rw [BitVec.toNat_or, BitVec.ofInt_natCast, BitVec.ofInt_natCast, BitVec.toNat_ofNat, BitVec.toNat_ofNat, Nat.mod_eq_of_lt hx, Nat.mod_eq_of_lt hy]
theorem byte_bits {b i : Nat} (hb : b < 256) (hi : 8 ≤ i) : b.testBit i = false :=
  Nat.testBit_lt_two_pow (Nat.lt_of_lt_of_le hb (by rw [show (256 : Nat) = 2 ^ 8 from rfl]; exact Nat.pow_le_pow_right (by omega) hi))
theorem limb_or {a b j q : Nat} (hb : b < 256) :
    (a * 256 ^ (j + 1) + b * 256 ^ j) / 18446744073709551616 ^ q % 18446744073709551616 =
      (a * 256 ^ (j + 1) / 18446744073709551616 ^ q % 18446744073709551616) ||| (if q = j / 8 then b * 2 ^ (8 * (j % 8)) else 0) := by
  have h1 : a * 256 ^ (j + 1) + b * 256 ^ j = (a * 256 ^ (j + 1)) ||| (b <<< (8 * j)) := by
    rw [Nat.shiftLeft_eq, pow256, pow256, Nat.mul_comm a, Nat.mul_comm b, ← Nat.two_pow_add_eq_or_of_lt]
    rw [show 8 * (j + 1) = 8 * j + 8 by omega, Nat.pow_add, Nat.mul_comm (2 ^ (8 * j)) b, Nat.mul_comm (2 ^ (8 * j)) (2 ^ 8)]
    exact Nat.mul_lt_mul_of_pos_right hb (Nat.two_pow_pos _)
  rw [h1, show (18446744073709551616 : Nat) ^ q = 2 ^ (64 * q) by rw [show (18446744073709551616 : Nat) = 2 ^ 64 from rfl, ← Nat.pow_mul], show (18446744073709551616 : Nat) = 2 ^ 64 from rfl]
  generalize a * 256 ^ (j + 1) = m
  apply Nat.eq_of_testBit_eq
  intro t
  simp only [Nat.testBit_mod_two_pow, Nat.testBit_div_two_pow, Nat.testBit_or, Nat.testBit_shiftLeft]
  by_cases hq : q = j / 8
  · subst hq
    rw [if_pos rfl, ← Nat.shiftLeft_eq, Nat.testBit_shiftLeft]
    by_cases ht : t < 64
    · rw [show t + 64 * (j / 8) - 8 * j = t - 8 * (j % 8) by omega, show decide (t + 64 * (j / 8) ≥ 8 * j) = decide (t ≥ 8 * (j % 8)) by simp; omega]
      simp [ht]
    · rw [byte_bits hb (i := t - 8 * (j % 8)) (by omega)]; simp [ht]
  · rw [if_neg hq, Nat.zero_testBit, Bool.or_false]
    by_cases ht : t < 64
    · by_cases h : 8 * j ≤ t + 64 * q
      · rw [byte_bits hb (i := t + 64 * q - 8 * j) (by omega)]; simp [ht]
      · simp [ht, h]
    · simp [ht]
theorem lim_set {a b j : Nat} (hj : j < 32) (hb : b < 256) (h : a * 256 ^ (j + 1) + b * 256 ^ j < 115792089237316195423570985008687907853269984665640564039457584007913129639936) {y : Int}
    (hy : y = (((a * 256 ^ (j + 1) / 18446744073709551616 ^ (j / 8) % 18446744073709551616) ||| (b * 2 ^ (8 * (j % 8))) : Nat) : Int)) :
    (lim (a * 256 ^ (j + 1))).set (j / 8) y = lim (a * 256 ^ (j + 1) + b * 256 ^ j) := by
  apply List.ext_getElem
  · simp [len_lim]
  · intro q h1 h2
    have hq : q < 4 := h2
    have e : ∀ n, n < 115792089237316195423570985008687907853269984665640564039457584007913129639936 → (hh : q < (lim n).length) → (lim n)[q] = ((n / 18446744073709551616 ^ q % 18446744073709551616 : Nat) : Int) := fun n hn hh => by
      rw [← lim_getD hn hq, List.getD_eq_getElem?_getD, List.getElem?_eq_getElem hh]; rfl
    rw [e _ h, limb_or hb, List.getElem_set]
    by_cases hc : j / 8 = q
    · rw [if_pos hc, if_pos hc.symm, hy, hc]
    · rw [if_neg hc, if_neg (fun h => hc h.symm), e _ (by omega), Nat.or_zero]
end Go.Pon
set_option autoImplicit false
set_option linter.unusedVariables false
set_option linter.unusedSimpArgs false
set_option maxRecDepth 10000
namespace Go.Pon
open Go
def len8 : List Int := [0, 1, 2, 2, 3, 3, 3, 3, 4, 4, 4, 4, 4, 4, 4, 4, 5, 5, 5, 5, 5, 5, 5, 5, 5, 5, 5, 5, 5, 5, 5, 5, 6, 6, 6, 6, 6, 6, 6, 6, 6, 6, 6, 6, 6, 6, 6, 6, 6, 6, 6, 6, 6, 6, 6, 6, 6, 6, 6, 6, 6, 6, 6, 6, 7, 7, 7, 7, 7, 7, 7, 7, 7, 7, 7, 7, 7, 7, 7, 7, 7, 7, 7, 7, 7, 7, 7, 7, 7, 7, 7, 7, 7, 7, 7, 7, 7, 7, 7, 7, 7, 7, 7, 7, 7, 7, 7, 7, 7, 7, 7, 7, 7, 7, 7, 7, 7, 7, 7, 7, 7, 7, 7, 7, 7, 7, 7, 7, 8, 8, 8, 8, 8, 8, 8, 8, 8, 8, 8, 8, 8, 8, 8, 8, 8, 8, 8, 8, 8, 8, 8, 8, 8, 8, 8, 8, 8, 8, 8, 8, 8, 8, 8, 8, 8, 8, 8, 8, 8, 8, 8, 8, 8, 8, 8, 8, 8, 8, 8, 8, 8, 8, 8, 8, 8, 8, 8, 8, 8, 8, 8, 8, 8, 8, 8, 8, 8, 8, 8, 8, 8, 8, 8, 8, 8, 8, 8, 8, 8, 8, 8, 8, 8, 8, 8, 8, 8, 8, 8, 8, 8, 8, 8, 8, 8, 8, 8, 8, 8, 8, 8, 8, 8, 8, 8, 8, 8, 8, 8, 8, 8, 8, 8, 8, 8, 8, 8, 8, 8, 8, 8, 8, 8, 8, 8, 8]
theorem len8_at : ∀ i, i < 256 → len8.getD i 0 = ((bitlen i : Nat) : Int) := by decide
theorem len8_int {x : Int} (h1 : 0 ≤ x) (h2 : x < 256) : len8.getD x.toNat 0 = ((bitlen x.toNat : Nat) : Int) := len8_at _ (by omega)
theorem bitlen_small {n : Nat} (h : n < 256) : bitlen n ≤ 8 := bitlen_le.2 (by omega)
theorem len64_case {x : Int} (k : Nat) (q : Int) (hk : k ≤ 56) (h0 : 0 ≤ x) (h1 : ((2 ^ k : Nat) : Int) ≤ x ∨ k = 0) (hq : q = x / ((2 ^ k : Nat) : Int)) (h2 : q < 256) :
    brR (inR (IntKind.wrap .u8 q) 256) (some ((IntKind.wrap .i64 ((k : Int) + IntKind.wrap .i64 (List.getD len8 (Int.toNat (IntKind.wrap .u8 q)) 0)), ()), ((), ()))) (none : Option ((Int × Unit) × (Unit × Unit))) = some ((((bitlen x.toNat : Nat) : Int), ()), ((), ())) := by
  obtain ⟨n, rfl⟩ := Int.eq_ofNat_of_zero_le h0
  have hq0 : 0 ≤ q := by rw [hq]; exact Int.ediv_nonneg h0 (Int.natCast_nonneg _)
  have hqn : q.toNat = n / 2 ^ k := by rw [hq, ← Int.natCast_ediv, Int.toNat_natCast]
  rw [w_u8 hq0 (by omega), brR_inR, if_pos ⟨hq0, h2⟩, len8_int hq0 h2, hqn]
  have hs : bitlen (n / 2 ^ k) ≤ 8 := bitlen_small (by omega)
  rw [w_i64 (n := ((bitlen (n / 2 ^ k) : Nat) : Int)) (by omega) (by omega), w_i64 (by omega) (by omega), Int.toNat_natCast]
  have : bitlen n = k + bitlen (n / 2 ^ k) := by
    rcases h1 with h1 | rfl
    · exact bitlen_div (by omega)
    · simp
  rw [this]; simp
theorem fdiv_pos {a b : Int} (h : 0 ≤ b) : Int.fdiv a b = a / b := Int.fdiv_eq_ediv_of_nonneg _ h
theorem len64_eq {x : Int} (h0 : 0 ≤ x) (h1 : x ≤ 18446744073709551615) : sol_math_bits_Len64 (x, ()) = some ((((bitlen x.toNat : Nat) : Int), ()), ((), ())) := by
  unfold sol_math_bits_Len64 T_math_bits_Len64
  simp only [letR_eq, brR_dec, ge_iff_le, fdiv_pos (show (0 : Int) ≤ 4294967296 by omega), fdiv_pos (show (0 : Int) ≤ 65536 by omega), fdiv_pos (show (0 : Int) ≤ 256 by omega)]
  repeat' split
  · exact len64_case 56 _ (by omega) h0 (.inl (by omega)) (by omega) (by omega)
  · exact len64_case 48 _ (by omega) h0 (.inl (by omega)) (by omega) (by omega)
  · exact len64_case 40 _ (by omega) h0 (.inl (by omega)) (by omega) (by omega)
  · exact len64_case 32 _ (by omega) h0 (.inl (by omega)) (by omega) (by omega)
  · exact len64_case 24 _ (by omega) h0 (.inl (by omega)) (by omega) (by omega)
  · exact len64_case 16 _ (by omega) h0 (.inl (by omega)) (by omega) (by omega)
  · exact len64_case 8 _ (by omega) h0 (.inl (by omega)) (by omega) (by omega)
  · exact len64_case 0 _ (by omega) h0 (.inr rfl) (by omega) (by omega)
theorem bitlen_256 {n : Nat} (h : n < 115792089237316195423570985008687907853269984665640564039457584007913129639936) : bitlen n ≤ 256 := bitlen_le.2 h
theorem pow64 (k : Nat) : 18446744073709551616 ^ k = 2 ^ (64 * k) := by rw [show (18446744073709551616 : Nat) = 2 ^ 64 from rfl, ← Nat.pow_mul]
theorem bitLen_eq {n : Nat} (hn : n < 115792089237316195423570985008687907853269984665640564039457584007913129639936) : sol_uint256_BitLen (lim n, ()) = some ((((bitlen n : Nat) : Int), ()), ((), ())) := by
  unfold sol_uint256_BitLen T_uint256_BitLen
  refine bigLoop_rule (I := fun x => x.1 = lim n ∧ -1 ≤ x.2.1 ∧ x.2.1 ≤ 3 ∧ n < 18446744073709551616 ^ (x.2.1 + 1).toNat) (m := fun x => (x.2.1 + 1).toNat) (g := fun _ => some ((((bitlen n : Nat) : Int), ()), ((), ()))) ?_ ⟨rfl, by simp only; omega, by simp only; omega, hn⟩ (by simp only [bigN_eq]; omega)
  rintro ⟨a, i, _⟩ again ⟨h1, h2, h3, h4⟩ hag
  simp only at h1 h2 h3 h4 hag ⊢
  subst h1
  simp only [T_uint256_BitLen_loop0, brR_dec, brR_not, brR_inR, ge_iff_le]
  by_cases hi : 0 ≤ i
  · obtain ⟨j, rfl⟩ := Int.eq_ofNat_of_zero_le hi
    have e1 : ((j : Int) + 1).toNat = j + 1 := by omega
    rw [e1] at h4
    rw [if_pos hi, if_pos ⟨hi, by omega⟩, Int.toNat_natCast, lim_getD hn (by omega)]
    have hp : 0 < 18446744073709551616 ^ j := Nat.pow_pos (by omega)
    have hlt : n / 18446744073709551616 ^ j < 18446744073709551616 := by
      rw [Nat.div_lt_iff_lt_mul hp, Nat.mul_comm, ← Nat.pow_succ]; exact h4
    rw [Nat.mod_eq_of_lt hlt]
    by_cases hz : n / 18446744073709551616 ^ j = 0
    · rw [if_pos (by omega), w_i64 (by omega) (by omega)]
      refine hag _ ⟨rfl, by simp only; omega, by simp only; omega, ?_⟩ (by simp only; omega)
      simp only
      rw [show ((j : Int) - 1 + 1).toNat = j by omega]
      exact (Nat.div_eq_zero_iff.1 hz).resolve_left (by omega)
    · have hge : 2 ^ (64 * j) ≤ n := by
        rw [← pow64]
        rcases Nat.lt_or_ge n (18446744073709551616 ^ j) with h | h
        · exact absurd (Nat.div_eq_of_lt h) hz
        · exact h
      have hb := bitlen_div hge
      have := bitlen_256 hn
      rw [← pow64] at hb
      generalize n / 18446744073709551616 ^ j = q at *
      rw [if_neg (by omega), if_pos ⟨hi, by omega⟩, len64_eq (by omega) (by omega)]
      simp only [bind_some']
      rw [Int.toNat_natCast, w_i64 (n := 64 * (j : Int)) (by omega) (by omega), w_i64 (by omega) (by omega), hb]
      simp
  · have hz : i = -1 := by omega
    subst hz
    have : n = 0 := by simpa using h4
    subst this
    simp [bitlen_zero]
theorem fromUint64_eq {x : Int} (h0 : 0 ≤ x) (h1 : x ≤ 18446744073709551615) : sol_uint256_FromUint64 (x, ()) = some ((lim x.toNat, ()), ((), ())) := by
  unfold sol_uint256_FromUint64 T_uint256_FromUint64
  rw [lim_small h0 h1]
end Go.Pon
set_option autoImplicit false
set_option linter.unusedVariables false
set_option linter.unusedSimpArgs false
namespace Go.Pon
open Go
theorem u8_size : (Ty.int IntKind.u8).size = 1 := rfl
theorem brR_room8 {α : Type} {n : Nat} (h : n ≤ 1099511627776) (a b : Option α) : brR (roomy n (.int .u8)) a b = a := by
  rw [brR_roomy, u8_size, if_pos ⟨by omega, by omega⟩]
theorem grow_eq {n : Int} (h0 : 0 ≤ n) (h1 : n ≤ 1099511627776) : sol_slices_Grow_byte_byte ((), (n, ())) = some (([], ()), ((), ((), ()))) := by
  unfold sol_slices_Grow_byte_byte T_slices_Grow_byte_byte
  simp only [letR_eq, brR_dec, brR_and, Int.sub_zero]
  rw [if_neg (by omega), w_i64 (n := n) (by omega) (by omega)]
  split
  · rw [brR_room8 (by omega), brR_true, if_pos (by omega)]; rfl
  · rfl
theorem take_succ_flatten {ls : List (List Int)} {i : Nat} (h : i < ls.length) : (ls.take (i + 1)).flatten = (ls.take i).flatten ++ ls.getD i [] := by
  rw [List.take_succ_eq_append_getElem h, List.flatten_append, List.getD_eq_getElem?_getD, List.getElem?_eq_getElem h]; simp
theorem take_flatten_le (ls : List (List Int)) (i : Nat) : (ls.take i).flatten.length ≤ ls.flatten.length := by
  have : (ls.take i ++ ls.drop i).flatten = ls.flatten := by rw [List.take_append_drop]
  rw [← this, List.flatten_append, List.length_append]; omega
theorem concat_loop {ls : List (List Int)} (h : ls.flatten.length ≤ 1099511627776) (hn : ls.length ≤ 1099511627776) :
    bigLoop _ _ (fun again x => T_slices_Concat_byte_byte_loop1 again x.1 x.2.1 x.2.2.1 x.2.2.2.1) (([] : List Int), (ls, (((ls.length : Nat) : Int), ((0 : Int), ())))) = some ((ls.flatten, ()), ((), ())) := by
  refine bigLoop_rule (I := fun x => x.2.1 = ls ∧ x.2.2.1 = ((ls.length : Nat) : Int) ∧ (0 : Int) ≤ x.2.2.2.1 ∧ x.2.2.2.1 ≤ ((ls.length : Nat) : Int) ∧ x.1 = (ls.take x.2.2.2.1.toNat).flatten) (m := fun x => ((ls.length : Int) - x.2.2.2.1).toNat) (g := fun _ => some ((ls.flatten, ()), ((), ()))) ?_ ⟨rfl, rfl, by simp only; omega, by simp only; omega, rfl⟩ (by simp only [bigN_eq]; omega)
  rintro ⟨new, l, n, i, _⟩ again ⟨h1, h2, h3, h4, h5⟩ hag
  simp only at h1 h2 h3 h4 h5 hag ⊢
  subst h1 h2 h5
  obtain ⟨j, rfl⟩ := Int.eq_ofNat_of_zero_le h3
  simp only [T_slices_Concat_byte_byte_loop1, brR_dec, brR_inR, Int.toNat_natCast, append_def]
  by_cases hi : j < l.length
  · have e := take_succ_flatten hi
    have hle := take_flatten_le l (j + 1)
    rw [e] at hle
    rw [if_pos (by omega), if_pos ⟨h3, by omega⟩, brR_room8 (by rw [← List.length_append]; omega), ← e, w_i64 (by omega) (by omega)]
    exact hag _ ⟨rfl, rfl, by simp only; omega, by simp only; omega, rfl⟩ (by simp only; omega)
  · rw [if_neg (by omega), List.take_of_length_le (by omega)]
theorem concat_eq {ls : List (List Int)} (h : ls.flatten.length ≤ 1099511627776) (hn : ls.length ≤ 1099511627776) : sol_slices_Concat_byte_byte (ls, ()) = some ((ls.flatten, ()), ((), ())) := by
  unfold sol_slices_Concat_byte_byte T_slices_Concat_byte_byte
  refine bigLoop_rule (I := fun x => x.1 = ls ∧ x.2.2.1 = ls ∧ x.2.2.2.1 = ((ls.length : Nat) : Int) ∧ (0 : Int) ≤ x.2.2.2.2.1 ∧ x.2.2.2.2.1 ≤ ((ls.length : Nat) : Int) ∧ x.2.1 = (((ls.take x.2.2.2.2.1.toNat).flatten.length : Nat) : Int)) (m := fun x => ((ls.length : Int) - x.2.2.2.2.1).toNat) (g := fun _ => some ((ls.flatten, ()), ((), ()))) ?_
    ⟨rfl, rfl, rfl, by simp only; omega, by simp only; omega, rfl⟩ (by simp only [bigN_eq]; omega)
  rintro ⟨l, size, l', n, i, _⟩ again ⟨h1, h2, h3, h4, h5, h6⟩ hag
  simp only at h1 h2 h3 h4 h5 h6 hag ⊢
  subst h2 h1 h3 h6
  obtain ⟨j, rfl⟩ := Int.eq_ofNat_of_zero_le h4
  simp only [T_slices_Concat_byte_byte_loop0, letR_eq, brR_dec, brR_inR, Int.toNat_natCast]
  by_cases hi : j < l.length
  · have e := take_succ_flatten hi
    have hle := take_flatten_le l (j + 1)
    rw [e, List.length_append] at hle
    rw [if_pos (by omega), if_pos ⟨h4, by omega⟩, w_i64 (by omega) (by omega), if_neg (by omega), w_i64 (by omega) (by omega)]
    refine hag _ ⟨rfl, rfl, rfl, by simp only; omega, by simp only; omega, ?_⟩ (by simp only; omega)
    simp only
    rw [show ((j : Int) + 1).toNat = j + 1 by omega, e, List.length_append]; omega
  · have hle := take_flatten_le l j
    rw [if_neg (by omega), grow_eq (by omega) (by omega)]
    simp only [bind_some']
    exact concat_loop h hn
theorem clone_eq {l : List Int} (h : l.length ≤ 1099511627776) : sol_slices_Clone_byte_byte (l, ()) = some ((l, ()), ((), ())) := by
  unfold sol_slices_Clone_byte_byte T_slices_Clone_byte_byte
  simp only
  rw [brR_room8 (by omega), brR_dec]
  split
  · rename_i h0
    have : l = [] := List.length_eq_zero_iff.1 h0
    subst this
    exact bothR_eq rfl rfl
  · rfl
end Go.Pon
set_option autoImplicit false
set_option linter.unusedVariables false
set_option linter.unusedSimpArgs false
namespace Go.Pon
open Go
theorem limb_byte (n j : Nat) : (n / 18446744073709551616 ^ (j / 8) % 18446744073709551616) / 2 ^ (8 * (j % 8)) % 256 = n / 256 ^ j % 256 := by
  rw [pow64, pow256, show (18446744073709551616 : Nat) = 2 ^ 64 from rfl, show (256 : Nat) = 2 ^ 8 from rfl]
  apply Nat.eq_of_testBit_eq
  intro k
  simp only [Nat.testBit_mod_two_pow, Nat.testBit_div_two_pow]
  by_cases hk : k < 8
  · rw [show decide (k + 8 * (j % 8) < 64) = true by simp; omega, show k + 8 * (j % 8) + 64 * (j / 8) = k + 8 * j by omega]; simp
  · simp [hk]
theorem byte_out {n j : Nat} (hn : n < 115792089237316195423570985008687907853269984665640564039457584007913129639936) (hj : j < 32) :
    IntKind.wrap .u8 (Int.fdiv ((lim n).getD (j / 8) 0) ((2 : Int) ^ (min (8 * (j % 8)) 64))) = ((n / 256 ^ j % 256 : Nat) : Int) := by
  rw [lim_getD hn (by omega), Nat.min_eq_left (by omega), IntKind.wrap_u8, Int.fdiv_eq_ediv_of_nonneg _ (Int.pow_nonneg (by omega)), ← limb_byte n j]
  rfl
theorem encode_loop {n : Nat} (hn : n < 115792089237316195423570985008687907853269984665640564039457584007913129639936) {k : Nat} (hk : k ≤ 32) {out : List Int} (ho : out.length ≤ 100) :
    bigLoop _ _ (fun again x => T_wire_encode_loop0 again x.1 x.2.1 x.2.2.1) (lim n, (out, (((k : Nat) : Int) - 1, ()))) = some ((out ++ beB k n, ()), ((), ())) := by
  refine Eq.trans (bigLoop_rule (I := fun x => x.1 = lim n ∧ (-1 : Int) ≤ x.2.2.1 ∧ x.2.2.1 ≤ (31 : Int) ∧ (x.2.1.length : Int) + x.2.2.1 ≤ (131 : Int)) (m := fun x => (x.2.2.1 + 1).toNat) (g := fun x => some ((x.2.1 ++ beB (x.2.2.1 + 1).toNat n, ()), ((), ()))) ?_
    ⟨rfl, by simp only; omega, by simp only; omega, by simp only; omega⟩ (by simp only [bigN_eq]; omega)) ?_
  · rintro ⟨l, o, i, _⟩ again ⟨h1, h2, h3, h4⟩ hag
    simp only at h1 h2 h3 h4 hag ⊢
    subst h1
    simp only [T_wire_encode_loop0, letR_eq, brR_dec, brR_inR, ge_iff_le, append_def]
    by_cases hi : 0 ≤ i
    · obtain ⟨j, rfl⟩ := Int.eq_ofNat_of_zero_le hi
      rw [if_pos hi, tdiv_pos hi, tmod_pos hi, w_i64 (n := (j : Int) / 8) (by omega) (by omega), w_i64 (n := 8 * ((j : Int) % 8)) (by omega) (by omega), if_pos (by omega), if_pos (by omega), brR_room8 (by omega), w_i64 (by omega) (by omega)]
      rw [show ((j : Int) / 8).toNat = j / 8 by omega, show (8 * ((j : Int) % 8)).toNat = 8 * (j % 8) by omega, byte_out hn (by omega)]
      rw [hag _ ⟨rfl, by simp only; omega, by simp only; omega, by simp only [List.length_append, List.length_singleton]; omega⟩ (by simp only; omega)]
      simp only
      rw [show ((j : Int) - 1 + 1).toNat = j by omega, show ((j : Int) + 1).toNat = j + 1 by omega, beB]; simp
    · have : i = -1 := by omega
      subst this
      simp [beB]
  · simp only
    rw [show ((k : Int) - 1 + 1).toNat = k by omega]
def enc (n : Nat) : List Int := ((bylen n : Nat) : Int) :: beB (bylen n) n
theorem len_enc {n : Nat} : (enc n).length = 1 + bylen n := by simp [enc, len_beB]; omega
theorem encode_eq {n : Nat} (hn : n < 115792089237316195423570985008687907853269984665640564039457584007913129639936) : sol_wire_encode (lim n, ()) = some ((enc n, ()), ((), ())) := by
  unfold sol_wire_encode T_wire_encode
  have h1 := bitlen_256 hn
  have h2 := bylen_256 hn
  have h3 : ((bitlen n : Nat) : Int) + 7 = ((bitlen n + 7 : Nat) : Int) := by omega
  rw [bitLen_eq hn]
  simp only [bind_some', letR_eq]
  rw [w_i64 (n := ((bitlen n : Nat) : Int) + 7) (by omega) (by omega), tdiv_pos (by omega), w_i64 (n := (((bitlen n : Nat) : Int) + 7) / 8) (by omega) (by omega), w_i64 (by omega) (by omega), w_u8 (by omega) (by omega)]
  rw [show (((bitlen n : Nat) : Int) + 7) / 8 = ((bylen n : Nat) : Int) by unfold bylen; omega]
  exact encode_loop hn h2 (by simp)
theorem appendUint256_eq {b : List Int} (hb : b.length ≤ 1000000000) {n : Nat} (hn : n < 115792089237316195423570985008687907853269984665640564039457584007913129639936) :
    sol_wire_AppendUint256 (b, (lim n, ())) = some ((b ++ enc n, ()), ((), ((), ()))) := by
  unfold sol_wire_AppendUint256 T_wire_AppendUint256
  have h2 := bylen_256 hn
  rw [encode_eq hn]
  simp only [bind_some']
  rw [concat_eq (by simp [len_enc]; omega) (by simp)]
  simp [bind_some']
theorem appendUint64_eq {b : List Int} (hb : b.length ≤ 1000000000) {n : Int} (h0 : 0 ≤ n) (h1 : n ≤ 18446744073709551615) :
    sol_wire_AppendUint64 (b, (n, ())) = some ((b ++ enc n.toNat, ()), ((), ((), ()))) := by
  unfold sol_wire_AppendUint64 T_wire_AppendUint64
  rw [fromUint64_eq h0 h1]
  simp only [bind_some']
  rw [appendUint256_eq hb (by omega)]
  simp [bind_some']
theorem appendBytes_eq {b x : List Int} (hb : b.length ≤ 1000000000) (hx : x.length ≤ 1000000000) :
    sol_wire_AppendBytes (b, (x, ())) = some ((b ++ (enc x.length ++ x), ()), ((), ((), ()))) := by
  unfold sol_wire_AppendBytes T_wire_AppendBytes
  have h2 := @bylen_64 x.length (by omega)
  simp only [letR_eq]
  rw [w_u64 (by omega) (by omega), fromUint64_eq (by omega) (by omega)]
  simp only [bind_some', Int.toNat_natCast]
  rw [encode_eq (by omega)]
  simp only [bind_some']
  rw [concat_eq (by simp [len_enc]; omega) (by simp)]
  simp [bind_some']
def Bytes (b : List Int) : Prop := ∀ x ∈ b, 0 ≤ x ∧ x ≤ 255
theorem Bytes.drop {b : List Int} (h : Bytes b) (i : Nat) : Bytes (b.drop i) := fun x hx => h x (List.mem_of_mem_drop hx)
theorem Bytes.take {b : List Int} (h : Bytes b) (i : Nat) : Bytes (b.take i) := fun x hx => h x (List.mem_of_mem_take hx)
theorem Bytes.at {b : List Int} (h : Bytes b) (i : Nat) : 0 ≤ b.getD i 0 ∧ b.getD i 0 ≤ 255 := getD_all (p := fun x => 0 ≤ x ∧ x ≤ 255) h (by omega) i
theorem Bytes.append {a b : List Int} (ha : Bytes a) (hb : Bytes b) : Bytes (a ++ b) := fun x hx => by
  rcases List.mem_append.1 hx with h | h
  · exact ha x h
  · exact hb x h
theorem beV_take_succ {r : List Int} {i : Nat} (h : i < r.length) : beV (r.take (i + 1)) = beV (r.take i) * 256 + (r.getD i 0).toNat := by
  rw [List.take_succ_eq_append_getElem h, beV_append, List.getD_eq_getElem?_getD, List.getElem?_eq_getElem h]; rfl
theorem beV_take_lt {r : List Int} (hr : Bytes r) {i : Nat} (h : i ≤ r.length) : beV (r.take i) < 256 ^ i := by
  have := beV_lt (r.take i) (hr.take i)
  rwa [List.length_take, Nat.min_eq_left h] at this
theorem readUint_loop {r : List Int} (hr : Bytes r) {k : Nat} (hk : k ≤ 32) (hkr : k ≤ r.length) {at_ : Int} (h0 : 0 ≤ at_) (h1 : at_ ≤ 1099511627776) (t6 : List Int) :
    bigLoop _ _ (fun again x => T_wire_readUint_loop0 again x.1 x.2.1 x.2.2.1 x.2.2.2.1 x.2.2.2.2.1 x.2.2.2.2.2.1 x.2.2.2.2.2.2.1) (at_, (t6, (r, (((k : Nat) : Int), (lim 0, (((k : Nat) : Int), ((0 : Int), ()))))))) =
      some ((lim (beV (r.take k)), (at_ + 1 + k, ((0 : Int), ()))), ((), ((), ((), ())))) := by
  refine bigLoop_rule (I := fun x => x.1 = at_ ∧ x.2.2.1 = r ∧ x.2.2.2.1 = ((k : Nat) : Int) ∧ x.2.2.2.2.2.1 = ((k : Nat) : Int) ∧ (0 : Int) ≤ x.2.2.2.2.2.2.1 ∧ x.2.2.2.2.2.2.1 ≤ ((k : Nat) : Int) ∧ x.2.2.2.2.1 = lim (beV (r.take x.2.2.2.2.2.2.1.toNat) * 256 ^ (k - x.2.2.2.2.2.2.1.toNat)))
    (m := fun x => (((k : Nat) : Int) - x.2.2.2.2.2.2.1).toNat) (g := fun _ => some ((lim (beV (r.take k)), (at_ + 1 + k, ((0 : Int), ()))), ((), ((), ((), ()))))) ?_
    ⟨rfl, rfl, rfl, rfl, by simp only; omega, by simp only; omega, by simp [beV_nil]⟩ (by simp only [bigN_eq]; omega)
  rintro ⟨a, t, r', k', l, k2, i, _⟩ again ⟨e1, e2, e3, e4, e5, e6, e7⟩ hag
  simp only at e1 e2 e3 e4 e5 e6 e7 hag ⊢
  subst e1 e2 e3 e4 e7
  obtain ⟨i, rfl⟩ := Int.eq_ofNat_of_zero_le e5
  simp only [T_wire_readUint_loop0, letR_eq, brR_dec, brR_inR, Int.toNat_natCast]
  by_cases hi : i < k
  · obtain ⟨j, hj⟩ : ∃ j, k = i + 1 + j := ⟨k - i - 1, by omega⟩
    have e : ((k : Nat) : Int) - 1 - i = (j : Int) := by omega
    have hb := hr.at i
    have hA := beV_take_lt hr (i := i + 1) (by omega)
    have hs := beV_take_succ (r := r') (i := i) (by omega)
    rw [hs] at hA
    rw [if_pos (by omega), w_i64 (n := ((k : Nat) : Int) - 1) (by omega) (by omega), e, w_i64 (n := (j : Int)) (by omega) (by omega), tdiv_pos (by omega), tmod_pos (by omega), w_i64 (n := (j : Int) / 8) (by omega) (by omega),
      w_i64 (n := 8 * ((j : Int) % 8)) (by omega) (by omega), if_pos (by omega), if_pos (by omega), if_pos (by omega), if_pos (by omega), w_i64 (by omega) (by omega)]
    rw [show ((j : Int) / 8).toNat = j / 8 by omega, show (8 * ((j : Int) % 8)).toNat = 8 * (j % 8) by omega, show k - i = j + 1 by omega, w_u64 (n := r'.getD i 0) (by omega) (by omega)]
    obtain ⟨c, hc⟩ := Int.eq_ofNat_of_zero_le hb.1
    rw [hc] at hb hs hA ⊢
    rw [Int.toNat_natCast] at hs hA
    generalize hv : beV (r'.take i) = v at *
    have hp : 0 < 256 ^ j := Nat.pow_pos (by omega)
    have h3 : (v * 256 + c) * 256 ^ j < 256 ^ (i + 1) * 256 ^ j := Nat.mul_lt_mul_of_pos_right hA hp
    rw [← Nat.pow_add] at h3
    have h4 : (256 : Nat) ^ (i + 1 + j) ≤ 256 ^ 32 := Nat.pow_le_pow_right (by omega) (by omega)
    have h5 : v * 256 ^ (j + 1) + c * 256 ^ j = (v * 256 + c) * 256 ^ j := by rw [Nat.add_mul, Nat.pow_succ, Nat.mul_assoc v, Nat.mul_comm 256]
    have h6 : v * 256 ^ (j + 1) + c * 256 ^ j < 115792089237316195423570985008687907853269984665640564039457584007913129639936 := by
      rw [h5]; exact Nat.lt_of_lt_of_le h3 h4
    rw [lim_getD (by omega) (by omega), Nat.min_eq_left (by omega)]
    have h7 : (2 : Nat) ^ (8 * (j % 8)) ≤ 72057594037927936 := Nat.pow_le_pow_right (n := 2) (j := 56) (by omega) (by omega)
    have h8 : ((c : Nat) : Int) * 2 ^ (8 * (j % 8)) = ((c * 2 ^ (8 * (j % 8)) : Nat) : Int) := by rw [Int.natCast_mul, Int.natCast_pow]; rfl
    have h9 : c * 2 ^ (8 * (j % 8)) ≤ 255 * 72057594037927936 := Nat.mul_le_mul (by omega) h7
    have h10 : v * 256 ^ (j + 1) / 18446744073709551616 ^ (j / 8) % 18446744073709551616 < 18446744073709551616 := Nat.mod_lt _ (by omega)
    have h11 : v * 256 ^ (j + 1) / 18446744073709551616 ^ (j / 8) % 18446744073709551616 ||| c * 2 ^ (8 * (j % 8)) < 18446744073709551616 := Nat.or_lt_two_pow (n := 64) h10 (by omega)
    rw [h8, w_u64 (n := ((c * 2 ^ (8 * (j % 8)) : Nat) : Int)) (by omega) (by omega), or_bits h10 (by omega), w_u64 (by omega) (by omega), lim_set (by omega) (by omega) h6 rfl, h5]
    refine hag _ ⟨rfl, rfl, rfl, rfl, by simp only; omega, by simp only; omega, ?_⟩ (by simp only; omega)
    simp only
    rw [show ((i : Int) + 1).toNat = i + 1 by omega, hs, show k - (i + 1) = j by omega]
  · have : i = k := by omega
    subst this
    rw [if_neg (by omega), Nat.sub_self, Nat.pow_zero, Nat.mul_one, w_i64 (n := a + 1) (by omega) (by omega), w_i64 (by omega) (by omega)]
def rdU (b : List Int) (i : Nat) (most : Nat) : Option (Nat × Nat) :=
  match b.drop i with
  | [] => none
  | k :: r => if most < k.toNat ∨ r.length < k.toNat ∨ (0 < k.toNat ∧ r.getD 0 0 = 0) then none else some (beV (r.take k.toNat), i + 1 + k.toNat)
def readR (b : List Int) (at_ : Int) (most : Nat) : List Int × (Int × (Int × Unit)) :=
  if at_ < 0 ∨ b.length < at_ then (lim 0, (0, (2, ()))) else
    match rdU b at_.toNat most with
    | none => (lim 0, (0, (3, ())))
    | some (v, j) => (lim v, (j, (0, ())))
theorem readUint_eq {b : List Int} (hb : Bytes b) (hl : b.length ≤ 1000000000) {at_ : Int} (h1 : -9223372036854775808 ≤ at_) (h2 : at_ ≤ 9223372036854775807) {most : Nat} (hm : most ≤ 32) :
    sol_wire_readUint (b, (at_, (((most : Nat) : Int), ()))) = some (readR b at_ most, ((), ((), ((), ())))) := by
  unfold sol_wire_readUint T_wire_readUint readR
  simp only [letR_eq, brR_dec, brR_and]
  by_cases c1 : at_ < 0
  · rw [if_pos c1, if_pos (.inl c1)]; rfl
  rw [if_neg c1]
  by_cases c2 : b.length < at_
  · rw [if_pos (by omega), if_pos (.inr c2)]; rfl
  rw [if_neg (show ¬ at_ > (b.length : Int) by omega), if_neg (show ¬ (at_ < 0 ∨ (b.length : Int) < at_) by omega), if_pos (by omega), if_pos (by omega)]
  obtain ⟨i, rfl⟩ := Int.eq_ofNat_of_zero_le (show 0 ≤ at_ by omega)
  have hd := hb.drop i
  have hlen : (b.drop i).length = b.length - i := List.length_drop
  rw [Int.toNat_natCast, List.take_of_length_le (by omega)]
  unfold rdU
  generalize b.drop i = rest at *
  cases rest with
  | nil => rw [if_pos (by simp)]; rfl
  | cons k r =>
    have hk := hd k (by simp)
    have hr : Bytes r := fun x hx => hd x (by simp [hx])
    obtain ⟨k, rfl⟩ := Int.eq_ofNat_of_zero_le hk.1
    simp only [List.length_cons] at hlen
    rw [if_neg (by simp; omega), brR_inR, if_pos ⟨by omega, by simp⟩, if_pos (by simp; omega)]
    simp only [List.getD_cons_zero, List.drop_succ_cons, List.drop_zero, List.length_cons, Nat.add_sub_cancel, List.take_length]
    rw [w_i64 (by omega) (by omega)]
    by_cases c3 : most < k
    · rw [if_pos (by omega), if_pos (by omega)]; rfl
    rw [if_neg (by omega)]
    by_cases c4 : r.length < k
    · rw [if_pos (by omega), if_pos (by omega)]; rfl
    rw [if_neg (by omega)]
    have loop := readUint_loop hr (k := k) (by omega) (by omega) (at_ := (i : Int)) (by omega) (by omega)
    by_cases c5 : 0 < k
    · rw [if_pos (by omega), brR_inR, if_pos (by omega)]
      by_cases c6 : r.getD 0 0 = 0
      · rw [if_pos c6, if_pos (by simp only [Int.toNat_natCast]; omega)]; rfl
      · rw [if_neg c6, if_neg (by simp only [Int.toNat_natCast]; omega)]
        refine (loop _).trans ?_
        simp only [Int.toNat_natCast]
        rw [show ((i + 1 + k : Nat) : Int) = (i : Int) + 1 + k by omega]
    · rw [if_neg (by omega), if_neg (by simp only [Int.toNat_natCast]; omega)]
      refine (loop _).trans ?_
      simp only [Int.toNat_natCast]
      rw [show ((i + 1 + k : Nat) : Int) = (i : Int) + 1 + k by omega]
theorem readUint256_eq {b : List Int} (hb : Bytes b) (hl : b.length ≤ 1000000000) {at_ : Int} (h1 : -9223372036854775808 ≤ at_) (h2 : at_ ≤ 9223372036854775807) :
    sol_wire_ReadUint256 (b, (at_, ())) = some (readR b at_ 32, ((), ((), ()))) := by
  unfold sol_wire_ReadUint256 T_wire_ReadUint256
  rw [show ((32 : Int)) = ((32 : Nat) : Int) from rfl, readUint_eq hb hl h1 h2 (by omega)]
  simp only [bind_some']
theorem readR_bounds {b : List Int} (hb : Bytes b) (at_ : Int) {most : Nat} (hm : most ≤ 32) : ∃ v, v < 256 ^ most ∧ (readR b at_ most).1 = lim v ∧ 0 ≤ (readR b at_ most).2.1 ∧ (readR b at_ most).2.1 ≤ b.length ∧
    ((readR b at_ most).2.2.1 = 0 ∨ (readR b at_ most).2.2.1 = 2 ∨ (readR b at_ most).2.2.1 = 3) := by
  unfold readR
  have h0 : 0 < 256 ^ most := Nat.pow_pos (by omega)
  split
  · exact ⟨0, h0, rfl, by simp, by simp only; omega, by simp⟩
  · split
    · exact ⟨0, h0, rfl, by simp, by simp only; omega, by simp⟩
    · rename_i hc _ v j hv
      unfold rdU at hv
      split at hv
      · cases hv
      · rename_i k r hr
        split at hv
        · cases hv
        · rename_i hk
          cases hv
          have hl := congrArg List.length hr
          simp only [List.length_drop, List.length_cons] at hl
          have hbr : Bytes r := fun x hx => (hb.drop at_.toNat) x (by rw [hr]; simp [hx])
          refine ⟨_, Nat.lt_of_lt_of_le (beV_take_lt hbr (by omega)) (Nat.pow_le_pow_right (by omega) (by omega)), rfl, by simp only; omega, by simp only; omega, by simp⟩
theorem readUint64_eq {b : List Int} (hb : Bytes b) (hl : b.length ≤ 1000000000) {at_ : Int} (h1 : -9223372036854775808 ≤ at_) (h2 : at_ ≤ 9223372036854775807) :
    sol_wire_ReadUint64 (b, (at_, ())) = some ((((val4 (readR b at_ 8).1 : Nat) : Int), (readR b at_ 8).2), ((), ((), ()))) := by
  unfold sol_wire_ReadUint64 T_wire_ReadUint64
  obtain ⟨v, v1, v2, _⟩ := readR_bounds hb at_ (most := 8) (by omega)
  rw [show ((8 : Int)) = ((8 : Nat) : Int) from rfl, readUint_eq hb hl h1 h2 (by omega)]
  simp only [bind_some']
  have : (readR b at_ 8).1.getD 0 0 = ((val4 (readR b at_ 8).1 : Nat) : Int) := by
    rw [v2, val4_lim]; simp only [lim, List.getD_cons_zero]; omega
  rw [this]
def readB (b : List Int) (at_ : Int) : List Int × (Int × (Int × Unit)) :=
  if at_ < 0 ∨ b.length < at_ then ([], (0, (2, ()))) else
    match rdU b at_.toNat 8 with
    | none => ([], (0, (3, ())))
    | some (n, j) => if b.length - j < n then ([], (0, (3, ()))) else ((b.drop j).take n, ((j + n : Nat), (0, ())))
theorem rdU_le {b : List Int} {i most v j : Nat} (h : rdU b i most = some (v, j)) (hb : Bytes b) : i < j ∧ j ≤ b.length ∧ v < 256 ^ most ∧ j ≤ i + 1 + most := by
  unfold rdU at h
  split at h
  · cases h
  · rename_i k r hr
    split at h
    · cases h
    · rename_i hk
      cases h
      have hl := congrArg List.length hr
      simp only [List.length_drop, List.length_cons] at hl
      have hbr : Bytes r := fun x hx => (hb.drop i) x (by rw [hr]; simp [hx])
      exact ⟨by omega, by omega, Nat.lt_of_lt_of_le (beV_take_lt hbr (by omega)) (Nat.pow_le_pow_right (by omega) (by omega)), by omega⟩
theorem readBytes_eq {b : List Int} (hb : Bytes b) (hl : b.length ≤ 1000000000) {at_ : Int} (h1 : -9223372036854775808 ≤ at_) (h2 : at_ ≤ 9223372036854775807) :
    sol_wire_ReadBytes (b, (at_, ())) = some (readB b at_, ((), ((), ()))) := by
  unfold sol_wire_ReadBytes T_wire_ReadBytes readB
  rw [readUint64_eq hb hl h1 h2]
  simp only [bind_some', letR_eq, brR_dec, brR_not, brR_and]
  unfold readR
  by_cases c1 : at_ < 0 ∨ (b.length : Int) < at_
  · rw [if_pos c1, if_pos c1]; rfl
  rw [if_neg c1, if_neg c1]
  cases h : rdU b at_.toNat 8 with
  | none => rfl
  | some p =>
    obtain ⟨n, j⟩ := p
    obtain ⟨r1, r2, r3, _⟩ := rdU_le h hb
    have r3 : n < 18446744073709551616 := r3
    simp only [val4_lim]
    rw [if_pos trivial, w_i64 (n := (b.length : Int) - (j : Int)) (by omega) (by omega), w_u64 (by omega) (by omega)]
    by_cases c2 : b.length - j < n
    · rw [if_pos (by omega), if_pos c2]
    · rw [if_neg (by omega), if_neg c2, w_i64 (n := (n : Int)) (by omega) (by omega), w_i64 (n := (j : Int) + (n : Int)) (by omega) (by omega), if_pos (by omega), if_pos (by omega), if_pos (by omega)]
      rw [show ((j : Int) + (n : Int)).toNat - (j : Int).toNat = n by omega, Int.toNat_natCast, clone_eq (by rw [List.length_take, List.length_drop]; omega)]
      simp only [bind_some']
      rw [show ((j : Int) + (n : Int)) = ((j + n : Nat) : Int) by omega]
end Go.Pon
set_option autoImplicit false
set_option linter.unusedVariables false
set_option linter.unusedSimpArgs false
namespace Go.Pon
open Go
theorem bylen_eq {n i : Nat} (h1 : n < 256 ^ (i + 1)) (h2 : 256 ^ i ≤ n) : bylen n = i + 1 := by
  have a := bylen_le.2 h1
  rcases Nat.lt_or_ge i (bylen n) with h | h
  · omega
  · have := bylen_le.1 h; omega
theorem digits_eq {n : Nat} (hn : n < 115792089237316195423570985008687907853269984665640564039457584007913129639936) : sol_ref6_digits (lim n, ()) = some ((beB (bylen n) n, ()), ((), ())) := by
  unfold sol_ref6_digits T_ref6_digits
  refine Eq.trans (bigLoop_rule (I := fun x => x.1 = lim n ∧ (-1 : Int) ≤ x.2.2.1 ∧ x.2.2.1 ≤ (31 : Int) ∧ (x.2.1.length : Int) + x.2.2.1 ≤ (31 : Int) ∧ (x.2.1 = [] → n < 256 ^ (x.2.2.1 + 1).toNat)) (m := fun x => (x.2.2.1 + 1).toNat)
    (g := fun x => some ((x.2.1 ++ (if x.2.1 = [] then beB (bylen n) n else beB (x.2.2.1 + 1).toNat n), ()), ((), ()))) ?_
    ⟨rfl, by simp only; omega, by simp only; omega, by simp only [List.length_nil]; omega, fun _ => hn⟩ (by simp only [bigN_eq]; omega)) ?_
  · rintro ⟨l, o, i, _⟩ again ⟨h1, h2, h3, h4, h5⟩ hag
    simp only at h1 h2 h3 h4 h5 hag ⊢
    subst h1
    simp only [T_ref6_digits_loop0, letR_eq, brR_dec, brR_inR, ge_iff_le, append_def]
    by_cases hi : 0 ≤ i
    · obtain ⟨j, rfl⟩ := Int.eq_ofNat_of_zero_le hi
      have ej : ((j : Int) + 1).toNat = j + 1 := by omega
      rw [if_pos hi, tdiv_pos hi, tmod_pos hi, w_i64 (n := (j : Int) / 8) (by omega) (by omega), w_i64 (n := 8 * ((j : Int) % 8)) (by omega) (by omega), w_u64 (by omega) (by omega), if_pos (by omega), if_pos (by omega), brR_room8 (by omega), w_i64 (by omega) (by omega)]
      rw [show ((j : Int) / 8).toNat = j / 8 by omega, show (8 * ((j : Int) % 8)).toNat = 8 * (j % 8) by omega, byte_out hn (by omega)]
      have hb : beB (j + 1) n = ((n / 256 ^ j % 256 : Nat) : Int) :: beB j n := rfl
      rw [ej] at h5 ⊢
      have step : o.length > 0 ∨ n / 256 ^ j % 256 > 0 → again (lim n, (o ++ [((n / 256 ^ j % 256 : Nat) : Int)], ((j : Int) - 1, ()))) = some ((o ++ (if o = [] then beB (bylen n) n else beB (j + 1) n), ()), ((), ())) := by
        intro hc
        rw [hag _ ⟨rfl, by simp only; omega, by simp only; omega, by simp only [List.length_append, List.length_singleton]; omega, fun h => by simp at h⟩ (by simp only; omega)]
        simp only
        rw [if_neg (by simp), show ((j : Int) - 1 + 1).toNat = j by omega]
        by_cases ho : o = []
        · subst ho
          have h6 := h5 rfl
          have h7 : 256 ^ j ≤ n := by
            rcases Nat.lt_or_ge n (256 ^ j) with h | h
            · rw [Nat.div_eq_of_lt h] at hc; simp at hc
            · exact h
          rw [if_pos rfl, bylen_eq h6 h7, hb]; simp
        · rw [if_neg ho, hb]; simp
      by_cases c1 : (o.length : Int) > 0
      · rw [if_pos c1, step (.inl (by omega))]
      · rw [if_neg c1]
        have ho : o = [] := List.length_eq_zero_iff.1 (by omega)
        by_cases c2 : ((n / 256 ^ j % 256 : Nat) : Int) > 0
        · rw [if_pos c2, step (.inr (by omega))]
        · rw [if_neg c2]
          have h6 := h5 ho
          have hlt : n / 256 ^ j < 256 := by
            rw [Nat.div_lt_iff_lt_mul (Nat.pow_pos (by omega)), Nat.mul_comm, ← Nat.pow_succ]; exact h6
          have h7 : n < 256 ^ j := by
            rw [Nat.mod_eq_of_lt hlt] at c2
            have : n / 256 ^ j = 0 := by generalize n / 256 ^ j = q at *; omega
            exact (Nat.div_eq_zero_iff.1 this).resolve_left (by have := Nat.pow_pos (a := 256) (n := j) (by omega); omega)
          rw [hag _ ⟨rfl, by simp only; omega, by simp only; omega, by simp only; omega, fun _ => by simp only; rw [show ((j : Int) - 1 + 1).toNat = j by omega]; exact h7⟩ (by simp only; omega)]
          simp [ho]
    · have : i = -1 := by omega
      subst this
      rw [if_neg hi]
      by_cases ho : o = []
      · have h6 : n < 1 := h5 ho
        have : n = 0 := by omega
        subst this
        simp [bylen_zero, beB]
      · simp [ho, beB]
  · simp
theorem rAppendUint256_eq {b : List Int} (hb : b.length ≤ 1000000000) {n : Nat} (hn : n < 115792089237316195423570985008687907853269984665640564039457584007913129639936) :
    sol_ref6_AppendUint256 (b, (lim n, ())) = some ((b ++ enc n, ()), ((), ((), ()))) := by
  unfold sol_ref6_AppendUint256 T_ref6_AppendUint256 enc
  have h2 := bylen_256 hn
  rw [digits_eq hn]
  simp only [bind_some', letR_eq, append_def]
  rw [len_beB, w_u8 (by omega) (by omega), brR_room8 (by omega), brR_room8 (by omega), brR_room8 (by simp; omega)]
  simp
theorem rAppendUint64_eq {b : List Int} (hb : b.length ≤ 1000000000) {n : Int} (h0 : 0 ≤ n) (h1 : n ≤ 18446744073709551615) :
    sol_ref6_AppendUint64 (b, (n, ())) = some ((b ++ enc n.toNat, ()), ((), ((), ()))) := by
  unfold sol_ref6_AppendUint64 T_ref6_AppendUint64
  simp only
  rw [lim_small h0 h1, rAppendUint256_eq hb (by omega)]
  rfl
theorem rAppendBytes_eq {b x : List Int} (hb : b.length ≤ 100000000) (hx : x.length ≤ 100000000) :
    sol_ref6_AppendBytes (b, (x, ())) = some ((b ++ (enc x.length ++ x), ()), ((), ((), ()))) := by
  unfold sol_ref6_AppendBytes T_ref6_AppendBytes
  have h2 := @bylen_64 x.length (by omega)
  simp only [letR_eq]
  rw [w_u64 (n := ((x.length : Nat) : Int)) (by omega) (by omega), rAppendUint64_eq (by omega) (by omega) (by omega)]
  simp only [bind_some', Int.toNat_natCast]
  rw [brR_room8 (by simp [len_enc]; omega)]
  simp [append_def]
end Go.Pon
set_option autoImplicit false
set_option linter.unusedVariables false
set_option linter.unusedSimpArgs false
namespace Go.Pon
open Go
theorem foldl_beV (l : List Int) : ∀ v : Nat, l.foldl (fun v x => v * 256 + x.toNat) v = v * 256 ^ l.length + beV l := by
  refine snoc_ind (motive := fun l => ∀ v : Nat, l.foldl (fun v x => v * 256 + x.toNat) v = v * 256 ^ l.length + beV l) l ?_ ?_
  · intro v; simp [beV]
  · intro l x ih v
    rw [List.foldl_append, ih, beV_append]
    simp only [List.foldl_cons, List.foldl_nil, List.length_append, List.length_singleton, Nat.pow_succ]
    rw [Nat.add_mul, Nat.mul_assoc]; omega
theorem beV_cons (x : Int) (l : List Int) : beV (x :: l) = x.toNat * 256 ^ l.length + beV l := by
  rw [beV, List.foldl_cons, foldl_beV]; simp
theorem beV_beB : ∀ k n, beV (beB k n) = n % 256 ^ k
  | 0, n => by simp [beB, beV_nil, Nat.mod_one]
  | k + 1, n => by
    rw [beB, beV_cons, beV_beB k n, len_beB, Int.toNat_natCast, Nat.pow_succ, Nat.mod_mul, Nat.mul_comm]; omega
theorem beB_head {n : Nat} (h : 0 < bylen n) : (beB (bylen n) n).getD 0 1 ≠ 0 := by
  obtain ⟨k, hk⟩ : ∃ k, bylen n = k + 1 := ⟨bylen n - 1, by omega⟩
  rw [hk, beB, List.getD_cons_zero]
  have h1 : n < 256 ^ (k + 1) := bylen_le.1 (by omega)
  have h2 : 256 ^ k ≤ n := by
    rcases Nat.lt_or_ge n (256 ^ k) with hh | hh
    · have := bylen_le.2 hh; omega
    · exact hh
  have hp : 0 < 256 ^ k := Nat.pow_pos (by omega)
  have h3 : n / 256 ^ k < 256 := by rw [Nat.div_lt_iff_lt_mul hp, Nat.mul_comm, ← Nat.pow_succ]; exact h1
  have h4 : 1 ≤ n / 256 ^ k := (Nat.le_div_iff_mul_le hp).2 (by omega)
  rw [Nat.mod_eq_of_lt h3]
  generalize n / 256 ^ k = q at *
  omega
theorem bytes_enc {n : Nat} (h : bylen n ≤ 255) : Bytes (enc n) := by
  intro x hx
  rcases List.mem_cons.1 hx with rfl | hx
  · omega
  · exact beB_byte x hx
theorem rdU_enc {a z : List Int} {n most : Nat} (hn : n < 256 ^ most) (hm : most ≤ 32) : rdU (a ++ (enc n ++ z)) a.length most = some (n, a.length + 1 + bylen n) := by
  have hk := bylen_le.2 hn
  unfold rdU
  rw [List.drop_left' rfl, enc, List.cons_append]
  simp only [Int.toNat_natCast, List.length_append, len_beB]
  rw [if_neg, List.take_append_of_le_length (by rw [len_beB]; omega), List.take_of_length_le (by rw [len_beB]; omega), beV_beB, Nat.mod_eq_of_lt (bylen_le.1 (Nat.le_refl _))]
  rintro (h | h | ⟨h1, h2⟩)
  · omega
  · omega
  · have := beB_head h1
    rw [List.getD_eq_getElem?_getD, List.getElem?_append_left (by rw [len_beB]; omega), ← List.getD_eq_getElem?_getD] at h2
    have e : (beB (bylen n) n).getD 0 1 = (beB (bylen n) n).getD 0 0 := by
      have : 0 < (beB (bylen n) n).length := by rw [len_beB]; exact h1
      rw [List.getD_eq_getElem?_getD, List.getD_eq_getElem?_getD, List.getElem?_eq_getElem this]; rfl
    omega
end Go.Pon
set_option autoImplicit false
set_option linter.unusedVariables false
set_option linter.unusedSimpArgs false
namespace Go.Pon
open Go
theorem mod_eq {x n : Int} (h0 : -9223372036854775808 ≤ x) (h1 : x ≤ 9223372036854775807) (h2 : 1 ≤ n) (h3 : n ≤ 9223372036854775807) :
    sol_law0_Mod (x, (n, ())) = some ((((x % 18446744073709551616) % n, ()), ((), ((), ())))) := by
  unfold sol_law0_Mod T_law0_Mod
  simp only [letR_eq, brR_dec]
  rw [w_u64 (n := n) (by omega) (by omega), if_pos (by omega), IntKind.wrap_u64, tmod_pos (by omega), w_i64]
  · have := Int.emod_nonneg (x % 18446744073709551616) (b := n) (by omega); omega
  · have := Int.emod_lt_of_pos (x % 18446744073709551616) (b := n) (by omega); omega
end Go.Pon
set_option autoImplicit false
namespace Go.Pon
open Go
def U64 (n : Int) : Prop := 0 ≤ n ∧ n ≤ 18446744073709551615
def B256 (n : Nat) : Prop := n < 115792089237316195423570985008687907853269984665640564039457584007913129639936
end Go.Pon
set_option autoImplicit false
set_option linter.unusedVariables false
set_option linter.unusedSimpArgs false
namespace Go.Pon
open Go
abbrev RdT := List Int × (Int × (Bool × Unit))
def RS (b : List Int) (st : Option Nat) (s : RdT) : Prop :=
  match st with
  | some i => s = (b, ((i : Int), (false, ()))) ∧ i ≤ b.length
  | none => ∃ a : Int, s = (b, (a, (true, ()))) ∧ 0 ≤ a ∧ a ≤ 2000000000
def stU (b : List Int) (most : Nat) (st : Option Nat) : Option Nat := st.bind fun i => (rdU b i most).map (·.2)
def rdB (b : List Int) (i : Nat) : Option (List Int × Nat) :=
  match rdU b i 8 with
  | none => none
  | some (n, j) => if b.length - j < n then none else some ((b.drop j).take n, j + n)
def stB (b : List Int) (st : Option Nat) : Option Nat := st.bind fun i => (rdB b i).map (·.2)
theorem rdB_le {b : List Int} (hb : Bytes b) {i j : Nat} {d : List Int} (h : rdB b i = some (d, j)) : i < j ∧ j ≤ b.length ∧ Bytes d ∧ d.length ≤ b.length := by
  unfold rdB at h
  cases hr : rdU b i 8 with
  | none => rw [hr] at h; cases h
  | some p =>
    obtain ⟨n, k⟩ := p
    rw [hr] at h
    simp only at h
    obtain ⟨r1, r2, r3, _⟩ := rdU_le hr hb
    split at h
    · cases h
    · cases h
      exact ⟨by omega, by omega, (hb.drop _).take _, by rw [List.length_take, List.length_drop]; omega⟩
theorem readB_at {b : List Int} {i : Nat} (hi : i ≤ b.length) : readB b (i : Int) = match rdB b i with
    | none => (([] : List Int), ((0 : Int), ((3 : Int), ())))
    | some (d, j) => (d, ((j : Int), (0, ()))) := by
  unfold readB rdB
  rw [if_neg (by omega), Int.toNat_natCast]
  cases rdU b i 8 with
  | none => rfl
  | some p =>
    obtain ⟨n, j⟩ := p
    simp only
    by_cases hc : b.length - j < n
    · rw [if_pos hc, if_pos hc]
    · rw [if_neg hc, if_neg hc]
section
variable {b : List Int} (hb : Bytes b) (hl : b.length ≤ 1000000000)
include hb hl
theorem wU64_step {st : Option Nat} {s : RdT} (h : RS b st s) : ∃ v s', sol_wirereader_Reader_Uint64 (s, ()) = some ((v, ()), (s', ())) ∧ RS b (stU b 8 st) s' ∧
    ∀ i x j, st = some i → rdU b i 8 = some (x, j) → v = (x : Int) := by
  unfold sol_wirereader_Reader_Uint64 T_wirereader_Reader_Uint64 sol_wirereader_Reader_advance T_wirereader_Reader_advance
  cases st with
  | none =>
    obtain ⟨a, rfl, a0, a1⟩ := h
    simp only
    rw [readUint64_eq hb hl (by omega) (by omega)]
    exact ⟨_, _, rfl, ⟨a, rfl, a0, a1⟩, fun i x j h => by cases h⟩
  | some i =>
    obtain ⟨rfl, hi⟩ := h
    simp only
    rw [readUint64_eq hb hl (by omega) (by omega)]
    unfold readR
    rw [if_neg (by omega), Int.toNat_natCast]
    cases hr : rdU b i 8 with
    | none =>
      refine ⟨0, (b, ((i : Int), (true, ()))), rfl, ?_, fun i' x j h => by cases h; rw [hr]; intro h; cases h⟩
      show RS b ((rdU b i 8).map (·.2)) _
      rw [hr]
      exact ⟨_, rfl, by omega, by omega⟩
    | some p =>
      obtain ⟨v, j⟩ := p
      obtain ⟨r1, r2, r3, _⟩ := rdU_le hr hb
      refine ⟨((val4 (lim v) : Nat) : Int), (b, ((j : Int), (false, ()))), rfl, ?_, fun i' x j' h => by cases h; rw [hr]; intro h; cases h; rw [val4_lim]⟩
      show RS b ((rdU b i 8).map (·.2)) _
      rw [hr]
      exact ⟨rfl, r2⟩
theorem wU256_step {st : Option Nat} {s : RdT} (h : RS b st s) : ∃ v s', sol_wirereader_Reader_Uint256 (s, ()) = some ((v, ()), (s', ())) ∧ RS b (stU b 32 st) s' ∧
    ∀ i x j, st = some i → rdU b i 32 = some (x, j) → v = lim x := by
  unfold sol_wirereader_Reader_Uint256 T_wirereader_Reader_Uint256 sol_wirereader_Reader_advance T_wirereader_Reader_advance
  cases st with
  | none =>
    obtain ⟨a, rfl, a0, a1⟩ := h
    simp only
    rw [readUint256_eq hb hl (by omega) (by omega)]
    exact ⟨_, _, rfl, ⟨a, rfl, a0, a1⟩, fun i x j h => by cases h⟩
  | some i =>
    obtain ⟨rfl, hi⟩ := h
    simp only
    rw [readUint256_eq hb hl (by omega) (by omega)]
    unfold readR
    rw [if_neg (by omega), Int.toNat_natCast]
    cases hr : rdU b i 32 with
    | none =>
      refine ⟨_, (b, ((i : Int), (true, ()))), rfl, ?_, fun i' x j h => by cases h; rw [hr]; intro h; cases h⟩
      show RS b ((rdU b i 32).map (·.2)) _
      rw [hr]
      exact ⟨_, rfl, by omega, by omega⟩
    | some p =>
      obtain ⟨v, j⟩ := p
      obtain ⟨r1, r2, r3, _⟩ := rdU_le hr hb
      refine ⟨lim v, (b, ((j : Int), (false, ()))), rfl, ?_, fun i' x j' h => by cases h; rw [hr]; intro h; cases h; rfl⟩
      show RS b ((rdU b i 32).map (·.2)) _
      rw [hr]
      exact ⟨rfl, r2⟩
theorem wBytes_step {st : Option Nat} {s : RdT} (h : RS b st s) : ∃ v s', sol_wirereader_Reader_Bytes (s, ()) = some ((v, ()), (s', ())) ∧ RS b (stB b st) s' ∧
    ∀ i x j, st = some i → rdB b i = some (x, j) → v = x := by
  unfold sol_wirereader_Reader_Bytes T_wirereader_Reader_Bytes sol_wirereader_Reader_advance T_wirereader_Reader_advance
  cases st with
  | none =>
    obtain ⟨a, rfl, a0, a1⟩ := h
    simp only
    rw [readBytes_eq hb hl (by omega) (by omega)]
    exact ⟨_, _, rfl, ⟨a, rfl, a0, a1⟩, fun i x j h => by cases h⟩
  | some i =>
    obtain ⟨rfl, hi⟩ := h
    simp only
    rw [readBytes_eq hb hl (by omega) (by omega)]
    rw [readB_at hi]
    cases k1 : rdB b i with
    | none =>
      refine ⟨_, (b, ((i : Int), (true, ()))), rfl, ?_, fun i' x j h => by cases h; rw [k1]; intro h; cases h⟩
      show RS b ((rdB b i).map (·.2)) _
      rw [k1]
      exact ⟨_, rfl, by omega, by omega⟩
    | some p =>
      obtain ⟨d, j⟩ := p
      obtain ⟨r1, r2, r3, _⟩ := rdB_le hb k1
      refine ⟨d, (b, ((j : Int), (false, ()))), rfl, ?_, fun i' x j' h => by cases h; rw [k1]; intro h; cases h; rfl⟩
      show RS b ((rdB b i).map (·.2)) _
      rw [k1]
      exact ⟨rfl, r2⟩
end
theorem wDone_step {b : List Int} {st : Option Nat} {s : RdT} (h : RS b st s) : sol_wirereader_Reader_Done (s, ()) = some ((decide (st = some b.length), ()), (s, ())) := by
  unfold sol_wirereader_Reader_Done T_wirereader_Reader_Done
  cases st with
  | none =>
    obtain ⟨a, rfl, a0, a1⟩ := h
    simp only [Bool.not_true, brR_false]
    rfl
  | some i =>
    obtain ⟨rfl, hi⟩ := h
    simp only [Bool.not_false, brR_true]
    rw [show decide ((i : Int) = (b.length : Int)) = decide (some i = some b.length) from by rw [decide_eq_decide]; simp only [Option.some.injEq]; omega]
section
variable {b : List Int} (hb : Bytes b) (hl : b.length ≤ 1000000000)
include hb hl
end
abbrev TxT := Int × (Int × (Int × (List Int × (Int × (List Int × (List Int × (Int × (List Int × Unit))))))))
def rawTx (b : List Int) (i : Nat) : Option (TxT × Nat) :=
  (rdU b i 8).bind fun p1 => (rdU b p1.2 8).bind fun p2 => (rdU b p2.2 8).bind fun p3 => (rdU b p3.2 32).bind fun p4 => (rdU b p4.2 8).bind fun p5 =>
    (rdU b p5.2 32).bind fun p6 => (rdU b p6.2 32).bind fun p7 => (rdU b p7.2 8).bind fun p8 => (rdB b p8.2).bind fun p9 =>
      some (((p1.1 : Int), ((p2.1 : Int), ((p3.1 : Int), (lim p4.1, ((p5.1 : Int), (lim p6.1, (lim p7.1, ((p8.1 : Int), (p9.1, ()))))))))), p9.2)
def zeroTx : TxT := ((0 : Int), ((0 : Int), ((0 : Int), ([(0 : Int), (0 : Int), (0 : Int), (0 : Int)], ((0 : Int), ([(0 : Int), (0 : Int), (0 : Int), (0 : Int)], ([(0 : Int), (0 : Int), (0 : Int), (0 : Int)], ((0 : Int), ([], ())))))))))
def decTx (b : List Int) : TxT × (Int × Unit) :=
  match rawTx b 0 with
  | none => (zeroTx, (3, ()))
  | some (t, j) => if j = b.length then if t.2.2.2.2.2.2.2.2.1.length ≤ 4096 then (t, (0, ())) else (zeroTx, (3, ())) else (zeroTx, (3, ()))
theorem raw_st (b : List Int) (i : Nat) : (rawTx b i).map (·.2) = stB b (stU b 8 (stU b 32 (stU b 32 (stU b 8 (stU b 32 (stU b 8 (stU b 8 (stU b 8 (some i))))))))) := by
  unfold rawTx stB stU
  simp only [Option.bind_some, Option.map_bind, Function.comp_def, Option.bind_map, Option.bind_assoc, Option.map_some, Option.map_eq_bind]
theorem raw_get {b : List Int} {i j : Nat} {t : TxT} (h : rawTx b i = some (t, j)) : ∃ x1 j1 x2 j2 x3 j3 x4 j4 x5 j5 x6 j6 x7 j7 x8 j8 d, rdU b i 8 = some (x1, j1) ∧ rdU b j1 8 = some (x2, j2) ∧ rdU b j2 8 = some (x3, j3) ∧ rdU b j3 32 = some (x4, j4) ∧
    rdU b j4 8 = some (x5, j5) ∧ rdU b j5 32 = some (x6, j6) ∧ rdU b j6 32 = some (x7, j7) ∧ rdU b j7 8 = some (x8, j8) ∧ rdB b j8 = some (d, j) ∧
    t = ((x1 : Int), ((x2 : Int), ((x3 : Int), (lim x4, ((x5 : Int), (lim x6, (lim x7, ((x8 : Int), (d, ()))))))))) := by
  unfold rawTx at h
  simp only [Option.bind_eq_some_iff] at h
  obtain ⟨⟨x1, j1⟩, q1, ⟨x2, j2⟩, q2, ⟨x3, j3⟩, q3, ⟨x4, j4⟩, q4, ⟨x5, j5⟩, q5, ⟨x6, j6⟩, q6, ⟨x7, j7⟩, q7, ⟨x8, j8⟩, q8, ⟨d, j9⟩, q9, e⟩ := h
  cases e
  exact ⟨x1, j1, x2, j2, x3, j3, x4, j4, x5, j5, x6, j6, x7, j7, x8, j8, d, q1, q2, q3, q4, q5, q6, q7, q8, q9, rfl⟩
theorem stU_at {b : List Int} {most i x j : Nat} (h : rdU b i most = some (x, j)) : stU b most (some i) = some j := by
  show (rdU b i most).map _ = _
  rw [h]; rfl
theorem dec_fin {b : List Int} {v1 v2 v3 v5 v8 : Int} {v4 v6 v7 v9 : List Int}
    (k1 : ∀ i x j, some 0 = some i → rdU b i 8 = some (x, j) → v1 = (x : Int))
    (k2 : ∀ i x j, stU b 8 (some 0) = some i → rdU b i 8 = some (x, j) → v2 = (x : Int))
    (k3 : ∀ i x j, stU b 8 (stU b 8 (some 0)) = some i → rdU b i 8 = some (x, j) → v3 = (x : Int))
    (k4 : ∀ i x j, stU b 8 (stU b 8 (stU b 8 (some 0))) = some i → rdU b i 32 = some (x, j) → v4 = lim x)
    (k5 : ∀ i x j, stU b 32 (stU b 8 (stU b 8 (stU b 8 (some 0)))) = some i → rdU b i 8 = some (x, j) → v5 = (x : Int))
    (k6 : ∀ i x j, stU b 8 (stU b 32 (stU b 8 (stU b 8 (stU b 8 (some 0))))) = some i → rdU b i 32 = some (x, j) → v6 = lim x)
    (k7 : ∀ i x j, stU b 32 (stU b 8 (stU b 32 (stU b 8 (stU b 8 (stU b 8 (some 0)))))) = some i → rdU b i 32 = some (x, j) → v7 = lim x)
    (k8 : ∀ i x j, stU b 32 (stU b 32 (stU b 8 (stU b 32 (stU b 8 (stU b 8 (stU b 8 (some 0))))))) = some i → rdU b i 8 = some (x, j) → v8 = (x : Int))
    (k9 : ∀ i x j, stU b 8 (stU b 32 (stU b 32 (stU b 8 (stU b 32 (stU b 8 (stU b 8 (stU b 8 (some 0)))))))) = some i → rdB b i = some (x, j) → v9 = x) :
    brR (!(decide (stB b (stU b 8 (stU b 32 (stU b 32 (stU b 8 (stU b 32 (stU b 8 (stU b 8 (stU b 8 (some 0))))))))) = some b.length)))
      (some ((zeroTx, ((3 : Int), ())), ((), ())))
      (brR (decide (((v9.length : Nat) : Int) > 4096)) (some ((zeroTx, ((3 : Int), ())), ((), ())))
        (some (((v1, (v2, (v3, (v4, (v5, (v6, (v7, (v8, (v9, ()))))))))), ((0 : Int), ())), ((), ())))) = some (decTx b, ((), ())) := by
  rw [← raw_st]
  simp only [brR_not, brR_dec]
  unfold decTx
  cases hr : rawTx b 0 with
  | none => rw [if_neg (by simp)]
  | some p =>
    obtain ⟨t, j⟩ := p
    obtain ⟨x1, j1, x2, j2, x3, j3, x4, j4, x5, j5, x6, j6, x7, j7, x8, j8, d, q1, q2, q3, q4, q5, q6, q7, q8, q9, rfl⟩ := raw_get hr
    simp only [stU_at q1, stU_at q2, stU_at q3, stU_at q4, stU_at q5, stU_at q6, stU_at q7, stU_at q8] at k2 k3 k4 k5 k6 k7 k8 k9
    obtain rfl := k1 _ _ _ rfl q1
    obtain rfl := k2 _ _ _ rfl q2
    obtain rfl := k3 _ _ _ rfl q3
    obtain rfl := k4 _ _ _ rfl q4
    obtain rfl := k5 _ _ _ rfl q5
    obtain rfl := k6 _ _ _ rfl q6
    obtain rfl := k7 _ _ _ rfl q7
    obtain rfl := k8 _ _ _ rfl q8
    obtain rfl := k9 _ _ _ rfl q9
    simp only [Option.map_some, Option.some.injEq]
    by_cases hj : j = b.length
    · rw [if_pos hj, if_pos hj]
      by_cases hd : v9.length ≤ 4096
      · rw [if_neg (by omega), if_pos hd]
      · rw [if_pos (by omega), if_neg hd]
    · rw [if_neg hj, if_neg hj]
theorem txDecode_eq {b : List Int} (hb : Bytes b) (hl : b.length ≤ 1000000000) : sol_tx_Decode (b, ()) = some (decTx b, ((), ())) := by
  unfold sol_tx_Decode T_tx_Decode
  simp only
  rw [show sol_wirereader_New (b, ()) = some (((b, ((0 : Int), (false, ()))), ()), ((), ())) from rfl]
  simp only [bind_some']
  have h0 : RS b (some 0) (b, ((0 : Int), (false, ()))) := ⟨rfl, Nat.zero_le _⟩
  obtain ⟨v1, s1, e1, h1, k1⟩ := wU64_step hb hl h0
  rw [e1]; simp only [bind_some']
  obtain ⟨v2, s2, e2, h2, k2⟩ := wU64_step hb hl h1
  rw [show (s1.1, (s1.2.1, (s1.2.2.1, s1.2.2.2))) = s1 from rfl, e2]; simp only [bind_some']
  obtain ⟨v3, s3, e3, h3, k3⟩ := wU64_step hb hl h2
  rw [show (s2.1, (s2.2.1, (s2.2.2.1, s2.2.2.2))) = s2 from rfl, e3]; simp only [bind_some']
  obtain ⟨v4, s4, e4, h4, k4⟩ := wU256_step hb hl h3
  rw [show (s3.1, (s3.2.1, (s3.2.2.1, s3.2.2.2))) = s3 from rfl, e4]; simp only [bind_some']
  obtain ⟨v5, s5, e5, h5, k5⟩ := wU64_step hb hl h4
  rw [show (s4.1, (s4.2.1, (s4.2.2.1, s4.2.2.2))) = s4 from rfl, e5]; simp only [bind_some']
  obtain ⟨v6, s6, e6, h6, k6⟩ := wU256_step hb hl h5
  rw [show (s5.1, (s5.2.1, (s5.2.2.1, s5.2.2.2))) = s5 from rfl, e6]; simp only [bind_some']
  obtain ⟨v7, s7, e7, h7, k7⟩ := wU256_step hb hl h6
  rw [show (s6.1, (s6.2.1, (s6.2.2.1, s6.2.2.2))) = s6 from rfl, e7]; simp only [bind_some']
  obtain ⟨v8, s8, e8, h8, k8⟩ := wU64_step hb hl h7
  rw [show (s7.1, (s7.2.1, (s7.2.2.1, s7.2.2.2))) = s7 from rfl, e8]; simp only [bind_some']
  obtain ⟨v9, s9, e9, h9, k9⟩ := wBytes_step hb hl h8
  rw [show (s8.1, (s8.2.1, (s8.2.2.1, s8.2.2.2))) = s8 from rfl, e9]; simp only [bind_some']
  rw [show (s9.1, (s9.2.1, (s9.2.2.1, s9.2.2.2))) = s9 from rfl, wDone_step h9]; simp only [bind_some']
  exact dec_fin k1 k2 k3 k4 k5 k6 k7 k8 k9
def encTx (t : TxT) : List Int :=
  enc t.1.toNat ++ (enc t.2.1.toNat ++ (enc t.2.2.1.toNat ++ (enc (val4 t.2.2.2.1) ++ (enc t.2.2.2.2.1.toNat ++ (enc (val4 t.2.2.2.2.2.1) ++ (enc (val4 t.2.2.2.2.2.2.1) ++ (enc t.2.2.2.2.2.2.2.1.toNat ++ (enc t.2.2.2.2.2.2.2.2.1.length ++ t.2.2.2.2.2.2.2.2.1))))))))
inductive TxW : TxT → Prop
  | mk {a n o g e : Int} {v f p : Nat} {d : List Int} (ha : U64 a) (hn : U64 n) (ho : U64 o) (hv : B256 v) (hg : U64 g) (hf : B256 f) (hp : B256 p) (he : U64 e) (hd : Bytes d) :
    TxW (a, (n, (o, (lim v, (g, (lim f, (lim p, (e, (d, ())))))))))
def encodeR (t : TxT) : List Int × (Int × Unit) := if t.2.2.2.2.2.2.2.2.1.length ≤ 4096 then (encTx t, (0, ())) else ([], (6, ()))
theorem len_encTx {t : TxT} (h : TxW t) (hd : t.2.2.2.2.2.2.2.2.1.length ≤ 1000000) : 9 ≤ (encTx t).length ∧ (encTx t).length ≤ 1001000 := by
  obtain ⟨ha, hn, ho, hv, hg, hf, hp, he, hdb⟩ := h
  simp only at hd
  unfold encTx
  simp only [List.length_append, len_enc, val4_lim]
  unfold U64 B256 at *
  rename_i a n o g e v f p d
  have := @bylen_64 a.toNat (by omega); have := @bylen_64 n.toNat (by omega); have := @bylen_64 o.toNat (by omega); have := @bylen_64 g.toNat (by omega); have := @bylen_64 e.toNat (by omega); have := @bylen_64 d.length (by omega)
  have := bylen_256 hv; have := bylen_256 hf; have := bylen_256 hp
  omega
theorem txEncode_eq {t : TxT} (h : TxW t) : sol_tx_Encode (t, ()) = some (encodeR t, ((), ())) := by
  obtain ⟨ha, hn, ho, hv, hg, hf, hp, he, hdb⟩ := h
  rename_i a n o g e v f p d
  unfold U64 B256 at *
  have := @bylen_64 a.toNat (by omega); have := @bylen_64 n.toNat (by omega); have := @bylen_64 o.toNat (by omega); have := @bylen_64 g.toNat (by omega); have := @bylen_64 e.toNat (by omega)
  have := bylen_256 hv; have := bylen_256 hf; have := bylen_256 hp
  unfold sol_tx_Encode T_tx_Encode encodeR
  simp only [brR_dec]
  by_cases hc : d.length ≤ 4096
  · rw [if_neg (by omega), if_pos hc]
    have := @bylen_64 d.length (by omega)
    rw [appendUint64_eq (by simp) ha.1 ha.2]; simp only [bind_some']
    rw [appendUint64_eq (by simp [len_enc]; omega) hn.1 hn.2]; simp only [bind_some']
    rw [appendUint64_eq (by simp [len_enc]; omega) ho.1 ho.2]; simp only [bind_some']
    rw [appendUint256_eq (by simp [len_enc]; omega) hv]; simp only [bind_some']
    rw [appendUint64_eq (by simp [len_enc]; omega) hg.1 hg.2]; simp only [bind_some']
    rw [appendUint256_eq (by simp [len_enc]; omega) hf]; simp only [bind_some']
    rw [appendUint256_eq (by simp [len_enc]; omega) hp]; simp only [bind_some']
    rw [appendUint64_eq (by simp [len_enc]; omega) he.1 he.2]; simp only [bind_some']
    rw [appendBytes_eq (by simp [len_enc]; omega) (by omega)]; simp only [bind_some']
    simp only [encTx, val4_lim, List.nil_append, List.append_assoc]
  · rw [if_pos (by omega), if_neg hc]
end Go.Pon
set_option autoImplicit false
set_option linter.unusedVariables false
set_option linter.unusedSimpArgs false
namespace Go.Pon
open Go
theorem rdU_at {L a z : List Int} {n most i : Nat} (hn : n < 256 ^ most) (hm : most ≤ 32) (hL : L = a ++ (enc n ++ z)) (hi : i = a.length) : rdU L i most = some (n, (a ++ enc n).length) := by
  subst hL hi
  rw [rdU_enc hn hm]
  simp [len_enc]; omega
theorem rdB_at {L a z d : List Int} {i : Nat} (hd : d.length ≤ 1000000000) (hL : L = a ++ (enc d.length ++ (d ++ z))) (hi : i = a.length) : rdB L i = some (d, (a ++ (enc d.length ++ d)).length) := by
  unfold rdB
  rw [rdU_at (a := a) (z := d ++ z) (n := d.length) (by omega) (by omega) hL hi]
  simp only
  subst hL
  rw [if_neg (by simp; omega)]
  rw [← List.append_assoc, ← List.append_assoc, List.append_assoc (a ++ enc d.length), List.drop_left' rfl, List.take_left' rfl]
  simp; omega
theorem raw_enc {t : TxT} (h : TxW t) (hd : t.2.2.2.2.2.2.2.2.1.length ≤ 1000000000) (z : List Int) : rawTx (encTx t ++ z) 0 = some (t, (encTx t).length) := by
  obtain ⟨ha, hn, ho, hv, hg, hf, hp, he, hdb⟩ := h
  rename_i a n o g e v f p d
  unfold U64 B256 at *
  simp only at hd
  unfold encTx
  simp only [val4_lim]
  generalize hL : (enc a.toNat ++ (enc n.toNat ++ (enc o.toNat ++ (enc v ++ (enc g.toNat ++ (enc f ++ (enc p ++ (enc e.toNat ++ (enc d.length ++ d)))))))) ++ z) = L
  simp only [List.append_assoc] at hL
  have q1 := rdU_at (L := L) (a := []) (i := 0) (n := a.toNat) (most := 8) (by omega) (by omega) (by rw [← hL]; rfl) rfl
  have q2 := rdU_at (L := L) (a := [] ++ enc a.toNat) (n := n.toNat) (most := 8) (by omega) (by omega) (by rw [← hL]; simp only [List.append_assoc, List.nil_append]; rfl) rfl
  have q3 := rdU_at (L := L) (a := [] ++ enc a.toNat ++ enc n.toNat) (n := o.toNat) (most := 8) (by omega) (by omega) (by rw [← hL]; simp only [List.append_assoc, List.nil_append]; rfl) rfl
  have q4 := rdU_at (L := L) (a := [] ++ enc a.toNat ++ enc n.toNat ++ enc o.toNat) (n := v) (most := 32) (by omega) (by omega) (by rw [← hL]; simp only [List.append_assoc, List.nil_append]; rfl) rfl
  have q5 := rdU_at (L := L) (a := [] ++ enc a.toNat ++ enc n.toNat ++ enc o.toNat ++ enc v) (n := g.toNat) (most := 8) (by omega) (by omega) (by rw [← hL]; simp only [List.append_assoc, List.nil_append]; rfl) rfl
  have q6 := rdU_at (L := L) (a := [] ++ enc a.toNat ++ enc n.toNat ++ enc o.toNat ++ enc v ++ enc g.toNat) (n := f) (most := 32) (by omega) (by omega) (by rw [← hL]; simp only [List.append_assoc, List.nil_append]; rfl) rfl
  have q7 := rdU_at (L := L) (a := [] ++ enc a.toNat ++ enc n.toNat ++ enc o.toNat ++ enc v ++ enc g.toNat ++ enc f) (n := p) (most := 32) (by omega) (by omega) (by rw [← hL]; simp only [List.append_assoc, List.nil_append]; rfl) rfl
  have q8 := rdU_at (L := L) (a := [] ++ enc a.toNat ++ enc n.toNat ++ enc o.toNat ++ enc v ++ enc g.toNat ++ enc f ++ enc p) (n := e.toNat) (most := 8) (by omega) (by omega) (by rw [← hL]; simp only [List.append_assoc, List.nil_append]; rfl) rfl
  have q9 := rdB_at (L := L) (a := [] ++ enc a.toNat ++ enc n.toNat ++ enc o.toNat ++ enc v ++ enc g.toNat ++ enc f ++ enc p ++ enc e.toNat) (d := d) (z := z) hd (by rw [← hL]; simp only [List.append_assoc, List.nil_append]) rfl
  unfold rawTx
  rw [q1]; simp only [Option.bind_some]
  rw [q2]; simp only [Option.bind_some]
  rw [q3]; simp only [Option.bind_some]
  rw [q4]; simp only [Option.bind_some]
  rw [q5]; simp only [Option.bind_some]
  rw [q6]; simp only [Option.bind_some]
  rw [q7]; simp only [Option.bind_some]
  rw [q8]; simp only [Option.bind_some]
  rw [q9]; simp only [Option.bind_some]
  rw [Int.toNat_of_nonneg ha.1, Int.toNat_of_nonneg hn.1, Int.toNat_of_nonneg ho.1, Int.toNat_of_nonneg hg.1, Int.toNat_of_nonneg he.1]
  simp only [List.append_assoc, List.nil_append]
theorem enc_dec {t : TxT} (h : TxW t) (hd : t.2.2.2.2.2.2.2.2.1.length ≤ 4096) : decTx (encTx t) = (t, (0, ())) := by
  have := raw_enc h (by omega) []
  rw [List.append_nil] at this
  unfold decTx
  rw [this]
  simp only [if_true]
  rw [if_pos hd]
theorem bytes_encTx {t : TxT} (h : TxW t) (hd : t.2.2.2.2.2.2.2.2.1.length ≤ 1000000) : Bytes (encTx t) := by
  obtain ⟨ha, hn, ho, hv, hg, hf, hp, he, hdb⟩ := h
  rename_i a n o g e v f p d
  unfold U64 B256 at *
  simp only at hd
  have := @bylen_64 a.toNat (by omega); have := @bylen_64 n.toNat (by omega); have := @bylen_64 o.toNat (by omega); have := @bylen_64 g.toNat (by omega); have := @bylen_64 e.toNat (by omega); have := @bylen_64 d.length (by omega)
  have := bylen_256 hv; have := bylen_256 hf; have := bylen_256 hp
  unfold encTx
  simp only [val4_lim]
  exact (bytes_enc (by omega)).append ((bytes_enc (by omega)).append ((bytes_enc (by omega)).append ((bytes_enc (by omega)).append ((bytes_enc (by omega)).append ((bytes_enc (by omega)).append ((bytes_enc (by omega)).append ((bytes_enc (by omega)).append ((bytes_enc (by omega)).append hdb))))))))
open Classical in
noncomputable def eqTx (t u : TxT) : Bool := decide (t = u)
theorem eqTx_iff {t u : TxT} : eqTx t u = true ↔ t = u := by unfold eqTx; simp only [decide_eq_true_eq]
theorem eqTx_ne {t u : TxT} (h : ¬ t = u) : eqTx t u = false := by unfold eqTx; simp only [decide_eq_false_iff_not]; exact h
theorem eqTx_self (t : TxT) : eqTx t t = true := eqTx_iff.2 rfl
theorem rEqual_eq {t u : TxT} : sol_ref22_Equal (t, (u, ())) = some ((eqTx t u, ()), ((), ((), ()))) := by
  obtain ⟨a, n, o, v, g, f, p, e, d, _⟩ := t
  obtain ⟨a', n', o', v', g', f', p', e', d', _⟩ := u
  unfold sol_ref22_Equal T_ref22_Equal
  simp only [brR_dec, brR_eqD]
  by_cases h1 : a = a'
  case neg => rw [if_neg h1, eqTx_ne (by rintro ⟨⟩; exact h1 rfl)]
  by_cases h2 : n = n'
  case neg => rw [if_pos h1, if_neg h2, eqTx_ne (by rintro ⟨⟩; exact h2 rfl)]
  by_cases h3 : o = o'
  case neg => rw [if_pos h1, if_pos h2, if_neg h3, eqTx_ne (by rintro ⟨⟩; exact h3 rfl)]
  by_cases h4 : v = v'
  case neg => rw [if_pos h1, if_pos h2, if_pos h3, if_neg h4, eqTx_ne (by rintro ⟨⟩; exact h4 rfl)]
  by_cases h5 : g = g'
  case neg => rw [if_pos h1, if_pos h2, if_pos h3, if_pos h4, if_neg h5, eqTx_ne (by rintro ⟨⟩; exact h5 rfl)]
  by_cases h6 : f = f'
  case neg => rw [if_pos h1, if_pos h2, if_pos h3, if_pos h4, if_pos h5, if_neg h6, eqTx_ne (by rintro ⟨⟩; exact h6 rfl)]
  by_cases h7 : p = p'
  case neg => rw [if_pos h1, if_pos h2, if_pos h3, if_pos h4, if_pos h5, if_pos h6, if_neg h7, eqTx_ne (by rintro ⟨⟩; exact h7 rfl)]
  by_cases h8 : e = e'
  case neg => rw [if_pos h1, if_pos h2, if_pos h3, if_pos h4, if_pos h5, if_pos h6, if_pos h7, if_neg h8, eqTx_ne (by rintro ⟨⟩; exact h8 rfl)]
  rw [if_pos h1, if_pos h2, if_pos h3, if_pos h4, if_pos h5, if_pos h6, if_pos h7, if_pos h8]
  subst h1 h2 h3 h4 h5 h6 h7 h8
  have e0 : eqD Ty.str d d' = eqTx (a, (n, (o, (v, (g, (f, (p, (e, (d, ()))))))))) (a, (n, (o, (v, (g, (f, (p, (e, (d', ()))))))))) := by
    rw [Bool.eq_iff_iff, eqTx_iff, eqD_iff]
    constructor
    · intro h; rw [show d = d' from h]
    · rintro ⟨⟩; rfl
  rw [e0]
end Go.Pon
set_option autoImplicit false
set_option linter.unusedVariables false
set_option linter.unusedSimpArgs false
namespace Go.Pon
open Go
theorem lim0_eq : lim 0 = [(0 : Int), (0 : Int), (0 : Int), (0 : Int)] := rfl
theorem zeroTxW : TxW zeroTx := by
  have u0 : U64 0 := ⟨by omega, by omega⟩
  have b0 : B256 0 := by unfold B256; omega
  have := TxW.mk u0 u0 u0 b0 u0 b0 b0 u0 (d := []) (fun x hx => by cases hx)
  rw [lim0_eq] at this
  exact this
theorem awake22 : sol_law22_awake () = some ((true, ()), ()) := by
  unfold sol_law22_awake T_law22_awake
  rw [show (((0 : Int), ((0 : Int), ((0 : Int), ([(0 : Int), (0 : Int), (0 : Int), (0 : Int)], ((0 : Int), ([(0 : Int), (0 : Int), (0 : Int), (0 : Int)], ([(0 : Int), (0 : Int), (0 : Int), (0 : Int)], ((0 : Int), (([] : List Int), ()))))))))) : TxT) = zeroTx from rfl,
    txEncode_eq zeroTxW, txDecode_eq (by intro x hx; cases hx) (by simp)]
  have e1 : encodeR zeroTx = ([0, 0, 0, 0, 0, 0, 0, 0, 0], (0, ())) := by decide
  have e2 : (decTx []).2.1 = 3 := by decide
  simp only [bind_some', letR_eq, e1, e2]
  rfl
theorem modR22 {x : Int} {n : Nat} (h0 : -9223372036854775808 ≤ x ∧ x ≤ 9223372036854775807) (h2 : 1 ≤ n) (h3 : n ≤ 9223372036854775807) :
    ∃ r : Nat, r < n ∧ sol_law0_Mod (x, (((n : Nat) : Int), ())) = some ((((r : Nat) : Int), ()), ((), ((), ()))) := by
  rw [mod_eq h0.1 h0.2 (by omega) (by omega)]
  have hm0 : 0 ≤ (x % 18446744073709551616) % ((n : Nat) : Int) := Int.emod_nonneg _ (by omega)
  have hm1 : (x % 18446744073709551616) % ((n : Nat) : Int) < ((n : Nat) : Int) := Int.emod_lt_of_pos _ (by omega)
  obtain ⟨r, hr⟩ := Int.eq_ofNat_of_zero_le hm0
  exact ⟨r, by omega, by rw [hr]⟩
theorem bytes_set {b : List Int} (hb : Bytes b) {i : Nat} {c : Int} (hc : 0 ≤ c ∧ c ≤ 255) : Bytes (b.set i c) := fun y hy => by
  rcases List.mem_or_eq_of_mem_set hy with hh | rfl
  · exact hb y hh
  · exact hc
end Go.Pon
set_option autoImplicit false
namespace Go.Pon
open Go
theorem bigLoop_pred {ω δ : Type} {round : (δ → Option ω) → δ → Option ω} (I : δ → Prop) (m : δ → Nat) (P : Option ω → Prop)
    (h : ∀ x (again : δ → Option ω), I x → (∀ y, I y → m y < m x → P (again y)) → P (round again x)) {x : δ} (hx : I x) (hm : m x < bigN) : P (bigLoop ω δ round x) := by
  have key : ∀ n x, I x → m x < n → P (loopN round n x) := by
    intro n
    induction n with
    | zero => intro x _ hm; omega
    | succ n ih =>
      intro x hx hm
      rw [loopN_succ]
      exact h x _ hx fun y hy hlt => ih y hy (by omega)
  rw [bigLoop_def]
  exact key bigN x hx hm
end Go.Pon
set_option autoImplicit false
set_option linter.unusedVariables false
set_option linter.unusedSimpArgs false
namespace Go.Pon
open Go
abbrev mkT (d : List Int) : TxT := ((1 : Int), ((0 : Int), ((0 : Int), ([(0 : Int), (0 : Int), (0 : Int), (0 : Int)], ((0 : Int), ([(0 : Int), (0 : Int), (0 : Int), (0 : Int)], ([(0 : Int), (0 : Int), (0 : Int), (0 : Int)], ((0 : Int), (d, ())))))))))
theorem mkTW {d : List Int} (h : Bytes d) : TxW (mkT d) := by
  have u0 : U64 0 := ⟨by omega, by omega⟩
  have u1 : U64 1 := ⟨by omega, by omega⟩
  have b0 : B256 0 := by unfold B256; omega
  have := TxW.mk u1 u0 u0 b0 u0 b0 b0 u0 h
  rw [lim0_eq] at this
  exact this
theorem encTx_mkT (d : List Int) : encTx (mkT d) = [(1 : Int), (1 : Int), (0 : Int), (0 : Int), (0 : Int), (0 : Int), (0 : Int), (0 : Int), (0 : Int)] ++ (enc d.length ++ d) := by
  have e1 : enc (1 : Int).toNat = [1, 1] := by decide
  have e0 : enc (0 : Int).toNat = [0] := by decide
  have ev : enc (val4 [(0 : Int), (0 : Int), (0 : Int), (0 : Int)]) = [0] := by decide
  unfold encTx mkT
  dsimp only
  generalize enc d.length ++ d = z
  rw [e1, e0, ev]
  rfl
theorem dec_big {d : List Int} (h : Bytes d) (h1 : 4096 < d.length) (h2 : d.length ≤ 1000000) : decTx (encTx (mkT d)) = (zeroTx, (3, ())) := by
  have := raw_enc (mkTW h) (by show d.length ≤ 1000000000; omega) []
  rw [List.append_nil] at this
  unfold decTx
  rw [this]
  simp only [if_true]
  rw [if_neg (by show ¬ d.length ≤ 4096; omega)]
abbrev YT2 := (Bool × Unit) × (Unit × (Unit × Unit))
theorem law_TxDataLimit_at (c less : Int) (hc : 0 ≤ c ∧ c ≤ 255) (hl : -9223372036854775808 ≤ less ∧ less ≤ 9223372036854775807) : ∃ y, sol_law22_TxDataLimit (c, (less, ())) = some y ∧ y.1.1 = true := by
  unfold sol_law22_TxDataLimit T_law22_TxDataLimit
  simp only
  refine bigLoop_pred (I := fun x => ∃ (d : List Int) (i : Nat), d.length = 4096 ∧ Bytes d ∧ i ≤ 4096 ∧ x = (c, (less, (d, (((i : Nat) : Int), ()))))) (m := fun x => ((4096 : Int) - x.2.2.2.1).toNat) (P := fun r => ∃ w : YT2, r = some w ∧ w.1.1 = true) ?_
    ⟨List.replicate 4096 0, 0, List.length_replicate .., fun x hx => by rw [List.eq_of_mem_replicate hx]; omega, by omega, rfl⟩ (by simp only [bigN_eq]; omega)
  rintro x again ⟨d, i, hd, hb, hi, rfl⟩ hag
  simp only at hag ⊢
  unfold T_law22_TxDataLimit_loop0
  simp only [letR_eq]
  rw [Nat.sub_zero, hd, brR_dec]
  by_cases h : ((i : Nat) : Int) < ((4096 : Nat) : Int)
  · rw [if_pos h, brR_inR, if_pos (by omega), Nat.zero_add, Int.toNat_natCast, List.length_set, hd, decide_eq_true (show 0 < 4096 by omega), decide_eq_true rfl, Bool.and_true, brR_true, w_i64 (by omega) (by omega)]
    exact hag _ ⟨d.set i c, i + 1, by rw [List.length_set]; exact hd, bytes_set hb hc, by omega, by rw [Int.natCast_add]; rfl⟩ (by simp only; omega)
  rw [if_neg h]
  clear hag
  obtain ⟨r, hr, e1⟩ := modR22 hl (n := 5) (by omega) (by omega)
  have e1 : sol_law0_Mod (less, ((5 : Int), ())) = some ((((r : Nat) : Int), ()), ((), ((), ()))) := e1
  rw [e1, bind_some']
  dsimp only
  have hw : IntKind.wrap .i64 ((4096 : Int) - ((r : Nat) : Int)) = ((4096 - r : Nat) : Int) := by rw [w_i64 (by omega) (by omega)]; omega
  rw [hw, decide_eq_true (show (0 : Int) ≤ ((4096 - r : Nat) : Int) by omega), decide_eq_true (show ((4096 - r : Nat) : Int) ≤ ((4096 : Nat) : Int) by omega), Bool.and_true, brR_true, Int.toNat_natCast]
  have t1 : List.take (0 + (4096 - r) - (0 + 0)) (List.drop (0 + 0) d) = d.take (4096 - r) := by rw [show 0 + (4096 - r) - (0 + 0) = 4096 - r by omega]; rfl
  have t2 : List.take 4096 (List.drop 0 d) = d := List.take_of_length_le (by rw [List.length_drop]; omega)
  have t3 : List.append d [c] = d ++ [c] := rfl
  rw [t1, t2, t3]
  have hb1 : Bytes (d.take (4096 - r)) := hb.take _
  have hl1 : (d.take (4096 - r)).length ≤ 4096 := by rw [List.length_take]; omega
  have hb2 : Bytes (d ++ [c]) := Bytes.append hb (fun x hx => by rw [List.mem_singleton.1 hx]; exact hc)
  have hl2 : (d ++ [c]).length = 4097 := by rw [List.length_append, hd]; rfl
  generalize d.take (4096 - r) = p at *
  have henc : encodeR (mkT p) = (encTx (mkT p), (0, ())) := by unfold encodeR; rw [if_pos hl1]
  have hlp := len_encTx (mkTW hb1) (by simp only; omega)
  rw [txEncode_eq (mkTW hb1), henc, bind_some']
  dsimp only
  rw [txDecode_eq (bytes_encTx (mkTW hb1) (by simp only; omega)) (by omega), enc_dec (mkTW hb1) hl1, bind_some']
  dsimp only
  have hroom : (decide (0 < 1) && roomy (d.length + 1) (Ty.int IntKind.u8)) = true := by
    rw [hd, roomy_dec, Bool.and_eq_true, decide_eq_true_eq, decide_eq_true_eq]
    exact ⟨by omega, by decide, by simp only [Ty.size]; omega⟩
  rw [hroom, brR_true]
  generalize d ++ [c] = q at *
  have henc2 : encodeR (mkT q) = ([], (6, ())) := by unfold encodeR; rw [if_neg (by simp only; omega)]
  rw [txEncode_eq (mkTW hb2), henc2, bind_some']
  dsimp only
  have ee1 : enc (1 : Int).toNat = [1, 1] := by decide
  rw [rAppendUint64_eq (by simp) (by omega) (by omega), bind_some', ee1, List.nil_append]
  dsimp only
  rw [brR_true, rAppendBytes_eq (by simp) (by omega), bind_some']
  dsimp only
  have hdr : List.drop 2 ([(1 : Int), 1] ++ (enc q.length ++ q)) = enc q.length ++ q := rfl
  have hlen : ([(1 : Int), 1] ++ (enc q.length ++ q)).length = 2 + (enc q.length ++ q).length := by rw [List.length_append]; rfl
  have hz := encTx_mkT q
  have hlq := len_encTx (mkTW hb2) (by simp only; omega)
  have hle : (enc q.length ++ q).length ≤ 1001000 := by
    have := hlq.2
    rw [hz, List.length_append] at this
    omega
  have hdz := dec_big hb2 (by omega) (by omega)
  have hbz := bytes_encTx (mkTW hb2) (by simp only; omega)
  rw [hdr, hlen]
  have ht : List.take (2 + (enc q.length ++ q).length - 2) (enc q.length ++ q) = enc q.length ++ q := List.take_of_length_le (by omega)
  rw [ht, brR_dec, if_pos (by omega), brR_room8 (by omega)]
  have hap : List.append [(1 : Int), (1 : Int), (0 : Int), (0 : Int), (0 : Int), (0 : Int), (0 : Int), (0 : Int), (0 : Int)] (enc q.length ++ q) = encTx (mkT q) := by rw [hz]; rfl
  rw [hap, txDecode_eq hbz (by omega), hdz, bind_some']
  dsimp only
  rw [brR_dec, if_pos rfl, brR_dec, if_pos rfl, rEqual_eq, eqTx_self, bind_some']
  dsimp only
  rw [brR_true, brR_dec, if_pos rfl, brR_dec, if_pos rfl, awake22]
  exact ⟨_, rfl, rfl⟩
theorem law_TxDataLimit : ∀ x, wfL s_law22_TxDataLimit.ins x → ∃ y, sol_law22_TxDataLimit x = some y ∧ y.1.1 = true :=
  fun ⟨c, l, _⟩ ⟨hc, hl, _⟩ => law_TxDataLimit_at c l (inK_u8.1 hc) (inK_i64.1 hl)
end Go.Pon
