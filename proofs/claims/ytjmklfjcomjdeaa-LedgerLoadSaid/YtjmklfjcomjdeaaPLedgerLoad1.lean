/-
  Part of a proof: general lemmas, merged by a program of this work.
-/
import Derived.Test.YtjmklfjcomjdeaaF3
set_option autoImplicit false
set_option linter.unusedVariables false
set_option maxRecDepth 100000
namespace Go.Pon
open Go
abbrev s_cmp_isNaN_api_Address : Sig := ⟨[(.ro true (.int .u64))], [(.ro true .bool)]⟩
abbrev F_cmp_isNaN_api_Address := (Int × Unit) → Option ((Bool × Unit) × (Unit × Unit))
noncomputable def T_cmp_isNaN_api_Address (L : LoopD) (x_ : Int) : Option ((Bool × Unit) × (Unit × Unit)) := (some (((!(decide (x_ = x_))), ()), ((), ())))
noncomputable def sol_cmp_isNaN_api_Address : F_cmp_isNaN_api_Address := fun x => T_cmp_isNaN_api_Address bigLoop x.1
abbrev s_cmp_Compare_api_Address : Sig := ⟨[(.ro true (.int .u64)), (.ro true (.int .u64))], [(.ro true (.int .i64))]⟩
abbrev F_cmp_Compare_api_Address := (Int × (Int × Unit)) → Option ((Int × Unit) × (Unit × (Unit × Unit)))
noncomputable def T_cmp_Compare_api_Address (L : LoopD) (c_cmp_isNaN_api_Address : F_cmp_isNaN_api_Address) (x_ : Int) (y_ : Int) : Option ((Int × Unit) × (Unit × (Unit × Unit))) := (Option.bind (c_cmp_isNaN_api_Address (x_, ())) (fun (y_0 : ((Bool × Unit) × (Unit × Unit))) => (Option.bind (c_cmp_isNaN_api_Address (y_, ())) (fun (y_1 : ((Bool × Unit) × (Unit × Unit))) => (brR y_0.1.1 (brR y_1.1.1 (some (((0 : Int), ()), ((), ((), ())))) (some (((-1 : Int), ()), ((), ((), ()))))) (brR y_1.1.1 (some (((1 : Int), ()), ((), ((), ())))) (brR (decide (x_ < y_)) (some (((-1 : Int), ()), ((), ((), ())))) (brR (decide (x_ > y_)) (some (((1 : Int), ()), ((), ((), ())))) (some (((0 : Int), ()), ((), ((), ()))))))))))))
noncomputable def sol_cmp_Compare_api_Address : F_cmp_Compare_api_Address := fun x => T_cmp_Compare_api_Address bigLoop sol_cmp_isNaN_api_Address x.1 x.2.1
end Go.Pon
set_option autoImplicit false
set_option linter.unusedVariables false
set_option maxRecDepth 100000
namespace Go.Pon
open Go
abbrev s_law0_Mod : Sig := ⟨[(.ro true (.int .i64)), (.ro true (.int .i64))], [(.ro true (.int .i64))]⟩
abbrev F_law0_Mod := (Int × (Int × Unit)) → Option ((Int × Unit) × (Unit × (Unit × Unit)))
noncomputable def T_law0_Mod (L : LoopD) (x_ : Int) (n_ : Int) : Option ((Int × Unit) × (Unit × (Unit × Unit))) := (brR (decide ((IntKind.wrap (IntKind.u64) n_) ≠ (0 : Int))) (some (((IntKind.wrap (IntKind.i64) (Int.tmod (IntKind.wrap (IntKind.u64) x_) (IntKind.wrap (IntKind.u64) n_))), ()), ((), ((), ())))) none)
noncomputable def sol_law0_Mod : F_law0_Mod := fun x => T_law0_Mod bigLoop x.1 x.2.1
abbrev s_law0_EqualAccounts : Sig := ⟨[(.ro false (.slice (.pair (.int .u64) (.pair (.arr 4 (.int .u64)) (.pair (.int .u64) .unit))))), (.ro false (.slice (.pair (.int .u64) (.pair (.arr 4 (.int .u64)) (.pair (.int .u64) .unit)))))], [(.ro true .bool)]⟩
abbrev F_law0_EqualAccounts := ((List (Int × ((List Int) × (Int × Unit)))) × ((List (Int × ((List Int) × (Int × Unit)))) × Unit)) → Option ((Bool × Unit) × (Unit × (Unit × Unit)))
noncomputable def T_law0_EqualAccounts_loop0 (again_0 : ((List (Int × ((List Int) × (Int × Unit)))) × ((List (Int × ((List Int) × (Int × Unit)))) × (Int × Unit))) → Option ((Bool × Unit) × (Unit × (Unit × Unit)))) (a_1 : (List (Int × ((List Int) × (Int × Unit))))) (b_2 : (List (Int × ((List Int) × (Int × Unit))))) (i_3 : Int) : Option ((Bool × Unit) × (Unit × (Unit × Unit))) := (letR (List.length a_1) fun (v_4 : Nat) => (brR (decide (i_3 < ((v_4 : Nat) : Int))) (brR (inR i_3 v_4) (brR (inR i_3 (List.length b_2)) (brR (!(eqD ((Ty.int IntKind.u64).pair ((Ty.arr 4 (Ty.int IntKind.u64)).pair ((Ty.int IntKind.u64).pair Ty.unit))) (List.getD a_1 (Int.toNat i_3) ((0 : Int), ([(0 : Int), (0 : Int), (0 : Int), (0 : Int)], ((0 : Int), ())))) (List.getD b_2 (Int.toNat i_3) ((0 : Int), ([(0 : Int), (0 : Int), (0 : Int), (0 : Int)], ((0 : Int), ())))))) (some ((false, ()), ((), ((), ())))) (again_0 (a_1, (b_2, ((IntKind.wrap (IntKind.i64) (i_3 + (1 : Int))), ()))))) none) none) (some ((true, ()), ((), ((), ()))))))
noncomputable def T_law0_EqualAccounts (L : LoopD) (a_ : (List (Int × ((List Int) × (Int × Unit))))) (b_ : (List (Int × ((List Int) × (Int × Unit))))) : Option ((Bool × Unit) × (Unit × (Unit × Unit))) := (brR (!(decide ((((List.length a_) : Nat) : Int) = (((List.length b_) : Nat) : Int)))) (some ((false, ()), ((), ((), ())))) (L _ _ (fun again x => T_law0_EqualAccounts_loop0 again x.1 x.2.1 x.2.2.1) (a_, (b_, ((0 : Int), ())))))
noncomputable def sol_law0_EqualAccounts : F_law0_EqualAccounts := fun x => T_law0_EqualAccounts bigLoop x.1 x.2.1
end Go.Pon
set_option autoImplicit false
set_option linter.unusedVariables false
set_option maxRecDepth 100000
namespace Go.Pon
open Go
abbrev s_slices_Delete_api_Account_api_Account : Sig := ⟨[(.own false (.pair (.int .u64) (.pair (.arr 4 (.int .u64)) (.pair (.int .u64) .unit)))), (.ro true (.int .i64)), (.ro true (.int .i64))], [(.own false (.pair (.int .u64) (.pair (.arr 4 (.int .u64)) (.pair (.int .u64) .unit))))]⟩
abbrev F_slices_Delete_api_Account_api_Account := ((List (Int × ((List Int) × (Int × Unit)))) × (Int × (Int × (Unit)))) → Option (((List (Int × ((List Int) × (Int × Unit)))) × (Unit)) × (Unit × (Unit × (Unit × (Unit)))))
noncomputable def T_slices_Delete_api_Account_api_Account (L : LoopD) (s_ : (List (Int × ((List Int) × (Int × Unit))))) (i_ : Int) (j_ : Int) : Option (((List (Int × ((List Int) × (Int × Unit)))) × (Unit)) × (Unit × (Unit × (Unit × (Unit))))) := delF (.pair (.int .u64) (.pair (.arr 4 (.int .u64)) (.pair (.int .u64) .unit))) (s_, (i_, (j_, (()))))
noncomputable def sol_slices_Delete_api_Account_api_Account : F_slices_Delete_api_Account_api_Account := fun x => T_slices_Delete_api_Account_api_Account bigLoop x.1 x.2.1 x.2.2.1
abbrev s_slices_Insert_api_Account_api_Account : Sig := ⟨[(.own false (.pair (.int .u64) (.pair (.arr 4 (.int .u64)) (.pair (.int .u64) .unit)))), (.ro true (.int .i64)), (.own false (.pair (.int .u64) (.pair (.arr 4 (.int .u64)) (.pair (.int .u64) .unit))))], [(.own false (.pair (.int .u64) (.pair (.arr 4 (.int .u64)) (.pair (.int .u64) .unit))))]⟩
abbrev F_slices_Insert_api_Account_api_Account := ((List (Int × ((List Int) × (Int × Unit)))) × (Int × ((List (Int × ((List Int) × (Int × Unit)))) × (Unit)))) → Option (((List (Int × ((List Int) × (Int × Unit)))) × (Unit)) × (Unit × (Unit × (Unit × (Unit)))))
noncomputable def T_slices_Insert_api_Account_api_Account (L : LoopD) (s_ : (List (Int × ((List Int) × (Int × Unit))))) (i_ : Int) (v_ : (List (Int × ((List Int) × (Int × Unit))))) : Option (((List (Int × ((List Int) × (Int × Unit)))) × (Unit)) × (Unit × (Unit × (Unit × (Unit))))) := insF (.pair (.int .u64) (.pair (.arr 4 (.int .u64)) (.pair (.int .u64) .unit))) (s_, (i_, (v_, (()))))
noncomputable def sol_slices_Insert_api_Account_api_Account : F_slices_Insert_api_Account_api_Account := fun x => T_slices_Insert_api_Account_api_Account bigLoop x.1 x.2.1 x.2.2.1
abbrev s_slices_Clone_api_Account_api_Account : Sig := ⟨[(.ro false (.slice (.pair (.int .u64) (.pair (.arr 4 (.int .u64)) (.pair (.int .u64) .unit)))))], [(.own true (.pair (.int .u64) (.pair (.arr 4 (.int .u64)) (.pair (.int .u64) .unit))))]⟩
abbrev F_slices_Clone_api_Account_api_Account := ((List (Int × ((List Int) × (Int × Unit)))) × Unit) → Option (((List (Int × ((List Int) × (Int × Unit)))) × Unit) × (Unit × Unit))
noncomputable def T_slices_Clone_api_Account_api_Account (L : LoopD) (s_ : (List (Int × ((List Int) × (Int × Unit))))) : Option (((List (Int × ((List Int) × (Int × Unit)))) × Unit) × (Unit × Unit)) := (letR (List.length s_) fun (v_0 : Nat) => (brR (decide (v_0 = (0 : Nat))) (bothR (some ((([] : List (Int × ((List Int) × (Int × Unit)))), ()), ((), ()))) (brR (roomy ((0 : Nat) + v_0) ((Ty.int IntKind.u64).pair ((Ty.arr 4 (Ty.int IntKind.u64)).pair ((Ty.int IntKind.u64).pair Ty.unit)))) (some ((s_, ()), ((), ()))) none)) (brR (roomy ((0 : Nat) + v_0) ((Ty.int IntKind.u64).pair ((Ty.arr 4 (Ty.int IntKind.u64)).pair ((Ty.int IntKind.u64).pair Ty.unit)))) (some ((s_, ()), ((), ()))) none)))
noncomputable def sol_slices_Clone_api_Account_api_Account : F_slices_Clone_api_Account_api_Account := fun x => T_slices_Clone_api_Account_api_Account bigLoop x.1
end Go.Pon
set_option autoImplicit false
set_option linter.unusedVariables false
set_option maxRecDepth 100000
namespace Go.Pon
open Go
abbrev s_math_bits_Sub64 : Sig := ⟨[(.ro true (.int .u64)), (.ro true (.int .u64)), (.ro true (.int .u64))], [(.ro true (.int .u64)), (.ro true (.int .u64))]⟩
abbrev F_math_bits_Sub64 := (Int × (Int × (Int × (Unit)))) → Option ((Int × (Int × (Unit))) × (Unit × (Unit × (Unit × (Unit)))))
noncomputable def T_math_bits_Sub64 (L : LoopD) (x_ : Int) (y_ : Int) (c_ : Int) : Option ((Int × (Int × (Unit))) × (Unit × (Unit × (Unit × (Unit))))) := subC (x_, (y_, (c_, (()))))
noncomputable def sol_math_bits_Sub64 : F_math_bits_Sub64 := fun x => T_math_bits_Sub64 bigLoop x.1 x.2.1 x.2.2.1
abbrev s_math_bits_Add64 : Sig := ⟨[(.ro true (.int .u64)), (.ro true (.int .u64)), (.ro true (.int .u64))], [(.ro true (.int .u64)), (.ro true (.int .u64))]⟩
abbrev F_math_bits_Add64 := (Int × (Int × (Int × (Unit)))) → Option ((Int × (Int × (Unit))) × (Unit × (Unit × (Unit × (Unit)))))
noncomputable def T_math_bits_Add64 (L : LoopD) (x_ : Int) (y_ : Int) (c_ : Int) : Option ((Int × (Int × (Unit))) × (Unit × (Unit × (Unit × (Unit))))) := addC (x_, (y_, (c_, (()))))
noncomputable def sol_math_bits_Add64 : F_math_bits_Add64 := fun x => T_math_bits_Add64 bigLoop x.1 x.2.1 x.2.2.1
end Go.Pon
set_option autoImplicit false
set_option linter.unusedVariables false
set_option maxRecDepth 100000
namespace Go.Pon
open Go
abbrev s_uint256_Sub : Sig := ⟨[(.ro true (.arr 4 (.int .u64))), (.ro true (.arr 4 (.int .u64)))], [(.ro true (.arr 4 (.int .u64))), (.ro true (.int .i64))]⟩
abbrev F_uint256_Sub := ((List Int) × ((List Int) × Unit)) → Option (((List Int) × (Int × Unit)) × (Unit × (Unit × Unit)))
noncomputable def T_uint256_Sub_loop0 (c_math_bits_Sub64 : F_math_bits_Sub64) (again_0 : ((List Int) × ((List Int) × ((List Int) × ((List Int) × (Int × (Int × Unit)))))) → Option (((List Int) × (Int × Unit)) × (Unit × (Unit × Unit)))) (a_1 : (List Int)) (b_2 : (List Int)) (t4_3 : (List Int)) (s_4 : (List Int)) (c_5 : Int) (t9_6 : Int) : Option (((List Int) × (Int × Unit)) × (Unit × (Unit × Unit))) := (brR (decide (t9_6 < (4 : Int))) (brR (inR t9_6 (4 : Nat)) (brR (inR t9_6 (4 : Nat)) (Option.bind (c_math_bits_Sub64 ((List.getD a_1 (Int.toNat t9_6) (0 : Int)), ((List.getD b_2 (Int.toNat t9_6) (0 : Int)), (c_5, ())))) (fun (y_7 : ((Int × (Int × Unit)) × (Unit × (Unit × (Unit × Unit))))) => (brR (inR t9_6 (4 : Nat)) (again_0 (a_1, (b_2, (t4_3, ((List.set s_4 (Int.toNat t9_6) y_7.1.1), (y_7.1.2.1, ((IntKind.wrap (IntKind.i64) (t9_6 + (1 : Int))), ()))))))) none))) none) none) (brR (!(decide (c_5 = (0 : Int)))) (some (([(0 : Int), (0 : Int), (0 : Int), (0 : Int)], ((4 : Int), ())), ((), ((), ())))) (some ((s_4, ((0 : Int), ())), ((), ((), ()))))))
noncomputable def T_uint256_Sub (L : LoopD) (c_math_bits_Sub64 : F_math_bits_Sub64) (a_ : (List Int)) (b_ : (List Int)) : Option (((List Int) × (Int × Unit)) × (Unit × (Unit × Unit))) := (L _ _ (fun again x => T_uint256_Sub_loop0 c_math_bits_Sub64 again x.1 x.2.1 x.2.2.1 x.2.2.2.1 x.2.2.2.2.1 x.2.2.2.2.2.1) (a_, (b_, ([(0 : Int), (0 : Int), (0 : Int), (0 : Int)], ([(0 : Int), (0 : Int), (0 : Int), (0 : Int)], ((0 : Int), ((0 : Int), ())))))))
noncomputable def sol_uint256_Sub : F_uint256_Sub := fun x => T_uint256_Sub bigLoop sol_math_bits_Sub64 x.1 x.2.1
abbrev s_uint256_Add : Sig := ⟨[(.ro true (.arr 4 (.int .u64))), (.ro true (.arr 4 (.int .u64)))], [(.ro true (.arr 4 (.int .u64))), (.ro true (.int .i64))]⟩
abbrev F_uint256_Add := ((List Int) × ((List Int) × Unit)) → Option (((List Int) × (Int × Unit)) × (Unit × (Unit × Unit)))
noncomputable def T_uint256_Add_loop0 (c_math_bits_Add64 : F_math_bits_Add64) (again_0 : ((List Int) × ((List Int) × ((List Int) × ((List Int) × (Int × (Int × Unit)))))) → Option (((List Int) × (Int × Unit)) × (Unit × (Unit × Unit)))) (a_1 : (List Int)) (b_2 : (List Int)) (t4_3 : (List Int)) (s_4 : (List Int)) (c_5 : Int) (t9_6 : Int) : Option (((List Int) × (Int × Unit)) × (Unit × (Unit × Unit))) := (brR (decide (t9_6 < (4 : Int))) (brR (inR t9_6 (4 : Nat)) (brR (inR t9_6 (4 : Nat)) (Option.bind (c_math_bits_Add64 ((List.getD a_1 (Int.toNat t9_6) (0 : Int)), ((List.getD b_2 (Int.toNat t9_6) (0 : Int)), (c_5, ())))) (fun (y_7 : ((Int × (Int × Unit)) × (Unit × (Unit × (Unit × Unit))))) => (brR (inR t9_6 (4 : Nat)) (again_0 (a_1, (b_2, (t4_3, ((List.set s_4 (Int.toNat t9_6) y_7.1.1), (y_7.1.2.1, ((IntKind.wrap (IntKind.i64) (t9_6 + (1 : Int))), ()))))))) none))) none) none) (brR (!(decide (c_5 = (0 : Int)))) (some (([(0 : Int), (0 : Int), (0 : Int), (0 : Int)], ((4 : Int), ())), ((), ((), ())))) (some ((s_4, ((0 : Int), ())), ((), ((), ()))))))
noncomputable def T_uint256_Add (L : LoopD) (c_math_bits_Add64 : F_math_bits_Add64) (a_ : (List Int)) (b_ : (List Int)) : Option (((List Int) × (Int × Unit)) × (Unit × (Unit × Unit))) := (L _ _ (fun again x => T_uint256_Add_loop0 c_math_bits_Add64 again x.1 x.2.1 x.2.2.1 x.2.2.2.1 x.2.2.2.2.1 x.2.2.2.2.2.1) (a_, (b_, ([(0 : Int), (0 : Int), (0 : Int), (0 : Int)], ([(0 : Int), (0 : Int), (0 : Int), (0 : Int)], ((0 : Int), ((0 : Int), ())))))))
noncomputable def sol_uint256_Add : F_uint256_Add := fun x => T_uint256_Add bigLoop sol_math_bits_Add64 x.1 x.2.1
abbrev s_uint256_maxValue : Sig := ⟨[], [(.ro true (.arr 4 (.int .u64)))]⟩
abbrev F_uint256_maxValue := Unit → Option (((List Int) × Unit) × Unit)
noncomputable def T_uint256_maxValue (L : LoopD) : Option (((List Int) × Unit) × Unit) := (some (([(18446744073709551615 : Int), (18446744073709551615 : Int), (18446744073709551615 : Int), (18446744073709551615 : Int)], ()), ()))
noncomputable def sol_uint256_maxValue : F_uint256_maxValue := fun x => T_uint256_maxValue bigLoop
abbrev s_uint256_SaturatingAdd : Sig := ⟨[(.ro true (.arr 4 (.int .u64))), (.ro true (.arr 4 (.int .u64)))], [(.ro true (.arr 4 (.int .u64)))]⟩
abbrev F_uint256_SaturatingAdd := ((List Int) × ((List Int) × Unit)) → Option (((List Int) × Unit) × (Unit × (Unit × Unit)))
noncomputable def T_uint256_SaturatingAdd (L : LoopD) (c_uint256_Add : F_uint256_Add) (c_uint256_maxValue : F_uint256_maxValue) (a_ : (List Int)) (b_ : (List Int)) : Option (((List Int) × Unit) × (Unit × (Unit × Unit))) := (Option.bind (c_uint256_Add (a_, (b_, ()))) (fun (y_0 : (((List Int) × (Int × Unit)) × (Unit × (Unit × Unit)))) => (brR (decide (y_0.1.2.1 = (0 : Int))) (some ((y_0.1.1, ()), ((), ((), ())))) (Option.bind (c_uint256_maxValue ()) (fun (y_1 : (((List Int) × Unit) × Unit)) => (some ((y_1.1.1, ()), ((), ((), ())))))))))
noncomputable def sol_uint256_SaturatingAdd : F_uint256_SaturatingAdd := fun x => T_uint256_SaturatingAdd bigLoop sol_uint256_Add sol_uint256_maxValue x.1 x.2.1
end Go.Pon
set_option autoImplicit false
set_option linter.unusedVariables false
set_option maxRecDepth 100000
namespace Go.Pon
open Go
abbrev s_ledger_New : Sig := ⟨[], [(.ptr (.pair (.own false (.pair (.int .u64) (.pair (.arr 4 (.int .u64)) (.pair (.int .u64) .unit)))) (.pair (.ro true (.arr 4 (.arr 4 (.int .u64)))) (.ro true .unit))))]⟩
abbrev F_ledger_New := Unit → Option ((((List (Int × ((List Int) × (Int × Unit)))) × ((List (List Int)) × Unit)) × Unit) × Unit)
noncomputable def T_ledger_New (L : LoopD) : Option ((((List (Int × ((List Int) × (Int × Unit)))) × ((List (List Int)) × Unit)) × Unit) × Unit) := (some (((([] : List (Int × ((List Int) × (Int × Unit)))), ([[(0 : Int), (0 : Int), (0 : Int), (0 : Int)], [(0 : Int), (0 : Int), (0 : Int), (0 : Int)], [(0 : Int), (0 : Int), (0 : Int), (0 : Int)], [(0 : Int), (0 : Int), (0 : Int), (0 : Int)]], ())), ()), ()))
noncomputable def sol_ledger_New : F_ledger_New := fun x => T_ledger_New bigLoop
abbrev s_ledger_Ledger_Supply : Sig := ⟨[(.optr (.pair (.own false (.pair (.int .u64) (.pair (.arr 4 (.int .u64)) (.pair (.int .u64) .unit)))) (.pair (.ro true (.arr 4 (.arr 4 (.int .u64)))) (.ro true .unit))))], [(.ro true (.arr 4 (.int .u64)))]⟩
abbrev F_ledger_Ledger_Supply := ((Option ((List (Int × ((List Int) × (Int × Unit)))) × ((List (List Int)) × Unit))) × Unit) → Option (((List Int) × Unit) × ((Option ((List (Int × ((List Int) × (Int × Unit)))) × ((List (List Int)) × Unit))) × Unit))
noncomputable def T_ledger_Ledger_Supply_loop1 (c_uint256_SaturatingAdd : F_uint256_SaturatingAdd) (again_8 : ((List Int) × ((List Int) × ((List (List Int)) × (Int × (((List (Int × ((List Int) × (Int × Unit)))) × ((List (List Int)) × Unit)) × Unit))))) → Option (((List Int) × Unit) × ((Option ((List (Int × ((List Int) × (Int × Unit)))) × ((List (List Int)) × Unit))) × Unit))) (t2_9 : (List Int)) (all_10 : (List Int)) (t28_11 : (List (List Int))) (t29_12 : Int) (l_13 : ((List (Int × ((List Int) × (Int × Unit)))) × ((List (List Int)) × Unit))) : Option (((List Int) × Unit) × ((Option ((List (Int × ((List Int) × (Int × Unit)))) × ((List (List Int)) × Unit))) × Unit)) := (brR (decide (t29_12 < (4 : Int))) (brR (inR t29_12 (4 : Nat)) (Option.bind (c_uint256_SaturatingAdd (all_10, ((List.getD t28_11 (Int.toNat t29_12) [(0 : Int), (0 : Int), (0 : Int), (0 : Int)]), ()))) (fun (y_14 : (((List Int) × Unit) × (Unit × (Unit × Unit)))) => (again_8 (t2_9, (y_14.1.1, (t28_11, ((IntKind.wrap (IntKind.i64) (t29_12 + (1 : Int))), ((l_13.1, (l_13.2.1, l_13.2.2)), ())))))))) none) (some ((all_10, ()), ((some (l_13.1, (l_13.2.1, l_13.2.2))), ()))))
noncomputable def T_ledger_Ledger_Supply_loop0 (L : LoopD) (c_uint256_SaturatingAdd : F_uint256_SaturatingAdd) (again_1 : (((List (Int × ((List Int) × (Int × Unit)))) × ((List (List Int)) × Unit)) × ((List Int) × ((List Int) × (Int × (Int × Unit))))) → Option (((List Int) × Unit) × ((Option ((List (Int × ((List Int) × (Int × Unit)))) × ((List (List Int)) × Unit))) × Unit))) (l_2 : ((List (Int × ((List Int) × (Int × Unit)))) × ((List (List Int)) × Unit))) (t2_3 : (List Int)) (all_4 : (List Int)) (t15_5 : Int) (t16_6 : Int) : Option (((List Int) × Unit) × ((Option ((List (Int × ((List Int) × (Int × Unit)))) × ((List (List Int)) × Unit))) × Unit)) := (brR (decide (t16_6 < t15_5)) (brR (inR t16_6 (List.length l_2.1)) (Option.bind (c_uint256_SaturatingAdd (all_4, ((List.getD l_2.1 (Int.toNat t16_6) (Ty.zero ((Ty.int IntKind.u64).pair ((Ty.arr 4 (Ty.int IntKind.u64)).pair ((Ty.int IntKind.u64).pair Ty.unit))))).2.1, ()))) (fun (y_7 : (((List Int) × Unit) × (Unit × (Unit × Unit)))) => (again_1 ((l_2.1, (l_2.2.1, l_2.2.2)), (t2_3, (y_7.1.1, (t15_5, ((IntKind.wrap (IntKind.i64) (t16_6 + (1 : Int))), ())))))))) none) (L _ _ (fun again x => T_ledger_Ledger_Supply_loop1 c_uint256_SaturatingAdd again x.1 x.2.1 x.2.2.1 x.2.2.2.1 x.2.2.2.2.1) (t2_3, (all_4, (l_2.2.1, ((0 : Int), ((l_2.1, (l_2.2.1, l_2.2.2)), ())))))))
noncomputable def T_ledger_Ledger_Supply (L : LoopD) (c_uint256_SaturatingAdd : F_uint256_SaturatingAdd) (l_ : (Option ((List (Int × ((List Int) × (Int × Unit)))) × ((List (List Int)) × Unit)))) : Option (((List Int) × Unit) × ((Option ((List (Int × ((List Int) × (Int × Unit)))) × ((List (List Int)) × Unit))) × Unit)) := (optR l_ (some (([(0 : Int), (0 : Int), (0 : Int), (0 : Int)], ()), (none, ()))) (fun (y_0 : ((List (Int × ((List Int) × (Int × Unit)))) × ((List (List Int)) × Unit))) => (L _ _ (fun again x => T_ledger_Ledger_Supply_loop0 L c_uint256_SaturatingAdd again x.1 x.2.1 x.2.2.1 x.2.2.2.1 x.2.2.2.2.1) ((y_0.1, (y_0.2.1, y_0.2.2)), ([(0 : Int), (0 : Int), (0 : Int), (0 : Int)], ([(0 : Int), (0 : Int), (0 : Int), (0 : Int)], ((((List.length y_0.1) : Nat) : Int), ((0 : Int), ()))))))))
noncomputable def sol_ledger_Ledger_Supply : F_ledger_Ledger_Supply := fun x => T_ledger_Ledger_Supply bigLoop sol_uint256_SaturatingAdd x.1
abbrev s_ledger_Ledger_find_1 : Sig := ⟨[(.ro true (.pair (.int .u64) (.pair (.arr 4 (.int .u64)) (.pair (.int .u64) .unit)))), (.ro true (.int .u64))], [(.ro true (.int .i64))]⟩
abbrev F_ledger_Ledger_find_1 := ((Int × ((List Int) × (Int × Unit))) × (Int × Unit)) → Option ((Int × Unit) × (Unit × (Unit × Unit)))
noncomputable def T_ledger_Ledger_find_1 (L : LoopD) (c_cmp_Compare_api_Address : F_cmp_Compare_api_Address) (x_ : (Int × ((List Int) × (Int × Unit)))) (a_ : Int) : Option ((Int × Unit) × (Unit × (Unit × Unit))) := (Option.bind (c_cmp_Compare_api_Address (x_.1, (a_, ()))) (fun (y_0 : ((Int × Unit) × (Unit × (Unit × Unit)))) => (some ((y_0.1.1, ()), ((), ((), ()))))))
noncomputable def sol_ledger_Ledger_find_1 : F_ledger_Ledger_find_1 := fun x => T_ledger_Ledger_find_1 bigLoop sol_cmp_Compare_api_Address x.1 x.2.1
abbrev F_slices_BinarySearchFunc_api_Account_api_Account_api_Address := ((List (Int × ((List Int) × (Int × Unit)))) × (Int × (Unit × Unit))) → Option ((Int × (Bool × Unit)) × (Unit × (Unit × (Unit × Unit))))
noncomputable def T_slices_BinarySearchFunc_api_Account_api_Account_api_Address_loop0 (c_ledger_Ledger_find_1 : F_ledger_Ledger_find_1) (again_1 : ((List (Int × ((List Int) × (Int × Unit)))) × (Int × (Unit × (Int × (Int × (Int × Unit)))))) → Option ((Int × (Bool × Unit)) × (Unit × (Unit × (Unit × Unit))))) (x_2 : (List (Int × ((List Int) × (Int × Unit))))) (target_3 : Int) (cmp_4 : Unit) (n_5 : Int) (i_6 : Int) (j_7 : Int) : Option ((Int × (Bool × Unit)) × (Unit × (Unit × (Unit × Unit)))) := (letR (IntKind.wrap (IntKind.i64) (Int.fdiv (IntKind.wrap (IntKind.u64) (IntKind.wrap (IntKind.i64) (i_6 + j_7))) (2 : Int))) fun (v_8 : Int) => (letR (List.length x_2) fun (v_9 : Nat) => (brR (decide (i_6 < j_7)) (brR (inR v_8 v_9) (Option.bind (c_ledger_Ledger_find_1 ((List.getD x_2 (Int.toNat v_8) ((0 : Int), ([(0 : Int), (0 : Int), (0 : Int), (0 : Int)], ((0 : Int), ())))), (target_3, ()))) (fun (y_10 : ((Int × Unit) × (Unit × (Unit × Unit)))) => (brR (decide (y_10.1.1 < (0 : Int))) (again_1 (x_2, (target_3, (cmp_4, (n_5, ((IntKind.wrap (IntKind.i64) (v_8 + (1 : Int))), (j_7, ()))))))) (again_1 (x_2, (target_3, (cmp_4, (n_5, (i_6, (v_8, ())))))))))) none) (brR (decide (i_6 < n_5)) (brR (inR i_6 v_9) (Option.bind (c_ledger_Ledger_find_1 ((List.getD x_2 (Int.toNat i_6) ((0 : Int), ([(0 : Int), (0 : Int), (0 : Int), (0 : Int)], ((0 : Int), ())))), (target_3, ()))) (fun (y_11 : ((Int × Unit) × (Unit × (Unit × Unit)))) => (some ((i_6, ((decide (y_11.1.1 = (0 : Int))), ())), ((), ((), ((), ()))))))) none) (some ((i_6, (false, ())), ((), ((), ((), ())))))))))
noncomputable def T_slices_BinarySearchFunc_api_Account_api_Account_api_Address (L : LoopD) (c_ledger_Ledger_find_1 : F_ledger_Ledger_find_1) (x_ : (List (Int × ((List Int) × (Int × Unit))))) (target_ : Int) (cmp_ : Unit) : Option ((Int × (Bool × Unit)) × (Unit × (Unit × (Unit × Unit)))) := (letR (((List.length x_) : Nat) : Int) fun (v_0 : Int) => (L _ _ (fun again x => T_slices_BinarySearchFunc_api_Account_api_Account_api_Address_loop0 c_ledger_Ledger_find_1 again x.1 x.2.1 x.2.2.1 x.2.2.2.1 x.2.2.2.2.1 x.2.2.2.2.2.1) (x_, (target_, (cmp_, (v_0, ((0 : Int), (v_0, ()))))))))
noncomputable def sol_slices_BinarySearchFunc_api_Account_api_Account_api_Address : F_slices_BinarySearchFunc_api_Account_api_Account_api_Address := fun x => T_slices_BinarySearchFunc_api_Account_api_Account_api_Address bigLoop sol_ledger_Ledger_find_1 x.1 x.2.1 x.2.2.1
abbrev s_ledger_Ledger_find : Sig := ⟨[(.ptr (.pair (.own false (.pair (.int .u64) (.pair (.arr 4 (.int .u64)) (.pair (.int .u64) .unit)))) (.pair (.ro true (.arr 4 (.arr 4 (.int .u64)))) (.ro true .unit)))), (.ro true (.int .u64))], [(.ro true (.int .i64)), (.ro true .bool)]⟩
abbrev F_ledger_Ledger_find := (((List (Int × ((List Int) × (Int × Unit)))) × ((List (List Int)) × Unit)) × (Int × Unit)) → Option ((Int × (Bool × Unit)) × (((List (Int × ((List Int) × (Int × Unit)))) × ((List (List Int)) × Unit)) × (Unit × Unit)))
noncomputable def T_ledger_Ledger_find (L : LoopD) (c_slices_BinarySearchFunc_api_Account_api_Account_api_Address : F_slices_BinarySearchFunc_api_Account_api_Account_api_Address) (l_ : ((List (Int × ((List Int) × (Int × Unit)))) × ((List (List Int)) × Unit))) (a_ : Int) : Option ((Int × (Bool × Unit)) × (((List (Int × ((List Int) × (Int × Unit)))) × ((List (List Int)) × Unit)) × (Unit × Unit))) := (Option.bind (c_slices_BinarySearchFunc_api_Account_api_Account_api_Address (l_.1, (a_, ((), ())))) (fun (y_0 : ((Int × (Bool × Unit)) × (Unit × (Unit × (Unit × Unit))))) => (some ((y_0.1.1, (y_0.1.2.1, ())), ((l_.1, (l_.2.1, l_.2.2)), ((), ()))))))
noncomputable def sol_ledger_Ledger_find : F_ledger_Ledger_find := fun x => T_ledger_Ledger_find bigLoop sol_slices_BinarySearchFunc_api_Account_api_Account_api_Address x.1 x.2.1
abbrev s_ledger_Ledger_get : Sig := ⟨[(.optr (.pair (.own false (.pair (.int .u64) (.pair (.arr 4 (.int .u64)) (.pair (.int .u64) .unit)))) (.pair (.ro true (.arr 4 (.arr 4 (.int .u64)))) (.ro true .unit)))), (.ro true (.int .u64))], [(.ro true (.pair (.int .u64) (.pair (.arr 4 (.int .u64)) (.pair (.int .u64) .unit))))]⟩
abbrev F_ledger_Ledger_get := ((Option ((List (Int × ((List Int) × (Int × Unit)))) × ((List (List Int)) × Unit))) × (Int × Unit)) → Option (((Int × ((List Int) × (Int × Unit))) × Unit) × ((Option ((List (Int × ((List Int) × (Int × Unit)))) × ((List (List Int)) × Unit))) × (Unit × Unit)))
noncomputable def T_ledger_Ledger_get (L : LoopD) (c_ledger_Ledger_find : F_ledger_Ledger_find) (l_ : (Option ((List (Int × ((List Int) × (Int × Unit)))) × ((List (List Int)) × Unit)))) (a_ : Int) : Option (((Int × ((List Int) × (Int × Unit))) × Unit) × ((Option ((List (Int × ((List Int) × (Int × Unit)))) × ((List (List Int)) × Unit))) × (Unit × Unit))) := (optR l_ (some (((a_, ([(0 : Int), (0 : Int), (0 : Int), (0 : Int)], ((0 : Int), ()))), ()), (none, ((), ())))) (fun (y_0 : ((List (Int × ((List Int) × (Int × Unit)))) × ((List (List Int)) × Unit))) => (Option.bind (c_ledger_Ledger_find ((y_0.1, (y_0.2.1, y_0.2.2)), (a_, ()))) (fun (y_1 : ((Int × (Bool × Unit)) × (((List (Int × ((List Int) × (Int × Unit)))) × ((List (List Int)) × Unit)) × (Unit × Unit)))) => (brR y_1.1.2.1 (brR (inR y_1.1.1 (List.length y_1.2.1.1)) (some (((List.getD y_1.2.1.1 (Int.toNat y_1.1.1) ((0 : Int), ([(0 : Int), (0 : Int), (0 : Int), (0 : Int)], ((0 : Int), ())))), ()), ((some (y_1.2.1.1, (y_1.2.1.2.1, y_1.2.1.2.2))), ((), ())))) none) (some (((a_, ([(0 : Int), (0 : Int), (0 : Int), (0 : Int)], ((0 : Int), ()))), ()), ((some (y_1.2.1.1, (y_1.2.1.2.1, y_1.2.1.2.2))), ((), ())))))))))
noncomputable def sol_ledger_Ledger_get : F_ledger_Ledger_get := fun x => T_ledger_Ledger_get bigLoop sol_ledger_Ledger_find x.1 x.2.1
abbrev s_ledger_isEmpty : Sig := ⟨[(.ro true (.pair (.int .u64) (.pair (.arr 4 (.int .u64)) (.pair (.int .u64) .unit))))], [(.ro true .bool)]⟩
abbrev F_ledger_isEmpty := ((Int × ((List Int) × (Int × Unit))) × Unit) → Option ((Bool × Unit) × (Unit × Unit))
noncomputable def T_ledger_isEmpty (L : LoopD) (x_ : (Int × ((List Int) × (Int × Unit)))) : Option ((Bool × Unit) × (Unit × Unit)) := (brR (eqD (Ty.arr 4 (Ty.int IntKind.u64)) x_.2.1 [(0 : Int), (0 : Int), (0 : Int), (0 : Int)]) (some (((decide (x_.2.2.1 = (0 : Int))), ()), ((), ()))) (some ((false, ()), ((), ()))))
noncomputable def sol_ledger_isEmpty : F_ledger_isEmpty := fun x => T_ledger_isEmpty bigLoop x.1
abbrev s_ledger_Ledger_set : Sig := ⟨[(.ptr (.pair (.own false (.pair (.int .u64) (.pair (.arr 4 (.int .u64)) (.pair (.int .u64) .unit)))) (.pair (.ro true (.arr 4 (.arr 4 (.int .u64)))) (.ro true .unit)))), (.ro true (.pair (.int .u64) (.pair (.arr 4 (.int .u64)) (.pair (.int .u64) .unit))))], []⟩
abbrev F_ledger_Ledger_set := (((List (Int × ((List Int) × (Int × Unit)))) × ((List (List Int)) × Unit)) × ((Int × ((List Int) × (Int × Unit))) × Unit)) → Option (Unit × (((List (Int × ((List Int) × (Int × Unit)))) × ((List (List Int)) × Unit)) × (Unit × Unit)))
noncomputable def T_ledger_Ledger_set (L : LoopD) (c_ledger_Ledger_find : F_ledger_Ledger_find) (c_ledger_isEmpty : F_ledger_isEmpty) (c_slices_Delete_api_Account_api_Account : F_slices_Delete_api_Account_api_Account) (c_slices_Insert_api_Account_api_Account : F_slices_Insert_api_Account_api_Account) (l_ : ((List (Int × ((List Int) × (Int × Unit)))) × ((List (List Int)) × Unit))) (x_ : (Int × ((List Int) × (Int × Unit)))) : Option (Unit × (((List (Int × ((List Int) × (Int × Unit)))) × ((List (List Int)) × Unit)) × (Unit × Unit))) := (Option.bind (c_ledger_Ledger_find ((l_.1, (l_.2.1, l_.2.2)), (x_.1, ()))) (fun (y_0 : ((Int × (Bool × Unit)) × (((List (Int × ((List Int) × (Int × Unit)))) × ((List (List Int)) × Unit)) × (Unit × Unit)))) => (brR y_0.1.2.1 (Option.bind (c_ledger_isEmpty (x_, ())) (fun (y_1 : ((Bool × Unit) × (Unit × Unit))) => (brR y_1.1.1 (Option.bind (c_slices_Delete_api_Account_api_Account (y_0.2.1.1, (y_0.1.1, ((IntKind.wrap (IntKind.i64) (y_0.1.1 + (1 : Int))), ())))) (fun (y_2 : (((List (Int × ((List Int) × (Int × Unit)))) × Unit) × (Unit × (Unit × (Unit × Unit))))) => (some ((), ((y_2.1.1, (y_0.2.1.2.1, y_0.2.1.2.2)), ((), ())))))) (brR y_0.1.2.1 (brR (inR y_0.1.1 (List.length y_0.2.1.1)) (some ((), (((List.set y_0.2.1.1 (Int.toNat y_0.1.1) x_), (y_0.2.1.2.1, y_0.2.1.2.2)), ((), ())))) none) (Option.bind (c_ledger_isEmpty (x_, ())) (fun (y_3 : ((Bool × Unit) × (Unit × Unit))) => (brR (!y_3.1.1) (Option.bind (c_slices_Insert_api_Account_api_Account (y_0.2.1.1, (y_0.1.1, ([x_], ())))) (fun (y_4 : (((List (Int × ((List Int) × (Int × Unit)))) × Unit) × (Unit × (Unit × (Unit × Unit))))) => (some ((), ((y_4.1.1, (y_0.2.1.2.1, y_0.2.1.2.2)), ((), ())))))) (some ((), ((y_0.2.1.1, (y_0.2.1.2.1, y_0.2.1.2.2)), ((), ()))))))))))) (brR y_0.1.2.1 (brR (inR y_0.1.1 (List.length y_0.2.1.1)) (some ((), (((List.set y_0.2.1.1 (Int.toNat y_0.1.1) x_), (y_0.2.1.2.1, y_0.2.1.2.2)), ((), ())))) none) (Option.bind (c_ledger_isEmpty (x_, ())) (fun (y_5 : ((Bool × Unit) × (Unit × Unit))) => (brR (!y_5.1.1) (Option.bind (c_slices_Insert_api_Account_api_Account (y_0.2.1.1, (y_0.1.1, ([x_], ())))) (fun (y_6 : (((List (Int × ((List Int) × (Int × Unit)))) × Unit) × (Unit × (Unit × (Unit × Unit))))) => (some ((), ((y_6.1.1, (y_0.2.1.2.1, y_0.2.1.2.2)), ((), ())))))) (some ((), ((y_0.2.1.1, (y_0.2.1.2.1, y_0.2.1.2.2)), ((), ())))))))))))
noncomputable def sol_ledger_Ledger_set : F_ledger_Ledger_set := fun x => T_ledger_Ledger_set bigLoop sol_ledger_Ledger_find sol_ledger_isEmpty sol_slices_Delete_api_Account_api_Account sol_slices_Insert_api_Account_api_Account x.1 x.2.1
abbrev s_ledger_Ledger_credit : Sig := ⟨[(.optr (.pair (.own false (.pair (.int .u64) (.pair (.arr 4 (.int .u64)) (.pair (.int .u64) .unit)))) (.pair (.ro true (.arr 4 (.arr 4 (.int .u64)))) (.ro true .unit)))), (.ro true (.int .u64)), (.ro true (.arr 4 (.int .u64)))], []⟩
abbrev F_ledger_Ledger_credit := ((Option ((List (Int × ((List Int) × (Int × Unit)))) × ((List (List Int)) × Unit))) × (Int × ((List Int) × Unit))) → Option (Unit × ((Option ((List (Int × ((List Int) × (Int × Unit)))) × ((List (List Int)) × Unit))) × (Unit × (Unit × Unit))))
noncomputable def T_ledger_Ledger_credit (L : LoopD) (c_ledger_Ledger_get : F_ledger_Ledger_get) (c_uint256_SaturatingAdd : F_uint256_SaturatingAdd) (c_ledger_Ledger_set : F_ledger_Ledger_set) (l_ : (Option ((List (Int × ((List Int) × (Int × Unit)))) × ((List (List Int)) × Unit)))) (a_ : Int) (n_ : (List Int)) : Option (Unit × ((Option ((List (Int × ((List Int) × (Int × Unit)))) × ((List (List Int)) × Unit))) × (Unit × (Unit × Unit)))) := (optR l_ (Option.bind (c_ledger_Ledger_get (none, (a_, ()))) (fun (y_0 : (((Int × ((List Int) × (Int × Unit))) × Unit) × ((Option ((List (Int × ((List Int) × (Int × Unit)))) × ((List (List Int)) × Unit))) × (Unit × Unit)))) => (optR y_0.2.1 (Option.bind (c_uint256_SaturatingAdd (y_0.1.1.2.1, (n_, ()))) (fun (y_1 : (((List Int) × Unit) × (Unit × (Unit × Unit)))) => none)) (fun (y_2 : ((List (Int × ((List Int) × (Int × Unit)))) × ((List (List Int)) × Unit))) => none)))) (fun (y_3 : ((List (Int × ((List Int) × (Int × Unit)))) × ((List (List Int)) × Unit))) => (Option.bind (c_ledger_Ledger_get ((some (y_3.1, (y_3.2.1, y_3.2.2))), (a_, ()))) (fun (y_4 : (((Int × ((List Int) × (Int × Unit))) × Unit) × ((Option ((List (Int × ((List Int) × (Int × Unit)))) × ((List (List Int)) × Unit))) × (Unit × Unit)))) => (optR y_4.2.1 none (fun (y_5 : ((List (Int × ((List Int) × (Int × Unit)))) × ((List (List Int)) × Unit))) => (Option.bind (c_uint256_SaturatingAdd (y_4.1.1.2.1, (n_, ()))) (fun (y_6 : (((List Int) × Unit) × (Unit × (Unit × Unit)))) => (Option.bind (c_ledger_Ledger_set ((y_5.1, (y_5.2.1, y_5.2.2)), ((y_4.1.1.1, (y_6.1.1, y_4.1.1.2.2)), ()))) (fun (y_7 : (Unit × (((List (Int × ((List Int) × (Int × Unit)))) × ((List (List Int)) × Unit)) × (Unit × Unit)))) => (some ((), ((some (y_7.2.1.1, (y_7.2.1.2.1, y_7.2.1.2.2))), ((), ((), ())))))))))))))))
noncomputable def sol_ledger_Ledger_credit : F_ledger_Ledger_credit := fun x => T_ledger_Ledger_credit bigLoop sol_ledger_Ledger_get sol_uint256_SaturatingAdd sol_ledger_Ledger_set x.1 x.2.1 x.2.2.1
abbrev s_ledger_Ledger_Mint : Sig := ⟨[(.optr (.pair (.own false (.pair (.int .u64) (.pair (.arr 4 (.int .u64)) (.pair (.int .u64) .unit)))) (.pair (.ro true (.arr 4 (.arr 4 (.int .u64)))) (.ro true .unit)))), (.ro true (.int .u64)), (.ro true (.arr 4 (.int .u64)))], [(.ro true (.int .i64))]⟩
abbrev F_ledger_Ledger_Mint := ((Option ((List (Int × ((List Int) × (Int × Unit)))) × ((List (List Int)) × Unit))) × (Int × ((List Int) × Unit))) → Option ((Int × Unit) × ((Option ((List (Int × ((List Int) × (Int × Unit)))) × ((List (List Int)) × Unit))) × (Unit × (Unit × Unit))))
noncomputable def T_ledger_Ledger_Mint (L : LoopD) (c_ledger_Ledger_Supply : F_ledger_Ledger_Supply) (c_uint256_Add : F_uint256_Add) (c_ledger_Ledger_credit : F_ledger_Ledger_credit) (l_ : (Option ((List (Int × ((List Int) × (Int × Unit)))) × ((List (List Int)) × Unit)))) (a_ : Int) (n_ : (List Int)) : Option ((Int × Unit) × ((Option ((List (Int × ((List Int) × (Int × Unit)))) × ((List (List Int)) × Unit))) × (Unit × (Unit × Unit)))) := (optR l_ (some (((1 : Int), ()), (none, ((), ((), ()))))) (fun (y_0 : ((List (Int × ((List Int) × (Int × Unit)))) × ((List (List Int)) × Unit))) => (brR (decide (a_ = (0 : Int))) (some (((2 : Int), ()), ((some (y_0.1, (y_0.2.1, y_0.2.2))), ((), ((), ()))))) (Option.bind (c_ledger_Ledger_Supply ((some (y_0.1, (y_0.2.1, y_0.2.2))), ())) (fun (y_1 : (((List Int) × Unit) × ((Option ((List (Int × ((List Int) × (Int × Unit)))) × ((List (List Int)) × Unit))) × Unit))) => (optR y_1.2.1 none (fun (y_2 : ((List (Int × ((List Int) × (Int × Unit)))) × ((List (List Int)) × Unit))) => (Option.bind (c_uint256_Add (y_1.1.1, (n_, ()))) (fun (y_3 : (((List Int) × (Int × Unit)) × (Unit × (Unit × Unit)))) => (brR (!(decide (y_3.1.2.1 = (0 : Int)))) (some ((y_3.1.2.1, ()), ((some (y_2.1, (y_2.2.1, y_2.2.2))), ((), ((), ()))))) (Option.bind (c_ledger_Ledger_credit ((some (y_2.1, (y_2.2.1, y_2.2.2))), (a_, (n_, ())))) (fun (y_4 : (Unit × ((Option ((List (Int × ((List Int) × (Int × Unit)))) × ((List (List Int)) × Unit))) × (Unit × (Unit × Unit))))) => (optR y_4.2.1 none (fun (y_5 : ((List (Int × ((List Int) × (Int × Unit)))) × ((List (List Int)) × Unit))) => (some (((0 : Int), ()), ((some (y_5.1, (y_5.2.1, y_5.2.2))), ((), ((), ())))))))))))))))))))
noncomputable def sol_ledger_Ledger_Mint : F_ledger_Ledger_Mint := fun x => T_ledger_Ledger_Mint bigLoop sol_ledger_Ledger_Supply sol_uint256_Add sol_ledger_Ledger_credit x.1 x.2.1 x.2.2.1
abbrev s_ledger_Ledger_debit : Sig := ⟨[(.optr (.pair (.own false (.pair (.int .u64) (.pair (.arr 4 (.int .u64)) (.pair (.int .u64) .unit)))) (.pair (.ro true (.arr 4 (.arr 4 (.int .u64)))) (.ro true .unit)))), (.ro true (.int .u64)), (.ro true (.arr 4 (.int .u64)))], [(.ro true (.int .i64))]⟩
abbrev F_ledger_Ledger_debit := ((Option ((List (Int × ((List Int) × (Int × Unit)))) × ((List (List Int)) × Unit))) × (Int × ((List Int) × Unit))) → Option ((Int × Unit) × ((Option ((List (Int × ((List Int) × (Int × Unit)))) × ((List (List Int)) × Unit))) × (Unit × (Unit × Unit))))
noncomputable def T_ledger_Ledger_debit (L : LoopD) (c_ledger_Ledger_get : F_ledger_Ledger_get) (c_uint256_Sub : F_uint256_Sub) (c_ledger_Ledger_set : F_ledger_Ledger_set) (l_ : (Option ((List (Int × ((List Int) × (Int × Unit)))) × ((List (List Int)) × Unit)))) (a_ : Int) (n_ : (List Int)) : Option ((Int × Unit) × ((Option ((List (Int × ((List Int) × (Int × Unit)))) × ((List (List Int)) × Unit))) × (Unit × (Unit × Unit)))) := (optR l_ (Option.bind (c_ledger_Ledger_get (none, (a_, ()))) (fun (y_0 : (((Int × ((List Int) × (Int × Unit))) × Unit) × ((Option ((List (Int × ((List Int) × (Int × Unit)))) × ((List (List Int)) × Unit))) × (Unit × Unit)))) => (optR y_0.2.1 (Option.bind (c_uint256_Sub (y_0.1.1.2.1, (n_, ()))) (fun (y_1 : (((List Int) × (Int × Unit)) × (Unit × (Unit × Unit)))) => (brR (!(decide (y_1.1.2.1 = (0 : Int)))) (some (((10 : Int), ()), (none, ((), ((), ()))))) none))) (fun (y_2 : ((List (Int × ((List Int) × (Int × Unit)))) × ((List (List Int)) × Unit))) => none)))) (fun (y_3 : ((List (Int × ((List Int) × (Int × Unit)))) × ((List (List Int)) × Unit))) => (Option.bind (c_ledger_Ledger_get ((some (y_3.1, (y_3.2.1, y_3.2.2))), (a_, ()))) (fun (y_4 : (((Int × ((List Int) × (Int × Unit))) × Unit) × ((Option ((List (Int × ((List Int) × (Int × Unit)))) × ((List (List Int)) × Unit))) × (Unit × Unit)))) => (optR y_4.2.1 none (fun (y_5 : ((List (Int × ((List Int) × (Int × Unit)))) × ((List (List Int)) × Unit))) => (Option.bind (c_uint256_Sub (y_4.1.1.2.1, (n_, ()))) (fun (y_6 : (((List Int) × (Int × Unit)) × (Unit × (Unit × Unit)))) => (brR (!(decide (y_6.1.2.1 = (0 : Int)))) (some (((10 : Int), ()), ((some (y_5.1, (y_5.2.1, y_5.2.2))), ((), ((), ()))))) (Option.bind (c_ledger_Ledger_set ((y_5.1, (y_5.2.1, y_5.2.2)), ((y_4.1.1.1, (y_6.1.1, y_4.1.1.2.2)), ()))) (fun (y_7 : (Unit × (((List (Int × ((List Int) × (Int × Unit)))) × ((List (List Int)) × Unit)) × (Unit × Unit)))) => (some (((0 : Int), ()), ((some (y_7.2.1.1, (y_7.2.1.2.1, y_7.2.1.2.2))), ((), ((), ()))))))))))))))))
noncomputable def sol_ledger_Ledger_debit : F_ledger_Ledger_debit := fun x => T_ledger_Ledger_debit bigLoop sol_ledger_Ledger_get sol_uint256_Sub sol_ledger_Ledger_set x.1 x.2.1 x.2.2.1
abbrev s_ledger_Ledger_Transfer : Sig := ⟨[(.optr (.pair (.own false (.pair (.int .u64) (.pair (.arr 4 (.int .u64)) (.pair (.int .u64) .unit)))) (.pair (.ro true (.arr 4 (.arr 4 (.int .u64)))) (.ro true .unit)))), (.ro true (.int .u64)), (.ro true (.int .u64)), (.ro true (.arr 4 (.int .u64)))], [(.ro true (.int .i64))]⟩
abbrev F_ledger_Ledger_Transfer := ((Option ((List (Int × ((List Int) × (Int × Unit)))) × ((List (List Int)) × Unit))) × (Int × (Int × ((List Int) × Unit)))) → Option ((Int × Unit) × ((Option ((List (Int × ((List Int) × (Int × Unit)))) × ((List (List Int)) × Unit))) × (Unit × (Unit × (Unit × Unit)))))
noncomputable def T_ledger_Ledger_Transfer (L : LoopD) (c_ledger_Ledger_debit : F_ledger_Ledger_debit) (c_ledger_Ledger_credit : F_ledger_Ledger_credit) (l_ : (Option ((List (Int × ((List Int) × (Int × Unit)))) × ((List (List Int)) × Unit)))) (a_ : Int) (b_ : Int) (n_ : (List Int)) : Option ((Int × Unit) × ((Option ((List (Int × ((List Int) × (Int × Unit)))) × ((List (List Int)) × Unit))) × (Unit × (Unit × (Unit × Unit))))) := (optR l_ (some (((1 : Int), ()), (none, ((), ((), ((), ())))))) (fun (y_0 : ((List (Int × ((List Int) × (Int × Unit)))) × ((List (List Int)) × Unit))) => (brR (decide (a_ = (0 : Int))) (some (((2 : Int), ()), ((some (y_0.1, (y_0.2.1, y_0.2.2))), ((), ((), ((), ())))))) (brR (decide (b_ = (0 : Int))) (some (((2 : Int), ()), ((some (y_0.1, (y_0.2.1, y_0.2.2))), ((), ((), ((), ())))))) (Option.bind (c_ledger_Ledger_debit ((some (y_0.1, (y_0.2.1, y_0.2.2))), (a_, (n_, ())))) (fun (y_1 : ((Int × Unit) × ((Option ((List (Int × ((List Int) × (Int × Unit)))) × ((List (List Int)) × Unit))) × (Unit × (Unit × Unit))))) => (optR y_1.2.1 none (fun (y_2 : ((List (Int × ((List Int) × (Int × Unit)))) × ((List (List Int)) × Unit))) => (brR (!(decide (y_1.1.1 = (0 : Int)))) (some ((y_1.1.1, ()), ((some (y_2.1, (y_2.2.1, y_2.2.2))), ((), ((), ((), ())))))) (Option.bind (c_ledger_Ledger_credit ((some (y_2.1, (y_2.2.1, y_2.2.2))), (b_, (n_, ())))) (fun (y_3 : (Unit × ((Option ((List (Int × ((List Int) × (Int × Unit)))) × ((List (List Int)) × Unit))) × (Unit × (Unit × Unit))))) => (optR y_3.2.1 none (fun (y_4 : ((List (Int × ((List Int) × (Int × Unit)))) × ((List (List Int)) × Unit))) => (some (((0 : Int), ()), ((some (y_4.1, (y_4.2.1, y_4.2.2))), ((), ((), ((), ())))))))))))))))))))
noncomputable def sol_ledger_Ledger_Transfer : F_ledger_Ledger_Transfer := fun x => T_ledger_Ledger_Transfer bigLoop sol_ledger_Ledger_debit sol_ledger_Ledger_credit x.1 x.2.1 x.2.2.1 x.2.2.2.1
abbrev s_ledger_isVault : Sig := ⟨[(.ro true (.int .i64))], [(.ro true .bool)]⟩
abbrev F_ledger_isVault := (Int × Unit) → Option ((Bool × Unit) × (Unit × Unit))
noncomputable def T_ledger_isVault (L : LoopD) (v_ : Int) : Option ((Bool × Unit) × (Unit × Unit)) := (brR (decide (v_ ≥ (1 : Int))) (some (((decide (v_ ≤ (4 : Int))), ()), ((), ()))) (some ((false, ()), ((), ()))))
noncomputable def sol_ledger_isVault : F_ledger_isVault := fun x => T_ledger_isVault bigLoop x.1
abbrev s_ledger_Ledger_PayVault : Sig := ⟨[(.optr (.pair (.own false (.pair (.int .u64) (.pair (.arr 4 (.int .u64)) (.pair (.int .u64) .unit)))) (.pair (.ro true (.arr 4 (.arr 4 (.int .u64)))) (.ro true .unit)))), (.ro true (.int .u64)), (.ro true (.int .i64)), (.ro true (.arr 4 (.int .u64)))], [(.ro true (.int .i64))]⟩
abbrev F_ledger_Ledger_PayVault := ((Option ((List (Int × ((List Int) × (Int × Unit)))) × ((List (List Int)) × Unit))) × (Int × (Int × ((List Int) × Unit)))) → Option ((Int × Unit) × ((Option ((List (Int × ((List Int) × (Int × Unit)))) × ((List (List Int)) × Unit))) × (Unit × (Unit × (Unit × Unit)))))
noncomputable def T_ledger_Ledger_PayVault (L : LoopD) (c_ledger_isVault : F_ledger_isVault) (c_ledger_Ledger_debit : F_ledger_Ledger_debit) (c_uint256_SaturatingAdd : F_uint256_SaturatingAdd) (l_ : (Option ((List (Int × ((List Int) × (Int × Unit)))) × ((List (List Int)) × Unit)))) (a_ : Int) (v_ : Int) (n_ : (List Int)) : Option ((Int × Unit) × ((Option ((List (Int × ((List Int) × (Int × Unit)))) × ((List (List Int)) × Unit))) × (Unit × (Unit × (Unit × Unit))))) := (letR (IntKind.wrap (IntKind.i64) (v_ - (1 : Int))) fun (v_0 : Int) => (optR l_ (some (((1 : Int), ()), (none, ((), ((), ((), ())))))) (fun (y_1 : ((List (Int × ((List Int) × (Int × Unit)))) × ((List (List Int)) × Unit))) => (brR (decide (a_ = (0 : Int))) (some (((2 : Int), ()), ((some (y_1.1, (y_1.2.1, y_1.2.2))), ((), ((), ((), ())))))) (Option.bind (c_ledger_isVault (v_, ())) (fun (y_2 : ((Bool × Unit) × (Unit × Unit))) => (brR (!y_2.1.1) (some (((2 : Int), ()), ((some (y_1.1, (y_1.2.1, y_1.2.2))), ((), ((), ((), ())))))) (Option.bind (c_ledger_Ledger_debit ((some (y_1.1, (y_1.2.1, y_1.2.2))), (a_, (n_, ())))) (fun (y_3 : ((Int × Unit) × ((Option ((List (Int × ((List Int) × (Int × Unit)))) × ((List (List Int)) × Unit))) × (Unit × (Unit × Unit))))) => (optR y_3.2.1 none (fun (y_4 : ((List (Int × ((List Int) × (Int × Unit)))) × ((List (List Int)) × Unit))) => (brR (!(decide (y_3.1.1 = (0 : Int)))) (some ((y_3.1.1, ()), ((some (y_4.1, (y_4.2.1, y_4.2.2))), ((), ((), ((), ())))))) (brR (inR v_0 (4 : Nat)) (Option.bind (c_uint256_SaturatingAdd ((List.getD y_4.2.1 (Int.toNat v_0) [(0 : Int), (0 : Int), (0 : Int), (0 : Int)]), (n_, ()))) (fun (y_5 : (((List Int) × Unit) × (Unit × (Unit × Unit)))) => (brR (inR v_0 (4 : Nat)) (some (((0 : Int), ()), ((some (y_4.1, ((List.set y_4.2.1 (Int.toNat v_0) y_5.1.1), y_4.2.2))), ((), ((), ((), ())))))) none))) none)))))))))))))
noncomputable def sol_ledger_Ledger_PayVault : F_ledger_Ledger_PayVault := fun x => T_ledger_Ledger_PayVault bigLoop sol_ledger_isVault sol_ledger_Ledger_debit sol_uint256_SaturatingAdd x.1 x.2.1 x.2.2.1 x.2.2.2.1
abbrev s_ledger_Ledger_Balance : Sig := ⟨[(.optr (.pair (.own false (.pair (.int .u64) (.pair (.arr 4 (.int .u64)) (.pair (.int .u64) .unit)))) (.pair (.ro true (.arr 4 (.arr 4 (.int .u64)))) (.ro true .unit)))), (.ro true (.int .u64))], [(.ro true (.arr 4 (.int .u64)))]⟩
abbrev F_ledger_Ledger_Balance := ((Option ((List (Int × ((List Int) × (Int × Unit)))) × ((List (List Int)) × Unit))) × (Int × Unit)) → Option (((List Int) × Unit) × ((Option ((List (Int × ((List Int) × (Int × Unit)))) × ((List (List Int)) × Unit))) × (Unit × Unit)))
noncomputable def T_ledger_Ledger_Balance (L : LoopD) (c_ledger_Ledger_get : F_ledger_Ledger_get) (l_ : (Option ((List (Int × ((List Int) × (Int × Unit)))) × ((List (List Int)) × Unit)))) (a_ : Int) : Option (((List Int) × Unit) × ((Option ((List (Int × ((List Int) × (Int × Unit)))) × ((List (List Int)) × Unit))) × (Unit × Unit))) := (optR l_ (Option.bind (c_ledger_Ledger_get (none, (a_, ()))) (fun (y_0 : (((Int × ((List Int) × (Int × Unit))) × Unit) × ((Option ((List (Int × ((List Int) × (Int × Unit)))) × ((List (List Int)) × Unit))) × (Unit × Unit)))) => (optR y_0.2.1 (some ((y_0.1.1.2.1, ()), (none, ((), ())))) (fun (y_1 : ((List (Int × ((List Int) × (Int × Unit)))) × ((List (List Int)) × Unit))) => none)))) (fun (y_2 : ((List (Int × ((List Int) × (Int × Unit)))) × ((List (List Int)) × Unit))) => (Option.bind (c_ledger_Ledger_get ((some (y_2.1, (y_2.2.1, y_2.2.2))), (a_, ()))) (fun (y_3 : (((Int × ((List Int) × (Int × Unit))) × Unit) × ((Option ((List (Int × ((List Int) × (Int × Unit)))) × ((List (List Int)) × Unit))) × (Unit × Unit)))) => (optR y_3.2.1 none (fun (y_4 : ((List (Int × ((List Int) × (Int × Unit)))) × ((List (List Int)) × Unit))) => (some ((y_3.1.1.2.1, ()), ((some (y_4.1, (y_4.2.1, y_4.2.2))), ((), ()))))))))))
noncomputable def sol_ledger_Ledger_Balance : F_ledger_Ledger_Balance := fun x => T_ledger_Ledger_Balance bigLoop sol_ledger_Ledger_get x.1 x.2.1
abbrev s_ledger_Ledger_Vault : Sig := ⟨[(.optr (.pair (.own false (.pair (.int .u64) (.pair (.arr 4 (.int .u64)) (.pair (.int .u64) .unit)))) (.pair (.ro true (.arr 4 (.arr 4 (.int .u64)))) (.ro true .unit)))), (.ro true (.int .i64))], [(.ro true (.arr 4 (.int .u64)))]⟩
abbrev F_ledger_Ledger_Vault := ((Option ((List (Int × ((List Int) × (Int × Unit)))) × ((List (List Int)) × Unit))) × (Int × Unit)) → Option (((List Int) × Unit) × ((Option ((List (Int × ((List Int) × (Int × Unit)))) × ((List (List Int)) × Unit))) × (Unit × Unit)))
noncomputable def T_ledger_Ledger_Vault (L : LoopD) (c_ledger_isVault : F_ledger_isVault) (l_ : (Option ((List (Int × ((List Int) × (Int × Unit)))) × ((List (List Int)) × Unit)))) (v_ : Int) : Option (((List Int) × Unit) × ((Option ((List (Int × ((List Int) × (Int × Unit)))) × ((List (List Int)) × Unit))) × (Unit × Unit))) := (letR (IntKind.wrap (IntKind.i64) (v_ - (1 : Int))) fun (v_0 : Int) => (optR l_ (some (([(0 : Int), (0 : Int), (0 : Int), (0 : Int)], ()), (none, ((), ())))) (fun (y_1 : ((List (Int × ((List Int) × (Int × Unit)))) × ((List (List Int)) × Unit))) => (Option.bind (c_ledger_isVault (v_, ())) (fun (y_2 : ((Bool × Unit) × (Unit × Unit))) => (brR (!y_2.1.1) (some (([(0 : Int), (0 : Int), (0 : Int), (0 : Int)], ()), ((some (y_1.1, (y_1.2.1, y_1.2.2))), ((), ())))) (brR (inR v_0 (4 : Nat)) (some (((List.getD y_1.2.1 (Int.toNat v_0) [(0 : Int), (0 : Int), (0 : Int), (0 : Int)]), ()), ((some (y_1.1, (y_1.2.1, y_1.2.2))), ((), ())))) none)))))))
noncomputable def sol_ledger_Ledger_Vault : F_ledger_Ledger_Vault := fun x => T_ledger_Ledger_Vault bigLoop sol_ledger_isVault x.1 x.2.1
abbrev s_ledger_Ledger_Accounts : Sig := ⟨[(.optr (.pair (.own false (.pair (.int .u64) (.pair (.arr 4 (.int .u64)) (.pair (.int .u64) .unit)))) (.pair (.ro true (.arr 4 (.arr 4 (.int .u64)))) (.ro true .unit))))], [(.own true (.pair (.int .u64) (.pair (.arr 4 (.int .u64)) (.pair (.int .u64) .unit))))]⟩
abbrev F_ledger_Ledger_Accounts := ((Option ((List (Int × ((List Int) × (Int × Unit)))) × ((List (List Int)) × Unit))) × Unit) → Option (((List (Int × ((List Int) × (Int × Unit)))) × Unit) × ((Option ((List (Int × ((List Int) × (Int × Unit)))) × ((List (List Int)) × Unit))) × Unit))
noncomputable def T_ledger_Ledger_Accounts (L : LoopD) (c_slices_Clone_api_Account_api_Account : F_slices_Clone_api_Account_api_Account) (l_ : (Option ((List (Int × ((List Int) × (Int × Unit)))) × ((List (List Int)) × Unit)))) : Option (((List (Int × ((List Int) × (Int × Unit)))) × Unit) × ((Option ((List (Int × ((List Int) × (Int × Unit)))) × ((List (List Int)) × Unit))) × Unit)) := (optR l_ (some ((([] : List (Int × ((List Int) × (Int × Unit)))), ()), (none, ()))) (fun (y_0 : ((List (Int × ((List Int) × (Int × Unit)))) × ((List (List Int)) × Unit))) => (Option.bind (c_slices_Clone_api_Account_api_Account (y_0.1, ())) (fun (y_1 : (((List (Int × ((List Int) × (Int × Unit)))) × Unit) × (Unit × Unit))) => (some ((y_1.1.1, ()), ((some (y_0.1, (y_0.2.1, y_0.2.2))), ())))))))
noncomputable def sol_ledger_Ledger_Accounts : F_ledger_Ledger_Accounts := fun x => T_ledger_Ledger_Accounts bigLoop sol_slices_Clone_api_Account_api_Account x.1
abbrev s_ledger_Ledger_Vaults : Sig := ⟨[(.optr (.pair (.own false (.pair (.int .u64) (.pair (.arr 4 (.int .u64)) (.pair (.int .u64) .unit)))) (.pair (.ro true (.arr 4 (.arr 4 (.int .u64)))) (.ro true .unit))))], [(.ro true (.arr 4 (.arr 4 (.int .u64))))]⟩
abbrev F_ledger_Ledger_Vaults := ((Option ((List (Int × ((List Int) × (Int × Unit)))) × ((List (List Int)) × Unit))) × Unit) → Option (((List (List Int)) × Unit) × ((Option ((List (Int × ((List Int) × (Int × Unit)))) × ((List (List Int)) × Unit))) × Unit))
noncomputable def T_ledger_Ledger_Vaults (L : LoopD) (l_ : (Option ((List (Int × ((List Int) × (Int × Unit)))) × ((List (List Int)) × Unit)))) : Option (((List (List Int)) × Unit) × ((Option ((List (Int × ((List Int) × (Int × Unit)))) × ((List (List Int)) × Unit))) × Unit)) := (optR l_ (some (([[(0 : Int), (0 : Int), (0 : Int), (0 : Int)], [(0 : Int), (0 : Int), (0 : Int), (0 : Int)], [(0 : Int), (0 : Int), (0 : Int), (0 : Int)], [(0 : Int), (0 : Int), (0 : Int), (0 : Int)]], ()), (none, ()))) (fun (y_0 : ((List (Int × ((List Int) × (Int × Unit)))) × ((List (List Int)) × Unit))) => (some ((y_0.2.1, ()), ((some (y_0.1, (y_0.2.1, y_0.2.2))), ())))))
noncomputable def sol_ledger_Ledger_Vaults : F_ledger_Ledger_Vaults := fun x => T_ledger_Ledger_Vaults bigLoop x.1
abbrev s_ledger_Load : Sig := ⟨[(.ro false (.slice (.pair (.int .u64) (.pair (.arr 4 (.int .u64)) (.pair (.int .u64) .unit))))), (.ro true (.arr 4 (.arr 4 (.int .u64))))], [(.optr (.pair (.own false (.pair (.int .u64) (.pair (.arr 4 (.int .u64)) (.pair (.int .u64) .unit)))) (.pair (.ro true (.arr 4 (.arr 4 (.int .u64)))) (.ro true .unit)))), (.ro true (.int .i64))]⟩
abbrev F_ledger_Load := ((List (Int × ((List Int) × (Int × Unit)))) × ((List (List Int)) × Unit)) → Option (((Option ((List (Int × ((List Int) × (Int × Unit)))) × ((List (List Int)) × Unit))) × (Int × Unit)) × (Unit × (Unit × Unit)))
noncomputable def T_ledger_Load_loop2 (c_uint256_Add : F_uint256_Add) (c_slices_Clone_api_Account_api_Account : F_slices_Clone_api_Account_api_Account) (again_17 : ((List (Int × ((List Int) × (Int × Unit)))) × ((List (List Int)) × ((List Int) × ((List (List Int)) × (Int × Unit))))) → Option (((Option ((List (Int × ((List Int) × (Int × Unit)))) × ((List (List Int)) × Unit))) × (Int × Unit)) × (Unit × (Unit × Unit)))) (l_18 : (List (Int × ((List Int) × (Int × Unit))))) (v_19 : (List (List Int))) (all_20 : (List Int)) (t62_21 : (List (List Int))) (t63_22 : Int) : Option (((Option ((List (Int × ((List Int) × (Int × Unit)))) × ((List (List Int)) × Unit))) × (Int × Unit)) × (Unit × (Unit × Unit))) := (brR (decide (t63_22 < (4 : Int))) (brR (inR t63_22 (4 : Nat)) (Option.bind (c_uint256_Add (all_20, ((List.getD t62_21 (Int.toNat t63_22) [(0 : Int), (0 : Int), (0 : Int), (0 : Int)]), ()))) (fun (y_23 : (((List Int) × (Int × Unit)) × (Unit × (Unit × Unit)))) => (brR (!(decide (y_23.1.2.1 = (0 : Int)))) (some ((none, (y_23.1.2.1, ())), ((), ((), ())))) (again_17 (l_18, (v_19, (y_23.1.1, (t62_21, ((IntKind.wrap (IntKind.i64) (t63_22 + (1 : Int))), ()))))))))) none) (Option.bind (c_slices_Clone_api_Account_api_Account (l_18, ())) (fun (y_24 : (((List (Int × ((List Int) × (Int × Unit)))) × Unit) × (Unit × Unit))) => (some (((some (y_24.1.1, (v_19, ()))), ((0 : Int), ())), ((), ((), ())))))))
noncomputable def T_ledger_Load_loop1 (L : LoopD) (c_uint256_Add : F_uint256_Add) (c_slices_Clone_api_Account_api_Account : F_slices_Clone_api_Account_api_Account) (again_9 : ((List (Int × ((List Int) × (Int × Unit)))) × ((List (List Int)) × ((List Int) × ((List (Int × ((List Int) × (Int × Unit)))) × (Int × (Int × Unit)))))) → Option (((Option ((List (Int × ((List Int) × (Int × Unit)))) × ((List (List Int)) × Unit))) × (Int × Unit)) × (Unit × (Unit × Unit)))) (l_10 : (List (Int × ((List Int) × (Int × Unit))))) (v_11 : (List (List Int))) (all_12 : (List Int)) (t45_13 : (List (Int × ((List Int) × (Int × Unit))))) (t46_14 : Int) (t47_15 : Int) : Option (((Option ((List (Int × ((List Int) × (Int × Unit)))) × ((List (List Int)) × Unit))) × (Int × Unit)) × (Unit × (Unit × Unit))) := (brR (decide (t47_15 < t46_14)) (brR (inR t47_15 (List.length t45_13)) (Option.bind (c_uint256_Add (all_12, ((List.getD t45_13 (Int.toNat t47_15) (Ty.zero ((Ty.int IntKind.u64).pair ((Ty.arr 4 (Ty.int IntKind.u64)).pair ((Ty.int IntKind.u64).pair Ty.unit))))).2.1, ()))) (fun (y_16 : (((List Int) × (Int × Unit)) × (Unit × (Unit × Unit)))) => (brR (!(decide (y_16.1.2.1 = (0 : Int)))) (some ((none, (y_16.1.2.1, ())), ((), ((), ())))) (again_9 (l_10, (v_11, (y_16.1.1, (t45_13, (t46_14, ((IntKind.wrap (IntKind.i64) (t47_15 + (1 : Int))), ())))))))))) none) (L _ _ (fun again x => T_ledger_Load_loop2 c_uint256_Add c_slices_Clone_api_Account_api_Account again x.1 x.2.1 x.2.2.1 x.2.2.2.1 x.2.2.2.2.1) (l_10, (v_11, (all_12, (v_11, ((0 : Int), ())))))))
noncomputable def T_ledger_Load_loop0 (L : LoopD) (c_ledger_isEmpty : F_ledger_isEmpty) (c_uint256_Add : F_uint256_Add) (c_slices_Clone_api_Account_api_Account : F_slices_Clone_api_Account_api_Account) (again_0 : ((List (Int × ((List Int) × (Int × Unit)))) × ((List (List Int)) × ((List (Int × ((List Int) × (Int × Unit)))) × (Int × (Int × Unit))))) → Option (((Option ((List (Int × ((List Int) × (Int × Unit)))) × ((List (List Int)) × Unit))) × (Int × Unit)) × (Unit × (Unit × Unit)))) (l_1 : (List (Int × ((List Int) × (Int × Unit))))) (v_2 : (List (List Int))) (t14_3 : (List (Int × ((List Int) × (Int × Unit))))) (t15_4 : Int) (t16_5 : Int) : Option (((Option ((List (Int × ((List Int) × (Int × Unit)))) × ((List (List Int)) × Unit))) × (Int × Unit)) × (Unit × (Unit × Unit))) := (letR (IntKind.wrap (IntKind.i64) (t16_5 - (1 : Int))) fun (v_6 : Int) => (letR (List.length l_1) fun (v_7 : Nat) => (brR (decide (t16_5 < t15_4)) (brR (inR t16_5 (List.length t14_3)) (brR (decide ((List.getD t14_3 (Int.toNat t16_5) (Ty.zero ((Ty.int IntKind.u64).pair ((Ty.arr 4 (Ty.int IntKind.u64)).pair ((Ty.int IntKind.u64).pair Ty.unit))))).1 = (0 : Int))) (some ((none, ((2 : Int), ())), ((), ((), ())))) (Option.bind (c_ledger_isEmpty ((List.getD t14_3 (Int.toNat t16_5) ((0 : Int), ([(0 : Int), (0 : Int), (0 : Int), (0 : Int)], ((0 : Int), ())))), ())) (fun (y_8 : ((Bool × Unit) × (Unit × Unit))) => (brR y_8.1.1 (some ((none, ((2 : Int), ())), ((), ((), ())))) (brR (decide (t16_5 > (0 : Int))) (brR (inR v_6 v_7) (brR (decide ((List.getD t14_3 (Int.toNat t16_5) (Ty.zero ((Ty.int IntKind.u64).pair ((Ty.arr 4 (Ty.int IntKind.u64)).pair ((Ty.int IntKind.u64).pair Ty.unit))))).1 ≤ (List.getD l_1 (Int.toNat v_6) (Ty.zero ((Ty.int IntKind.u64).pair ((Ty.arr 4 (Ty.int IntKind.u64)).pair ((Ty.int IntKind.u64).pair Ty.unit))))).1)) (some ((none, ((2 : Int), ())), ((), ((), ())))) (again_0 (l_1, (v_2, (t14_3, (t15_4, ((IntKind.wrap (IntKind.i64) (t16_5 + (1 : Int))), ()))))))) none) (again_0 (l_1, (v_2, (t14_3, (t15_4, ((IntKind.wrap (IntKind.i64) (t16_5 + (1 : Int))), ()))))))))))) none) (L _ _ (fun again x => T_ledger_Load_loop1 L c_uint256_Add c_slices_Clone_api_Account_api_Account again x.1 x.2.1 x.2.2.1 x.2.2.2.1 x.2.2.2.2.1 x.2.2.2.2.2.1) (l_1, (v_2, ([(0 : Int), (0 : Int), (0 : Int), (0 : Int)], (l_1, (((v_7 : Nat) : Int), ((0 : Int), ()))))))))))
noncomputable def T_ledger_Load (L : LoopD) (c_ledger_isEmpty : F_ledger_isEmpty) (c_uint256_Add : F_uint256_Add) (c_slices_Clone_api_Account_api_Account : F_slices_Clone_api_Account_api_Account) (l_ : (List (Int × ((List Int) × (Int × Unit))))) (v_ : (List (List Int))) : Option (((Option ((List (Int × ((List Int) × (Int × Unit)))) × ((List (List Int)) × Unit))) × (Int × Unit)) × (Unit × (Unit × Unit))) := (L _ _ (fun again x => T_ledger_Load_loop0 L c_ledger_isEmpty c_uint256_Add c_slices_Clone_api_Account_api_Account again x.1 x.2.1 x.2.2.1 x.2.2.2.1 x.2.2.2.2.1) (l_, (v_, (l_, ((((List.length l_) : Nat) : Int), ((0 : Int), ()))))))
noncomputable def sol_ledger_Load : F_ledger_Load := fun x => T_ledger_Load bigLoop sol_ledger_isEmpty sol_uint256_Add sol_slices_Clone_api_Account_api_Account x.1 x.2.1
end Go.Pon
set_option autoImplicit false
set_option linter.unusedVariables false
set_option maxRecDepth 100000
namespace Go.Pon
open Go
abbrev s_ref1_norm : Sig := ⟨[(.ro false (.slice (.int .i64)))], [(.ro false (.slice (.int .i64)))]⟩
abbrev F_ref1_norm := ((List Int) × Unit) → Option (((List Int) × Unit) × (Unit × Unit))
noncomputable def T_ref1_norm_loop0 (again_0 : ((List Int) × (Int × Unit)) → Option (((List Int) × Unit) × (Unit × Unit))) (b_1 : (List Int)) (n_2 : Int) : Option (((List Int) × Unit) × (Unit × Unit)) := (letR (IntKind.wrap (IntKind.i64) (n_2 - (1 : Int))) fun (v_3 : Int) => (brR (decide (n_2 > (0 : Int))) (brR (inR v_3 (List.length b_1)) (brR (decide ((List.getD b_1 (Int.toNat v_3) (0 : Int)) = (0 : Int))) (again_0 (b_1, (v_3, ()))) (brR ((decide ((0 : Int) ≤ n_2)) && (decide (n_2 ≤ (((List.length b_1) : Nat) : Int)))) (some (((List.take ((Int.toNat n_2) - (0 : Nat)) (List.drop (0 : Nat) b_1)), ()), ((), ()))) none)) none) (brR ((decide ((0 : Int) ≤ n_2)) && (decide (n_2 ≤ (((List.length b_1) : Nat) : Int)))) (some (((List.take ((Int.toNat n_2) - (0 : Nat)) (List.drop (0 : Nat) b_1)), ()), ((), ()))) none)))
noncomputable def T_ref1_norm (L : LoopD) (b_ : (List Int)) : Option (((List Int) × Unit) × (Unit × Unit)) := (L _ _ (fun again x => T_ref1_norm_loop0 again x.1 x.2.1) (b_, ((((List.length b_) : Nat) : Int), ())))
noncomputable def sol_ref1_norm : F_ref1_norm := fun x => T_ref1_norm bigLoop x.1
abbrev s_ref1_FromUint256 : Sig := ⟨[(.ro true (.arr 4 (.int .u64)))], [(.ro false (.slice (.int .i64)))]⟩
abbrev F_ref1_FromUint256 := ((List Int) × Unit) → Option (((List Int) × Unit) × (Unit × Unit))
noncomputable def T_ref1_FromUint256_loop0 (c_ref1_norm : F_ref1_norm) (again_0 : ((List Int) × ((List Int) × (Int × Unit))) → Option (((List Int) × Unit) × (Unit × Unit))) (a_1 : (List Int)) (out_2 : (List Int)) (i_3 : Int) : Option (((List Int) × Unit) × (Unit × Unit)) := (letR (IntKind.wrap (IntKind.u64) (IntKind.wrap (IntKind.i64) ((16 : Int) * (Int.tmod i_3 (4 : Int))))) fun (v_4 : Int) => (brR (decide (i_3 < (16 : Int))) (brR (inR (IntKind.wrap (IntKind.i64) (Int.tdiv i_3 (4 : Int))) (4 : Nat)) (brR (decide ((0 : Int) ≤ v_4)) (brR (inR i_3 (List.length out_2)) (again_0 (a_1, ((List.set out_2 (Int.toNat i_3) (IntKind.wrap (IntKind.i64) (IntKind.wrap (IntKind.u64) (((BitVec.toNat ((BitVec.ofInt (64 : Nat) (Int.fdiv (List.getD a_1 (Int.toNat (IntKind.wrap (IntKind.i64) (Int.tdiv i_3 (4 : Int)))) (0 : Int)) ((2 : Int) ^ (min (Int.toNat v_4) (64 : Nat))))) &&& (BitVec.ofInt (64 : Nat) (65535 : Int)))) : Nat) : Int)))), ((IntKind.wrap (IntKind.i64) (i_3 + (1 : Int))), ())))) none) none) none) (Option.bind (c_ref1_norm (out_2, ())) (fun (y_5 : (((List Int) × Unit) × (Unit × Unit))) => (some ((y_5.1.1, ()), ((), ())))))))
noncomputable def T_ref1_FromUint256 (L : LoopD) (c_ref1_norm : F_ref1_norm) (a_ : (List Int)) : Option (((List Int) × Unit) × (Unit × Unit)) := (L _ _ (fun again x => T_ref1_FromUint256_loop0 c_ref1_norm again x.1 x.2.1 x.2.2.1) (a_, ([(0 : Int), (0 : Int), (0 : Int), (0 : Int), (0 : Int), (0 : Int), (0 : Int), (0 : Int), (0 : Int), (0 : Int), (0 : Int), (0 : Int), (0 : Int), (0 : Int), (0 : Int), (0 : Int)], ((0 : Int), ()))))
noncomputable def sol_ref1_FromUint256 : F_ref1_FromUint256 := fun x => T_ref1_FromUint256 bigLoop sol_ref1_norm x.1
abbrev s_ref1_Add : Sig := ⟨[(.ro false (.slice (.int .i64))), (.ro false (.slice (.int .i64)))], [(.own true (.int .i64))]⟩
abbrev F_ref1_Add := ((List Int) × ((List Int) × Unit)) → Option (((List Int) × Unit) × (Unit × (Unit × Unit)))
noncomputable def T_ref1_Add_loop0 (again_0 : ((List Int) × ((List Int) × ((List Int) × (Int × (Int × Unit))))) → Option (((List Int) × Unit) × (Unit × (Unit × Unit)))) (a_1 : (List Int)) (b_2 : (List Int)) (out_3 : (List Int)) (over_4 : Int) (i_5 : Int) : Option (((List Int) × Unit) × (Unit × (Unit × Unit))) := (letR (IntKind.wrap (IntKind.i64) (over_4 + (List.getD a_1 (Int.toNat i_5) (0 : Int)))) fun (v_6 : Int) => (letR (IntKind.wrap (IntKind.i64) (over_4 + (List.getD b_2 (Int.toNat i_5) (0 : Int)))) fun (v_7 : Int) => (letR (IntKind.wrap (IntKind.i64) (v_6 + (List.getD b_2 (Int.toNat i_5) (0 : Int)))) fun (v_8 : Int) => (brR (decide (i_5 < (((List.length a_1) : Nat) : Int))) (brR (decide (i_5 < (((List.length a_1) : Nat) : Int))) (brR (inR i_5 (List.length a_1)) (brR (decide (i_5 < (((List.length b_2) : Nat) : Int))) (brR (inR i_5 (List.length b_2)) (brR (roomy ((List.length out_3) + (1 : Nat)) (Ty.int IntKind.i64)) (again_0 (a_1, (b_2, ((List.append out_3 [(IntKind.wrap (IntKind.i64) (((BitVec.toNat ((BitVec.ofInt (64 : Nat) v_8) &&& (BitVec.ofInt (64 : Nat) (65535 : Int)))) : Nat) : Int))]), ((Int.fdiv v_8 (65536 : Int)), ((IntKind.wrap (IntKind.i64) (i_5 + (1 : Int))), ())))))) none) none) (brR (roomy ((List.length out_3) + (1 : Nat)) (Ty.int IntKind.i64)) (again_0 (a_1, (b_2, ((List.append out_3 [(IntKind.wrap (IntKind.i64) (((BitVec.toNat ((BitVec.ofInt (64 : Nat) v_6) &&& (BitVec.ofInt (64 : Nat) (65535 : Int)))) : Nat) : Int))]), ((Int.fdiv v_6 (65536 : Int)), ((IntKind.wrap (IntKind.i64) (i_5 + (1 : Int))), ())))))) none)) none) (brR (decide (i_5 < (((List.length b_2) : Nat) : Int))) (brR (inR i_5 (List.length b_2)) (brR (roomy ((List.length out_3) + (1 : Nat)) (Ty.int IntKind.i64)) (again_0 (a_1, (b_2, ((List.append out_3 [(IntKind.wrap (IntKind.i64) (((BitVec.toNat ((BitVec.ofInt (64 : Nat) v_7) &&& (BitVec.ofInt (64 : Nat) (65535 : Int)))) : Nat) : Int))]), ((Int.fdiv v_7 (65536 : Int)), ((IntKind.wrap (IntKind.i64) (i_5 + (1 : Int))), ())))))) none) none) (brR (roomy ((List.length out_3) + (1 : Nat)) (Ty.int IntKind.i64)) (again_0 (a_1, (b_2, ((List.append out_3 [(IntKind.wrap (IntKind.i64) (((BitVec.toNat ((BitVec.ofInt (64 : Nat) over_4) &&& (BitVec.ofInt (64 : Nat) (65535 : Int)))) : Nat) : Int))]), ((Int.fdiv over_4 (65536 : Int)), ((IntKind.wrap (IntKind.i64) (i_5 + (1 : Int))), ())))))) none))) (brR (decide (i_5 < (((List.length b_2) : Nat) : Int))) (brR (decide (i_5 < (((List.length a_1) : Nat) : Int))) (brR (inR i_5 (List.length a_1)) (brR (decide (i_5 < (((List.length b_2) : Nat) : Int))) (brR (inR i_5 (List.length b_2)) (brR (roomy ((List.length out_3) + (1 : Nat)) (Ty.int IntKind.i64)) (again_0 (a_1, (b_2, ((List.append out_3 [(IntKind.wrap (IntKind.i64) (((BitVec.toNat ((BitVec.ofInt (64 : Nat) v_8) &&& (BitVec.ofInt (64 : Nat) (65535 : Int)))) : Nat) : Int))]), ((Int.fdiv v_8 (65536 : Int)), ((IntKind.wrap (IntKind.i64) (i_5 + (1 : Int))), ())))))) none) none) (brR (roomy ((List.length out_3) + (1 : Nat)) (Ty.int IntKind.i64)) (again_0 (a_1, (b_2, ((List.append out_3 [(IntKind.wrap (IntKind.i64) (((BitVec.toNat ((BitVec.ofInt (64 : Nat) v_6) &&& (BitVec.ofInt (64 : Nat) (65535 : Int)))) : Nat) : Int))]), ((Int.fdiv v_6 (65536 : Int)), ((IntKind.wrap (IntKind.i64) (i_5 + (1 : Int))), ())))))) none)) none) (brR (decide (i_5 < (((List.length b_2) : Nat) : Int))) (brR (inR i_5 (List.length b_2)) (brR (roomy ((List.length out_3) + (1 : Nat)) (Ty.int IntKind.i64)) (again_0 (a_1, (b_2, ((List.append out_3 [(IntKind.wrap (IntKind.i64) (((BitVec.toNat ((BitVec.ofInt (64 : Nat) v_7) &&& (BitVec.ofInt (64 : Nat) (65535 : Int)))) : Nat) : Int))]), ((Int.fdiv v_7 (65536 : Int)), ((IntKind.wrap (IntKind.i64) (i_5 + (1 : Int))), ())))))) none) none) (brR (roomy ((List.length out_3) + (1 : Nat)) (Ty.int IntKind.i64)) (again_0 (a_1, (b_2, ((List.append out_3 [(IntKind.wrap (IntKind.i64) (((BitVec.toNat ((BitVec.ofInt (64 : Nat) over_4) &&& (BitVec.ofInt (64 : Nat) (65535 : Int)))) : Nat) : Int))]), ((Int.fdiv over_4 (65536 : Int)), ((IntKind.wrap (IntKind.i64) (i_5 + (1 : Int))), ())))))) none))) (brR (decide (over_4 > (0 : Int))) (brR (decide (i_5 < (((List.length a_1) : Nat) : Int))) (brR (inR i_5 (List.length a_1)) (brR (decide (i_5 < (((List.length b_2) : Nat) : Int))) (brR (inR i_5 (List.length b_2)) (brR (roomy ((List.length out_3) + (1 : Nat)) (Ty.int IntKind.i64)) (again_0 (a_1, (b_2, ((List.append out_3 [(IntKind.wrap (IntKind.i64) (((BitVec.toNat ((BitVec.ofInt (64 : Nat) v_8) &&& (BitVec.ofInt (64 : Nat) (65535 : Int)))) : Nat) : Int))]), ((Int.fdiv v_8 (65536 : Int)), ((IntKind.wrap (IntKind.i64) (i_5 + (1 : Int))), ())))))) none) none) (brR (roomy ((List.length out_3) + (1 : Nat)) (Ty.int IntKind.i64)) (again_0 (a_1, (b_2, ((List.append out_3 [(IntKind.wrap (IntKind.i64) (((BitVec.toNat ((BitVec.ofInt (64 : Nat) v_6) &&& (BitVec.ofInt (64 : Nat) (65535 : Int)))) : Nat) : Int))]), ((Int.fdiv v_6 (65536 : Int)), ((IntKind.wrap (IntKind.i64) (i_5 + (1 : Int))), ())))))) none)) none) (brR (decide (i_5 < (((List.length b_2) : Nat) : Int))) (brR (inR i_5 (List.length b_2)) (brR (roomy ((List.length out_3) + (1 : Nat)) (Ty.int IntKind.i64)) (again_0 (a_1, (b_2, ((List.append out_3 [(IntKind.wrap (IntKind.i64) (((BitVec.toNat ((BitVec.ofInt (64 : Nat) v_7) &&& (BitVec.ofInt (64 : Nat) (65535 : Int)))) : Nat) : Int))]), ((Int.fdiv v_7 (65536 : Int)), ((IntKind.wrap (IntKind.i64) (i_5 + (1 : Int))), ())))))) none) none) (brR (roomy ((List.length out_3) + (1 : Nat)) (Ty.int IntKind.i64)) (again_0 (a_1, (b_2, ((List.append out_3 [(IntKind.wrap (IntKind.i64) (((BitVec.toNat ((BitVec.ofInt (64 : Nat) over_4) &&& (BitVec.ofInt (64 : Nat) (65535 : Int)))) : Nat) : Int))]), ((Int.fdiv over_4 (65536 : Int)), ((IntKind.wrap (IntKind.i64) (i_5 + (1 : Int))), ())))))) none))) (some ((out_3, ()), ((), ((), ()))))))))))
noncomputable def T_ref1_Add (L : LoopD) (a_ : (List Int)) (b_ : (List Int)) : Option (((List Int) × Unit) × (Unit × (Unit × Unit))) := (L _ _ (fun again x => T_ref1_Add_loop0 again x.1 x.2.1 x.2.2.1 x.2.2.2.1 x.2.2.2.2.1) (a_, (b_, (([] : List Int), ((0 : Int), ((0 : Int), ()))))))
noncomputable def sol_ref1_Add : F_ref1_Add := fun x => T_ref1_Add bigLoop x.1 x.2.1
abbrev s_ref1_Fits : Sig := ⟨[(.ro false (.slice (.int .i64)))], [(.ro true .bool)]⟩
abbrev F_ref1_Fits := ((List Int) × Unit) → Option ((Bool × Unit) × (Unit × Unit))
noncomputable def T_ref1_Fits (L : LoopD) (b_ : (List Int)) : Option ((Bool × Unit) × (Unit × Unit)) := (some (((decide ((((List.length b_) : Nat) : Int) ≤ (16 : Int))), ()), ((), ())))
noncomputable def sol_ref1_Fits : F_ref1_Fits := fun x => T_ref1_Fits bigLoop x.1
abbrev s_ref1_ToUint256 : Sig := ⟨[(.ro false (.slice (.int .i64)))], [(.ro true (.arr 4 (.int .u64)))]⟩
abbrev F_ref1_ToUint256 := ((List Int) × Unit) → Option (((List Int) × Unit) × (Unit × Unit))
noncomputable def T_ref1_ToUint256_loop0 (again_0 : ((List Int) × ((List Int) × ((List Int) × (Int × Unit)))) → Option (((List Int) × Unit) × (Unit × Unit))) (b_1 : (List Int)) (t2_2 : (List Int)) (a_3 : (List Int)) (i_4 : Int) : Option (((List Int) × Unit) × (Unit × Unit)) := (letR (IntKind.wrap (IntKind.u64) (IntKind.wrap (IntKind.i64) ((16 : Int) * (Int.tmod i_4 (4 : Int))))) fun (v_5 : Int) => (brR (decide (i_4 < (((List.length b_1) : Nat) : Int))) (brR (decide (i_4 < (16 : Int))) (brR (inR (IntKind.wrap (IntKind.i64) (Int.tdiv i_4 (4 : Int))) (4 : Nat)) (brR (inR i_4 (List.length b_1)) (brR (decide ((0 : Int) ≤ v_5)) (brR (inR (IntKind.wrap (IntKind.i64) (Int.tdiv i_4 (4 : Int))) (4 : Nat)) (again_0 (b_1, (t2_2, ((List.set a_3 (Int.toNat (IntKind.wrap (IntKind.i64) (Int.tdiv i_4 (4 : Int)))) (IntKind.wrap (IntKind.u64) ((List.getD a_3 (Int.toNat (IntKind.wrap (IntKind.i64) (Int.tdiv i_4 (4 : Int)))) (0 : Int)) + (IntKind.wrap (IntKind.u64) ((IntKind.wrap (IntKind.u64) (List.getD b_1 (Int.toNat i_4) (0 : Int))) * ((2 : Int) ^ (min (Int.toNat v_5) (64 : Nat)))))))), ((IntKind.wrap (IntKind.i64) (i_4 + (1 : Int))), ()))))) none) none) none) none) (some ((a_3, ()), ((), ())))) (some ((a_3, ()), ((), ())))))
noncomputable def T_ref1_ToUint256 (L : LoopD) (b_ : (List Int)) : Option (((List Int) × Unit) × (Unit × Unit)) := (L _ _ (fun again x => T_ref1_ToUint256_loop0 again x.1 x.2.1 x.2.2.1 x.2.2.2.1) (b_, ([(0 : Int), (0 : Int), (0 : Int), (0 : Int)], ([(0 : Int), (0 : Int), (0 : Int), (0 : Int)], ((0 : Int), ())))))
noncomputable def sol_ref1_ToUint256 : F_ref1_ToUint256 := fun x => T_ref1_ToUint256 bigLoop x.1
abbrev s_ref1_Cmp : Sig := ⟨[(.ro false (.slice (.int .i64))), (.ro false (.slice (.int .i64)))], [(.ro true (.int .i64))]⟩
abbrev F_ref1_Cmp := ((List Int) × ((List Int) × Unit)) → Option ((Int × Unit) × (Unit × (Unit × Unit)))
noncomputable def T_ref1_Cmp_loop0 (again_0 : ((List Int) × ((List Int) × (Int × Unit))) → Option ((Int × Unit) × (Unit × (Unit × Unit)))) (a_1 : (List Int)) (b_2 : (List Int)) (i_3 : Int) : Option ((Int × Unit) × (Unit × (Unit × Unit))) := (brR (decide (i_3 ≥ (0 : Int))) (brR (inR i_3 (List.length a_1)) (brR (inR i_3 (List.length b_2)) (brR (decide ((List.getD a_1 (Int.toNat i_3) (0 : Int)) < (List.getD b_2 (Int.toNat i_3) (0 : Int)))) (some (((-1 : Int), ()), ((), ((), ())))) (brR (inR i_3 (List.length a_1)) (brR (inR i_3 (List.length b_2)) (brR (decide ((List.getD a_1 (Int.toNat i_3) (0 : Int)) > (List.getD b_2 (Int.toNat i_3) (0 : Int)))) (some (((1 : Int), ()), ((), ((), ())))) (again_0 (a_1, (b_2, ((IntKind.wrap (IntKind.i64) (i_3 - (1 : Int))), ()))))) none) none)) none) none) (some (((0 : Int), ()), ((), ((), ())))))
noncomputable def T_ref1_Cmp (L : LoopD) (a_ : (List Int)) (b_ : (List Int)) : Option ((Int × Unit) × (Unit × (Unit × Unit))) := (brR (!(decide ((((List.length a_) : Nat) : Int) = (((List.length b_) : Nat) : Int)))) (brR (decide ((((List.length a_) : Nat) : Int) < (((List.length b_) : Nat) : Int))) (some (((-1 : Int), ()), ((), ((), ())))) (some (((1 : Int), ()), ((), ((), ()))))) (L _ _ (fun again x => T_ref1_Cmp_loop0 again x.1 x.2.1 x.2.2.1) (a_, (b_, ((IntKind.wrap (IntKind.i64) ((((List.length a_) : Nat) : Int) - (1 : Int))), ())))))
noncomputable def sol_ref1_Cmp : F_ref1_Cmp := fun x => T_ref1_Cmp bigLoop x.1 x.2.1
abbrev s_ref1_Sub : Sig := ⟨[(.ro false (.slice (.int .i64))), (.ro false (.slice (.int .i64)))], [(.ro false (.slice (.int .i64)))]⟩
abbrev F_ref1_Sub := ((List Int) × ((List Int) × Unit)) → Option (((List Int) × Unit) × (Unit × (Unit × Unit)))
noncomputable def T_ref1_Sub_loop0 (c_ref1_norm : F_ref1_norm) (again_0 : ((List Int) × ((List Int) × ((List Int) × (Int × (Int × Unit))))) → Option (((List Int) × Unit) × (Unit × (Unit × Unit)))) (a_1 : (List Int)) (b_2 : (List Int)) (out_3 : (List Int)) (under_4 : Int) (i_5 : Int) : Option (((List Int) × Unit) × (Unit × (Unit × Unit))) := (letR (IntKind.wrap (IntKind.i64) ((List.getD a_1 (Int.toNat i_5) (0 : Int)) - under_4)) fun (v_6 : Int) => (letR (IntKind.wrap (IntKind.i64) (v_6 - (List.getD b_2 (Int.toNat i_5) (0 : Int)))) fun (v_7 : Int) => (brR (decide (i_5 < (((List.length a_1) : Nat) : Int))) (brR (inR i_5 (List.length a_1)) (brR (decide (i_5 < (((List.length b_2) : Nat) : Int))) (brR (inR i_5 (List.length b_2)) (brR (decide (v_7 < (0 : Int))) (brR (inR i_5 (List.length out_3)) (again_0 (a_1, (b_2, ((List.set out_3 (Int.toNat i_5) (IntKind.wrap (IntKind.i64) (v_7 + (65536 : Int)))), ((1 : Int), ((IntKind.wrap (IntKind.i64) (i_5 + (1 : Int))), ())))))) none) (brR (inR i_5 (List.length out_3)) (again_0 (a_1, (b_2, ((List.set out_3 (Int.toNat i_5) v_7), ((0 : Int), ((IntKind.wrap (IntKind.i64) (i_5 + (1 : Int))), ())))))) none)) none) (brR (decide (v_6 < (0 : Int))) (brR (inR i_5 (List.length out_3)) (again_0 (a_1, (b_2, ((List.set out_3 (Int.toNat i_5) (IntKind.wrap (IntKind.i64) (v_6 + (65536 : Int)))), ((1 : Int), ((IntKind.wrap (IntKind.i64) (i_5 + (1 : Int))), ())))))) none) (brR (inR i_5 (List.length out_3)) (again_0 (a_1, (b_2, ((List.set out_3 (Int.toNat i_5) v_6), ((0 : Int), ((IntKind.wrap (IntKind.i64) (i_5 + (1 : Int))), ())))))) none))) none) (Option.bind (c_ref1_norm (out_3, ())) (fun (y_8 : (((List Int) × Unit) × (Unit × Unit))) => (some ((y_8.1.1, ()), ((), ((), ())))))))))
noncomputable def T_ref1_Sub (L : LoopD) (c_ref1_norm : F_ref1_norm) (a_ : (List Int)) (b_ : (List Int)) : Option (((List Int) × Unit) × (Unit × (Unit × Unit))) := (brR ((((decide ((0 : Int) ≤ (((List.length a_) : Nat) : Int))) && (decide ((((List.length a_) : Nat) : Int) ≤ (((List.length a_) : Nat) : Int)))) && (roomy (Int.toNat (((List.length a_) : Nat) : Int)) (Ty.int IntKind.i64))) && true) (L _ _ (fun again x => T_ref1_Sub_loop0 c_ref1_norm again x.1 x.2.1 x.2.2.1 x.2.2.2.1 x.2.2.2.2.1) (a_, (b_, ((List.replicate (Int.toNat (((List.length a_) : Nat) : Int)) (0 : Int)), ((0 : Int), ((0 : Int), ())))))) none)
noncomputable def sol_ref1_Sub : F_ref1_Sub := fun x => T_ref1_Sub bigLoop sol_ref1_norm x.1 x.2.1
abbrev s_ref1_Sub256 : Sig := ⟨[(.ro true (.arr 4 (.int .u64))), (.ro true (.arr 4 (.int .u64)))], [(.ro true (.arr 4 (.int .u64))), (.ro true (.int .i64))]⟩
abbrev F_ref1_Sub256 := ((List Int) × ((List Int) × Unit)) → Option (((List Int) × (Int × Unit)) × (Unit × (Unit × Unit)))
noncomputable def T_ref1_Sub256 (L : LoopD) (c_ref1_FromUint256 : F_ref1_FromUint256) (c_ref1_Cmp : F_ref1_Cmp) (c_ref1_Sub : F_ref1_Sub) (c_ref1_ToUint256 : F_ref1_ToUint256) (a_ : (List Int)) (b_ : (List Int)) : Option (((List Int) × (Int × Unit)) × (Unit × (Unit × Unit))) := (Option.bind (c_ref1_FromUint256 (a_, ())) (fun (y_0 : (((List Int) × Unit) × (Unit × Unit))) => (Option.bind (c_ref1_FromUint256 (b_, ())) (fun (y_1 : (((List Int) × Unit) × (Unit × Unit))) => (Option.bind (c_ref1_Cmp (y_0.1.1, (y_1.1.1, ()))) (fun (y_2 : ((Int × Unit) × (Unit × (Unit × Unit)))) => (brR (decide (y_2.1.1 < (0 : Int))) (some (([(0 : Int), (0 : Int), (0 : Int), (0 : Int)], ((4 : Int), ())), ((), ((), ())))) (Option.bind (c_ref1_Sub (y_0.1.1, (y_1.1.1, ()))) (fun (y_3 : (((List Int) × Unit) × (Unit × (Unit × Unit)))) => (Option.bind (c_ref1_ToUint256 (y_3.1.1, ())) (fun (y_4 : (((List Int) × Unit) × (Unit × Unit))) => (some ((y_4.1.1, ((0 : Int), ())), ((), ((), ())))))))))))))))
noncomputable def sol_ref1_Sub256 : F_ref1_Sub256 := fun x => T_ref1_Sub256 bigLoop sol_ref1_FromUint256 sol_ref1_Cmp sol_ref1_Sub sol_ref1_ToUint256 x.1 x.2.1
abbrev s_ref1_IsZero : Sig := ⟨[(.ro true (.arr 4 (.int .u64)))], [(.ro true .bool)]⟩
abbrev F_ref1_IsZero := ((List Int) × Unit) → Option ((Bool × Unit) × (Unit × Unit))
noncomputable def T_ref1_IsZero (L : LoopD) (a_ : (List Int)) : Option ((Bool × Unit) × (Unit × Unit)) := (some (((eqD (Ty.arr 4 (Ty.int IntKind.u64)) a_ [(0 : Int), (0 : Int), (0 : Int), (0 : Int)]), ()), ((), ())))
noncomputable def sol_ref1_IsZero : F_ref1_IsZero := fun x => T_ref1_IsZero bigLoop x.1
end Go.Pon
set_option autoImplicit false
set_option linter.unusedVariables false
set_option maxRecDepth 100000
namespace Go.Pon
open Go
abbrev s_ref11_New : Sig := ⟨[], [(.ptr (.pair (.own false (.pair (.int .u64) (.pair (.arr 4 (.int .u64)) (.pair (.int .u64) .unit)))) (.pair (.ro true (.arr 4 (.arr 4 (.int .u64)))) (.ro true .unit))))]⟩
abbrev F_ref11_New := Unit → Option ((((List (Int × ((List Int) × (Int × Unit)))) × ((List (List Int)) × Unit)) × Unit) × Unit)
noncomputable def T_ref11_New (L : LoopD) : Option ((((List (Int × ((List Int) × (Int × Unit)))) × ((List (List Int)) × Unit)) × Unit) × Unit) := (some (((([] : List (Int × ((List Int) × (Int × Unit)))), ([[(0 : Int), (0 : Int), (0 : Int), (0 : Int)], [(0 : Int), (0 : Int), (0 : Int), (0 : Int)], [(0 : Int), (0 : Int), (0 : Int), (0 : Int)], [(0 : Int), (0 : Int), (0 : Int), (0 : Int)]], ())), ()), ()))
noncomputable def sol_ref11_New : F_ref11_New := fun x => T_ref11_New bigLoop
abbrev s_ref11_Ledger_Supply : Sig := ⟨[(.ptr (.pair (.own false (.pair (.int .u64) (.pair (.arr 4 (.int .u64)) (.pair (.int .u64) .unit)))) (.pair (.ro true (.arr 4 (.arr 4 (.int .u64)))) (.ro true .unit))))], [(.own true (.int .i64))]⟩
abbrev F_ref11_Ledger_Supply := (((List (Int × ((List Int) × (Int × Unit)))) × ((List (List Int)) × Unit)) × Unit) → Option (((List Int) × Unit) × (((List (Int × ((List Int) × (Int × Unit)))) × ((List (List Int)) × Unit)) × Unit))
noncomputable def T_ref11_Ledger_Supply_loop1 (c_ref1_FromUint256 : F_ref1_FromUint256) (c_ref1_Add : F_ref1_Add) (again_7 : (((List (Int × ((List Int) × (Int × Unit)))) × ((List (List Int)) × Unit)) × ((List Int) × (Int × Unit))) → Option (((List Int) × Unit) × (((List (Int × ((List Int) × (Int × Unit)))) × ((List (List Int)) × Unit)) × Unit))) (l_8 : ((List (Int × ((List Int) × (Int × Unit)))) × ((List (List Int)) × Unit))) (s_9 : (List Int)) (i_10 : Int) : Option (((List Int) × Unit) × (((List (Int × ((List Int) × (Int × Unit)))) × ((List (List Int)) × Unit)) × Unit)) := (brR (decide (i_10 < (4 : Int))) (brR (inR i_10 (4 : Nat)) (Option.bind (c_ref1_FromUint256 ((List.getD l_8.2.1 (Int.toNat i_10) [(0 : Int), (0 : Int), (0 : Int), (0 : Int)]), ())) (fun (y_11 : (((List Int) × Unit) × (Unit × Unit))) => (Option.bind (c_ref1_Add (s_9, (y_11.1.1, ()))) (fun (y_12 : (((List Int) × Unit) × (Unit × (Unit × Unit)))) => (again_7 ((l_8.1, (l_8.2.1, l_8.2.2)), (y_12.1.1, ((IntKind.wrap (IntKind.i64) (i_10 + (1 : Int))), ())))))))) none) (some ((s_9, ()), ((l_8.1, (l_8.2.1, l_8.2.2)), ()))))
noncomputable def T_ref11_Ledger_Supply_loop0 (L : LoopD) (c_ref1_FromUint256 : F_ref1_FromUint256) (c_ref1_Add : F_ref1_Add) (again_0 : (((List (Int × ((List Int) × (Int × Unit)))) × ((List (List Int)) × Unit)) × ((List Int) × (Int × Unit))) → Option (((List Int) × Unit) × (((List (Int × ((List Int) × (Int × Unit)))) × ((List (List Int)) × Unit)) × Unit))) (l_1 : ((List (Int × ((List Int) × (Int × Unit)))) × ((List (List Int)) × Unit))) (s_2 : (List Int)) (i_3 : Int) : Option (((List Int) × Unit) × (((List (Int × ((List Int) × (Int × Unit)))) × ((List (List Int)) × Unit)) × Unit)) := (letR (List.length l_1.1) fun (v_4 : Nat) => (brR (decide (i_3 < ((v_4 : Nat) : Int))) (brR (inR i_3 v_4) (Option.bind (c_ref1_FromUint256 ((List.getD l_1.1 (Int.toNat i_3) (Ty.zero ((Ty.int IntKind.u64).pair ((Ty.arr 4 (Ty.int IntKind.u64)).pair ((Ty.int IntKind.u64).pair Ty.unit))))).2.1, ())) (fun (y_5 : (((List Int) × Unit) × (Unit × Unit))) => (Option.bind (c_ref1_Add (s_2, (y_5.1.1, ()))) (fun (y_6 : (((List Int) × Unit) × (Unit × (Unit × Unit)))) => (again_0 ((l_1.1, (l_1.2.1, l_1.2.2)), (y_6.1.1, ((IntKind.wrap (IntKind.i64) (i_3 + (1 : Int))), ())))))))) none) (L _ _ (fun again x => T_ref11_Ledger_Supply_loop1 c_ref1_FromUint256 c_ref1_Add again x.1 x.2.1 x.2.2.1) ((l_1.1, (l_1.2.1, l_1.2.2)), (s_2, ((0 : Int), ()))))))
noncomputable def T_ref11_Ledger_Supply (L : LoopD) (c_ref1_FromUint256 : F_ref1_FromUint256) (c_ref1_Add : F_ref1_Add) (l_ : ((List (Int × ((List Int) × (Int × Unit)))) × ((List (List Int)) × Unit))) : Option (((List Int) × Unit) × (((List (Int × ((List Int) × (Int × Unit)))) × ((List (List Int)) × Unit)) × Unit)) := (L _ _ (fun again x => T_ref11_Ledger_Supply_loop0 L c_ref1_FromUint256 c_ref1_Add again x.1 x.2.1 x.2.2.1) ((l_.1, (l_.2.1, l_.2.2)), (([] : List Int), ((0 : Int), ()))))
noncomputable def sol_ref11_Ledger_Supply : F_ref11_Ledger_Supply := fun x => T_ref11_Ledger_Supply bigLoop sol_ref1_FromUint256 sol_ref1_Add x.1
abbrev s_ref11_Ledger_at : Sig := ⟨[(.ptr (.pair (.own false (.pair (.int .u64) (.pair (.arr 4 (.int .u64)) (.pair (.int .u64) .unit)))) (.pair (.ro true (.arr 4 (.arr 4 (.int .u64)))) (.ro true .unit)))), (.ro true (.int .u64))], [(.ro true (.int .i64))]⟩
abbrev F_ref11_Ledger_at := (((List (Int × ((List Int) × (Int × Unit)))) × ((List (List Int)) × Unit)) × (Int × Unit)) → Option ((Int × Unit) × (((List (Int × ((List Int) × (Int × Unit)))) × ((List (List Int)) × Unit)) × (Unit × Unit)))
noncomputable def T_ref11_Ledger_at_loop0 (again_0 : (((List (Int × ((List Int) × (Int × Unit)))) × ((List (List Int)) × Unit)) × (Int × (Int × Unit))) → Option ((Int × Unit) × (((List (Int × ((List Int) × (Int × Unit)))) × ((List (List Int)) × Unit)) × (Unit × Unit)))) (l_1 : ((List (Int × ((List Int) × (Int × Unit)))) × ((List (List Int)) × Unit))) (a_2 : Int) (i_3 : Int) : Option ((Int × Unit) × (((List (Int × ((List Int) × (Int × Unit)))) × ((List (List Int)) × Unit)) × (Unit × Unit))) := (letR (List.length l_1.1) fun (v_4 : Nat) => (brR (decide (i_3 < ((v_4 : Nat) : Int))) (brR (inR i_3 v_4) (brR (decide ((List.getD l_1.1 (Int.toNat i_3) (Ty.zero ((Ty.int IntKind.u64).pair ((Ty.arr 4 (Ty.int IntKind.u64)).pair ((Ty.int IntKind.u64).pair Ty.unit))))).1 = a_2)) (some ((i_3, ()), ((l_1.1, (l_1.2.1, l_1.2.2)), ((), ())))) (again_0 ((l_1.1, (l_1.2.1, l_1.2.2)), (a_2, ((IntKind.wrap (IntKind.i64) (i_3 + (1 : Int))), ()))))) none) (some (((-1 : Int), ()), ((l_1.1, (l_1.2.1, l_1.2.2)), ((), ()))))))
noncomputable def T_ref11_Ledger_at (L : LoopD) (l_ : ((List (Int × ((List Int) × (Int × Unit)))) × ((List (List Int)) × Unit))) (a_ : Int) : Option ((Int × Unit) × (((List (Int × ((List Int) × (Int × Unit)))) × ((List (List Int)) × Unit)) × (Unit × Unit))) := (L _ _ (fun again x => T_ref11_Ledger_at_loop0 again x.1 x.2.1 x.2.2.1) ((l_.1, (l_.2.1, l_.2.2)), (a_, ((0 : Int), ()))))
noncomputable def sol_ref11_Ledger_at : F_ref11_Ledger_at := fun x => T_ref11_Ledger_at bigLoop x.1 x.2.1
abbrev s_ref11_Ledger_Get : Sig := ⟨[(.ptr (.pair (.own false (.pair (.int .u64) (.pair (.arr 4 (.int .u64)) (.pair (.int .u64) .unit)))) (.pair (.ro true (.arr 4 (.arr 4 (.int .u64)))) (.ro true .unit)))), (.ro true (.int .u64))], [(.ro true (.pair (.int .u64) (.pair (.arr 4 (.int .u64)) (.pair (.int .u64) .unit))))]⟩
abbrev F_ref11_Ledger_Get := (((List (Int × ((List Int) × (Int × Unit)))) × ((List (List Int)) × Unit)) × (Int × Unit)) → Option (((Int × ((List Int) × (Int × Unit))) × Unit) × (((List (Int × ((List Int) × (Int × Unit)))) × ((List (List Int)) × Unit)) × (Unit × Unit)))
noncomputable def T_ref11_Ledger_Get (L : LoopD) (c_ref11_Ledger_at : F_ref11_Ledger_at) (l_ : ((List (Int × ((List Int) × (Int × Unit)))) × ((List (List Int)) × Unit))) (a_ : Int) : Option (((Int × ((List Int) × (Int × Unit))) × Unit) × (((List (Int × ((List Int) × (Int × Unit)))) × ((List (List Int)) × Unit)) × (Unit × Unit))) := (Option.bind (c_ref11_Ledger_at ((l_.1, (l_.2.1, l_.2.2)), (a_, ()))) (fun (y_0 : ((Int × Unit) × (((List (Int × ((List Int) × (Int × Unit)))) × ((List (List Int)) × Unit)) × (Unit × Unit)))) => (brR (decide (y_0.1.1 ≥ (0 : Int))) (brR (inR y_0.1.1 (List.length y_0.2.1.1)) (some (((List.getD y_0.2.1.1 (Int.toNat y_0.1.1) ((0 : Int), ([(0 : Int), (0 : Int), (0 : Int), (0 : Int)], ((0 : Int), ())))), ()), ((y_0.2.1.1, (y_0.2.1.2.1, y_0.2.1.2.2)), ((), ())))) none) (some (((a_, ([(0 : Int), (0 : Int), (0 : Int), (0 : Int)], ((0 : Int), ()))), ()), ((y_0.2.1.1, (y_0.2.1.2.1, y_0.2.1.2.2)), ((), ())))))))
noncomputable def sol_ref11_Ledger_Get : F_ref11_Ledger_Get := fun x => T_ref11_Ledger_Get bigLoop sol_ref11_Ledger_at x.1 x.2.1
abbrev s_ref11_Ledger_put : Sig := ⟨[(.ptr (.pair (.own false (.pair (.int .u64) (.pair (.arr 4 (.int .u64)) (.pair (.int .u64) .unit)))) (.pair (.ro true (.arr 4 (.arr 4 (.int .u64)))) (.ro true .unit)))), (.ro true (.pair (.int .u64) (.pair (.arr 4 (.int .u64)) (.pair (.int .u64) .unit))))], []⟩
abbrev F_ref11_Ledger_put := (((List (Int × ((List Int) × (Int × Unit)))) × ((List (List Int)) × Unit)) × ((Int × ((List Int) × (Int × Unit))) × Unit)) → Option (Unit × (((List (Int × ((List Int) × (Int × Unit)))) × ((List (List Int)) × Unit)) × (Unit × Unit)))
noncomputable def T_ref11_Ledger_put (L : LoopD) (c_ref11_Ledger_at : F_ref11_Ledger_at) (l_ : ((List (Int × ((List Int) × (Int × Unit)))) × ((List (List Int)) × Unit))) (x_ : (Int × ((List Int) × (Int × Unit)))) : Option (Unit × (((List (Int × ((List Int) × (Int × Unit)))) × ((List (List Int)) × Unit)) × (Unit × Unit))) := (Option.bind (c_ref11_Ledger_at ((l_.1, (l_.2.1, l_.2.2)), (x_.1, ()))) (fun (y_0 : ((Int × Unit) × (((List (Int × ((List Int) × (Int × Unit)))) × ((List (List Int)) × Unit)) × (Unit × Unit)))) => (letR (List.length y_0.2.1.1) fun (v_1 : Nat) => (brR (decide (y_0.1.1 ≥ (0 : Int))) (brR (inR y_0.1.1 v_1) (some ((), (((List.set y_0.2.1.1 (Int.toNat y_0.1.1) x_), (y_0.2.1.2.1, y_0.2.1.2.2)), ((), ())))) none) (brR (roomy (v_1 + (1 : Nat)) ((Ty.int IntKind.u64).pair ((Ty.arr 4 (Ty.int IntKind.u64)).pair ((Ty.int IntKind.u64).pair Ty.unit)))) (some ((), (((List.append y_0.2.1.1 [x_]), (y_0.2.1.2.1, y_0.2.1.2.2)), ((), ())))) none)))))
noncomputable def sol_ref11_Ledger_put : F_ref11_Ledger_put := fun x => T_ref11_Ledger_put bigLoop sol_ref11_Ledger_at x.1 x.2.1
abbrev s_ref11_Ledger_credit : Sig := ⟨[(.ptr (.pair (.own false (.pair (.int .u64) (.pair (.arr 4 (.int .u64)) (.pair (.int .u64) .unit)))) (.pair (.ro true (.arr 4 (.arr 4 (.int .u64)))) (.ro true .unit)))), (.ro true (.int .u64)), (.ro true (.arr 4 (.int .u64)))], []⟩
abbrev F_ref11_Ledger_credit := (((List (Int × ((List Int) × (Int × Unit)))) × ((List (List Int)) × Unit)) × (Int × ((List Int) × Unit))) → Option (Unit × (((List (Int × ((List Int) × (Int × Unit)))) × ((List (List Int)) × Unit)) × (Unit × (Unit × Unit))))
noncomputable def T_ref11_Ledger_credit (L : LoopD) (c_ref11_Ledger_Get : F_ref11_Ledger_Get) (c_ref1_FromUint256 : F_ref1_FromUint256) (c_ref1_Add : F_ref1_Add) (c_ref1_ToUint256 : F_ref1_ToUint256) (c_ref11_Ledger_put : F_ref11_Ledger_put) (l_ : ((List (Int × ((List Int) × (Int × Unit)))) × ((List (List Int)) × Unit))) (a_ : Int) (n_ : (List Int)) : Option (Unit × (((List (Int × ((List Int) × (Int × Unit)))) × ((List (List Int)) × Unit)) × (Unit × (Unit × Unit)))) := (Option.bind (c_ref11_Ledger_Get ((l_.1, (l_.2.1, l_.2.2)), (a_, ()))) (fun (y_0 : (((Int × ((List Int) × (Int × Unit))) × Unit) × (((List (Int × ((List Int) × (Int × Unit)))) × ((List (List Int)) × Unit)) × (Unit × Unit)))) => (Option.bind (c_ref1_FromUint256 (y_0.1.1.2.1, ())) (fun (y_1 : (((List Int) × Unit) × (Unit × Unit))) => (Option.bind (c_ref1_FromUint256 (n_, ())) (fun (y_2 : (((List Int) × Unit) × (Unit × Unit))) => (Option.bind (c_ref1_Add (y_1.1.1, (y_2.1.1, ()))) (fun (y_3 : (((List Int) × Unit) × (Unit × (Unit × Unit)))) => (Option.bind (c_ref1_ToUint256 (y_3.1.1, ())) (fun (y_4 : (((List Int) × Unit) × (Unit × Unit))) => (Option.bind (c_ref11_Ledger_put ((y_0.2.1.1, (y_0.2.1.2.1, y_0.2.1.2.2)), ((y_0.1.1.1, (y_4.1.1, y_0.1.1.2.2)), ()))) (fun (y_5 : (Unit × (((List (Int × ((List Int) × (Int × Unit)))) × ((List (List Int)) × Unit)) × (Unit × Unit)))) => (some ((), ((y_5.2.1.1, (y_5.2.1.2.1, y_5.2.1.2.2)), ((), ((), ())))))))))))))))))
noncomputable def sol_ref11_Ledger_credit : F_ref11_Ledger_credit := fun x => T_ref11_Ledger_credit bigLoop sol_ref11_Ledger_Get sol_ref1_FromUint256 sol_ref1_Add sol_ref1_ToUint256 sol_ref11_Ledger_put x.1 x.2.1 x.2.2.1
abbrev s_ref11_Ledger_Mint : Sig := ⟨[(.ptr (.pair (.own false (.pair (.int .u64) (.pair (.arr 4 (.int .u64)) (.pair (.int .u64) .unit)))) (.pair (.ro true (.arr 4 (.arr 4 (.int .u64)))) (.ro true .unit)))), (.ro true (.int .u64)), (.ro true (.arr 4 (.int .u64)))], [(.ro true (.int .i64))]⟩
abbrev F_ref11_Ledger_Mint := (((List (Int × ((List Int) × (Int × Unit)))) × ((List (List Int)) × Unit)) × (Int × ((List Int) × Unit))) → Option ((Int × Unit) × (((List (Int × ((List Int) × (Int × Unit)))) × ((List (List Int)) × Unit)) × (Unit × (Unit × Unit))))
noncomputable def T_ref11_Ledger_Mint (L : LoopD) (c_ref11_Ledger_Supply : F_ref11_Ledger_Supply) (c_ref1_FromUint256 : F_ref1_FromUint256) (c_ref1_Add : F_ref1_Add) (c_ref1_Fits : F_ref1_Fits) (c_ref11_Ledger_credit : F_ref11_Ledger_credit) (l_ : ((List (Int × ((List Int) × (Int × Unit)))) × ((List (List Int)) × Unit))) (a_ : Int) (n_ : (List Int)) : Option ((Int × Unit) × (((List (Int × ((List Int) × (Int × Unit)))) × ((List (List Int)) × Unit)) × (Unit × (Unit × Unit)))) := (brR (decide (a_ = (0 : Int))) (some (((2 : Int), ()), ((l_.1, (l_.2.1, l_.2.2)), ((), ((), ()))))) (Option.bind (c_ref11_Ledger_Supply ((l_.1, (l_.2.1, l_.2.2)), ())) (fun (y_0 : (((List Int) × Unit) × (((List (Int × ((List Int) × (Int × Unit)))) × ((List (List Int)) × Unit)) × Unit))) => (Option.bind (c_ref1_FromUint256 (n_, ())) (fun (y_1 : (((List Int) × Unit) × (Unit × Unit))) => (Option.bind (c_ref1_Add (y_0.1.1, (y_1.1.1, ()))) (fun (y_2 : (((List Int) × Unit) × (Unit × (Unit × Unit)))) => (Option.bind (c_ref1_Fits (y_2.1.1, ())) (fun (y_3 : ((Bool × Unit) × (Unit × Unit))) => (brR (!y_3.1.1) (some (((4 : Int), ()), ((y_0.2.1.1, (y_0.2.1.2.1, y_0.2.1.2.2)), ((), ((), ()))))) (Option.bind (c_ref11_Ledger_credit ((y_0.2.1.1, (y_0.2.1.2.1, y_0.2.1.2.2)), (a_, (n_, ())))) (fun (y_4 : (Unit × (((List (Int × ((List Int) × (Int × Unit)))) × ((List (List Int)) × Unit)) × (Unit × (Unit × Unit))))) => (some (((0 : Int), ()), ((y_4.2.1.1, (y_4.2.1.2.1, y_4.2.1.2.2)), ((), ((), ())))))))))))))))))
noncomputable def sol_ref11_Ledger_Mint : F_ref11_Ledger_Mint := fun x => T_ref11_Ledger_Mint bigLoop sol_ref11_Ledger_Supply sol_ref1_FromUint256 sol_ref1_Add sol_ref1_Fits sol_ref11_Ledger_credit x.1 x.2.1 x.2.2.1
abbrev s_ref11_Ledger_debit : Sig := ⟨[(.ptr (.pair (.own false (.pair (.int .u64) (.pair (.arr 4 (.int .u64)) (.pair (.int .u64) .unit)))) (.pair (.ro true (.arr 4 (.arr 4 (.int .u64)))) (.ro true .unit)))), (.ro true (.int .u64)), (.ro true (.arr 4 (.int .u64)))], [(.ro true .bool)]⟩
abbrev F_ref11_Ledger_debit := (((List (Int × ((List Int) × (Int × Unit)))) × ((List (List Int)) × Unit)) × (Int × ((List Int) × Unit))) → Option ((Bool × Unit) × (((List (Int × ((List Int) × (Int × Unit)))) × ((List (List Int)) × Unit)) × (Unit × (Unit × Unit))))
noncomputable def T_ref11_Ledger_debit (L : LoopD) (c_ref11_Ledger_Get : F_ref11_Ledger_Get) (c_ref1_Sub256 : F_ref1_Sub256) (c_ref11_Ledger_put : F_ref11_Ledger_put) (l_ : ((List (Int × ((List Int) × (Int × Unit)))) × ((List (List Int)) × Unit))) (a_ : Int) (n_ : (List Int)) : Option ((Bool × Unit) × (((List (Int × ((List Int) × (Int × Unit)))) × ((List (List Int)) × Unit)) × (Unit × (Unit × Unit)))) := (Option.bind (c_ref11_Ledger_Get ((l_.1, (l_.2.1, l_.2.2)), (a_, ()))) (fun (y_0 : (((Int × ((List Int) × (Int × Unit))) × Unit) × (((List (Int × ((List Int) × (Int × Unit)))) × ((List (List Int)) × Unit)) × (Unit × Unit)))) => (Option.bind (c_ref1_Sub256 (y_0.1.1.2.1, (n_, ()))) (fun (y_1 : (((List Int) × (Int × Unit)) × (Unit × (Unit × Unit)))) => (brR (!(decide (y_1.1.2.1 = (0 : Int)))) (some ((false, ()), ((y_0.2.1.1, (y_0.2.1.2.1, y_0.2.1.2.2)), ((), ((), ()))))) (Option.bind (c_ref11_Ledger_put ((y_0.2.1.1, (y_0.2.1.2.1, y_0.2.1.2.2)), ((y_0.1.1.1, (y_1.1.1, y_0.1.1.2.2)), ()))) (fun (y_2 : (Unit × (((List (Int × ((List Int) × (Int × Unit)))) × ((List (List Int)) × Unit)) × (Unit × Unit)))) => (some ((true, ()), ((y_2.2.1.1, (y_2.2.1.2.1, y_2.2.1.2.2)), ((), ((), ()))))))))))))
noncomputable def sol_ref11_Ledger_debit : F_ref11_Ledger_debit := fun x => T_ref11_Ledger_debit bigLoop sol_ref11_Ledger_Get sol_ref1_Sub256 sol_ref11_Ledger_put x.1 x.2.1 x.2.2.1
abbrev s_ref11_Ledger_Transfer : Sig := ⟨[(.ptr (.pair (.own false (.pair (.int .u64) (.pair (.arr 4 (.int .u64)) (.pair (.int .u64) .unit)))) (.pair (.ro true (.arr 4 (.arr 4 (.int .u64)))) (.ro true .unit)))), (.ro true (.int .u64)), (.ro true (.int .u64)), (.ro true (.arr 4 (.int .u64)))], [(.ro true (.int .i64))]⟩
abbrev F_ref11_Ledger_Transfer := (((List (Int × ((List Int) × (Int × Unit)))) × ((List (List Int)) × Unit)) × (Int × (Int × ((List Int) × Unit)))) → Option ((Int × Unit) × (((List (Int × ((List Int) × (Int × Unit)))) × ((List (List Int)) × Unit)) × (Unit × (Unit × (Unit × Unit)))))
noncomputable def T_ref11_Ledger_Transfer (L : LoopD) (c_ref11_Ledger_debit : F_ref11_Ledger_debit) (c_ref11_Ledger_credit : F_ref11_Ledger_credit) (l_ : ((List (Int × ((List Int) × (Int × Unit)))) × ((List (List Int)) × Unit))) (a_ : Int) (b_ : Int) (n_ : (List Int)) : Option ((Int × Unit) × (((List (Int × ((List Int) × (Int × Unit)))) × ((List (List Int)) × Unit)) × (Unit × (Unit × (Unit × Unit))))) := (brR (decide (a_ = (0 : Int))) (some (((2 : Int), ()), ((l_.1, (l_.2.1, l_.2.2)), ((), ((), ((), ())))))) (brR (decide (b_ = (0 : Int))) (some (((2 : Int), ()), ((l_.1, (l_.2.1, l_.2.2)), ((), ((), ((), ())))))) (Option.bind (c_ref11_Ledger_debit ((l_.1, (l_.2.1, l_.2.2)), (a_, (n_, ())))) (fun (y_0 : ((Bool × Unit) × (((List (Int × ((List Int) × (Int × Unit)))) × ((List (List Int)) × Unit)) × (Unit × (Unit × Unit))))) => (brR (!y_0.1.1) (some (((10 : Int), ()), ((y_0.2.1.1, (y_0.2.1.2.1, y_0.2.1.2.2)), ((), ((), ((), ())))))) (Option.bind (c_ref11_Ledger_credit ((y_0.2.1.1, (y_0.2.1.2.1, y_0.2.1.2.2)), (b_, (n_, ())))) (fun (y_1 : (Unit × (((List (Int × ((List Int) × (Int × Unit)))) × ((List (List Int)) × Unit)) × (Unit × (Unit × Unit))))) => (some (((0 : Int), ()), ((y_1.2.1.1, (y_1.2.1.2.1, y_1.2.1.2.2)), ((), ((), ((), ())))))))))))))
noncomputable def sol_ref11_Ledger_Transfer : F_ref11_Ledger_Transfer := fun x => T_ref11_Ledger_Transfer bigLoop sol_ref11_Ledger_debit sol_ref11_Ledger_credit x.1 x.2.1 x.2.2.1 x.2.2.2.1
abbrev s_ref11_Ledger_PayVault : Sig := ⟨[(.ptr (.pair (.own false (.pair (.int .u64) (.pair (.arr 4 (.int .u64)) (.pair (.int .u64) .unit)))) (.pair (.ro true (.arr 4 (.arr 4 (.int .u64)))) (.ro true .unit)))), (.ro true (.int .u64)), (.ro true (.int .i64)), (.ro true (.arr 4 (.int .u64)))], [(.ro true (.int .i64))]⟩
abbrev F_ref11_Ledger_PayVault := (((List (Int × ((List Int) × (Int × Unit)))) × ((List (List Int)) × Unit)) × (Int × (Int × ((List Int) × Unit)))) → Option ((Int × Unit) × (((List (Int × ((List Int) × (Int × Unit)))) × ((List (List Int)) × Unit)) × (Unit × (Unit × (Unit × Unit)))))
noncomputable def T_ref11_Ledger_PayVault (L : LoopD) (c_ref11_Ledger_debit : F_ref11_Ledger_debit) (c_ref1_FromUint256 : F_ref1_FromUint256) (c_ref1_Add : F_ref1_Add) (c_ref1_ToUint256 : F_ref1_ToUint256) (l_ : ((List (Int × ((List Int) × (Int × Unit)))) × ((List (List Int)) × Unit))) (a_ : Int) (v_ : Int) (n_ : (List Int)) : Option ((Int × Unit) × (((List (Int × ((List Int) × (Int × Unit)))) × ((List (List Int)) × Unit)) × (Unit × (Unit × (Unit × Unit))))) := (letR (IntKind.wrap (IntKind.i64) (v_ - (1 : Int))) fun (v_0 : Int) => (brR (decide (a_ = (0 : Int))) (some (((2 : Int), ()), ((l_.1, (l_.2.1, l_.2.2)), ((), ((), ((), ())))))) (brR (decide (v_ < (1 : Int))) (some (((2 : Int), ()), ((l_.1, (l_.2.1, l_.2.2)), ((), ((), ((), ())))))) (brR (decide (v_ > (4 : Int))) (some (((2 : Int), ()), ((l_.1, (l_.2.1, l_.2.2)), ((), ((), ((), ())))))) (Option.bind (c_ref11_Ledger_debit ((l_.1, (l_.2.1, l_.2.2)), (a_, (n_, ())))) (fun (y_1 : ((Bool × Unit) × (((List (Int × ((List Int) × (Int × Unit)))) × ((List (List Int)) × Unit)) × (Unit × (Unit × Unit))))) => (brR (!y_1.1.1) (some (((10 : Int), ()), ((y_1.2.1.1, (y_1.2.1.2.1, y_1.2.1.2.2)), ((), ((), ((), ())))))) (brR (inR v_0 (4 : Nat)) (Option.bind (c_ref1_FromUint256 ((List.getD y_1.2.1.2.1 (Int.toNat v_0) [(0 : Int), (0 : Int), (0 : Int), (0 : Int)]), ())) (fun (y_2 : (((List Int) × Unit) × (Unit × Unit))) => (Option.bind (c_ref1_FromUint256 (n_, ())) (fun (y_3 : (((List Int) × Unit) × (Unit × Unit))) => (Option.bind (c_ref1_Add (y_2.1.1, (y_3.1.1, ()))) (fun (y_4 : (((List Int) × Unit) × (Unit × (Unit × Unit)))) => (Option.bind (c_ref1_ToUint256 (y_4.1.1, ())) (fun (y_5 : (((List Int) × Unit) × (Unit × Unit))) => (brR (inR v_0 (4 : Nat)) (some (((0 : Int), ()), ((y_1.2.1.1, ((List.set y_1.2.1.2.1 (Int.toNat v_0) y_5.1.1), y_1.2.1.2.2)), ((), ((), ((), ())))))) none))))))))) none))))))))
noncomputable def sol_ref11_Ledger_PayVault : F_ref11_Ledger_PayVault := fun x => T_ref11_Ledger_PayVault bigLoop sol_ref11_Ledger_debit sol_ref1_FromUint256 sol_ref1_Add sol_ref1_ToUint256 x.1 x.2.1 x.2.2.1 x.2.2.2.1
abbrev s_ref11_Ledger_Withdraw : Sig := ⟨[(.ptr (.pair (.own false (.pair (.int .u64) (.pair (.arr 4 (.int .u64)) (.pair (.int .u64) .unit)))) (.pair (.ro true (.arr 4 (.arr 4 (.int .u64)))) (.ro true .unit)))), (.ro true (.int .u64)), (.ro true (.arr 4 (.int .u64)))], [(.ro true (.int .i64))]⟩
abbrev F_ref11_Ledger_Withdraw := (((List (Int × ((List Int) × (Int × Unit)))) × ((List (List Int)) × Unit)) × (Int × ((List Int) × Unit))) → Option ((Int × Unit) × (((List (Int × ((List Int) × (Int × Unit)))) × ((List (List Int)) × Unit)) × (Unit × (Unit × Unit))))
noncomputable def T_ref11_Ledger_Withdraw (L : LoopD) (c_ref11_Ledger_debit : F_ref11_Ledger_debit) (l_ : ((List (Int × ((List Int) × (Int × Unit)))) × ((List (List Int)) × Unit))) (a_ : Int) (n_ : (List Int)) : Option ((Int × Unit) × (((List (Int × ((List Int) × (Int × Unit)))) × ((List (List Int)) × Unit)) × (Unit × (Unit × Unit)))) := (brR (decide (a_ = (0 : Int))) (some (((2 : Int), ()), ((l_.1, (l_.2.1, l_.2.2)), ((), ((), ()))))) (Option.bind (c_ref11_Ledger_debit ((l_.1, (l_.2.1, l_.2.2)), (a_, (n_, ())))) (fun (y_0 : ((Bool × Unit) × (((List (Int × ((List Int) × (Int × Unit)))) × ((List (List Int)) × Unit)) × (Unit × (Unit × Unit))))) => (brR (!y_0.1.1) (some (((10 : Int), ()), ((y_0.2.1.1, (y_0.2.1.2.1, y_0.2.1.2.2)), ((), ((), ()))))) (some (((0 : Int), ()), ((y_0.2.1.1, (y_0.2.1.2.1, y_0.2.1.2.2)), ((), ((), ())))))))))
noncomputable def sol_ref11_Ledger_Withdraw : F_ref11_Ledger_Withdraw := fun x => T_ref11_Ledger_Withdraw bigLoop sol_ref11_Ledger_debit x.1 x.2.1 x.2.2.1
abbrev s_ref11_Ledger_WithdrawVault : Sig := ⟨[(.ptr (.pair (.own false (.pair (.int .u64) (.pair (.arr 4 (.int .u64)) (.pair (.int .u64) .unit)))) (.pair (.ro true (.arr 4 (.arr 4 (.int .u64)))) (.ro true .unit)))), (.ro true (.int .i64)), (.ro true (.arr 4 (.int .u64)))], [(.ro true (.int .i64))]⟩
abbrev F_ref11_Ledger_WithdrawVault := (((List (Int × ((List Int) × (Int × Unit)))) × ((List (List Int)) × Unit)) × (Int × ((List Int) × Unit))) → Option ((Int × Unit) × (((List (Int × ((List Int) × (Int × Unit)))) × ((List (List Int)) × Unit)) × (Unit × (Unit × Unit))))
noncomputable def T_ref11_Ledger_WithdrawVault (L : LoopD) (c_ref1_Sub256 : F_ref1_Sub256) (l_ : ((List (Int × ((List Int) × (Int × Unit)))) × ((List (List Int)) × Unit))) (v_ : Int) (n_ : (List Int)) : Option ((Int × Unit) × (((List (Int × ((List Int) × (Int × Unit)))) × ((List (List Int)) × Unit)) × (Unit × (Unit × Unit)))) := (letR (IntKind.wrap (IntKind.i64) (v_ - (1 : Int))) fun (v_0 : Int) => (brR (decide (v_ < (1 : Int))) (some (((2 : Int), ()), ((l_.1, (l_.2.1, l_.2.2)), ((), ((), ()))))) (brR (decide (v_ > (4 : Int))) (some (((2 : Int), ()), ((l_.1, (l_.2.1, l_.2.2)), ((), ((), ()))))) (brR (inR v_0 (4 : Nat)) (Option.bind (c_ref1_Sub256 ((List.getD l_.2.1 (Int.toNat v_0) [(0 : Int), (0 : Int), (0 : Int), (0 : Int)]), (n_, ()))) (fun (y_1 : (((List Int) × (Int × Unit)) × (Unit × (Unit × Unit)))) => (brR (!(decide (y_1.1.2.1 = (0 : Int)))) (some (((10 : Int), ()), ((l_.1, (l_.2.1, l_.2.2)), ((), ((), ()))))) (brR (inR v_0 (4 : Nat)) (some (((0 : Int), ()), ((l_.1, ((List.set l_.2.1 (Int.toNat v_0) y_1.1.1), l_.2.2)), ((), ((), ()))))) none)))) none))))
noncomputable def sol_ref11_Ledger_WithdrawVault : F_ref11_Ledger_WithdrawVault := fun x => T_ref11_Ledger_WithdrawVault bigLoop sol_ref1_Sub256 x.1 x.2.1 x.2.2.1
abbrev s_ref11_Ledger_IncrementNonce : Sig := ⟨[(.ptr (.pair (.own false (.pair (.int .u64) (.pair (.arr 4 (.int .u64)) (.pair (.int .u64) .unit)))) (.pair (.ro true (.arr 4 (.arr 4 (.int .u64)))) (.ro true .unit)))), (.ro true (.int .u64))], [(.ro true (.int .i64))]⟩
abbrev F_ref11_Ledger_IncrementNonce := (((List (Int × ((List Int) × (Int × Unit)))) × ((List (List Int)) × Unit)) × (Int × Unit)) → Option ((Int × Unit) × (((List (Int × ((List Int) × (Int × Unit)))) × ((List (List Int)) × Unit)) × (Unit × Unit)))
noncomputable def T_ref11_Ledger_IncrementNonce (L : LoopD) (c_ref11_Ledger_Get : F_ref11_Ledger_Get) (c_ref11_Ledger_put : F_ref11_Ledger_put) (l_ : ((List (Int × ((List Int) × (Int × Unit)))) × ((List (List Int)) × Unit))) (a_ : Int) : Option ((Int × Unit) × (((List (Int × ((List Int) × (Int × Unit)))) × ((List (List Int)) × Unit)) × (Unit × Unit))) := (brR (decide (a_ = (0 : Int))) (some (((2 : Int), ()), ((l_.1, (l_.2.1, l_.2.2)), ((), ())))) (Option.bind (c_ref11_Ledger_Get ((l_.1, (l_.2.1, l_.2.2)), (a_, ()))) (fun (y_0 : (((Int × ((List Int) × (Int × Unit))) × Unit) × (((List (Int × ((List Int) × (Int × Unit)))) × ((List (List Int)) × Unit)) × (Unit × Unit)))) => (letR (IntKind.wrap (IntKind.u64) (y_0.1.1.2.2.1 + (1 : Int))) fun (v_1 : Int) => (brR (decide (v_1 = (0 : Int))) (some (((4 : Int), ()), ((y_0.2.1.1, (y_0.2.1.2.1, y_0.2.1.2.2)), ((), ())))) (Option.bind (c_ref11_Ledger_put ((y_0.2.1.1, (y_0.2.1.2.1, y_0.2.1.2.2)), ((y_0.1.1.1, (y_0.1.1.2.1, (v_1, y_0.1.1.2.2.2))), ()))) (fun (y_2 : (Unit × (((List (Int × ((List Int) × (Int × Unit)))) × ((List (List Int)) × Unit)) × (Unit × Unit)))) => (some (((0 : Int), ()), ((y_2.2.1.1, (y_2.2.1.2.1, y_2.2.1.2.2)), ((), ())))))))))))
noncomputable def sol_ref11_Ledger_IncrementNonce : F_ref11_Ledger_IncrementNonce := fun x => T_ref11_Ledger_IncrementNonce bigLoop sol_ref11_Ledger_Get sol_ref11_Ledger_put x.1 x.2.1
abbrev s_ref11_Ledger_Accounts : Sig := ⟨[(.rp (.pair (.slice (.pair (.int .u64) (.pair (.arr 4 (.int .u64)) (.pair (.int .u64) .unit)))) (.pair (.arr 4 (.arr 4 (.int .u64))) .unit)))], [(.own true (.pair (.int .u64) (.pair (.arr 4 (.int .u64)) (.pair (.int .u64) .unit))))]⟩
abbrev F_ref11_Ledger_Accounts := (((List (Int × ((List Int) × (Int × Unit)))) × ((List (List Int)) × Unit)) × Unit) → Option (((List (Int × ((List Int) × (Int × Unit)))) × Unit) × (Unit × Unit))
noncomputable def T_ref11_Ledger_Accounts_loop1 (again_0 : (((List (Int × ((List Int) × (Int × Unit)))) × ((List (List Int)) × Unit)) × ((List (Int × ((List Int) × (Int × Unit)))) × (Int × Unit))) → Option (((List (Int × ((List Int) × (Int × Unit)))) × Unit) × (Unit × Unit))) (again_6 : (((List (Int × ((List Int) × (Int × Unit)))) × ((List (List Int)) × Unit)) × ((List (Int × ((List Int) × (Int × Unit)))) × (Int × ((Int × ((List Int) × (Int × Unit))) × (Int × Unit))))) → Option (((List (Int × ((List Int) × (Int × Unit)))) × Unit) × (Unit × Unit))) (l_7 : ((List (Int × ((List Int) × (Int × Unit)))) × ((List (List Int)) × Unit))) (out_8 : (List (Int × ((List Int) × (Int × Unit))))) (i_9 : Int) (x_10 : (Int × ((List Int) × (Int × Unit)))) (k_11 : Int) : Option (((List (Int × ((List Int) × (Int × Unit)))) × Unit) × (Unit × Unit)) := (letR (IntKind.wrap (IntKind.i64) (k_11 - (1 : Int))) fun (v_12 : Int) => (letR (List.length out_8) fun (v_13 : Nat) => (letR (List.take ((Int.toNat k_11) - (0 : Nat)) (List.drop (0 : Nat) out_8)) fun (v_14 : (List (Int × ((List Int) × (Int × Unit))))) => (letR (List.take (v_13 - (Int.toNat k_11)) (List.drop (Int.toNat k_11) out_8)) fun (v_15 : (List (Int × ((List Int) × (Int × Unit))))) => (letR (List.append [x_10] v_15) fun (v_16 : (List (Int × ((List Int) × (Int × Unit))))) => (letR (List.length v_16) fun (v_17 : Nat) => (brR (decide (k_11 > (0 : Int))) (brR (inR v_12 v_13) (brR (decide ((List.getD out_8 (Int.toNat v_12) ((0 : Int), ([(0 : Int), (0 : Int), (0 : Int), (0 : Int)], ((0 : Int), ())))).1 > x_10.1)) (again_6 (l_7, (out_8, (i_9, (x_10, (v_12, ())))))) (brR (decide (k_11 = k_11)) (brR ((decide ((0 : Int) ≤ k_11)) && (decide (k_11 ≤ ((v_13 : Nat) : Int)))) (brR ((decide ((0 : Int) ≤ k_11)) && (decide (k_11 ≤ ((v_13 : Nat) : Int)))) (brR (roomy ((1 : Nat) + (List.length v_15)) ((Ty.int IntKind.u64).pair ((Ty.arr 4 (Ty.int IntKind.u64)).pair ((Ty.int IntKind.u64).pair Ty.unit)))) (brR ((decide ((0 : Nat) < v_17)) && (roomy ((List.length v_14) + v_17) ((Ty.int IntKind.u64).pair ((Ty.arr 4 (Ty.int IntKind.u64)).pair ((Ty.int IntKind.u64).pair Ty.unit))))) (again_0 (l_7, ((List.append v_14 v_16), ((IntKind.wrap (IntKind.i64) (i_9 + (1 : Int))), ())))) none) none) none) none) none)) none) (brR (decide (k_11 = k_11)) (brR ((decide ((0 : Int) ≤ k_11)) && (decide (k_11 ≤ ((v_13 : Nat) : Int)))) (brR ((decide ((0 : Int) ≤ k_11)) && (decide (k_11 ≤ ((v_13 : Nat) : Int)))) (brR (roomy ((1 : Nat) + (List.length v_15)) ((Ty.int IntKind.u64).pair ((Ty.arr 4 (Ty.int IntKind.u64)).pair ((Ty.int IntKind.u64).pair Ty.unit)))) (brR ((decide ((0 : Nat) < v_17)) && (roomy ((List.length v_14) + v_17) ((Ty.int IntKind.u64).pair ((Ty.arr 4 (Ty.int IntKind.u64)).pair ((Ty.int IntKind.u64).pair Ty.unit))))) (again_0 (l_7, ((List.append v_14 v_16), ((IntKind.wrap (IntKind.i64) (i_9 + (1 : Int))), ())))) none) none) none) none) none))))))))
noncomputable def T_ref11_Ledger_Accounts_loop0 (L : LoopD) (c_ref1_IsZero : F_ref1_IsZero) (again_0 : (((List (Int × ((List Int) × (Int × Unit)))) × ((List (List Int)) × Unit)) × ((List (Int × ((List Int) × (Int × Unit)))) × (Int × Unit))) → Option (((List (Int × ((List Int) × (Int × Unit)))) × Unit) × (Unit × Unit))) (l_1 : ((List (Int × ((List Int) × (Int × Unit)))) × ((List (List Int)) × Unit))) (out_2 : (List (Int × ((List Int) × (Int × Unit))))) (i_3 : Int) : Option (((List (Int × ((List Int) × (Int × Unit)))) × Unit) × (Unit × Unit)) := (letR (List.length l_1.1) fun (v_4 : Nat) => (brR (decide (i_3 < ((v_4 : Nat) : Int))) (brR (inR i_3 v_4) (Option.bind (c_ref1_IsZero ((List.getD l_1.1 (Int.toNat i_3) ((0 : Int), ([(0 : Int), (0 : Int), (0 : Int), (0 : Int)], ((0 : Int), ())))).2.1, ())) (fun (y_5 : ((Bool × Unit) × (Unit × Unit))) => (brR y_5.1.1 (brR (decide ((List.getD l_1.1 (Int.toNat i_3) ((0 : Int), ([(0 : Int), (0 : Int), (0 : Int), (0 : Int)], ((0 : Int), ())))).2.2.1 = (0 : Int))) (again_0 (l_1, (out_2, ((IntKind.wrap (IntKind.i64) (i_3 + (1 : Int))), ())))) (L _ _ (fun again x => T_ref11_Ledger_Accounts_loop1 again_0 again x.1 x.2.1 x.2.2.1 x.2.2.2.1 x.2.2.2.2.1) (l_1, (out_2, (i_3, ((List.getD l_1.1 (Int.toNat i_3) ((0 : Int), ([(0 : Int), (0 : Int), (0 : Int), (0 : Int)], ((0 : Int), ())))), ((((List.length out_2) : Nat) : Int), ()))))))) (L _ _ (fun again x => T_ref11_Ledger_Accounts_loop1 again_0 again x.1 x.2.1 x.2.2.1 x.2.2.2.1 x.2.2.2.2.1) (l_1, (out_2, (i_3, ((List.getD l_1.1 (Int.toNat i_3) ((0 : Int), ([(0 : Int), (0 : Int), (0 : Int), (0 : Int)], ((0 : Int), ())))), ((((List.length out_2) : Nat) : Int), ()))))))))) none) (some ((out_2, ()), ((), ())))))
noncomputable def T_ref11_Ledger_Accounts (L : LoopD) (c_ref1_IsZero : F_ref1_IsZero) (l_ : ((List (Int × ((List Int) × (Int × Unit)))) × ((List (List Int)) × Unit))) : Option (((List (Int × ((List Int) × (Int × Unit)))) × Unit) × (Unit × Unit)) := (L _ _ (fun again x => T_ref11_Ledger_Accounts_loop0 L c_ref1_IsZero again x.1 x.2.1 x.2.2.1) (l_, (([] : List (Int × ((List Int) × (Int × Unit)))), ((0 : Int), ()))))
noncomputable def sol_ref11_Ledger_Accounts : F_ref11_Ledger_Accounts := fun x => T_ref11_Ledger_Accounts bigLoop sol_ref1_IsZero x.1
abbrev s_ref11_ValidAccounts : Sig := ⟨[(.ro false (.slice (.pair (.int .u64) (.pair (.arr 4 (.int .u64)) (.pair (.int .u64) .unit)))))], [(.ro true .bool)]⟩
abbrev F_ref11_ValidAccounts := ((List (Int × ((List Int) × (Int × Unit)))) × Unit) → Option ((Bool × Unit) × (Unit × Unit))
noncomputable def T_ref11_ValidAccounts_loop0 (c_ref1_IsZero : F_ref1_IsZero) (again_0 : ((List (Int × ((List Int) × (Int × Unit)))) × (Int × Unit)) → Option ((Bool × Unit) × (Unit × Unit))) (a_1 : (List (Int × ((List Int) × (Int × Unit))))) (i_2 : Int) : Option ((Bool × Unit) × (Unit × Unit)) := (letR (IntKind.wrap (IntKind.i64) (i_2 - (1 : Int))) fun (v_3 : Int) => (letR (List.length a_1) fun (v_4 : Nat) => (brR (decide (i_2 < ((v_4 : Nat) : Int))) (brR (inR i_2 v_4) (brR (decide ((List.getD a_1 (Int.toNat i_2) (Ty.zero ((Ty.int IntKind.u64).pair ((Ty.arr 4 (Ty.int IntKind.u64)).pair ((Ty.int IntKind.u64).pair Ty.unit))))).1 = (0 : Int))) (some ((false, ()), ((), ()))) (brR (decide (i_2 > (0 : Int))) (brR (inR i_2 v_4) (brR (inR v_3 v_4) (brR (decide ((List.getD a_1 (Int.toNat i_2) (Ty.zero ((Ty.int IntKind.u64).pair ((Ty.arr 4 (Ty.int IntKind.u64)).pair ((Ty.int IntKind.u64).pair Ty.unit))))).1 ≤ (List.getD a_1 (Int.toNat v_3) (Ty.zero ((Ty.int IntKind.u64).pair ((Ty.arr 4 (Ty.int IntKind.u64)).pair ((Ty.int IntKind.u64).pair Ty.unit))))).1)) (some ((false, ()), ((), ()))) (brR (inR i_2 v_4) (Option.bind (c_ref1_IsZero ((List.getD a_1 (Int.toNat i_2) (Ty.zero ((Ty.int IntKind.u64).pair ((Ty.arr 4 (Ty.int IntKind.u64)).pair ((Ty.int IntKind.u64).pair Ty.unit))))).2.1, ())) (fun (y_5 : ((Bool × Unit) × (Unit × Unit))) => (brR y_5.1.1 (brR (inR i_2 v_4) (brR (decide ((List.getD a_1 (Int.toNat i_2) (Ty.zero ((Ty.int IntKind.u64).pair ((Ty.arr 4 (Ty.int IntKind.u64)).pair ((Ty.int IntKind.u64).pair Ty.unit))))).2.2.1 = (0 : Int))) (some ((false, ()), ((), ()))) (again_0 (a_1, ((IntKind.wrap (IntKind.i64) (i_2 + (1 : Int))), ())))) none) (again_0 (a_1, ((IntKind.wrap (IntKind.i64) (i_2 + (1 : Int))), ())))))) none)) none) none) (brR (inR i_2 v_4) (Option.bind (c_ref1_IsZero ((List.getD a_1 (Int.toNat i_2) (Ty.zero ((Ty.int IntKind.u64).pair ((Ty.arr 4 (Ty.int IntKind.u64)).pair ((Ty.int IntKind.u64).pair Ty.unit))))).2.1, ())) (fun (y_6 : ((Bool × Unit) × (Unit × Unit))) => (brR y_6.1.1 (brR (inR i_2 v_4) (brR (decide ((List.getD a_1 (Int.toNat i_2) (Ty.zero ((Ty.int IntKind.u64).pair ((Ty.arr 4 (Ty.int IntKind.u64)).pair ((Ty.int IntKind.u64).pair Ty.unit))))).2.2.1 = (0 : Int))) (some ((false, ()), ((), ()))) (again_0 (a_1, ((IntKind.wrap (IntKind.i64) (i_2 + (1 : Int))), ())))) none) (again_0 (a_1, ((IntKind.wrap (IntKind.i64) (i_2 + (1 : Int))), ())))))) none))) none) (some ((true, ()), ((), ()))))))
noncomputable def T_ref11_ValidAccounts (L : LoopD) (c_ref1_IsZero : F_ref1_IsZero) (a_ : (List (Int × ((List Int) × (Int × Unit))))) : Option ((Bool × Unit) × (Unit × Unit)) := (L _ _ (fun again x => T_ref11_ValidAccounts_loop0 c_ref1_IsZero again x.1 x.2.1) (a_, ((0 : Int), ())))
noncomputable def sol_ref11_ValidAccounts : F_ref11_ValidAccounts := fun x => T_ref11_ValidAccounts bigLoop sol_ref1_IsZero x.1
abbrev s_ref11_Load : Sig := ⟨[(.ro false (.slice (.pair (.int .u64) (.pair (.arr 4 (.int .u64)) (.pair (.int .u64) .unit))))), (.ro true (.arr 4 (.arr 4 (.int .u64))))], [(.optr (.pair (.own false (.pair (.int .u64) (.pair (.arr 4 (.int .u64)) (.pair (.int .u64) .unit)))) (.pair (.ro true (.arr 4 (.arr 4 (.int .u64)))) (.ro true .unit)))), (.ro true (.int .i64))]⟩
abbrev F_ref11_Load := ((List (Int × ((List Int) × (Int × Unit)))) × ((List (List Int)) × Unit)) → Option (((Option ((List (Int × ((List Int) × (Int × Unit)))) × ((List (List Int)) × Unit))) × (Int × Unit)) × (Unit × (Unit × Unit)))
noncomputable def T_ref11_Load (L : LoopD) (c_ref11_ValidAccounts : F_ref11_ValidAccounts) (c_ref11_Ledger_Supply : F_ref11_Ledger_Supply) (c_ref1_Fits : F_ref1_Fits) (a_ : (List (Int × ((List Int) × (Int × Unit))))) (v_ : (List (List Int))) : Option (((Option ((List (Int × ((List Int) × (Int × Unit)))) × ((List (List Int)) × Unit))) × (Int × Unit)) × (Unit × (Unit × Unit))) := (brR (roomy ((0 : Nat) + (List.length a_)) ((Ty.int IntKind.u64).pair ((Ty.arr 4 (Ty.int IntKind.u64)).pair ((Ty.int IntKind.u64).pair Ty.unit)))) (Option.bind (c_ref11_ValidAccounts (a_, ())) (fun (y_0 : ((Bool × Unit) × (Unit × Unit))) => (brR (!y_0.1.1) (some ((none, ((2 : Int), ())), ((), ((), ())))) (Option.bind (c_ref11_Ledger_Supply ((a_, (v_, ())), ())) (fun (y_1 : (((List Int) × Unit) × (((List (Int × ((List Int) × (Int × Unit)))) × ((List (List Int)) × Unit)) × Unit))) => (Option.bind (c_ref1_Fits (y_1.1.1, ())) (fun (y_2 : ((Bool × Unit) × (Unit × Unit))) => (brR (!y_2.1.1) (some ((none, ((4 : Int), ())), ((), ((), ())))) (some (((some (y_1.2.1.1, (y_1.2.1.2.1, y_1.2.1.2.2))), ((0 : Int), ())), ((), ((), ())))))))))))) none)
noncomputable def sol_ref11_Load : F_ref11_Load := fun x => T_ref11_Load bigLoop sol_ref11_ValidAccounts sol_ref11_Ledger_Supply sol_ref1_Fits x.1 x.2.1
end Go.Pon
set_option autoImplicit false
set_option linter.unusedVariables false
set_option maxRecDepth 100000
namespace Go.Pon
open Go
abbrev s_law11_awake : Sig := ⟨[], [(.ro true .bool)]⟩
abbrev F_law11_awake := Unit → Option ((Bool × Unit) × Unit)
noncomputable def T_law11_awake (L : LoopD) (c_ledger_New : F_ledger_New) (c_ledger_Ledger_Mint : F_ledger_Ledger_Mint) (c_ledger_Ledger_Transfer : F_ledger_Ledger_Transfer) (c_ledger_Ledger_PayVault : F_ledger_Ledger_PayVault) (c_ledger_Ledger_Supply : F_ledger_Ledger_Supply) (c_ledger_Ledger_Balance : F_ledger_Ledger_Balance) (c_ledger_Ledger_Vault : F_ledger_Ledger_Vault) : Option ((Bool × Unit) × Unit) := (Option.bind (c_ledger_New ()) (fun (y_0 : ((((List (Int × ((List Int) × (Int × Unit)))) × ((List (List Int)) × Unit)) × Unit) × Unit)) => (Option.bind (c_ledger_Ledger_Mint ((some (y_0.1.1.1, (y_0.1.1.2.1, y_0.1.1.2.2))), ((5 : Int), ([(10 : Int), (0 : Int), (0 : Int), (0 : Int)], ())))) (fun (y_1 : ((Int × Unit) × ((Option ((List (Int × ((List Int) × (Int × Unit)))) × ((List (List Int)) × Unit))) × (Unit × (Unit × Unit))))) => (optR y_1.2.1 none (fun (y_2 : ((List (Int × ((List Int) × (Int × Unit)))) × ((List (List Int)) × Unit))) => (Option.bind (c_ledger_Ledger_Transfer ((some (y_2.1, (y_2.2.1, y_2.2.2))), ((5 : Int), ((6 : Int), ([(11 : Int), (0 : Int), (0 : Int), (0 : Int)], ()))))) (fun (y_3 : ((Int × Unit) × ((Option ((List (Int × ((List Int) × (Int × Unit)))) × ((List (List Int)) × Unit))) × (Unit × (Unit × (Unit × Unit)))))) => (optR y_3.2.1 none (fun (y_4 : ((List (Int × ((List Int) × (Int × Unit)))) × ((List (List Int)) × Unit))) => (Option.bind (c_ledger_Ledger_PayVault ((some (y_4.1, (y_4.2.1, y_4.2.2))), ((5 : Int), ((3 : Int), ([(4 : Int), (0 : Int), (0 : Int), (0 : Int)], ()))))) (fun (y_5 : ((Int × Unit) × ((Option ((List (Int × ((List Int) × (Int × Unit)))) × ((List (List Int)) × Unit))) × (Unit × (Unit × (Unit × Unit)))))) => (optR y_5.2.1 none (fun (y_6 : ((List (Int × ((List Int) × (Int × Unit)))) × ((List (List Int)) × Unit))) => (brR (decide (y_1.1.1 = (0 : Int))) (brR (decide (y_3.1.1 = (10 : Int))) (brR (decide (y_5.1.1 = (0 : Int))) (Option.bind (c_ledger_Ledger_Supply ((some (y_6.1, (y_6.2.1, y_6.2.2))), ())) (fun (y_7 : (((List Int) × Unit) × ((Option ((List (Int × ((List Int) × (Int × Unit)))) × ((List (List Int)) × Unit))) × Unit))) => (optR y_7.2.1 none (fun (y_8 : ((List (Int × ((List Int) × (Int × Unit)))) × ((List (List Int)) × Unit))) => (brR (eqD (Ty.arr 4 (Ty.int IntKind.u64)) y_7.1.1 [(10 : Int), (0 : Int), (0 : Int), (0 : Int)]) (Option.bind (c_ledger_Ledger_Balance ((some (y_8.1, (y_8.2.1, y_8.2.2))), ((5 : Int), ()))) (fun (y_9 : (((List Int) × Unit) × ((Option ((List (Int × ((List Int) × (Int × Unit)))) × ((List (List Int)) × Unit))) × (Unit × Unit)))) => (optR y_9.2.1 none (fun (y_10 : ((List (Int × ((List Int) × (Int × Unit)))) × ((List (List Int)) × Unit))) => (brR (eqD (Ty.arr 4 (Ty.int IntKind.u64)) y_9.1.1 [(6 : Int), (0 : Int), (0 : Int), (0 : Int)]) (Option.bind (c_ledger_Ledger_Vault ((some (y_10.1, (y_10.2.1, y_10.2.2))), ((3 : Int), ()))) (fun (y_11 : (((List Int) × Unit) × ((Option ((List (Int × ((List Int) × (Int × Unit)))) × ((List (List Int)) × Unit))) × (Unit × Unit)))) => (optR y_11.2.1 none (fun (y_12 : ((List (Int × ((List Int) × (Int × Unit)))) × ((List (List Int)) × Unit))) => (some (((eqD (Ty.arr 4 (Ty.int IntKind.u64)) y_11.1.1 [(4 : Int), (0 : Int), (0 : Int), (0 : Int)]), ()), ())))))) (some ((false, ()), ()))))))) (some ((false, ()), ()))))))) (some ((false, ()), ()))) (some ((false, ()), ()))) (some ((false, ()), ())))))))))))))))))
noncomputable def sol_law11_awake : F_law11_awake := fun x => T_law11_awake bigLoop sol_ledger_New sol_ledger_Ledger_Mint sol_ledger_Ledger_Transfer sol_ledger_Ledger_PayVault sol_ledger_Ledger_Supply sol_ledger_Ledger_Balance sol_ledger_Ledger_Vault
abbrev s_law11_normalize : Sig := ⟨[(.ro true (.pair (.int .i64) (.pair (.int .i64) (.pair (.int .u64) (.pair (.int .u64) (.pair (.arr 4 (.int .u64)) (.pair .bool .unit))))))), (.ro true (.int .i64))], [(.ro true (.pair (.int .i64) (.pair (.int .i64) (.pair (.int .u64) (.pair (.int .u64) (.pair (.arr 4 (.int .u64)) (.pair .bool .unit)))))))]⟩
abbrev F_law11_normalize := ((Int × (Int × (Int × (Int × ((List Int) × (Bool × Unit)))))) × (Int × Unit)) → Option (((Int × (Int × (Int × (Int × ((List Int) × (Bool × Unit)))))) × Unit) × (Unit × (Unit × Unit)))
noncomputable def T_law11_normalize (L : LoopD) (c_law0_Mod : F_law0_Mod) (d_ : (Int × (Int × (Int × (Int × ((List Int) × (Bool × Unit))))))) (i_ : Int) : Option (((Int × (Int × (Int × (Int × ((List Int) × (Bool × Unit)))))) × Unit) × (Unit × (Unit × Unit))) := (letR (Int.tmod d_.2.2.1 (5 : Int)) fun (v_0 : Int) => (letR (Int.tmod d_.2.2.2.1 (5 : Int)) fun (v_1 : Int) => (Option.bind (c_law0_Mod (d_.1, ((8 : Int), ()))) (fun (y_2 : ((Int × Unit) × (Unit × (Unit × Unit)))) => (brR (decide ((Int.tmod i_ (7 : Int)) < (6 : Int))) (Option.bind (c_law0_Mod (d_.2.1, ((6 : Int), ()))) (fun (y_3 : ((Int × Unit) × (Unit × (Unit × Unit)))) => (brR d_.2.2.2.2.2.1 (some (((y_2.1.1, (y_3.1.1, (v_0, (v_1, ([(Int.tmod (List.getD d_.2.2.2.2.1 (0 : Nat) (0 : Int)) (1000 : Int)), (0 : Int), (0 : Int), (0 : Int)], d_.2.2.2.2.2))))), ()), ((), ((), ())))) (brR (decide (y_2.1.1 < (2 : Int))) (brR (decide ((Int.tmod i_ (5 : Int)) > (0 : Int))) (some (((y_2.1.1, (y_3.1.1, (v_0, (v_1, ([(Int.tmod (List.getD d_.2.2.2.2.1 (0 : Nat) (0 : Int)) (1000 : Int)), (0 : Int), (0 : Int), (0 : Int)], d_.2.2.2.2.2))))), ()), ((), ((), ())))) (some (((y_2.1.1, (y_3.1.1, (v_0, (v_1, d_.2.2.2.2)))), ()), ((), ((), ()))))) (some (((y_2.1.1, (y_3.1.1, (v_0, (v_1, d_.2.2.2.2)))), ()), ((), ((), ())))))))) (brR d_.2.2.2.2.2.1 (some (((y_2.1.1, (d_.2.1, (d_.2.2.1, (d_.2.2.2.1, ([(Int.tmod (List.getD d_.2.2.2.2.1 (0 : Nat) (0 : Int)) (1000 : Int)), (0 : Int), (0 : Int), (0 : Int)], d_.2.2.2.2.2))))), ()), ((), ((), ())))) (brR (decide (y_2.1.1 < (2 : Int))) (brR (decide ((Int.tmod i_ (5 : Int)) > (0 : Int))) (some (((y_2.1.1, (d_.2.1, (d_.2.2.1, (d_.2.2.2.1, ([(Int.tmod (List.getD d_.2.2.2.2.1 (0 : Nat) (0 : Int)) (1000 : Int)), (0 : Int), (0 : Int), (0 : Int)], d_.2.2.2.2.2))))), ()), ((), ((), ())))) (some (((y_2.1.1, d_.2), ()), ((), ((), ()))))) (some (((y_2.1.1, d_.2), ()), ((), ((), ())))))))))))
noncomputable def sol_law11_normalize : F_law11_normalize := fun x => T_law11_normalize bigLoop sol_law0_Mod x.1 x.2.1
abbrev s_law11_applyReference : Sig := ⟨[(.ptr (.pair (.own false (.pair (.int .u64) (.pair (.arr 4 (.int .u64)) (.pair (.int .u64) .unit)))) (.pair (.ro true (.arr 4 (.arr 4 (.int .u64)))) (.ro true .unit)))), (.ro true (.pair (.int .i64) (.pair (.int .i64) (.pair (.int .u64) (.pair (.int .u64) (.pair (.arr 4 (.int .u64)) (.pair .bool .unit)))))))], [(.ro true (.int .i64))]⟩
abbrev F_law11_applyReference := (((List (Int × ((List Int) × (Int × Unit)))) × ((List (List Int)) × Unit)) × ((Int × (Int × (Int × (Int × ((List Int) × (Bool × Unit)))))) × Unit)) → Option ((Int × Unit) × (((List (Int × ((List Int) × (Int × Unit)))) × ((List (List Int)) × Unit)) × (Unit × Unit)))
noncomputable def T_law11_applyReference (L : LoopD) (c_ref11_Ledger_Mint : F_ref11_Ledger_Mint) (c_ref11_Ledger_Transfer : F_ref11_Ledger_Transfer) (c_ref11_Ledger_PayVault : F_ref11_Ledger_PayVault) (c_ref11_Ledger_Withdraw : F_ref11_Ledger_Withdraw) (c_ref11_Ledger_WithdrawVault : F_ref11_Ledger_WithdrawVault) (c_ref11_Ledger_IncrementNonce : F_ref11_Ledger_IncrementNonce) (l_ : ((List (Int × ((List Int) × (Int × Unit)))) × ((List (List Int)) × Unit))) (d_ : (Int × (Int × (Int × (Int × ((List Int) × (Bool × Unit))))))) : Option ((Int × Unit) × (((List (Int × ((List Int) × (Int × Unit)))) × ((List (List Int)) × Unit)) × (Unit × Unit))) := (brR (decide (d_.1 = (0 : Int))) (brR (decide (d_.1 = (0 : Int))) (Option.bind (c_ref11_Ledger_Mint ((l_.1, (l_.2.1, l_.2.2)), (d_.2.2.1, (d_.2.2.2.2.1, ())))) (fun (y_0 : ((Int × Unit) × (((List (Int × ((List Int) × (Int × Unit)))) × ((List (List Int)) × Unit)) × (Unit × (Unit × Unit))))) => (some ((y_0.1.1, ()), ((y_0.2.1.1, (y_0.2.1.2.1, y_0.2.1.2.2)), ((), ())))))) (brR (decide (d_.1 = (2 : Int))) (brR (decide (d_.1 = (2 : Int))) (Option.bind (c_ref11_Ledger_Transfer ((l_.1, (l_.2.1, l_.2.2)), (d_.2.2.1, (d_.2.2.2.1, (d_.2.2.2.2.1, ()))))) (fun (y_1 : ((Int × Unit) × (((List (Int × ((List Int) × (Int × Unit)))) × ((List (List Int)) × Unit)) × (Unit × (Unit × (Unit × Unit)))))) => (some ((y_1.1.1, ()), ((y_1.2.1.1, (y_1.2.1.2.1, y_1.2.1.2.2)), ((), ())))))) (brR (decide (d_.1 = (4 : Int))) (Option.bind (c_ref11_Ledger_PayVault ((l_.1, (l_.2.1, l_.2.2)), (d_.2.2.1, (d_.2.1, (d_.2.2.2.2.1, ()))))) (fun (y_2 : ((Int × Unit) × (((List (Int × ((List Int) × (Int × Unit)))) × ((List (List Int)) × Unit)) × (Unit × (Unit × (Unit × Unit)))))) => (some ((y_2.1.1, ()), ((y_2.2.1.1, (y_2.2.1.2.1, y_2.2.1.2.2)), ((), ())))))) (brR (decide (d_.1 = (5 : Int))) (Option.bind (c_ref11_Ledger_Withdraw ((l_.1, (l_.2.1, l_.2.2)), (d_.2.2.1, (d_.2.2.2.2.1, ())))) (fun (y_3 : ((Int × Unit) × (((List (Int × ((List Int) × (Int × Unit)))) × ((List (List Int)) × Unit)) × (Unit × (Unit × Unit))))) => (some ((y_3.1.1, ()), ((y_3.2.1.1, (y_3.2.1.2.1, y_3.2.1.2.2)), ((), ())))))) (brR (decide (d_.1 = (6 : Int))) (Option.bind (c_ref11_Ledger_WithdrawVault ((l_.1, (l_.2.1, l_.2.2)), (d_.2.1, (d_.2.2.2.2.1, ())))) (fun (y_4 : ((Int × Unit) × (((List (Int × ((List Int) × (Int × Unit)))) × ((List (List Int)) × Unit)) × (Unit × (Unit × Unit))))) => (some ((y_4.1.1, ()), ((y_4.2.1.1, (y_4.2.1.2.1, y_4.2.1.2.2)), ((), ())))))) (Option.bind (c_ref11_Ledger_IncrementNonce ((l_.1, (l_.2.1, l_.2.2)), (d_.2.2.1, ()))) (fun (y_5 : ((Int × Unit) × (((List (Int × ((List Int) × (Int × Unit)))) × ((List (List Int)) × Unit)) × (Unit × Unit)))) => (some ((y_5.1.1, ()), ((y_5.2.1.1, (y_5.2.1.2.1, y_5.2.1.2.2)), ((), ())))))))))) (brR (decide (d_.1 = (3 : Int))) (Option.bind (c_ref11_Ledger_Transfer ((l_.1, (l_.2.1, l_.2.2)), (d_.2.2.1, (d_.2.2.2.1, (d_.2.2.2.2.1, ()))))) (fun (y_6 : ((Int × Unit) × (((List (Int × ((List Int) × (Int × Unit)))) × ((List (List Int)) × Unit)) × (Unit × (Unit × (Unit × Unit)))))) => (some ((y_6.1.1, ()), ((y_6.2.1.1, (y_6.2.1.2.1, y_6.2.1.2.2)), ((), ())))))) (brR (decide (d_.1 = (4 : Int))) (Option.bind (c_ref11_Ledger_PayVault ((l_.1, (l_.2.1, l_.2.2)), (d_.2.2.1, (d_.2.1, (d_.2.2.2.2.1, ()))))) (fun (y_7 : ((Int × Unit) × (((List (Int × ((List Int) × (Int × Unit)))) × ((List (List Int)) × Unit)) × (Unit × (Unit × (Unit × Unit)))))) => (some ((y_7.1.1, ()), ((y_7.2.1.1, (y_7.2.1.2.1, y_7.2.1.2.2)), ((), ())))))) (brR (decide (d_.1 = (5 : Int))) (Option.bind (c_ref11_Ledger_Withdraw ((l_.1, (l_.2.1, l_.2.2)), (d_.2.2.1, (d_.2.2.2.2.1, ())))) (fun (y_8 : ((Int × Unit) × (((List (Int × ((List Int) × (Int × Unit)))) × ((List (List Int)) × Unit)) × (Unit × (Unit × Unit))))) => (some ((y_8.1.1, ()), ((y_8.2.1.1, (y_8.2.1.2.1, y_8.2.1.2.2)), ((), ())))))) (brR (decide (d_.1 = (6 : Int))) (Option.bind (c_ref11_Ledger_WithdrawVault ((l_.1, (l_.2.1, l_.2.2)), (d_.2.1, (d_.2.2.2.2.1, ())))) (fun (y_9 : ((Int × Unit) × (((List (Int × ((List Int) × (Int × Unit)))) × ((List (List Int)) × Unit)) × (Unit × (Unit × Unit))))) => (some ((y_9.1.1, ()), ((y_9.2.1.1, (y_9.2.1.2.1, y_9.2.1.2.2)), ((), ())))))) (Option.bind (c_ref11_Ledger_IncrementNonce ((l_.1, (l_.2.1, l_.2.2)), (d_.2.2.1, ()))) (fun (y_10 : ((Int × Unit) × (((List (Int × ((List Int) × (Int × Unit)))) × ((List (List Int)) × Unit)) × (Unit × Unit)))) => (some ((y_10.1.1, ()), ((y_10.2.1.1, (y_10.2.1.2.1, y_10.2.1.2.2)), ((), ())))))))))))) (brR (decide (d_.1 = (1 : Int))) (Option.bind (c_ref11_Ledger_Mint ((l_.1, (l_.2.1, l_.2.2)), (d_.2.2.1, (d_.2.2.2.2.1, ())))) (fun (y_11 : ((Int × Unit) × (((List (Int × ((List Int) × (Int × Unit)))) × ((List (List Int)) × Unit)) × (Unit × (Unit × Unit))))) => (some ((y_11.1.1, ()), ((y_11.2.1.1, (y_11.2.1.2.1, y_11.2.1.2.2)), ((), ())))))) (brR (decide (d_.1 = (2 : Int))) (brR (decide (d_.1 = (2 : Int))) (Option.bind (c_ref11_Ledger_Transfer ((l_.1, (l_.2.1, l_.2.2)), (d_.2.2.1, (d_.2.2.2.1, (d_.2.2.2.2.1, ()))))) (fun (y_12 : ((Int × Unit) × (((List (Int × ((List Int) × (Int × Unit)))) × ((List (List Int)) × Unit)) × (Unit × (Unit × (Unit × Unit)))))) => (some ((y_12.1.1, ()), ((y_12.2.1.1, (y_12.2.1.2.1, y_12.2.1.2.2)), ((), ())))))) (brR (decide (d_.1 = (4 : Int))) (Option.bind (c_ref11_Ledger_PayVault ((l_.1, (l_.2.1, l_.2.2)), (d_.2.2.1, (d_.2.1, (d_.2.2.2.2.1, ()))))) (fun (y_13 : ((Int × Unit) × (((List (Int × ((List Int) × (Int × Unit)))) × ((List (List Int)) × Unit)) × (Unit × (Unit × (Unit × Unit)))))) => (some ((y_13.1.1, ()), ((y_13.2.1.1, (y_13.2.1.2.1, y_13.2.1.2.2)), ((), ())))))) (brR (decide (d_.1 = (5 : Int))) (Option.bind (c_ref11_Ledger_Withdraw ((l_.1, (l_.2.1, l_.2.2)), (d_.2.2.1, (d_.2.2.2.2.1, ())))) (fun (y_14 : ((Int × Unit) × (((List (Int × ((List Int) × (Int × Unit)))) × ((List (List Int)) × Unit)) × (Unit × (Unit × Unit))))) => (some ((y_14.1.1, ()), ((y_14.2.1.1, (y_14.2.1.2.1, y_14.2.1.2.2)), ((), ())))))) (brR (decide (d_.1 = (6 : Int))) (Option.bind (c_ref11_Ledger_WithdrawVault ((l_.1, (l_.2.1, l_.2.2)), (d_.2.1, (d_.2.2.2.2.1, ())))) (fun (y_15 : ((Int × Unit) × (((List (Int × ((List Int) × (Int × Unit)))) × ((List (List Int)) × Unit)) × (Unit × (Unit × Unit))))) => (some ((y_15.1.1, ()), ((y_15.2.1.1, (y_15.2.1.2.1, y_15.2.1.2.2)), ((), ())))))) (Option.bind (c_ref11_Ledger_IncrementNonce ((l_.1, (l_.2.1, l_.2.2)), (d_.2.2.1, ()))) (fun (y_16 : ((Int × Unit) × (((List (Int × ((List Int) × (Int × Unit)))) × ((List (List Int)) × Unit)) × (Unit × Unit)))) => (some ((y_16.1.1, ()), ((y_16.2.1.1, (y_16.2.1.2.1, y_16.2.1.2.2)), ((), ())))))))))) (brR (decide (d_.1 = (3 : Int))) (Option.bind (c_ref11_Ledger_Transfer ((l_.1, (l_.2.1, l_.2.2)), (d_.2.2.1, (d_.2.2.2.1, (d_.2.2.2.2.1, ()))))) (fun (y_17 : ((Int × Unit) × (((List (Int × ((List Int) × (Int × Unit)))) × ((List (List Int)) × Unit)) × (Unit × (Unit × (Unit × Unit)))))) => (some ((y_17.1.1, ()), ((y_17.2.1.1, (y_17.2.1.2.1, y_17.2.1.2.2)), ((), ())))))) (brR (decide (d_.1 = (4 : Int))) (Option.bind (c_ref11_Ledger_PayVault ((l_.1, (l_.2.1, l_.2.2)), (d_.2.2.1, (d_.2.1, (d_.2.2.2.2.1, ()))))) (fun (y_18 : ((Int × Unit) × (((List (Int × ((List Int) × (Int × Unit)))) × ((List (List Int)) × Unit)) × (Unit × (Unit × (Unit × Unit)))))) => (some ((y_18.1.1, ()), ((y_18.2.1.1, (y_18.2.1.2.1, y_18.2.1.2.2)), ((), ())))))) (brR (decide (d_.1 = (5 : Int))) (Option.bind (c_ref11_Ledger_Withdraw ((l_.1, (l_.2.1, l_.2.2)), (d_.2.2.1, (d_.2.2.2.2.1, ())))) (fun (y_19 : ((Int × Unit) × (((List (Int × ((List Int) × (Int × Unit)))) × ((List (List Int)) × Unit)) × (Unit × (Unit × Unit))))) => (some ((y_19.1.1, ()), ((y_19.2.1.1, (y_19.2.1.2.1, y_19.2.1.2.2)), ((), ())))))) (brR (decide (d_.1 = (6 : Int))) (Option.bind (c_ref11_Ledger_WithdrawVault ((l_.1, (l_.2.1, l_.2.2)), (d_.2.1, (d_.2.2.2.2.1, ())))) (fun (y_20 : ((Int × Unit) × (((List (Int × ((List Int) × (Int × Unit)))) × ((List (List Int)) × Unit)) × (Unit × (Unit × Unit))))) => (some ((y_20.1.1, ()), ((y_20.2.1.1, (y_20.2.1.2.1, y_20.2.1.2.2)), ((), ())))))) (Option.bind (c_ref11_Ledger_IncrementNonce ((l_.1, (l_.2.1, l_.2.2)), (d_.2.2.1, ()))) (fun (y_21 : ((Int × Unit) × (((List (Int × ((List Int) × (Int × Unit)))) × ((List (List Int)) × Unit)) × (Unit × Unit)))) => (some ((y_21.1.1, ()), ((y_21.2.1.1, (y_21.2.1.2.1, y_21.2.1.2.2)), ((), ())))))))))))))
noncomputable def sol_law11_applyReference : F_law11_applyReference := fun x => T_law11_applyReference bigLoop sol_ref11_Ledger_Mint sol_ref11_Ledger_Transfer sol_ref11_Ledger_PayVault sol_ref11_Ledger_Withdraw sol_ref11_Ledger_WithdrawVault sol_ref11_Ledger_IncrementNonce x.1 x.2.1
abbrev s_law11_LedgerLoad : Sig := ⟨[(.ro false (.slice (.pair (.int .u64) (.pair (.arr 4 (.int .u64)) (.pair (.int .u64) .unit))))), (.ro true (.arr 4 (.arr 4 (.int .u64)))), (.ro false (.slice (.pair (.int .i64) (.pair (.int .i64) (.pair (.int .u64) (.pair (.int .u64) (.pair (.arr 4 (.int .u64)) (.pair .bool .unit)))))))), (.ro true (.int .i64))], [(.ro true .bool)]⟩
abbrev F_law11_LedgerLoad := ((List (Int × ((List Int) × (Int × Unit)))) × ((List (List Int)) × ((List (Int × (Int × (Int × (Int × ((List Int) × (Bool × Unit))))))) × (Int × Unit)))) → Option ((Bool × Unit) × (Unit × (Unit × (Unit × (Unit × Unit)))))
noncomputable def T_law11_LedgerLoad_loop1 (c_ledger_Load : F_ledger_Load) (c_ref11_Load : F_ref11_Load) (c_ledger_Ledger_Accounts : F_ledger_Ledger_Accounts) (c_ref11_Ledger_Accounts : F_ref11_Ledger_Accounts) (c_law0_Mod : F_law0_Mod) (c_law0_EqualAccounts : F_law0_EqualAccounts) (c_ledger_Ledger_Vaults : F_ledger_Ledger_Vaults) (c_ledger_Ledger_Supply : F_ledger_Ledger_Supply) (c_ref11_Ledger_Supply : F_ref11_Ledger_Supply) (c_ref1_ToUint256 : F_ref1_ToUint256) (c_law11_awake : F_law11_awake) (again_13 : ((List (Int × ((List Int) × (Int × Unit)))) × (Int × ((List (List Int)) × (((List (Int × ((List Int) × (Int × Unit)))) × ((List (List Int)) × Unit)) × (Int × Unit))))) → Option ((Bool × Unit) × (Unit × (Unit × (Unit × (Unit × Unit)))))) (l_14 : (List (Int × ((List Int) × (Int × Unit))))) (how_15 : Int) (v_16 : (List (List Int))) (b_17 : ((List (Int × ((List Int) × (Int × Unit)))) × ((List (List Int)) × Unit))) (turn_18 : Int) : Option ((Bool × Unit) × (Unit × (Unit × (Unit × (Unit × Unit))))) := (brR (decide (turn_18 < (3 : Int))) (Option.bind (c_ledger_Load (l_14, (v_16, ()))) (fun (y_19 : (((Option ((List (Int × ((List Int) × (Int × Unit)))) × ((List (List Int)) × Unit))) × (Int × Unit)) × (Unit × (Unit × Unit)))) => (optR y_19.1.1 (Option.bind (c_ref11_Load (l_14, (v_16, ()))) (fun (y_20 : (((Option ((List (Int × ((List Int) × (Int × Unit)))) × ((List (List Int)) × Unit))) × (Int × Unit)) × (Unit × (Unit × Unit)))) => (optR y_20.1.1 (brR (!(decide (y_19.1.2.1 = y_20.1.2.1))) (some ((false, ()), ((), ((), ((), ((), ())))))) (brR (!(eqD (Ty.bool) true (!(decide (y_19.1.2.1 = (0 : Int)))))) (some ((false, ()), ((), ((), ((), ((), ())))))) (brR (decide (y_19.1.2.1 = (0 : Int))) (Option.bind (c_ledger_Ledger_Accounts (none, ())) (fun (y_21 : (((List (Int × ((List Int) × (Int × Unit)))) × Unit) × ((Option ((List (Int × ((List Int) × (Int × Unit)))) × ((List (List Int)) × Unit))) × Unit))) => (optR y_21.2.1 none (fun (y_22 : ((List (Int × ((List Int) × (Int × Unit)))) × ((List (List Int)) × Unit))) => none)))) (Option.bind (c_ref11_Ledger_Accounts ((b_17.1, (b_17.2.1, b_17.2.2)), ())) (fun (y_23 : (((List (Int × ((List Int) × (Int × Unit)))) × Unit) × (Unit × Unit))) => (letR (List.length y_23.1.1) fun (v_24 : Nat) => (letR ((v_24 : Nat) : Int) fun (v_25 : Int) => (brR (decide (turn_18 = (1 : Int))) (brR (decide (v_25 > (1 : Int))) (Option.bind (c_law0_Mod (how_15, ((IntKind.wrap (IntKind.i64) (v_25 - (1 : Int))), ()))) (fun (y_26 : ((Int × Unit) × (Unit × (Unit × Unit)))) => (letR (IntKind.wrap (IntKind.i64) (y_26.1.1 + (1 : Int))) fun (v_27 : Int) => (letR (List.set y_23.1.1 (Int.toNat y_26.1.1) (List.getD y_23.1.1 (Int.toNat v_27) ((0 : Int), ([(0 : Int), (0 : Int), (0 : Int), (0 : Int)], ((0 : Int), ()))))) fun (v_28 : (List (Int × ((List Int) × (Int × Unit))))) => (brR (inR v_27 v_24) (brR (inR y_26.1.1 v_24) (brR (inR y_26.1.1 v_24) (brR (inR v_27 (List.length v_28)) (again_13 ((List.set v_28 (Int.toNat v_27) (List.getD y_23.1.1 (Int.toNat y_26.1.1) ((0 : Int), ([(0 : Int), (0 : Int), (0 : Int), (0 : Int)], ((0 : Int), ()))))), (how_15, (b_17.2.1, ((b_17.1, (b_17.2.1, b_17.2.2)), ((IntKind.wrap (IntKind.i64) (turn_18 + (1 : Int))), ())))))) none) none) none) none))))) (again_13 (y_23.1.1, (how_15, (b_17.2.1, ((b_17.1, (b_17.2.1, b_17.2.2)), ((IntKind.wrap (IntKind.i64) (turn_18 + (1 : Int))), ()))))))) (again_13 (y_23.1.1, (how_15, (b_17.2.1, ((b_17.1, (b_17.2.1, b_17.2.2)), ((IntKind.wrap (IntKind.i64) (turn_18 + (1 : Int))), ())))))))))))))) (fun (y_29 : ((List (Int × ((List Int) × (Int × Unit)))) × ((List (List Int)) × Unit))) => (brR (!(decide (y_19.1.2.1 = y_20.1.2.1))) (some ((false, ()), ((), ((), ((), ((), ())))))) (brR (!(eqD (Ty.bool) true (!(decide (y_19.1.2.1 = (0 : Int)))))) (some ((false, ()), ((), ((), ((), ((), ())))))) (brR (decide (y_19.1.2.1 = (0 : Int))) (Option.bind (c_ledger_Ledger_Accounts (none, ())) (fun (y_30 : (((List (Int × ((List Int) × (Int × Unit)))) × Unit) × ((Option ((List (Int × ((List Int) × (Int × Unit)))) × ((List (List Int)) × Unit))) × Unit))) => (optR y_30.2.1 (Option.bind (c_ref11_Ledger_Accounts ((y_29.1, (y_29.2.1, y_29.2.2)), ())) (fun (y_31 : (((List (Int × ((List Int) × (Int × Unit)))) × Unit) × (Unit × Unit))) => (Option.bind (c_law0_EqualAccounts (y_30.1.1, (y_31.1.1, ()))) (fun (y_32 : ((Bool × Unit) × (Unit × (Unit × Unit)))) => (brR (!y_32.1.1) (some ((false, ()), ((), ((), ((), ((), ())))))) (Option.bind (c_ledger_Ledger_Vaults (none, ())) (fun (y_33 : (((List (List Int)) × Unit) × ((Option ((List (Int × ((List Int) × (Int × Unit)))) × ((List (List Int)) × Unit))) × Unit))) => (optR y_33.2.1 (brR (!(eqD (Ty.arr 4 (Ty.arr 4 (Ty.int IntKind.u64))) y_33.1.1 v_16)) (some ((false, ()), ((), ((), ((), ((), ())))))) (Option.bind (c_ledger_Ledger_Supply (none, ())) (fun (y_34 : (((List Int) × Unit) × ((Option ((List (Int × ((List Int) × (Int × Unit)))) × ((List (List Int)) × Unit))) × Unit))) => (optR y_34.2.1 (Option.bind (c_ref11_Ledger_Supply ((y_29.1, (y_29.2.1, y_29.2.2)), ())) (fun (y_35 : (((List Int) × Unit) × (((List (Int × ((List Int) × (Int × Unit)))) × ((List (List Int)) × Unit)) × Unit))) => (Option.bind (c_ref1_ToUint256 (y_35.1.1, ())) (fun (y_36 : (((List Int) × Unit) × (Unit × Unit))) => (brR (!(eqD (Ty.arr 4 (Ty.int IntKind.u64)) y_34.1.1 y_36.1.1)) (some ((false, ()), ((), ((), ((), ((), ())))))) (Option.bind (c_ref11_Ledger_Accounts ((b_17.1, (b_17.2.1, b_17.2.2)), ())) (fun (y_37 : (((List (Int × ((List Int) × (Int × Unit)))) × Unit) × (Unit × Unit))) => (letR (List.length y_37.1.1) fun (v_38 : Nat) => (letR ((v_38 : Nat) : Int) fun (v_39 : Int) => (brR (decide (turn_18 = (1 : Int))) (brR (decide (v_39 > (1 : Int))) (Option.bind (c_law0_Mod (how_15, ((IntKind.wrap (IntKind.i64) (v_39 - (1 : Int))), ()))) (fun (y_40 : ((Int × Unit) × (Unit × (Unit × Unit)))) => (letR (IntKind.wrap (IntKind.i64) (y_40.1.1 + (1 : Int))) fun (v_41 : Int) => (letR (List.set y_37.1.1 (Int.toNat y_40.1.1) (List.getD y_37.1.1 (Int.toNat v_41) ((0 : Int), ([(0 : Int), (0 : Int), (0 : Int), (0 : Int)], ((0 : Int), ()))))) fun (v_42 : (List (Int × ((List Int) × (Int × Unit))))) => (brR (inR v_41 v_38) (brR (inR y_40.1.1 v_38) (brR (inR y_40.1.1 v_38) (brR (inR v_41 (List.length v_42)) (again_13 ((List.set v_42 (Int.toNat v_41) (List.getD y_37.1.1 (Int.toNat y_40.1.1) ((0 : Int), ([(0 : Int), (0 : Int), (0 : Int), (0 : Int)], ((0 : Int), ()))))), (how_15, (b_17.2.1, ((b_17.1, (b_17.2.1, b_17.2.2)), ((IntKind.wrap (IntKind.i64) (turn_18 + (1 : Int))), ())))))) none) none) none) none))))) (again_13 (y_37.1.1, (how_15, (b_17.2.1, ((b_17.1, (b_17.2.1, b_17.2.2)), ((IntKind.wrap (IntKind.i64) (turn_18 + (1 : Int))), ()))))))) (again_13 (y_37.1.1, (how_15, (b_17.2.1, ((b_17.1, (b_17.2.1, b_17.2.2)), ((IntKind.wrap (IntKind.i64) (turn_18 + (1 : Int))), ())))))))))))))))) (fun (y_43 : ((List (Int × ((List Int) × (Int × Unit)))) × ((List (List Int)) × Unit))) => none))))) (fun (y_44 : ((List (Int × ((List Int) × (Int × Unit)))) × ((List (List Int)) × Unit))) => none))))))))) (fun (y_45 : ((List (Int × ((List Int) × (Int × Unit)))) × ((List (List Int)) × Unit))) => none)))) (Option.bind (c_ref11_Ledger_Accounts ((b_17.1, (b_17.2.1, b_17.2.2)), ())) (fun (y_46 : (((List (Int × ((List Int) × (Int × Unit)))) × Unit) × (Unit × Unit))) => (letR (List.length y_46.1.1) fun (v_47 : Nat) => (letR ((v_47 : Nat) : Int) fun (v_48 : Int) => (brR (decide (turn_18 = (1 : Int))) (brR (decide (v_48 > (1 : Int))) (Option.bind (c_law0_Mod (how_15, ((IntKind.wrap (IntKind.i64) (v_48 - (1 : Int))), ()))) (fun (y_49 : ((Int × Unit) × (Unit × (Unit × Unit)))) => (letR (IntKind.wrap (IntKind.i64) (y_49.1.1 + (1 : Int))) fun (v_50 : Int) => (letR (List.set y_46.1.1 (Int.toNat y_49.1.1) (List.getD y_46.1.1 (Int.toNat v_50) ((0 : Int), ([(0 : Int), (0 : Int), (0 : Int), (0 : Int)], ((0 : Int), ()))))) fun (v_51 : (List (Int × ((List Int) × (Int × Unit))))) => (brR (inR v_50 v_47) (brR (inR y_49.1.1 v_47) (brR (inR y_49.1.1 v_47) (brR (inR v_50 (List.length v_51)) (again_13 ((List.set v_51 (Int.toNat v_50) (List.getD y_46.1.1 (Int.toNat y_49.1.1) ((0 : Int), ([(0 : Int), (0 : Int), (0 : Int), (0 : Int)], ((0 : Int), ()))))), (how_15, (b_17.2.1, ((b_17.1, (b_17.2.1, b_17.2.2)), ((IntKind.wrap (IntKind.i64) (turn_18 + (1 : Int))), ())))))) none) none) none) none))))) (again_13 (y_46.1.1, (how_15, (b_17.2.1, ((b_17.1, (b_17.2.1, b_17.2.2)), ((IntKind.wrap (IntKind.i64) (turn_18 + (1 : Int))), ()))))))) (again_13 (y_46.1.1, (how_15, (b_17.2.1, ((b_17.1, (b_17.2.1, b_17.2.2)), ((IntKind.wrap (IntKind.i64) (turn_18 + (1 : Int))), ())))))))))))))))))) (fun (y_52 : ((List (Int × ((List Int) × (Int × Unit)))) × ((List (List Int)) × Unit))) => (Option.bind (c_ref11_Load (l_14, (v_16, ()))) (fun (y_53 : (((Option ((List (Int × ((List Int) × (Int × Unit)))) × ((List (List Int)) × Unit))) × (Int × Unit)) × (Unit × (Unit × Unit)))) => (optR y_53.1.1 (brR (!(decide (y_19.1.2.1 = y_53.1.2.1))) (some ((false, ()), ((), ((), ((), ((), ())))))) (brR (!(eqD (Ty.bool) false (!(decide (y_19.1.2.1 = (0 : Int)))))) (some ((false, ()), ((), ((), ((), ((), ())))))) (brR (decide (y_19.1.2.1 = (0 : Int))) (Option.bind (c_ledger_Ledger_Accounts ((some (y_52.1, (y_52.2.1, y_52.2.2))), ())) (fun (y_54 : (((List (Int × ((List Int) × (Int × Unit)))) × Unit) × ((Option ((List (Int × ((List Int) × (Int × Unit)))) × ((List (List Int)) × Unit))) × Unit))) => (optR y_54.2.1 none (fun (y_55 : ((List (Int × ((List Int) × (Int × Unit)))) × ((List (List Int)) × Unit))) => none)))) (Option.bind (c_ref11_Ledger_Accounts ((b_17.1, (b_17.2.1, b_17.2.2)), ())) (fun (y_56 : (((List (Int × ((List Int) × (Int × Unit)))) × Unit) × (Unit × Unit))) => (letR (List.length y_56.1.1) fun (v_57 : Nat) => (letR ((v_57 : Nat) : Int) fun (v_58 : Int) => (brR (decide (turn_18 = (1 : Int))) (brR (decide (v_58 > (1 : Int))) (Option.bind (c_law0_Mod (how_15, ((IntKind.wrap (IntKind.i64) (v_58 - (1 : Int))), ()))) (fun (y_59 : ((Int × Unit) × (Unit × (Unit × Unit)))) => (letR (IntKind.wrap (IntKind.i64) (y_59.1.1 + (1 : Int))) fun (v_60 : Int) => (letR (List.set y_56.1.1 (Int.toNat y_59.1.1) (List.getD y_56.1.1 (Int.toNat v_60) ((0 : Int), ([(0 : Int), (0 : Int), (0 : Int), (0 : Int)], ((0 : Int), ()))))) fun (v_61 : (List (Int × ((List Int) × (Int × Unit))))) => (brR (inR v_60 v_57) (brR (inR y_59.1.1 v_57) (brR (inR y_59.1.1 v_57) (brR (inR v_60 (List.length v_61)) (again_13 ((List.set v_61 (Int.toNat v_60) (List.getD y_56.1.1 (Int.toNat y_59.1.1) ((0 : Int), ([(0 : Int), (0 : Int), (0 : Int), (0 : Int)], ((0 : Int), ()))))), (how_15, (b_17.2.1, ((b_17.1, (b_17.2.1, b_17.2.2)), ((IntKind.wrap (IntKind.i64) (turn_18 + (1 : Int))), ())))))) none) none) none) none))))) (again_13 (y_56.1.1, (how_15, (b_17.2.1, ((b_17.1, (b_17.2.1, b_17.2.2)), ((IntKind.wrap (IntKind.i64) (turn_18 + (1 : Int))), ()))))))) (again_13 (y_56.1.1, (how_15, (b_17.2.1, ((b_17.1, (b_17.2.1, b_17.2.2)), ((IntKind.wrap (IntKind.i64) (turn_18 + (1 : Int))), ())))))))))))))) (fun (y_62 : ((List (Int × ((List Int) × (Int × Unit)))) × ((List (List Int)) × Unit))) => (brR (!(decide (y_19.1.2.1 = y_53.1.2.1))) (some ((false, ()), ((), ((), ((), ((), ())))))) (brR (!(eqD (Ty.bool) false (!(decide (y_19.1.2.1 = (0 : Int)))))) (some ((false, ()), ((), ((), ((), ((), ())))))) (brR (decide (y_19.1.2.1 = (0 : Int))) (Option.bind (c_ledger_Ledger_Accounts ((some (y_52.1, (y_52.2.1, y_52.2.2))), ())) (fun (y_63 : (((List (Int × ((List Int) × (Int × Unit)))) × Unit) × ((Option ((List (Int × ((List Int) × (Int × Unit)))) × ((List (List Int)) × Unit))) × Unit))) => (optR y_63.2.1 none (fun (y_64 : ((List (Int × ((List Int) × (Int × Unit)))) × ((List (List Int)) × Unit))) => (Option.bind (c_ref11_Ledger_Accounts ((y_62.1, (y_62.2.1, y_62.2.2)), ())) (fun (y_65 : (((List (Int × ((List Int) × (Int × Unit)))) × Unit) × (Unit × Unit))) => (Option.bind (c_law0_EqualAccounts (y_63.1.1, (y_65.1.1, ()))) (fun (y_66 : ((Bool × Unit) × (Unit × (Unit × Unit)))) => (brR (!y_66.1.1) (some ((false, ()), ((), ((), ((), ((), ())))))) (Option.bind (c_ledger_Ledger_Vaults ((some (y_64.1, (y_64.2.1, y_64.2.2))), ())) (fun (y_67 : (((List (List Int)) × Unit) × ((Option ((List (Int × ((List Int) × (Int × Unit)))) × ((List (List Int)) × Unit))) × Unit))) => (optR y_67.2.1 none (fun (y_68 : ((List (Int × ((List Int) × (Int × Unit)))) × ((List (List Int)) × Unit))) => (brR (!(eqD (Ty.arr 4 (Ty.arr 4 (Ty.int IntKind.u64))) y_67.1.1 v_16)) (some ((false, ()), ((), ((), ((), ((), ())))))) (Option.bind (c_ledger_Ledger_Supply ((some (y_68.1, (y_68.2.1, y_68.2.2))), ())) (fun (y_69 : (((List Int) × Unit) × ((Option ((List (Int × ((List Int) × (Int × Unit)))) × ((List (List Int)) × Unit))) × Unit))) => (optR y_69.2.1 none (fun (y_70 : ((List (Int × ((List Int) × (Int × Unit)))) × ((List (List Int)) × Unit))) => (Option.bind (c_ref11_Ledger_Supply ((y_62.1, (y_62.2.1, y_62.2.2)), ())) (fun (y_71 : (((List Int) × Unit) × (((List (Int × ((List Int) × (Int × Unit)))) × ((List (List Int)) × Unit)) × Unit))) => (Option.bind (c_ref1_ToUint256 (y_71.1.1, ())) (fun (y_72 : (((List Int) × Unit) × (Unit × Unit))) => (brR (!(eqD (Ty.arr 4 (Ty.int IntKind.u64)) y_69.1.1 y_72.1.1)) (some ((false, ()), ((), ((), ((), ((), ())))))) (Option.bind (c_ref11_Ledger_Accounts ((b_17.1, (b_17.2.1, b_17.2.2)), ())) (fun (y_73 : (((List (Int × ((List Int) × (Int × Unit)))) × Unit) × (Unit × Unit))) => (letR (List.length y_73.1.1) fun (v_74 : Nat) => (letR ((v_74 : Nat) : Int) fun (v_75 : Int) => (brR (decide (turn_18 = (1 : Int))) (brR (decide (v_75 > (1 : Int))) (Option.bind (c_law0_Mod (how_15, ((IntKind.wrap (IntKind.i64) (v_75 - (1 : Int))), ()))) (fun (y_76 : ((Int × Unit) × (Unit × (Unit × Unit)))) => (letR (IntKind.wrap (IntKind.i64) (y_76.1.1 + (1 : Int))) fun (v_77 : Int) => (letR (List.set y_73.1.1 (Int.toNat y_76.1.1) (List.getD y_73.1.1 (Int.toNat v_77) ((0 : Int), ([(0 : Int), (0 : Int), (0 : Int), (0 : Int)], ((0 : Int), ()))))) fun (v_78 : (List (Int × ((List Int) × (Int × Unit))))) => (brR (inR v_77 v_74) (brR (inR y_76.1.1 v_74) (brR (inR y_76.1.1 v_74) (brR (inR v_77 (List.length v_78)) (again_13 ((List.set v_78 (Int.toNat v_77) (List.getD y_73.1.1 (Int.toNat y_76.1.1) ((0 : Int), ([(0 : Int), (0 : Int), (0 : Int), (0 : Int)], ((0 : Int), ()))))), (how_15, (b_17.2.1, ((b_17.1, (b_17.2.1, b_17.2.2)), ((IntKind.wrap (IntKind.i64) (turn_18 + (1 : Int))), ())))))) none) none) none) none))))) (again_13 (y_73.1.1, (how_15, (b_17.2.1, ((b_17.1, (b_17.2.1, b_17.2.2)), ((IntKind.wrap (IntKind.i64) (turn_18 + (1 : Int))), ()))))))) (again_13 (y_73.1.1, (how_15, (b_17.2.1, ((b_17.1, (b_17.2.1, b_17.2.2)), ((IntKind.wrap (IntKind.i64) (turn_18 + (1 : Int))), ())))))))))))))))))))))))))))))))))) (Option.bind (c_ref11_Ledger_Accounts ((b_17.1, (b_17.2.1, b_17.2.2)), ())) (fun (y_79 : (((List (Int × ((List Int) × (Int × Unit)))) × Unit) × (Unit × Unit))) => (letR (List.length y_79.1.1) fun (v_80 : Nat) => (letR ((v_80 : Nat) : Int) fun (v_81 : Int) => (brR (decide (turn_18 = (1 : Int))) (brR (decide (v_81 > (1 : Int))) (Option.bind (c_law0_Mod (how_15, ((IntKind.wrap (IntKind.i64) (v_81 - (1 : Int))), ()))) (fun (y_82 : ((Int × Unit) × (Unit × (Unit × Unit)))) => (letR (IntKind.wrap (IntKind.i64) (y_82.1.1 + (1 : Int))) fun (v_83 : Int) => (letR (List.set y_79.1.1 (Int.toNat y_82.1.1) (List.getD y_79.1.1 (Int.toNat v_83) ((0 : Int), ([(0 : Int), (0 : Int), (0 : Int), (0 : Int)], ((0 : Int), ()))))) fun (v_84 : (List (Int × ((List Int) × (Int × Unit))))) => (brR (inR v_83 v_80) (brR (inR y_82.1.1 v_80) (brR (inR y_82.1.1 v_80) (brR (inR v_83 (List.length v_84)) (again_13 ((List.set v_84 (Int.toNat v_83) (List.getD y_79.1.1 (Int.toNat y_82.1.1) ((0 : Int), ([(0 : Int), (0 : Int), (0 : Int), (0 : Int)], ((0 : Int), ()))))), (how_15, (b_17.2.1, ((b_17.1, (b_17.2.1, b_17.2.2)), ((IntKind.wrap (IntKind.i64) (turn_18 + (1 : Int))), ())))))) none) none) none) none))))) (again_13 (y_79.1.1, (how_15, (b_17.2.1, ((b_17.1, (b_17.2.1, b_17.2.2)), ((IntKind.wrap (IntKind.i64) (turn_18 + (1 : Int))), ()))))))) (again_13 (y_79.1.1, (how_15, (b_17.2.1, ((b_17.1, (b_17.2.1, b_17.2.2)), ((IntKind.wrap (IntKind.i64) (turn_18 + (1 : Int))), ())))))))))))))))))))))) (Option.bind (c_law11_awake ()) (fun (y_85 : ((Bool × Unit) × Unit)) => (some ((y_85.1.1, ()), ((), ((), ((), ((), ())))))))))
noncomputable def T_law11_LedgerLoad_loop0 (L : LoopD) (c_law11_normalize : F_law11_normalize) (c_law11_applyReference : F_law11_applyReference) (c_ledger_Load : F_ledger_Load) (c_ref11_Load : F_ref11_Load) (c_ledger_Ledger_Accounts : F_ledger_Ledger_Accounts) (c_ref11_Ledger_Accounts : F_ref11_Ledger_Accounts) (c_law0_Mod : F_law0_Mod) (c_law0_EqualAccounts : F_law0_EqualAccounts) (c_ledger_Ledger_Vaults : F_ledger_Ledger_Vaults) (c_ledger_Ledger_Supply : F_ledger_Ledger_Supply) (c_ref11_Ledger_Supply : F_ref11_Ledger_Supply) (c_ref1_ToUint256 : F_ref1_ToUint256) (c_law11_awake : F_law11_awake) (again_3 : ((List (Int × ((List Int) × (Int × Unit)))) × ((List (Int × (Int × (Int × (Int × ((List Int) × (Bool × Unit))))))) × (Int × ((List (List Int)) × (((List (Int × ((List Int) × (Int × Unit)))) × ((List (List Int)) × Unit)) × (Int × Unit)))))) → Option ((Bool × Unit) × (Unit × (Unit × (Unit × (Unit × Unit)))))) (l_4 : (List (Int × ((List Int) × (Int × Unit))))) (d_5 : (List (Int × (Int × (Int × (Int × ((List Int) × (Bool × Unit)))))))) (how_6 : Int) (v_7 : (List (List Int))) (b_8 : ((List (Int × ((List Int) × (Int × Unit)))) × ((List (List Int)) × Unit))) (i_9 : Int) : Option ((Bool × Unit) × (Unit × (Unit × (Unit × (Unit × Unit))))) := (letR (List.length d_5) fun (v_10 : Nat) => (brR (decide (i_9 < ((v_10 : Nat) : Int))) (brR (inR i_9 v_10) (Option.bind (c_law11_normalize ((List.getD d_5 (Int.toNat i_9) ((0 : Int), ((0 : Int), ((0 : Int), ((0 : Int), ([(0 : Int), (0 : Int), (0 : Int), (0 : Int)], (false, ()))))))), (i_9, ()))) (fun (y_11 : (((Int × (Int × (Int × (Int × ((List Int) × (Bool × Unit)))))) × Unit) × (Unit × (Unit × Unit)))) => (Option.bind (c_law11_applyReference ((b_8.1, (b_8.2.1, b_8.2.2)), (y_11.1.1, ()))) (fun (y_12 : ((Int × Unit) × (((List (Int × ((List Int) × (Int × Unit)))) × ((List (List Int)) × Unit)) × (Unit × Unit)))) => (again_3 (l_4, (d_5, (how_6, (v_7, ((y_12.2.1.1, (y_12.2.1.2.1, y_12.2.1.2.2)), ((IntKind.wrap (IntKind.i64) (i_9 + (1 : Int))), ()))))))))))) none) (L _ _ (fun again x => T_law11_LedgerLoad_loop1 c_ledger_Load c_ref11_Load c_ledger_Ledger_Accounts c_ref11_Ledger_Accounts c_law0_Mod c_law0_EqualAccounts c_ledger_Ledger_Vaults c_ledger_Ledger_Supply c_ref11_Ledger_Supply c_ref1_ToUint256 c_law11_awake again x.1 x.2.1 x.2.2.1 x.2.2.2.1 x.2.2.2.2.1) (l_4, (how_6, (v_7, ((b_8.1, (b_8.2.1, b_8.2.2)), ((0 : Int), ()))))))))
noncomputable def T_law11_LedgerLoad (L : LoopD) (c_law11_awake : F_law11_awake) (c_ref11_New : F_ref11_New) (c_law11_normalize : F_law11_normalize) (c_law11_applyReference : F_law11_applyReference) (c_ledger_Load : F_ledger_Load) (c_ref11_Load : F_ref11_Load) (c_ledger_Ledger_Accounts : F_ledger_Ledger_Accounts) (c_ref11_Ledger_Accounts : F_ref11_Ledger_Accounts) (c_law0_Mod : F_law0_Mod) (c_law0_EqualAccounts : F_law0_EqualAccounts) (c_ledger_Ledger_Vaults : F_ledger_Ledger_Vaults) (c_ledger_Ledger_Supply : F_ledger_Ledger_Supply) (c_ref11_Ledger_Supply : F_ref11_Ledger_Supply) (c_ref1_ToUint256 : F_ref1_ToUint256) (l_ : (List (Int × ((List Int) × (Int × Unit))))) (v_ : (List (List Int))) (d_ : (List (Int × (Int × (Int × (Int × ((List Int) × (Bool × Unit)))))))) (how_ : Int) : Option ((Bool × Unit) × (Unit × (Unit × (Unit × (Unit × Unit))))) := (brR (decide ((((List.length l_) : Nat) : Int) > (40 : Int))) (Option.bind (c_law11_awake ()) (fun (y_0 : ((Bool × Unit) × Unit)) => (some ((y_0.1.1, ()), ((), ((), ((), ((), ())))))))) (brR (decide ((((List.length d_) : Nat) : Int) > (40 : Int))) (Option.bind (c_law11_awake ()) (fun (y_1 : ((Bool × Unit) × Unit)) => (some ((y_1.1.1, ()), ((), ((), ((), ((), ())))))))) (Option.bind (c_ref11_New ()) (fun (y_2 : ((((List (Int × ((List Int) × (Int × Unit)))) × ((List (List Int)) × Unit)) × Unit) × Unit)) => (L _ _ (fun again x => T_law11_LedgerLoad_loop0 L c_law11_normalize c_law11_applyReference c_ledger_Load c_ref11_Load c_ledger_Ledger_Accounts c_ref11_Ledger_Accounts c_law0_Mod c_law0_EqualAccounts c_ledger_Ledger_Vaults c_ledger_Ledger_Supply c_ref11_Ledger_Supply c_ref1_ToUint256 c_law11_awake again x.1 x.2.1 x.2.2.1 x.2.2.2.1 x.2.2.2.2.1 x.2.2.2.2.2.1) (l_, (d_, (how_, (v_, ((y_2.1.1.1, (y_2.1.1.2.1, y_2.1.1.2.2)), ((0 : Int), ())))))))))))
noncomputable def sol_law11_LedgerLoad : F_law11_LedgerLoad := fun x => T_law11_LedgerLoad bigLoop sol_law11_awake sol_ref11_New sol_law11_normalize sol_law11_applyReference sol_ledger_Load sol_ref11_Load sol_ledger_Ledger_Accounts sol_ref11_Ledger_Accounts sol_law0_Mod sol_law0_EqualAccounts sol_ledger_Ledger_Vaults sol_ledger_Ledger_Supply sol_ref11_Ledger_Supply sol_ref1_ToUint256 x.1 x.2.1 x.2.2.1 x.2.2.2.1
end Go.Pon
set_option autoImplicit false
set_option linter.unusedVariables false
namespace Go.Pon
open Go
theorem brR_ite {α : Type} (c : Bool) (t e : Option α) : brR c t e = if c = true then t else e := by cases c <;> rfl
theorem brR_dec {α : Type} (p : Prop) [Decidable p] (t e : Option α) : brR (decide p) t e = if p then t else e := by
  rw [brR_ite]; by_cases h : p <;> simp [h]
theorem brR_not {α : Type} (c : Bool) (t e : Option α) : brR (!c) t e = brR c e t := by cases c <;> rfl
theorem brR_and {α : Type} (a b : Bool) (t e : Option α) : brR (a && b) t e = brR a (brR b t e) e := by cases a <;> rfl
theorem brR_inR {α : Type} (i : Int) (n : Nat) (t e : Option α) : brR (inR i n) t e = if 0 ≤ i ∧ i < n then t else e := by
  unfold inR; rw [brR_and, brR_dec, brR_dec]; by_cases h1 : 0 ≤ i <;> by_cases h2 : i < n <;> simp [h1, h2]
theorem bind_some' {α β : Type} (a : α) (f : α → Option β) : Option.bind (some a) f = f a := rfl
theorem roomy_dec {n : Nat} {t : Ty} : roomy n t = decide (0 < t.size ∧ n * (24 * t.size) ≤ 140737488355328) := by
  unfold roomy
  by_cases h : 0 < t.size
  · simp [h]
  · simp [h]
theorem brR_roomy {α : Type} (n : Nat) (t : Ty) (a b : Option α) : brR (roomy n t) a b = if 0 < t.size ∧ n * (24 * t.size) ≤ 140737488355328 then a else b := by
  rw [roomy_dec, brR_dec]
theorem optR_some {α β : Type} (a : α) (n : Option β) (f : α → Option β) : optR (some a) n f = f a := rfl
theorem optR_none {α β : Type} (n : Option β) (f : α → Option β) : optR none n f = n := rfl
theorem bigLoop_rule {ω δ : Type} {round : (δ → Option ω) → δ → Option ω} (I : δ → Prop) (m : δ → Nat) (g : δ → Option ω)
    (h : ∀ x (again : δ → Option ω), I x → (∀ y, I y → m y < m x → again y = g y) → round again x = g x) {x : δ} (hx : I x) (hm : m x < bigN) : bigLoop ω δ round x = g x := by
  have key : ∀ n x, I x → m x < n → loopN round n x = g x := by
    intro n
    induction n with
    | zero => intro x _ hm; omega
    | succ n ih =>
      intro x hx hm
      rw [loopN_succ]
      exact h x _ hx fun y hy hlt => ih y hy (by omega)
  rw [bigLoop_def]
  exact key bigN x hx hm
theorem bigN_eq : bigN = 18446744073709551616 := rfl
theorem w_i64 {n : Int} (h1 : -9223372036854775808 ≤ n) (h2 : n ≤ 9223372036854775807) : IntKind.i64.wrap n = n := by rw [IntKind.wrap_i64]; omega
theorem w_u64 {n : Int} (h1 : 0 ≤ n) (h2 : n ≤ 18446744073709551615) : IntKind.u64.wrap n = n := by rw [IntKind.wrap_u64]; omega
theorem tdiv_pos {a b : Int} (h : 0 ≤ a) : Int.tdiv a b = a / b := Int.tdiv_eq_ediv_of_nonneg h
theorem tmod_pos {a b : Int} (h : 0 ≤ a) : Int.tmod a b = a % b := Int.tmod_eq_emod_of_nonneg h
theorem inK_u64 {n : Int} : inK .u64 n ↔ 0 ≤ n ∧ n ≤ 18446744073709551615 := by simp [inK, IntKind.min, IntKind.max, IntKind.signed, IntKind.bits]
theorem inK_i64 {n : Int} : inK .i64 n ↔ -9223372036854775808 ≤ n ∧ n ≤ 9223372036854775807 := by simp [inK, IntKind.min, IntKind.max, IntKind.signed, IntKind.bits]
theorem getD_mem {α : Type} {l : List α} {i : Nat} {d : α} (h : i < l.length) : List.getD l i d ∈ l := by
  rw [List.getD_eq_getElem?_getD, List.getElem?_eq_getElem h]; simp
theorem getD_all {p : Int → Prop} {l : List Int} (h : ∀ x ∈ l, p x) (h0 : p 0) (i : Nat) : p (List.getD l i 0) := by
  rcases Nat.lt_or_ge i l.length with hi | hi
  · exact h _ (getD_mem hi)
  · rw [List.getD_eq_getElem?_getD, List.getElem?_eq_none hi]; exact h0
theorem append_def {α : Type} (l m : List α) : List.append l m = l ++ m := rfl
end Go.Pon
set_option autoImplicit false
namespace Go.Pon
open Go
def U64 (n : Int) : Prop := 0 ≤ n ∧ n ≤ 18446744073709551615
def I64 (n : Int) : Prop := -9223372036854775808 ≤ n ∧ n ≤ 9223372036854775807
def B256 (n : Nat) : Prop := n < 115792089237316195423570985008687907853269984665640564039457584007913129639936
theorem ext_getD {α : Type} {l m : List α} {d : α} (hl : l.length = m.length) (h : ∀ k, k < l.length → l.getD k d = m.getD k d) : l = m := by
  apply List.ext_getElem hl
  intro k h1 h2
  have := h k h1
  rw [List.getD_eq_getElem?_getD, List.getElem?_eq_getElem h1, List.getD_eq_getElem?_getD, List.getElem?_eq_getElem h2] at this
  exact this
theorem take_succ' {α : Type} {l : List α} {d : α} {i : Nat} (h : i < l.length) : l.take (i + 1) = l.take i ++ [l.getD i d] := by
  rw [List.take_succ_eq_append_getElem h, List.getD_eq_getElem?_getD, List.getElem?_eq_getElem h]; rfl
end Go.Pon
set_option autoImplicit false
set_option linter.unusedVariables false
namespace Go.Pon
open Go
def bitlen (n : Nat) : Nat := if n = 0 then 0 else Nat.log2 n + 1
def lim (n : Nat) : List Int := [((n % 18446744073709551616 : Nat) : Int), ((n / 18446744073709551616 % 18446744073709551616 : Nat) : Int), ((n / 340282366920938463463374607431768211456 % 18446744073709551616 : Nat) : Int), ((n / 6277101735386680763835789423207666416102355444464034512896 : Nat) : Int)]
def val4 (l : List Int) : Nat := (l.getD 0 0).toNat + (l.getD 1 0).toNat * 18446744073709551616 + (l.getD 2 0).toNat * 340282366920938463463374607431768211456 + (l.getD 3 0).toNat * 6277101735386680763835789423207666416102355444464034512896
theorem val4_lim {n : Nat} : val4 (lim n) = n := by
  simp only [val4, lim, List.getD_cons_zero, List.getD_cons_succ, Int.toNat_natCast]
  omega
theorem lim_inj {n m : Nat} : lim n = lim m ↔ n = m := ⟨fun h => by rw [← val4_lim (n := n), h, val4_lim], fun h => by rw [h]⟩
theorem list4 {α : Type} {l : List α} (h : l.length = 4) : ∃ a b c d, l = [a, b, c, d] := by
  match l, h with
  | [a, b, c, d], _ => exact ⟨a, b, c, d, rfl⟩
theorem u256_wf {l : List Int} (h : (Ty.arr 4 (.int .u64)).wf l) : ∃ n, n < 115792089237316195423570985008687907853269984665640564039457584007913129639936 ∧ l = lim n := by
  obtain ⟨h1, h2⟩ := h
  obtain ⟨a, b, c, d, rfl⟩ := list4 (α := Int) h1
  have ha := inK_u64.1 (h2 a (by simp))
  have hb := inK_u64.1 (h2 b (by simp))
  have hc := inK_u64.1 (h2 c (by simp))
  have hd := inK_u64.1 (h2 d (by simp))
  refine ⟨a.toNat + b.toNat * 18446744073709551616 + c.toNat * 340282366920938463463374607431768211456 + d.toNat * 6277101735386680763835789423207666416102355444464034512896, by omega, ?_⟩
  simp only [lim, List.cons.injEq, and_true]
  refine ⟨?_, ?_, ?_, ?_⟩ <;> omega
theorem lim_small {x : Int} (h1 : 0 ≤ x) (h2 : x ≤ 18446744073709551615) : ([x, 0, 0, 0] : List Int) = lim x.toNat := by
  simp only [lim, List.cons.injEq, and_true]
  refine ⟨?_, ?_, ?_, ?_⟩ <;> omega
theorem lim_zero : lim 0 = [0, 0, 0, 0] := rfl
def beB : Nat → Nat → List Int
  | 0, _ => []
  | k + 1, n => ((n / 256 ^ k % 256 : Nat) : Int) :: beB k n
def bylen (n : Nat) : Nat := (bitlen n + 7) / 8
end Go.Pon
set_option autoImplicit false
set_option linter.unusedVariables false
set_option linter.unusedSimpArgs false
namespace Go.Pon
open Go
abbrev AccT := Int × (List Int × (Int × Unit))
abbrev zAcc : AccT := ((0 : Int), ([(0 : Int), (0 : Int), (0 : Int), (0 : Int)], ((0 : Int), ())))
abbrev eAcc (a : Int) : AccT := (a, ([(0 : Int), (0 : Int), (0 : Int), (0 : Int)], ((0 : Int), ())))
inductive AccW : AccT → Prop
  | mk {a : Int} {b : Nat} {n : Int} (ha : U64 a) (hb : B256 b) (hn : U64 n) : AccW (a, (lim b, (n, ())))
def AllA (l : List AccT) : Prop := ∀ x ∈ l, AccW x
def isE (x : AccT) : Prop := x = eAcc x.1
instance (x : AccT) : Decidable (isE x) := inferInstanceAs (Decidable (x = eAcc x.1))
theorem eAccW {a : Int} (h : U64 a) : AccW (eAcc a) := by
  have := AccW.mk (a := a) (b := 0) (n := 0) h (by unfold B256; omega) (by unfold U64; omega)
  exact this
theorem zAccW : AccW zAcc := eAccW (by unfold U64; omega)
theorem AllA.at {l : List AccT} (h : AllA l) (i : Nat) : AccW (l.getD i zAcc) := by
  rcases Nat.lt_or_ge i l.length with hi | hi
  · exact h _ (getD_mem hi)
  · rw [List.getD_eq_getElem?_getD, List.getElem?_eq_none hi]; exact zAccW
def lget : List AccT → Int → AccT
  | [], a => eAcc a
  | x :: l, a => if x.1 = a then x else lget l a
def lput : List AccT → AccT → List AccT
  | [], y => if isE y then [] else [y]
  | x :: l, y => if x.1 < y.1 then x :: lput l y else if x.1 = y.1 then (if isE y then l else y :: l) else (if isE y then x :: l else y :: x :: l)
def Srt (l : List AccT) : Prop := l.Pairwise fun x y => x.1 < y.1
def NE (l : List AccT) : Prop := ∀ x ∈ l, ¬ isE x
def sumL (l : List AccT) : Nat := (l.map fun x => val4 x.2.1).sum
theorem sumL_nil : sumL [] = 0 := rfl
theorem sumL_cons (x : AccT) (l : List AccT) : sumL (x :: l) = val4 x.2.1 + sumL l := by simp [sumL]
theorem sumL_append (l m : List AccT) : sumL (l ++ m) = sumL l + sumL m := by simp [sumL]
theorem lget_absent : ∀ {l : List AccT} {a : Int}, (∀ x ∈ l, x.1 ≠ a) → lget l a = eAcc a
  | [], _, _ => rfl
  | x :: l, a, h => by
    unfold lget
    rw [if_neg (h x (by simp)), lget_absent fun y hy => h y (by simp [hy])]
theorem lget_fst : ∀ (l : List AccT) (a : Int), (lget l a).1 = a
  | [], _ => rfl
  | x :: l, a => by
    unfold lget
    by_cases h : x.1 = a
    · rw [if_pos h]; exact h
    · rw [if_neg h]; exact lget_fst l a
theorem lget_mem : ∀ (l : List AccT) (a : Int), lget l a ∈ l ∨ ((∀ x ∈ l, x.1 ≠ a) ∧ lget l a = eAcc a)
  | [], _ => .inr ⟨fun x h => by simp at h, rfl⟩
  | x :: l, a => by
    unfold lget
    by_cases h : x.1 = a
    · rw [if_pos h]; exact .inl (by simp)
    · rw [if_neg h]
      rcases lget_mem l a with h1 | ⟨h1, h2⟩
      · exact .inl (by simp [h1])
      · exact .inr ⟨fun y hy => by
          rcases List.mem_cons.1 hy with rfl | hy
          · exact h
          · exact h1 y hy, h2⟩
theorem lgetW {l : List AccT} {a : Int} (h : AllA l) (ha : U64 a) : AccW (lget l a) := by
  rcases lget_mem l a with h1 | ⟨_, h2⟩
  · exact h _ h1
  · rw [h2]; exact eAccW ha
theorem mem_lput : ∀ {l : List AccT} {x y : AccT}, x ∈ lput l y → x ∈ l ∨ (x = y ∧ ¬ isE y)
  | [], x, y, h => by
    unfold lput at h
    by_cases he : isE y
    · rw [if_pos he] at h; simp at h
    · rw [if_neg he] at h; exact .inr ⟨by simpa using h, he⟩
  | z :: l, x, y, h => by
    unfold lput at h
    by_cases h1 : z.1 < y.1
    · rw [if_pos h1] at h
      rcases List.mem_cons.1 h with rfl | h
      · exact .inl (by simp)
      · rcases mem_lput h with h | h
        · exact .inl (by simp [h])
        · exact .inr h
    · rw [if_neg h1] at h
      by_cases h2 : z.1 = y.1
      · rw [if_pos h2] at h
        by_cases he : isE y
        · rw [if_pos he] at h; exact .inl (by simp [h])
        · rw [if_neg he] at h
          rcases List.mem_cons.1 h with rfl | h
          · exact .inr ⟨rfl, he⟩
          · exact .inl (by simp [h])
      · rw [if_neg h2] at h
        by_cases he : isE y
        · rw [if_pos he] at h; exact .inl h
        · rw [if_neg he] at h
          rcases List.mem_cons.1 h with rfl | h
          · exact .inr ⟨rfl, he⟩
          · exact .inl h
theorem srt_lput : ∀ {l : List AccT} {y : AccT}, Srt l → Srt (lput l y)
  | [], y, _ => by
    unfold lput
    by_cases he : isE y
    · rw [if_pos he]; exact List.Pairwise.nil
    · rw [if_neg he]; exact List.pairwise_singleton _ _
  | z :: l, y, h => by
    have h' := List.pairwise_cons.1 h
    unfold lput
    by_cases h1 : z.1 < y.1
    · rw [if_pos h1]
      refine List.pairwise_cons.2 ⟨fun x hx => ?_, srt_lput h'.2⟩
      rcases mem_lput hx with hx | ⟨rfl, _⟩
      · exact h'.1 x hx
      · exact h1
    · rw [if_neg h1]
      by_cases h2 : z.1 = y.1
      · rw [if_pos h2]
        by_cases he : isE y
        · rw [if_pos he]; exact h'.2
        · rw [if_neg he]
          exact List.pairwise_cons.2 ⟨fun x hx => by rw [← h2]; exact h'.1 x hx, h'.2⟩
      · rw [if_neg h2]
        by_cases he : isE y
        · rw [if_pos he]; exact h
        · rw [if_neg he]
          refine List.pairwise_cons.2 ⟨fun x hx => ?_, h⟩
          rcases List.mem_cons.1 hx with rfl | hx
          · omega
          · have := h'.1 x hx; omega
theorem ne_lput {l : List AccT} {y : AccT} (h : NE l) : NE (lput l y) := fun x hx => by
  rcases mem_lput hx with hx | ⟨rfl, he⟩
  · exact h x hx
  · exact he
theorem all_lput {l : List AccT} {y : AccT} (h : AllA l) (hy : AccW y) : AllA (lput l y) := fun x hx => by
  rcases mem_lput hx with hx | ⟨rfl, he⟩
  · exact h x hx
  · exact hy
theorem len_lput : ∀ (l : List AccT) (y : AccT), (lput l y).length ≤ l.length + 1
  | [], y => by
    unfold lput
    by_cases he : isE y
    · rw [if_pos he]; simp
    · rw [if_neg he]; simp
  | z :: l, y => by
    have := len_lput l y
    unfold lput
    split
    · simp; omega
    · split
      · split <;> (simp; try omega)
      · split <;> simp
theorem lget_lput : ∀ {l : List AccT} {y : AccT} {a : Int}, Srt l → lget (lput l y) a = if a = y.1 then y else lget l a
  | [], y, a, _ => by
    unfold lput
    by_cases he : isE y
    · rw [if_pos he]
      by_cases ha : a = y.1
      · rw [if_pos ha, ha]; exact he.symm
      · rw [if_neg ha]
    · rw [if_neg he]
      simp only [lget]
      by_cases ha : a = y.1
      · rw [if_pos ha, if_pos ha.symm]
      · rw [if_neg ha, if_neg fun h => ha h.symm]
  | z :: l, y, a, h => by
    have h' := List.pairwise_cons.1 h
    unfold lput
    by_cases h1 : z.1 < y.1
    · rw [if_pos h1]
      have ih := lget_lput (y := y) (a := a) h'.2
      simp only [lget]
      rw [ih]
      by_cases hz : z.1 = a
      · rw [if_pos hz, if_neg (by omega), if_pos hz]
      · rw [if_neg hz, if_neg hz]
    · rw [if_neg h1]
      by_cases h2 : z.1 = y.1
      · rw [if_pos h2]
        by_cases he : isE y
        · rw [if_pos he]
          by_cases ha : a = y.1
          · rw [if_pos ha, lget_absent fun x hx => by have := h'.1 x hx; omega, ha]
            exact he.symm
          · rw [if_neg ha]
            simp only [lget]
            rw [if_neg (by omega)]
        · rw [if_neg he]
          simp only [lget]
          by_cases ha : a = y.1
          · rw [if_pos ha, if_pos ha.symm]
          · rw [if_neg ha, if_neg (fun h => ha h.symm), if_neg (by omega)]
      · rw [if_neg h2]
        by_cases he : isE y
        · rw [if_pos he]
          by_cases ha : a = y.1
          · rw [if_pos ha, lget_absent (fun x hx => ?_), ha]
            · exact he.symm
            · rcases List.mem_cons.1 hx with rfl | hx
              · omega
              · have := h'.1 x hx; omega
          · rw [if_neg ha]
        · rw [if_neg he]
          simp only [lget]
          by_cases ha : a = y.1
          · rw [if_pos ha, if_pos ha.symm]
          · rw [if_neg ha, if_neg fun h => ha h.symm]
theorem val4_z : val4 [(0 : Int), (0 : Int), (0 : Int), (0 : Int)] = 0 := by decide
theorem isE_val {y : AccT} (h : isE y) : val4 y.2.1 = 0 := by
  unfold isE at h; rw [h]; exact val4_z
theorem sum_lput : ∀ {l : List AccT} {y : AccT}, Srt l → sumL (lput l y) + val4 (lget l y.1).2.1 = sumL l + val4 y.2.1
  | [], y, _ => by
    unfold lput lget
    by_cases he : isE y
    · rw [if_pos he, isE_val he, val4_z]
    · rw [if_neg he, val4_z, sumL_cons, sumL_nil]; omega
  | z :: l, y, h => by
    have h' := List.pairwise_cons.1 h
    unfold lput
    by_cases h1 : z.1 < y.1
    · rw [if_pos h1]
      have ih := sum_lput (y := y) h'.2
      simp only [lget]
      rw [if_neg (by omega), sumL_cons, sumL_cons]; omega
    · rw [if_neg h1]
      by_cases h2 : z.1 = y.1
      · rw [if_pos h2]
        simp only [lget]
        rw [if_pos h2]
        by_cases he : isE y
        · rw [if_pos he, isE_val he, sumL_cons]; omega
        · rw [if_neg he, sumL_cons, sumL_cons]; omega
      · rw [if_neg h2, lget_absent (fun x hx => ?_), val4_z]
        · by_cases he : isE y
          · rw [if_pos he, isE_val he]
          · rw [if_neg he, sumL_cons y]; omega
        · rcases List.mem_cons.1 hx with rfl | hx
          · exact h2
          · have := h'.1 x hx; omega
theorem lget_head {x : AccT} {l : List AccT} : lget (x :: l) x.1 = x := by unfold lget; rw [if_pos rfl]
theorem lext : ∀ {l m : List AccT}, Srt l → Srt m → NE l → NE m → (∀ a, lget l a = lget m a) → l = m
  | [], [], _, _, _, _, _ => rfl
  | [], y :: m, _, _, _, hn, h => by
    have := h y.1
    rw [lget_head] at this
    exact absurd this.symm (hn y (by simp))
  | x :: l, [], _, _, hn, _, h => by
    have := h x.1
    rw [lget_head] at this
    exact absurd this (hn x (by simp))
  | x :: l, y :: m, hs, ht, hn, hm, h => by
    have hs' := List.pairwise_cons.1 hs
    have ht' := List.pairwise_cons.1 ht
    rcases Int.lt_trichotomy x.1 y.1 with h1 | h1 | h1
    · have := h x.1
      rw [lget_head, lget_absent (l := y :: m) (fun z hz => by
        rcases List.mem_cons.1 hz with rfl | hz
        · omega
        · have := ht'.1 z hz; omega)] at this
      exact absurd this (hn x (by simp))
    · have e : x = y := by
        have := h x.1
        rw [lget_head, h1, lget_head] at this
        exact this
      subst e
      congr 1
      refine lext hs'.2 ht'.2 (fun z hz => hn z (by simp [hz])) (fun z hz => hm z (by simp [hz])) fun a => ?_
      by_cases ha : x.1 = a
      · rw [lget_absent fun z hz => by have := hs'.1 z hz; omega, lget_absent fun z hz => by have := ht'.1 z hz; omega]
      · have := h a
        simp only [lget] at this
        rw [if_neg ha, if_neg ha] at this
        exact this
    · have := h y.1
      rw [lget_head, lget_absent (l := x :: l) (fun z hz => by
        rcases List.mem_cons.1 hz with rfl | hz
        · omega
        · have := hs'.1 z hz; omega)] at this
      exact absurd this.symm (hm y (by simp))
def cntA : List AccT → Int → Nat
  | [], _ => 0
  | p :: l, a => if p.1 < a then cntA l a + 1 else 0
theorem cntA_cons (p : AccT) (l : List AccT) (a : Int) : cntA (p :: l) a = if p.1 < a then cntA l a + 1 else 0 := rfl
theorem cntA_le (a : Int) : ∀ l : List AccT, cntA l a ≤ l.length
  | [] => by simp [cntA]
  | p :: l => by
    have := cntA_le a l
    unfold cntA
    split
    · simp; omega
    · simp
theorem cntA_lt : ∀ {l : List AccT} {a : Int} {i : Nat}, i < cntA l a → (l.getD i zAcc).1 < a
  | [], a, i, h => by simp [cntA] at h
  | p :: l, a, i, h => by
    unfold cntA at h
    by_cases hp : p.1 < a
    · rw [if_pos hp] at h
      cases i with
      | zero => exact hp
      | succ i => exact cntA_lt (l := l) (by omega)
    · rw [if_neg hp] at h; omega
theorem srt_lt {l : List AccT} (h : Srt l) {i j : Nat} (hij : i < j) (hj : j < l.length) : (l.getD i zAcc).1 < (l.getD j zAcc).1 := by
  have := List.pairwise_iff_getElem.1 h i j (by omega) hj hij
  rw [List.getD_eq_getElem?_getD, List.getElem?_eq_getElem (by omega), List.getD_eq_getElem?_getD, List.getElem?_eq_getElem hj]
  exact this
theorem cntA_at : ∀ {l : List AccT} {a : Int}, cntA l a < l.length → a ≤ (l.getD (cntA l a) zAcc).1
  | [], a, h => by simp [cntA] at h
  | p :: l, a, h => by
    unfold cntA at h ⊢
    by_cases hp : p.1 < a
    · rw [if_pos hp] at h ⊢
      exact cntA_at (l := l) (by simpa using h)
    · rw [if_neg hp] at h ⊢
      show a ≤ p.1
      omega
theorem cntA_ge {l : List AccT} (hs : Srt l) {a : Int} {i : Nat} (h : cntA l a ≤ i) (hi : i < l.length) : a ≤ (l.getD i zAcc).1 := by
  have h1 := cntA_at (l := l) (a := a) (by omega)
  rcases Nat.lt_or_ge (cntA l a) i with h2 | h2
  · have := srt_lt hs h2 hi; omega
  · rw [show i = cntA l a by omega]; exact h1
abbrev foundA (l : List AccT) (a : Int) : Prop := cntA l a < l.length ∧ (l.getD (cntA l a) zAcc).1 = a
theorem lget_cnt : ∀ {l : List AccT} {a : Int}, Srt l → lget l a = if foundA l a then l.getD (cntA l a) zAcc else eAcc a
  | [], a, _ => rfl
  | p :: l, a, h => by
    have h' := List.pairwise_cons.1 h
    unfold foundA
    rw [cntA_cons]
    simp only [lget]
    by_cases hp : p.1 < a
    · rw [if_neg (by omega), if_pos hp, lget_cnt h'.2]
      unfold foundA
      simp only [List.length_cons, Nat.add_lt_add_iff_right, List.getD_cons_succ]
    · rw [if_neg hp]
      simp only [List.length_cons, List.getD_cons_zero, Nat.zero_lt_succ, true_and]
      by_cases he : p.1 = a
      · rw [if_pos he, if_pos he]
      · rw [if_neg he, if_neg he, lget_absent fun x hx => by have := h'.1 x hx; omega]
theorem lput_cnt : ∀ (l : List AccT) (y : AccT), lput l y = if foundA l y.1 then (if isE y then l.take (cntA l y.1) ++ l.drop (cntA l y.1 + 1) else l.set (cntA l y.1) y) else
    (if isE y then l else l.take (cntA l y.1) ++ (y :: l.drop (cntA l y.1)))
  | [], y => by
    unfold lput foundA cntA
    simp
  | p :: l, y => by
    unfold foundA
    rw [cntA_cons]
    unfold lput
    by_cases hp : p.1 < y.1
    · rw [if_pos hp, if_pos hp, lput_cnt l y]
      unfold foundA
      simp only [List.length_cons, Nat.add_lt_add_iff_right, List.getD_cons_succ, List.take_succ_cons, List.drop_succ_cons, List.set_cons_succ]
      split
      · split <;> rfl
      · split <;> rfl
    · rw [if_neg hp, if_neg hp]
      simp only [List.length_cons, List.getD_cons_zero, Nat.zero_lt_succ, true_and, List.take_zero, List.drop_zero, List.nil_append, List.set_cons_zero, Nat.zero_add, List.drop_succ_cons]
def Dist (m : List AccT) : Prop := m.Pairwise fun x y => x.1 ≠ y.1
def mput : List AccT → AccT → List AccT
  | [], y => [y]
  | x :: m, y => if x.1 = y.1 then y :: m else x :: mput m y
def isort (m : List AccT) : List AccT := m.foldl lput []
theorem mem_mput : ∀ {m : List AccT} {x y : AccT}, x ∈ mput m y → x ∈ m ∨ x = y
  | [], x, y, h => .inr (by simpa [mput] using h)
  | z :: m, x, y, h => by
    unfold mput at h
    by_cases hz : z.1 = y.1
    · rw [if_pos hz] at h
      rcases List.mem_cons.1 h with rfl | h
      · exact .inr rfl
      · exact .inl (by simp [h])
    · rw [if_neg hz] at h
      rcases List.mem_cons.1 h with rfl | h
      · exact .inl (by simp)
      · rcases mem_mput h with h | h
        · exact .inl (by simp [h])
        · exact .inr h
theorem dist_mput : ∀ {m : List AccT} {y : AccT}, Dist m → Dist (mput m y)
  | [], y, _ => List.pairwise_singleton _ _
  | z :: m, y, h => by
    have h' := List.pairwise_cons.1 h
    unfold mput
    by_cases hz : z.1 = y.1
    · rw [if_pos hz]
      exact List.pairwise_cons.2 ⟨fun x hx => by rw [← hz]; exact h'.1 x hx, h'.2⟩
    · rw [if_neg hz]
      refine List.pairwise_cons.2 ⟨fun x hx => ?_, dist_mput h'.2⟩
      rcases mem_mput hx with hx | rfl
      · exact h'.1 x hx
      · exact hz
theorem all_mput {m : List AccT} {y : AccT} (h : AllA m) (hy : AccW y) : AllA (mput m y) := fun x hx => by
  rcases mem_mput hx with hx | rfl
  · exact h x hx
  · exact hy
theorem len_mput : ∀ (m : List AccT) (y : AccT), (mput m y).length ≤ m.length + 1
  | [], y => by simp [mput]
  | z :: m, y => by
    have := len_mput m y
    unfold mput
    split
    · simp
    · simp; omega
theorem lget_mput : ∀ (m : List AccT) (y : AccT) (a : Int), lget (mput m y) a = if a = y.1 then y else lget m a
  | [], y, a => by
    simp only [mput, lget]
    by_cases ha : a = y.1
    · rw [if_pos ha, if_pos ha.symm]
    · rw [if_neg ha, if_neg fun h => ha h.symm]
  | z :: m, y, a => by
    unfold mput
    by_cases hz : z.1 = y.1
    · rw [if_pos hz]
      simp only [lget]
      by_cases ha : a = y.1
      · rw [if_pos ha, if_pos ha.symm]
      · rw [if_neg ha, if_neg (fun h => ha h.symm), if_neg (by omega)]
    · rw [if_neg hz]
      simp only [lget]
      rw [lget_mput m y a]
      by_cases ha : z.1 = a
      · rw [if_pos ha, if_neg (by omega), if_pos ha]
      · rw [if_neg ha, if_neg ha]
theorem srt_fold : ∀ (m : List AccT) {o : List AccT}, Srt o → Srt (m.foldl lput o)
  | [], _, h => h
  | x :: m, _, h => srt_fold m (srt_lput h)
theorem ne_fold : ∀ (m : List AccT) {o : List AccT}, NE o → NE (m.foldl lput o)
  | [], _, h => h
  | x :: m, _, h => ne_fold m (ne_lput h)
theorem all_fold : ∀ {m o : List AccT}, AllA m → AllA o → AllA (m.foldl lput o)
  | [], _, _, h => h
  | x :: m, o, hm, h => all_fold (m := m) (o := lput o x) (fun y hy => hm y (by simp [hy])) (all_lput h (hm x (by simp)))
theorem srt_isort (m : List AccT) : Srt (isort m) := srt_fold m List.Pairwise.nil
theorem ne_isort (m : List AccT) : NE (isort m) := ne_fold m fun x h => by simp at h
theorem all_isort {m : List AccT} (h : AllA m) : AllA (isort m) := all_fold h fun x h => by simp at h
theorem mem_fold : ∀ {m o : List AccT} {x : AccT}, x ∈ m.foldl lput o → x ∈ m ∨ x ∈ o
  | [], _, _, h => .inr h
  | y :: m, o, x, h => by
    rcases mem_fold (m := m) h with h | h
    · exact .inl (by simp [h])
    · rcases mem_lput h with h | ⟨rfl, _⟩
      · exact .inr h
      · exact .inl (by simp)
theorem mem_isort {m : List AccT} {x : AccT} (h : x ∈ isort m) : x ∈ m := by
  rcases mem_fold h with h | h
  · exact h
  · simp at h
theorem lget_fold : ∀ {m o : List AccT} (a : Int), Dist m → Srt o → ((∀ x ∈ m, x.1 ≠ a) ∧ lget (m.foldl lput o) a = lget o a) ∨ ((∃ x ∈ m, x.1 = a) ∧ lget (m.foldl lput o) a = lget m a)
  | [], o, a, _, _ => .inl ⟨fun x h => by simp at h, rfl⟩
  | y :: m, o, a, hd, ho => by
    have hd' := List.pairwise_cons.1 hd
    show ((∀ x ∈ y :: m, x.1 ≠ a) ∧ lget (m.foldl lput (lput o y)) a = lget o a) ∨ ((∃ x ∈ y :: m, x.1 = a) ∧ lget (m.foldl lput (lput o y)) a = lget (y :: m) a)
    rcases lget_fold (m := m) (o := lput o y) a hd'.2 (srt_lput ho) with ⟨h1, h2⟩ | ⟨⟨z, hz, h1⟩, h2⟩
    · rw [h2, lget_lput ho]
      by_cases ha : a = y.1
      · rw [if_pos ha]
        exact .inr ⟨⟨y, by simp, ha.symm⟩, by rw [ha, lget_head]⟩
      · rw [if_neg ha]
        refine .inl ⟨fun x hx => ?_, rfl⟩
        rcases List.mem_cons.1 hx with rfl | hx
        · exact fun h => ha h.symm
        · exact h1 x hx
    · refine .inr ⟨⟨z, by simp [hz], h1⟩, ?_⟩
      rw [h2]
      simp only [lget]
      rw [if_neg]
      have := hd'.1 z hz
      rw [h1] at this
      exact this
theorem lget_isort {m : List AccT} (h : Dist m) (a : Int) : lget (isort m) a = lget m a := by
  rcases lget_fold (o := []) a h List.Pairwise.nil with ⟨h1, h2⟩ | ⟨_, h2⟩
  · exact h2.trans (by rw [lget_absent h1]; rfl)
  · exact h2
theorem isort_mput {m : List AccT} {y : AccT} (h : Dist m) : isort (mput m y) = lput (isort m) y :=
  lext (srt_isort _) (srt_lput (srt_isort m)) (ne_isort _) (ne_lput (ne_isort m)) fun a => by
    rw [lget_isort (dist_mput h), lget_mput, lget_lput (srt_isort m), lget_isort h]
theorem sum_fold : ∀ {m o : List AccT}, Dist m → Srt o → (∀ x ∈ m, ∀ y ∈ o, y.1 ≠ x.1) → sumL (m.foldl lput o) = sumL o + sumL m
  | [], o, _, _, _ => by simp [sumL_nil]
  | x :: m, o, hd, ho, h => by
    have hd' := List.pairwise_cons.1 hd
    show sumL (m.foldl lput (lput o x)) = sumL o + sumL (x :: m)
    rw [sum_fold hd'.2 (srt_lput ho) fun y hy z hz => ?_, sumL_cons]
    · have := sum_lput (y := x) ho
      rw [lget_absent (h x (by simp)), val4_z] at this
      omega
    · rcases mem_lput hz with hz | ⟨rfl, _⟩
      · exact h y (by simp [hy]) z hz
      · exact hd'.1 y hy
theorem sum_isort {m : List AccT} (h : Dist m) : sumL (isort m) = sumL m := by
  have := sum_fold (o := []) h List.Pairwise.nil (fun x _ y hy => by simp at hy)
  rw [sumL_nil, Nat.zero_add] at this
  exact this
theorem len_fold : ∀ (m o : List AccT), (m.foldl lput o).length ≤ o.length + m.length
  | [], o => by simp
  | x :: m, o => by
    have h1 := len_fold m (lput o x)
    have h2 := len_lput o x
    simp only [List.foldl_cons, List.length_cons]
    omega
theorem isort_self : ∀ {l : List AccT}, Srt l → NE l → isort l = l := fun {l} h hn =>
  have hd : Dist l := h.imp fun {x y} h => by omega
  lext (srt_isort l) h (ne_isort l) hn fun a => lget_isort hd a
end Go.Pon
set_option autoImplicit false
set_option linter.unusedVariables false
set_option linter.unusedSimpArgs false
namespace Go.Pon
open Go
def enc (n : Nat) : List Int := ((bylen n : Nat) : Int) :: beB (bylen n) n
def Bytes (b : List Int) : Prop := ∀ x ∈ b, 0 ≤ x ∧ x ≤ 255
theorem Bytes.drop {b : List Int} (h : Bytes b) (i : Nat) : Bytes (b.drop i) := fun x hx => h x (List.mem_of_mem_drop hx)
theorem Bytes.take {b : List Int} (h : Bytes b) (i : Nat) : Bytes (b.take i) := fun x hx => h x (List.mem_of_mem_take hx)
theorem Bytes.at {b : List Int} (h : Bytes b) (i : Nat) : 0 ≤ b.getD i 0 ∧ b.getD i 0 ≤ 255 := getD_all (p := fun x => 0 ≤ x ∧ x ≤ 255) h (by omega) i
theorem Bytes.append {a b : List Int} (ha : Bytes a) (hb : Bytes b) : Bytes (a ++ b) := fun x hx => by
  rcases List.mem_append.1 hx with h | h
  · exact ha x h
  · exact hb x h
theorem eqD_lim (n m : Nat) : eqD (.arr 4 (.int .u64)) (lim n) (lim m) = decide (n = m) := by
  rw [Bool.eq_iff_iff, eqD_iff]; exact lim_inj.trans (by simp)
end Go.Pon
set_option autoImplicit false
set_option linter.unusedVariables false
set_option linter.unusedSimpArgs false
namespace Go.Pon
open Go
theorem mod_eq {x n : Int} (h0 : -9223372036854775808 ≤ x) (h1 : x ≤ 9223372036854775807) (h2 : 1 ≤ n) (h3 : n ≤ 9223372036854775807) :
    sol_law0_Mod (x, (n, ())) = some ((((x % 18446744073709551616) % n, ()), ((), ((), ())))) := by
  unfold sol_law0_Mod T_law0_Mod
  simp only [letR_eq, brR_dec]
  rw [w_u64 (n := n) (by omega) (by omega), if_pos (by omega), IntKind.wrap_u64, tmod_pos (by omega), w_i64]
  · have := Int.emod_nonneg (x % 18446744073709551616) (b := n) (by omega); omega
  · have := Int.emod_lt_of_pos (x % 18446744073709551616) (b := n) (by omega); omega
theorem mod_range {x n : Int} (h : 1 ≤ n) : 0 ≤ x % 18446744073709551616 % n ∧ x % 18446744073709551616 % n < n := ⟨Int.emod_nonneg _ (by omega), Int.emod_lt_of_pos _ (by omega)⟩
end Go.Pon
set_option autoImplicit false
set_option linter.unusedVariables false
set_option linter.unusedSimpArgs false
namespace Go.Pon
open Go
theorem add64_eq {x y c : Int} (hc : c ≤ 1) : sol_math_bits_Add64 (x, (y, (c, ()))) = some (((x + y + c) % 18446744073709551616, ((x + y + c) / 18446744073709551616, ())), ((), ((), ((), ())))) := by
  unfold sol_math_bits_Add64 T_math_bits_Add64 addC
  simp only
  rw [if_pos hc]
  rfl
theorem sub64_eq {x y c : Int} (hc : c ≤ 1) : sol_math_bits_Sub64 (x, (y, (c, ()))) = some (((x - y - c) % 18446744073709551616, ((if x < y + c then 1 else 0), ())), ((), ((), ((), ())))) := by
  unfold sol_math_bits_Sub64 T_math_bits_Sub64 subC
  simp only
  rw [if_pos hc]
  rfl
def lb (n i : Nat) : Nat := n / 18446744073709551616 ^ i % 18446744073709551616
theorem lb_get {n q : Nat} (hn : n < 115792089237316195423570985008687907853269984665640564039457584007913129639936) (hq : q < 4) : List.getD (lim n) q 0 = ((lb n q : Nat) : Int) := by
  unfold lim lb
  match q, hq with
  | 0, _ => simp
  | 1, _ => simp
  | 2, _ => simp only [List.getD_cons_succ, List.getD_cons_zero, Nat.reducePow]
  | 3, _ =>
    simp only [List.getD_cons_succ, List.getD_cons_zero, Nat.reducePow]
    omega
def limbs (k i n : Nat) : List Int := ((List.range i).map fun j => ((lb n j : Nat) : Int)) ++ List.replicate (k - i) 0
theorem limbs_zero (k n : Nat) : limbs k 0 n = List.replicate k 0 := by simp [limbs]
theorem limbs_set {k i n : Nat} (h : i < k) : List.set (limbs k i n) i ((lb n i : Nat) : Int) = limbs k (i + 1) n := by
  unfold limbs
  rw [List.set_append, if_neg (by simp), List.length_map, List.length_range, Nat.sub_self, show k - i = (k - (i + 1)) + 1 by omega, List.replicate_succ, List.set_cons_zero, List.range_succ]
  simp
theorem limbs_lim {n : Nat} (hn : n < 115792089237316195423570985008687907853269984665640564039457584007913129639936) : limbs 4 4 n = lim n := by
  refine ext_getD (d := 0) (by simp [limbs, lim]) fun j hj => ?_
  have hj4 : j < 4 := by simpa [limbs] using hj
  rw [lb_get hn hj4]
  simp [limbs, List.getD_eq_getElem?_getD, hj4]
theorem pow_step (n i : Nat) : n / 18446744073709551616 ^ (i + 1) = n / 18446744073709551616 ^ i / 18446744073709551616 := by rw [Nat.pow_succ, Nat.div_div_eq_div_mul]
theorem pow4 : (18446744073709551616 : Nat) ^ 4 = 115792089237316195423570985008687907853269984665640564039457584007913129639936 := by decide
theorem add_step {a b c i : Nat} (hc : c ≤ 1) (h : (a + b) / 18446744073709551616 ^ i = a / 18446744073709551616 ^ i + b / 18446744073709551616 ^ i + c) :
    (lb a i + lb b i + c) % 18446744073709551616 = lb (a + b) i ∧ (lb a i + lb b i + c) / 18446744073709551616 ≤ 1 ∧
      (a + b) / 18446744073709551616 ^ (i + 1) = a / 18446744073709551616 ^ (i + 1) + b / 18446744073709551616 ^ (i + 1) + (lb a i + lb b i + c) / 18446744073709551616 := by
  unfold lb
  rw [pow_step, pow_step, pow_step, h]
  generalize a / 18446744073709551616 ^ i = x
  generalize b / 18446744073709551616 ^ i = y
  refine ⟨by omega, by omega, by omega⟩
theorem add_cast {x y c : Nat} : ((((x : Nat) : Int) + ((y : Nat) : Int) + ((c : Nat) : Int)) % 18446744073709551616 = (((x + y + c) % 18446744073709551616 : Nat) : Int)) ∧ ((((x : Nat) : Int) + ((y : Nat) : Int) + ((c : Nat) : Int)) / 18446744073709551616 = (((x + y + c) / 18446744073709551616 : Nat) : Int)) := by omega
theorem uAdd_eq {a b : Nat} (ha : a < 115792089237316195423570985008687907853269984665640564039457584007913129639936) (hb : b < 115792089237316195423570985008687907853269984665640564039457584007913129639936) :
    sol_uint256_Add (lim a, (lim b, ())) = some ((if a + b < 115792089237316195423570985008687907853269984665640564039457584007913129639936 then (lim (a + b), ((0 : Int), ())) else ([(0 : Int), (0 : Int), (0 : Int), (0 : Int)], ((4 : Int), ()))), ((), ((), ()))) := by
  unfold sol_uint256_Add T_uint256_Add
  refine bigLoop_rule (I := fun x => ∃ i c : Nat, i ≤ 4 ∧ c ≤ 1 ∧ (a + b) / 18446744073709551616 ^ i = a / 18446744073709551616 ^ i + b / 18446744073709551616 ^ i + c ∧
      x = (lim a, (lim b, ([(0 : Int), (0 : Int), (0 : Int), (0 : Int)], (limbs 4 i (a + b), (((c : Nat) : Int), (((i : Nat) : Int), ())))))))
    (m := fun x => ((4 : Int) - x.2.2.2.2.2.1).toNat) (g := fun _ => some ((if a + b < 115792089237316195423570985008687907853269984665640564039457584007913129639936 then (lim (a + b), ((0 : Int), ())) else ([(0 : Int), (0 : Int), (0 : Int), (0 : Int)], ((4 : Int), ()))), ((), ((), ())))) ?_
    ⟨0, 0, by omega, by omega, by simp, by rw [limbs_zero]; rfl⟩ (by rw [bigN_eq]; simp only; omega)
  rintro x again ⟨i, c, hi, hc, hd, rfl⟩ hag
  simp only at hag ⊢
  unfold T_uint256_Add_loop0
  simp only [brR_dec, brR_inR, brR_not]
  by_cases h1 : ((i : Nat) : Int) < 4
  · obtain ⟨s1, s2, s3⟩ := add_step hc hd
    rw [if_pos h1, if_pos (by omega), if_pos (by omega), Int.toNat_natCast, lb_get ha (by omega), lb_get hb (by omega), add64_eq (by omega)]
    simp only [bind_some']
    rw [if_pos (by omega), add_cast.1, add_cast.2, s1, limbs_set (by omega), w_i64 (by omega) (by omega)]
    exact hag _ ⟨i + 1, _, by omega, s2, s3, by rw [Int.natCast_add]; rfl⟩ (by simp only; omega)
  · have hi4 : i = 4 := by omega
    subst hi4
    rw [pow4] at hd
    rw [if_neg h1]
    by_cases hs : a + b < 115792089237316195423570985008687907853269984665640564039457584007913129639936
    · rw [if_pos hs, if_pos (by omega), limbs_lim hs]
    · rw [if_neg hs, if_neg (by omega)]
theorem uSub_ok {a b : Nat} (ha : a < 115792089237316195423570985008687907853269984665640564039457584007913129639936) (hb : b ≤ a) :
    sol_uint256_Sub (lim a, (lim b, ())) = some ((lim (a - b), ((0 : Int), ())), ((), ((), ()))) := by
  obtain ⟨d, rfl⟩ := Nat.exists_eq_add_of_le hb
  rw [Nat.add_sub_cancel_left]
  unfold sol_uint256_Sub T_uint256_Sub
  refine bigLoop_rule (I := fun x => ∃ i c : Nat, i ≤ 4 ∧ c ≤ 1 ∧ (b + d) / 18446744073709551616 ^ i = b / 18446744073709551616 ^ i + d / 18446744073709551616 ^ i + c ∧
      x = (lim (b + d), (lim b, ([(0 : Int), (0 : Int), (0 : Int), (0 : Int)], (limbs 4 i d, (((c : Nat) : Int), (((i : Nat) : Int), ())))))))
    (m := fun x => ((4 : Int) - x.2.2.2.2.2.1).toNat) (g := fun _ => some ((lim d, ((0 : Int), ())), ((), ((), ())))) ?_
    ⟨0, 0, by omega, by omega, by simp, by rw [limbs_zero]; rfl⟩ (by rw [bigN_eq]; simp only; omega)
  rintro x again ⟨i, c, hi, hc, hd, rfl⟩ hag
  simp only at hag ⊢
  unfold T_uint256_Sub_loop0
  simp only [brR_dec, brR_inR, brR_not]
  by_cases h1 : ((i : Nat) : Int) < 4
  · have key : (((lb (b + d) i : Nat) : Int) - ((lb b i : Nat) : Int) - ((c : Nat) : Int)) % 18446744073709551616 = ((lb d i : Nat) : Int) ∧
        ∃ c' : Nat, c' ≤ 1 ∧ (if ((lb (b + d) i : Nat) : Int) < ((lb b i : Nat) : Int) + ((c : Nat) : Int) then (1 : Int) else 0) = ((c' : Nat) : Int) ∧ (b + d) / 18446744073709551616 ^ (i + 1) = b / 18446744073709551616 ^ (i + 1) + d / 18446744073709551616 ^ (i + 1) + c' := by
      unfold lb
      rw [pow_step, pow_step, pow_step, hd]
      generalize b / 18446744073709551616 ^ i = x
      generalize d / 18446744073709551616 ^ i = y
      refine ⟨by omega, ?_⟩
      by_cases hlt : (((x + y + c) % 18446744073709551616 : Nat) : Int) < ((x % 18446744073709551616 : Nat) : Int) + ((c : Nat) : Int)
      · exact ⟨1, by omega, by rw [if_pos hlt]; rfl, by omega⟩
      · exact ⟨0, by omega, by rw [if_neg hlt]; rfl, by omega⟩
    obtain ⟨s1, c', s2, s4, s3⟩ := key
    rw [if_pos h1, if_pos (by omega), if_pos (by omega), Int.toNat_natCast, lb_get ha (by omega), lb_get (by omega) (by omega), sub64_eq (by omega)]
    simp only [bind_some']
    rw [if_pos (by omega), s1, s4, limbs_set (by omega), w_i64 (by omega) (by omega)]
    exact hag _ ⟨i + 1, c', by omega, s2, s3, by rw [Int.natCast_add]; rfl⟩ (by simp only; omega)
  · have hi4 : i = 4 := by omega
    subst hi4
    rw [pow4] at hd
    rw [if_neg h1, if_pos (by omega), limbs_lim (by omega)]
theorem uSub_bad {a b : Nat} (ha : a < b) (hb : b < 115792089237316195423570985008687907853269984665640564039457584007913129639936) :
    sol_uint256_Sub (lim a, (lim b, ())) = some (([(0 : Int), (0 : Int), (0 : Int), (0 : Int)], ((4 : Int), ())), ((), ((), ()))) := by
  have ha2 : a < 115792089237316195423570985008687907853269984665640564039457584007913129639936 := by omega
  unfold sol_uint256_Sub T_uint256_Sub
  -- the borrow: what the low limbs lack
  refine bigLoop_rule (I := fun x => ∃ (i c : Nat) (s : List Int), i ≤ 4 ∧ s.length = 4 ∧ c ≤ 1 ∧ (c = 1 ↔ a % 18446744073709551616 ^ i < b % 18446744073709551616 ^ i) ∧
      x = (lim a, (lim b, ([(0 : Int), (0 : Int), (0 : Int), (0 : Int)], (s, (((c : Nat) : Int), (((i : Nat) : Int), ())))))))
    (m := fun x => ((4 : Int) - x.2.2.2.2.2.1).toNat) (g := fun _ => some (([(0 : Int), (0 : Int), (0 : Int), (0 : Int)], ((4 : Int), ())), ((), ((), ())))) ?_
    ⟨0, 0, [0, 0, 0, 0], by omega, rfl, by omega, by simp [Nat.mod_one], rfl⟩ (by rw [bigN_eq]; simp only; omega)
  rintro x again ⟨i, c, s, hi, hs, hc, hd, rfl⟩ hag
  simp only at hag ⊢
  unfold T_uint256_Sub_loop0
  simp only [brR_dec, brR_inR, brR_not]
  by_cases h1 : ((i : Nat) : Int) < 4
  · have ma : a % 18446744073709551616 ^ (i + 1) = a % 18446744073709551616 ^ i + 18446744073709551616 ^ i * lb a i := by rw [Nat.pow_succ, Nat.mod_mul]; rfl
    have mb : b % 18446744073709551616 ^ (i + 1) = b % 18446744073709551616 ^ i + 18446744073709551616 ^ i * lb b i := by rw [Nat.pow_succ, Nat.mod_mul]; rfl
    have p0 : 0 < 18446744073709551616 ^ i := Nat.pow_pos (by omega)
    have ra := Nat.mod_lt a p0; have rb := Nat.mod_lt b p0
    have hcmp : (((lb a i : Nat) : Int) < ((lb b i : Nat) : Int) + ((c : Nat) : Int)) ↔ a % 18446744073709551616 ^ (i + 1) < b % 18446744073709551616 ^ (i + 1) := by
      rw [ma, mb]
      generalize a % 18446744073709551616 ^ i = x at *
      generalize b % 18446744073709551616 ^ i = y at *
      generalize 18446744073709551616 ^ i = p at *
      generalize lb a i = u at *
      generalize lb b i = v at *
      rcases Nat.lt_trichotomy u v with h | h | h
      · have : p * (u + 1) ≤ p * v := Nat.mul_le_mul_left p h
        rw [Nat.mul_add, Nat.mul_one] at this
        constructor
        · intro _; omega
        · intro _; omega
      · subst h
        constructor
        · intro h; have : c = 1 := by omega
          have := hd.1 this; omega
        · intro h; have := hd.2 (by omega); omega
      · have : p * (v + 1) ≤ p * u := Nat.mul_le_mul_left p h
        rw [Nat.mul_add, Nat.mul_one] at this
        constructor
        · intro h'; omega
        · intro h'; omega
    rw [if_pos h1, if_pos (by omega), if_pos (by omega), Int.toNat_natCast, lb_get ha2 (by omega), lb_get hb (by omega), sub64_eq (by omega)]
    simp only [bind_some']
    rw [if_pos (by omega), w_i64 (by omega) (by omega)]
    by_cases hlt : ((lb a i : Nat) : Int) < ((lb b i : Nat) : Int) + ((c : Nat) : Int)
    · rw [if_pos hlt]
      exact hag _ ⟨i + 1, 1, (List.set s i ((((lb a i : Nat) : Int) - ((lb b i : Nat) : Int) - ((c : Nat) : Int)) % 18446744073709551616)), by omega, by rw [List.length_set]; exact hs, by omega, ⟨fun _ => hcmp.1 hlt, fun _ => rfl⟩, by rw [Int.natCast_add]; rfl⟩ (by simp only; omega)
    · rw [if_neg hlt]
      exact hag _ ⟨i + 1, 0, (List.set s i ((((lb a i : Nat) : Int) - ((lb b i : Nat) : Int) - ((c : Nat) : Int)) % 18446744073709551616)), by omega, by rw [List.length_set]; exact hs, by omega, ⟨fun h => by omega, fun h => absurd (hcmp.2 h) hlt⟩, by rw [Int.natCast_add]; rfl⟩ (by simp only; omega)
  · have hi4 : i = 4 := by omega
    subst hi4
    rw [pow4, Nat.mod_eq_of_lt ha2, Nat.mod_eq_of_lt hb] at hd
    have := hd.2 ha
    rw [if_neg h1, if_neg (by omega)]
end Go.Pon
set_option autoImplicit false
set_option linter.unusedVariables false
set_option linter.unusedSimpArgs false
namespace Go.Pon
open Go
def dg (n : Nat) : List Int := if h : n = 0 then [] else ((n % 65536 : Nat) : Int) :: dg (n / 65536)
termination_by n
decreasing_by omega
theorem dg_zero : dg 0 = [] := by rw [dg]; rfl
theorem dg_pos {n : Nat} (h : n ≠ 0) : dg n = ((n % 65536 : Nat) : Int) :: dg (n / 65536) := by rw [dg, dif_neg h]
theorem div_pow_succ (n i : Nat) : n / 65536 ^ (i + 1) = n / 65536 / 65536 ^ i := by rw [Nat.pow_succ, Nat.mul_comm, Nat.div_div_eq_div_mul]
theorem div_pow_succ' (n i : Nat) : n / 65536 ^ (i + 1) = n / 65536 ^ i / 65536 := by rw [Nat.pow_succ, Nat.div_div_eq_div_mul]
theorem dg_get : ∀ (i n : Nat), List.getD (dg n) i 0 = ((n / 65536 ^ i % 65536 : Nat) : Int)
  | i, n => by
    by_cases h : n = 0
    · subst h; rw [dg_zero]; simp
    · rw [dg_pos h]
      cases i with
      | zero => simp
      | succ i => rw [List.getD_cons_succ, dg_get i, div_pow_succ]
theorem dg_len : ∀ (i n : Nat), i < (dg n).length ↔ 0 < n / 65536 ^ i
  | i, n => by
    by_cases h : n = 0
    · subst h; rw [dg_zero]; simp
    · rw [dg_pos h]
      cases i with
      | zero => simp; omega
      | succ i => rw [List.length_cons, Nat.add_lt_add_iff_right, dg_len i, div_pow_succ]
def lo (i n : Nat) : List Int := (List.range i).map fun k => ((n / 65536 ^ k % 65536 : Nat) : Int)
theorem lo_len (i n : Nat) : (lo i n).length = i := by simp [lo]
theorem lo_succ (i n : Nat) : lo (i + 1) n = lo i n ++ [((n / 65536 ^ i % 65536 : Nat) : Int)] := by simp [lo, List.range_succ]
theorem lo_get {i n k : Nat} (h : k < i) : List.getD (lo i n) k 0 = ((n / 65536 ^ k % 65536 : Nat) : Int) := by simp [lo, List.getD_eq_getElem?_getD, h]
theorem lo_dg {i n : Nat} (h1 : n / 65536 ^ i = 0) (h2 : i = 0 ∨ 0 < n / 65536 ^ (i - 1)) : lo i n = dg n := by
  have hl : (dg n).length = i := by
    have a := dg_len i n
    rw [h1] at a
    rcases h2 with rfl | h2
    · omega
    · have b := (dg_len (i - 1) n).2 h2
      omega
  refine ext_getD (d := 0) (by rw [lo_len, hl]) fun k hk => ?_
  rw [lo_len] at hk
  rw [lo_get hk, dg_get]
theorem div_mono0 {n i j : Nat} (h : n / 65536 ^ i = 0) (hij : i ≤ j) : n / 65536 ^ j = 0 := by
  obtain ⟨d, rfl⟩ := Nat.exists_eq_add_of_le hij
  rw [Nat.pow_add, ← Nat.div_div_eq_div_mul, h, Nat.zero_div]
theorem dg_len_le {n k : Nat} : (dg n).length ≤ k ↔ n / 65536 ^ k = 0 := by
  have := dg_len k n
  generalize n / 65536 ^ k = q at *
  constructor
  · intro h; omega
  · intro h; omega
theorem norm_lo {k n : Nat} (hk : k ≤ 1000000) (h : n / 65536 ^ k = 0) : sol_ref1_norm (lo k n, ()) = some ((dg n, ()), ((), ())) := by
  unfold sol_ref1_norm T_ref1_norm
  rw [lo_len]
  refine bigLoop_rule (I := fun x => ∃ j : Nat, j ≤ k ∧ n / 65536 ^ j = 0 ∧ x = (lo k n, (((j : Nat) : Int), ()))) (m := fun x => x.2.1.toNat) (g := fun _ => some ((dg n, ()), ((), ()))) ?_ ⟨k, Nat.le_refl _, h, rfl⟩ (by rw [bigN_eq]; simp only; omega)
  rintro x again ⟨j, hj, h0, rfl⟩ hag
  simp only at hag ⊢
  unfold T_ref1_norm_loop0
  have htake : List.take (Int.toNat ((j : Nat) : Int) - 0) (List.drop 0 (lo k n)) = lo j n := by
    rw [Int.toNat_natCast, Nat.sub_zero, List.drop_zero]
    refine ext_getD (d := 0) (by rw [List.length_take, lo_len, lo_len]; omega) fun i hi => ?_
    rw [List.length_take, lo_len] at hi
    rw [lo_get (by omega), List.getD_eq_getElem?_getD, List.getElem?_take, if_pos (by omega), ← List.getD_eq_getElem?_getD, lo_get (by omega)]
  simp only [letR_eq, brR_and, brR_dec, brR_inR, lo_len]
  by_cases h1 : ((j : Nat) : Int) > 0
  · rw [if_pos h1, w_i64 (by omega) (by omega), if_pos (by omega), show (((j : Nat) : Int) - 1).toNat = j - 1 by omega, lo_get (by omega)]
    by_cases h2 : ((n / 65536 ^ (j - 1) % 65536 : Nat) : Int) = 0
    · rw [if_pos h2]
      have h3 : n / 65536 ^ (j - 1) = 0 := by
        have e := div_pow_succ' n (j - 1)
        rw [show j - 1 + 1 = j by omega, h0] at e
        omega
      exact hag _ ⟨j - 1, by omega, h3, by rw [show ((j - 1 : Nat) : Int) = (j : Int) - 1 by omega]⟩ (by simp only; omega)
    · rw [if_neg h2, if_pos (by omega), if_pos (by omega), htake, lo_dg h0 (.inr (Nat.pos_of_ne_zero fun h => h2 (by rw [h]; rfl)))]
  · have : j = 0 := by omega
    subst this
    rw [if_neg h1, if_pos (by omega), if_pos (by omega), htake, lo_dg h0 (.inl rfl)]
theorem and65535 {n : Nat} (h : n < 18446744073709551616) : (((BitVec.toNat ((BitVec.ofInt 64 ((n : Nat) : Int)) &&& (BitVec.ofInt 64 65535)) : Nat) : Int)) = ((n % 65536 : Nat) : Int) := by
  rw [BitVec.toNat_and, show BitVec.toNat (BitVec.ofInt 64 65535) = 2 ^ 16 - 1 from rfl, Nat.and_two_pow_sub_one_eq_mod, BitVec.ofInt_natCast, BitVec.toNat_ofNat, show n % 2 ^ 64 = n from Nat.mod_eq_of_lt (by omega)]
theorem i64_size : (Ty.int IntKind.i64).size = 1 := rfl
theorem brR_roomI {α : Type} {n : Nat} (h : n ≤ 1000000000) (a b : Option α) : brR (roomy n (.int .i64)) a b = a := by
  rw [brR_roomy, i64_size, if_pos ⟨by omega, by omega⟩]
theorem add_loop_eq {A B : Nat} (hA : (dg A).length ≤ 1000) (hB : (dg B).length ≤ 1000) : sol_ref1_Add (dg A, (dg B, ())) = some ((dg (A + B), ()), ((), ((), ()))) := by
  unfold sol_ref1_Add T_ref1_Add
  have hm : (dg (A + B)).length ≤ 1002 := by
    refine dg_len_le.2 ?_
    have h1 := div_mono0 (dg_len_le.1 hA) (show 1000 ≤ 1001 by omega)
    have h2 := div_mono0 (dg_len_le.1 hB) (show 1000 ≤ 1001 by omega)
    generalize hK : (1001 : Nat) = K at h1 h2
    rw [show (1002 : Nat) = K + 1 by omega, Nat.pow_succ]
    have p0 : 0 < 65536 ^ K := Nat.pow_pos (by omega)
    have a1 := (Nat.div_eq_zero_iff_lt p0).1 h1
    have a2 := (Nat.div_eq_zero_iff_lt p0).1 h2
    exact Nat.div_eq_of_lt (by omega)
  refine bigLoop_rule (I := fun x => ∃ (i c : Nat), c ≤ 1 ∧ (A + B) / 65536 ^ i = A / 65536 ^ i + B / 65536 ^ i + c ∧ (i = 0 ∨ 0 < (A + B) / 65536 ^ (i - 1)) ∧ x = (dg A, (dg B, (lo i (A + B), (((c : Nat) : Int), (((i : Nat) : Int), ()))))))
    (m := fun x => ((1003 : Int) - x.2.2.2.2.1).toNat) (g := fun _ => some ((dg (A + B), ()), ((), ((), ())))) ?_ ⟨0, 0, by omega, by simp, .inl rfl, rfl⟩ (by rw [bigN_eq]; simp only; omega)
  rintro x again ⟨i, c, hc, hd, hz, rfl⟩ hag
  have hi : i ≤ 1002 := by
    rcases hz with rfl | hz
    · omega
    · have := (dg_len _ _).2 hz; omega
  simp only at hag ⊢
  have la := dg_len i A; have lb := dg_len i B
  have ga := dg_get i A; have gb := dg_get i B
  have sa := div_pow_succ' A i; have sb := div_pow_succ' B i; have ss := div_pow_succ' (A + B) i
  have hls := lo_succ i (A + B)
  have hpos : (0 < A / 65536 ^ i ∨ 0 < B / 65536 ^ i ∨ 0 < c) → 0 < (A + B) / 65536 ^ i := fun h => by
    rw [hd]
    generalize A / 65536 ^ i = q1 at *
    generalize B / 65536 ^ i = q2 at *
    omega
  have hnx : (A + B) / 65536 ^ (i + 1) = A / 65536 ^ (i + 1) + B / 65536 ^ (i + 1) + (c + A / 65536 ^ i % 65536 + B / 65536 ^ i % 65536) / 65536 := by
    rw [sa, sb, ss, hd]
    generalize A / 65536 ^ i = q1 at *
    generalize B / 65536 ^ i = q2 at *
    omega
  have step : (0 < A / 65536 ^ i ∨ 0 < B / 65536 ^ i ∨ 0 < c) → again (dg A, (dg B, (lo (i + 1) (A + B), ((((c + A / 65536 ^ i % 65536 + B / 65536 ^ i % 65536) / 65536 : Nat) : Int), (((i : Nat) : Int) + 1, ()))))) = some ((dg (A + B), ()), ((), ((), ()))) := fun h =>
    hag _ ⟨i + 1, (c + A / 65536 ^ i % 65536 + B / 65536 ^ i % 65536) / 65536, by omega, hnx, .inr (by rw [Nat.add_sub_cancel]; exact hpos h), by rw [Int.natCast_add]; rfl⟩ (by simp only; omega)
  have fin : A / 65536 ^ i = 0 → B / 65536 ^ i = 0 → c = 0 → lo i (A + B) = dg (A + B) := fun h1 h2 h3 => lo_dg (by omega) hz
  clear hag hm hA hB
  unfold T_ref1_Add_loop0
  simp only [letR_eq, brR_dec, brR_inR, append_def, Int.toNat_natCast, lo_len, ga, gb]
  generalize A / 65536 ^ i = a1 at *
  generalize B / 65536 ^ i = b1 at *
  generalize (A + B) / 65536 ^ i = s1 at *
  generalize hla : (dg A).length = nla at *
  generalize hlb : (dg B).length = nlb at *
  have hroom : ∀ {α : Type} (a b : Option α), brR (roomy (i + 1) (.int .i64)) a b = a := fun a b => brR_roomI (by omega) a b
  simp only [hroom]
  have hv6 : IntKind.wrap .i64 (((c : Nat) : Int) + ((a1 % 65536 : Nat) : Int)) = ((c + a1 % 65536 : Nat) : Int) := by rw [w_i64 (by omega) (by omega)]; omega
  have hv7 : IntKind.wrap .i64 (((c : Nat) : Int) + ((b1 % 65536 : Nat) : Int)) = ((c + b1 % 65536 : Nat) : Int) := by rw [w_i64 (by omega) (by omega)]; omega
  have hv8 : IntKind.wrap .i64 (((c + a1 % 65536 : Nat) : Int) + ((b1 % 65536 : Nat) : Int)) = ((c + a1 % 65536 + b1 % 65536 : Nat) : Int) := by rw [w_i64 (by omega) (by omega)]; omega
  have hwi : IntKind.wrap .i64 (((i : Nat) : Int) + 1) = ((i : Nat) : Int) + 1 := w_i64 (by omega) (by omega)
  have hfd : ∀ k : Nat, Int.fdiv ((k : Nat) : Int) 65536 = ((k / 65536 : Nat) : Int) := fun k => by rw [Int.fdiv_eq_ediv_of_nonneg _ (by omega)]; omega
  have hwm : ∀ k : Nat, IntKind.wrap .i64 (((k % 65536 : Nat) : Int)) = ((k % 65536 : Nat) : Int) := fun k => w_i64 (by omega) (by omega)
  simp only [hv6, hv7, hv8, hwi]
  rw [and65535 (n := c + a1 % 65536 + b1 % 65536) (by omega), and65535 (n := c + a1 % 65536) (by omega), and65535 (n := c + b1 % 65536) (by omega), and65535 (n := c) (by omega)]
  simp only [hfd, hwm]
  rw [hls] at step
  have ed : s1 % 65536 = (c + a1 % 65536 + b1 % 65536) % 65536 := by omega
  rw [ed] at step
  by_cases ca : ((i : Nat) : Int) < ((nla : Nat) : Int)
  · have ia : (0 : Int) ≤ ((i : Nat) : Int) ∧ ((i : Nat) : Int) < ((nla : Nat) : Int) := by omega
    simp only [if_pos ca, if_pos ia]
    by_cases cb : ((i : Nat) : Int) < ((nlb : Nat) : Int)
    · have ib : (0 : Int) ≤ ((i : Nat) : Int) ∧ ((i : Nat) : Int) < ((nlb : Nat) : Int) := by omega
      simp only [if_pos cb, if_pos ib]
      exact step (by omega)
    · simp only [if_neg cb]
      have : b1 = 0 := by omega
      subst this
      have := step (by omega)
      simp only [Nat.zero_mod, Nat.add_zero] at this
      exact this
  · have ha0 : a1 = 0 := by omega
    subst ha0
    simp only [if_neg ca]
    by_cases cb : ((i : Nat) : Int) < ((nlb : Nat) : Int)
    · have ib : (0 : Int) ≤ ((i : Nat) : Int) ∧ ((i : Nat) : Int) < ((nlb : Nat) : Int) := by omega
      simp only [if_pos cb, if_pos ib]
      have := step (by omega)
      simp only [Nat.zero_mod, Nat.add_zero] at this
      exact this
    · have hb0 : b1 = 0 := by omega
      subst hb0
      simp only [if_neg cb]
      by_cases cc : ((c : Nat) : Int) > 0
      · simp only [if_pos cc]
        have := step (by omega)
        simp only [Nat.zero_mod, Nat.add_zero] at this
        exact this
      · rw [if_neg cc, fin rfl rfl (by omega)]
theorem limb_get {n q : Nat} (hn : n < 115792089237316195423570985008687907853269984665640564039457584007913129639936) (hq : q < 4) : List.getD (lim n) q 0 = ((n / 18446744073709551616 ^ q % 18446744073709551616 : Nat) : Int) := by
  unfold lim
  match q, hq with
  | 0, _ => simp
  | 1, _ => simp
  | 2, _ => simp only [List.getD_cons_succ, List.getD_cons_zero, Nat.reducePow]
  | 3, _ =>
    simp only [List.getD_cons_succ, List.getD_cons_zero, Nat.reducePow]
    omega
theorem pow16 (r : Nat) : (65536 : Nat) ^ r = 2 ^ (16 * r) := by rw [Nat.pow_mul]
theorem digit_of {n i : Nat} (hi : i < 16) : n / 18446744073709551616 ^ (i / 4) % 18446744073709551616 / 2 ^ (16 * (i % 4)) % 65536 = n / 65536 ^ i % 65536 := by
  have e : (65536 : Nat) ^ i = 18446744073709551616 ^ (i / 4) * 2 ^ (16 * (i % 4)) := by
    rw [show (18446744073709551616 : Nat) = 65536 ^ 4 from by decide, ← Nat.pow_mul, ← pow16, ← Nat.pow_add]
    congr 1
    omega
  rw [e, ← Nat.div_div_eq_div_mul]
  generalize n / 18446744073709551616 ^ (i / 4) = Y
  have : i % 4 = 0 ∨ i % 4 = 1 ∨ i % 4 = 2 ∨ i % 4 = 3 := by omega
  rcases this with h | h | h | h
  all_goals
    rw [h]
    simp only [Nat.reduceMul, Nat.reducePow]
    omega
theorem from_eq {n : Nat} (hn : n < 115792089237316195423570985008687907853269984665640564039457584007913129639936) : sol_ref1_FromUint256 (lim n, ()) = some ((dg n, ()), ((), ())) := by
  unfold sol_ref1_FromUint256 T_ref1_FromUint256
  have h16 : n / 65536 ^ 16 = 0 := Nat.div_eq_of_lt (by rw [show (65536 : Nat) ^ 16 = 115792089237316195423570985008687907853269984665640564039457584007913129639936 from by decide]; exact hn)
  refine bigLoop_rule (I := fun x => ∃ i : Nat, i ≤ 16 ∧ x = (lim n, (lo i n ++ List.replicate (16 - i) 0, (((i : Nat) : Int), ())))) (m := fun x => ((16 : Int) - x.2.2.1).toNat) (g := fun _ => some ((dg n, ()), ((), ()))) ?_ ⟨0, by omega, rfl⟩ (by rw [bigN_eq]; simp only; omega)
  rintro x again ⟨i, hi, rfl⟩ hag
  simp only at hag ⊢
  unfold T_ref1_FromUint256_loop0
  simp only [letR_eq, brR_dec, brR_inR]
  by_cases h1 : ((i : Nat) : Int) < 16
  · have hi16 : i < 16 := by omega
    have t1 : Int.tmod ((i : Nat) : Int) 4 = ((i % 4 : Nat) : Int) := by rw [tmod_pos (by omega)]; omega
    have t2 : Int.tdiv ((i : Nat) : Int) 4 = ((i / 4 : Nat) : Int) := by rw [tdiv_pos (by omega)]; omega
    have t3 : IntKind.wrap .i64 ((16 : Int) * ((i % 4 : Nat) : Int)) = ((16 * (i % 4) : Nat) : Int) := by rw [w_i64 (by omega) (by omega)]; omega
    have t4 : IntKind.wrap .u64 (((16 * (i % 4) : Nat) : Int)) = ((16 * (i % 4) : Nat) : Int) := w_u64 (by omega) (by omega)
    have t5 : IntKind.wrap .i64 (((i / 4 : Nat) : Int)) = ((i / 4 : Nat) : Int) := w_i64 (by omega) (by omega)
    have t6 : IntKind.wrap .i64 (((i : Nat) : Int) + 1) = ((i : Nat) : Int) + 1 := w_i64 (by omega) (by omega)
    simp only [t1, t2, t3, t4, t5, t6]
    rw [if_pos h1, if_pos (by omega), if_pos (by omega), if_pos (by rw [List.length_append, lo_len, List.length_replicate]; omega), Int.toNat_natCast, Int.toNat_natCast, Int.toNat_natCast, limb_get hn (by omega), Nat.min_eq_left (by omega)]
    have hq : Int.fdiv ((n / 18446744073709551616 ^ (i / 4) % 18446744073709551616 : Nat) : Int) ((2 : Int) ^ (16 * (i % 4))) = ((n / 18446744073709551616 ^ (i / 4) % 18446744073709551616 / 2 ^ (16 * (i % 4)) : Nat) : Int) := by
      rw [Int.fdiv_eq_ediv_of_nonneg _ (Int.le_of_lt (Int.pow_pos (by omega)))]
      rw [Int.natCast_ediv, Int.natCast_pow]
      rfl
    rw [hq, and65535 (by
      refine Nat.lt_of_le_of_lt (Nat.div_le_self _ _) ?_
      exact Nat.mod_lt _ (by omega)), digit_of hi16]
    have hset : List.set (lo i n ++ List.replicate (16 - i) 0) i ((n / 65536 ^ i % 65536 : Nat) : Int) = lo (i + 1) n ++ List.replicate (16 - (i + 1)) 0 := by
      rw [List.set_append, if_neg (by rw [lo_len]; omega), lo_len, Nat.sub_self, show 16 - i = (16 - (i + 1)) + 1 by omega, List.replicate_succ, List.set_cons_zero, lo_succ]
      simp
    have hw : IntKind.wrap .i64 (IntKind.wrap .u64 (((n / 65536 ^ i % 65536 : Nat) : Int))) = ((n / 65536 ^ i % 65536 : Nat) : Int) := by
      have := Nat.mod_lt (n / 65536 ^ i) (show 0 < 65536 by omega)
      rw [w_u64 (by omega) (by omega), w_i64 (by omega) (by omega)]
    rw [hw, hset]
    exact hag _ ⟨i + 1, by omega, by rw [Int.natCast_add]; rfl⟩ (by simp only; omega)
  · have hi16 : i = 16 := by omega
    subst hi16
    rw [if_neg h1, Nat.sub_self, List.replicate_zero, List.append_nil, norm_lo (by omega) h16]
    rfl
theorem fits_iff {n : Nat} : (dg n).length ≤ 16 ↔ n < 115792089237316195423570985008687907853269984665640564039457584007913129639936 := by
  rw [dg_len_le, show (65536 : Nat) ^ 16 = 115792089237316195423570985008687907853269984665640564039457584007913129639936 from by decide]
  omega
theorem fits_eq (n : Nat) : sol_ref1_Fits (dg n, ()) = some ((decide (n < 115792089237316195423570985008687907853269984665640564039457584007913129639936), ()), ((), ())) := by
  unfold sol_ref1_Fits T_ref1_Fits
  simp only
  by_cases h : n < 115792089237316195423570985008687907853269984665640564039457584007913129639936
  · rw [decide_eq_true h, decide_eq_true (by have := fits_iff.2 h; omega)]
  · rw [decide_eq_false h, decide_eq_false (by
      intro h2
      exact h (fits_iff.1 (by omega)))]
theorem lim_step {n i : Nat} (hi : i < 16) : List.set (lim (n % 65536 ^ i)) (i / 4) ((((n % 65536 ^ i) / 18446744073709551616 ^ (i / 4) % 18446744073709551616 + (n / 65536 ^ i % 65536) * 2 ^ (16 * (i % 4))) % 18446744073709551616 : Nat) : Int) = lim (n % 65536 ^ (i + 1)) := by
  have key : n % 65536 ^ (i + 1) = n % 65536 ^ i + 65536 ^ i * (n / 65536 ^ i % 65536) := by rw [Nat.pow_succ, Nat.mod_mul]
  rw [key]
  have hd := Nat.mod_lt (n / 65536 ^ i) (show 0 < 65536 by omega)
  have hm := Nat.mod_lt n (show 0 < 65536 ^ i from Nat.pow_pos (by omega))
  generalize n / 65536 ^ i % 65536 = d at hd ⊢
  generalize n % 65536 ^ i = m at hm ⊢
  have hc : i = 0 ∨ i = 1 ∨ i = 2 ∨ i = 3 ∨ i = 4 ∨ i = 5 ∨ i = 6 ∨ i = 7 ∨ i = 8 ∨ i = 9 ∨ i = 10 ∨ i = 11 ∨ i = 12 ∨ i = 13 ∨ i = 14 ∨ i = 15 := by omega
  unfold lim
  rcases hc with rfl | rfl | rfl | rfl | rfl | rfl | rfl | rfl | rfl | rfl | rfl | rfl | rfl | rfl | rfl | rfl
  all_goals
    simp only [Nat.reduceDiv, Nat.reduceMod, Nat.reduceMul, Nat.reducePow, Nat.pow_zero, Nat.div_one, Nat.mul_one, List.set_cons_zero, List.set_cons_succ, List.cons.injEq, and_true] at hm ⊢
    refine ⟨?_, ?_, ?_, ?_⟩ <;> omega
theorem lim0 : lim 0 = [(0 : Int), (0 : Int), (0 : Int), (0 : Int)] := rfl
theorem to_eq {n : Nat} (hn : n < 115792089237316195423570985008687907853269984665640564039457584007913129639936) : sol_ref1_ToUint256 (dg n, ()) = some ((lim n, ()), ((), ())) := by
  unfold sol_ref1_ToUint256 T_ref1_ToUint256
  have hl := fits_iff.2 hn
  have hend : n % 65536 ^ (dg n).length = n := by
    have := (dg_len_le (n := n) (k := (dg n).length)).1 (Nat.le_refl _)
    exact Nat.mod_eq_of_lt ((Nat.div_eq_zero_iff_lt (Nat.pow_pos (by omega))).1 this)
  refine bigLoop_rule (I := fun x => ∃ i : Nat, i ≤ (dg n).length ∧ x = (dg n, ([(0 : Int), (0 : Int), (0 : Int), (0 : Int)], (lim (n % 65536 ^ i), (((i : Nat) : Int), ()))))) (m := fun x => ((17 : Int) - x.2.2.2.1).toNat) (g := fun _ => some ((lim n, ()), ((), ()))) ?_
    ⟨0, by omega, by rw [Nat.pow_zero, Nat.mod_one, lim0]; rfl⟩ (by rw [bigN_eq]; simp only; omega)
  rintro x again ⟨i, hi, rfl⟩ hag
  simp only at hag ⊢
  unfold T_ref1_ToUint256_loop0
  simp only [letR_eq, brR_dec, brR_inR]
  by_cases h1 : ((i : Nat) : Int) < (((dg n).length : Nat) : Int)
  · have hi16 : i < 16 := by omega
    have t1 : Int.tmod ((i : Nat) : Int) 4 = ((i % 4 : Nat) : Int) := by rw [tmod_pos (by omega)]; omega
    have t2 : Int.tdiv ((i : Nat) : Int) 4 = ((i / 4 : Nat) : Int) := by rw [tdiv_pos (by omega)]; omega
    have t3 : IntKind.wrap .i64 ((16 : Int) * ((i % 4 : Nat) : Int)) = ((16 * (i % 4) : Nat) : Int) := by rw [w_i64 (by omega) (by omega)]; omega
    have t4 : IntKind.wrap .u64 (((16 * (i % 4) : Nat) : Int)) = ((16 * (i % 4) : Nat) : Int) := w_u64 (by omega) (by omega)
    have t5 : IntKind.wrap .i64 (((i / 4 : Nat) : Int)) = ((i / 4 : Nat) : Int) := w_i64 (by omega) (by omega)
    have t6 : IntKind.wrap .i64 (((i : Nat) : Int) + 1) = ((i : Nat) : Int) + 1 := w_i64 (by omega) (by omega)
    simp only [t1, t2, t3, t4, t5, t6]
    have hd := Nat.mod_lt (n / 65536 ^ i) (show 0 < 65536 by omega)
    have hmn : n % 65536 ^ i < 115792089237316195423570985008687907853269984665640564039457584007913129639936 := Nat.lt_of_le_of_lt (Nat.mod_le _ _) hn
    rw [if_pos h1, if_pos (by omega), if_pos (by omega), if_pos (by omega), if_pos (by omega), if_pos (by omega), Int.toNat_natCast, Int.toNat_natCast, Int.toNat_natCast, limb_get hmn (by omega), dg_get, Nat.min_eq_left (by omega)]
    have hw1 : IntKind.wrap .u64 (((n / 65536 ^ i % 65536 : Nat) : Int)) = ((n / 65536 ^ i % 65536 : Nat) : Int) := w_u64 (by omega) (by omega)
    have hr : 2 ^ (16 * (i % 4)) ≤ 281474976710656 := by
      have : i % 4 = 0 ∨ i % 4 = 1 ∨ i % 4 = 2 ∨ i % 4 = 3 := by omega
      rcases this with h | h | h | h <;> rw [h] <;> decide
    have hw2 : IntKind.wrap .u64 (((n / 65536 ^ i % 65536 : Nat) : Int) * (2 : Int) ^ (16 * (i % 4))) = (((n / 65536 ^ i % 65536) * 2 ^ (16 * (i % 4)) : Nat) : Int) := by
      have h65 : (n / 65536 ^ i % 65536) * 2 ^ (16 * (i % 4)) ≤ 65535 * 281474976710656 := Nat.mul_le_mul (by omega) hr
      have e : ((n / 65536 ^ i % 65536 : Nat) : Int) * (2 : Int) ^ (16 * (i % 4)) = (((n / 65536 ^ i % 65536) * 2 ^ (16 * (i % 4)) : Nat) : Int) := by
        rw [Int.natCast_mul, Int.natCast_pow]; rfl
      rw [e, w_u64 (by omega) (by omega)]
    have hw3 : ∀ a b : Nat, IntKind.wrap .u64 (((a : Nat) : Int) + ((b : Nat) : Int)) = (((a + b) % 18446744073709551616 : Nat) : Int) := fun a b => by rw [IntKind.wrap_u64]; omega
    rw [hw1, hw2, hw3, lim_step hi16]
    exact hag _ ⟨i + 1, by omega, by rw [Int.natCast_add]; rfl⟩ (by simp only; omega)
  · have hie : i = (dg n).length := by omega
    rw [if_neg h1, hie, hend]
def cmpN (a b : Nat) : Int := if a < b then -1 else if b < a then 1 else 0
theorem cmp_eq {a b : Nat} (ha : (dg a).length ≤ 1000) (hb : (dg b).length ≤ 1000) : sol_ref1_Cmp (dg a, (dg b, ())) = some ((cmpN a b, ()), ((), ((), ()))) := by
  have ltl : ∀ {x y : Nat}, (dg x).length < (dg y).length → x < y := fun {x y} h => by
    have h1 := (dg_len_le (n := x) (k := (dg x).length)).1 (Nat.le_refl _)
    have h2 := (dg_len (dg x).length y).1 h
    have p0 : 0 < 65536 ^ (dg x).length := Nat.pow_pos (by omega)
    have h3 := (Nat.div_eq_zero_iff_lt p0).1 h1
    rcases Nat.lt_or_ge x y with h | h
    · exact h
    · have : y / 65536 ^ (dg x).length ≤ x / 65536 ^ (dg x).length := Nat.div_le_div_right h
      omega
  unfold sol_ref1_Cmp T_ref1_Cmp
  simp only [brR_not, brR_dec]
  by_cases hl : (((dg a).length : Nat) : Int) = (((dg b).length : Nat) : Int)
  · rw [if_pos hl]
    have hl' : (dg a).length = (dg b).length := by omega
    rw [w_i64 (by omega) (by omega)]
    refine bigLoop_rule (I := fun x => ∃ i : Nat, i ≤ (dg a).length ∧ a / 65536 ^ i = b / 65536 ^ i ∧ x = (dg a, (dg b, (((i : Nat) : Int) - 1, ())))) (m := fun x => (x.2.2.1 + 1).toNat) (g := fun _ => some ((cmpN a b, ()), ((), ((), ())))) ?_
      ⟨(dg a).length, Nat.le_refl _, by rw [(dg_len_le (n := a)).1 (Nat.le_refl _), hl', (dg_len_le (n := b)).1 (Nat.le_refl _)], rfl⟩ (by rw [bigN_eq]; simp only; omega)
    rintro x again ⟨i, hi, he, rfl⟩ hag
    simp only at hag ⊢
    unfold T_ref1_Cmp_loop0
    simp only [brR_dec, brR_inR]
    by_cases h1 : ((i : Nat) : Int) - 1 ≥ 0
    · have hti : (((i : Nat) : Int) - 1).toNat = i - 1 := by omega
      have ea := div_pow_succ' a (i - 1); have eb := div_pow_succ' b (i - 1)
      rw [show i - 1 + 1 = i by omega] at ea eb
      have lta : a / 65536 ^ (i - 1) < b / 65536 ^ (i - 1) → a < b := fun h => by
        rcases Nat.lt_or_ge a b with h' | h'
        · exact h'
        · have : b / 65536 ^ (i - 1) ≤ a / 65536 ^ (i - 1) := Nat.div_le_div_right h'
          omega
      have ltb : b / 65536 ^ (i - 1) < a / 65536 ^ (i - 1) → b < a := fun h => by
        rcases Nat.lt_or_ge b a with h' | h'
        · exact h'
        · have : a / 65536 ^ (i - 1) ≤ b / 65536 ^ (i - 1) := Nat.div_le_div_right h'
          omega
      have hnx : a / 65536 ^ (i - 1) = b / 65536 ^ (i - 1) → again (dg a, (dg b, (((i : Nat) : Int) - 1 - 1, ()))) = some ((cmpN a b, ()), ((), ((), ()))) := fun h =>
        hag _ ⟨i - 1, by omega, h, by rw [show ((i - 1 : Nat) : Int) = (i : Int) - 1 by omega]⟩ (by simp only; omega)
      have iA : (0 : Int) ≤ ((i : Nat) : Int) - 1 ∧ ((i : Nat) : Int) - 1 < (((dg a).length : Nat) : Int) := by omega
      have iB : (0 : Int) ≤ ((i : Nat) : Int) - 1 ∧ ((i : Nat) : Int) - 1 < (((dg b).length : Nat) : Int) := by omega
      simp only [if_pos h1, if_pos iA, if_pos iB]
      rw [hti, dg_get, dg_get, w_i64 (by omega) (by omega)]
      rw [ea, eb] at he
      clear hag
      generalize a / 65536 ^ (i - 1) = qa at *
      generalize b / 65536 ^ (i - 1) = qb at *
      by_cases c1 : ((qa % 65536 : Nat) : Int) < ((qb % 65536 : Nat) : Int)
      · rw [if_pos c1]
        unfold cmpN
        rw [if_pos (lta (by omega))]
      · rw [if_neg c1]
        by_cases c2 : ((qa % 65536 : Nat) : Int) > ((qb % 65536 : Nat) : Int)
        · rw [if_pos c2]
          have := ltb (by omega)
          unfold cmpN
          rw [if_neg (by omega), if_pos this]
        · rw [if_neg c2]
          exact hnx (by omega)
    · have : i = 0 := by omega
      subst this
      rw [if_neg h1]
      simp only [Nat.pow_zero, Nat.div_one] at he
      subst he
      unfold cmpN
      simp
  · rw [if_neg hl]
    by_cases hlt : (((dg a).length : Nat) : Int) < (((dg b).length : Nat) : Int)
    · rw [if_pos hlt]
      unfold cmpN
      rw [if_pos (ltl (by omega))]
    · rw [if_neg hlt]
      have := ltl (x := b) (y := a) (by omega)
      unfold cmpN
      rw [if_neg (by omega), if_pos this]
theorem sub_loop_eq {A D B : Nat} (hD : A = B + D) (hA : (dg A).length ≤ 1000) : sol_ref1_Sub (dg A, (dg B, ())) = some ((dg D, ()), ((), ((), ()))) := by
  unfold sol_ref1_Sub T_ref1_Sub
  have hend : A / 65536 ^ (dg A).length = 0 := (dg_len_le (n := A)).1 (Nat.le_refl _)
  have hDend : D / 65536 ^ (dg A).length = 0 := by
    have : D / 65536 ^ (dg A).length ≤ A / 65536 ^ (dg A).length := Nat.div_le_div_right (by omega)
    rw [hend] at this
    exact Nat.le_zero.1 this
  rw [decide_eq_true (show (0 : Int) ≤ (((dg A).length : Nat) : Int) by omega), decide_eq_true (Int.le_refl _), Int.toNat_natCast]
  simp only [Bool.and_self, Bool.true_and, Bool.and_true]
  rw [brR_roomI (by omega)]
  refine bigLoop_rule (I := fun x => ∃ (i u : Nat), i ≤ (dg A).length ∧ u ≤ 1 ∧ A / 65536 ^ i = B / 65536 ^ i + D / 65536 ^ i + u ∧ x = (dg A, (dg B, (lo i D ++ List.replicate ((dg A).length - i) 0, (((u : Nat) : Int), (((i : Nat) : Int), ()))))))
    (m := fun x => ((1001 : Int) - x.2.2.2.2.1).toNat) (g := fun _ => some ((dg D, ()), ((), ((), ())))) ?_ ⟨0, 0, by omega, by omega, by simp [hD], rfl⟩ (by rw [bigN_eq]; simp only; omega)
  rintro x again ⟨i, u, hi, hu, hd, rfl⟩ hag
  simp only at hag ⊢
  have la := dg_len i A; have lb := dg_len i B
  have ga := dg_get i A; have gb := dg_get i B
  have sa := div_pow_succ' A i; have sb := div_pow_succ' B i; have sd := div_pow_succ' D i
  have hset : i < (dg A).length → List.set (lo i D ++ List.replicate ((dg A).length - i) 0) i ((D / 65536 ^ i % 65536 : Nat) : Int) = lo (i + 1) D ++ List.replicate ((dg A).length - (i + 1)) 0 := fun h => by
    rw [List.set_append, if_neg (by rw [lo_len]; omega), lo_len, Nat.sub_self, show (dg A).length - i = ((dg A).length - (i + 1)) + 1 by omega, List.replicate_succ, List.set_cons_zero, lo_succ]
    simp
  have hol : (lo i D ++ List.replicate ((dg A).length - i) 0).length = (dg A).length := by rw [List.length_append, lo_len, List.length_replicate]; omega
  have step : ∀ u' : Nat, u' ≤ 1 → A / 65536 ^ i / 65536 = B / 65536 ^ i / 65536 + D / 65536 ^ i / 65536 + u' → i < (dg A).length → again (dg A, (dg B, (lo (i + 1) D ++ List.replicate ((dg A).length - (i + 1)) 0, (((u' : Nat) : Int), (((i : Nat) : Int) + 1, ()))))) = some ((dg D, ()), ((), ((), ()))) := fun u' h1 h2 h3 =>
    hag _ ⟨i + 1, u', by omega, h1, by rw [sa, sb, sd]; exact h2, by rw [Int.natCast_add]; rfl⟩ (by simp only; omega)
  clear hag
  unfold T_ref1_Sub_loop0
  simp only [letR_eq, brR_dec, brR_inR, Int.toNat_natCast, ga, gb, hol]
  by_cases h1 : ((i : Nat) : Int) < (((dg A).length : Nat) : Int)
  · have hil : i < (dg A).length := by omega
    have hset := hset hil
    have step := fun u' h1 h2 => step u' h1 h2 hil
    have iA : (0 : Int) ≤ ((i : Nat) : Int) ∧ ((i : Nat) : Int) < (((dg A).length : Nat) : Int) := by omega
    have hwi : IntKind.wrap .i64 (((i : Nat) : Int) + 1) = ((i : Nat) : Int) + 1 := w_i64 (by omega) (by omega)
    simp only [if_pos h1, if_pos iA, hwi]
    generalize A / 65536 ^ i = a1 at *
    generalize B / 65536 ^ i = b1 at *
    generalize D / 65536 ^ i = d1 at *
    generalize (dg A).length = nla at *
    generalize (dg B).length = nlb at *
    have hv6 : IntKind.wrap .i64 (((a1 % 65536 : Nat) : Int) - ((u : Nat) : Int)) = ((a1 % 65536 : Nat) : Int) - ((u : Nat) : Int) := w_i64 (by omega) (by omega)
    have hv7 : IntKind.wrap .i64 (((a1 % 65536 : Nat) : Int) - ((u : Nat) : Int) - ((b1 % 65536 : Nat) : Int)) = ((a1 % 65536 : Nat) : Int) - ((u : Nat) : Int) - ((b1 % 65536 : Nat) : Int) := w_i64 (by omega) (by omega)
    have hv8 : IntKind.wrap .i64 (((a1 % 65536 : Nat) : Int) - ((u : Nat) : Int) + 65536) = ((a1 % 65536 : Nat) : Int) - ((u : Nat) : Int) + 65536 := w_i64 (by omega) (by omega)
    have hv9 : IntKind.wrap .i64 (((a1 % 65536 : Nat) : Int) - ((u : Nat) : Int) - ((b1 % 65536 : Nat) : Int) + 65536) = ((a1 % 65536 : Nat) : Int) - ((u : Nat) : Int) - ((b1 % 65536 : Nat) : Int) + 65536 := w_i64 (by omega) (by omega)
    simp only [hv6, hv7, hv8, hv9]
    by_cases cb : ((i : Nat) : Int) < ((nlb : Nat) : Int)
    · have iB : (0 : Int) ≤ ((i : Nat) : Int) ∧ ((i : Nat) : Int) < ((nlb : Nat) : Int) := by omega
      simp only [if_pos cb, if_pos iB]
      by_cases cn : ((a1 % 65536 : Nat) : Int) - ((u : Nat) : Int) - ((b1 % 65536 : Nat) : Int) < 0
      · rw [if_pos cn, show ((a1 % 65536 : Nat) : Int) - ((u : Nat) : Int) - ((b1 % 65536 : Nat) : Int) + 65536 = ((d1 % 65536 : Nat) : Int) by omega, hset]
        exact step 1 (by omega) (by omega)
      · rw [if_neg cn, show ((a1 % 65536 : Nat) : Int) - ((u : Nat) : Int) - ((b1 % 65536 : Nat) : Int) = ((d1 % 65536 : Nat) : Int) by omega, hset]
        exact step 0 (by omega) (by omega)
    · have hb0 : b1 = 0 := by omega
      subst hb0
      simp only [if_neg cb]
      by_cases cn : ((a1 % 65536 : Nat) : Int) - ((u : Nat) : Int) < 0
      · rw [if_pos cn, show ((a1 % 65536 : Nat) : Int) - ((u : Nat) : Int) + 65536 = ((d1 % 65536 : Nat) : Int) by omega, hset]
        exact step 1 (by omega) (by omega)
      · rw [if_neg cn, show ((a1 % 65536 : Nat) : Int) - ((u : Nat) : Int) = ((d1 % 65536 : Nat) : Int) by omega, hset]
        exact step 0 (by omega) (by omega)
  · have hie : i = (dg A).length := by omega
    rw [if_neg h1]
    subst hie
    rw [Nat.sub_self, List.replicate_zero, List.append_nil, norm_lo (by omega) hDend]
    rfl
theorem sub256_eq {a b : Nat} (ha : a < 115792089237316195423570985008687907853269984665640564039457584007913129639936) (hb : b < 115792089237316195423570985008687907853269984665640564039457584007913129639936) :
    sol_ref1_Sub256 (lim a, (lim b, ())) = some ((if b ≤ a then (lim (a - b), ((0 : Int), ())) else ([(0 : Int), (0 : Int), (0 : Int), (0 : Int)], ((4 : Int), ()))), ((), ((), ()))) := by
  have la := fits_iff.2 ha; have lb := fits_iff.2 hb
  unfold sol_ref1_Sub256 T_ref1_Sub256
  rw [from_eq ha]; simp only [bind_some']
  rw [from_eq hb]; simp only [bind_some']
  rw [cmp_eq (by omega) (by omega)]; simp only [bind_some', brR_dec]
  unfold cmpN
  by_cases h : b ≤ a
  · rw [if_neg (show ¬ a < b by omega), if_neg (by split <;> omega), if_pos h, sub_loop_eq (A := a) (B := b) (D := a - b) (by omega) (by omega)]
    simp only [bind_some']
    rw [to_eq (by omega)]
    rfl
  · rw [if_pos (show a < b by omega), if_pos (by omega), if_neg h]
theorem isZero_eq (n : Nat) : sol_ref1_IsZero (lim n, ()) = some ((decide (n = 0), ()), ((), ())) := by
  unfold sol_ref1_IsZero T_ref1_IsZero
  rw [← lim0, eqD_lim]
end Go.Pon
set_option autoImplicit false
set_option linter.unusedVariables false
set_option linter.unusedSimpArgs false
namespace Go.Pon
open Go
def sat (n : Nat) : Nat := if n < 115792089237316195423570985008687907853269984665640564039457584007913129639936 then n else 115792089237316195423570985008687907853269984665640564039457584007913129639935
theorem sat_lt (n : Nat) : sat n < 115792089237316195423570985008687907853269984665640564039457584007913129639936 := by unfold sat; split <;> omega
theorem sat_B (n : Nat) : B256 (sat n) := sat_lt n
theorem sat_of {n : Nat} (h : n < 115792089237316195423570985008687907853269984665640564039457584007913129639936) : sat n = n := if_pos h
theorem sat_add (n m : Nat) : sat (sat n + m) = sat (n + m) := by
  unfold sat
  by_cases h : n < 115792089237316195423570985008687907853269984665640564039457584007913129639936
  · rw [if_pos h]
  · rw [if_neg h, if_neg (show ¬ n + m < 115792089237316195423570985008687907853269984665640564039457584007913129639936 by omega)]
    by_cases hm : m = 0
    · subst hm; rw [if_pos (by omega)]
    · rw [if_neg (by omega)]
theorem lim_max : lim 115792089237316195423570985008687907853269984665640564039457584007913129639935 = [(18446744073709551615 : Int), (18446744073709551615 : Int), (18446744073709551615 : Int), (18446744073709551615 : Int)] := by decide
theorem satAdd_eq {a b : Nat} (ha : B256 a) (hb : B256 b) : sol_uint256_SaturatingAdd (lim a, (lim b, ())) = some ((lim (sat (a + b)), ()), ((), ((), ()))) := by
  unfold B256 at ha hb
  unfold sol_uint256_SaturatingAdd T_uint256_SaturatingAdd
  rw [uAdd_eq ha hb]
  simp only [bind_some', brR_dec]
  unfold sat
  by_cases h : a + b < 115792089237316195423570985008687907853269984665640564039457584007913129639936
  · rw [if_pos h, if_pos rfl, if_pos h]
  · simp only [if_neg h]
    rw [if_neg (by decide)]
    unfold sol_uint256_maxValue T_uint256_maxValue
    rw [lim_max]; rfl
end Go.Pon
set_option autoImplicit false
set_option linter.unusedVariables false
set_option linter.unusedSimpArgs false
namespace Go.Pon
open Go
theorem zA_eq : (Ty.zero (.pair (.int .u64) (.pair (.arr 4 (.int .u64)) (.pair (.int .u64) .unit))) : AccT) = zAcc := rfl
theorem zAl_eq : (((0 : Int), ([(0 : Int), (0 : Int), (0 : Int), (0 : Int)], ((0 : Int), ()))) : AccT) = zAcc := rfl
abbrev zV : List Int := [(0 : Int), (0 : Int), (0 : Int), (0 : Int)]
theorem roomyA {n : Nat} (h : n ≤ 1000000) : roomy n (.pair (.int .u64) (.pair (.arr 4 (.int .u64)) (.pair (.int .u64) .unit))) = true := by
  rw [roomy_dec, decide_eq_true_eq]
  exact ⟨by decide, by simp only [Ty.size]; omega⟩
theorem cloneA_eq {l : List AccT} (h : l.length ≤ 1000000) : sol_slices_Clone_api_Account_api_Account (l, ()) = some ((l, ()), ((), ())) := by
  unfold sol_slices_Clone_api_Account_api_Account T_slices_Clone_api_Account_api_Account
  simp only [letR_eq]
  rw [roomyA (by omega), brR_true, brR_dec]
  split
  · rename_i h0
    have : l = [] := List.length_eq_zero_iff.1 h0
    subst this
    exact bothR_eq rfl rfl
  · rfl
theorem insertA_eq {l : List AccT} {p : AccT} {i : Nat} (h : l.length ≤ 999990) (hi : i ≤ l.length) : sol_slices_Insert_api_Account_api_Account (l, (((i : Nat) : Int), ([p], ()))) = some ((l.take i ++ (p :: l.drop i), ()), ((), ((), ((), ())))) := by
  unfold sol_slices_Insert_api_Account_api_Account T_slices_Insert_api_Account_api_Account insF
  have hr : roomy (List.length l + List.length [p]) (.pair (.int .u64) (.pair (.arr 4 (.int .u64)) (.pair (.int .u64) .unit))) = true := roomyA (by simp; omega)
  have hc : (0 : Int) ≤ ((i : Nat) : Int) ∧ ((i : Nat) : Int) ≤ ((List.length l : Nat) : Int) ∧ 0 < List.length [p] ∧ roomy (List.length l + List.length [p]) (.pair (.int .u64) (.pair (.arr 4 (.int .u64)) (.pair (.int .u64) .unit))) = true := ⟨by omega, by omega, by simp, hr⟩
  simp only
  rw [if_pos hc, Int.toNat_natCast]
  rfl
theorem deleteA_eq {l : List AccT} {i : Nat} (h : l.length ≤ 999990) (hi : i < l.length) : sol_slices_Delete_api_Account_api_Account (l, (((i : Nat) : Int), (((i + 1 : Nat) : Int), ()))) = some ((l.take i ++ l.drop (i + 1), ()), ((), ((), ((), ())))) := by
  unfold sol_slices_Delete_api_Account_api_Account T_slices_Delete_api_Account_api_Account delF
  have hc : (0 : Int) ≤ ((i : Nat) : Int) ∧ ((i : Nat) : Int) < ((i + 1 : Nat) : Int) ∧ ((i + 1 : Nat) : Int) ≤ ((List.length l : Nat) : Int) ∧ roomy (List.length l) (.pair (.int .u64) (.pair (.arr 4 (.int .u64)) (.pair (.int .u64) .unit))) = true := ⟨by omega, by omega, by omega, roomyA (by omega)⟩
  simp only
  rw [if_pos hc, Int.toNat_natCast, Int.toNat_natCast]
  rfl
theorem isNaN_eq (x : Int) : sol_cmp_isNaN_api_Address (x, ()) = some ((false, ()), ((), ())) := by
  unfold sol_cmp_isNaN_api_Address T_cmp_isNaN_api_Address
  simp
def cmpI (x y : Int) : Int := if x < y then -1 else if x > y then 1 else 0
theorem compare_eq (x y : Int) : sol_cmp_Compare_api_Address (x, (y, ())) = some ((cmpI x y, ()), ((), ((), ()))) := by
  unfold sol_cmp_Compare_api_Address T_cmp_Compare_api_Address
  rw [isNaN_eq, isNaN_eq]
  simp only [bind_some', brR_false, brR_dec]
  unfold cmpI
  by_cases h : x < y
  · rw [if_pos h, if_pos h]
  · rw [if_neg h, if_neg h]
    by_cases h2 : x > y
    · rw [if_pos h2, if_pos h2]
    · rw [if_neg h2, if_neg h2]
theorem find1_eq (x : AccT) (a : Int) : sol_ledger_Ledger_find_1 (x, (a, ())) = some ((cmpI x.1 a, ()), ((), ((), ()))) := by
  unfold sol_ledger_Ledger_find_1 T_ledger_Ledger_find_1
  rw [compare_eq]; rfl
theorem half_eq {i j : Nat} (h : i + j ≤ 4000000) : IntKind.wrap .i64 (Int.fdiv (IntKind.wrap .u64 (IntKind.wrap .i64 (((i : Nat) : Int) + ((j : Nat) : Int)))) 2) = (((i + j) / 2 : Nat) : Int) := by
  rw [w_i64 (n := ((i : Nat) : Int) + ((j : Nat) : Int)) (by omega) (by omega), w_u64 (by omega) (by omega), Int.fdiv_eq_ediv_of_nonneg _ (by omega), w_i64 (by omega) (by omega)]
  omega
theorem bsA_eq {l : List AccT} {a : Int} (hs : Srt l) (hl : l.length ≤ 1000000) :
    sol_slices_BinarySearchFunc_api_Account_api_Account_api_Address (l, (a, ((), ()))) = some ((((cntA l a : Nat) : Int), (decide (foundA l a), ())), ((), ((), ((), ())))) := by
  unfold sol_slices_BinarySearchFunc_api_Account_api_Account_api_Address T_slices_BinarySearchFunc_api_Account_api_Account_api_Address
  simp only [letR_eq]
  have hc := cntA_le a l
  refine bigLoop_rule (I := fun x => ∃ i j : Nat, i ≤ cntA l a ∧ cntA l a ≤ j ∧ j ≤ l.length ∧ x = (l, (a, ((), (((l.length : Nat) : Int), (((i : Nat) : Int), (((j : Nat) : Int), ()))))))) (m := fun x => (x.2.2.2.2.2.1 - x.2.2.2.2.1).toNat)
    (g := fun _ => some ((((cntA l a : Nat) : Int), (decide (foundA l a), ())), ((), ((), ((), ()))))) ?_ ⟨0, l.length, by omega, hc, by omega, rfl⟩ (by rw [bigN_eq]; simp only; omega)
  rintro x again ⟨i, j, h1, h2, h3, rfl⟩ hag
  simp only at hag ⊢
  unfold T_slices_BinarySearchFunc_api_Account_api_Account_api_Address_loop0
  rw [zAl_eq]
  simp only [letR_eq, brR_dec, brR_inR]
  rw [half_eq (by omega)]
  by_cases hij : ((i : Nat) : Int) < ((j : Nat) : Int)
  · have hm : (i + j) / 2 < l.length := by omega
    rw [if_pos hij, if_pos (by omega), Int.toNat_natCast, find1_eq]
    simp only [bind_some', brR_dec]
    unfold cmpI
    generalize hk : (i + j) / 2 = k at *
    by_cases hlt : (l.getD k zAcc).1 < a
    · rw [if_pos (by rw [if_pos hlt]; decide), w_i64 (by omega) (by omega)]
      have : k < cntA l a := by
        rcases Nat.lt_or_ge k (cntA l a) with h | h
        · exact h
        · have := cntA_ge hs h hm; omega
      exact hag _ ⟨k + 1, j, by omega, h2, h3, by rw [Int.natCast_add]; rfl⟩ (by simp only; omega)
    · rw [if_neg (by rw [if_neg hlt]; split <;> decide)]
      have : cntA l a ≤ k := by
        rcases Nat.lt_or_ge k (cntA l a) with h | h
        · exact absurd (cntA_lt h) hlt
        · exact h
      exact hag _ ⟨i, k, h1, this, by omega, rfl⟩ (by simp only; omega)
  · have hi : i = cntA l a := by omega
    subst hi
    rw [if_neg hij]
    by_cases hin : ((cntA l a : Nat) : Int) < ((l.length : Nat) : Int)
    · rw [if_pos hin, if_pos (by omega), Int.toNat_natCast, find1_eq]
      simp only [bind_some']
      have hge := cntA_at (l := l) (a := a) (by omega)
      unfold cmpI foundA
      by_cases he : (l.getD (cntA l a) zAcc).1 = a
      · rw [decide_eq_true (show cntA l a < l.length ∧ (l.getD (cntA l a) zAcc).1 = a from ⟨by omega, he⟩), if_neg (by omega), if_neg (by omega)]; rfl
      · rw [decide_eq_false (show ¬ (cntA l a < l.length ∧ (l.getD (cntA l a) zAcc).1 = a) from fun h => he h.2), if_neg (by omega), if_pos (by omega)]; rfl
    · rw [if_neg hin]
      unfold foundA
      rw [decide_eq_false (show ¬ (cntA l a < l.length ∧ (l.getD (cntA l a) zAcc).1 = a) from fun h => by omega)]
theorem find_eq {l : List AccT} {v : List (List Int)} {a : Int} (hs : Srt l) (hl : l.length ≤ 1000000) :
    sol_ledger_Ledger_find ((l, (v, ())), (a, ())) = some ((((cntA l a : Nat) : Int), (decide (foundA l a), ())), ((l, (v, ())), ((), ()))) := by
  unfold sol_ledger_Ledger_find T_ledger_Ledger_find
  simp only
  rw [bsA_eq hs hl]; rfl
theorem get_eq {l : List AccT} {v : List (List Int)} {a : Int} (hs : Srt l) (hl : l.length ≤ 1000000) :
    sol_ledger_Ledger_get (some (l, (v, ())), (a, ())) = some ((lget l a, ()), (some (l, (v, ())), ((), ()))) := by
  unfold sol_ledger_Ledger_get T_ledger_Ledger_get
  simp only [optR_some]
  rw [find_eq hs hl]
  simp only [bind_some', brR_dec, brR_inR]
  rw [lget_cnt hs]
  by_cases h : foundA l a
  · rw [if_pos h, if_pos h]
    have := h.1
    rw [if_pos (by omega), Int.toNat_natCast]
  · rw [if_neg h, if_neg h]
theorem isEmpty_eq {x : AccT} (h : AccW x) : sol_ledger_isEmpty (x, ()) = some ((decide (isE x), ()), ((), ())) := by
  obtain ⟨ha, hb, hn⟩ := h
  rename_i a b n
  unfold sol_ledger_isEmpty T_ledger_isEmpty
  simp only
  rw [← lim0, eqD_lim, brR_dec]
  have e : isE (a, (lim b, (n, ()))) ↔ b = 0 ∧ n = 0 := by
    unfold isE
    simp only [Prod.mk.injEq, true_and, and_true]
    rw [← lim0, lim_inj]
  by_cases h0 : b = 0
  · rw [if_pos h0]
    by_cases h1 : n = 0
    · rw [decide_eq_true h1, decide_eq_true (e.2 ⟨h0, h1⟩)]
    · rw [decide_eq_false h1, decide_eq_false fun h => h1 (e.1 h).2]
  · rw [if_neg h0, decide_eq_false fun h => h0 (e.1 h).1]
theorem set_eq {l : List AccT} {v : List (List Int)} {x : AccT} (hs : Srt l) (hl : l.length ≤ 900000) (hx : AccW x) :
    sol_ledger_Ledger_set ((l, (v, ())), (x, ())) = some ((), ((lput l x, (v, ())), ((), ()))) := by
  unfold sol_ledger_Ledger_set T_ledger_Ledger_set
  simp only
  rw [find_eq hs (by omega), lput_cnt]
  have hc := cntA_le x.1 l
  simp only [bind_some', brR_dec, brR_not, brR_inR]
  rw [isEmpty_eq hx]
  simp only [bind_some', brR_dec, brR_not, brR_inR]
  by_cases h : foundA l x.1
  · have h1 := h.1
    simp only [if_pos h]
    by_cases he : isE x
    · rw [if_pos he, if_pos he, w_i64 (by omega) (by omega), show ((cntA l x.1 : Nat) : Int) + 1 = ((cntA l x.1 + 1 : Nat) : Int) by omega, deleteA_eq (by omega) h1]
      rfl
    · rw [if_neg he, if_neg he, if_pos (by omega), Int.toNat_natCast]
  · simp only [if_neg h]
    by_cases he : isE x
    · rw [if_pos he, if_pos he]
    · rw [if_neg he, if_neg he, insertA_eq (by omega) hc]
      rfl
abbrev bal (l : List AccT) (a : Int) : Nat := val4 (lget l a).2.1
abbrev non (l : List AccT) (a : Int) : Int := (lget l a).2.2.1
structure LInv (l : List AccT) (vs : List Nat) : Prop where
  srt : Srt l
  ne : NE l
  all : AllA l
  nz : ∀ x ∈ l, x.1 ≠ 0
  len : vs.length = 4
  sum : sumL l + vs.sum < 115792089237316195423570985008687907853269984665640564039457584007913129639936
theorem lget_mk {l : List AccT} {a : Int} (h : AllA l) (ha : U64 a) : lget l a = (a, (lim (bal l a), (non l a, ()))) ∧ B256 (bal l a) ∧ U64 (non l a) := by
  have hw := lgetW h ha
  have hf := lget_fst l a
  unfold bal non
  generalize lget l a = x at hw hf ⊢
  obtain ⟨h1, h2, h3⟩ := hw
  simp only at hf ⊢
  subst hf
  rw [val4_lim]
  exact ⟨rfl, h2, h3⟩
theorem mem_le_sum : ∀ {l : List AccT} {x : AccT}, x ∈ l → val4 x.2.1 ≤ sumL l
  | y :: l, x, h => by
    rw [sumL_cons]
    rcases List.mem_cons.1 h with rfl | h
    · omega
    · have := mem_le_sum h; omega
theorem bal_le (l : List AccT) (a : Int) : bal l a ≤ sumL l := by
  unfold bal
  rcases lget_mem l a with h | ⟨_, h⟩
  · exact mem_le_sum h
  · rw [h, val4_z]; omega
theorem vs_le : ∀ {vs : List Nat} {n : Nat}, n ∈ vs → n ≤ vs.sum
  | m :: vs, n, h => by
    rw [List.sum_cons]
    rcases List.mem_cons.1 h with rfl | h
    · omega
    · have := vs_le h; omega
theorem vget_le (vs : List Nat) (i : Nat) : vs.getD i 0 ≤ vs.sum := by
  rcases Nat.lt_or_ge i vs.length with h | h
  · exact vs_le (getD_mem h)
  · rw [List.getD_eq_getElem?_getD, List.getElem?_eq_none h]; exact Nat.zero_le _
theorem vget_eq (vs : List Nat) (i : Nat) : List.getD (vs.map lim) i zV = lim (vs.getD i 0) := by
  rw [List.getD_eq_getElem?_getD, List.getElem?_map, List.getD_eq_getElem?_getD]
  cases vs[i]? with
  | none => rfl
  | some n => rfl
theorem set_sum : ∀ {vs : List Nat} {i n : Nat}, i < vs.length → (vs.set i n).sum + vs.getD i 0 = vs.sum + n
  | m :: vs, 0, n, _ => by simp; omega
  | m :: vs, i + 1, n, h => by
    have := set_sum (vs := vs) (i := i) (n := n) (by simpa using h)
    simp only [List.set_cons_succ, List.sum_cons, List.getD_cons_succ]
    omega
theorem supply_loop {l : List AccT} {v : List (List Int)} {vs : List Nat} {s : Nat} (hv : v = vs.map lim) (hlen : vs.length = 4) (hb : ∀ n ∈ vs, B256 n) (t : List Int) :
    bigLoop _ _ (fun again x => T_ledger_Ledger_Supply_loop1 sol_uint256_SaturatingAdd again x.1 x.2.1 x.2.2.1 x.2.2.2.1 x.2.2.2.2.1) (t, (lim (sat s), (v, ((0 : Int), ((l, (v, ())), ()))))) =
      some ((lim (sat (s + vs.sum)), ()), (some (l, (v, ())), ())) := by
  subst hv
  refine bigLoop_rule (I := fun x => ∃ i : Nat, i ≤ 4 ∧ x = (t, (lim (sat (s + (vs.take i).sum)), (vs.map lim, (((i : Nat) : Int), ((l, (vs.map lim, ())), ())))))) (m := fun x => ((4 : Int) - x.2.2.2.1).toNat)
    (g := fun _ => some ((lim (sat (s + vs.sum)), ()), (some (l, (vs.map lim, ())), ()))) ?_ ⟨0, by omega, by simp⟩ (by rw [bigN_eq]; simp only; omega)
  rintro x again ⟨i, hi, rfl⟩ hag
  simp only at hag ⊢
  unfold T_ledger_Ledger_Supply_loop1
  simp only [brR_dec, brR_inR]
  by_cases h : ((i : Nat) : Int) < 4
  · rw [if_pos h, if_pos (by omega), Int.toNat_natCast, vget_eq]
    have hm : vs.getD i 0 ∈ vs := getD_mem (by omega)
    rw [satAdd_eq (sat_B _) (hb _ hm), sat_add, w_i64 (by omega) (by omega)]
    simp only [bind_some']
    refine hag _ ⟨i + 1, by omega, ?_⟩ (by simp only; omega)
    rw [take_succ' (d := 0) (by omega), List.sum_append, List.sum_singleton, Nat.add_assoc, Int.natCast_add]; rfl
  · rw [if_neg h, List.take_of_length_le (by omega)]
theorem supply_gen {l : List AccT} {vs : List Nat} (ha : AllA l) (hl : l.length ≤ 1000000) (hlen : vs.length = 4) (hb : ∀ n ∈ vs, B256 n) :
    sol_ledger_Ledger_Supply (some (l, (vs.map lim, ())), ()) = some ((lim (sat (sumL l + vs.sum)), ()), (some (l, (vs.map lim, ())), ())) := by
  unfold sol_ledger_Ledger_Supply T_ledger_Ledger_Supply
  simp only [optR_some]
  refine bigLoop_rule (I := fun x => ∃ i : Nat, i ≤ l.length ∧ x = ((l, (vs.map lim, ())), ([(0 : Int), (0 : Int), (0 : Int), (0 : Int)], (lim (sat (sumL (l.take i))), (((l.length : Nat) : Int), (((i : Nat) : Int), ())))))) (m := fun x => (((l.length : Nat) : Int) - x.2.2.2.2.1).toNat)
    (g := fun _ => some ((lim (sat (sumL l + vs.sum)), ()), (some (l, (vs.map lim, ())), ()))) ?_ ⟨0, by omega, by rw [List.take_zero, sumL_nil, sat_of (by decide), lim_zero]; rfl⟩ (by rw [bigN_eq]; simp only; omega)
  rintro x again ⟨i, hi, rfl⟩ hag
  simp only at hag ⊢
  unfold T_ledger_Ledger_Supply_loop0
  rw [zA_eq]
  simp only [brR_dec, brR_inR]
  by_cases h : ((i : Nat) : Int) < ((l.length : Nat) : Int)
  · rw [if_pos h, if_pos (by omega), Int.toNat_natCast]
    have hs : sumL (l.take (i + 1)) = sumL (l.take i) + val4 (l.getD i zAcc).2.1 := by
      rw [take_succ' (d := zAcc) (by omega), sumL_append, sumL_cons, sumL_nil, Nat.add_zero]
    have hw := ha.at i
    generalize l.getD i zAcc = y at hw hs ⊢
    obtain ⟨h1, h2, h3⟩ := hw
    simp only at hs ⊢
    rw [val4_lim] at hs
    rw [satAdd_eq (sat_B _) h2, sat_add, ← hs, w_i64 (by omega) (by omega)]
    simp only [bind_some']
    exact hag _ ⟨i + 1, by omega, by rw [Int.natCast_add]; rfl⟩ (by simp only; omega)
  · rw [if_neg h, List.take_of_length_le (by omega)]
    exact supply_loop rfl hlen hb _
theorem LInv.vB {l : List AccT} {vs : List Nat} (h : LInv l vs) : ∀ n ∈ vs, B256 n := fun n hn => by
  have := vs_le hn
  have := h.sum
  unfold B256; omega
theorem supply_eq {l : List AccT} {vs : List Nat} (h : LInv l vs) (hl : l.length ≤ 1000000) :
    sol_ledger_Ledger_Supply (some (l, (vs.map lim, ())), ()) = some ((lim (sumL l + vs.sum), ()), (some (l, (vs.map lim, ())), ())) := by
  rw [supply_gen h.all hl h.len h.vB, sat_of h.sum]
abbrev crd (l : List AccT) (a : Int) (n : Nat) : List AccT := lput l (a, (lim (bal l a + n), (non l a, ())))
abbrev deb (l : List AccT) (a : Int) (n : Nat) : List AccT := lput l (a, (lim (bal l a - n), (non l a, ())))
abbrev inc (l : List AccT) (a : Int) : List AccT := lput l (a, (lim (bal l a), (non l a + 1, ())))
theorem len_crd (l : List AccT) (a : Int) (n : Nat) : (crd l a n).length ≤ l.length + 1 := len_lput _ _
theorem len_deb (l : List AccT) (a : Int) (n : Nat) : (deb l a n).length ≤ l.length + 1 := len_lput _ _
theorem len_inc (l : List AccT) (a : Int) : (inc l a).length ≤ l.length + 1 := len_lput _ _
theorem sum_crd {l : List AccT} {a : Int} {n : Nat} (hs : Srt l) : sumL (crd l a n) = sumL l + n := by
  have := sum_lput (y := (a, (lim (bal l a + n), (non l a, ())))) hs
  simp only [val4_lim] at this
  have e : bal l a = val4 (lget l a).2.1 := rfl
  unfold crd
  omega
theorem sum_deb {l : List AccT} {a : Int} {n : Nat} (hs : Srt l) (h : n ≤ bal l a) : sumL (deb l a n) + n = sumL l := by
  have := sum_lput (y := (a, (lim (bal l a - n), (non l a, ())))) hs
  simp only [val4_lim] at this
  have e : bal l a = val4 (lget l a).2.1 := rfl
  unfold deb
  have := bal_le l a
  omega
theorem sum_inc {l : List AccT} {a : Int} (hs : Srt l) : sumL (inc l a) = sumL l := by
  have := sum_lput (y := (a, (lim (bal l a), (non l a + 1, ())))) hs
  simp only [val4_lim] at this
  have e : bal l a = val4 (lget l a).2.1 := rfl
  unfold inc
  omega
theorem nz_lput {l : List AccT} {y : AccT} (h : ∀ x ∈ l, x.1 ≠ 0) (hy : y.1 ≠ 0) : ∀ x ∈ lput l y, x.1 ≠ 0 := fun x hx => by
  rcases mem_lput hx with hx | ⟨rfl, _⟩
  · exact h x hx
  · exact hy
theorem LInv.put {l : List AccT} {vs : List Nat} {y : AccT} (h : LInv l vs) (hy : AccW y) (hz : y.1 ≠ 0) (hsum : sumL (lput l y) + vs.sum < 115792089237316195423570985008687907853269984665640564039457584007913129639936) : LInv (lput l y) vs :=
  ⟨srt_lput h.srt, ne_lput h.ne, all_lput h.all hy, nz_lput h.nz hz, h.len, hsum⟩
theorem credit_eq {l : List AccT} {v : List (List Int)} {a : Int} {n : Nat} (hs : Srt l) (ha : AllA l) (hl : l.length ≤ 900000) (hu : U64 a) (hn : B256 n) (hb : B256 (bal l a + n)) :
    sol_ledger_Ledger_credit (some (l, (v, ())), (a, (lim n, ()))) = some ((), (some (crd l a n, (v, ())), ((), ((), ())))) := by
  unfold sol_ledger_Ledger_credit T_ledger_Ledger_credit
  simp only [optR_some]
  rw [get_eq hs (by omega)]
  obtain ⟨e, hb1, hn1⟩ := lget_mk ha hu
  simp only [bind_some', optR_some]
  have e1 : (lget l a).2.1 = lim (bal l a) := by rw [e]
  have e2 : (lget l a).2.2 = (non l a, ()) := by rw [e]
  rw [e1, lget_fst, e2, satAdd_eq hb1 hn, sat_of hb]
  simp only [bind_some']
  rw [set_eq hs hl (AccW.mk hu hb hn1)]
  rfl
theorem debit_ok {l : List AccT} {v : List (List Int)} {a : Int} {n : Nat} (hs : Srt l) (ha : AllA l) (hl : l.length ≤ 900000) (hu : U64 a) (hn : n ≤ bal l a) :
    sol_ledger_Ledger_debit (some (l, (v, ())), (a, (lim n, ()))) = some (((0 : Int), ()), (some (deb l a n, (v, ())), ((), ((), ())))) := by
  unfold sol_ledger_Ledger_debit T_ledger_Ledger_debit
  simp only [optR_some]
  rw [get_eq hs (by omega)]
  obtain ⟨e, hb1, hn1⟩ := lget_mk ha hu
  simp only [bind_some', optR_some]
  have e1 : (lget l a).2.1 = lim (bal l a) := by rw [e]
  have e2 : (lget l a).2.2 = (non l a, ()) := by rw [e]
  rw [e1, lget_fst, e2, uSub_ok hb1 hn]
  simp only [bind_some', brR_not, brR_dec, if_true]
  rw [set_eq hs hl (AccW.mk hu (by unfold B256 at *; omega) hn1)]
  rfl
theorem debit_bad {l : List AccT} {v : List (List Int)} {a : Int} {n : Nat} (hs : Srt l) (ha : AllA l) (hl : l.length ≤ 900000) (hu : U64 a) (hn : bal l a < n) (hB : B256 n) :
    sol_ledger_Ledger_debit (some (l, (v, ())), (a, (lim n, ()))) = some (((10 : Int), ()), (some (l, (v, ())), ((), ((), ())))) := by
  unfold sol_ledger_Ledger_debit T_ledger_Ledger_debit
  simp only [optR_some]
  rw [get_eq hs (by omega)]
  obtain ⟨e, hb1, hn1⟩ := lget_mk ha hu
  simp only [bind_some', optR_some]
  have e1 : (lget l a).2.1 = lim (bal l a) := by rw [e]
  rw [e1, uSub_bad hn hB]
  simp only [bind_some', brR_not, brR_dec]
  rw [if_neg (by decide)]
def mintS (l : List AccT) (vs : List Nat) (a : Int) (n : Nat) : Int × (List AccT × List Nat) :=
  if a = 0 then (2, (l, vs)) else if sumL l + vs.sum + n < 115792089237316195423570985008687907853269984665640564039457584007913129639936 then (0, (crd l a n, vs)) else (4, (l, vs))
def transS (l : List AccT) (vs : List Nat) (a b : Int) (n : Nat) : Int × (List AccT × List Nat) :=
  if a = 0 ∨ b = 0 then (2, (l, vs)) else if n ≤ bal l a then (0, (crd (deb l a n) b n, vs)) else (10, (l, vs))
abbrev vix (v : Int) : Nat := (v - 1).toNat
def payS (l : List AccT) (vs : List Nat) (a v : Int) (n : Nat) : Int × (List AccT × List Nat) :=
  if a = 0 ∨ ¬ (1 ≤ v ∧ v ≤ 4) then (2, (l, vs)) else if n ≤ bal l a then (0, (deb l a n, vs.set (vix v) (vs.getD (vix v) 0 + n))) else (10, (l, vs))
def wdS (l : List AccT) (vs : List Nat) (a : Int) (n : Nat) : Int × (List AccT × List Nat) :=
  if a = 0 then (2, (l, vs)) else if n ≤ bal l a then (0, (deb l a n, vs)) else (10, (l, vs))
def wvS (l : List AccT) (vs : List Nat) (v : Int) (n : Nat) : Int × (List AccT × List Nat) :=
  if 1 ≤ v ∧ v ≤ 4 then (if n ≤ vs.getD (vix v) 0 then (0, (l, vs.set (vix v) (vs.getD (vix v) 0 - n))) else (10, (l, vs))) else (2, (l, vs))
def incS (l : List AccT) (vs : List Nat) (a : Int) : Int × (List AccT × List Nat) :=
  if a = 0 then (2, (l, vs)) else if non l a = 18446744073709551615 then (4, (l, vs)) else (0, (inc l a, vs))
theorem mint_eq {l : List AccT} {vs : List Nat} {a : Int} {n : Nat} (h : LInv l vs) (hl : l.length ≤ 900000) (hu : U64 a) (hn : B256 n) :
    sol_ledger_Ledger_Mint (some (l, (vs.map lim, ())), (a, (lim n, ()))) = some (((mintS l vs a n).1, ()), (some ((mintS l vs a n).2.1, ((mintS l vs a n).2.2.map lim, ())), ((), ((), ())))) := by
  unfold sol_ledger_Ledger_Mint T_ledger_Ledger_Mint mintS
  simp only [optR_some, brR_dec]
  by_cases c : a = 0
  · simp only [if_pos c]
  simp only [if_neg c]
  rw [supply_eq h (by omega)]
  simp only [bind_some', optR_some]
  rw [uAdd_eq h.sum hn]
  simp only [bind_some', brR_not, brR_dec]
  by_cases c2 : sumL l + vs.sum + n < 115792089237316195423570985008687907853269984665640564039457584007913129639936
  · simp only [if_pos c2, if_true]
    rw [credit_eq h.srt h.all hl hu hn (by have := bal_le l a; unfold B256; omega)]
    rfl
  · simp only [if_neg c2]
    rw [if_neg (by decide)]
theorem LInv.deb {l : List AccT} {vs : List Nat} {a : Int} {n : Nat} (h : LInv l vs) (hu : U64 a) (hz : a ≠ 0) (hn : n ≤ bal l a) : LInv (deb l a n) vs := by
  obtain ⟨_, hb1, hn1⟩ := lget_mk h.all hu
  have hs := sum_deb h.srt hn
  have hsum := h.sum
  exact h.put (AccW.mk hu (by unfold B256 at *; omega) hn1) hz (by show sumL (Go.Pon.deb l a n) + _ < _; omega)
theorem transfer_eq {l : List AccT} {vs : List Nat} {a b : Int} {n : Nat} (h : LInv l vs) (hl : l.length ≤ 800000) (hu : U64 a) (hub : U64 b) (hn : B256 n) :
    sol_ledger_Ledger_Transfer (some (l, (vs.map lim, ())), (a, (b, (lim n, ())))) = some (((transS l vs a b n).1, ()), (some ((transS l vs a b n).2.1, ((transS l vs a b n).2.2.map lim, ())), ((), ((), ((), ()))))) := by
  unfold sol_ledger_Ledger_Transfer T_ledger_Ledger_Transfer transS
  simp only [optR_some, brR_dec]
  by_cases c : a = 0
  · simp only [if_pos c, if_pos (show a = 0 ∨ b = 0 from .inl c)]
  by_cases c1 : b = 0
  · simp only [if_neg c, if_pos c1, if_pos (show a = 0 ∨ b = 0 from .inr c1)]
  have c2 : ¬ (a = 0 ∨ b = 0) := by omega
  simp only [if_neg c, if_neg c1, if_neg c2]
  have hsum := h.sum
  by_cases c3 : n ≤ bal l a
  · have hs := sum_deb h.srt c3
    have hla := len_lput l (a, (lim (bal l a - n), (non l a, ())))
    have hi := h.deb hu c c3
    have hle := bal_le (deb l a n) b
    simp only [if_pos c3]
    rw [debit_ok h.srt h.all (by omega) hu c3]
    simp only [bind_some', optR_some, brR_not, brR_dec, if_true]
    rw [credit_eq hi.srt hi.all (by show (lput _ _).length ≤ _; omega) hub hn (by unfold B256; omega)]
    rfl
  · simp only [if_neg c3]
    rw [debit_bad h.srt h.all (by omega) hu (by omega) hn]
    simp only [bind_some', optR_some, brR_not, brR_dec]
    rw [if_neg (by decide)]
theorem isVault_eq (v : Int) : sol_ledger_isVault (v, ()) = some ((decide (1 ≤ v ∧ v ≤ 4), ()), ((), ())) := by
  unfold sol_ledger_isVault T_ledger_isVault
  simp only [brR_dec]
  by_cases h : v ≥ 1
  · rw [if_pos h]
    by_cases h2 : v ≤ 4
    · rw [decide_eq_true h2, decide_eq_true ⟨h, h2⟩]
    · rw [decide_eq_false h2, decide_eq_false fun h => h2 h.2]
  · rw [if_neg h, decide_eq_false fun h2 => h h2.1]
theorem payVault_eq {l : List AccT} {vs : List Nat} {a v : Int} {n : Nat} (h : LInv l vs) (hl : l.length ≤ 800000) (hu : U64 a) (hn : B256 n) (hv : -9223372036854775808 ≤ v ∧ v ≤ 9223372036854775807) :
    sol_ledger_Ledger_PayVault (some (l, (vs.map lim, ())), (a, (v, (lim n, ())))) = some (((payS l vs a v n).1, ()), (some ((payS l vs a v n).2.1, ((payS l vs a v n).2.2.map lim, ())), ((), ((), ((), ()))))) := by
  unfold sol_ledger_Ledger_PayVault T_ledger_Ledger_PayVault payS
  simp only [letR_eq, optR_some, brR_dec]
  by_cases c : a = 0
  · simp only [if_pos c, if_pos (show a = 0 ∨ ¬ (1 ≤ v ∧ v ≤ 4) from .inl c)]
  rw [if_neg c, isVault_eq]
  simp only [bind_some', brR_not, brR_dec]
  by_cases c1 : 1 ≤ v ∧ v ≤ 4
  case neg => simp only [if_neg c1, if_pos (show a = 0 ∨ ¬ (1 ≤ v ∧ v ≤ 4) from .inr c1)]
  have c2 : ¬ (a = 0 ∨ ¬ (1 ≤ v ∧ v ≤ 4)) := fun h => h.elim c (fun h => h c1)
  simp only [if_pos c1, if_neg c2]
  have hsum := h.sum
  have hlen := h.len
  by_cases c3 : n ≤ bal l a
  · simp only [if_pos c3]
    rw [debit_ok h.srt h.all (by omega) hu c3]
    simp only [bind_some', optR_some, brR_not, brR_dec, if_true, brR_inR]
    have hw : IntKind.wrap .i64 (v - 1) = v - 1 := w_i64 (by omega) (by omega)
    have hx : (v - 1).toNat = vix v := rfl
    rw [hw, hx, if_pos (by omega), vget_eq]
    have hg := vget_le vs (vix v)
    have hbl := bal_le l a
    rw [satAdd_eq (by unfold B256; omega) hn, sat_of (by omega)]
    simp only [bind_some']
    rw [if_pos (by omega), ← List.map_set]
  · simp only [if_neg c3]
    rw [debit_bad h.srt h.all (by omega) hu (by omega) hn]
    simp only [bind_some', optR_some, brR_not, brR_dec]
    rw [if_neg (by decide)]
theorem balance_eq {l : List AccT} {v : List (List Int)} {a : Int} (hs : Srt l) (hl : l.length ≤ 1000000) : sol_ledger_Ledger_Balance (some (l, (v, ())), (a, ())) = some (((lget l a).2.1, ()), (some (l, (v, ())), ((), ()))) := by
  unfold sol_ledger_Ledger_Balance T_ledger_Ledger_Balance
  simp only [optR_some]
  rw [get_eq hs hl]; rfl
abbrev vaultAt (vs : List Nat) (v : Int) : Nat := if 1 ≤ v ∧ v ≤ 4 then vs.getD (vix v) 0 else 0
theorem vault_eq {l : List AccT} {vs : List Nat} {v : Int} (hlen : vs.length = 4) (hv : -9223372036854775808 ≤ v ∧ v ≤ 9223372036854775807) :
    sol_ledger_Ledger_Vault (some (l, (vs.map lim, ())), (v, ())) = some ((lim (vaultAt vs v), ()), (some (l, (vs.map lim, ())), ((), ()))) := by
  unfold sol_ledger_Ledger_Vault T_ledger_Ledger_Vault
  simp only [letR_eq, optR_some]
  rw [isVault_eq]
  simp only [bind_some', brR_not, brR_dec, brR_inR]
  unfold vaultAt
  by_cases c1 : 1 ≤ v ∧ v ≤ 4
  case neg => simp only [if_neg c1]; rfl
  have hw : IntKind.wrap .i64 (v - 1) = v - 1 := w_i64 (by omega) (by omega)
  have hx : (v - 1).toNat = vix v := rfl
  simp only [if_pos c1]
  rw [hw, hx, if_pos (by omega), vget_eq]
theorem accounts_eq {l : List AccT} {v : List (List Int)} (hl : l.length ≤ 1000000) : sol_ledger_Ledger_Accounts (some (l, (v, ())), ()) = some ((l, ()), (some (l, (v, ())), ())) := by
  unfold sol_ledger_Ledger_Accounts T_ledger_Ledger_Accounts
  simp only [optR_some]
  rw [cloneA_eq hl]; rfl
theorem vaults_eq {l : List AccT} {v : List (List Int)} : sol_ledger_Ledger_Vaults (some (l, (v, ())), ()) = some ((v, ()), (some (l, (v, ())), ())) := rfl
def okA (l : List AccT) (i : Nat) : Prop := (l.getD i zAcc).1 ≠ 0 ∧ ¬ isE (l.getD i zAcc) ∧ (0 < i → (l.getD (i - 1) zAcc).1 < (l.getD i zAcc).1)
def VA (l : List AccT) : Prop := ∀ i, i < l.length → okA l i
theorem VA.srt {l : List AccT} (h : VA l) : Srt l := by
  refine List.pairwise_iff_getElem.2 fun i j hi hj hij => ?_
  have key : ∀ d, i + 1 + d < l.length → (l.getD i zAcc).1 < (l.getD (i + 1 + d) zAcc).1 := by
    intro d
    induction d with
    | zero => intro hd; exact (h (i + 1) (by omega)).2.2 (by omega)
    | succ d ih =>
      intro hd
      have h1 := ih (by omega)
      have h2 := (h (i + 1 + (d + 1)) hd).2.2 (by omega)
      rw [show i + 1 + (d + 1) - 1 = i + 1 + d by omega] at h2
      omega
  have := key (j - i - 1) (by omega)
  rw [show i + 1 + (j - i - 1) = j by omega, List.getD_eq_getElem?_getD, List.getElem?_eq_getElem hi, List.getD_eq_getElem?_getD, List.getElem?_eq_getElem hj] at this
  exact this
theorem mem_getD {l : List AccT} {x : AccT} (h : x ∈ l) : ∃ i, i < l.length ∧ l.getD i zAcc = x := by
  obtain ⟨i, hi, rfl⟩ := List.getElem_of_mem h
  exact ⟨i, hi, by rw [List.getD_eq_getElem?_getD, List.getElem?_eq_getElem hi]; rfl⟩
theorem VA.ne {l : List AccT} (h : VA l) : NE l := fun x hx => by
  obtain ⟨i, hi, rfl⟩ := mem_getD hx
  exact (h i hi).2.1
theorem VA.nz {l : List AccT} (h : VA l) : ∀ x ∈ l, x.1 ≠ 0 := fun x hx => by
  obtain ⟨i, hi, rfl⟩ := mem_getD hx
  exact (h i hi).1
open Classical in
noncomputable def loadA (l : List AccT) (vs : List Nat) : Option (List AccT × (List (List Int) × Unit)) × (Int × Unit) :=
  if VA l then (if sumL l + vs.sum < 115792089237316195423570985008687907853269984665640564039457584007913129639936 then (some (l, (vs.map lim, ())), ((0 : Int), ())) else (none, ((4 : Int), ()))) else (none, ((2 : Int), ()))
theorem load_loop2 {l : List AccT} {vs : List Nat} {s : Nat} (hl : l.length ≤ 1000000) (hlen : vs.length = 4) (hb : ∀ n ∈ vs, B256 n) (hs : B256 s) :
    bigLoop _ _ (fun again x => T_ledger_Load_loop2 sol_uint256_Add sol_slices_Clone_api_Account_api_Account again x.1 x.2.1 x.2.2.1 x.2.2.2.1 x.2.2.2.2.1) (l, (vs.map lim, (lim s, (vs.map lim, ((0 : Int), ()))))) =
      some ((if s + vs.sum < 115792089237316195423570985008687907853269984665640564039457584007913129639936 then (some (l, (vs.map lim, ())), ((0 : Int), ())) else (none, ((4 : Int), ()))), ((), ((), ()))) := by
  refine bigLoop_rule (I := fun x => ∃ i : Nat, i ≤ 4 ∧ s + (vs.take i).sum < 115792089237316195423570985008687907853269984665640564039457584007913129639936 ∧ x = (l, (vs.map lim, (lim (s + (vs.take i).sum), (vs.map lim, (((i : Nat) : Int), ())))))) (m := fun x => ((4 : Int) - x.2.2.2.2.1).toNat)
    (g := fun _ => some ((if s + vs.sum < 115792089237316195423570985008687907853269984665640564039457584007913129639936 then (some (l, (vs.map lim, ())), ((0 : Int), ())) else (none, ((4 : Int), ()))), ((), ((), ())))) ?_
    ⟨0, by omega, by unfold B256 at hs; simpa using hs, by simp⟩ (by rw [bigN_eq]; simp only; omega)
  rintro x again ⟨i, hi, hsi, rfl⟩ hag
  simp only at hag ⊢
  unfold T_ledger_Load_loop2
  simp only [brR_dec, brR_inR, brR_not]
  by_cases h : ((i : Nat) : Int) < 4
  · have hm : vs.getD i 0 ∈ vs := getD_mem (by omega)
    have ht : (vs.take (i + 1)).sum = (vs.take i).sum + vs.getD i 0 := by rw [take_succ' (d := 0) (by omega), List.sum_append, List.sum_singleton]
    have hle : (vs.take (i + 1)).sum ≤ vs.sum := by
      have : (vs.take (i + 1) ++ vs.drop (i + 1)).sum = vs.sum := by rw [List.take_append_drop]
      rw [List.sum_append] at this; omega
    rw [if_pos h, if_pos (by omega), Int.toNat_natCast, vget_eq, uAdd_eq hsi (hb _ hm)]
    simp only [bind_some']
    by_cases c : s + (vs.take i).sum + vs.getD i 0 < 115792089237316195423570985008687907853269984665640564039457584007913129639936
    · simp only [if_pos c, if_true]
      rw [w_i64 (by omega) (by omega)]
      exact hag _ ⟨i + 1, by omega, by omega, by rw [ht, Nat.add_assoc, Int.natCast_add]; rfl⟩ (by simp only; omega)
    · simp only [if_neg c]
      rw [if_neg (by decide), if_neg (by omega)]
  · rw [List.take_of_length_le (by omega)] at hsi
    rw [if_neg h, if_pos hsi, cloneA_eq hl]
    rfl
theorem load_loop1 {l : List AccT} {vs : List Nat} (ha : AllA l) (hl : l.length ≤ 1000000) (hlen : vs.length = 4) (hb : ∀ n ∈ vs, B256 n) :
    bigLoop _ _ (fun again x => T_ledger_Load_loop1 bigLoop sol_uint256_Add sol_slices_Clone_api_Account_api_Account again x.1 x.2.1 x.2.2.1 x.2.2.2.1 x.2.2.2.2.1 x.2.2.2.2.2.1) (l, (vs.map lim, ([(0 : Int), (0 : Int), (0 : Int), (0 : Int)], (l, (((l.length : Nat) : Int), ((0 : Int), ())))))) =
      some ((if sumL l + vs.sum < 115792089237316195423570985008687907853269984665640564039457584007913129639936 then (some (l, (vs.map lim, ())), ((0 : Int), ())) else (none, ((4 : Int), ()))), ((), ((), ()))) := by
  refine bigLoop_rule (I := fun x => ∃ i : Nat, i ≤ l.length ∧ sumL (l.take i) < 115792089237316195423570985008687907853269984665640564039457584007913129639936 ∧ x = (l, (vs.map lim, (lim (sumL (l.take i)), (l, (((l.length : Nat) : Int), (((i : Nat) : Int), ()))))))) (m := fun x => (((l.length : Nat) : Int) - x.2.2.2.2.2.1).toNat)
    (g := fun _ => some ((if sumL l + vs.sum < 115792089237316195423570985008687907853269984665640564039457584007913129639936 then (some (l, (vs.map lim, ())), ((0 : Int), ())) else (none, ((4 : Int), ()))), ((), ((), ())))) ?_
    ⟨0, by omega, by rw [List.take_zero, sumL_nil]; decide, by rw [List.take_zero, sumL_nil, lim_zero]; rfl⟩ (by rw [bigN_eq]; simp only; omega)
  rintro x again ⟨i, hi, hsi, rfl⟩ hag
  simp only at hag ⊢
  unfold T_ledger_Load_loop1
  rw [zA_eq]
  simp only [brR_dec, brR_inR, brR_not]
  by_cases h : ((i : Nat) : Int) < ((l.length : Nat) : Int)
  · have ht : sumL (l.take (i + 1)) = sumL (l.take i) + val4 (l.getD i zAcc).2.1 := by
      rw [take_succ' (d := zAcc) (by omega), sumL_append, sumL_cons, sumL_nil, Nat.add_zero]
    have hle : sumL (l.take (i + 1)) ≤ sumL l := by
      have : sumL (l.take (i + 1) ++ l.drop (i + 1)) = sumL l := by rw [List.take_append_drop]
      rw [sumL_append] at this; omega
    rw [if_pos h, if_pos (by omega), Int.toNat_natCast]
    have hw := ha.at i
    generalize l.getD i zAcc = y at hw ht ⊢
    obtain ⟨h1, h2, h3⟩ := hw
    rename_i a b n
    simp only at ht ⊢
    rw [val4_lim] at ht
    rw [uAdd_eq hsi h2]
    simp only [bind_some']
    by_cases c : sumL (l.take i) + b < 115792089237316195423570985008687907853269984665640564039457584007913129639936
    · simp only [if_pos c, if_true]
      rw [w_i64 (by omega) (by omega), ← ht]
      exact hag _ ⟨i + 1, by omega, by omega, by rw [Int.natCast_add]; rfl⟩ (by simp only; omega)
    · simp only [if_neg c]
      rw [if_neg (by decide), if_neg (by omega)]
  · rw [List.take_of_length_le (by omega)] at hsi ⊢
    rw [if_neg h]
    exact load_loop2 hl hlen hb hsi
theorem load_eq {l : List AccT} {vs : List Nat} (ha : AllA l) (hl : l.length ≤ 1000000) (hlen : vs.length = 4) (hb : ∀ n ∈ vs, B256 n) :
    sol_ledger_Load (l, (vs.map lim, ())) = some (loadA l vs, ((), ((), ()))) := by
  unfold sol_ledger_Load T_ledger_Load
  refine bigLoop_rule (I := fun x => ∃ i : Nat, i ≤ l.length ∧ (∀ j, j < i → okA l j) ∧ x = (l, (vs.map lim, (l, (((l.length : Nat) : Int), (((i : Nat) : Int), ())))))) (m := fun x => (((l.length : Nat) : Int) - x.2.2.2.2.1).toNat)
    (g := fun _ => some (loadA l vs, ((), ((), ())))) ?_
    ⟨0, by omega, fun j hj => by omega, rfl⟩ (by rw [bigN_eq]; simp only; omega)
  rintro x again ⟨i, hi, hok, rfl⟩ hag
  simp only at hag ⊢
  unfold T_ledger_Load_loop0
  rw [zA_eq]
  simp only [letR_eq, brR_dec, brR_inR, brR_not]
  by_cases h : ((i : Nat) : Int) < ((l.length : Nat) : Int)
  · have hil : i < l.length := by omega
    have ii : (0 : Int) ≤ ((i : Nat) : Int) ∧ ((i : Nat) : Int) < ((l.length : Nat) : Int) := by omega
    have bad : ¬ okA l i → loadA l vs = (none, ((2 : Int), ())) := fun h => if_neg fun hv => h (hv i hil)
    have hnx : okA l i → again (l, (vs.map lim, (l, (((l.length : Nat) : Int), (((i : Nat) : Int) + 1, ()))))) = some (loadA l vs, ((), ((), ()))) := fun h =>
      hag _ ⟨i + 1, by omega, fun j hj => by
        by_cases e : j = i
        · rw [e]; exact h
        · exact hok j (by omega), by rw [Int.natCast_add]; rfl⟩ (by simp only; omega)
    clear hag
    have hwi : IntKind.wrap .i64 (((i : Nat) : Int) + 1) = ((i : Nat) : Int) + 1 := w_i64 (by omega) (by omega)
    have hwj : IntKind.wrap .i64 (((i : Nat) : Int) - 1) = ((i : Nat) : Int) - 1 := w_i64 (by omega) (by omega)
    have htj : (((i : Nat) : Int) - 1).toNat = i - 1 := by omega
    simp only [if_pos h, if_pos ii, hwi, hwj, htj, Int.toNat_natCast]
    rw [isEmpty_eq (ha.at i)]
    simp only [bind_some', brR_dec]
    unfold okA at bad hnx
    by_cases c1 : (l.getD i zAcc).1 = 0
    · rw [if_pos c1, bad fun h => h.1 c1]
    rw [if_neg c1]
    by_cases c2 : isE (l.getD i zAcc)
    · rw [if_pos c2, bad fun h => h.2.1 c2]
    rw [if_neg c2]
    by_cases c3 : ((i : Nat) : Int) > 0
    · rw [if_pos c3, if_pos (by omega)]
      by_cases c4 : (l.getD i zAcc).1 ≤ (l.getD (i - 1) zAcc).1
      · rw [if_pos c4, bad fun h => by have := h.2.2 (by omega); omega]
      · rw [if_neg c4]
        exact hnx ⟨c1, c2, fun _ => by omega⟩
    · rw [if_neg c3]
      exact hnx ⟨c1, c2, fun _ => by omega⟩
  · have hva : VA l := fun j hj => hok j (by omega)
    rw [if_neg h]
    unfold loadA
    rw [if_pos hva]
    exact load_loop1 ha hl hlen hb
end Go.Pon
