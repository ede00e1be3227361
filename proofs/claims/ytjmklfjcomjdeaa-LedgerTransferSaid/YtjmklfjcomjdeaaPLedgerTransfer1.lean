/-
  Part of a proof: general lemmas, merged by a program of this work.
-/
import Derived.Test.YtjmklfjcomjdeaaF3
set_option autoImplicit false
set_option linter.unusedVariables false
set_option maxRecDepth 100000
namespace Go.Pon
open Go
abbrev s_cmp_isNaN_api_Address : Sig := ⟨[(.ro true (.int .u64))], [(.ro true .bool)]⟩
abbrev F_cmp_isNaN_api_Address := (Int × Unit) → Option ((Bool × Unit) × (Unit × Unit))
noncomputable def T_cmp_isNaN_api_Address (L : LoopD) (x_ : Int) : Option ((Bool × Unit) × (Unit × Unit)) := (some (((!(decide (x_ = x_))), ()), ((), ())))
noncomputable def sol_cmp_isNaN_api_Address : F_cmp_isNaN_api_Address := fun x => T_cmp_isNaN_api_Address bigLoop x.1
abbrev s_cmp_Compare_api_Address : Sig := ⟨[(.ro true (.int .u64)), (.ro true (.int .u64))], [(.ro true (.int .i64))]⟩
abbrev F_cmp_Compare_api_Address := (Int × (Int × Unit)) → Option ((Int × Unit) × (Unit × (Unit × Unit)))
noncomputable def T_cmp_Compare_api_Address (L : LoopD) (c_cmp_isNaN_api_Address : F_cmp_isNaN_api_Address) (x_ : Int) (y_ : Int) : Option ((Int × Unit) × (Unit × (Unit × Unit))) := (Option.bind (c_cmp_isNaN_api_Address (x_, ())) (fun (y_0 : ((Bool × Unit) × (Unit × Unit))) => (Option.bind (c_cmp_isNaN_api_Address (y_, ())) (fun (y_1 : ((Bool × Unit) × (Unit × Unit))) => (brR y_0.1.1 (brR y_1.1.1 (some (((0 : Int), ()), ((), ((), ())))) (some (((-1 : Int), ()), ((), ((), ()))))) (brR y_1.1.1 (some (((1 : Int), ()), ((), ((), ())))) (brR (decide (x_ < y_)) (some (((-1 : Int), ()), ((), ((), ())))) (brR (decide (x_ > y_)) (some (((1 : Int), ()), ((), ((), ())))) (some (((0 : Int), ()), ((), ((), ()))))))))))))
noncomputable def sol_cmp_Compare_api_Address : F_cmp_Compare_api_Address := fun x => T_cmp_Compare_api_Address bigLoop sol_cmp_isNaN_api_Address x.1 x.2.1
end Go.Pon
set_option autoImplicit false
set_option linter.unusedVariables false
set_option maxRecDepth 100000
namespace Go.Pon
open Go
abbrev s_law0_Mod : Sig := ⟨[(.ro true (.int .i64)), (.ro true (.int .i64))], [(.ro true (.int .i64))]⟩
abbrev F_law0_Mod := (Int × (Int × Unit)) → Option ((Int × Unit) × (Unit × (Unit × Unit)))
noncomputable def T_law0_Mod (L : LoopD) (x_ : Int) (n_ : Int) : Option ((Int × Unit) × (Unit × (Unit × Unit))) := (brR (decide ((IntKind.wrap (IntKind.u64) n_) ≠ (0 : Int))) (some (((IntKind.wrap (IntKind.i64) (Int.tmod (IntKind.wrap (IntKind.u64) x_) (IntKind.wrap (IntKind.u64) n_))), ()), ((), ((), ())))) none)
noncomputable def sol_law0_Mod : F_law0_Mod := fun x => T_law0_Mod bigLoop x.1 x.2.1
end Go.Pon
set_option autoImplicit false
set_option linter.unusedVariables false
set_option maxRecDepth 100000
namespace Go.Pon
open Go
abbrev s_slices_Delete_api_Account_api_Account : Sig := ⟨[(.own false (.pair (.int .u64) (.pair (.arr 4 (.int .u64)) (.pair (.int .u64) .unit)))), (.ro true (.int .i64)), (.ro true (.int .i64))], [(.own false (.pair (.int .u64) (.pair (.arr 4 (.int .u64)) (.pair (.int .u64) .unit))))]⟩
abbrev F_slices_Delete_api_Account_api_Account := ((List (Int × ((List Int) × (Int × Unit)))) × (Int × (Int × (Unit)))) → Option (((List (Int × ((List Int) × (Int × Unit)))) × (Unit)) × (Unit × (Unit × (Unit × (Unit)))))
noncomputable def T_slices_Delete_api_Account_api_Account (L : LoopD) (s_ : (List (Int × ((List Int) × (Int × Unit))))) (i_ : Int) (j_ : Int) : Option (((List (Int × ((List Int) × (Int × Unit)))) × (Unit)) × (Unit × (Unit × (Unit × (Unit))))) := delF (.pair (.int .u64) (.pair (.arr 4 (.int .u64)) (.pair (.int .u64) .unit))) (s_, (i_, (j_, (()))))
noncomputable def sol_slices_Delete_api_Account_api_Account : F_slices_Delete_api_Account_api_Account := fun x => T_slices_Delete_api_Account_api_Account bigLoop x.1 x.2.1 x.2.2.1
abbrev s_slices_Insert_api_Account_api_Account : Sig := ⟨[(.own false (.pair (.int .u64) (.pair (.arr 4 (.int .u64)) (.pair (.int .u64) .unit)))), (.ro true (.int .i64)), (.own false (.pair (.int .u64) (.pair (.arr 4 (.int .u64)) (.pair (.int .u64) .unit))))], [(.own false (.pair (.int .u64) (.pair (.arr 4 (.int .u64)) (.pair (.int .u64) .unit))))]⟩
abbrev F_slices_Insert_api_Account_api_Account := ((List (Int × ((List Int) × (Int × Unit)))) × (Int × ((List (Int × ((List Int) × (Int × Unit)))) × (Unit)))) → Option (((List (Int × ((List Int) × (Int × Unit)))) × (Unit)) × (Unit × (Unit × (Unit × (Unit)))))
noncomputable def T_slices_Insert_api_Account_api_Account (L : LoopD) (s_ : (List (Int × ((List Int) × (Int × Unit))))) (i_ : Int) (v_ : (List (Int × ((List Int) × (Int × Unit))))) : Option (((List (Int × ((List Int) × (Int × Unit)))) × (Unit)) × (Unit × (Unit × (Unit × (Unit))))) := insF (.pair (.int .u64) (.pair (.arr 4 (.int .u64)) (.pair (.int .u64) .unit))) (s_, (i_, (v_, (()))))
noncomputable def sol_slices_Insert_api_Account_api_Account : F_slices_Insert_api_Account_api_Account := fun x => T_slices_Insert_api_Account_api_Account bigLoop x.1 x.2.1 x.2.2.1
end Go.Pon
set_option autoImplicit false
set_option linter.unusedVariables false
set_option maxRecDepth 100000
namespace Go.Pon
open Go
abbrev s_math_bits_Add64 : Sig := ⟨[(.ro true (.int .u64)), (.ro true (.int .u64)), (.ro true (.int .u64))], [(.ro true (.int .u64)), (.ro true (.int .u64))]⟩
abbrev F_math_bits_Add64 := (Int × (Int × (Int × (Unit)))) → Option ((Int × (Int × (Unit))) × (Unit × (Unit × (Unit × (Unit)))))
noncomputable def T_math_bits_Add64 (L : LoopD) (x_ : Int) (y_ : Int) (c_ : Int) : Option ((Int × (Int × (Unit))) × (Unit × (Unit × (Unit × (Unit))))) := addC (x_, (y_, (c_, (()))))
noncomputable def sol_math_bits_Add64 : F_math_bits_Add64 := fun x => T_math_bits_Add64 bigLoop x.1 x.2.1 x.2.2.1
abbrev s_math_bits_Sub64 : Sig := ⟨[(.ro true (.int .u64)), (.ro true (.int .u64)), (.ro true (.int .u64))], [(.ro true (.int .u64)), (.ro true (.int .u64))]⟩
abbrev F_math_bits_Sub64 := (Int × (Int × (Int × (Unit)))) → Option ((Int × (Int × (Unit))) × (Unit × (Unit × (Unit × (Unit)))))
noncomputable def T_math_bits_Sub64 (L : LoopD) (x_ : Int) (y_ : Int) (c_ : Int) : Option ((Int × (Int × (Unit))) × (Unit × (Unit × (Unit × (Unit))))) := subC (x_, (y_, (c_, (()))))
noncomputable def sol_math_bits_Sub64 : F_math_bits_Sub64 := fun x => T_math_bits_Sub64 bigLoop x.1 x.2.1 x.2.2.1
end Go.Pon
set_option autoImplicit false
set_option linter.unusedVariables false
set_option maxRecDepth 100000
namespace Go.Pon
open Go
abbrev s_uint256_Add : Sig := ⟨[(.ro true (.arr 4 (.int .u64))), (.ro true (.arr 4 (.int .u64)))], [(.ro true (.arr 4 (.int .u64))), (.ro true (.int .i64))]⟩
abbrev F_uint256_Add := ((List Int) × ((List Int) × Unit)) → Option (((List Int) × (Int × Unit)) × (Unit × (Unit × Unit)))
noncomputable def T_uint256_Add_loop0 (c_math_bits_Add64 : F_math_bits_Add64) (again_0 : ((List Int) × ((List Int) × ((List Int) × ((List Int) × (Int × (Int × Unit)))))) → Option (((List Int) × (Int × Unit)) × (Unit × (Unit × Unit)))) (a_1 : (List Int)) (b_2 : (List Int)) (t4_3 : (List Int)) (s_4 : (List Int)) (c_5 : Int) (t9_6 : Int) : Option (((List Int) × (Int × Unit)) × (Unit × (Unit × Unit))) := (brR (decide (t9_6 < (4 : Int))) (brR (inR t9_6 (4 : Nat)) (brR (inR t9_6 (4 : Nat)) (Option.bind (c_math_bits_Add64 ((List.getD a_1 (Int.toNat t9_6) (0 : Int)), ((List.getD b_2 (Int.toNat t9_6) (0 : Int)), (c_5, ())))) (fun (y_7 : ((Int × (Int × Unit)) × (Unit × (Unit × (Unit × Unit))))) => (brR (inR t9_6 (4 : Nat)) (again_0 (a_1, (b_2, (t4_3, ((List.set s_4 (Int.toNat t9_6) y_7.1.1), (y_7.1.2.1, ((IntKind.wrap (IntKind.i64) (t9_6 + (1 : Int))), ()))))))) none))) none) none) (brR (!(decide (c_5 = (0 : Int)))) (some (([(0 : Int), (0 : Int), (0 : Int), (0 : Int)], ((4 : Int), ())), ((), ((), ())))) (some ((s_4, ((0 : Int), ())), ((), ((), ()))))))
noncomputable def T_uint256_Add (L : LoopD) (c_math_bits_Add64 : F_math_bits_Add64) (a_ : (List Int)) (b_ : (List Int)) : Option (((List Int) × (Int × Unit)) × (Unit × (Unit × Unit))) := (L _ _ (fun again x => T_uint256_Add_loop0 c_math_bits_Add64 again x.1 x.2.1 x.2.2.1 x.2.2.2.1 x.2.2.2.2.1 x.2.2.2.2.2.1) (a_, (b_, ([(0 : Int), (0 : Int), (0 : Int), (0 : Int)], ([(0 : Int), (0 : Int), (0 : Int), (0 : Int)], ((0 : Int), ((0 : Int), ())))))))
noncomputable def sol_uint256_Add : F_uint256_Add := fun x => T_uint256_Add bigLoop sol_math_bits_Add64 x.1 x.2.1
abbrev s_uint256_maxValue : Sig := ⟨[], [(.ro true (.arr 4 (.int .u64)))]⟩
abbrev F_uint256_maxValue := Unit → Option (((List Int) × Unit) × Unit)
noncomputable def T_uint256_maxValue (L : LoopD) : Option (((List Int) × Unit) × Unit) := (some (([(18446744073709551615 : Int), (18446744073709551615 : Int), (18446744073709551615 : Int), (18446744073709551615 : Int)], ()), ()))
noncomputable def sol_uint256_maxValue : F_uint256_maxValue := fun x => T_uint256_maxValue bigLoop
abbrev s_uint256_SaturatingAdd : Sig := ⟨[(.ro true (.arr 4 (.int .u64))), (.ro true (.arr 4 (.int .u64)))], [(.ro true (.arr 4 (.int .u64)))]⟩
abbrev F_uint256_SaturatingAdd := ((List Int) × ((List Int) × Unit)) → Option (((List Int) × Unit) × (Unit × (Unit × Unit)))
noncomputable def T_uint256_SaturatingAdd (L : LoopD) (c_uint256_Add : F_uint256_Add) (c_uint256_maxValue : F_uint256_maxValue) (a_ : (List Int)) (b_ : (List Int)) : Option (((List Int) × Unit) × (Unit × (Unit × Unit))) := (Option.bind (c_uint256_Add (a_, (b_, ()))) (fun (y_0 : (((List Int) × (Int × Unit)) × (Unit × (Unit × Unit)))) => (brR (decide (y_0.1.2.1 = (0 : Int))) (some ((y_0.1.1, ()), ((), ((), ())))) (Option.bind (c_uint256_maxValue ()) (fun (y_1 : (((List Int) × Unit) × Unit)) => (some ((y_1.1.1, ()), ((), ((), ())))))))))
noncomputable def sol_uint256_SaturatingAdd : F_uint256_SaturatingAdd := fun x => T_uint256_SaturatingAdd bigLoop sol_uint256_Add sol_uint256_maxValue x.1 x.2.1
abbrev s_uint256_Sub : Sig := ⟨[(.ro true (.arr 4 (.int .u64))), (.ro true (.arr 4 (.int .u64)))], [(.ro true (.arr 4 (.int .u64))), (.ro true (.int .i64))]⟩
abbrev F_uint256_Sub := ((List Int) × ((List Int) × Unit)) → Option (((List Int) × (Int × Unit)) × (Unit × (Unit × Unit)))
noncomputable def T_uint256_Sub_loop0 (c_math_bits_Sub64 : F_math_bits_Sub64) (again_0 : ((List Int) × ((List Int) × ((List Int) × ((List Int) × (Int × (Int × Unit)))))) → Option (((List Int) × (Int × Unit)) × (Unit × (Unit × Unit)))) (a_1 : (List Int)) (b_2 : (List Int)) (t4_3 : (List Int)) (s_4 : (List Int)) (c_5 : Int) (t9_6 : Int) : Option (((List Int) × (Int × Unit)) × (Unit × (Unit × Unit))) := (brR (decide (t9_6 < (4 : Int))) (brR (inR t9_6 (4 : Nat)) (brR (inR t9_6 (4 : Nat)) (Option.bind (c_math_bits_Sub64 ((List.getD a_1 (Int.toNat t9_6) (0 : Int)), ((List.getD b_2 (Int.toNat t9_6) (0 : Int)), (c_5, ())))) (fun (y_7 : ((Int × (Int × Unit)) × (Unit × (Unit × (Unit × Unit))))) => (brR (inR t9_6 (4 : Nat)) (again_0 (a_1, (b_2, (t4_3, ((List.set s_4 (Int.toNat t9_6) y_7.1.1), (y_7.1.2.1, ((IntKind.wrap (IntKind.i64) (t9_6 + (1 : Int))), ()))))))) none))) none) none) (brR (!(decide (c_5 = (0 : Int)))) (some (([(0 : Int), (0 : Int), (0 : Int), (0 : Int)], ((4 : Int), ())), ((), ((), ())))) (some ((s_4, ((0 : Int), ())), ((), ((), ()))))))
noncomputable def T_uint256_Sub (L : LoopD) (c_math_bits_Sub64 : F_math_bits_Sub64) (a_ : (List Int)) (b_ : (List Int)) : Option (((List Int) × (Int × Unit)) × (Unit × (Unit × Unit))) := (L _ _ (fun again x => T_uint256_Sub_loop0 c_math_bits_Sub64 again x.1 x.2.1 x.2.2.1 x.2.2.2.1 x.2.2.2.2.1 x.2.2.2.2.2.1) (a_, (b_, ([(0 : Int), (0 : Int), (0 : Int), (0 : Int)], ([(0 : Int), (0 : Int), (0 : Int), (0 : Int)], ((0 : Int), ((0 : Int), ())))))))
noncomputable def sol_uint256_Sub : F_uint256_Sub := fun x => T_uint256_Sub bigLoop sol_math_bits_Sub64 x.1 x.2.1
abbrev s_uint256_Cmp : Sig := ⟨[(.ro true (.arr 4 (.int .u64))), (.ro true (.arr 4 (.int .u64)))], [(.ro true (.int .i64))]⟩
abbrev F_uint256_Cmp := ((List Int) × ((List Int) × Unit)) → Option ((Int × Unit) × (Unit × (Unit × Unit)))
noncomputable def T_uint256_Cmp_loop0 (again_0 : ((List Int) × ((List Int) × (Int × Unit))) → Option ((Int × Unit) × (Unit × (Unit × Unit)))) (a_1 : (List Int)) (b_2 : (List Int)) (i_3 : Int) : Option ((Int × Unit) × (Unit × (Unit × Unit))) := (brR (decide (i_3 ≥ (0 : Int))) (brR (inR i_3 (4 : Nat)) (brR (inR i_3 (4 : Nat)) (brR (decide ((List.getD a_1 (Int.toNat i_3) (0 : Int)) < (List.getD b_2 (Int.toNat i_3) (0 : Int)))) (some (((-1 : Int), ()), ((), ((), ())))) (brR (inR i_3 (4 : Nat)) (brR (inR i_3 (4 : Nat)) (brR (decide ((List.getD a_1 (Int.toNat i_3) (0 : Int)) > (List.getD b_2 (Int.toNat i_3) (0 : Int)))) (some (((1 : Int), ()), ((), ((), ())))) (again_0 (a_1, (b_2, ((IntKind.wrap (IntKind.i64) (i_3 - (1 : Int))), ()))))) none) none)) none) none) (some (((0 : Int), ()), ((), ((), ())))))
noncomputable def T_uint256_Cmp (L : LoopD) (a_ : (List Int)) (b_ : (List Int)) : Option ((Int × Unit) × (Unit × (Unit × Unit))) := (L _ _ (fun again x => T_uint256_Cmp_loop0 again x.1 x.2.1 x.2.2.1) (a_, (b_, ((3 : Int), ()))))
noncomputable def sol_uint256_Cmp : F_uint256_Cmp := fun x => T_uint256_Cmp bigLoop x.1 x.2.1
abbrev s_uint256_SaturatingSub : Sig := ⟨[(.ro true (.arr 4 (.int .u64))), (.ro true (.arr 4 (.int .u64)))], [(.ro true (.arr 4 (.int .u64)))]⟩
abbrev F_uint256_SaturatingSub := ((List Int) × ((List Int) × Unit)) → Option (((List Int) × Unit) × (Unit × (Unit × Unit)))
noncomputable def T_uint256_SaturatingSub (L : LoopD) (c_uint256_Sub : F_uint256_Sub) (a_ : (List Int)) (b_ : (List Int)) : Option (((List Int) × Unit) × (Unit × (Unit × Unit))) := (Option.bind (c_uint256_Sub (a_, (b_, ()))) (fun (y_0 : (((List Int) × (Int × Unit)) × (Unit × (Unit × Unit)))) => (some ((y_0.1.1, ()), ((), ((), ()))))))
noncomputable def sol_uint256_SaturatingSub : F_uint256_SaturatingSub := fun x => T_uint256_SaturatingSub bigLoop sol_uint256_Sub x.1 x.2.1
end Go.Pon
set_option autoImplicit false
set_option linter.unusedVariables false
set_option maxRecDepth 100000
namespace Go.Pon
open Go
abbrev s_ledger_New : Sig := ⟨[], [(.ptr (.pair (.own false (.pair (.int .u64) (.pair (.arr 4 (.int .u64)) (.pair (.int .u64) .unit)))) (.pair (.ro true (.arr 4 (.arr 4 (.int .u64)))) (.ro true .unit))))]⟩
abbrev F_ledger_New := Unit → Option ((((List (Int × ((List Int) × (Int × Unit)))) × ((List (List Int)) × Unit)) × Unit) × Unit)
noncomputable def T_ledger_New (L : LoopD) : Option ((((List (Int × ((List Int) × (Int × Unit)))) × ((List (List Int)) × Unit)) × Unit) × Unit) := (some (((([] : List (Int × ((List Int) × (Int × Unit)))), ([[(0 : Int), (0 : Int), (0 : Int), (0 : Int)], [(0 : Int), (0 : Int), (0 : Int), (0 : Int)], [(0 : Int), (0 : Int), (0 : Int), (0 : Int)], [(0 : Int), (0 : Int), (0 : Int), (0 : Int)]], ())), ()), ()))
noncomputable def sol_ledger_New : F_ledger_New := fun x => T_ledger_New bigLoop
abbrev s_ledger_Ledger_Supply : Sig := ⟨[(.optr (.pair (.own false (.pair (.int .u64) (.pair (.arr 4 (.int .u64)) (.pair (.int .u64) .unit)))) (.pair (.ro true (.arr 4 (.arr 4 (.int .u64)))) (.ro true .unit))))], [(.ro true (.arr 4 (.int .u64)))]⟩
abbrev F_ledger_Ledger_Supply := ((Option ((List (Int × ((List Int) × (Int × Unit)))) × ((List (List Int)) × Unit))) × Unit) → Option (((List Int) × Unit) × ((Option ((List (Int × ((List Int) × (Int × Unit)))) × ((List (List Int)) × Unit))) × Unit))
noncomputable def T_ledger_Ledger_Supply_loop1 (c_uint256_SaturatingAdd : F_uint256_SaturatingAdd) (again_8 : ((List Int) × ((List Int) × ((List (List Int)) × (Int × (((List (Int × ((List Int) × (Int × Unit)))) × ((List (List Int)) × Unit)) × Unit))))) → Option (((List Int) × Unit) × ((Option ((List (Int × ((List Int) × (Int × Unit)))) × ((List (List Int)) × Unit))) × Unit))) (t2_9 : (List Int)) (all_10 : (List Int)) (t28_11 : (List (List Int))) (t29_12 : Int) (l_13 : ((List (Int × ((List Int) × (Int × Unit)))) × ((List (List Int)) × Unit))) : Option (((List Int) × Unit) × ((Option ((List (Int × ((List Int) × (Int × Unit)))) × ((List (List Int)) × Unit))) × Unit)) := (brR (decide (t29_12 < (4 : Int))) (brR (inR t29_12 (4 : Nat)) (Option.bind (c_uint256_SaturatingAdd (all_10, ((List.getD t28_11 (Int.toNat t29_12) [(0 : Int), (0 : Int), (0 : Int), (0 : Int)]), ()))) (fun (y_14 : (((List Int) × Unit) × (Unit × (Unit × Unit)))) => (again_8 (t2_9, (y_14.1.1, (t28_11, ((IntKind.wrap (IntKind.i64) (t29_12 + (1 : Int))), ((l_13.1, (l_13.2.1, l_13.2.2)), ())))))))) none) (some ((all_10, ()), ((some (l_13.1, (l_13.2.1, l_13.2.2))), ()))))
noncomputable def T_ledger_Ledger_Supply_loop0 (L : LoopD) (c_uint256_SaturatingAdd : F_uint256_SaturatingAdd) (again_1 : (((List (Int × ((List Int) × (Int × Unit)))) × ((List (List Int)) × Unit)) × ((List Int) × ((List Int) × (Int × (Int × Unit))))) → Option (((List Int) × Unit) × ((Option ((List (Int × ((List Int) × (Int × Unit)))) × ((List (List Int)) × Unit))) × Unit))) (l_2 : ((List (Int × ((List Int) × (Int × Unit)))) × ((List (List Int)) × Unit))) (t2_3 : (List Int)) (all_4 : (List Int)) (t15_5 : Int) (t16_6 : Int) : Option (((List Int) × Unit) × ((Option ((List (Int × ((List Int) × (Int × Unit)))) × ((List (List Int)) × Unit))) × Unit)) := (brR (decide (t16_6 < t15_5)) (brR (inR t16_6 (List.length l_2.1)) (Option.bind (c_uint256_SaturatingAdd (all_4, ((List.getD l_2.1 (Int.toNat t16_6) (Ty.zero ((Ty.int IntKind.u64).pair ((Ty.arr 4 (Ty.int IntKind.u64)).pair ((Ty.int IntKind.u64).pair Ty.unit))))).2.1, ()))) (fun (y_7 : (((List Int) × Unit) × (Unit × (Unit × Unit)))) => (again_1 ((l_2.1, (l_2.2.1, l_2.2.2)), (t2_3, (y_7.1.1, (t15_5, ((IntKind.wrap (IntKind.i64) (t16_6 + (1 : Int))), ())))))))) none) (L _ _ (fun again x => T_ledger_Ledger_Supply_loop1 c_uint256_SaturatingAdd again x.1 x.2.1 x.2.2.1 x.2.2.2.1 x.2.2.2.2.1) (t2_3, (all_4, (l_2.2.1, ((0 : Int), ((l_2.1, (l_2.2.1, l_2.2.2)), ())))))))
noncomputable def T_ledger_Ledger_Supply (L : LoopD) (c_uint256_SaturatingAdd : F_uint256_SaturatingAdd) (l_ : (Option ((List (Int × ((List Int) × (Int × Unit)))) × ((List (List Int)) × Unit)))) : Option (((List Int) × Unit) × ((Option ((List (Int × ((List Int) × (Int × Unit)))) × ((List (List Int)) × Unit))) × Unit)) := (optR l_ (some (([(0 : Int), (0 : Int), (0 : Int), (0 : Int)], ()), (none, ()))) (fun (y_0 : ((List (Int × ((List Int) × (Int × Unit)))) × ((List (List Int)) × Unit))) => (L _ _ (fun again x => T_ledger_Ledger_Supply_loop0 L c_uint256_SaturatingAdd again x.1 x.2.1 x.2.2.1 x.2.2.2.1 x.2.2.2.2.1) ((y_0.1, (y_0.2.1, y_0.2.2)), ([(0 : Int), (0 : Int), (0 : Int), (0 : Int)], ([(0 : Int), (0 : Int), (0 : Int), (0 : Int)], ((((List.length y_0.1) : Nat) : Int), ((0 : Int), ()))))))))
noncomputable def sol_ledger_Ledger_Supply : F_ledger_Ledger_Supply := fun x => T_ledger_Ledger_Supply bigLoop sol_uint256_SaturatingAdd x.1
abbrev s_ledger_Ledger_find_1 : Sig := ⟨[(.ro true (.pair (.int .u64) (.pair (.arr 4 (.int .u64)) (.pair (.int .u64) .unit)))), (.ro true (.int .u64))], [(.ro true (.int .i64))]⟩
abbrev F_ledger_Ledger_find_1 := ((Int × ((List Int) × (Int × Unit))) × (Int × Unit)) → Option ((Int × Unit) × (Unit × (Unit × Unit)))
noncomputable def T_ledger_Ledger_find_1 (L : LoopD) (c_cmp_Compare_api_Address : F_cmp_Compare_api_Address) (x_ : (Int × ((List Int) × (Int × Unit)))) (a_ : Int) : Option ((Int × Unit) × (Unit × (Unit × Unit))) := (Option.bind (c_cmp_Compare_api_Address (x_.1, (a_, ()))) (fun (y_0 : ((Int × Unit) × (Unit × (Unit × Unit)))) => (some ((y_0.1.1, ()), ((), ((), ()))))))
noncomputable def sol_ledger_Ledger_find_1 : F_ledger_Ledger_find_1 := fun x => T_ledger_Ledger_find_1 bigLoop sol_cmp_Compare_api_Address x.1 x.2.1
abbrev F_slices_BinarySearchFunc_api_Account_api_Account_api_Address := ((List (Int × ((List Int) × (Int × Unit)))) × (Int × (Unit × Unit))) → Option ((Int × (Bool × Unit)) × (Unit × (Unit × (Unit × Unit))))
noncomputable def T_slices_BinarySearchFunc_api_Account_api_Account_api_Address_loop0 (c_ledger_Ledger_find_1 : F_ledger_Ledger_find_1) (again_1 : ((List (Int × ((List Int) × (Int × Unit)))) × (Int × (Unit × (Int × (Int × (Int × Unit)))))) → Option ((Int × (Bool × Unit)) × (Unit × (Unit × (Unit × Unit))))) (x_2 : (List (Int × ((List Int) × (Int × Unit))))) (target_3 : Int) (cmp_4 : Unit) (n_5 : Int) (i_6 : Int) (j_7 : Int) : Option ((Int × (Bool × Unit)) × (Unit × (Unit × (Unit × Unit)))) := (letR (IntKind.wrap (IntKind.i64) (Int.fdiv (IntKind.wrap (IntKind.u64) (IntKind.wrap (IntKind.i64) (i_6 + j_7))) (2 : Int))) fun (v_8 : Int) => (letR (List.length x_2) fun (v_9 : Nat) => (brR (decide (i_6 < j_7)) (brR (inR v_8 v_9) (Option.bind (c_ledger_Ledger_find_1 ((List.getD x_2 (Int.toNat v_8) ((0 : Int), ([(0 : Int), (0 : Int), (0 : Int), (0 : Int)], ((0 : Int), ())))), (target_3, ()))) (fun (y_10 : ((Int × Unit) × (Unit × (Unit × Unit)))) => (brR (decide (y_10.1.1 < (0 : Int))) (again_1 (x_2, (target_3, (cmp_4, (n_5, ((IntKind.wrap (IntKind.i64) (v_8 + (1 : Int))), (j_7, ()))))))) (again_1 (x_2, (target_3, (cmp_4, (n_5, (i_6, (v_8, ())))))))))) none) (brR (decide (i_6 < n_5)) (brR (inR i_6 v_9) (Option.bind (c_ledger_Ledger_find_1 ((List.getD x_2 (Int.toNat i_6) ((0 : Int), ([(0 : Int), (0 : Int), (0 : Int), (0 : Int)], ((0 : Int), ())))), (target_3, ()))) (fun (y_11 : ((Int × Unit) × (Unit × (Unit × Unit)))) => (some ((i_6, ((decide (y_11.1.1 = (0 : Int))), ())), ((), ((), ((), ()))))))) none) (some ((i_6, (false, ())), ((), ((), ((), ())))))))))
noncomputable def T_slices_BinarySearchFunc_api_Account_api_Account_api_Address (L : LoopD) (c_ledger_Ledger_find_1 : F_ledger_Ledger_find_1) (x_ : (List (Int × ((List Int) × (Int × Unit))))) (target_ : Int) (cmp_ : Unit) : Option ((Int × (Bool × Unit)) × (Unit × (Unit × (Unit × Unit)))) := (letR (((List.length x_) : Nat) : Int) fun (v_0 : Int) => (L _ _ (fun again x => T_slices_BinarySearchFunc_api_Account_api_Account_api_Address_loop0 c_ledger_Ledger_find_1 again x.1 x.2.1 x.2.2.1 x.2.2.2.1 x.2.2.2.2.1 x.2.2.2.2.2.1) (x_, (target_, (cmp_, (v_0, ((0 : Int), (v_0, ()))))))))
noncomputable def sol_slices_BinarySearchFunc_api_Account_api_Account_api_Address : F_slices_BinarySearchFunc_api_Account_api_Account_api_Address := fun x => T_slices_BinarySearchFunc_api_Account_api_Account_api_Address bigLoop sol_ledger_Ledger_find_1 x.1 x.2.1 x.2.2.1
abbrev s_ledger_Ledger_find : Sig := ⟨[(.ptr (.pair (.own false (.pair (.int .u64) (.pair (.arr 4 (.int .u64)) (.pair (.int .u64) .unit)))) (.pair (.ro true (.arr 4 (.arr 4 (.int .u64)))) (.ro true .unit)))), (.ro true (.int .u64))], [(.ro true (.int .i64)), (.ro true .bool)]⟩
abbrev F_ledger_Ledger_find := (((List (Int × ((List Int) × (Int × Unit)))) × ((List (List Int)) × Unit)) × (Int × Unit)) → Option ((Int × (Bool × Unit)) × (((List (Int × ((List Int) × (Int × Unit)))) × ((List (List Int)) × Unit)) × (Unit × Unit)))
noncomputable def T_ledger_Ledger_find (L : LoopD) (c_slices_BinarySearchFunc_api_Account_api_Account_api_Address : F_slices_BinarySearchFunc_api_Account_api_Account_api_Address) (l_ : ((List (Int × ((List Int) × (Int × Unit)))) × ((List (List Int)) × Unit))) (a_ : Int) : Option ((Int × (Bool × Unit)) × (((List (Int × ((List Int) × (Int × Unit)))) × ((List (List Int)) × Unit)) × (Unit × Unit))) := (Option.bind (c_slices_BinarySearchFunc_api_Account_api_Account_api_Address (l_.1, (a_, ((), ())))) (fun (y_0 : ((Int × (Bool × Unit)) × (Unit × (Unit × (Unit × Unit))))) => (some ((y_0.1.1, (y_0.1.2.1, ())), ((l_.1, (l_.2.1, l_.2.2)), ((), ()))))))
noncomputable def sol_ledger_Ledger_find : F_ledger_Ledger_find := fun x => T_ledger_Ledger_find bigLoop sol_slices_BinarySearchFunc_api_Account_api_Account_api_Address x.1 x.2.1
abbrev s_ledger_Ledger_get : Sig := ⟨[(.optr (.pair (.own false (.pair (.int .u64) (.pair (.arr 4 (.int .u64)) (.pair (.int .u64) .unit)))) (.pair (.ro true (.arr 4 (.arr 4 (.int .u64)))) (.ro true .unit)))), (.ro true (.int .u64))], [(.ro true (.pair (.int .u64) (.pair (.arr 4 (.int .u64)) (.pair (.int .u64) .unit))))]⟩
abbrev F_ledger_Ledger_get := ((Option ((List (Int × ((List Int) × (Int × Unit)))) × ((List (List Int)) × Unit))) × (Int × Unit)) → Option (((Int × ((List Int) × (Int × Unit))) × Unit) × ((Option ((List (Int × ((List Int) × (Int × Unit)))) × ((List (List Int)) × Unit))) × (Unit × Unit)))
noncomputable def T_ledger_Ledger_get (L : LoopD) (c_ledger_Ledger_find : F_ledger_Ledger_find) (l_ : (Option ((List (Int × ((List Int) × (Int × Unit)))) × ((List (List Int)) × Unit)))) (a_ : Int) : Option (((Int × ((List Int) × (Int × Unit))) × Unit) × ((Option ((List (Int × ((List Int) × (Int × Unit)))) × ((List (List Int)) × Unit))) × (Unit × Unit))) := (optR l_ (some (((a_, ([(0 : Int), (0 : Int), (0 : Int), (0 : Int)], ((0 : Int), ()))), ()), (none, ((), ())))) (fun (y_0 : ((List (Int × ((List Int) × (Int × Unit)))) × ((List (List Int)) × Unit))) => (Option.bind (c_ledger_Ledger_find ((y_0.1, (y_0.2.1, y_0.2.2)), (a_, ()))) (fun (y_1 : ((Int × (Bool × Unit)) × (((List (Int × ((List Int) × (Int × Unit)))) × ((List (List Int)) × Unit)) × (Unit × Unit)))) => (brR y_1.1.2.1 (brR (inR y_1.1.1 (List.length y_1.2.1.1)) (some (((List.getD y_1.2.1.1 (Int.toNat y_1.1.1) ((0 : Int), ([(0 : Int), (0 : Int), (0 : Int), (0 : Int)], ((0 : Int), ())))), ()), ((some (y_1.2.1.1, (y_1.2.1.2.1, y_1.2.1.2.2))), ((), ())))) none) (some (((a_, ([(0 : Int), (0 : Int), (0 : Int), (0 : Int)], ((0 : Int), ()))), ()), ((some (y_1.2.1.1, (y_1.2.1.2.1, y_1.2.1.2.2))), ((), ())))))))))
noncomputable def sol_ledger_Ledger_get : F_ledger_Ledger_get := fun x => T_ledger_Ledger_get bigLoop sol_ledger_Ledger_find x.1 x.2.1
abbrev s_ledger_isEmpty : Sig := ⟨[(.ro true (.pair (.int .u64) (.pair (.arr 4 (.int .u64)) (.pair (.int .u64) .unit))))], [(.ro true .bool)]⟩
abbrev F_ledger_isEmpty := ((Int × ((List Int) × (Int × Unit))) × Unit) → Option ((Bool × Unit) × (Unit × Unit))
noncomputable def T_ledger_isEmpty (L : LoopD) (x_ : (Int × ((List Int) × (Int × Unit)))) : Option ((Bool × Unit) × (Unit × Unit)) := (brR (eqD (Ty.arr 4 (Ty.int IntKind.u64)) x_.2.1 [(0 : Int), (0 : Int), (0 : Int), (0 : Int)]) (some (((decide (x_.2.2.1 = (0 : Int))), ()), ((), ()))) (some ((false, ()), ((), ()))))
noncomputable def sol_ledger_isEmpty : F_ledger_isEmpty := fun x => T_ledger_isEmpty bigLoop x.1
abbrev s_ledger_Ledger_set : Sig := ⟨[(.ptr (.pair (.own false (.pair (.int .u64) (.pair (.arr 4 (.int .u64)) (.pair (.int .u64) .unit)))) (.pair (.ro true (.arr 4 (.arr 4 (.int .u64)))) (.ro true .unit)))), (.ro true (.pair (.int .u64) (.pair (.arr 4 (.int .u64)) (.pair (.int .u64) .unit))))], []⟩
abbrev F_ledger_Ledger_set := (((List (Int × ((List Int) × (Int × Unit)))) × ((List (List Int)) × Unit)) × ((Int × ((List Int) × (Int × Unit))) × Unit)) → Option (Unit × (((List (Int × ((List Int) × (Int × Unit)))) × ((List (List Int)) × Unit)) × (Unit × Unit)))
noncomputable def T_ledger_Ledger_set (L : LoopD) (c_ledger_Ledger_find : F_ledger_Ledger_find) (c_ledger_isEmpty : F_ledger_isEmpty) (c_slices_Delete_api_Account_api_Account : F_slices_Delete_api_Account_api_Account) (c_slices_Insert_api_Account_api_Account : F_slices_Insert_api_Account_api_Account) (l_ : ((List (Int × ((List Int) × (Int × Unit)))) × ((List (List Int)) × Unit))) (x_ : (Int × ((List Int) × (Int × Unit)))) : Option (Unit × (((List (Int × ((List Int) × (Int × Unit)))) × ((List (List Int)) × Unit)) × (Unit × Unit))) := (Option.bind (c_ledger_Ledger_find ((l_.1, (l_.2.1, l_.2.2)), (x_.1, ()))) (fun (y_0 : ((Int × (Bool × Unit)) × (((List (Int × ((List Int) × (Int × Unit)))) × ((List (List Int)) × Unit)) × (Unit × Unit)))) => (brR y_0.1.2.1 (Option.bind (c_ledger_isEmpty (x_, ())) (fun (y_1 : ((Bool × Unit) × (Unit × Unit))) => (brR y_1.1.1 (Option.bind (c_slices_Delete_api_Account_api_Account (y_0.2.1.1, (y_0.1.1, ((IntKind.wrap (IntKind.i64) (y_0.1.1 + (1 : Int))), ())))) (fun (y_2 : (((List (Int × ((List Int) × (Int × Unit)))) × Unit) × (Unit × (Unit × (Unit × Unit))))) => (some ((), ((y_2.1.1, (y_0.2.1.2.1, y_0.2.1.2.2)), ((), ())))))) (brR y_0.1.2.1 (brR (inR y_0.1.1 (List.length y_0.2.1.1)) (some ((), (((List.set y_0.2.1.1 (Int.toNat y_0.1.1) x_), (y_0.2.1.2.1, y_0.2.1.2.2)), ((), ())))) none) (Option.bind (c_ledger_isEmpty (x_, ())) (fun (y_3 : ((Bool × Unit) × (Unit × Unit))) => (brR (!y_3.1.1) (Option.bind (c_slices_Insert_api_Account_api_Account (y_0.2.1.1, (y_0.1.1, ([x_], ())))) (fun (y_4 : (((List (Int × ((List Int) × (Int × Unit)))) × Unit) × (Unit × (Unit × (Unit × Unit))))) => (some ((), ((y_4.1.1, (y_0.2.1.2.1, y_0.2.1.2.2)), ((), ())))))) (some ((), ((y_0.2.1.1, (y_0.2.1.2.1, y_0.2.1.2.2)), ((), ()))))))))))) (brR y_0.1.2.1 (brR (inR y_0.1.1 (List.length y_0.2.1.1)) (some ((), (((List.set y_0.2.1.1 (Int.toNat y_0.1.1) x_), (y_0.2.1.2.1, y_0.2.1.2.2)), ((), ())))) none) (Option.bind (c_ledger_isEmpty (x_, ())) (fun (y_5 : ((Bool × Unit) × (Unit × Unit))) => (brR (!y_5.1.1) (Option.bind (c_slices_Insert_api_Account_api_Account (y_0.2.1.1, (y_0.1.1, ([x_], ())))) (fun (y_6 : (((List (Int × ((List Int) × (Int × Unit)))) × Unit) × (Unit × (Unit × (Unit × Unit))))) => (some ((), ((y_6.1.1, (y_0.2.1.2.1, y_0.2.1.2.2)), ((), ())))))) (some ((), ((y_0.2.1.1, (y_0.2.1.2.1, y_0.2.1.2.2)), ((), ())))))))))))
noncomputable def sol_ledger_Ledger_set : F_ledger_Ledger_set := fun x => T_ledger_Ledger_set bigLoop sol_ledger_Ledger_find sol_ledger_isEmpty sol_slices_Delete_api_Account_api_Account sol_slices_Insert_api_Account_api_Account x.1 x.2.1
abbrev s_ledger_Ledger_credit : Sig := ⟨[(.optr (.pair (.own false (.pair (.int .u64) (.pair (.arr 4 (.int .u64)) (.pair (.int .u64) .unit)))) (.pair (.ro true (.arr 4 (.arr 4 (.int .u64)))) (.ro true .unit)))), (.ro true (.int .u64)), (.ro true (.arr 4 (.int .u64)))], []⟩
abbrev F_ledger_Ledger_credit := ((Option ((List (Int × ((List Int) × (Int × Unit)))) × ((List (List Int)) × Unit))) × (Int × ((List Int) × Unit))) → Option (Unit × ((Option ((List (Int × ((List Int) × (Int × Unit)))) × ((List (List Int)) × Unit))) × (Unit × (Unit × Unit))))
noncomputable def T_ledger_Ledger_credit (L : LoopD) (c_ledger_Ledger_get : F_ledger_Ledger_get) (c_uint256_SaturatingAdd : F_uint256_SaturatingAdd) (c_ledger_Ledger_set : F_ledger_Ledger_set) (l_ : (Option ((List (Int × ((List Int) × (Int × Unit)))) × ((List (List Int)) × Unit)))) (a_ : Int) (n_ : (List Int)) : Option (Unit × ((Option ((List (Int × ((List Int) × (Int × Unit)))) × ((List (List Int)) × Unit))) × (Unit × (Unit × Unit)))) := (optR l_ (Option.bind (c_ledger_Ledger_get (none, (a_, ()))) (fun (y_0 : (((Int × ((List Int) × (Int × Unit))) × Unit) × ((Option ((List (Int × ((List Int) × (Int × Unit)))) × ((List (List Int)) × Unit))) × (Unit × Unit)))) => (optR y_0.2.1 (Option.bind (c_uint256_SaturatingAdd (y_0.1.1.2.1, (n_, ()))) (fun (y_1 : (((List Int) × Unit) × (Unit × (Unit × Unit)))) => none)) (fun (y_2 : ((List (Int × ((List Int) × (Int × Unit)))) × ((List (List Int)) × Unit))) => none)))) (fun (y_3 : ((List (Int × ((List Int) × (Int × Unit)))) × ((List (List Int)) × Unit))) => (Option.bind (c_ledger_Ledger_get ((some (y_3.1, (y_3.2.1, y_3.2.2))), (a_, ()))) (fun (y_4 : (((Int × ((List Int) × (Int × Unit))) × Unit) × ((Option ((List (Int × ((List Int) × (Int × Unit)))) × ((List (List Int)) × Unit))) × (Unit × Unit)))) => (optR y_4.2.1 none (fun (y_5 : ((List (Int × ((List Int) × (Int × Unit)))) × ((List (List Int)) × Unit))) => (Option.bind (c_uint256_SaturatingAdd (y_4.1.1.2.1, (n_, ()))) (fun (y_6 : (((List Int) × Unit) × (Unit × (Unit × Unit)))) => (Option.bind (c_ledger_Ledger_set ((y_5.1, (y_5.2.1, y_5.2.2)), ((y_4.1.1.1, (y_6.1.1, y_4.1.1.2.2)), ()))) (fun (y_7 : (Unit × (((List (Int × ((List Int) × (Int × Unit)))) × ((List (List Int)) × Unit)) × (Unit × Unit)))) => (some ((), ((some (y_7.2.1.1, (y_7.2.1.2.1, y_7.2.1.2.2))), ((), ((), ())))))))))))))))
noncomputable def sol_ledger_Ledger_credit : F_ledger_Ledger_credit := fun x => T_ledger_Ledger_credit bigLoop sol_ledger_Ledger_get sol_uint256_SaturatingAdd sol_ledger_Ledger_set x.1 x.2.1 x.2.2.1
abbrev s_ledger_Ledger_Mint : Sig := ⟨[(.optr (.pair (.own false (.pair (.int .u64) (.pair (.arr 4 (.int .u64)) (.pair (.int .u64) .unit)))) (.pair (.ro true (.arr 4 (.arr 4 (.int .u64)))) (.ro true .unit)))), (.ro true (.int .u64)), (.ro true (.arr 4 (.int .u64)))], [(.ro true (.int .i64))]⟩
abbrev F_ledger_Ledger_Mint := ((Option ((List (Int × ((List Int) × (Int × Unit)))) × ((List (List Int)) × Unit))) × (Int × ((List Int) × Unit))) → Option ((Int × Unit) × ((Option ((List (Int × ((List Int) × (Int × Unit)))) × ((List (List Int)) × Unit))) × (Unit × (Unit × Unit))))
noncomputable def T_ledger_Ledger_Mint (L : LoopD) (c_ledger_Ledger_Supply : F_ledger_Ledger_Supply) (c_uint256_Add : F_uint256_Add) (c_ledger_Ledger_credit : F_ledger_Ledger_credit) (l_ : (Option ((List (Int × ((List Int) × (Int × Unit)))) × ((List (List Int)) × Unit)))) (a_ : Int) (n_ : (List Int)) : Option ((Int × Unit) × ((Option ((List (Int × ((List Int) × (Int × Unit)))) × ((List (List Int)) × Unit))) × (Unit × (Unit × Unit)))) := (optR l_ (some (((1 : Int), ()), (none, ((), ((), ()))))) (fun (y_0 : ((List (Int × ((List Int) × (Int × Unit)))) × ((List (List Int)) × Unit))) => (brR (decide (a_ = (0 : Int))) (some (((2 : Int), ()), ((some (y_0.1, (y_0.2.1, y_0.2.2))), ((), ((), ()))))) (Option.bind (c_ledger_Ledger_Supply ((some (y_0.1, (y_0.2.1, y_0.2.2))), ())) (fun (y_1 : (((List Int) × Unit) × ((Option ((List (Int × ((List Int) × (Int × Unit)))) × ((List (List Int)) × Unit))) × Unit))) => (optR y_1.2.1 none (fun (y_2 : ((List (Int × ((List Int) × (Int × Unit)))) × ((List (List Int)) × Unit))) => (Option.bind (c_uint256_Add (y_1.1.1, (n_, ()))) (fun (y_3 : (((List Int) × (Int × Unit)) × (Unit × (Unit × Unit)))) => (brR (!(decide (y_3.1.2.1 = (0 : Int)))) (some ((y_3.1.2.1, ()), ((some (y_2.1, (y_2.2.1, y_2.2.2))), ((), ((), ()))))) (Option.bind (c_ledger_Ledger_credit ((some (y_2.1, (y_2.2.1, y_2.2.2))), (a_, (n_, ())))) (fun (y_4 : (Unit × ((Option ((List (Int × ((List Int) × (Int × Unit)))) × ((List (List Int)) × Unit))) × (Unit × (Unit × Unit))))) => (optR y_4.2.1 none (fun (y_5 : ((List (Int × ((List Int) × (Int × Unit)))) × ((List (List Int)) × Unit))) => (some (((0 : Int), ()), ((some (y_5.1, (y_5.2.1, y_5.2.2))), ((), ((), ())))))))))))))))))))
noncomputable def sol_ledger_Ledger_Mint : F_ledger_Ledger_Mint := fun x => T_ledger_Ledger_Mint bigLoop sol_ledger_Ledger_Supply sol_uint256_Add sol_ledger_Ledger_credit x.1 x.2.1 x.2.2.1
abbrev s_ledger_Ledger_debit : Sig := ⟨[(.optr (.pair (.own false (.pair (.int .u64) (.pair (.arr 4 (.int .u64)) (.pair (.int .u64) .unit)))) (.pair (.ro true (.arr 4 (.arr 4 (.int .u64)))) (.ro true .unit)))), (.ro true (.int .u64)), (.ro true (.arr 4 (.int .u64)))], [(.ro true (.int .i64))]⟩
abbrev F_ledger_Ledger_debit := ((Option ((List (Int × ((List Int) × (Int × Unit)))) × ((List (List Int)) × Unit))) × (Int × ((List Int) × Unit))) → Option ((Int × Unit) × ((Option ((List (Int × ((List Int) × (Int × Unit)))) × ((List (List Int)) × Unit))) × (Unit × (Unit × Unit))))
noncomputable def T_ledger_Ledger_debit (L : LoopD) (c_ledger_Ledger_get : F_ledger_Ledger_get) (c_uint256_Sub : F_uint256_Sub) (c_ledger_Ledger_set : F_ledger_Ledger_set) (l_ : (Option ((List (Int × ((List Int) × (Int × Unit)))) × ((List (List Int)) × Unit)))) (a_ : Int) (n_ : (List Int)) : Option ((Int × Unit) × ((Option ((List (Int × ((List Int) × (Int × Unit)))) × ((List (List Int)) × Unit))) × (Unit × (Unit × Unit)))) := (optR l_ (Option.bind (c_ledger_Ledger_get (none, (a_, ()))) (fun (y_0 : (((Int × ((List Int) × (Int × Unit))) × Unit) × ((Option ((List (Int × ((List Int) × (Int × Unit)))) × ((List (List Int)) × Unit))) × (Unit × Unit)))) => (optR y_0.2.1 (Option.bind (c_uint256_Sub (y_0.1.1.2.1, (n_, ()))) (fun (y_1 : (((List Int) × (Int × Unit)) × (Unit × (Unit × Unit)))) => (brR (!(decide (y_1.1.2.1 = (0 : Int)))) (some (((10 : Int), ()), (none, ((), ((), ()))))) none))) (fun (y_2 : ((List (Int × ((List Int) × (Int × Unit)))) × ((List (List Int)) × Unit))) => none)))) (fun (y_3 : ((List (Int × ((List Int) × (Int × Unit)))) × ((List (List Int)) × Unit))) => (Option.bind (c_ledger_Ledger_get ((some (y_3.1, (y_3.2.1, y_3.2.2))), (a_, ()))) (fun (y_4 : (((Int × ((List Int) × (Int × Unit))) × Unit) × ((Option ((List (Int × ((List Int) × (Int × Unit)))) × ((List (List Int)) × Unit))) × (Unit × Unit)))) => (optR y_4.2.1 none (fun (y_5 : ((List (Int × ((List Int) × (Int × Unit)))) × ((List (List Int)) × Unit))) => (Option.bind (c_uint256_Sub (y_4.1.1.2.1, (n_, ()))) (fun (y_6 : (((List Int) × (Int × Unit)) × (Unit × (Unit × Unit)))) => (brR (!(decide (y_6.1.2.1 = (0 : Int)))) (some (((10 : Int), ()), ((some (y_5.1, (y_5.2.1, y_5.2.2))), ((), ((), ()))))) (Option.bind (c_ledger_Ledger_set ((y_5.1, (y_5.2.1, y_5.2.2)), ((y_4.1.1.1, (y_6.1.1, y_4.1.1.2.2)), ()))) (fun (y_7 : (Unit × (((List (Int × ((List Int) × (Int × Unit)))) × ((List (List Int)) × Unit)) × (Unit × Unit)))) => (some (((0 : Int), ()), ((some (y_7.2.1.1, (y_7.2.1.2.1, y_7.2.1.2.2))), ((), ((), ()))))))))))))))))
noncomputable def sol_ledger_Ledger_debit : F_ledger_Ledger_debit := fun x => T_ledger_Ledger_debit bigLoop sol_ledger_Ledger_get sol_uint256_Sub sol_ledger_Ledger_set x.1 x.2.1 x.2.2.1
abbrev s_ledger_Ledger_Transfer : Sig := ⟨[(.optr (.pair (.own false (.pair (.int .u64) (.pair (.arr 4 (.int .u64)) (.pair (.int .u64) .unit)))) (.pair (.ro true (.arr 4 (.arr 4 (.int .u64)))) (.ro true .unit)))), (.ro true (.int .u64)), (.ro true (.int .u64)), (.ro true (.arr 4 (.int .u64)))], [(.ro true (.int .i64))]⟩
abbrev F_ledger_Ledger_Transfer := ((Option ((List (Int × ((List Int) × (Int × Unit)))) × ((List (List Int)) × Unit))) × (Int × (Int × ((List Int) × Unit)))) → Option ((Int × Unit) × ((Option ((List (Int × ((List Int) × (Int × Unit)))) × ((List (List Int)) × Unit))) × (Unit × (Unit × (Unit × Unit)))))
noncomputable def T_ledger_Ledger_Transfer (L : LoopD) (c_ledger_Ledger_debit : F_ledger_Ledger_debit) (c_ledger_Ledger_credit : F_ledger_Ledger_credit) (l_ : (Option ((List (Int × ((List Int) × (Int × Unit)))) × ((List (List Int)) × Unit)))) (a_ : Int) (b_ : Int) (n_ : (List Int)) : Option ((Int × Unit) × ((Option ((List (Int × ((List Int) × (Int × Unit)))) × ((List (List Int)) × Unit))) × (Unit × (Unit × (Unit × Unit))))) := (optR l_ (some (((1 : Int), ()), (none, ((), ((), ((), ())))))) (fun (y_0 : ((List (Int × ((List Int) × (Int × Unit)))) × ((List (List Int)) × Unit))) => (brR (decide (a_ = (0 : Int))) (some (((2 : Int), ()), ((some (y_0.1, (y_0.2.1, y_0.2.2))), ((), ((), ((), ())))))) (brR (decide (b_ = (0 : Int))) (some (((2 : Int), ()), ((some (y_0.1, (y_0.2.1, y_0.2.2))), ((), ((), ((), ())))))) (Option.bind (c_ledger_Ledger_debit ((some (y_0.1, (y_0.2.1, y_0.2.2))), (a_, (n_, ())))) (fun (y_1 : ((Int × Unit) × ((Option ((List (Int × ((List Int) × (Int × Unit)))) × ((List (List Int)) × Unit))) × (Unit × (Unit × Unit))))) => (optR y_1.2.1 none (fun (y_2 : ((List (Int × ((List Int) × (Int × Unit)))) × ((List (List Int)) × Unit))) => (brR (!(decide (y_1.1.1 = (0 : Int)))) (some ((y_1.1.1, ()), ((some (y_2.1, (y_2.2.1, y_2.2.2))), ((), ((), ((), ())))))) (Option.bind (c_ledger_Ledger_credit ((some (y_2.1, (y_2.2.1, y_2.2.2))), (b_, (n_, ())))) (fun (y_3 : (Unit × ((Option ((List (Int × ((List Int) × (Int × Unit)))) × ((List (List Int)) × Unit))) × (Unit × (Unit × Unit))))) => (optR y_3.2.1 none (fun (y_4 : ((List (Int × ((List Int) × (Int × Unit)))) × ((List (List Int)) × Unit))) => (some (((0 : Int), ()), ((some (y_4.1, (y_4.2.1, y_4.2.2))), ((), ((), ((), ())))))))))))))))))))
noncomputable def sol_ledger_Ledger_Transfer : F_ledger_Ledger_Transfer := fun x => T_ledger_Ledger_Transfer bigLoop sol_ledger_Ledger_debit sol_ledger_Ledger_credit x.1 x.2.1 x.2.2.1 x.2.2.2.1
abbrev s_ledger_isVault : Sig := ⟨[(.ro true (.int .i64))], [(.ro true .bool)]⟩
abbrev F_ledger_isVault := (Int × Unit) → Option ((Bool × Unit) × (Unit × Unit))
noncomputable def T_ledger_isVault (L : LoopD) (v_ : Int) : Option ((Bool × Unit) × (Unit × Unit)) := (brR (decide (v_ ≥ (1 : Int))) (some (((decide (v_ ≤ (4 : Int))), ()), ((), ()))) (some ((false, ()), ((), ()))))
noncomputable def sol_ledger_isVault : F_ledger_isVault := fun x => T_ledger_isVault bigLoop x.1
abbrev s_ledger_Ledger_PayVault : Sig := ⟨[(.optr (.pair (.own false (.pair (.int .u64) (.pair (.arr 4 (.int .u64)) (.pair (.int .u64) .unit)))) (.pair (.ro true (.arr 4 (.arr 4 (.int .u64)))) (.ro true .unit)))), (.ro true (.int .u64)), (.ro true (.int .i64)), (.ro true (.arr 4 (.int .u64)))], [(.ro true (.int .i64))]⟩
abbrev F_ledger_Ledger_PayVault := ((Option ((List (Int × ((List Int) × (Int × Unit)))) × ((List (List Int)) × Unit))) × (Int × (Int × ((List Int) × Unit)))) → Option ((Int × Unit) × ((Option ((List (Int × ((List Int) × (Int × Unit)))) × ((List (List Int)) × Unit))) × (Unit × (Unit × (Unit × Unit)))))
noncomputable def T_ledger_Ledger_PayVault (L : LoopD) (c_ledger_isVault : F_ledger_isVault) (c_ledger_Ledger_debit : F_ledger_Ledger_debit) (c_uint256_SaturatingAdd : F_uint256_SaturatingAdd) (l_ : (Option ((List (Int × ((List Int) × (Int × Unit)))) × ((List (List Int)) × Unit)))) (a_ : Int) (v_ : Int) (n_ : (List Int)) : Option ((Int × Unit) × ((Option ((List (Int × ((List Int) × (Int × Unit)))) × ((List (List Int)) × Unit))) × (Unit × (Unit × (Unit × Unit))))) := (letR (IntKind.wrap (IntKind.i64) (v_ - (1 : Int))) fun (v_0 : Int) => (optR l_ (some (((1 : Int), ()), (none, ((), ((), ((), ())))))) (fun (y_1 : ((List (Int × ((List Int) × (Int × Unit)))) × ((List (List Int)) × Unit))) => (brR (decide (a_ = (0 : Int))) (some (((2 : Int), ()), ((some (y_1.1, (y_1.2.1, y_1.2.2))), ((), ((), ((), ())))))) (Option.bind (c_ledger_isVault (v_, ())) (fun (y_2 : ((Bool × Unit) × (Unit × Unit))) => (brR (!y_2.1.1) (some (((2 : Int), ()), ((some (y_1.1, (y_1.2.1, y_1.2.2))), ((), ((), ((), ())))))) (Option.bind (c_ledger_Ledger_debit ((some (y_1.1, (y_1.2.1, y_1.2.2))), (a_, (n_, ())))) (fun (y_3 : ((Int × Unit) × ((Option ((List (Int × ((List Int) × (Int × Unit)))) × ((List (List Int)) × Unit))) × (Unit × (Unit × Unit))))) => (optR y_3.2.1 none (fun (y_4 : ((List (Int × ((List Int) × (Int × Unit)))) × ((List (List Int)) × Unit))) => (brR (!(decide (y_3.1.1 = (0 : Int)))) (some ((y_3.1.1, ()), ((some (y_4.1, (y_4.2.1, y_4.2.2))), ((), ((), ((), ())))))) (brR (inR v_0 (4 : Nat)) (Option.bind (c_uint256_SaturatingAdd ((List.getD y_4.2.1 (Int.toNat v_0) [(0 : Int), (0 : Int), (0 : Int), (0 : Int)]), (n_, ()))) (fun (y_5 : (((List Int) × Unit) × (Unit × (Unit × Unit)))) => (brR (inR v_0 (4 : Nat)) (some (((0 : Int), ()), ((some (y_4.1, ((List.set y_4.2.1 (Int.toNat v_0) y_5.1.1), y_4.2.2))), ((), ((), ((), ())))))) none))) none)))))))))))))
noncomputable def sol_ledger_Ledger_PayVault : F_ledger_Ledger_PayVault := fun x => T_ledger_Ledger_PayVault bigLoop sol_ledger_isVault sol_ledger_Ledger_debit sol_uint256_SaturatingAdd x.1 x.2.1 x.2.2.1 x.2.2.2.1
abbrev s_ledger_Ledger_Balance : Sig := ⟨[(.optr (.pair (.own false (.pair (.int .u64) (.pair (.arr 4 (.int .u64)) (.pair (.int .u64) .unit)))) (.pair (.ro true (.arr 4 (.arr 4 (.int .u64)))) (.ro true .unit)))), (.ro true (.int .u64))], [(.ro true (.arr 4 (.int .u64)))]⟩
abbrev F_ledger_Ledger_Balance := ((Option ((List (Int × ((List Int) × (Int × Unit)))) × ((List (List Int)) × Unit))) × (Int × Unit)) → Option (((List Int) × Unit) × ((Option ((List (Int × ((List Int) × (Int × Unit)))) × ((List (List Int)) × Unit))) × (Unit × Unit)))
noncomputable def T_ledger_Ledger_Balance (L : LoopD) (c_ledger_Ledger_get : F_ledger_Ledger_get) (l_ : (Option ((List (Int × ((List Int) × (Int × Unit)))) × ((List (List Int)) × Unit)))) (a_ : Int) : Option (((List Int) × Unit) × ((Option ((List (Int × ((List Int) × (Int × Unit)))) × ((List (List Int)) × Unit))) × (Unit × Unit))) := (optR l_ (Option.bind (c_ledger_Ledger_get (none, (a_, ()))) (fun (y_0 : (((Int × ((List Int) × (Int × Unit))) × Unit) × ((Option ((List (Int × ((List Int) × (Int × Unit)))) × ((List (List Int)) × Unit))) × (Unit × Unit)))) => (optR y_0.2.1 (some ((y_0.1.1.2.1, ()), (none, ((), ())))) (fun (y_1 : ((List (Int × ((List Int) × (Int × Unit)))) × ((List (List Int)) × Unit))) => none)))) (fun (y_2 : ((List (Int × ((List Int) × (Int × Unit)))) × ((List (List Int)) × Unit))) => (Option.bind (c_ledger_Ledger_get ((some (y_2.1, (y_2.2.1, y_2.2.2))), (a_, ()))) (fun (y_3 : (((Int × ((List Int) × (Int × Unit))) × Unit) × ((Option ((List (Int × ((List Int) × (Int × Unit)))) × ((List (List Int)) × Unit))) × (Unit × Unit)))) => (optR y_3.2.1 none (fun (y_4 : ((List (Int × ((List Int) × (Int × Unit)))) × ((List (List Int)) × Unit))) => (some ((y_3.1.1.2.1, ()), ((some (y_4.1, (y_4.2.1, y_4.2.2))), ((), ()))))))))))
noncomputable def sol_ledger_Ledger_Balance : F_ledger_Ledger_Balance := fun x => T_ledger_Ledger_Balance bigLoop sol_ledger_Ledger_get x.1 x.2.1
abbrev s_ledger_Ledger_Vault : Sig := ⟨[(.optr (.pair (.own false (.pair (.int .u64) (.pair (.arr 4 (.int .u64)) (.pair (.int .u64) .unit)))) (.pair (.ro true (.arr 4 (.arr 4 (.int .u64)))) (.ro true .unit)))), (.ro true (.int .i64))], [(.ro true (.arr 4 (.int .u64)))]⟩
abbrev F_ledger_Ledger_Vault := ((Option ((List (Int × ((List Int) × (Int × Unit)))) × ((List (List Int)) × Unit))) × (Int × Unit)) → Option (((List Int) × Unit) × ((Option ((List (Int × ((List Int) × (Int × Unit)))) × ((List (List Int)) × Unit))) × (Unit × Unit)))
noncomputable def T_ledger_Ledger_Vault (L : LoopD) (c_ledger_isVault : F_ledger_isVault) (l_ : (Option ((List (Int × ((List Int) × (Int × Unit)))) × ((List (List Int)) × Unit)))) (v_ : Int) : Option (((List Int) × Unit) × ((Option ((List (Int × ((List Int) × (Int × Unit)))) × ((List (List Int)) × Unit))) × (Unit × Unit))) := (letR (IntKind.wrap (IntKind.i64) (v_ - (1 : Int))) fun (v_0 : Int) => (optR l_ (some (([(0 : Int), (0 : Int), (0 : Int), (0 : Int)], ()), (none, ((), ())))) (fun (y_1 : ((List (Int × ((List Int) × (Int × Unit)))) × ((List (List Int)) × Unit))) => (Option.bind (c_ledger_isVault (v_, ())) (fun (y_2 : ((Bool × Unit) × (Unit × Unit))) => (brR (!y_2.1.1) (some (([(0 : Int), (0 : Int), (0 : Int), (0 : Int)], ()), ((some (y_1.1, (y_1.2.1, y_1.2.2))), ((), ())))) (brR (inR v_0 (4 : Nat)) (some (((List.getD y_1.2.1 (Int.toNat v_0) [(0 : Int), (0 : Int), (0 : Int), (0 : Int)]), ()), ((some (y_1.1, (y_1.2.1, y_1.2.2))), ((), ())))) none)))))))
noncomputable def sol_ledger_Ledger_Vault : F_ledger_Ledger_Vault := fun x => T_ledger_Ledger_Vault bigLoop sol_ledger_isVault x.1 x.2.1
abbrev s_ledger_Ledger_WithdrawVault : Sig := ⟨[(.optr (.pair (.own false (.pair (.int .u64) (.pair (.arr 4 (.int .u64)) (.pair (.int .u64) .unit)))) (.pair (.ro true (.arr 4 (.arr 4 (.int .u64)))) (.ro true .unit)))), (.ro true (.int .i64)), (.ro true (.arr 4 (.int .u64)))], [(.ro true (.int .i64))]⟩
abbrev F_ledger_Ledger_WithdrawVault := ((Option ((List (Int × ((List Int) × (Int × Unit)))) × ((List (List Int)) × Unit))) × (Int × ((List Int) × Unit))) → Option ((Int × Unit) × ((Option ((List (Int × ((List Int) × (Int × Unit)))) × ((List (List Int)) × Unit))) × (Unit × (Unit × Unit))))
noncomputable def T_ledger_Ledger_WithdrawVault (L : LoopD) (c_ledger_isVault : F_ledger_isVault) (c_uint256_Sub : F_uint256_Sub) (l_ : (Option ((List (Int × ((List Int) × (Int × Unit)))) × ((List (List Int)) × Unit)))) (v_ : Int) (n_ : (List Int)) : Option ((Int × Unit) × ((Option ((List (Int × ((List Int) × (Int × Unit)))) × ((List (List Int)) × Unit))) × (Unit × (Unit × Unit)))) := (letR (IntKind.wrap (IntKind.i64) (v_ - (1 : Int))) fun (v_0 : Int) => (optR l_ (some (((1 : Int), ()), (none, ((), ((), ()))))) (fun (y_1 : ((List (Int × ((List Int) × (Int × Unit)))) × ((List (List Int)) × Unit))) => (Option.bind (c_ledger_isVault (v_, ())) (fun (y_2 : ((Bool × Unit) × (Unit × Unit))) => (brR (!y_2.1.1) (some (((2 : Int), ()), ((some (y_1.1, (y_1.2.1, y_1.2.2))), ((), ((), ()))))) (brR (inR v_0 (4 : Nat)) (Option.bind (c_uint256_Sub ((List.getD y_1.2.1 (Int.toNat v_0) [(0 : Int), (0 : Int), (0 : Int), (0 : Int)]), (n_, ()))) (fun (y_3 : (((List Int) × (Int × Unit)) × (Unit × (Unit × Unit)))) => (brR (!(decide (y_3.1.2.1 = (0 : Int)))) (some (((10 : Int), ()), ((some (y_1.1, (y_1.2.1, y_1.2.2))), ((), ((), ()))))) (brR (inR v_0 (4 : Nat)) (some (((0 : Int), ()), ((some (y_1.1, ((List.set y_1.2.1 (Int.toNat v_0) y_3.1.1), y_1.2.2))), ((), ((), ()))))) none)))) none)))))))
noncomputable def sol_ledger_Ledger_WithdrawVault : F_ledger_Ledger_WithdrawVault := fun x => T_ledger_Ledger_WithdrawVault bigLoop sol_ledger_isVault sol_uint256_Sub x.1 x.2.1 x.2.2.1
end Go.Pon
set_option autoImplicit false
set_option linter.unusedVariables false
set_option maxRecDepth 100000
namespace Go.Pon
open Go
abbrev s_law11_awake : Sig := ⟨[], [(.ro true .bool)]⟩
abbrev F_law11_awake := Unit → Option ((Bool × Unit) × Unit)
noncomputable def T_law11_awake (L : LoopD) (c_ledger_New : F_ledger_New) (c_ledger_Ledger_Mint : F_ledger_Ledger_Mint) (c_ledger_Ledger_Transfer : F_ledger_Ledger_Transfer) (c_ledger_Ledger_PayVault : F_ledger_Ledger_PayVault) (c_ledger_Ledger_Supply : F_ledger_Ledger_Supply) (c_ledger_Ledger_Balance : F_ledger_Ledger_Balance) (c_ledger_Ledger_Vault : F_ledger_Ledger_Vault) : Option ((Bool × Unit) × Unit) := (Option.bind (c_ledger_New ()) (fun (y_0 : ((((List (Int × ((List Int) × (Int × Unit)))) × ((List (List Int)) × Unit)) × Unit) × Unit)) => (Option.bind (c_ledger_Ledger_Mint ((some (y_0.1.1.1, (y_0.1.1.2.1, y_0.1.1.2.2))), ((5 : Int), ([(10 : Int), (0 : Int), (0 : Int), (0 : Int)], ())))) (fun (y_1 : ((Int × Unit) × ((Option ((List (Int × ((List Int) × (Int × Unit)))) × ((List (List Int)) × Unit))) × (Unit × (Unit × Unit))))) => (optR y_1.2.1 none (fun (y_2 : ((List (Int × ((List Int) × (Int × Unit)))) × ((List (List Int)) × Unit))) => (Option.bind (c_ledger_Ledger_Transfer ((some (y_2.1, (y_2.2.1, y_2.2.2))), ((5 : Int), ((6 : Int), ([(11 : Int), (0 : Int), (0 : Int), (0 : Int)], ()))))) (fun (y_3 : ((Int × Unit) × ((Option ((List (Int × ((List Int) × (Int × Unit)))) × ((List (List Int)) × Unit))) × (Unit × (Unit × (Unit × Unit)))))) => (optR y_3.2.1 none (fun (y_4 : ((List (Int × ((List Int) × (Int × Unit)))) × ((List (List Int)) × Unit))) => (Option.bind (c_ledger_Ledger_PayVault ((some (y_4.1, (y_4.2.1, y_4.2.2))), ((5 : Int), ((3 : Int), ([(4 : Int), (0 : Int), (0 : Int), (0 : Int)], ()))))) (fun (y_5 : ((Int × Unit) × ((Option ((List (Int × ((List Int) × (Int × Unit)))) × ((List (List Int)) × Unit))) × (Unit × (Unit × (Unit × Unit)))))) => (optR y_5.2.1 none (fun (y_6 : ((List (Int × ((List Int) × (Int × Unit)))) × ((List (List Int)) × Unit))) => (brR (decide (y_1.1.1 = (0 : Int))) (brR (decide (y_3.1.1 = (10 : Int))) (brR (decide (y_5.1.1 = (0 : Int))) (Option.bind (c_ledger_Ledger_Supply ((some (y_6.1, (y_6.2.1, y_6.2.2))), ())) (fun (y_7 : (((List Int) × Unit) × ((Option ((List (Int × ((List Int) × (Int × Unit)))) × ((List (List Int)) × Unit))) × Unit))) => (optR y_7.2.1 none (fun (y_8 : ((List (Int × ((List Int) × (Int × Unit)))) × ((List (List Int)) × Unit))) => (brR (eqD (Ty.arr 4 (Ty.int IntKind.u64)) y_7.1.1 [(10 : Int), (0 : Int), (0 : Int), (0 : Int)]) (Option.bind (c_ledger_Ledger_Balance ((some (y_8.1, (y_8.2.1, y_8.2.2))), ((5 : Int), ()))) (fun (y_9 : (((List Int) × Unit) × ((Option ((List (Int × ((List Int) × (Int × Unit)))) × ((List (List Int)) × Unit))) × (Unit × Unit)))) => (optR y_9.2.1 none (fun (y_10 : ((List (Int × ((List Int) × (Int × Unit)))) × ((List (List Int)) × Unit))) => (brR (eqD (Ty.arr 4 (Ty.int IntKind.u64)) y_9.1.1 [(6 : Int), (0 : Int), (0 : Int), (0 : Int)]) (Option.bind (c_ledger_Ledger_Vault ((some (y_10.1, (y_10.2.1, y_10.2.2))), ((3 : Int), ()))) (fun (y_11 : (((List Int) × Unit) × ((Option ((List (Int × ((List Int) × (Int × Unit)))) × ((List (List Int)) × Unit))) × (Unit × Unit)))) => (optR y_11.2.1 none (fun (y_12 : ((List (Int × ((List Int) × (Int × Unit)))) × ((List (List Int)) × Unit))) => (some (((eqD (Ty.arr 4 (Ty.int IntKind.u64)) y_11.1.1 [(4 : Int), (0 : Int), (0 : Int), (0 : Int)]), ()), ())))))) (some ((false, ()), ()))))))) (some ((false, ()), ()))))))) (some ((false, ()), ()))) (some ((false, ()), ()))) (some ((false, ()), ())))))))))))))))))
noncomputable def sol_law11_awake : F_law11_awake := fun x => T_law11_awake bigLoop sol_ledger_New sol_ledger_Ledger_Mint sol_ledger_Ledger_Transfer sol_ledger_Ledger_PayVault sol_ledger_Ledger_Supply sol_ledger_Ledger_Balance sol_ledger_Ledger_Vault
abbrev s_law11_LedgerTransfer : Sig := ⟨[(.ro true (.int .u64)), (.ro true (.int .u64)), (.ro true (.arr 4 (.int .u64))), (.ro true (.arr 4 (.int .u64))), (.ro true (.int .i64))], [(.ro true .bool)]⟩
abbrev F_law11_LedgerTransfer := (Int × (Int × ((List Int) × ((List Int) × (Int × Unit))))) → Option ((Bool × Unit) × (Unit × (Unit × (Unit × (Unit × (Unit × Unit))))))
noncomputable def T_law11_LedgerTransfer_join0 (c_law11_awake : F_law11_awake) (l_2 : ((List (Int × ((List Int) × (Int × Unit)))) × ((List (List Int)) × Unit))) : Option ((Bool × Unit) × (Unit × (Unit × (Unit × (Unit × (Unit × Unit)))))) := (Option.bind (c_law11_awake ()) (fun (y_3 : ((Bool × Unit) × Unit)) => (some ((y_3.1.1, ()), ((), ((), ((), ((), ((), ())))))))))
noncomputable def T_law11_LedgerTransfer_join3 (c_law0_Mod : F_law0_Mod) (c_ledger_Ledger_Balance : F_ledger_Ledger_Balance) (c_ledger_Ledger_PayVault : F_ledger_Ledger_PayVault) (c_ledger_Ledger_Vault : F_ledger_Ledger_Vault) (c_ledger_Ledger_Supply : F_ledger_Ledger_Supply) (c_ledger_Ledger_WithdrawVault : F_ledger_Ledger_WithdrawVault) (c_uint256_SaturatingSub : F_uint256_SaturatingSub) (c_law11_awake : F_law11_awake) (b_32 : Int) (vault_33 : Int) (n_34 : (List Int)) (l_35 : ((List (Int × ((List Int) × (Int × Unit)))) × ((List (List Int)) × Unit))) : Option ((Bool × Unit) × (Unit × (Unit × (Unit × (Unit × (Unit × Unit)))))) := (Option.bind (c_law0_Mod (vault_33, ((4 : Int), ()))) (fun (y_36 : ((Int × Unit) × (Unit × (Unit × Unit)))) => (letR (IntKind.wrap (IntKind.i64) ((1 : Int) + y_36.1.1)) fun (v_37 : Int) => (Option.bind (c_ledger_Ledger_Balance ((some (l_35.1, (l_35.2.1, l_35.2.2))), (b_32, ()))) (fun (y_38 : (((List Int) × Unit) × ((Option ((List (Int × ((List Int) × (Int × Unit)))) × ((List (List Int)) × Unit))) × (Unit × Unit)))) => (optR y_38.2.1 none (fun (y_39 : ((List (Int × ((List Int) × (Int × Unit)))) × ((List (List Int)) × Unit))) => (Option.bind (c_ledger_Ledger_PayVault ((some (y_39.1, (y_39.2.1, y_39.2.2))), (b_32, (v_37, (y_38.1.1, ()))))) (fun (y_40 : ((Int × Unit) × ((Option ((List (Int × ((List Int) × (Int × Unit)))) × ((List (List Int)) × Unit))) × (Unit × (Unit × (Unit × Unit)))))) => (optR y_40.2.1 none (fun (y_41 : ((List (Int × ((List Int) × (Int × Unit)))) × ((List (List Int)) × Unit))) => (brR (decide (y_40.1.1 = (0 : Int))) (Option.bind (c_ledger_Ledger_Balance ((some (y_41.1, (y_41.2.1, y_41.2.2))), (b_32, ()))) (fun (y_42 : (((List Int) × Unit) × ((Option ((List (Int × ((List Int) × (Int × Unit)))) × ((List (List Int)) × Unit))) × (Unit × Unit)))) => (optR y_42.2.1 none (fun (y_43 : ((List (Int × ((List Int) × (Int × Unit)))) × ((List (List Int)) × Unit))) => (brR (eqD (Ty.arr 4 (Ty.int IntKind.u64)) y_42.1.1 [(0 : Int), (0 : Int), (0 : Int), (0 : Int)]) (Option.bind (c_ledger_Ledger_Vault ((some (y_43.1, (y_43.2.1, y_43.2.2))), (v_37, ()))) (fun (y_44 : (((List Int) × Unit) × ((Option ((List (Int × ((List Int) × (Int × Unit)))) × ((List (List Int)) × Unit))) × (Unit × Unit)))) => (optR y_44.2.1 none (fun (y_45 : ((List (Int × ((List Int) × (Int × Unit)))) × ((List (List Int)) × Unit))) => (brR (eqD (Ty.arr 4 (Ty.int IntKind.u64)) y_44.1.1 y_38.1.1) (Option.bind (c_ledger_Ledger_Supply ((some (y_45.1, (y_45.2.1, y_45.2.2))), ())) (fun (y_46 : (((List Int) × Unit) × ((Option ((List (Int × ((List Int) × (Int × Unit)))) × ((List (List Int)) × Unit))) × Unit))) => (optR y_46.2.1 none (fun (y_47 : ((List (Int × ((List Int) × (Int × Unit)))) × ((List (List Int)) × Unit))) => (brR (eqD (Ty.arr 4 (Ty.int IntKind.u64)) y_46.1.1 n_34) (Option.bind (c_ledger_Ledger_WithdrawVault ((some (y_47.1, (y_47.2.1, y_47.2.2))), (v_37, (y_38.1.1, ())))) (fun (y_48 : ((Int × Unit) × ((Option ((List (Int × ((List Int) × (Int × Unit)))) × ((List (List Int)) × Unit))) × (Unit × (Unit × Unit))))) => (optR y_48.2.1 none (fun (y_49 : ((List (Int × ((List Int) × (Int × Unit)))) × ((List (List Int)) × Unit))) => (brR (decide (y_48.1.1 = (0 : Int))) (Option.bind (c_ledger_Ledger_Supply ((some (y_49.1, (y_49.2.1, y_49.2.2))), ())) (fun (y_50 : (((List Int) × Unit) × ((Option ((List (Int × ((List Int) × (Int × Unit)))) × ((List (List Int)) × Unit))) × Unit))) => (optR y_50.2.1 none (fun (y_51 : ((List (Int × ((List Int) × (Int × Unit)))) × ((List (List Int)) × Unit))) => (Option.bind (c_uint256_SaturatingSub (n_34, (y_38.1.1, ()))) (fun (y_52 : (((List Int) × Unit) × (Unit × (Unit × Unit)))) => (brR (eqD (Ty.arr 4 (Ty.int IntKind.u64)) y_50.1.1 y_52.1.1) (Option.bind (c_law11_awake ()) (fun (y_53 : ((Bool × Unit) × Unit)) => (some ((y_53.1.1, ()), ((), ((), ((), ((), ((), ()))))))))) (some ((false, ()), ((), ((), ((), ((), ((), ())))))))))))))) (some ((false, ()), ((), ((), ((), ((), ((), ())))))))))))) (some ((false, ()), ((), ((), ((), ((), ((), ())))))))))))) (some ((false, ()), ((), ((), ((), ((), ((), ())))))))))))) (some ((false, ()), ((), ((), ((), ((), ((), ())))))))))))) (some ((false, ()), ((), ((), ((), ((), ((), ())))))))))))))))))))
noncomputable def T_law11_LedgerTransfer_join2 (c_ledger_Ledger_Balance : F_ledger_Ledger_Balance) (c_uint256_SaturatingSub : F_uint256_SaturatingSub) (c_law0_Mod : F_law0_Mod) (c_ledger_Ledger_PayVault : F_ledger_Ledger_PayVault) (c_ledger_Ledger_Vault : F_ledger_Ledger_Vault) (c_ledger_Ledger_Supply : F_ledger_Ledger_Supply) (c_ledger_Ledger_WithdrawVault : F_ledger_Ledger_WithdrawVault) (c_law11_awake : F_law11_awake) (a_17 : Int) (b_18 : Int) (vault_19 : Int) (n_20 : (List Int)) (m_21 : (List Int)) (l_22 : ((List (Int × ((List Int) × (Int × Unit)))) × ((List (List Int)) × Unit))) (e_23 : Int) : Option ((Bool × Unit) × (Unit × (Unit × (Unit × (Unit × (Unit × Unit)))))) := (brR (decide (e_23 = (0 : Int))) (brR (!(decide (a_17 = b_18))) (Option.bind (c_ledger_Ledger_Balance ((some (l_22.1, (l_22.2.1, l_22.2.2))), (b_18, ()))) (fun (y_24 : (((List Int) × Unit) × ((Option ((List (Int × ((List Int) × (Int × Unit)))) × ((List (List Int)) × Unit))) × (Unit × Unit)))) => (optR y_24.2.1 none (fun (y_25 : ((List (Int × ((List Int) × (Int × Unit)))) × ((List (List Int)) × Unit))) => (brR (!(eqD (Ty.arr 4 (Ty.int IntKind.u64)) y_24.1.1 m_21)) (some ((false, ()), ((), ((), ((), ((), ((), ()))))))) (Option.bind (c_ledger_Ledger_Balance ((some (y_25.1, (y_25.2.1, y_25.2.2))), (a_17, ()))) (fun (y_26 : (((List Int) × Unit) × ((Option ((List (Int × ((List Int) × (Int × Unit)))) × ((List (List Int)) × Unit))) × (Unit × Unit)))) => (optR y_26.2.1 none (fun (y_27 : ((List (Int × ((List Int) × (Int × Unit)))) × ((List (List Int)) × Unit))) => (Option.bind (c_uint256_SaturatingSub (n_20, (m_21, ()))) (fun (y_28 : (((List Int) × Unit) × (Unit × (Unit × Unit)))) => (brR (!(eqD (Ty.arr 4 (Ty.int IntKind.u64)) y_26.1.1 y_28.1.1)) (some ((false, ()), ((), ((), ((), ((), ((), ()))))))) (brR (!(decide (e_23 = (0 : Int)))) (Option.bind (c_ledger_Ledger_Balance ((some (y_27.1, (y_27.2.1, y_27.2.2))), (a_17, ()))) (fun (y_29 : (((List Int) × Unit) × ((Option ((List (Int × ((List Int) × (Int × Unit)))) × ((List (List Int)) × Unit))) × (Unit × Unit)))) => (optR y_29.2.1 none (fun (y_30 : ((List (Int × ((List Int) × (Int × Unit)))) × ((List (List Int)) × Unit))) => (brR (!(eqD (Ty.arr 4 (Ty.int IntKind.u64)) y_29.1.1 n_20)) (some ((false, ()), ((), ((), ((), ((), ((), ()))))))) (joinR (fun (x : (Int × (Int × ((List Int) × (((List (Int × ((List Int) × (Int × Unit)))) × ((List (List Int)) × Unit)) × Unit))))) => T_law11_LedgerTransfer_join3 c_law0_Mod c_ledger_Ledger_Balance c_ledger_Ledger_PayVault c_ledger_Ledger_Vault c_ledger_Ledger_Supply c_ledger_Ledger_WithdrawVault c_uint256_SaturatingSub c_law11_awake x.1 x.2.1 x.2.2.1 x.2.2.2.1) (b_18, (vault_19, (n_20, ((y_30.1, (y_30.2.1, y_30.2.2)), ())))))))))) (brR (decide (a_17 = b_18)) (Option.bind (c_ledger_Ledger_Balance ((some (y_27.1, (y_27.2.1, y_27.2.2))), (a_17, ()))) (fun (y_54 : (((List Int) × Unit) × ((Option ((List (Int × ((List Int) × (Int × Unit)))) × ((List (List Int)) × Unit))) × (Unit × Unit)))) => (optR y_54.2.1 none (fun (y_55 : ((List (Int × ((List Int) × (Int × Unit)))) × ((List (List Int)) × Unit))) => (brR (!(eqD (Ty.arr 4 (Ty.int IntKind.u64)) y_54.1.1 n_20)) (some ((false, ()), ((), ((), ((), ((), ((), ()))))))) (joinR (fun (x : (Int × (Int × ((List Int) × (((List (Int × ((List Int) × (Int × Unit)))) × ((List (List Int)) × Unit)) × Unit))))) => T_law11_LedgerTransfer_join3 c_law0_Mod c_ledger_Ledger_Balance c_ledger_Ledger_PayVault c_ledger_Ledger_Vault c_ledger_Ledger_Supply c_ledger_Ledger_WithdrawVault c_uint256_SaturatingSub c_law11_awake x.1 x.2.1 x.2.2.1 x.2.2.2.1) (b_18, (vault_19, (n_20, ((y_55.1, (y_55.2.1, y_55.2.2)), ())))))))))) (joinR (fun (x : (Int × (Int × ((List Int) × (((List (Int × ((List Int) × (Int × Unit)))) × ((List (List Int)) × Unit)) × Unit))))) => T_law11_LedgerTransfer_join3 c_law0_Mod c_ledger_Ledger_Balance c_ledger_Ledger_PayVault c_ledger_Ledger_Vault c_ledger_Ledger_Supply c_ledger_Ledger_WithdrawVault c_uint256_SaturatingSub c_law11_awake x.1 x.2.1 x.2.2.1 x.2.2.2.1) (b_18, (vault_19, (n_20, ((y_27.1, (y_27.2.1, y_27.2.2)), ()))))))))))))))))))) (brR (!(decide (e_23 = (0 : Int)))) (Option.bind (c_ledger_Ledger_Balance ((some (l_22.1, (l_22.2.1, l_22.2.2))), (a_17, ()))) (fun (y_56 : (((List Int) × Unit) × ((Option ((List (Int × ((List Int) × (Int × Unit)))) × ((List (List Int)) × Unit))) × (Unit × Unit)))) => (optR y_56.2.1 none (fun (y_57 : ((List (Int × ((List Int) × (Int × Unit)))) × ((List (List Int)) × Unit))) => (brR (!(eqD (Ty.arr 4 (Ty.int IntKind.u64)) y_56.1.1 n_20)) (some ((false, ()), ((), ((), ((), ((), ((), ()))))))) (joinR (fun (x : (Int × (Int × ((List Int) × (((List (Int × ((List Int) × (Int × Unit)))) × ((List (List Int)) × Unit)) × Unit))))) => T_law11_LedgerTransfer_join3 c_law0_Mod c_ledger_Ledger_Balance c_ledger_Ledger_PayVault c_ledger_Ledger_Vault c_ledger_Ledger_Supply c_ledger_Ledger_WithdrawVault c_uint256_SaturatingSub c_law11_awake x.1 x.2.1 x.2.2.1 x.2.2.2.1) (b_18, (vault_19, (n_20, ((y_57.1, (y_57.2.1, y_57.2.2)), ())))))))))) (brR (decide (a_17 = b_18)) (Option.bind (c_ledger_Ledger_Balance ((some (l_22.1, (l_22.2.1, l_22.2.2))), (a_17, ()))) (fun (y_58 : (((List Int) × Unit) × ((Option ((List (Int × ((List Int) × (Int × Unit)))) × ((List (List Int)) × Unit))) × (Unit × Unit)))) => (optR y_58.2.1 none (fun (y_59 : ((List (Int × ((List Int) × (Int × Unit)))) × ((List (List Int)) × Unit))) => (brR (!(eqD (Ty.arr 4 (Ty.int IntKind.u64)) y_58.1.1 n_20)) (some ((false, ()), ((), ((), ((), ((), ((), ()))))))) (joinR (fun (x : (Int × (Int × ((List Int) × (((List (Int × ((List Int) × (Int × Unit)))) × ((List (List Int)) × Unit)) × Unit))))) => T_law11_LedgerTransfer_join3 c_law0_Mod c_ledger_Ledger_Balance c_ledger_Ledger_PayVault c_ledger_Ledger_Vault c_ledger_Ledger_Supply c_ledger_Ledger_WithdrawVault c_uint256_SaturatingSub c_law11_awake x.1 x.2.1 x.2.2.1 x.2.2.2.1) (b_18, (vault_19, (n_20, ((y_59.1, (y_59.2.1, y_59.2.2)), ())))))))))) (joinR (fun (x : (Int × (Int × ((List Int) × (((List (Int × ((List Int) × (Int × Unit)))) × ((List (List Int)) × Unit)) × Unit))))) => T_law11_LedgerTransfer_join3 c_law0_Mod c_ledger_Ledger_Balance c_ledger_Ledger_PayVault c_ledger_Ledger_Vault c_ledger_Ledger_Supply c_ledger_Ledger_WithdrawVault c_uint256_SaturatingSub c_law11_awake x.1 x.2.1 x.2.2.1 x.2.2.2.1) (b_18, (vault_19, (n_20, ((l_22.1, (l_22.2.1, l_22.2.2)), ())))))))) (brR (!(decide (e_23 = (0 : Int)))) (Option.bind (c_ledger_Ledger_Balance ((some (l_22.1, (l_22.2.1, l_22.2.2))), (a_17, ()))) (fun (y_60 : (((List Int) × Unit) × ((Option ((List (Int × ((List Int) × (Int × Unit)))) × ((List (List Int)) × Unit))) × (Unit × Unit)))) => (optR y_60.2.1 none (fun (y_61 : ((List (Int × ((List Int) × (Int × Unit)))) × ((List (List Int)) × Unit))) => (brR (!(eqD (Ty.arr 4 (Ty.int IntKind.u64)) y_60.1.1 n_20)) (some ((false, ()), ((), ((), ((), ((), ((), ()))))))) (joinR (fun (x : (Int × (Int × ((List Int) × (((List (Int × ((List Int) × (Int × Unit)))) × ((List (List Int)) × Unit)) × Unit))))) => T_law11_LedgerTransfer_join3 c_law0_Mod c_ledger_Ledger_Balance c_ledger_Ledger_PayVault c_ledger_Ledger_Vault c_ledger_Ledger_Supply c_ledger_Ledger_WithdrawVault c_uint256_SaturatingSub c_law11_awake x.1 x.2.1 x.2.2.1 x.2.2.2.1) (b_18, (vault_19, (n_20, ((y_61.1, (y_61.2.1, y_61.2.2)), ())))))))))) (brR (decide (a_17 = b_18)) (Option.bind (c_ledger_Ledger_Balance ((some (l_22.1, (l_22.2.1, l_22.2.2))), (a_17, ()))) (fun (y_62 : (((List Int) × Unit) × ((Option ((List (Int × ((List Int) × (Int × Unit)))) × ((List (List Int)) × Unit))) × (Unit × Unit)))) => (optR y_62.2.1 none (fun (y_63 : ((List (Int × ((List Int) × (Int × Unit)))) × ((List (List Int)) × Unit))) => (brR (!(eqD (Ty.arr 4 (Ty.int IntKind.u64)) y_62.1.1 n_20)) (some ((false, ()), ((), ((), ((), ((), ((), ()))))))) (joinR (fun (x : (Int × (Int × ((List Int) × (((List (Int × ((List Int) × (Int × Unit)))) × ((List (List Int)) × Unit)) × Unit))))) => T_law11_LedgerTransfer_join3 c_law0_Mod c_ledger_Ledger_Balance c_ledger_Ledger_PayVault c_ledger_Ledger_Vault c_ledger_Ledger_Supply c_ledger_Ledger_WithdrawVault c_uint256_SaturatingSub c_law11_awake x.1 x.2.1 x.2.2.1 x.2.2.2.1) (b_18, (vault_19, (n_20, ((y_63.1, (y_63.2.1, y_63.2.2)), ())))))))))) (joinR (fun (x : (Int × (Int × ((List Int) × (((List (Int × ((List Int) × (Int × Unit)))) × ((List (List Int)) × Unit)) × Unit))))) => T_law11_LedgerTransfer_join3 c_law0_Mod c_ledger_Ledger_Balance c_ledger_Ledger_PayVault c_ledger_Ledger_Vault c_ledger_Ledger_Supply c_ledger_Ledger_WithdrawVault c_uint256_SaturatingSub c_law11_awake x.1 x.2.1 x.2.2.1 x.2.2.2.1) (b_18, (vault_19, (n_20, ((l_22.1, (l_22.2.1, l_22.2.2)), ()))))))))
noncomputable def T_law11_LedgerTransfer_join1 (c_ledger_Ledger_Mint : F_ledger_Ledger_Mint) (c_ledger_Ledger_Transfer : F_ledger_Ledger_Transfer) (c_uint256_Cmp : F_uint256_Cmp) (c_ledger_Ledger_Balance : F_ledger_Ledger_Balance) (c_uint256_SaturatingSub : F_uint256_SaturatingSub) (c_law0_Mod : F_law0_Mod) (c_ledger_Ledger_PayVault : F_ledger_Ledger_PayVault) (c_ledger_Ledger_Vault : F_ledger_Ledger_Vault) (c_ledger_Ledger_Supply : F_ledger_Ledger_Supply) (c_ledger_Ledger_WithdrawVault : F_ledger_Ledger_WithdrawVault) (c_law11_awake : F_law11_awake) (a_5 : Int) (b_6 : Int) (vault_7 : Int) (n_8 : (List Int)) (m_9 : (List Int)) (l_10 : ((List (Int × ((List Int) × (Int × Unit)))) × ((List (List Int)) × Unit))) : Option ((Bool × Unit) × (Unit × (Unit × (Unit × (Unit × (Unit × Unit)))))) := (Option.bind (c_ledger_Ledger_Mint ((some (l_10.1, (l_10.2.1, l_10.2.2))), (a_5, (n_8, ())))) (fun (y_11 : ((Int × Unit) × ((Option ((List (Int × ((List Int) × (Int × Unit)))) × ((List (List Int)) × Unit))) × (Unit × (Unit × Unit))))) => (optR y_11.2.1 none (fun (y_12 : ((List (Int × ((List Int) × (Int × Unit)))) × ((List (List Int)) × Unit))) => (brR (!(decide (y_11.1.1 = (0 : Int)))) (some ((false, ()), ((), ((), ((), ((), ((), ()))))))) (Option.bind (c_ledger_Ledger_Transfer ((some (y_12.1, (y_12.2.1, y_12.2.2))), (a_5, (b_6, (m_9, ()))))) (fun (y_13 : ((Int × Unit) × ((Option ((List (Int × ((List Int) × (Int × Unit)))) × ((List (List Int)) × Unit))) × (Unit × (Unit × (Unit × Unit)))))) => (optR y_13.2.1 none (fun (y_14 : ((List (Int × ((List Int) × (Int × Unit)))) × ((List (List Int)) × Unit))) => (Option.bind (c_uint256_Cmp (m_9, (n_8, ()))) (fun (y_15 : ((Int × Unit) × (Unit × (Unit × Unit)))) => (brR (!(eqD (Ty.bool) (decide (y_13.1.1 = (0 : Int))) (decide (y_15.1.1 ≤ (0 : Int))))) (some ((false, ()), ((), ((), ((), ((), ((), ()))))))) (brR (!(decide (y_13.1.1 = (0 : Int)))) (brR (!(decide (y_13.1.1 = (10 : Int)))) (some ((false, ()), ((), ((), ((), ((), ((), ()))))))) (joinR (fun (x : (Int × (Int × (Int × ((List Int) × ((List Int) × (((List (Int × ((List Int) × (Int × Unit)))) × ((List (List Int)) × Unit)) × (Int × Unit)))))))) => T_law11_LedgerTransfer_join2 c_ledger_Ledger_Balance c_uint256_SaturatingSub c_law0_Mod c_ledger_Ledger_PayVault c_ledger_Ledger_Vault c_ledger_Ledger_Supply c_ledger_Ledger_WithdrawVault c_law11_awake x.1 x.2.1 x.2.2.1 x.2.2.2.1 x.2.2.2.2.1 x.2.2.2.2.2.1 x.2.2.2.2.2.2.1) (a_5, (b_6, (vault_7, (n_8, (m_9, ((y_14.1, (y_14.2.1, y_14.2.2)), (y_13.1.1, ()))))))))) (joinR (fun (x : (Int × (Int × (Int × ((List Int) × ((List Int) × (((List (Int × ((List Int) × (Int × Unit)))) × ((List (List Int)) × Unit)) × (Int × Unit)))))))) => T_law11_LedgerTransfer_join2 c_ledger_Ledger_Balance c_uint256_SaturatingSub c_law0_Mod c_ledger_Ledger_PayVault c_ledger_Ledger_Vault c_ledger_Ledger_Supply c_ledger_Ledger_WithdrawVault c_law11_awake x.1 x.2.1 x.2.2.1 x.2.2.2.1 x.2.2.2.2.1 x.2.2.2.2.2.1 x.2.2.2.2.2.2.1) (a_5, (b_6, (vault_7, (n_8, (m_9, ((y_14.1, (y_14.2.1, y_14.2.2)), (y_13.1.1, ())))))))))))))))))))))
noncomputable def T_law11_LedgerTransfer (L : LoopD) (c_ledger_New : F_ledger_New) (c_law11_awake : F_law11_awake) (c_ledger_Ledger_Mint : F_ledger_Ledger_Mint) (c_ledger_Ledger_Transfer : F_ledger_Ledger_Transfer) (c_uint256_Cmp : F_uint256_Cmp) (c_ledger_Ledger_Balance : F_ledger_Ledger_Balance) (c_uint256_SaturatingSub : F_uint256_SaturatingSub) (c_law0_Mod : F_law0_Mod) (c_ledger_Ledger_PayVault : F_ledger_Ledger_PayVault) (c_ledger_Ledger_Vault : F_ledger_Ledger_Vault) (c_ledger_Ledger_Supply : F_ledger_Ledger_Supply) (c_ledger_Ledger_WithdrawVault : F_ledger_Ledger_WithdrawVault) (a_ : Int) (b_ : Int) (n_ : (List Int)) (m_ : (List Int)) (vault_ : Int) : Option ((Bool × Unit) × (Unit × (Unit × (Unit × (Unit × (Unit × Unit)))))) := (Option.bind (c_ledger_New ()) (fun (y_0 : ((((List (Int × ((List Int) × (Int × Unit)))) × ((List (List Int)) × Unit)) × Unit) × Unit)) => (brR (decide (a_ = (0 : Int))) (joinR (fun (x : (((List (Int × ((List Int) × (Int × Unit)))) × ((List (List Int)) × Unit)) × Unit)) => T_law11_LedgerTransfer_join0 c_law11_awake x.1) ((y_0.1.1.1, (y_0.1.1.2.1, y_0.1.1.2.2)), ())) (brR (decide (b_ = (0 : Int))) (joinR (fun (x : (((List (Int × ((List Int) × (Int × Unit)))) × ((List (List Int)) × Unit)) × Unit)) => T_law11_LedgerTransfer_join0 c_law11_awake x.1) ((y_0.1.1.1, (y_0.1.1.2.1, y_0.1.1.2.2)), ())) (joinR (fun (x : (Int × (Int × (Int × ((List Int) × ((List Int) × (((List (Int × ((List Int) × (Int × Unit)))) × ((List (List Int)) × Unit)) × Unit))))))) => T_law11_LedgerTransfer_join1 c_ledger_Ledger_Mint c_ledger_Ledger_Transfer c_uint256_Cmp c_ledger_Ledger_Balance c_uint256_SaturatingSub c_law0_Mod c_ledger_Ledger_PayVault c_ledger_Ledger_Vault c_ledger_Ledger_Supply c_ledger_Ledger_WithdrawVault c_law11_awake x.1 x.2.1 x.2.2.1 x.2.2.2.1 x.2.2.2.2.1 x.2.2.2.2.2.1) (a_, (b_, (vault_, (n_, (m_, ((y_0.1.1.1, (y_0.1.1.2.1, y_0.1.1.2.2)), ())))))))))))
noncomputable def sol_law11_LedgerTransfer : F_law11_LedgerTransfer := fun x => T_law11_LedgerTransfer bigLoop sol_ledger_New sol_law11_awake sol_ledger_Ledger_Mint sol_ledger_Ledger_Transfer sol_uint256_Cmp sol_ledger_Ledger_Balance sol_uint256_SaturatingSub sol_law0_Mod sol_ledger_Ledger_PayVault sol_ledger_Ledger_Vault sol_ledger_Ledger_Supply sol_ledger_Ledger_WithdrawVault x.1 x.2.1 x.2.2.1 x.2.2.2.1 x.2.2.2.2.1
end Go.Pon
set_option autoImplicit false
set_option linter.unusedVariables false
namespace Go.Pon
open Go
theorem brR_ite {α : Type} (c : Bool) (t e : Option α) : brR c t e = if c = true then t else e := by cases c <;> rfl
theorem brR_dec {α : Type} (p : Prop) [Decidable p] (t e : Option α) : brR (decide p) t e = if p then t else e := by
  rw [brR_ite]; by_cases h : p <;> simp [h]
theorem brR_not {α : Type} (c : Bool) (t e : Option α) : brR (!c) t e = brR c e t := by cases c <;> rfl
theorem brR_and {α : Type} (a b : Bool) (t e : Option α) : brR (a && b) t e = brR a (brR b t e) e := by cases a <;> rfl
theorem brR_inR {α : Type} (i : Int) (n : Nat) (t e : Option α) : brR (inR i n) t e = if 0 ≤ i ∧ i < n then t else e := by
  unfold inR; rw [brR_and, brR_dec, brR_dec]; by_cases h1 : 0 ≤ i <;> by_cases h2 : i < n <;> simp [h1, h2]
theorem bind_some' {α β : Type} (a : α) (f : α → Option β) : Option.bind (some a) f = f a := rfl
theorem roomy_dec {n : Nat} {t : Ty} : roomy n t = decide (0 < t.size ∧ n * (24 * t.size) ≤ 140737488355328) := by
  unfold roomy
  by_cases h : 0 < t.size
  · simp [h]
  · simp [h]
theorem bigLoop_rule {ω δ : Type} {round : (δ → Option ω) → δ → Option ω} (I : δ → Prop) (m : δ → Nat) (g : δ → Option ω)
    (h : ∀ x (again : δ → Option ω), I x → (∀ y, I y → m y < m x → again y = g y) → round again x = g x) {x : δ} (hx : I x) (hm : m x < bigN) : bigLoop ω δ round x = g x := by
  have key : ∀ n x, I x → m x < n → loopN round n x = g x := by
    intro n
    induction n with
    | zero => intro x _ hm; omega
    | succ n ih =>
      intro x hx hm
      rw [loopN_succ]
      exact h x _ hx fun y hy hlt => ih y hy (by omega)
  rw [bigLoop_def]
  exact key bigN x hx hm
theorem bigN_eq : bigN = 18446744073709551616 := rfl
theorem w_i64 {n : Int} (h1 : -9223372036854775808 ≤ n) (h2 : n ≤ 9223372036854775807) : IntKind.i64.wrap n = n := by rw [IntKind.wrap_i64]; omega
theorem w_u64 {n : Int} (h1 : 0 ≤ n) (h2 : n ≤ 18446744073709551615) : IntKind.u64.wrap n = n := by rw [IntKind.wrap_u64]; omega
theorem tmod_pos {a b : Int} (h : 0 ≤ a) : Int.tmod a b = a % b := Int.tmod_eq_emod_of_nonneg h
theorem inK_u64 {n : Int} : inK .u64 n ↔ 0 ≤ n ∧ n ≤ 18446744073709551615 := by simp [inK, IntKind.min, IntKind.max, IntKind.signed, IntKind.bits]
theorem inK_i64 {n : Int} : inK .i64 n ↔ -9223372036854775808 ≤ n ∧ n ≤ 9223372036854775807 := by simp [inK, IntKind.min, IntKind.max, IntKind.signed, IntKind.bits]
theorem getD_mem {α : Type} {l : List α} {i : Nat} {d : α} (h : i < l.length) : List.getD l i d ∈ l := by
  rw [List.getD_eq_getElem?_getD, List.getElem?_eq_getElem h]; simp
theorem getD_all {p : Int → Prop} {l : List Int} (h : ∀ x ∈ l, p x) (h0 : p 0) (i : Nat) : p (List.getD l i 0) := by
  rcases Nat.lt_or_ge i l.length with hi | hi
  · exact h _ (getD_mem hi)
  · rw [List.getD_eq_getElem?_getD, List.getElem?_eq_none hi]; exact h0
end Go.Pon
set_option autoImplicit false
namespace Go.Pon
open Go
def U64 (n : Int) : Prop := 0 ≤ n ∧ n ≤ 18446744073709551615
def B256 (n : Nat) : Prop := n < 115792089237316195423570985008687907853269984665640564039457584007913129639936
theorem ext_getD {α : Type} {l m : List α} {d : α} (hl : l.length = m.length) (h : ∀ k, k < l.length → l.getD k d = m.getD k d) : l = m := by
  apply List.ext_getElem hl
  intro k h1 h2
  have := h k h1
  rw [List.getD_eq_getElem?_getD, List.getElem?_eq_getElem h1, List.getD_eq_getElem?_getD, List.getElem?_eq_getElem h2] at this
  exact this
theorem take_succ' {α : Type} {l : List α} {d : α} {i : Nat} (h : i < l.length) : l.take (i + 1) = l.take i ++ [l.getD i d] := by
  rw [List.take_succ_eq_append_getElem h, List.getD_eq_getElem?_getD, List.getElem?_eq_getElem h]; rfl
end Go.Pon
set_option autoImplicit false
set_option linter.unusedVariables false
namespace Go.Pon
open Go
def bitlen (n : Nat) : Nat := if n = 0 then 0 else Nat.log2 n + 1
def lim (n : Nat) : List Int := [((n % 18446744073709551616 : Nat) : Int), ((n / 18446744073709551616 % 18446744073709551616 : Nat) : Int), ((n / 340282366920938463463374607431768211456 % 18446744073709551616 : Nat) : Int), ((n / 6277101735386680763835789423207666416102355444464034512896 : Nat) : Int)]
def val4 (l : List Int) : Nat := (l.getD 0 0).toNat + (l.getD 1 0).toNat * 18446744073709551616 + (l.getD 2 0).toNat * 340282366920938463463374607431768211456 + (l.getD 3 0).toNat * 6277101735386680763835789423207666416102355444464034512896
theorem val4_lim {n : Nat} : val4 (lim n) = n := by
  simp only [val4, lim, List.getD_cons_zero, List.getD_cons_succ, Int.toNat_natCast]
  omega
theorem lim_inj {n m : Nat} : lim n = lim m ↔ n = m := ⟨fun h => by rw [← val4_lim (n := n), h, val4_lim], fun h => by rw [h]⟩
theorem list4 {α : Type} {l : List α} (h : l.length = 4) : ∃ a b c d, l = [a, b, c, d] := by
  match l, h with
  | [a, b, c, d], _ => exact ⟨a, b, c, d, rfl⟩
theorem u256_wf {l : List Int} (h : (Ty.arr 4 (.int .u64)).wf l) : ∃ n, n < 115792089237316195423570985008687907853269984665640564039457584007913129639936 ∧ l = lim n := by
  obtain ⟨h1, h2⟩ := h
  obtain ⟨a, b, c, d, rfl⟩ := list4 (α := Int) h1
  have ha := inK_u64.1 (h2 a (by simp))
  have hb := inK_u64.1 (h2 b (by simp))
  have hc := inK_u64.1 (h2 c (by simp))
  have hd := inK_u64.1 (h2 d (by simp))
  refine ⟨a.toNat + b.toNat * 18446744073709551616 + c.toNat * 340282366920938463463374607431768211456 + d.toNat * 6277101735386680763835789423207666416102355444464034512896, by omega, ?_⟩
  simp only [lim, List.cons.injEq, and_true]
  refine ⟨?_, ?_, ?_, ?_⟩ <;> omega
theorem lim_zero : lim 0 = [0, 0, 0, 0] := rfl
def beB : Nat → Nat → List Int
  | 0, _ => []
  | k + 1, n => ((n / 256 ^ k % 256 : Nat) : Int) :: beB k n
def bylen (n : Nat) : Nat := (bitlen n + 7) / 8
end Go.Pon
set_option autoImplicit false
set_option linter.unusedVariables false
set_option linter.unusedSimpArgs false
namespace Go.Pon
open Go
abbrev AccT := Int × (List Int × (Int × Unit))
abbrev zAcc : AccT := ((0 : Int), ([(0 : Int), (0 : Int), (0 : Int), (0 : Int)], ((0 : Int), ())))
abbrev eAcc (a : Int) : AccT := (a, ([(0 : Int), (0 : Int), (0 : Int), (0 : Int)], ((0 : Int), ())))
inductive AccW : AccT → Prop
  | mk {a : Int} {b : Nat} {n : Int} (ha : U64 a) (hb : B256 b) (hn : U64 n) : AccW (a, (lim b, (n, ())))
def AllA (l : List AccT) : Prop := ∀ x ∈ l, AccW x
def isE (x : AccT) : Prop := x = eAcc x.1
instance (x : AccT) : Decidable (isE x) := inferInstanceAs (Decidable (x = eAcc x.1))
theorem eAccW {a : Int} (h : U64 a) : AccW (eAcc a) := by
  have := AccW.mk (a := a) (b := 0) (n := 0) h (by unfold B256; omega) (by unfold U64; omega)
  exact this
theorem zAccW : AccW zAcc := eAccW (by unfold U64; omega)
theorem AllA.at {l : List AccT} (h : AllA l) (i : Nat) : AccW (l.getD i zAcc) := by
  rcases Nat.lt_or_ge i l.length with hi | hi
  · exact h _ (getD_mem hi)
  · rw [List.getD_eq_getElem?_getD, List.getElem?_eq_none hi]; exact zAccW
def lget : List AccT → Int → AccT
  | [], a => eAcc a
  | x :: l, a => if x.1 = a then x else lget l a
def lput : List AccT → AccT → List AccT
  | [], y => if isE y then [] else [y]
  | x :: l, y => if x.1 < y.1 then x :: lput l y else if x.1 = y.1 then (if isE y then l else y :: l) else (if isE y then x :: l else y :: x :: l)
def Srt (l : List AccT) : Prop := l.Pairwise fun x y => x.1 < y.1
def NE (l : List AccT) : Prop := ∀ x ∈ l, ¬ isE x
def sumL (l : List AccT) : Nat := (l.map fun x => val4 x.2.1).sum
theorem sumL_nil : sumL [] = 0 := rfl
theorem sumL_cons (x : AccT) (l : List AccT) : sumL (x :: l) = val4 x.2.1 + sumL l := by simp [sumL]
theorem sumL_append (l m : List AccT) : sumL (l ++ m) = sumL l + sumL m := by simp [sumL]
theorem lget_absent : ∀ {l : List AccT} {a : Int}, (∀ x ∈ l, x.1 ≠ a) → lget l a = eAcc a
  | [], _, _ => rfl
  | x :: l, a, h => by
    unfold lget
    rw [if_neg (h x (by simp)), lget_absent fun y hy => h y (by simp [hy])]
theorem lget_fst : ∀ (l : List AccT) (a : Int), (lget l a).1 = a
  | [], _ => rfl
  | x :: l, a => by
    unfold lget
    by_cases h : x.1 = a
    · rw [if_pos h]; exact h
    · rw [if_neg h]; exact lget_fst l a
theorem lget_mem : ∀ (l : List AccT) (a : Int), lget l a ∈ l ∨ ((∀ x ∈ l, x.1 ≠ a) ∧ lget l a = eAcc a)
  | [], _ => .inr ⟨fun x h => by simp at h, rfl⟩
  | x :: l, a => by
    unfold lget
    by_cases h : x.1 = a
    · rw [if_pos h]; exact .inl (by simp)
    · rw [if_neg h]
      rcases lget_mem l a with h1 | ⟨h1, h2⟩
      · exact .inl (by simp [h1])
      · exact .inr ⟨fun y hy => by
          rcases List.mem_cons.1 hy with rfl | hy
          · exact h
          · exact h1 y hy, h2⟩
theorem lgetW {l : List AccT} {a : Int} (h : AllA l) (ha : U64 a) : AccW (lget l a) := by
  rcases lget_mem l a with h1 | ⟨_, h2⟩
  · exact h _ h1
  · rw [h2]; exact eAccW ha
theorem mem_lput : ∀ {l : List AccT} {x y : AccT}, x ∈ lput l y → x ∈ l ∨ (x = y ∧ ¬ isE y)
  | [], x, y, h => by
    unfold lput at h
    by_cases he : isE y
    · rw [if_pos he] at h; simp at h
    · rw [if_neg he] at h; exact .inr ⟨by simpa using h, he⟩
  | z :: l, x, y, h => by
    unfold lput at h
    by_cases h1 : z.1 < y.1
    · rw [if_pos h1] at h
      rcases List.mem_cons.1 h with rfl | h
      · exact .inl (by simp)
      · rcases mem_lput h with h | h
        · exact .inl (by simp [h])
        · exact .inr h
    · rw [if_neg h1] at h
      by_cases h2 : z.1 = y.1
      · rw [if_pos h2] at h
        by_cases he : isE y
        · rw [if_pos he] at h; exact .inl (by simp [h])
        · rw [if_neg he] at h
          rcases List.mem_cons.1 h with rfl | h
          · exact .inr ⟨rfl, he⟩
          · exact .inl (by simp [h])
      · rw [if_neg h2] at h
        by_cases he : isE y
        · rw [if_pos he] at h; exact .inl h
        · rw [if_neg he] at h
          rcases List.mem_cons.1 h with rfl | h
          · exact .inr ⟨rfl, he⟩
          · exact .inl h
theorem srt_lput : ∀ {l : List AccT} {y : AccT}, Srt l → Srt (lput l y)
  | [], y, _ => by
    unfold lput
    by_cases he : isE y
    · rw [if_pos he]; exact List.Pairwise.nil
    · rw [if_neg he]; exact List.pairwise_singleton _ _
  | z :: l, y, h => by
    have h' := List.pairwise_cons.1 h
    unfold lput
    by_cases h1 : z.1 < y.1
    · rw [if_pos h1]
      refine List.pairwise_cons.2 ⟨fun x hx => ?_, srt_lput h'.2⟩
      rcases mem_lput hx with hx | ⟨rfl, _⟩
      · exact h'.1 x hx
      · exact h1
    · rw [if_neg h1]
      by_cases h2 : z.1 = y.1
      · rw [if_pos h2]
        by_cases he : isE y
        · rw [if_pos he]; exact h'.2
        · rw [if_neg he]
          exact List.pairwise_cons.2 ⟨fun x hx => by rw [← h2]; exact h'.1 x hx, h'.2⟩
      · rw [if_neg h2]
        by_cases he : isE y
        · rw [if_pos he]; exact h
        · rw [if_neg he]
          refine List.pairwise_cons.2 ⟨fun x hx => ?_, h⟩
          rcases List.mem_cons.1 hx with rfl | hx
          · omega
          · have := h'.1 x hx; omega
theorem ne_lput {l : List AccT} {y : AccT} (h : NE l) : NE (lput l y) := fun x hx => by
  rcases mem_lput hx with hx | ⟨rfl, he⟩
  · exact h x hx
  · exact he
theorem all_lput {l : List AccT} {y : AccT} (h : AllA l) (hy : AccW y) : AllA (lput l y) := fun x hx => by
  rcases mem_lput hx with hx | ⟨rfl, he⟩
  · exact h x hx
  · exact hy
theorem len_lput : ∀ (l : List AccT) (y : AccT), (lput l y).length ≤ l.length + 1
  | [], y => by
    unfold lput
    by_cases he : isE y
    · rw [if_pos he]; simp
    · rw [if_neg he]; simp
  | z :: l, y => by
    have := len_lput l y
    unfold lput
    split
    · simp; omega
    · split
      · split <;> (simp; try omega)
      · split <;> simp
theorem lget_lput : ∀ {l : List AccT} {y : AccT} {a : Int}, Srt l → lget (lput l y) a = if a = y.1 then y else lget l a
  | [], y, a, _ => by
    unfold lput
    by_cases he : isE y
    · rw [if_pos he]
      by_cases ha : a = y.1
      · rw [if_pos ha, ha]; exact he.symm
      · rw [if_neg ha]
    · rw [if_neg he]
      simp only [lget]
      by_cases ha : a = y.1
      · rw [if_pos ha, if_pos ha.symm]
      · rw [if_neg ha, if_neg fun h => ha h.symm]
  | z :: l, y, a, h => by
    have h' := List.pairwise_cons.1 h
    unfold lput
    by_cases h1 : z.1 < y.1
    · rw [if_pos h1]
      have ih := lget_lput (y := y) (a := a) h'.2
      simp only [lget]
      rw [ih]
      by_cases hz : z.1 = a
      · rw [if_pos hz, if_neg (by omega), if_pos hz]
      · rw [if_neg hz, if_neg hz]
    · rw [if_neg h1]
      by_cases h2 : z.1 = y.1
      · rw [if_pos h2]
        by_cases he : isE y
        · rw [if_pos he]
          by_cases ha : a = y.1
          · rw [if_pos ha, lget_absent fun x hx => by have := h'.1 x hx; omega, ha]
            exact he.symm
          · rw [if_neg ha]
            simp only [lget]
            rw [if_neg (by omega)]
        · rw [if_neg he]
          simp only [lget]
          by_cases ha : a = y.1
          · rw [if_pos ha, if_pos ha.symm]
          · rw [if_neg ha, if_neg (fun h => ha h.symm), if_neg (by omega)]
      · rw [if_neg h2]
        by_cases he : isE y
        · rw [if_pos he]
          by_cases ha : a = y.1
          · rw [if_pos ha, lget_absent (fun x hx => ?_), ha]
            · exact he.symm
            · rcases List.mem_cons.1 hx with rfl | hx
              · omega
              · have := h'.1 x hx; omega
          · rw [if_neg ha]
        · rw [if_neg he]
          simp only [lget]
          by_cases ha : a = y.1
          · rw [if_pos ha, if_pos ha.symm]
          · rw [if_neg ha, if_neg fun h => ha h.symm]
theorem val4_z : val4 [(0 : Int), (0 : Int), (0 : Int), (0 : Int)] = 0 := by decide
theorem isE_val {y : AccT} (h : isE y) : val4 y.2.1 = 0 := by
  unfold isE at h; rw [h]; exact val4_z
theorem sum_lput : ∀ {l : List AccT} {y : AccT}, Srt l → sumL (lput l y) + val4 (lget l y.1).2.1 = sumL l + val4 y.2.1
  | [], y, _ => by
    unfold lput lget
    by_cases he : isE y
    · rw [if_pos he, isE_val he, val4_z]
    · rw [if_neg he, val4_z, sumL_cons, sumL_nil]; omega
  | z :: l, y, h => by
    have h' := List.pairwise_cons.1 h
    unfold lput
    by_cases h1 : z.1 < y.1
    · rw [if_pos h1]
      have ih := sum_lput (y := y) h'.2
      simp only [lget]
      rw [if_neg (by omega), sumL_cons, sumL_cons]; omega
    · rw [if_neg h1]
      by_cases h2 : z.1 = y.1
      · rw [if_pos h2]
        simp only [lget]
        rw [if_pos h2]
        by_cases he : isE y
        · rw [if_pos he, isE_val he, sumL_cons]; omega
        · rw [if_neg he, sumL_cons, sumL_cons]; omega
      · rw [if_neg h2, lget_absent (fun x hx => ?_), val4_z]
        · by_cases he : isE y
          · rw [if_pos he, isE_val he]
          · rw [if_neg he, sumL_cons y]; omega
        · rcases List.mem_cons.1 hx with rfl | hx
          · exact h2
          · have := h'.1 x hx; omega
def cntA : List AccT → Int → Nat
  | [], _ => 0
  | p :: l, a => if p.1 < a then cntA l a + 1 else 0
theorem cntA_cons (p : AccT) (l : List AccT) (a : Int) : cntA (p :: l) a = if p.1 < a then cntA l a + 1 else 0 := rfl
theorem cntA_le (a : Int) : ∀ l : List AccT, cntA l a ≤ l.length
  | [] => by simp [cntA]
  | p :: l => by
    have := cntA_le a l
    unfold cntA
    split
    · simp; omega
    · simp
theorem cntA_lt : ∀ {l : List AccT} {a : Int} {i : Nat}, i < cntA l a → (l.getD i zAcc).1 < a
  | [], a, i, h => by simp [cntA] at h
  | p :: l, a, i, h => by
    unfold cntA at h
    by_cases hp : p.1 < a
    · rw [if_pos hp] at h
      cases i with
      | zero => exact hp
      | succ i => exact cntA_lt (l := l) (by omega)
    · rw [if_neg hp] at h; omega
theorem srt_lt {l : List AccT} (h : Srt l) {i j : Nat} (hij : i < j) (hj : j < l.length) : (l.getD i zAcc).1 < (l.getD j zAcc).1 := by
  have := List.pairwise_iff_getElem.1 h i j (by omega) hj hij
  rw [List.getD_eq_getElem?_getD, List.getElem?_eq_getElem (by omega), List.getD_eq_getElem?_getD, List.getElem?_eq_getElem hj]
  exact this
theorem cntA_at : ∀ {l : List AccT} {a : Int}, cntA l a < l.length → a ≤ (l.getD (cntA l a) zAcc).1
  | [], a, h => by simp [cntA] at h
  | p :: l, a, h => by
    unfold cntA at h ⊢
    by_cases hp : p.1 < a
    · rw [if_pos hp] at h ⊢
      exact cntA_at (l := l) (by simpa using h)
    · rw [if_neg hp] at h ⊢
      show a ≤ p.1
      omega
theorem cntA_ge {l : List AccT} (hs : Srt l) {a : Int} {i : Nat} (h : cntA l a ≤ i) (hi : i < l.length) : a ≤ (l.getD i zAcc).1 := by
  have h1 := cntA_at (l := l) (a := a) (by omega)
  rcases Nat.lt_or_ge (cntA l a) i with h2 | h2
  · have := srt_lt hs h2 hi; omega
  · rw [show i = cntA l a by omega]; exact h1
abbrev foundA (l : List AccT) (a : Int) : Prop := cntA l a < l.length ∧ (l.getD (cntA l a) zAcc).1 = a
theorem lget_cnt : ∀ {l : List AccT} {a : Int}, Srt l → lget l a = if foundA l a then l.getD (cntA l a) zAcc else eAcc a
  | [], a, _ => rfl
  | p :: l, a, h => by
    have h' := List.pairwise_cons.1 h
    unfold foundA
    rw [cntA_cons]
    simp only [lget]
    by_cases hp : p.1 < a
    · rw [if_neg (by omega), if_pos hp, lget_cnt h'.2]
      unfold foundA
      simp only [List.length_cons, Nat.add_lt_add_iff_right, List.getD_cons_succ]
    · rw [if_neg hp]
      simp only [List.length_cons, List.getD_cons_zero, Nat.zero_lt_succ, true_and]
      by_cases he : p.1 = a
      · rw [if_pos he, if_pos he]
      · rw [if_neg he, if_neg he, lget_absent fun x hx => by have := h'.1 x hx; omega]
theorem lput_cnt : ∀ (l : List AccT) (y : AccT), lput l y = if foundA l y.1 then (if isE y then l.take (cntA l y.1) ++ l.drop (cntA l y.1 + 1) else l.set (cntA l y.1) y) else
    (if isE y then l else l.take (cntA l y.1) ++ (y :: l.drop (cntA l y.1)))
  | [], y => by
    unfold lput foundA cntA
    simp
  | p :: l, y => by
    unfold foundA
    rw [cntA_cons]
    unfold lput
    by_cases hp : p.1 < y.1
    · rw [if_pos hp, if_pos hp, lput_cnt l y]
      unfold foundA
      simp only [List.length_cons, Nat.add_lt_add_iff_right, List.getD_cons_succ, List.take_succ_cons, List.drop_succ_cons, List.set_cons_succ]
      split
      · split <;> rfl
      · split <;> rfl
    · rw [if_neg hp, if_neg hp]
      simp only [List.length_cons, List.getD_cons_zero, Nat.zero_lt_succ, true_and, List.take_zero, List.drop_zero, List.nil_append, List.set_cons_zero, Nat.zero_add, List.drop_succ_cons]
def Dist (m : List AccT) : Prop := m.Pairwise fun x y => x.1 ≠ y.1
def mput : List AccT → AccT → List AccT
  | [], y => [y]
  | x :: m, y => if x.1 = y.1 then y :: m else x :: mput m y
theorem mem_mput : ∀ {m : List AccT} {x y : AccT}, x ∈ mput m y → x ∈ m ∨ x = y
  | [], x, y, h => .inr (by simpa [mput] using h)
  | z :: m, x, y, h => by
    unfold mput at h
    by_cases hz : z.1 = y.1
    · rw [if_pos hz] at h
      rcases List.mem_cons.1 h with rfl | h
      · exact .inr rfl
      · exact .inl (by simp [h])
    · rw [if_neg hz] at h
      rcases List.mem_cons.1 h with rfl | h
      · exact .inl (by simp)
      · rcases mem_mput h with h | h
        · exact .inl (by simp [h])
        · exact .inr h
theorem dist_mput : ∀ {m : List AccT} {y : AccT}, Dist m → Dist (mput m y)
  | [], y, _ => List.pairwise_singleton _ _
  | z :: m, y, h => by
    have h' := List.pairwise_cons.1 h
    unfold mput
    by_cases hz : z.1 = y.1
    · rw [if_pos hz]
      exact List.pairwise_cons.2 ⟨fun x hx => by rw [← hz]; exact h'.1 x hx, h'.2⟩
    · rw [if_neg hz]
      refine List.pairwise_cons.2 ⟨fun x hx => ?_, dist_mput h'.2⟩
      rcases mem_mput hx with hx | rfl
      · exact h'.1 x hx
      · exact hz
theorem all_mput {m : List AccT} {y : AccT} (h : AllA m) (hy : AccW y) : AllA (mput m y) := fun x hx => by
  rcases mem_mput hx with hx | rfl
  · exact h x hx
  · exact hy
end Go.Pon
set_option autoImplicit false
set_option linter.unusedVariables false
set_option linter.unusedSimpArgs false
namespace Go.Pon
open Go
def enc (n : Nat) : List Int := ((bylen n : Nat) : Int) :: beB (bylen n) n
def Bytes (b : List Int) : Prop := ∀ x ∈ b, 0 ≤ x ∧ x ≤ 255
theorem Bytes.drop {b : List Int} (h : Bytes b) (i : Nat) : Bytes (b.drop i) := fun x hx => h x (List.mem_of_mem_drop hx)
theorem Bytes.take {b : List Int} (h : Bytes b) (i : Nat) : Bytes (b.take i) := fun x hx => h x (List.mem_of_mem_take hx)
theorem Bytes.at {b : List Int} (h : Bytes b) (i : Nat) : 0 ≤ b.getD i 0 ∧ b.getD i 0 ≤ 255 := getD_all (p := fun x => 0 ≤ x ∧ x ≤ 255) h (by omega) i
theorem eqD_lim (n m : Nat) : eqD (.arr 4 (.int .u64)) (lim n) (lim m) = decide (n = m) := by
  rw [Bool.eq_iff_iff, eqD_iff]; exact lim_inj.trans (by simp)
end Go.Pon
set_option autoImplicit false
set_option linter.unusedVariables false
set_option linter.unusedSimpArgs false
namespace Go.Pon
open Go
theorem mod_eq {x n : Int} (h0 : -9223372036854775808 ≤ x) (h1 : x ≤ 9223372036854775807) (h2 : 1 ≤ n) (h3 : n ≤ 9223372036854775807) :
    sol_law0_Mod (x, (n, ())) = some ((((x % 18446744073709551616) % n, ()), ((), ((), ())))) := by
  unfold sol_law0_Mod T_law0_Mod
  simp only [letR_eq, brR_dec]
  rw [w_u64 (n := n) (by omega) (by omega), if_pos (by omega), IntKind.wrap_u64, tmod_pos (by omega), w_i64]
  · have := Int.emod_nonneg (x % 18446744073709551616) (b := n) (by omega); omega
  · have := Int.emod_lt_of_pos (x % 18446744073709551616) (b := n) (by omega); omega
end Go.Pon
set_option autoImplicit false
set_option linter.unusedVariables false
set_option linter.unusedSimpArgs false
namespace Go.Pon
open Go
theorem add64_eq {x y c : Int} (hc : c ≤ 1) : sol_math_bits_Add64 (x, (y, (c, ()))) = some (((x + y + c) % 18446744073709551616, ((x + y + c) / 18446744073709551616, ())), ((), ((), ((), ())))) := by
  unfold sol_math_bits_Add64 T_math_bits_Add64 addC
  simp only
  rw [if_pos hc]
  rfl
theorem sub64_eq {x y c : Int} (hc : c ≤ 1) : sol_math_bits_Sub64 (x, (y, (c, ()))) = some (((x - y - c) % 18446744073709551616, ((if x < y + c then 1 else 0), ())), ((), ((), ((), ())))) := by
  unfold sol_math_bits_Sub64 T_math_bits_Sub64 subC
  simp only
  rw [if_pos hc]
  rfl
def lb (n i : Nat) : Nat := n / 18446744073709551616 ^ i % 18446744073709551616
theorem lb_get {n q : Nat} (hn : n < 115792089237316195423570985008687907853269984665640564039457584007913129639936) (hq : q < 4) : List.getD (lim n) q 0 = ((lb n q : Nat) : Int) := by
  unfold lim lb
  match q, hq with
  | 0, _ => simp
  | 1, _ => simp
  | 2, _ => simp only [List.getD_cons_succ, List.getD_cons_zero, Nat.reducePow]
  | 3, _ =>
    simp only [List.getD_cons_succ, List.getD_cons_zero, Nat.reducePow]
    omega
def limbs (k i n : Nat) : List Int := ((List.range i).map fun j => ((lb n j : Nat) : Int)) ++ List.replicate (k - i) 0
theorem limbs_zero (k n : Nat) : limbs k 0 n = List.replicate k 0 := by simp [limbs]
theorem limbs_set {k i n : Nat} (h : i < k) : List.set (limbs k i n) i ((lb n i : Nat) : Int) = limbs k (i + 1) n := by
  unfold limbs
  rw [List.set_append, if_neg (by simp), List.length_map, List.length_range, Nat.sub_self, show k - i = (k - (i + 1)) + 1 by omega, List.replicate_succ, List.set_cons_zero, List.range_succ]
  simp
theorem limbs_lim {n : Nat} (hn : n < 115792089237316195423570985008687907853269984665640564039457584007913129639936) : limbs 4 4 n = lim n := by
  refine ext_getD (d := 0) (by simp [limbs, lim]) fun j hj => ?_
  have hj4 : j < 4 := by simpa [limbs] using hj
  rw [lb_get hn hj4]
  simp [limbs, List.getD_eq_getElem?_getD, hj4]
theorem pow_step (n i : Nat) : n / 18446744073709551616 ^ (i + 1) = n / 18446744073709551616 ^ i / 18446744073709551616 := by rw [Nat.pow_succ, Nat.div_div_eq_div_mul]
theorem pow4 : (18446744073709551616 : Nat) ^ 4 = 115792089237316195423570985008687907853269984665640564039457584007913129639936 := by decide
theorem add_step {a b c i : Nat} (hc : c ≤ 1) (h : (a + b) / 18446744073709551616 ^ i = a / 18446744073709551616 ^ i + b / 18446744073709551616 ^ i + c) :
    (lb a i + lb b i + c) % 18446744073709551616 = lb (a + b) i ∧ (lb a i + lb b i + c) / 18446744073709551616 ≤ 1 ∧
      (a + b) / 18446744073709551616 ^ (i + 1) = a / 18446744073709551616 ^ (i + 1) + b / 18446744073709551616 ^ (i + 1) + (lb a i + lb b i + c) / 18446744073709551616 := by
  unfold lb
  rw [pow_step, pow_step, pow_step, h]
  generalize a / 18446744073709551616 ^ i = x
  generalize b / 18446744073709551616 ^ i = y
  refine ⟨by omega, by omega, by omega⟩
theorem add_cast {x y c : Nat} : ((((x : Nat) : Int) + ((y : Nat) : Int) + ((c : Nat) : Int)) % 18446744073709551616 = (((x + y + c) % 18446744073709551616 : Nat) : Int)) ∧ ((((x : Nat) : Int) + ((y : Nat) : Int) + ((c : Nat) : Int)) / 18446744073709551616 = (((x + y + c) / 18446744073709551616 : Nat) : Int)) := by omega
theorem uAdd_eq {a b : Nat} (ha : a < 115792089237316195423570985008687907853269984665640564039457584007913129639936) (hb : b < 115792089237316195423570985008687907853269984665640564039457584007913129639936) :
    sol_uint256_Add (lim a, (lim b, ())) = some ((if a + b < 115792089237316195423570985008687907853269984665640564039457584007913129639936 then (lim (a + b), ((0 : Int), ())) else ([(0 : Int), (0 : Int), (0 : Int), (0 : Int)], ((4 : Int), ()))), ((), ((), ()))) := by
  unfold sol_uint256_Add T_uint256_Add
  refine bigLoop_rule (I := fun x => ∃ i c : Nat, i ≤ 4 ∧ c ≤ 1 ∧ (a + b) / 18446744073709551616 ^ i = a / 18446744073709551616 ^ i + b / 18446744073709551616 ^ i + c ∧
      x = (lim a, (lim b, ([(0 : Int), (0 : Int), (0 : Int), (0 : Int)], (limbs 4 i (a + b), (((c : Nat) : Int), (((i : Nat) : Int), ())))))))
    (m := fun x => ((4 : Int) - x.2.2.2.2.2.1).toNat) (g := fun _ => some ((if a + b < 115792089237316195423570985008687907853269984665640564039457584007913129639936 then (lim (a + b), ((0 : Int), ())) else ([(0 : Int), (0 : Int), (0 : Int), (0 : Int)], ((4 : Int), ()))), ((), ((), ())))) ?_
    ⟨0, 0, by omega, by omega, by simp, by rw [limbs_zero]; rfl⟩ (by rw [bigN_eq]; simp only; omega)
  rintro x again ⟨i, c, hi, hc, hd, rfl⟩ hag
  simp only at hag ⊢
  unfold T_uint256_Add_loop0
  simp only [brR_dec, brR_inR, brR_not]
  by_cases h1 : ((i : Nat) : Int) < 4
  · obtain ⟨s1, s2, s3⟩ := add_step hc hd
    rw [if_pos h1, if_pos (by omega), if_pos (by omega), Int.toNat_natCast, lb_get ha (by omega), lb_get hb (by omega), add64_eq (by omega)]
    simp only [bind_some']
    rw [if_pos (by omega), add_cast.1, add_cast.2, s1, limbs_set (by omega), w_i64 (by omega) (by omega)]
    exact hag _ ⟨i + 1, _, by omega, s2, s3, by rw [Int.natCast_add]; rfl⟩ (by simp only; omega)
  · have hi4 : i = 4 := by omega
    subst hi4
    rw [pow4] at hd
    rw [if_neg h1]
    by_cases hs : a + b < 115792089237316195423570985008687907853269984665640564039457584007913129639936
    · rw [if_pos hs, if_pos (by omega), limbs_lim hs]
    · rw [if_neg hs, if_neg (by omega)]
theorem uSub_ok {a b : Nat} (ha : a < 115792089237316195423570985008687907853269984665640564039457584007913129639936) (hb : b ≤ a) :
    sol_uint256_Sub (lim a, (lim b, ())) = some ((lim (a - b), ((0 : Int), ())), ((), ((), ()))) := by
  obtain ⟨d, rfl⟩ := Nat.exists_eq_add_of_le hb
  rw [Nat.add_sub_cancel_left]
  unfold sol_uint256_Sub T_uint256_Sub
  refine bigLoop_rule (I := fun x => ∃ i c : Nat, i ≤ 4 ∧ c ≤ 1 ∧ (b + d) / 18446744073709551616 ^ i = b / 18446744073709551616 ^ i + d / 18446744073709551616 ^ i + c ∧
      x = (lim (b + d), (lim b, ([(0 : Int), (0 : Int), (0 : Int), (0 : Int)], (limbs 4 i d, (((c : Nat) : Int), (((i : Nat) : Int), ())))))))
    (m := fun x => ((4 : Int) - x.2.2.2.2.2.1).toNat) (g := fun _ => some ((lim d, ((0 : Int), ())), ((), ((), ())))) ?_
    ⟨0, 0, by omega, by omega, by simp, by rw [limbs_zero]; rfl⟩ (by rw [bigN_eq]; simp only; omega)
  rintro x again ⟨i, c, hi, hc, hd, rfl⟩ hag
  simp only at hag ⊢
  unfold T_uint256_Sub_loop0
  simp only [brR_dec, brR_inR, brR_not]
  by_cases h1 : ((i : Nat) : Int) < 4
  · have key : (((lb (b + d) i : Nat) : Int) - ((lb b i : Nat) : Int) - ((c : Nat) : Int)) % 18446744073709551616 = ((lb d i : Nat) : Int) ∧
        ∃ c' : Nat, c' ≤ 1 ∧ (if ((lb (b + d) i : Nat) : Int) < ((lb b i : Nat) : Int) + ((c : Nat) : Int) then (1 : Int) else 0) = ((c' : Nat) : Int) ∧ (b + d) / 18446744073709551616 ^ (i + 1) = b / 18446744073709551616 ^ (i + 1) + d / 18446744073709551616 ^ (i + 1) + c' := by
      unfold lb
      rw [pow_step, pow_step, pow_step, hd]
      generalize b / 18446744073709551616 ^ i = x
      generalize d / 18446744073709551616 ^ i = y
      refine ⟨by omega, ?_⟩
      by_cases hlt : (((x + y + c) % 18446744073709551616 : Nat) : Int) < ((x % 18446744073709551616 : Nat) : Int) + ((c : Nat) : Int)
      · exact ⟨1, by omega, by rw [if_pos hlt]; rfl, by omega⟩
      · exact ⟨0, by omega, by rw [if_neg hlt]; rfl, by omega⟩
    obtain ⟨s1, c', s2, s4, s3⟩ := key
    rw [if_pos h1, if_pos (by omega), if_pos (by omega), Int.toNat_natCast, lb_get ha (by omega), lb_get (by omega) (by omega), sub64_eq (by omega)]
    simp only [bind_some']
    rw [if_pos (by omega), s1, s4, limbs_set (by omega), w_i64 (by omega) (by omega)]
    exact hag _ ⟨i + 1, c', by omega, s2, s3, by rw [Int.natCast_add]; rfl⟩ (by simp only; omega)
  · have hi4 : i = 4 := by omega
    subst hi4
    rw [pow4] at hd
    rw [if_neg h1, if_pos (by omega), limbs_lim (by omega)]
theorem uSub_bad {a b : Nat} (ha : a < b) (hb : b < 115792089237316195423570985008687907853269984665640564039457584007913129639936) :
    sol_uint256_Sub (lim a, (lim b, ())) = some (([(0 : Int), (0 : Int), (0 : Int), (0 : Int)], ((4 : Int), ())), ((), ((), ()))) := by
  have ha2 : a < 115792089237316195423570985008687907853269984665640564039457584007913129639936 := by omega
  unfold sol_uint256_Sub T_uint256_Sub
  -- the borrow: what the low limbs lack
  refine bigLoop_rule (I := fun x => ∃ (i c : Nat) (s : List Int), i ≤ 4 ∧ s.length = 4 ∧ c ≤ 1 ∧ (c = 1 ↔ a % 18446744073709551616 ^ i < b % 18446744073709551616 ^ i) ∧
      x = (lim a, (lim b, ([(0 : Int), (0 : Int), (0 : Int), (0 : Int)], (s, (((c : Nat) : Int), (((i : Nat) : Int), ())))))))
    (m := fun x => ((4 : Int) - x.2.2.2.2.2.1).toNat) (g := fun _ => some (([(0 : Int), (0 : Int), (0 : Int), (0 : Int)], ((4 : Int), ())), ((), ((), ())))) ?_
    ⟨0, 0, [0, 0, 0, 0], by omega, rfl, by omega, by simp [Nat.mod_one], rfl⟩ (by rw [bigN_eq]; simp only; omega)
  rintro x again ⟨i, c, s, hi, hs, hc, hd, rfl⟩ hag
  simp only at hag ⊢
  unfold T_uint256_Sub_loop0
  simp only [brR_dec, brR_inR, brR_not]
  by_cases h1 : ((i : Nat) : Int) < 4
  · have ma : a % 18446744073709551616 ^ (i + 1) = a % 18446744073709551616 ^ i + 18446744073709551616 ^ i * lb a i := by rw [Nat.pow_succ, Nat.mod_mul]; rfl
    have mb : b % 18446744073709551616 ^ (i + 1) = b % 18446744073709551616 ^ i + 18446744073709551616 ^ i * lb b i := by rw [Nat.pow_succ, Nat.mod_mul]; rfl
    have p0 : 0 < 18446744073709551616 ^ i := Nat.pow_pos (by omega)
    have ra := Nat.mod_lt a p0; have rb := Nat.mod_lt b p0
    have hcmp : (((lb a i : Nat) : Int) < ((lb b i : Nat) : Int) + ((c : Nat) : Int)) ↔ a % 18446744073709551616 ^ (i + 1) < b % 18446744073709551616 ^ (i + 1) := by
      rw [ma, mb]
      generalize a % 18446744073709551616 ^ i = x at *
      generalize b % 18446744073709551616 ^ i = y at *
      generalize 18446744073709551616 ^ i = p at *
      generalize lb a i = u at *
      generalize lb b i = v at *
      rcases Nat.lt_trichotomy u v with h | h | h
      · have : p * (u + 1) ≤ p * v := Nat.mul_le_mul_left p h
        rw [Nat.mul_add, Nat.mul_one] at this
        constructor
        · intro _; omega
        · intro _; omega
      · subst h
        constructor
        · intro h; have : c = 1 := by omega
          have := hd.1 this; omega
        · intro h; have := hd.2 (by omega); omega
      · have : p * (v + 1) ≤ p * u := Nat.mul_le_mul_left p h
        rw [Nat.mul_add, Nat.mul_one] at this
        constructor
        · intro h'; omega
        · intro h'; omega
    rw [if_pos h1, if_pos (by omega), if_pos (by omega), Int.toNat_natCast, lb_get ha2 (by omega), lb_get hb (by omega), sub64_eq (by omega)]
    simp only [bind_some']
    rw [if_pos (by omega), w_i64 (by omega) (by omega)]
    by_cases hlt : ((lb a i : Nat) : Int) < ((lb b i : Nat) : Int) + ((c : Nat) : Int)
    · rw [if_pos hlt]
      exact hag _ ⟨i + 1, 1, (List.set s i ((((lb a i : Nat) : Int) - ((lb b i : Nat) : Int) - ((c : Nat) : Int)) % 18446744073709551616)), by omega, by rw [List.length_set]; exact hs, by omega, ⟨fun _ => hcmp.1 hlt, fun _ => rfl⟩, by rw [Int.natCast_add]; rfl⟩ (by simp only; omega)
    · rw [if_neg hlt]
      exact hag _ ⟨i + 1, 0, (List.set s i ((((lb a i : Nat) : Int) - ((lb b i : Nat) : Int) - ((c : Nat) : Int)) % 18446744073709551616)), by omega, by rw [List.length_set]; exact hs, by omega, ⟨fun h => by omega, fun h => absurd (hcmp.2 h) hlt⟩, by rw [Int.natCast_add]; rfl⟩ (by simp only; omega)
  · have hi4 : i = 4 := by omega
    subst hi4
    rw [pow4, Nat.mod_eq_of_lt ha2, Nat.mod_eq_of_lt hb] at hd
    have := hd.2 ha
    rw [if_neg h1, if_neg (by omega)]
end Go.Pon
set_option autoImplicit false
set_option linter.unusedVariables false
set_option linter.unusedSimpArgs false
namespace Go.Pon
open Go
theorem lim0 : lim 0 = [(0 : Int), (0 : Int), (0 : Int), (0 : Int)] := rfl
def cmpN (a b : Nat) : Int := if a < b then -1 else if b < a then 1 else 0
end Go.Pon
set_option autoImplicit false
set_option linter.unusedVariables false
set_option linter.unusedSimpArgs false
namespace Go.Pon
open Go
def sat (n : Nat) : Nat := if n < 115792089237316195423570985008687907853269984665640564039457584007913129639936 then n else 115792089237316195423570985008687907853269984665640564039457584007913129639935
theorem sat_lt (n : Nat) : sat n < 115792089237316195423570985008687907853269984665640564039457584007913129639936 := by unfold sat; split <;> omega
theorem sat_B (n : Nat) : B256 (sat n) := sat_lt n
theorem sat_of {n : Nat} (h : n < 115792089237316195423570985008687907853269984665640564039457584007913129639936) : sat n = n := if_pos h
theorem sat_add (n m : Nat) : sat (sat n + m) = sat (n + m) := by
  unfold sat
  by_cases h : n < 115792089237316195423570985008687907853269984665640564039457584007913129639936
  · rw [if_pos h]
  · rw [if_neg h, if_neg (show ¬ n + m < 115792089237316195423570985008687907853269984665640564039457584007913129639936 by omega)]
    by_cases hm : m = 0
    · subst hm; rw [if_pos (by omega)]
    · rw [if_neg (by omega)]
theorem lim_max : lim 115792089237316195423570985008687907853269984665640564039457584007913129639935 = [(18446744073709551615 : Int), (18446744073709551615 : Int), (18446744073709551615 : Int), (18446744073709551615 : Int)] := by decide
theorem satAdd_eq {a b : Nat} (ha : B256 a) (hb : B256 b) : sol_uint256_SaturatingAdd (lim a, (lim b, ())) = some ((lim (sat (a + b)), ()), ((), ((), ()))) := by
  unfold B256 at ha hb
  unfold sol_uint256_SaturatingAdd T_uint256_SaturatingAdd
  rw [uAdd_eq ha hb]
  simp only [bind_some', brR_dec]
  unfold sat
  by_cases h : a + b < 115792089237316195423570985008687907853269984665640564039457584007913129639936
  · rw [if_pos h, if_pos rfl, if_pos h]
  · simp only [if_neg h]
    rw [if_neg (by decide)]
    unfold sol_uint256_maxValue T_uint256_maxValue
    rw [lim_max]; rfl
theorem satSub_eq {a b : Nat} (ha : B256 a) (hb : B256 b) : sol_uint256_SaturatingSub (lim a, (lim b, ())) = some ((lim (a - b), ()), ((), ((), ()))) := by
  unfold B256 at ha hb
  unfold sol_uint256_SaturatingSub T_uint256_SaturatingSub
  by_cases h : b ≤ a
  · rw [uSub_ok ha h]; rfl
  · rw [uSub_bad (by omega) hb, show a - b = 0 by omega]; rfl
theorem ucmp_eq {a b : Nat} (ha : B256 a) (hb : B256 b) : sol_uint256_Cmp (lim a, (lim b, ())) = some ((cmpN a b, ()), ((), ((), ()))) := by
  unfold B256 at ha hb
  unfold sol_uint256_Cmp T_uint256_Cmp
  refine bigLoop_rule (I := fun x => ∃ i : Nat, i ≤ 4 ∧ a / 18446744073709551616 ^ i = b / 18446744073709551616 ^ i ∧ x = (lim a, (lim b, (((i : Nat) : Int) - 1, ())))) (m := fun x => (x.2.2.1 + 1).toNat)
    (g := fun _ => some ((cmpN a b, ()), ((), ((), ())))) ?_ ⟨4, by omega, by rw [pow4]; omega, rfl⟩ (by rw [bigN_eq]; simp only; omega)
  rintro x again ⟨i, hi, hd, rfl⟩ hag
  simp only at hag ⊢
  unfold T_uint256_Cmp_loop0
  simp only [brR_dec, brR_inR]
  by_cases h0 : i = 0
  · subst h0
    rw [if_neg (by omega)]
    have : a = b := by simpa using hd
    subst this
    unfold cmpN
    rw [if_neg (by omega), if_neg (by omega)]
  · obtain ⟨j, rfl⟩ := Nat.exists_eq_succ_of_ne_zero h0
    have e : (((j + 1 : Nat) : Int) - 1) = ((j : Nat) : Int) := by omega
    have key : ∀ n, n / 18446744073709551616 ^ j = n / 18446744073709551616 ^ (j + 1) * 18446744073709551616 + lb n j := fun n => by
      rw [pow_step]; unfold lb
      generalize n / 18446744073709551616 ^ j = q
      omega
    have ka := key a
    have kb := key b
    rw [Nat.succ_eq_add_one] at hd hag ⊢
    rw [e, if_pos (by omega), if_pos (by omega), if_pos (by omega), Int.toNat_natCast, lb_get ha (by omega), lb_get hb (by omega)]
    by_cases c1 : ((lb a j : Nat) : Int) < ((lb b j : Nat) : Int)
    · rw [if_pos c1]
      have : a < b := by
        rcases Nat.lt_or_ge a b with h | h
        · exact h
        · have := Nat.div_le_div_right (c := 18446744073709551616 ^ j) h
          omega
      unfold cmpN
      rw [if_pos this]
    · rw [if_neg c1, if_pos (by omega), if_pos (by omega)]
      by_cases c2 : ((lb a j : Nat) : Int) > ((lb b j : Nat) : Int)
      · rw [if_pos c2]
        have : b < a := by
          rcases Nat.lt_or_ge b a with h | h
          · exact h
          · have := Nat.div_le_div_right (c := 18446744073709551616 ^ j) h
            omega
        unfold cmpN
        rw [if_neg (by omega), if_pos this]
      · rw [if_neg c2, w_i64 (by omega) (by omega)]
        exact hag _ ⟨j, by omega, by omega, rfl⟩ (by simp only; omega)
end Go.Pon
set_option autoImplicit false
set_option linter.unusedVariables false
set_option linter.unusedSimpArgs false
set_option maxRecDepth 100000
namespace Go.Pon
open Go
def H32 (h : List Int) : Prop := h.length = 32 ∧ Bytes h
def hv (c : Int) : Int := if 48 ≤ c ∧ c ≤ 57 then c - 48 else if 97 ≤ c ∧ c ≤ 102 then c - 87 else -1
def Hex64 (s : List Int) : Prop := s.length = 64 ∧ ∀ i, i < 64 → 0 ≤ hv (s.getD i 0)
noncomputable instance (s : List Int) : Decidable (Hex64 s) := Classical.propDecidable _
end Go.Pon
set_option autoImplicit false
set_option linter.unusedVariables false
set_option linter.unusedSimpArgs false
set_option maxRecDepth 100000
namespace Go.Pon
open Go
abbrev Z32 : List Int := List.replicate 32 0
theorem h32_zero : H32 Z32 := ⟨by simp, fun x hx => by rw [List.eq_of_mem_replicate hx]; omega⟩
def AllH (l : List (List Int)) : Prop := ∀ h ∈ l, H32 h
theorem AllH.take {l : List (List Int)} (h : AllH l) (i : Nat) : AllH (l.take i) := fun x hx => h x (List.mem_of_mem_take hx)
theorem AllH.drop {l : List (List Int)} (h : AllH l) (i : Nat) : AllH (l.drop i) := fun x hx => h x (List.mem_of_mem_drop hx)
theorem AllH.at {l : List (List Int)} (h : AllH l) (i : Nat) : H32 (l.getD i Z32) := by
  rcases Nat.lt_or_ge i l.length with hi | hi
  · exact h _ (getD_mem hi)
  · rw [List.getD_eq_getElem?_getD, List.getElem?_eq_none hi]; exact h32_zero
end Go.Pon
set_option autoImplicit false
set_option linter.unusedVariables false
set_option linter.unusedSimpArgs false
namespace Go.Pon
open Go
abbrev MsgT := Int × (Int × (List Int × Unit))
inductive MsgW : MsgT → Prop
  | mk {s t : Int} {v : Nat} (hs : 0 ≤ s ∧ s ≤ 18446744073709551615) (ht : 0 ≤ t ∧ t ≤ 18446744073709551615) (hv : v < 115792089237316195423570985008687907853269984665640564039457584007913129639936) : MsgW (s, (t, (lim v, ())))
def AllM (l : List MsgT) : Prop := ∀ m ∈ l, MsgW m
theorem AllM.at {l : List MsgT} (h : AllM l) {i : Nat} (hi : i < l.length) (d : MsgT) : MsgW (l.getD i d) := h _ (getD_mem hi)
theorem optR_some {α β : Type} (a : α) (n : Option β) (f : α → Option β) : optR (some a) n f = f a := rfl
end Go.Pon
set_option autoImplicit false
set_option linter.unusedVariables false
set_option linter.unusedSimpArgs false
namespace Go.Pon
open Go
theorem zA_eq : (Ty.zero (.pair (.int .u64) (.pair (.arr 4 (.int .u64)) (.pair (.int .u64) .unit))) : AccT) = zAcc := rfl
theorem zAl_eq : (((0 : Int), ([(0 : Int), (0 : Int), (0 : Int), (0 : Int)], ((0 : Int), ()))) : AccT) = zAcc := rfl
abbrev zV : List Int := [(0 : Int), (0 : Int), (0 : Int), (0 : Int)]
theorem roomyA {n : Nat} (h : n ≤ 1000000) : roomy n (.pair (.int .u64) (.pair (.arr 4 (.int .u64)) (.pair (.int .u64) .unit))) = true := by
  rw [roomy_dec, decide_eq_true_eq]
  exact ⟨by decide, by simp only [Ty.size]; omega⟩
theorem insertA_eq {l : List AccT} {p : AccT} {i : Nat} (h : l.length ≤ 999990) (hi : i ≤ l.length) : sol_slices_Insert_api_Account_api_Account (l, (((i : Nat) : Int), ([p], ()))) = some ((l.take i ++ (p :: l.drop i), ()), ((), ((), ((), ())))) := by
  unfold sol_slices_Insert_api_Account_api_Account T_slices_Insert_api_Account_api_Account insF
  have hr : roomy (List.length l + List.length [p]) (.pair (.int .u64) (.pair (.arr 4 (.int .u64)) (.pair (.int .u64) .unit))) = true := roomyA (by simp; omega)
  have hc : (0 : Int) ≤ ((i : Nat) : Int) ∧ ((i : Nat) : Int) ≤ ((List.length l : Nat) : Int) ∧ 0 < List.length [p] ∧ roomy (List.length l + List.length [p]) (.pair (.int .u64) (.pair (.arr 4 (.int .u64)) (.pair (.int .u64) .unit))) = true := ⟨by omega, by omega, by simp, hr⟩
  simp only
  rw [if_pos hc, Int.toNat_natCast]
  rfl
theorem deleteA_eq {l : List AccT} {i : Nat} (h : l.length ≤ 999990) (hi : i < l.length) : sol_slices_Delete_api_Account_api_Account (l, (((i : Nat) : Int), (((i + 1 : Nat) : Int), ()))) = some ((l.take i ++ l.drop (i + 1), ()), ((), ((), ((), ())))) := by
  unfold sol_slices_Delete_api_Account_api_Account T_slices_Delete_api_Account_api_Account delF
  have hc : (0 : Int) ≤ ((i : Nat) : Int) ∧ ((i : Nat) : Int) < ((i + 1 : Nat) : Int) ∧ ((i + 1 : Nat) : Int) ≤ ((List.length l : Nat) : Int) ∧ roomy (List.length l) (.pair (.int .u64) (.pair (.arr 4 (.int .u64)) (.pair (.int .u64) .unit))) = true := ⟨by omega, by omega, by omega, roomyA (by omega)⟩
  simp only
  rw [if_pos hc, Int.toNat_natCast, Int.toNat_natCast]
  rfl
theorem isNaN_eq (x : Int) : sol_cmp_isNaN_api_Address (x, ()) = some ((false, ()), ((), ())) := by
  unfold sol_cmp_isNaN_api_Address T_cmp_isNaN_api_Address
  simp
def cmpI (x y : Int) : Int := if x < y then -1 else if x > y then 1 else 0
theorem compare_eq (x y : Int) : sol_cmp_Compare_api_Address (x, (y, ())) = some ((cmpI x y, ()), ((), ((), ()))) := by
  unfold sol_cmp_Compare_api_Address T_cmp_Compare_api_Address
  rw [isNaN_eq, isNaN_eq]
  simp only [bind_some', brR_false, brR_dec]
  unfold cmpI
  by_cases h : x < y
  · rw [if_pos h, if_pos h]
  · rw [if_neg h, if_neg h]
    by_cases h2 : x > y
    · rw [if_pos h2, if_pos h2]
    · rw [if_neg h2, if_neg h2]
theorem find1_eq (x : AccT) (a : Int) : sol_ledger_Ledger_find_1 (x, (a, ())) = some ((cmpI x.1 a, ()), ((), ((), ()))) := by
  unfold sol_ledger_Ledger_find_1 T_ledger_Ledger_find_1
  rw [compare_eq]; rfl
theorem half_eq {i j : Nat} (h : i + j ≤ 4000000) : IntKind.wrap .i64 (Int.fdiv (IntKind.wrap .u64 (IntKind.wrap .i64 (((i : Nat) : Int) + ((j : Nat) : Int)))) 2) = (((i + j) / 2 : Nat) : Int) := by
  rw [w_i64 (n := ((i : Nat) : Int) + ((j : Nat) : Int)) (by omega) (by omega), w_u64 (by omega) (by omega), Int.fdiv_eq_ediv_of_nonneg _ (by omega), w_i64 (by omega) (by omega)]
  omega
theorem bsA_eq {l : List AccT} {a : Int} (hs : Srt l) (hl : l.length ≤ 1000000) :
    sol_slices_BinarySearchFunc_api_Account_api_Account_api_Address (l, (a, ((), ()))) = some ((((cntA l a : Nat) : Int), (decide (foundA l a), ())), ((), ((), ((), ())))) := by
  unfold sol_slices_BinarySearchFunc_api_Account_api_Account_api_Address T_slices_BinarySearchFunc_api_Account_api_Account_api_Address
  simp only [letR_eq]
  have hc := cntA_le a l
  refine bigLoop_rule (I := fun x => ∃ i j : Nat, i ≤ cntA l a ∧ cntA l a ≤ j ∧ j ≤ l.length ∧ x = (l, (a, ((), (((l.length : Nat) : Int), (((i : Nat) : Int), (((j : Nat) : Int), ()))))))) (m := fun x => (x.2.2.2.2.2.1 - x.2.2.2.2.1).toNat)
    (g := fun _ => some ((((cntA l a : Nat) : Int), (decide (foundA l a), ())), ((), ((), ((), ()))))) ?_ ⟨0, l.length, by omega, hc, by omega, rfl⟩ (by rw [bigN_eq]; simp only; omega)
  rintro x again ⟨i, j, h1, h2, h3, rfl⟩ hag
  simp only at hag ⊢
  unfold T_slices_BinarySearchFunc_api_Account_api_Account_api_Address_loop0
  rw [zAl_eq]
  simp only [letR_eq, brR_dec, brR_inR]
  rw [half_eq (by omega)]
  by_cases hij : ((i : Nat) : Int) < ((j : Nat) : Int)
  · have hm : (i + j) / 2 < l.length := by omega
    rw [if_pos hij, if_pos (by omega), Int.toNat_natCast, find1_eq]
    simp only [bind_some', brR_dec]
    unfold cmpI
    generalize hk : (i + j) / 2 = k at *
    by_cases hlt : (l.getD k zAcc).1 < a
    · rw [if_pos (by rw [if_pos hlt]; decide), w_i64 (by omega) (by omega)]
      have : k < cntA l a := by
        rcases Nat.lt_or_ge k (cntA l a) with h | h
        · exact h
        · have := cntA_ge hs h hm; omega
      exact hag _ ⟨k + 1, j, by omega, h2, h3, by rw [Int.natCast_add]; rfl⟩ (by simp only; omega)
    · rw [if_neg (by rw [if_neg hlt]; split <;> decide)]
      have : cntA l a ≤ k := by
        rcases Nat.lt_or_ge k (cntA l a) with h | h
        · exact absurd (cntA_lt h) hlt
        · exact h
      exact hag _ ⟨i, k, h1, this, by omega, rfl⟩ (by simp only; omega)
  · have hi : i = cntA l a := by omega
    subst hi
    rw [if_neg hij]
    by_cases hin : ((cntA l a : Nat) : Int) < ((l.length : Nat) : Int)
    · rw [if_pos hin, if_pos (by omega), Int.toNat_natCast, find1_eq]
      simp only [bind_some']
      have hge := cntA_at (l := l) (a := a) (by omega)
      unfold cmpI foundA
      by_cases he : (l.getD (cntA l a) zAcc).1 = a
      · rw [decide_eq_true (show cntA l a < l.length ∧ (l.getD (cntA l a) zAcc).1 = a from ⟨by omega, he⟩), if_neg (by omega), if_neg (by omega)]; rfl
      · rw [decide_eq_false (show ¬ (cntA l a < l.length ∧ (l.getD (cntA l a) zAcc).1 = a) from fun h => he h.2), if_neg (by omega), if_pos (by omega)]; rfl
    · rw [if_neg hin]
      unfold foundA
      rw [decide_eq_false (show ¬ (cntA l a < l.length ∧ (l.getD (cntA l a) zAcc).1 = a) from fun h => by omega)]
theorem find_eq {l : List AccT} {v : List (List Int)} {a : Int} (hs : Srt l) (hl : l.length ≤ 1000000) :
    sol_ledger_Ledger_find ((l, (v, ())), (a, ())) = some ((((cntA l a : Nat) : Int), (decide (foundA l a), ())), ((l, (v, ())), ((), ()))) := by
  unfold sol_ledger_Ledger_find T_ledger_Ledger_find
  simp only
  rw [bsA_eq hs hl]; rfl
theorem get_eq {l : List AccT} {v : List (List Int)} {a : Int} (hs : Srt l) (hl : l.length ≤ 1000000) :
    sol_ledger_Ledger_get (some (l, (v, ())), (a, ())) = some ((lget l a, ()), (some (l, (v, ())), ((), ()))) := by
  unfold sol_ledger_Ledger_get T_ledger_Ledger_get
  simp only [optR_some]
  rw [find_eq hs hl]
  simp only [bind_some', brR_dec, brR_inR]
  rw [lget_cnt hs]
  by_cases h : foundA l a
  · rw [if_pos h, if_pos h]
    have := h.1
    rw [if_pos (by omega), Int.toNat_natCast]
  · rw [if_neg h, if_neg h]
theorem isEmpty_eq {x : AccT} (h : AccW x) : sol_ledger_isEmpty (x, ()) = some ((decide (isE x), ()), ((), ())) := by
  obtain ⟨ha, hb, hn⟩ := h
  rename_i a b n
  unfold sol_ledger_isEmpty T_ledger_isEmpty
  simp only
  rw [← lim0, eqD_lim, brR_dec]
  have e : isE (a, (lim b, (n, ()))) ↔ b = 0 ∧ n = 0 := by
    unfold isE
    simp only [Prod.mk.injEq, true_and, and_true]
    rw [← lim0, lim_inj]
  by_cases h0 : b = 0
  · rw [if_pos h0]
    by_cases h1 : n = 0
    · rw [decide_eq_true h1, decide_eq_true (e.2 ⟨h0, h1⟩)]
    · rw [decide_eq_false h1, decide_eq_false fun h => h1 (e.1 h).2]
  · rw [if_neg h0, decide_eq_false fun h => h0 (e.1 h).1]
theorem set_eq {l : List AccT} {v : List (List Int)} {x : AccT} (hs : Srt l) (hl : l.length ≤ 900000) (hx : AccW x) :
    sol_ledger_Ledger_set ((l, (v, ())), (x, ())) = some ((), ((lput l x, (v, ())), ((), ()))) := by
  unfold sol_ledger_Ledger_set T_ledger_Ledger_set
  simp only
  rw [find_eq hs (by omega), lput_cnt]
  have hc := cntA_le x.1 l
  simp only [bind_some', brR_dec, brR_not, brR_inR]
  rw [isEmpty_eq hx]
  simp only [bind_some', brR_dec, brR_not, brR_inR]
  by_cases h : foundA l x.1
  · have h1 := h.1
    simp only [if_pos h]
    by_cases he : isE x
    · rw [if_pos he, if_pos he, w_i64 (by omega) (by omega), show ((cntA l x.1 : Nat) : Int) + 1 = ((cntA l x.1 + 1 : Nat) : Int) by omega, deleteA_eq (by omega) h1]
      rfl
    · rw [if_neg he, if_neg he, if_pos (by omega), Int.toNat_natCast]
  · simp only [if_neg h]
    by_cases he : isE x
    · rw [if_pos he, if_pos he]
    · rw [if_neg he, if_neg he, insertA_eq (by omega) hc]
      rfl
abbrev bal (l : List AccT) (a : Int) : Nat := val4 (lget l a).2.1
abbrev non (l : List AccT) (a : Int) : Int := (lget l a).2.2.1
structure LInv (l : List AccT) (vs : List Nat) : Prop where
  srt : Srt l
  ne : NE l
  all : AllA l
  nz : ∀ x ∈ l, x.1 ≠ 0
  len : vs.length = 4
  sum : sumL l + vs.sum < 115792089237316195423570985008687907853269984665640564039457584007913129639936
theorem lget_mk {l : List AccT} {a : Int} (h : AllA l) (ha : U64 a) : lget l a = (a, (lim (bal l a), (non l a, ()))) ∧ B256 (bal l a) ∧ U64 (non l a) := by
  have hw := lgetW h ha
  have hf := lget_fst l a
  unfold bal non
  generalize lget l a = x at hw hf ⊢
  obtain ⟨h1, h2, h3⟩ := hw
  simp only at hf ⊢
  subst hf
  rw [val4_lim]
  exact ⟨rfl, h2, h3⟩
theorem mem_le_sum : ∀ {l : List AccT} {x : AccT}, x ∈ l → val4 x.2.1 ≤ sumL l
  | y :: l, x, h => by
    rw [sumL_cons]
    rcases List.mem_cons.1 h with rfl | h
    · omega
    · have := mem_le_sum h; omega
theorem bal_le (l : List AccT) (a : Int) : bal l a ≤ sumL l := by
  unfold bal
  rcases lget_mem l a with h | ⟨_, h⟩
  · exact mem_le_sum h
  · rw [h, val4_z]; omega
theorem vs_le : ∀ {vs : List Nat} {n : Nat}, n ∈ vs → n ≤ vs.sum
  | m :: vs, n, h => by
    rw [List.sum_cons]
    rcases List.mem_cons.1 h with rfl | h
    · omega
    · have := vs_le h; omega
theorem vget_le (vs : List Nat) (i : Nat) : vs.getD i 0 ≤ vs.sum := by
  rcases Nat.lt_or_ge i vs.length with h | h
  · exact vs_le (getD_mem h)
  · rw [List.getD_eq_getElem?_getD, List.getElem?_eq_none h]; exact Nat.zero_le _
theorem vget_eq (vs : List Nat) (i : Nat) : List.getD (vs.map lim) i zV = lim (vs.getD i 0) := by
  rw [List.getD_eq_getElem?_getD, List.getElem?_map, List.getD_eq_getElem?_getD]
  cases vs[i]? with
  | none => rfl
  | some n => rfl
theorem set_sum : ∀ {vs : List Nat} {i n : Nat}, i < vs.length → (vs.set i n).sum + vs.getD i 0 = vs.sum + n
  | m :: vs, 0, n, _ => by simp; omega
  | m :: vs, i + 1, n, h => by
    have := set_sum (vs := vs) (i := i) (n := n) (by simpa using h)
    simp only [List.set_cons_succ, List.sum_cons, List.getD_cons_succ]
    omega
theorem supply_loop {l : List AccT} {v : List (List Int)} {vs : List Nat} {s : Nat} (hv : v = vs.map lim) (hlen : vs.length = 4) (hb : ∀ n ∈ vs, B256 n) (t : List Int) :
    bigLoop _ _ (fun again x => T_ledger_Ledger_Supply_loop1 sol_uint256_SaturatingAdd again x.1 x.2.1 x.2.2.1 x.2.2.2.1 x.2.2.2.2.1) (t, (lim (sat s), (v, ((0 : Int), ((l, (v, ())), ()))))) =
      some ((lim (sat (s + vs.sum)), ()), (some (l, (v, ())), ())) := by
  subst hv
  refine bigLoop_rule (I := fun x => ∃ i : Nat, i ≤ 4 ∧ x = (t, (lim (sat (s + (vs.take i).sum)), (vs.map lim, (((i : Nat) : Int), ((l, (vs.map lim, ())), ())))))) (m := fun x => ((4 : Int) - x.2.2.2.1).toNat)
    (g := fun _ => some ((lim (sat (s + vs.sum)), ()), (some (l, (vs.map lim, ())), ()))) ?_ ⟨0, by omega, by simp⟩ (by rw [bigN_eq]; simp only; omega)
  rintro x again ⟨i, hi, rfl⟩ hag
  simp only at hag ⊢
  unfold T_ledger_Ledger_Supply_loop1
  simp only [brR_dec, brR_inR]
  by_cases h : ((i : Nat) : Int) < 4
  · rw [if_pos h, if_pos (by omega), Int.toNat_natCast, vget_eq]
    have hm : vs.getD i 0 ∈ vs := getD_mem (by omega)
    rw [satAdd_eq (sat_B _) (hb _ hm), sat_add, w_i64 (by omega) (by omega)]
    simp only [bind_some']
    refine hag _ ⟨i + 1, by omega, ?_⟩ (by simp only; omega)
    rw [take_succ' (d := 0) (by omega), List.sum_append, List.sum_singleton, Nat.add_assoc, Int.natCast_add]; rfl
  · rw [if_neg h, List.take_of_length_le (by omega)]
theorem supply_gen {l : List AccT} {vs : List Nat} (ha : AllA l) (hl : l.length ≤ 1000000) (hlen : vs.length = 4) (hb : ∀ n ∈ vs, B256 n) :
    sol_ledger_Ledger_Supply (some (l, (vs.map lim, ())), ()) = some ((lim (sat (sumL l + vs.sum)), ()), (some (l, (vs.map lim, ())), ())) := by
  unfold sol_ledger_Ledger_Supply T_ledger_Ledger_Supply
  simp only [optR_some]
  refine bigLoop_rule (I := fun x => ∃ i : Nat, i ≤ l.length ∧ x = ((l, (vs.map lim, ())), ([(0 : Int), (0 : Int), (0 : Int), (0 : Int)], (lim (sat (sumL (l.take i))), (((l.length : Nat) : Int), (((i : Nat) : Int), ())))))) (m := fun x => (((l.length : Nat) : Int) - x.2.2.2.2.1).toNat)
    (g := fun _ => some ((lim (sat (sumL l + vs.sum)), ()), (some (l, (vs.map lim, ())), ()))) ?_ ⟨0, by omega, by rw [List.take_zero, sumL_nil, sat_of (by decide), lim_zero]; rfl⟩ (by rw [bigN_eq]; simp only; omega)
  rintro x again ⟨i, hi, rfl⟩ hag
  simp only at hag ⊢
  unfold T_ledger_Ledger_Supply_loop0
  rw [zA_eq]
  simp only [brR_dec, brR_inR]
  by_cases h : ((i : Nat) : Int) < ((l.length : Nat) : Int)
  · rw [if_pos h, if_pos (by omega), Int.toNat_natCast]
    have hs : sumL (l.take (i + 1)) = sumL (l.take i) + val4 (l.getD i zAcc).2.1 := by
      rw [take_succ' (d := zAcc) (by omega), sumL_append, sumL_cons, sumL_nil, Nat.add_zero]
    have hw := ha.at i
    generalize l.getD i zAcc = y at hw hs ⊢
    obtain ⟨h1, h2, h3⟩ := hw
    simp only at hs ⊢
    rw [val4_lim] at hs
    rw [satAdd_eq (sat_B _) h2, sat_add, ← hs, w_i64 (by omega) (by omega)]
    simp only [bind_some']
    exact hag _ ⟨i + 1, by omega, by rw [Int.natCast_add]; rfl⟩ (by simp only; omega)
  · rw [if_neg h, List.take_of_length_le (by omega)]
    exact supply_loop rfl hlen hb _
theorem LInv.vB {l : List AccT} {vs : List Nat} (h : LInv l vs) : ∀ n ∈ vs, B256 n := fun n hn => by
  have := vs_le hn
  have := h.sum
  unfold B256; omega
theorem supply_eq {l : List AccT} {vs : List Nat} (h : LInv l vs) (hl : l.length ≤ 1000000) :
    sol_ledger_Ledger_Supply (some (l, (vs.map lim, ())), ()) = some ((lim (sumL l + vs.sum), ()), (some (l, (vs.map lim, ())), ())) := by
  rw [supply_gen h.all hl h.len h.vB, sat_of h.sum]
abbrev crd (l : List AccT) (a : Int) (n : Nat) : List AccT := lput l (a, (lim (bal l a + n), (non l a, ())))
abbrev deb (l : List AccT) (a : Int) (n : Nat) : List AccT := lput l (a, (lim (bal l a - n), (non l a, ())))
theorem len_crd (l : List AccT) (a : Int) (n : Nat) : (crd l a n).length ≤ l.length + 1 := len_lput _ _
theorem len_deb (l : List AccT) (a : Int) (n : Nat) : (deb l a n).length ≤ l.length + 1 := len_lput _ _
theorem sum_crd {l : List AccT} {a : Int} {n : Nat} (hs : Srt l) : sumL (crd l a n) = sumL l + n := by
  have := sum_lput (y := (a, (lim (bal l a + n), (non l a, ())))) hs
  simp only [val4_lim] at this
  have e : bal l a = val4 (lget l a).2.1 := rfl
  unfold crd
  omega
theorem sum_deb {l : List AccT} {a : Int} {n : Nat} (hs : Srt l) (h : n ≤ bal l a) : sumL (deb l a n) + n = sumL l := by
  have := sum_lput (y := (a, (lim (bal l a - n), (non l a, ())))) hs
  simp only [val4_lim] at this
  have e : bal l a = val4 (lget l a).2.1 := rfl
  unfold deb
  have := bal_le l a
  omega
theorem nz_lput {l : List AccT} {y : AccT} (h : ∀ x ∈ l, x.1 ≠ 0) (hy : y.1 ≠ 0) : ∀ x ∈ lput l y, x.1 ≠ 0 := fun x hx => by
  rcases mem_lput hx with hx | ⟨rfl, _⟩
  · exact h x hx
  · exact hy
theorem LInv.put {l : List AccT} {vs : List Nat} {y : AccT} (h : LInv l vs) (hy : AccW y) (hz : y.1 ≠ 0) (hsum : sumL (lput l y) + vs.sum < 115792089237316195423570985008687907853269984665640564039457584007913129639936) : LInv (lput l y) vs :=
  ⟨srt_lput h.srt, ne_lput h.ne, all_lput h.all hy, nz_lput h.nz hz, h.len, hsum⟩
theorem credit_eq {l : List AccT} {v : List (List Int)} {a : Int} {n : Nat} (hs : Srt l) (ha : AllA l) (hl : l.length ≤ 900000) (hu : U64 a) (hn : B256 n) (hb : B256 (bal l a + n)) :
    sol_ledger_Ledger_credit (some (l, (v, ())), (a, (lim n, ()))) = some ((), (some (crd l a n, (v, ())), ((), ((), ())))) := by
  unfold sol_ledger_Ledger_credit T_ledger_Ledger_credit
  simp only [optR_some]
  rw [get_eq hs (by omega)]
  obtain ⟨e, hb1, hn1⟩ := lget_mk ha hu
  simp only [bind_some', optR_some]
  have e1 : (lget l a).2.1 = lim (bal l a) := by rw [e]
  have e2 : (lget l a).2.2 = (non l a, ()) := by rw [e]
  rw [e1, lget_fst, e2, satAdd_eq hb1 hn, sat_of hb]
  simp only [bind_some']
  rw [set_eq hs hl (AccW.mk hu hb hn1)]
  rfl
theorem debit_ok {l : List AccT} {v : List (List Int)} {a : Int} {n : Nat} (hs : Srt l) (ha : AllA l) (hl : l.length ≤ 900000) (hu : U64 a) (hn : n ≤ bal l a) :
    sol_ledger_Ledger_debit (some (l, (v, ())), (a, (lim n, ()))) = some (((0 : Int), ()), (some (deb l a n, (v, ())), ((), ((), ())))) := by
  unfold sol_ledger_Ledger_debit T_ledger_Ledger_debit
  simp only [optR_some]
  rw [get_eq hs (by omega)]
  obtain ⟨e, hb1, hn1⟩ := lget_mk ha hu
  simp only [bind_some', optR_some]
  have e1 : (lget l a).2.1 = lim (bal l a) := by rw [e]
  have e2 : (lget l a).2.2 = (non l a, ()) := by rw [e]
  rw [e1, lget_fst, e2, uSub_ok hb1 hn]
  simp only [bind_some', brR_not, brR_dec, if_true]
  rw [set_eq hs hl (AccW.mk hu (by unfold B256 at *; omega) hn1)]
  rfl
theorem debit_bad {l : List AccT} {v : List (List Int)} {a : Int} {n : Nat} (hs : Srt l) (ha : AllA l) (hl : l.length ≤ 900000) (hu : U64 a) (hn : bal l a < n) (hB : B256 n) :
    sol_ledger_Ledger_debit (some (l, (v, ())), (a, (lim n, ()))) = some (((10 : Int), ()), (some (l, (v, ())), ((), ((), ())))) := by
  unfold sol_ledger_Ledger_debit T_ledger_Ledger_debit
  simp only [optR_some]
  rw [get_eq hs (by omega)]
  obtain ⟨e, hb1, hn1⟩ := lget_mk ha hu
  simp only [bind_some', optR_some]
  have e1 : (lget l a).2.1 = lim (bal l a) := by rw [e]
  rw [e1, uSub_bad hn hB]
  simp only [bind_some', brR_not, brR_dec]
  rw [if_neg (by decide)]
def mintS (l : List AccT) (vs : List Nat) (a : Int) (n : Nat) : Int × (List AccT × List Nat) :=
  if a = 0 then (2, (l, vs)) else if sumL l + vs.sum + n < 115792089237316195423570985008687907853269984665640564039457584007913129639936 then (0, (crd l a n, vs)) else (4, (l, vs))
def transS (l : List AccT) (vs : List Nat) (a b : Int) (n : Nat) : Int × (List AccT × List Nat) :=
  if a = 0 ∨ b = 0 then (2, (l, vs)) else if n ≤ bal l a then (0, (crd (deb l a n) b n, vs)) else (10, (l, vs))
abbrev vix (v : Int) : Nat := (v - 1).toNat
def payS (l : List AccT) (vs : List Nat) (a v : Int) (n : Nat) : Int × (List AccT × List Nat) :=
  if a = 0 ∨ ¬ (1 ≤ v ∧ v ≤ 4) then (2, (l, vs)) else if n ≤ bal l a then (0, (deb l a n, vs.set (vix v) (vs.getD (vix v) 0 + n))) else (10, (l, vs))
def wvS (l : List AccT) (vs : List Nat) (v : Int) (n : Nat) : Int × (List AccT × List Nat) :=
  if 1 ≤ v ∧ v ≤ 4 then (if n ≤ vs.getD (vix v) 0 then (0, (l, vs.set (vix v) (vs.getD (vix v) 0 - n))) else (10, (l, vs))) else (2, (l, vs))
theorem mint_eq {l : List AccT} {vs : List Nat} {a : Int} {n : Nat} (h : LInv l vs) (hl : l.length ≤ 900000) (hu : U64 a) (hn : B256 n) :
    sol_ledger_Ledger_Mint (some (l, (vs.map lim, ())), (a, (lim n, ()))) = some (((mintS l vs a n).1, ()), (some ((mintS l vs a n).2.1, ((mintS l vs a n).2.2.map lim, ())), ((), ((), ())))) := by
  unfold sol_ledger_Ledger_Mint T_ledger_Ledger_Mint mintS
  simp only [optR_some, brR_dec]
  by_cases c : a = 0
  · simp only [if_pos c]
  simp only [if_neg c]
  rw [supply_eq h (by omega)]
  simp only [bind_some', optR_some]
  rw [uAdd_eq h.sum hn]
  simp only [bind_some', brR_not, brR_dec]
  by_cases c2 : sumL l + vs.sum + n < 115792089237316195423570985008687907853269984665640564039457584007913129639936
  · simp only [if_pos c2, if_true]
    rw [credit_eq h.srt h.all hl hu hn (by have := bal_le l a; unfold B256; omega)]
    rfl
  · simp only [if_neg c2]
    rw [if_neg (by decide)]
theorem LInv.deb {l : List AccT} {vs : List Nat} {a : Int} {n : Nat} (h : LInv l vs) (hu : U64 a) (hz : a ≠ 0) (hn : n ≤ bal l a) : LInv (deb l a n) vs := by
  obtain ⟨_, hb1, hn1⟩ := lget_mk h.all hu
  have hs := sum_deb h.srt hn
  have hsum := h.sum
  exact h.put (AccW.mk hu (by unfold B256 at *; omega) hn1) hz (by show sumL (Go.Pon.deb l a n) + _ < _; omega)
theorem transfer_eq {l : List AccT} {vs : List Nat} {a b : Int} {n : Nat} (h : LInv l vs) (hl : l.length ≤ 800000) (hu : U64 a) (hub : U64 b) (hn : B256 n) :
    sol_ledger_Ledger_Transfer (some (l, (vs.map lim, ())), (a, (b, (lim n, ())))) = some (((transS l vs a b n).1, ()), (some ((transS l vs a b n).2.1, ((transS l vs a b n).2.2.map lim, ())), ((), ((), ((), ()))))) := by
  unfold sol_ledger_Ledger_Transfer T_ledger_Ledger_Transfer transS
  simp only [optR_some, brR_dec]
  by_cases c : a = 0
  · simp only [if_pos c, if_pos (show a = 0 ∨ b = 0 from .inl c)]
  by_cases c1 : b = 0
  · simp only [if_neg c, if_pos c1, if_pos (show a = 0 ∨ b = 0 from .inr c1)]
  have c2 : ¬ (a = 0 ∨ b = 0) := by omega
  simp only [if_neg c, if_neg c1, if_neg c2]
  have hsum := h.sum
  by_cases c3 : n ≤ bal l a
  · have hs := sum_deb h.srt c3
    have hla := len_lput l (a, (lim (bal l a - n), (non l a, ())))
    have hi := h.deb hu c c3
    have hle := bal_le (deb l a n) b
    simp only [if_pos c3]
    rw [debit_ok h.srt h.all (by omega) hu c3]
    simp only [bind_some', optR_some, brR_not, brR_dec, if_true]
    rw [credit_eq hi.srt hi.all (by show (lput _ _).length ≤ _; omega) hub hn (by unfold B256; omega)]
    rfl
  · simp only [if_neg c3]
    rw [debit_bad h.srt h.all (by omega) hu (by omega) hn]
    simp only [bind_some', optR_some, brR_not, brR_dec]
    rw [if_neg (by decide)]
theorem isVault_eq (v : Int) : sol_ledger_isVault (v, ()) = some ((decide (1 ≤ v ∧ v ≤ 4), ()), ((), ())) := by
  unfold sol_ledger_isVault T_ledger_isVault
  simp only [brR_dec]
  by_cases h : v ≥ 1
  · rw [if_pos h]
    by_cases h2 : v ≤ 4
    · rw [decide_eq_true h2, decide_eq_true ⟨h, h2⟩]
    · rw [decide_eq_false h2, decide_eq_false fun h => h2 h.2]
  · rw [if_neg h, decide_eq_false fun h2 => h h2.1]
theorem payVault_eq {l : List AccT} {vs : List Nat} {a v : Int} {n : Nat} (h : LInv l vs) (hl : l.length ≤ 800000) (hu : U64 a) (hn : B256 n) (hv : -9223372036854775808 ≤ v ∧ v ≤ 9223372036854775807) :
    sol_ledger_Ledger_PayVault (some (l, (vs.map lim, ())), (a, (v, (lim n, ())))) = some (((payS l vs a v n).1, ()), (some ((payS l vs a v n).2.1, ((payS l vs a v n).2.2.map lim, ())), ((), ((), ((), ()))))) := by
  unfold sol_ledger_Ledger_PayVault T_ledger_Ledger_PayVault payS
  simp only [letR_eq, optR_some, brR_dec]
  by_cases c : a = 0
  · simp only [if_pos c, if_pos (show a = 0 ∨ ¬ (1 ≤ v ∧ v ≤ 4) from .inl c)]
  rw [if_neg c, isVault_eq]
  simp only [bind_some', brR_not, brR_dec]
  by_cases c1 : 1 ≤ v ∧ v ≤ 4
  case neg => simp only [if_neg c1, if_pos (show a = 0 ∨ ¬ (1 ≤ v ∧ v ≤ 4) from .inr c1)]
  have c2 : ¬ (a = 0 ∨ ¬ (1 ≤ v ∧ v ≤ 4)) := fun h => h.elim c (fun h => h c1)
  simp only [if_pos c1, if_neg c2]
  have hsum := h.sum
  have hlen := h.len
  by_cases c3 : n ≤ bal l a
  · simp only [if_pos c3]
    rw [debit_ok h.srt h.all (by omega) hu c3]
    simp only [bind_some', optR_some, brR_not, brR_dec, if_true, brR_inR]
    have hw : IntKind.wrap .i64 (v - 1) = v - 1 := w_i64 (by omega) (by omega)
    have hx : (v - 1).toNat = vix v := rfl
    rw [hw, hx, if_pos (by omega), vget_eq]
    have hg := vget_le vs (vix v)
    have hbl := bal_le l a
    rw [satAdd_eq (by unfold B256; omega) hn, sat_of (by omega)]
    simp only [bind_some']
    rw [if_pos (by omega), ← List.map_set]
  · simp only [if_neg c3]
    rw [debit_bad h.srt h.all (by omega) hu (by omega) hn]
    simp only [bind_some', optR_some, brR_not, brR_dec]
    rw [if_neg (by decide)]
theorem withdrawVault_eq {l : List AccT} {vs : List Nat} {v : Int} {n : Nat} (h : LInv l vs) (hn : B256 n) (hv : -9223372036854775808 ≤ v ∧ v ≤ 9223372036854775807) :
    sol_ledger_Ledger_WithdrawVault (some (l, (vs.map lim, ())), (v, (lim n, ()))) = some (((wvS l vs v n).1, ()), (some ((wvS l vs v n).2.1, ((wvS l vs v n).2.2.map lim, ())), ((), ((), ())))) := by
  unfold sol_ledger_Ledger_WithdrawVault T_ledger_Ledger_WithdrawVault wvS
  simp only [letR_eq, optR_some]
  rw [isVault_eq]
  simp only [bind_some', brR_not, brR_dec, brR_inR]
  by_cases c1 : 1 ≤ v ∧ v ≤ 4
  case neg => simp only [if_neg c1]
  simp only [if_pos c1]
  have hw : IntKind.wrap .i64 (v - 1) = v - 1 := w_i64 (by omega) (by omega)
  have hx : (v - 1).toNat = vix v := rfl
  have hlen := h.len
  have hg := vget_le vs (vix v)
  have hsum := h.sum
  rw [hw, hx, if_pos (by omega), vget_eq]
  by_cases c3 : n ≤ vs.getD (vix v) 0
  · simp only [if_pos c3]
    rw [uSub_ok (by omega) c3]
    simp only [bind_some', if_true]
    rw [if_pos (by omega), ← List.map_set]
  · simp only [if_neg c3]
    rw [uSub_bad (by omega) hn]
    simp only [bind_some']
    rw [if_neg (by decide)]
theorem balance_eq {l : List AccT} {v : List (List Int)} {a : Int} (hs : Srt l) (hl : l.length ≤ 1000000) : sol_ledger_Ledger_Balance (some (l, (v, ())), (a, ())) = some (((lget l a).2.1, ()), (some (l, (v, ())), ((), ()))) := by
  unfold sol_ledger_Ledger_Balance T_ledger_Ledger_Balance
  simp only [optR_some]
  rw [get_eq hs hl]; rfl
abbrev vaultAt (vs : List Nat) (v : Int) : Nat := if 1 ≤ v ∧ v ≤ 4 then vs.getD (vix v) 0 else 0
theorem vault_eq {l : List AccT} {vs : List Nat} {v : Int} (hlen : vs.length = 4) (hv : -9223372036854775808 ≤ v ∧ v ≤ 9223372036854775807) :
    sol_ledger_Ledger_Vault (some (l, (vs.map lim, ())), (v, ())) = some ((lim (vaultAt vs v), ()), (some (l, (vs.map lim, ())), ((), ()))) := by
  unfold sol_ledger_Ledger_Vault T_ledger_Ledger_Vault
  simp only [letR_eq, optR_some]
  rw [isVault_eq]
  simp only [bind_some', brR_not, brR_dec, brR_inR]
  unfold vaultAt
  by_cases c1 : 1 ≤ v ∧ v ≤ 4
  case neg => simp only [if_neg c1]; rfl
  have hw : IntKind.wrap .i64 (v - 1) = v - 1 := w_i64 (by omega) (by omega)
  have hx : (v - 1).toNat = vix v := rfl
  simp only [if_pos c1]
  rw [hw, hx, if_pos (by omega), vget_eq]
def okA (l : List AccT) (i : Nat) : Prop := (l.getD i zAcc).1 ≠ 0 ∧ ¬ isE (l.getD i zAcc) ∧ (0 < i → (l.getD (i - 1) zAcc).1 < (l.getD i zAcc).1)
def VA (l : List AccT) : Prop := ∀ i, i < l.length → okA l i
theorem VA.srt {l : List AccT} (h : VA l) : Srt l := by
  refine List.pairwise_iff_getElem.2 fun i j hi hj hij => ?_
  have key : ∀ d, i + 1 + d < l.length → (l.getD i zAcc).1 < (l.getD (i + 1 + d) zAcc).1 := by
    intro d
    induction d with
    | zero => intro hd; exact (h (i + 1) (by omega)).2.2 (by omega)
    | succ d ih =>
      intro hd
      have h1 := ih (by omega)
      have h2 := (h (i + 1 + (d + 1)) hd).2.2 (by omega)
      rw [show i + 1 + (d + 1) - 1 = i + 1 + d by omega] at h2
      omega
  have := key (j - i - 1) (by omega)
  rw [show i + 1 + (j - i - 1) = j by omega, List.getD_eq_getElem?_getD, List.getElem?_eq_getElem hi, List.getD_eq_getElem?_getD, List.getElem?_eq_getElem hj] at this
  exact this
theorem mem_getD {l : List AccT} {x : AccT} (h : x ∈ l) : ∃ i, i < l.length ∧ l.getD i zAcc = x := by
  obtain ⟨i, hi, rfl⟩ := List.getElem_of_mem h
  exact ⟨i, hi, by rw [List.getD_eq_getElem?_getD, List.getElem?_eq_getElem hi]; rfl⟩
theorem VA.ne {l : List AccT} (h : VA l) : NE l := fun x hx => by
  obtain ⟨i, hi, rfl⟩ := mem_getD hx
  exact (h i hi).2.1
theorem VA.nz {l : List AccT} (h : VA l) : ∀ x ∈ l, x.1 ≠ 0 := fun x hx => by
  obtain ⟨i, hi, rfl⟩ := mem_getD hx
  exact (h i hi).1
end Go.Pon
set_option autoImplicit false
set_option linter.unusedVariables false
set_option linter.unusedSimpArgs false
namespace Go.Pon
open Go
structure RefInv (m : List AccT) : Prop where
  dist : Dist m
  all : AllA m
theorem RefInv.put {m : List AccT} {y : AccT} (h : RefInv m) (hy : AccW y) : RefInv (mput m y) := ⟨dist_mput h.dist, all_mput h.all hy⟩
end Go.Pon
set_option autoImplicit false
set_option linter.unusedVariables false
set_option linter.unusedSimpArgs false
namespace Go.Pon
open Go
def I64 (n : Int) : Prop := -9223372036854775808 ≤ n ∧ n ≤ 9223372036854775807
theorem mod_range {x n : Int} (h : 1 ≤ n) : 0 ≤ x % 18446744073709551616 % n ∧ x % 18446744073709551616 % n < n := ⟨Int.emod_nonneg _ (by omega), Int.emod_lt_of_pos _ (by omega)⟩
structure StepOK (l : List AccT) (vs : List Nat) (r : Int × (List AccT × List Nat)) (i o : Nat) : Prop where
  inv : LInv r.2.1 r.2.2
  len : r.2.1.length ≤ l.length + 2
  bad : r.1 ≠ 0 → r.2 = (l, vs)
  sum : r.1 = 0 → sumL r.2.1 + r.2.2.sum + o = sumL l + vs.sum + i
theorem StepOK.same {l : List AccT} {vs : List Nat} {c : Int} {i o : Nat} (h : LInv l vs) (hc : c ≠ 0) : StepOK l vs (c, (l, vs)) i o :=
  ⟨h, by simp only; omega, fun _ => rfl, fun e => absurd e hc⟩
theorem mintS_ok {l : List AccT} {vs : List Nat} {a : Int} {n : Nat} (h : LInv l vs) (ha : U64 a) (hn : B256 n) : StepOK l vs (mintS l vs a n) n 0 := by
  unfold mintS
  by_cases c : a = 0
  · rw [if_pos c]; exact .same h (by decide)
  rw [if_neg c]
  by_cases c2 : sumL l + vs.sum + n < 115792089237316195423570985008687907853269984665640564039457584007913129639936
  · rw [if_pos c2]
    obtain ⟨_, hb1, hn1⟩ := lget_mk h.all ha
    have hs := sum_crd (a := a) (n := n) h.srt
    have hbl := bal_le l a
    refine ⟨h.put (AccW.mk ha (by unfold B256; omega) hn1) c (by show sumL (crd l a n) + _ < _; omega), by have := len_crd l a n; simp only; omega, fun e => absurd rfl e, fun _ => by simp only; omega⟩
  · rw [if_neg c2]; exact .same h (by decide)
theorem transS_ok {l : List AccT} {vs : List Nat} {a b : Int} {n : Nat} (h : LInv l vs) (ha : U64 a) (hb : U64 b) (hn : B256 n) : StepOK l vs (transS l vs a b n) 0 0 := by
  unfold transS
  by_cases c : a = 0 ∨ b = 0
  · rw [if_pos c]; exact .same h (by decide)
  rw [if_neg c]
  by_cases c2 : n ≤ bal l a
  · rw [if_pos c2]
    have hi := h.deb ha (by omega) c2
    obtain ⟨_, hb1, hn1⟩ := lget_mk hi.all hb
    have hs := sum_deb h.srt c2
    have hs2 := sum_crd (l := deb l a n) (a := b) (n := n) hi.srt
    have hbl := bal_le (deb l a n) b
    have hsum := h.sum
    have l1 := len_deb l a n
    have l2 := len_crd (deb l a n) b n
    refine ⟨hi.put (AccW.mk hb (by unfold B256; omega) hn1) (by simp only; omega) (by show sumL (crd (deb l a n) b n) + _ < _; omega), by simp only; omega, fun e => absurd rfl e, fun _ => by simp only; omega⟩
  · rw [if_neg c2]; exact .same h (by decide)
theorem payS_ok {l : List AccT} {vs : List Nat} {a v : Int} {n : Nat} (h : LInv l vs) (ha : U64 a) (hn : B256 n) : StepOK l vs (payS l vs a v n) 0 0 := by
  unfold payS
  by_cases c : a = 0 ∨ ¬ (1 ≤ v ∧ v ≤ 4)
  · rw [if_pos c]; exact .same h (by decide)
  rw [if_neg c]
  by_cases c2 : n ≤ bal l a
  · rw [if_pos c2]
    have hi := h.deb ha (by omega) c2
    have hs := sum_deb h.srt c2
    have hlen := h.len
    have hsum := h.sum
    have hv := set_sum (vs := vs) (i := vix v) (n := vs.getD (vix v) 0 + n) (by unfold vix; omega)
    have l1 := len_deb l a n
    refine ⟨⟨hi.srt, hi.ne, hi.all, hi.nz, by simp only [List.length_set]; exact hlen, by simp only; omega⟩, by simp only; omega, fun e => absurd rfl e, fun _ => by simp only; omega⟩
  · rw [if_neg c2]; exact .same h (by decide)
theorem wvS_ok {l : List AccT} {vs : List Nat} {v : Int} {n : Nat} (h : LInv l vs) (hn : B256 n) : StepOK l vs (wvS l vs v n) 0 n := by
  unfold wvS
  by_cases c : 1 ≤ v ∧ v ≤ 4
  · rw [if_pos c]
    by_cases c2 : n ≤ vs.getD (vix v) 0
    · rw [if_pos c2]
      have hlen := h.len
      have hsum := h.sum
      have hv := set_sum (vs := vs) (i := vix v) (n := vs.getD (vix v) 0 - n) (by unfold vix; omega)
      exact ⟨⟨h.srt, h.ne, h.all, h.nz, by simp only [List.length_set]; exact hlen, by simp only; omega⟩, by simp only; omega, fun e => absurd rfl e, fun _ => by simp only; omega⟩
    · rw [if_neg c2]; exact .same h (by decide)
  · rw [if_neg c]; exact .same h (by decide)
theorem inv_nil : LInv [] [0, 0, 0, 0] := ⟨List.Pairwise.nil, fun x h => by simp at h, fun x h => by simp at h, fun x h => by simp at h, rfl, by simp [sumL_nil]⟩
theorem lnew_eq : sol_ledger_New () = some ((([], (([0, 0, 0, 0] : List Nat).map lim, ())), ()), ()) := rfl
theorem awake11 : sol_law11_awake () = some ((true, ()), ()) := by
  have l10 : ([(10 : Int), 0, 0, 0] : List Int) = lim 10 := rfl
  have l11 : ([(11 : Int), 0, 0, 0] : List Int) = lim 11 := rfl
  have l4 : ([(4 : Int), 0, 0, 0] : List Int) = lim 4 := rfl
  have l6 : ([(6 : Int), 0, 0, 0] : List Int) = lim 6 := rfl
  have u5 : U64 5 := by unfold U64; omega
  have u6 : U64 6 := by unfold U64; omega
  unfold sol_law11_awake T_law11_awake
  rw [lnew_eq]
  simp only [bind_some']
  rw [l10, l11, l4, l6, mint_eq inv_nil (by simp) u5 (by unfold B256; omega)]
  have s1 : mintS [] [0, 0, 0, 0] 5 10 = (0, ([(5, (lim 10, ((0 : Int), ())))], [0, 0, 0, 0])) := by kernel_rfl
  have k1 := mintS_ok (a := 5) (n := 10) inv_nil u5 (by unfold B256; omega)
  rw [s1] at k1 ⊢
  have i1 := k1.inv
  simp only [bind_some', optR_some] at i1 ⊢
  have s2 : transS [(5, (lim 10, ((0 : Int), ())))] [0, 0, 0, 0] 5 6 11 = (10, ([(5, (lim 10, ((0 : Int), ())))], [0, 0, 0, 0])) := by kernel_rfl
  rw [transfer_eq i1 (by simp) u5 u6 (by unfold B256; omega), s2]
  simp only [bind_some', optR_some]
  have s3 : payS [(5, (lim 10, ((0 : Int), ())))] [0, 0, 0, 0] 5 3 4 = (0, ([(5, (lim 6, ((0 : Int), ())))], [0, 0, 4, 0])) := by kernel_rfl
  rw [payVault_eq i1 (by simp) u5 (by unfold B256; omega) (by omega)]
  have k3 := payS_ok (a := 5) (v := 3) (n := 4) i1 u5 (by unfold B256; omega)
  rw [s3] at k3 ⊢
  have i3 := k3.inv
  simp only [bind_some', optR_some, brR_dec] at i3 ⊢
  rw [if_pos trivial, if_pos trivial, if_pos trivial, supply_eq i3 (by simp)]
  simp only [bind_some', optR_some]
  rw [eqD_iff.2 (by decide), brR_true, balance_eq i3.srt (by simp)]
  simp only [bind_some', optR_some]
  rw [eqD_iff.2 (by rfl), brR_true, vault_eq rfl (by omega)]
  simp only [bind_some', optR_some]
  rw [eqD_iff.2 (by decide)]
end Go.Pon
set_option autoImplicit false
set_option linter.unusedVariables false
set_option linter.unusedSimpArgs false
namespace Go.Pon
open Go
theorem joinR_eq {ω δ : Type} (f : δ → Option ω) (x : δ) : joinR f x = f x := rfl
theorem bal_put {l : List AccT} {a c : Int} {x : Nat} {k : Int} (hs : Srt l) : bal (lput l (a, (lim x, (k, ())))) c = if c = a then x else bal l c := by
  unfold bal
  rw [lget_lput hs]
  by_cases h : c = a
  · simp only [if_pos h, val4_lim]
  · simp only [if_neg h]
theorem bal_crd {l : List AccT} {a c : Int} {n : Nat} (hs : Srt l) : bal (crd l a n) c = if c = a then bal l a + n else bal l c := bal_put hs
theorem bal_deb {l : List AccT} {a c : Int} {n : Nat} (hs : Srt l) : bal (deb l a n) c = if c = a then bal l a - n else bal l c := bal_put hs
abbrev YB5 := (Bool × Unit) × (Unit × (Unit × (Unit × (Unit × (Unit × Unit)))))
theorem set4 {q i : Nat} (h : i < 4) : (([0, 0, 0, 0] : List Nat).set i q).getD i 0 = q := by
  have : i = 0 ∨ i = 1 ∨ i = 2 ∨ i = 3 := by omega
  rcases this with h | h | h | h <;> subst h <;> rfl
theorem transfer_end {l : List AccT} {n : Nat} {b vault : Int} (h : LInv l [0, 0, 0, 0]) (hl : l.length ≤ 1000) (hs : sumL l = n) (hb : U64 b) (hb0 : b ≠ 0) (hv : I64 vault) :
    ∃ y : YB5, T_law11_LedgerTransfer_join3 sol_law0_Mod sol_ledger_Ledger_Balance sol_ledger_Ledger_PayVault sol_ledger_Ledger_Vault sol_ledger_Ledger_Supply sol_ledger_Ledger_WithdrawVault sol_uint256_SaturatingSub sol_law11_awake b vault (lim n) (l, (([0, 0, 0, 0] : List Nat).map lim, ())) = some y ∧ y.1.1 = true := by
  unfold T_law11_LedgerTransfer_join3
  unfold I64 at hv
  simp only
  rw [mod_eq hv.1 hv.2 (by omega) (by omega), bind_some']
  have m4 := mod_range (x := vault) (n := 4) (by omega)
  simp only [letR_eq]
  rw [w_i64 (by omega) (by omega)]
  generalize hq : 1 + vault % 18446744073709551616 % 4 = v
  have hv4 : 1 ≤ v ∧ v ≤ 4 := by omega
  obtain ⟨e, hb1, _⟩ := lget_mk h.all hb
  have e1 : (lget l b).2.1 = lim (bal l b) := by rw [e]
  have hbl := bal_le l b
  rw [balance_eq h.srt (by omega), e1]
  simp only [bind_some', optR_some]
  have hn : B256 n := by have := h.sum; unfold B256; omega
  have ok := payS_ok (a := b) (v := v) (n := bal l b) h hb hb1
  have hp : payS l [0, 0, 0, 0] b v (bal l b) = (0, (deb l b (bal l b), ([0, 0, 0, 0] : List Nat).set (vix v) (0 + bal l b))) := by
    unfold payS
    rw [if_neg (by omega), if_pos (Nat.le_refl _)]
    have : ([0, 0, 0, 0] : List Nat).getD (vix v) 0 = 0 := by
      have := vget_le [0, 0, 0, 0] (vix v)
      simp only [List.sum_cons, List.sum_nil] at this
      omega
    rw [this]
  rw [payVault_eq h (by omega) hb hb1 (by omega), hp]
  rw [hp] at ok
  simp only [bind_some', optR_some]
  have h2 := ok.inv
  have hsum := ok.sum rfl
  have hlen := ok.len
  simp only at h2 hsum hlen
  rw [Nat.zero_add] at h2 hsum
  rw [Nat.zero_add]
  have hbd : bal (deb l b (bal l b)) b = 0 := by rw [bal_deb h.srt, if_pos rfl]; omega
  generalize deb l b (bal l b) = l2 at *
  have hset : (([0, 0, 0, 0] : List Nat).set (vix v) (bal l b)).getD (vix v) 0 = bal l b := set4 (by unfold vix; omega)
  generalize ([0, 0, 0, 0] : List Nat).set (vix v) (bal l b) = vs2 at *
  obtain ⟨e3, _, _⟩ := lget_mk h2.all hb
  have e4 : (lget l2 b).2.1 = lim (bal l2 b) := by rw [e3]
  rw [brR_dec, if_pos trivial, balance_eq h2.srt (by omega), e4, hbd]
  simp only [bind_some', optR_some]
  rw [← lim0, eqD_lim, decide_eq_true rfl, brR_true, vault_eq h2.len (by omega)]
  simp only [bind_some', optR_some]
  have hva : vaultAt vs2 v = bal l b := by unfold vaultAt; rw [if_pos hv4, hset]
  rw [hva, eqD_lim, decide_eq_true rfl, brR_true, supply_eq h2 (by omega)]
  simp only [bind_some', optR_some]
  have hs2 : sumL l2 + vs2.sum = n := by
    have : ([0, 0, 0, 0] : List Nat).sum = 0 := rfl
    omega
  rw [hs2, eqD_lim, decide_eq_true rfl, brR_true, withdrawVault_eq h2 hb1 (by omega)]
  have hw : wvS l2 vs2 v (bal l b) = (0, (l2, vs2.set (vix v) 0)) := by
    unfold wvS
    rw [if_pos hv4, hset, if_pos (Nat.le_refl _), Nat.sub_self]
  have ok3 := wvS_ok (v := v) (n := bal l b) h2 hb1
  rw [hw] at ok3 ⊢
  have h3 := ok3.inv
  have hsum3 := ok3.sum rfl
  simp only [bind_some', optR_some] at h3 hsum3 ⊢
  rw [brR_dec, if_pos trivial, supply_eq h3 (by omega)]
  simp only [bind_some', optR_some]
  rw [satSub_eq hn hb1, bind_some']
  simp only
  rw [show sumL l2 + (vs2.set (vix v) 0).sum = n - bal l b by omega, eqD_lim, decide_eq_true rfl, brR_true, awake11]
  exact ⟨_, rfl, rfl⟩
theorem law_LedgerTransfer_at (a b : Int) (n m : Nat) (vault : Int) (ha : U64 a) (hb : U64 b) (hn : B256 n) (hm : B256 m) (hv : I64 vault) :
    ∃ y, sol_law11_LedgerTransfer (a, (b, (lim n, (lim m, (vault, ()))))) = some y ∧ y.1.1 = true := by
  unfold sol_law11_LedgerTransfer T_law11_LedgerTransfer
  simp only
  rw [lnew_eq, bind_some']
  simp only [joinR_eq]
  have j0 : ∃ y : YB5, T_law11_LedgerTransfer_join0 sol_law11_awake ([], (([0, 0, 0, 0] : List Nat).map lim, ())) = some y ∧ y.1.1 = true := by
    unfold T_law11_LedgerTransfer_join0
    rw [awake11]
    exact ⟨_, rfl, rfl⟩
  rw [brR_dec]
  by_cases ca : a = 0
  · rw [if_pos ca]; exact j0
  rw [if_neg ca, brR_dec]
  by_cases cb : b = 0
  · rw [if_pos cb]; exact j0
  rw [if_neg cb]
  unfold T_law11_LedgerTransfer_join1
  simp only
  have ok := mintS_ok (a := a) (n := n) inv_nil ha hn
  have hz : sumL [] + ([0, 0, 0, 0] : List Nat).sum = 0 := rfl
  have hp : mintS [] [0, 0, 0, 0] a n = (0, (crd [] a n, [0, 0, 0, 0])) := by
    unfold mintS
    rw [if_neg ca, if_pos (by unfold B256 at hn; omega)]
  rw [mint_eq inv_nil (by simp) ha hn, hp]
  rw [hp] at ok
  have h1 := ok.inv
  have hs1 := ok.sum rfl
  have hl1 := ok.len
  simp only [bind_some', optR_some] at h1 hs1 hl1 ⊢
  rw [brR_not, brR_dec, if_pos trivial]
  have hb1 : ∀ c, bal (crd [] a n) c = if c = a then n else 0 := fun c => by
    rw [bal_crd List.Pairwise.nil]
    have : ∀ c, bal [] c = 0 := fun c => val4_z
    rw [this, this]
    simp
  generalize crd [] a n = l1 at *
  rw [transfer_eq h1 (by simp at hl1; omega) ha hb hm]
  have ok2 := transS_ok (a := a) (b := b) (n := m) h1 ha hb hm
  have ht : transS l1 [0, 0, 0, 0] a b m = (if m ≤ n then (0, (crd (deb l1 a m) b m, [0, 0, 0, 0])) else (10, (l1, [0, 0, 0, 0]))) := by
    unfold transS
    rw [if_neg (by omega), hb1, if_pos rfl]
  rw [ht] at ok2 ⊢
  rw [ucmp_eq hm hn]
  simp only [List.length_nil] at hl1
  have hz2 : ([0, 0, 0, 0] : List Nat).sum = 0 := rfl
  rw [hz2] at *
  by_cases c : m ≤ n
  · simp only [if_pos c] at ok2 ⊢
    have h2 := ok2.inv
    have hs2 := ok2.sum rfl
    have hl2 := ok2.len
    simp only [bind_some', optR_some] at h2 hs2 hl2 ⊢
    rw [hz2] at hs2
    have hd := h1.deb ha ca (show m ≤ bal l1 a by rw [hb1, if_pos rfl]; exact c)
    have hb2 : ∀ x, bal (crd (deb l1 a m) b m) x = if x = b then (if b = a then n - m else 0) + m else if x = a then n - m else 0 := fun x => by
      rw [bal_crd hd.srt, bal_deb h1.srt, bal_deb h1.srt, hb1, hb1, hb1, if_pos rfl]
      by_cases k1 : x = b
      · rw [if_pos k1, if_pos k1]
        by_cases k2 : b = a
        · rw [if_pos k2, if_pos k2]
        · rw [if_neg k2, if_neg k2, if_neg k2]
      · rw [if_neg k1, if_neg k1]
        by_cases k2 : x = a
        · rw [if_pos k2, if_pos k2]
        · rw [if_neg k2, if_neg k2, if_neg k2]
    generalize crd (deb l1 a m) b m = l2 at *
    have hcm : cmpN m n ≤ 0 := by unfold cmpN; split <;> (try split) <;> omega
    rw [decide_eq_true hcm, eqD_iff.2 (show decide True = true by decide), brR_not, brR_true, brR_not, brR_dec, if_pos trivial]
    unfold T_law11_LedgerTransfer_join2
    have fin := transfer_end (n := n) h2 (by omega) (by omega) hb cb hv
    have ebal : ∀ x, U64 x → (lget l2 x).2.1 = lim (bal l2 x) := fun x hx => by rw [(lget_mk h2.all hx).1]
    simp only [joinR_eq]
    rw [brR_dec, if_pos trivial, brR_not, brR_dec]
    by_cases cab : a = b
    · rw [if_pos cab, brR_not, brR_dec, if_pos trivial, brR_dec, if_pos cab, balance_eq h2.srt (by omega), ebal a ha, hb2]
      simp only [bind_some', optR_some]
      rw [if_pos cab, if_pos cab.symm, Nat.sub_add_cancel c, eqD_lim, decide_eq_true rfl, brR_not, brR_true]
      exact fin
    · rw [if_neg cab, balance_eq h2.srt (by omega), ebal b hb, hb2]
      simp only [bind_some', optR_some]
      rw [if_pos trivial, if_neg (fun h => cab h.symm), Nat.zero_add, eqD_lim, decide_eq_true rfl, brR_not, brR_true, balance_eq h2.srt (by omega), ebal a ha, hb2]
      simp only [bind_some', optR_some]
      rw [if_neg cab, if_pos trivial, satSub_eq hn hm, bind_some']
      simp only
      rw [eqD_lim, decide_eq_true rfl, brR_not, brR_true, brR_not, brR_dec, if_pos trivial, brR_dec, if_neg cab]
      exact fin
  · simp only [if_neg c] at ok2 ⊢
    simp only [bind_some', optR_some]
    have hcm : ¬ cmpN m n ≤ 0 := by unfold cmpN; rw [if_neg (by omega), if_pos (by omega)]; decide
    rw [decide_eq_false hcm, decide_eq_false (show ¬ ((10 : Int) = 0) by decide), eqD_iff.2 rfl, brR_not, brR_true, brR_not, brR_false, brR_not, brR_dec, if_pos trivial]
    unfold T_law11_LedgerTransfer_join2
    have fin := transfer_end (n := n) h1 (by omega) (by omega) hb cb hv
    simp only [joinR_eq]
    rw [brR_dec, if_neg (by decide), brR_not, brR_dec, if_neg (by decide), balance_eq h1.srt (by omega), (show (lget l1 a).2.1 = lim (bal l1 a) by rw [(lget_mk h1.all ha).1]), hb1]
    simp only [bind_some', optR_some]
    rw [if_pos trivial, eqD_lim, decide_eq_true rfl, brR_not, brR_true]
    exact fin
theorem law_LedgerTransfer : ∀ x, wfL s_law11_LedgerTransfer.ins x → ∃ y, sol_law11_LedgerTransfer x = some y ∧ y.1.1 = true :=
  fun ⟨a, b, n, m, v, _⟩ ⟨ha, hb, hn, hm, hv, _⟩ => by
    obtain ⟨k, hk, rfl⟩ := u256_wf hn
    obtain ⟨j, hj, rfl⟩ := u256_wf hm
    exact law_LedgerTransfer_at a b k j v (inK_u64.1 ha) (inK_u64.1 hb) hk hj (inK_i64.1 hv)
end Go.Pon
