/-
  Part of a proof: general lemmas, merged by a program of this work.
-/
import Derived.Test.YtjnjdkefncdlpaaF3
set_option autoImplicit false
set_option linter.unusedVariables false
set_option maxRecDepth 100000
namespace Go.Pon
open Go
abbrev s_cmp_isNaN_api_Address : Sig := ⟨[(.ro true (.int .u64))], [(.ro true .bool)]⟩
abbrev F_cmp_isNaN_api_Address := (Int × Unit) → Option ((Bool × Unit) × (Unit × Unit))
noncomputable def T_cmp_isNaN_api_Address (L : LoopD) (x_ : Int) : Option ((Bool × Unit) × (Unit × Unit)) := (some (((!(decide (x_ = x_))), ()), ((), ())))
noncomputable def sol_cmp_isNaN_api_Address : F_cmp_isNaN_api_Address := fun x => T_cmp_isNaN_api_Address bigLoop x.1
abbrev s_cmp_Compare_api_Address : Sig := ⟨[(.ro true (.int .u64)), (.ro true (.int .u64))], [(.ro true (.int .i64))]⟩
abbrev F_cmp_Compare_api_Address := (Int × (Int × Unit)) → Option ((Int × Unit) × (Unit × (Unit × Unit)))
noncomputable def T_cmp_Compare_api_Address (L : LoopD) (c_cmp_isNaN_api_Address : F_cmp_isNaN_api_Address) (x_ : Int) (y_ : Int) : Option ((Int × Unit) × (Unit × (Unit × Unit))) := (Option.bind (c_cmp_isNaN_api_Address (x_, ())) (fun (y_0 : ((Bool × Unit) × (Unit × Unit))) => (Option.bind (c_cmp_isNaN_api_Address (y_, ())) (fun (y_1 : ((Bool × Unit) × (Unit × Unit))) => (brR y_0.1.1 (brR y_1.1.1 (some (((0 : Int), ()), ((), ((), ())))) (some (((-1 : Int), ()), ((), ((), ()))))) (brR y_1.1.1 (some (((1 : Int), ()), ((), ((), ())))) (brR (decide (x_ < y_)) (some (((-1 : Int), ()), ((), ((), ())))) (brR (decide (x_ > y_)) (some (((1 : Int), ()), ((), ((), ())))) (some (((0 : Int), ()), ((), ((), ()))))))))))))
noncomputable def sol_cmp_Compare_api_Address : F_cmp_Compare_api_Address := fun x => T_cmp_Compare_api_Address bigLoop sol_cmp_isNaN_api_Address x.1 x.2.1
end Go.Pon
set_option autoImplicit false
set_option linter.unusedVariables false
set_option maxRecDepth 100000
namespace Go.Pon
open Go
abbrev s_math_bits_Len64 : Sig := ⟨[(.ro true (.int .u64))], [(.ro true (.int .i64))]⟩
abbrev F_math_bits_Len64 := (Int × Unit) → Option ((Int × Unit) × (Unit × Unit))
noncomputable def T_math_bits_Len64 (L : LoopD) (x_ : Int) : Option ((Int × Unit) × (Unit × Unit)) := (brR (decide (x_ ≥ (4294967296 : Int))) (brR (decide ((Int.fdiv x_ (4294967296 : Int)) ≥ (65536 : Int))) (brR (decide ((Int.fdiv (Int.fdiv x_ (4294967296 : Int)) (65536 : Int)) ≥ (256 : Int))) (brR (inR (IntKind.wrap (IntKind.u8) (Int.fdiv (Int.fdiv (Int.fdiv x_ (4294967296 : Int)) (65536 : Int)) (256 : Int))) (256 : Nat)) (some (((IntKind.wrap (IntKind.i64) ((56 : Int) + (IntKind.wrap (IntKind.i64) (List.getD [(0 : Int), (1 : Int), (2 : Int), (2 : Int), (3 : Int), (3 : Int), (3 : Int), (3 : Int), (4 : Int), (4 : Int), (4 : Int), (4 : Int), (4 : Int), (4 : Int), (4 : Int), (4 : Int), (5 : Int), (5 : Int), (5 : Int), (5 : Int), (5 : Int), (5 : Int), (5 : Int), (5 : Int), (5 : Int), (5 : Int), (5 : Int), (5 : Int), (5 : Int), (5 : Int), (5 : Int), (5 : Int), (6 : Int), (6 : Int), (6 : Int), (6 : Int), (6 : Int), (6 : Int), (6 : Int), (6 : Int), (6 : Int), (6 : Int), (6 : Int), (6 : Int), (6 : Int), (6 : Int), (6 : Int), (6 : Int), (6 : Int), (6 : Int), (6 : Int), (6 : Int), (6 : Int), (6 : Int), (6 : Int), (6 : Int), (6 : Int), (6 : Int), (6 : Int), (6 : Int), (6 : Int), (6 : Int), (6 : Int), (6 : Int), (7 : Int), (7 : Int), (7 : Int), (7 : Int), (7 : Int), (7 : Int), (7 : Int), (7 : Int), (7 : Int), (7 : Int), (7 : Int), (7 : Int), (7 : Int), (7 : Int), (7 : Int), (7 : Int), (7 : Int), (7 : Int), (7 : Int), (7 : Int), (7 : Int), (7 : Int), (7 : Int), (7 : Int), (7 : Int), (7 : Int), (7 : Int), (7 : Int), (7 : Int), (7 : Int), (7 : Int), (7 : Int), (7 : Int), (7 : Int), (7 : Int), (7 : Int), (7 : Int), (7 : Int), (7 : Int), (7 : Int), (7 : Int), (7 : Int), (7 : Int), (7 : Int), (7 : Int), (7 : Int), (7 : Int), (7 : Int), (7 : Int), (7 : Int), (7 : Int), (7 : Int), (7 : Int), (7 : Int), (7 : Int), (7 : Int), (7 : Int), (7 : Int), (7 : Int), (7 : Int), (7 : Int), (7 : Int), (7 : Int), (7 : Int), (8 : Int), (8 : Int), (8 : Int), (8 : Int), (8 : Int), (8 : Int), (8 : Int), (8 : Int), (8 : Int), (8 : Int), (8 : Int), (8 : Int), (8 : Int), (8 : Int), (8 : Int), (8 : Int), (8 : Int), (8 : Int), (8 : Int), (8 : Int), (8 : Int), (8 : Int), (8 : Int), (8 : Int), (8 : Int), (8 : Int), (8 : Int), (8 : Int), (8 : Int), (8 : Int), (8 : Int), (8 : Int), (8 : Int), (8 : Int), (8 : Int), (8 : Int), (8 : Int), (8 : Int), (8 : Int), (8 : Int), (8 : Int), (8 : Int), (8 : Int), (8 : Int), (8 : Int), (8 : Int), (8 : Int), (8 : Int), (8 : Int), (8 : Int), (8 : Int), (8 : Int), (8 : Int), (8 : Int), (8 : Int), (8 : Int), (8 : Int), (8 : Int), (8 : Int), (8 : Int), (8 : Int), (8 : Int), (8 : Int), (8 : Int), (8 : Int), (8 : Int), (8 : Int), (8 : Int), (8 : Int), (8 : Int), (8 : Int), (8 : Int), (8 : Int), (8 : Int), (8 : Int), (8 : Int), (8 : Int), (8 : Int), (8 : Int), (8 : Int), (8 : Int), (8 : Int), (8 : Int), (8 : Int), (8 : Int), (8 : Int), (8 : Int), (8 : Int), (8 : Int), (8 : Int), (8 : Int), (8 : Int), (8 : Int), (8 : Int), (8 : Int), (8 : Int), (8 : Int), (8 : Int), (8 : Int), (8 : Int), (8 : Int), (8 : Int), (8 : Int), (8 : Int), (8 : Int), (8 : Int), (8 : Int), (8 : Int), (8 : Int), (8 : Int), (8 : Int), (8 : Int), (8 : Int), (8 : Int), (8 : Int), (8 : Int), (8 : Int), (8 : Int), (8 : Int), (8 : Int), (8 : Int), (8 : Int), (8 : Int), (8 : Int), (8 : Int), (8 : Int), (8 : Int), (8 : Int)] (Int.toNat (IntKind.wrap (IntKind.u8) (Int.fdiv (Int.fdiv (Int.fdiv x_ (4294967296 : Int)) (65536 : Int)) (256 : Int)))) (0 : Int))))), ()), ((), ()))) none) (brR (inR (IntKind.wrap (IntKind.u8) (Int.fdiv (Int.fdiv x_ (4294967296 : Int)) (65536 : Int))) (256 : Nat)) (some (((IntKind.wrap (IntKind.i64) ((48 : Int) + (IntKind.wrap (IntKind.i64) (List.getD [(0 : Int), (1 : Int), (2 : Int), (2 : Int), (3 : Int), (3 : Int), (3 : Int), (3 : Int), (4 : Int), (4 : Int), (4 : Int), (4 : Int), (4 : Int), (4 : Int), (4 : Int), (4 : Int), (5 : Int), (5 : Int), (5 : Int), (5 : Int), (5 : Int), (5 : Int), (5 : Int), (5 : Int), (5 : Int), (5 : Int), (5 : Int), (5 : Int), (5 : Int), (5 : Int), (5 : Int), (5 : Int), (6 : Int), (6 : Int), (6 : Int), (6 : Int), (6 : Int), (6 : Int), (6 : Int), (6 : Int), (6 : Int), (6 : Int), (6 : Int), (6 : Int), (6 : Int), (6 : Int), (6 : Int), (6 : Int), (6 : Int), (6 : Int), (6 : Int), (6 : Int), (6 : Int), (6 : Int), (6 : Int), (6 : Int), (6 : Int), (6 : Int), (6 : Int), (6 : Int), (6 : Int), (6 : Int), (6 : Int), (6 : Int), (7 : Int), (7 : Int), (7 : Int), (7 : Int), (7 : Int), (7 : Int), (7 : Int), (7 : Int), (7 : Int), (7 : Int), (7 : Int), (7 : Int), (7 : Int), (7 : Int), (7 : Int), (7 : Int), (7 : Int), (7 : Int), (7 : Int), (7 : Int), (7 : Int), (7 : Int), (7 : Int), (7 : Int), (7 : Int), (7 : Int), (7 : Int), (7 : Int), (7 : Int), (7 : Int), (7 : Int), (7 : Int), (7 : Int), (7 : Int), (7 : Int), (7 : Int), (7 : Int), (7 : Int), (7 : Int), (7 : Int), (7 : Int), (7 : Int), (7 : Int), (7 : Int), (7 : Int), (7 : Int), (7 : Int), (7 : Int), (7 : Int), (7 : Int), (7 : Int), (7 : Int), (7 : Int), (7 : Int), (7 : Int), (7 : Int), (7 : Int), (7 : Int), (7 : Int), (7 : Int), (7 : Int), (7 : Int), (7 : Int), (7 : Int), (8 : Int), (8 : Int), (8 : Int), (8 : Int), (8 : Int), (8 : Int), (8 : Int), (8 : Int), (8 : Int), (8 : Int), (8 : Int), (8 : Int), (8 : Int), (8 : Int), (8 : Int), (8 : Int), (8 : Int), (8 : Int), (8 : Int), (8 : Int), (8 : Int), (8 : Int), (8 : Int), (8 : Int), (8 : Int), (8 : Int), (8 : Int), (8 : Int), (8 : Int), (8 : Int), (8 : Int), (8 : Int), (8 : Int), (8 : Int), (8 : Int), (8 : Int), (8 : Int), (8 : Int), (8 : Int), (8 : Int), (8 : Int), (8 : Int), (8 : Int), (8 : Int), (8 : Int), (8 : Int), (8 : Int), (8 : Int), (8 : Int), (8 : Int), (8 : Int), (8 : Int), (8 : Int), (8 : Int), (8 : Int), (8 : Int), (8 : Int), (8 : Int), (8 : Int), (8 : Int), (8 : Int), (8 : Int), (8 : Int), (8 : Int), (8 : Int), (8 : Int), (8 : Int), (8 : Int), (8 : Int), (8 : Int), (8 : Int), (8 : Int), (8 : Int), (8 : Int), (8 : Int), (8 : Int), (8 : Int), (8 : Int), (8 : Int), (8 : Int), (8 : Int), (8 : Int), (8 : Int), (8 : Int), (8 : Int), (8 : Int), (8 : Int), (8 : Int), (8 : Int), (8 : Int), (8 : Int), (8 : Int), (8 : Int), (8 : Int), (8 : Int), (8 : Int), (8 : Int), (8 : Int), (8 : Int), (8 : Int), (8 : Int), (8 : Int), (8 : Int), (8 : Int), (8 : Int), (8 : Int), (8 : Int), (8 : Int), (8 : Int), (8 : Int), (8 : Int), (8 : Int), (8 : Int), (8 : Int), (8 : Int), (8 : Int), (8 : Int), (8 : Int), (8 : Int), (8 : Int), (8 : Int), (8 : Int), (8 : Int), (8 : Int), (8 : Int), (8 : Int), (8 : Int), (8 : Int)] (Int.toNat (IntKind.wrap (IntKind.u8) (Int.fdiv (Int.fdiv x_ (4294967296 : Int)) (65536 : Int)))) (0 : Int))))), ()), ((), ()))) none)) (brR (decide ((Int.fdiv x_ (4294967296 : Int)) ≥ (256 : Int))) (brR (inR (IntKind.wrap (IntKind.u8) (Int.fdiv (Int.fdiv x_ (4294967296 : Int)) (256 : Int))) (256 : Nat)) (some (((IntKind.wrap (IntKind.i64) ((40 : Int) + (IntKind.wrap (IntKind.i64) (List.getD [(0 : Int), (1 : Int), (2 : Int), (2 : Int), (3 : Int), (3 : Int), (3 : Int), (3 : Int), (4 : Int), (4 : Int), (4 : Int), (4 : Int), (4 : Int), (4 : Int), (4 : Int), (4 : Int), (5 : Int), (5 : Int), (5 : Int), (5 : Int), (5 : Int), (5 : Int), (5 : Int), (5 : Int), (5 : Int), (5 : Int), (5 : Int), (5 : Int), (5 : Int), (5 : Int), (5 : Int), (5 : Int), (6 : Int), (6 : Int), (6 : Int), (6 : Int), (6 : Int), (6 : Int), (6 : Int), (6 : Int), (6 : Int), (6 : Int), (6 : Int), (6 : Int), (6 : Int), (6 : Int), (6 : Int), (6 : Int), (6 : Int), (6 : Int), (6 : Int), (6 : Int), (6 : Int), (6 : Int), (6 : Int), (6 : Int), (6 : Int), (6 : Int), (6 : Int), (6 : Int), (6 : Int), (6 : Int), (6 : Int), (6 : Int), (7 : Int), (7 : Int), (7 : Int), (7 : Int), (7 : Int), (7 : Int), (7 : Int), (7 : Int), (7 : Int), (7 : Int), (7 : Int), (7 : Int), (7 : Int), (7 : Int), (7 : Int), (7 : Int), (7 : Int), (7 : Int), (7 : Int), (7 : Int), (7 : Int), (7 : Int), (7 : Int), (7 : Int), (7 : Int), (7 : Int), (7 : Int), (7 : Int), (7 : Int), (7 : Int), (7 : Int), (7 : Int), (7 : Int), (7 : Int), (7 : Int), (7 : Int), (7 : Int), (7 : Int), (7 : Int), (7 : Int), (7 : Int), (7 : Int), (7 : Int), (7 : Int), (7 : Int), (7 : Int), (7 : Int), (7 : Int), (7 : Int), (7 : Int), (7 : Int), (7 : Int), (7 : Int), (7 : Int), (7 : Int), (7 : Int), (7 : Int), (7 : Int), (7 : Int), (7 : Int), (7 : Int), (7 : Int), (7 : Int), (7 : Int), (8 : Int), (8 : Int), (8 : Int), (8 : Int), (8 : Int), (8 : Int), (8 : Int), (8 : Int), (8 : Int), (8 : Int), (8 : Int), (8 : Int), (8 : Int), (8 : Int), (8 : Int), (8 : Int), (8 : Int), (8 : Int), (8 : Int), (8 : Int), (8 : Int), (8 : Int), (8 : Int), (8 : Int), (8 : Int), (8 : Int), (8 : Int), (8 : Int), (8 : Int), (8 : Int), (8 : Int), (8 : Int), (8 : Int), (8 : Int), (8 : Int), (8 : Int), (8 : Int), (8 : Int), (8 : Int), (8 : Int), (8 : Int), (8 : Int), (8 : Int), (8 : Int), (8 : Int), (8 : Int), (8 : Int), (8 : Int), (8 : Int), (8 : Int), (8 : Int), (8 : Int), (8 : Int), (8 : Int), (8 : Int), (8 : Int), (8 : Int), (8 : Int), (8 : Int), (8 : Int), (8 : Int), (8 : Int), (8 : Int), (8 : Int), (8 : Int), (8 : Int), (8 : Int), (8 : Int), (8 : Int), (8 : Int), (8 : Int), (8 : Int), (8 : Int), (8 : Int), (8 : Int), (8 : Int), (8 : Int), (8 : Int), (8 : Int), (8 : Int), (8 : Int), (8 : Int), (8 : Int), (8 : Int), (8 : Int), (8 : Int), (8 : Int), (8 : Int), (8 : Int), (8 : Int), (8 : Int), (8 : Int), (8 : Int), (8 : Int), (8 : Int), (8 : Int), (8 : Int), (8 : Int), (8 : Int), (8 : Int), (8 : Int), (8 : Int), (8 : Int), (8 : Int), (8 : Int), (8 : Int), (8 : Int), (8 : Int), (8 : Int), (8 : Int), (8 : Int), (8 : Int), (8 : Int), (8 : Int), (8 : Int), (8 : Int), (8 : Int), (8 : Int), (8 : Int), (8 : Int), (8 : Int), (8 : Int), (8 : Int), (8 : Int), (8 : Int), (8 : Int), (8 : Int), (8 : Int)] (Int.toNat (IntKind.wrap (IntKind.u8) (Int.fdiv (Int.fdiv x_ (4294967296 : Int)) (256 : Int)))) (0 : Int))))), ()), ((), ()))) none) (brR (inR (IntKind.wrap (IntKind.u8) (Int.fdiv x_ (4294967296 : Int))) (256 : Nat)) (some (((IntKind.wrap (IntKind.i64) ((32 : Int) + (IntKind.wrap (IntKind.i64) (List.getD [(0 : Int), (1 : Int), (2 : Int), (2 : Int), (3 : Int), (3 : Int), (3 : Int), (3 : Int), (4 : Int), (4 : Int), (4 : Int), (4 : Int), (4 : Int), (4 : Int), (4 : Int), (4 : Int), (5 : Int), (5 : Int), (5 : Int), (5 : Int), (5 : Int), (5 : Int), (5 : Int), (5 : Int), (5 : Int), (5 : Int), (5 : Int), (5 : Int), (5 : Int), (5 : Int), (5 : Int), (5 : Int), (6 : Int), (6 : Int), (6 : Int), (6 : Int), (6 : Int), (6 : Int), (6 : Int), (6 : Int), (6 : Int), (6 : Int), (6 : Int), (6 : Int), (6 : Int), (6 : Int), (6 : Int), (6 : Int), (6 : Int), (6 : Int), (6 : Int), (6 : Int), (6 : Int), (6 : Int), (6 : Int), (6 : Int), (6 : Int), (6 : Int), (6 : Int), (6 : Int), (6 : Int), (6 : Int), (6 : Int), (6 : Int), (7 : Int), (7 : Int), (7 : Int), (7 : Int), (7 : Int), (7 : Int), (7 : Int), (7 : Int), (7 : Int), (7 : Int), (7 : Int), (7 : Int), (7 : Int), (7 : Int), (7 : Int), (7 : Int), (7 : Int), (7 : Int), (7 : Int), (7 : Int), (7 : Int), (7 : Int), (7 : Int), (7 : Int), (7 : Int), (7 : Int), (7 : Int), (7 : Int), (7 : Int), (7 : Int), (7 : Int), (7 : Int), (7 : Int), (7 : Int), (7 : Int), (7 : Int), (7 : Int), (7 : Int), (7 : Int), (7 : Int), (7 : Int), (7 : Int), (7 : Int), (7 : Int), (7 : Int), (7 : Int), (7 : Int), (7 : Int), (7 : Int), (7 : Int), (7 : Int), (7 : Int), (7 : Int), (7 : Int), (7 : Int), (7 : Int), (7 : Int), (7 : Int), (7 : Int), (7 : Int), (7 : Int), (7 : Int), (7 : Int), (7 : Int), (8 : Int), (8 : Int), (8 : Int), (8 : Int), (8 : Int), (8 : Int), (8 : Int), (8 : Int), (8 : Int), (8 : Int), (8 : Int), (8 : Int), (8 : Int), (8 : Int), (8 : Int), (8 : Int), (8 : Int), (8 : Int), (8 : Int), (8 : Int), (8 : Int), (8 : Int), (8 : Int), (8 : Int), (8 : Int), (8 : Int), (8 : Int), (8 : Int), (8 : Int), (8 : Int), (8 : Int), (8 : Int), (8 : Int), (8 : Int), (8 : Int), (8 : Int), (8 : Int), (8 : Int), (8 : Int), (8 : Int), (8 : Int), (8 : Int), (8 : Int), (8 : Int), (8 : Int), (8 : Int), (8 : Int), (8 : Int), (8 : Int), (8 : Int), (8 : Int), (8 : Int), (8 : Int), (8 : Int), (8 : Int), (8 : Int), (8 : Int), (8 : Int), (8 : Int), (8 : Int), (8 : Int), (8 : Int), (8 : Int), (8 : Int), (8 : Int), (8 : Int), (8 : Int), (8 : Int), (8 : Int), (8 : Int), (8 : Int), (8 : Int), (8 : Int), (8 : Int), (8 : Int), (8 : Int), (8 : Int), (8 : Int), (8 : Int), (8 : Int), (8 : Int), (8 : Int), (8 : Int), (8 : Int), (8 : Int), (8 : Int), (8 : Int), (8 : Int), (8 : Int), (8 : Int), (8 : Int), (8 : Int), (8 : Int), (8 : Int), (8 : Int), (8 : Int), (8 : Int), (8 : Int), (8 : Int), (8 : Int), (8 : Int), (8 : Int), (8 : Int), (8 : Int), (8 : Int), (8 : Int), (8 : Int), (8 : Int), (8 : Int), (8 : Int), (8 : Int), (8 : Int), (8 : Int), (8 : Int), (8 : Int), (8 : Int), (8 : Int), (8 : Int), (8 : Int), (8 : Int), (8 : Int), (8 : Int), (8 : Int), (8 : Int), (8 : Int), (8 : Int), (8 : Int), (8 : Int)] (Int.toNat (IntKind.wrap (IntKind.u8) (Int.fdiv x_ (4294967296 : Int)))) (0 : Int))))), ()), ((), ()))) none))) (brR (decide (x_ ≥ (65536 : Int))) (brR (decide ((Int.fdiv x_ (65536 : Int)) ≥ (256 : Int))) (brR (inR (IntKind.wrap (IntKind.u8) (Int.fdiv (Int.fdiv x_ (65536 : Int)) (256 : Int))) (256 : Nat)) (some (((IntKind.wrap (IntKind.i64) ((24 : Int) + (IntKind.wrap (IntKind.i64) (List.getD [(0 : Int), (1 : Int), (2 : Int), (2 : Int), (3 : Int), (3 : Int), (3 : Int), (3 : Int), (4 : Int), (4 : Int), (4 : Int), (4 : Int), (4 : Int), (4 : Int), (4 : Int), (4 : Int), (5 : Int), (5 : Int), (5 : Int), (5 : Int), (5 : Int), (5 : Int), (5 : Int), (5 : Int), (5 : Int), (5 : Int), (5 : Int), (5 : Int), (5 : Int), (5 : Int), (5 : Int), (5 : Int), (6 : Int), (6 : Int), (6 : Int), (6 : Int), (6 : Int), (6 : Int), (6 : Int), (6 : Int), (6 : Int), (6 : Int), (6 : Int), (6 : Int), (6 : Int), (6 : Int), (6 : Int), (6 : Int), (6 : Int), (6 : Int), (6 : Int), (6 : Int), (6 : Int), (6 : Int), (6 : Int), (6 : Int), (6 : Int), (6 : Int), (6 : Int), (6 : Int), (6 : Int), (6 : Int), (6 : Int), (6 : Int), (7 : Int), (7 : Int), (7 : Int), (7 : Int), (7 : Int), (7 : Int), (7 : Int), (7 : Int), (7 : Int), (7 : Int), (7 : Int), (7 : Int), (7 : Int), (7 : Int), (7 : Int), (7 : Int), (7 : Int), (7 : Int), (7 : Int), (7 : Int), (7 : Int), (7 : Int), (7 : Int), (7 : Int), (7 : Int), (7 : Int), (7 : Int), (7 : Int), (7 : Int), (7 : Int), (7 : Int), (7 : Int), (7 : Int), (7 : Int), (7 : Int), (7 : Int), (7 : Int), (7 : Int), (7 : Int), (7 : Int), (7 : Int), (7 : Int), (7 : Int), (7 : Int), (7 : Int), (7 : Int), (7 : Int), (7 : Int), (7 : Int), (7 : Int), (7 : Int), (7 : Int), (7 : Int), (7 : Int), (7 : Int), (7 : Int), (7 : Int), (7 : Int), (7 : Int), (7 : Int), (7 : Int), (7 : Int), (7 : Int), (7 : Int), (8 : Int), (8 : Int), (8 : Int), (8 : Int), (8 : Int), (8 : Int), (8 : Int), (8 : Int), (8 : Int), (8 : Int), (8 : Int), (8 : Int), (8 : Int), (8 : Int), (8 : Int), (8 : Int), (8 : Int), (8 : Int), (8 : Int), (8 : Int), (8 : Int), (8 : Int), (8 : Int), (8 : Int), (8 : Int), (8 : Int), (8 : Int), (8 : Int), (8 : Int), (8 : Int), (8 : Int), (8 : Int), (8 : Int), (8 : Int), (8 : Int), (8 : Int), (8 : Int), (8 : Int), (8 : Int), (8 : Int), (8 : Int), (8 : Int), (8 : Int), (8 : Int), (8 : Int), (8 : Int), (8 : Int), (8 : Int), (8 : Int), (8 : Int), (8 : Int), (8 : Int), (8 : Int), (8 : Int), (8 : Int), (8 : Int), (8 : Int), (8 : Int), (8 : Int), (8 : Int), (8 : Int), (8 : Int), (8 : Int), (8 : Int), (8 : Int), (8 : Int), (8 : Int), (8 : Int), (8 : Int), (8 : Int), (8 : Int), (8 : Int), (8 : Int), (8 : Int), (8 : Int), (8 : Int), (8 : Int), (8 : Int), (8 : Int), (8 : Int), (8 : Int), (8 : Int), (8 : Int), (8 : Int), (8 : Int), (8 : Int), (8 : Int), (8 : Int), (8 : Int), (8 : Int), (8 : Int), (8 : Int), (8 : Int), (8 : Int), (8 : Int), (8 : Int), (8 : Int), (8 : Int), (8 : Int), (8 : Int), (8 : Int), (8 : Int), (8 : Int), (8 : Int), (8 : Int), (8 : Int), (8 : Int), (8 : Int), (8 : Int), (8 : Int), (8 : Int), (8 : Int), (8 : Int), (8 : Int), (8 : Int), (8 : Int), (8 : Int), (8 : Int), (8 : Int), (8 : Int), (8 : Int), (8 : Int), (8 : Int), (8 : Int), (8 : Int), (8 : Int), (8 : Int), (8 : Int)] (Int.toNat (IntKind.wrap (IntKind.u8) (Int.fdiv (Int.fdiv x_ (65536 : Int)) (256 : Int)))) (0 : Int))))), ()), ((), ()))) none) (brR (inR (IntKind.wrap (IntKind.u8) (Int.fdiv x_ (65536 : Int))) (256 : Nat)) (some (((IntKind.wrap (IntKind.i64) ((16 : Int) + (IntKind.wrap (IntKind.i64) (List.getD [(0 : Int), (1 : Int), (2 : Int), (2 : Int), (3 : Int), (3 : Int), (3 : Int), (3 : Int), (4 : Int), (4 : Int), (4 : Int), (4 : Int), (4 : Int), (4 : Int), (4 : Int), (4 : Int), (5 : Int), (5 : Int), (5 : Int), (5 : Int), (5 : Int), (5 : Int), (5 : Int), (5 : Int), (5 : Int), (5 : Int), (5 : Int), (5 : Int), (5 : Int), (5 : Int), (5 : Int), (5 : Int), (6 : Int), (6 : Int), (6 : Int), (6 : Int), (6 : Int), (6 : Int), (6 : Int), (6 : Int), (6 : Int), (6 : Int), (6 : Int), (6 : Int), (6 : Int), (6 : Int), (6 : Int), (6 : Int), (6 : Int), (6 : Int), (6 : Int), (6 : Int), (6 : Int), (6 : Int), (6 : Int), (6 : Int), (6 : Int), (6 : Int), (6 : Int), (6 : Int), (6 : Int), (6 : Int), (6 : Int), (6 : Int), (7 : Int), (7 : Int), (7 : Int), (7 : Int), (7 : Int), (7 : Int), (7 : Int), (7 : Int), (7 : Int), (7 : Int), (7 : Int), (7 : Int), (7 : Int), (7 : Int), (7 : Int), (7 : Int), (7 : Int), (7 : Int), (7 : Int), (7 : Int), (7 : Int), (7 : Int), (7 : Int), (7 : Int), (7 : Int), (7 : Int), (7 : Int), (7 : Int), (7 : Int), (7 : Int), (7 : Int), (7 : Int), (7 : Int), (7 : Int), (7 : Int), (7 : Int), (7 : Int), (7 : Int), (7 : Int), (7 : Int), (7 : Int), (7 : Int), (7 : Int), (7 : Int), (7 : Int), (7 : Int), (7 : Int), (7 : Int), (7 : Int), (7 : Int), (7 : Int), (7 : Int), (7 : Int), (7 : Int), (7 : Int), (7 : Int), (7 : Int), (7 : Int), (7 : Int), (7 : Int), (7 : Int), (7 : Int), (7 : Int), (7 : Int), (8 : Int), (8 : Int), (8 : Int), (8 : Int), (8 : Int), (8 : Int), (8 : Int), (8 : Int), (8 : Int), (8 : Int), (8 : Int), (8 : Int), (8 : Int), (8 : Int), (8 : Int), (8 : Int), (8 : Int), (8 : Int), (8 : Int), (8 : Int), (8 : Int), (8 : Int), (8 : Int), (8 : Int), (8 : Int), (8 : Int), (8 : Int), (8 : Int), (8 : Int), (8 : Int), (8 : Int), (8 : Int), (8 : Int), (8 : Int), (8 : Int), (8 : Int), (8 : Int), (8 : Int), (8 : Int), (8 : Int), (8 : Int), (8 : Int), (8 : Int), (8 : Int), (8 : Int), (8 : Int), (8 : Int), (8 : Int), (8 : Int), (8 : Int), (8 : Int), (8 : Int), (8 : Int), (8 : Int), (8 : Int), (8 : Int), (8 : Int), (8 : Int), (8 : Int), (8 : Int), (8 : Int), (8 : Int), (8 : Int), (8 : Int), (8 : Int), (8 : Int), (8 : Int), (8 : Int), (8 : Int), (8 : Int), (8 : Int), (8 : Int), (8 : Int), (8 : Int), (8 : Int), (8 : Int), (8 : Int), (8 : Int), (8 : Int), (8 : Int), (8 : Int), (8 : Int), (8 : Int), (8 : Int), (8 : Int), (8 : Int), (8 : Int), (8 : Int), (8 : Int), (8 : Int), (8 : Int), (8 : Int), (8 : Int), (8 : Int), (8 : Int), (8 : Int), (8 : Int), (8 : Int), (8 : Int), (8 : Int), (8 : Int), (8 : Int), (8 : Int), (8 : Int), (8 : Int), (8 : Int), (8 : Int), (8 : Int), (8 : Int), (8 : Int), (8 : Int), (8 : Int), (8 : Int), (8 : Int), (8 : Int), (8 : Int), (8 : Int), (8 : Int), (8 : Int), (8 : Int), (8 : Int), (8 : Int), (8 : Int), (8 : Int), (8 : Int), (8 : Int), (8 : Int), (8 : Int)] (Int.toNat (IntKind.wrap (IntKind.u8) (Int.fdiv x_ (65536 : Int)))) (0 : Int))))), ()), ((), ()))) none)) (brR (decide (x_ ≥ (256 : Int))) (brR (inR (IntKind.wrap (IntKind.u8) (Int.fdiv x_ (256 : Int))) (256 : Nat)) (some (((IntKind.wrap (IntKind.i64) ((8 : Int) + (IntKind.wrap (IntKind.i64) (List.getD [(0 : Int), (1 : Int), (2 : Int), (2 : Int), (3 : Int), (3 : Int), (3 : Int), (3 : Int), (4 : Int), (4 : Int), (4 : Int), (4 : Int), (4 : Int), (4 : Int), (4 : Int), (4 : Int), (5 : Int), (5 : Int), (5 : Int), (5 : Int), (5 : Int), (5 : Int), (5 : Int), (5 : Int), (5 : Int), (5 : Int), (5 : Int), (5 : Int), (5 : Int), (5 : Int), (5 : Int), (5 : Int), (6 : Int), (6 : Int), (6 : Int), (6 : Int), (6 : Int), (6 : Int), (6 : Int), (6 : Int), (6 : Int), (6 : Int), (6 : Int), (6 : Int), (6 : Int), (6 : Int), (6 : Int), (6 : Int), (6 : Int), (6 : Int), (6 : Int), (6 : Int), (6 : Int), (6 : Int), (6 : Int), (6 : Int), (6 : Int), (6 : Int), (6 : Int), (6 : Int), (6 : Int), (6 : Int), (6 : Int), (6 : Int), (7 : Int), (7 : Int), (7 : Int), (7 : Int), (7 : Int), (7 : Int), (7 : Int), (7 : Int), (7 : Int), (7 : Int), (7 : Int), (7 : Int), (7 : Int), (7 : Int), (7 : Int), (7 : Int), (7 : Int), (7 : Int), (7 : Int), (7 : Int), (7 : Int), (7 : Int), (7 : Int), (7 : Int), (7 : Int), (7 : Int), (7 : Int), (7 : Int), (7 : Int), (7 : Int), (7 : Int), (7 : Int), (7 : Int), (7 : Int), (7 : Int), (7 : Int), (7 : Int), (7 : Int), (7 : Int), (7 : Int), (7 : Int), (7 : Int), (7 : Int), (7 : Int), (7 : Int), (7 : Int), (7 : Int), (7 : Int), (7 : Int), (7 : Int), (7 : Int), (7 : Int), (7 : Int), (7 : Int), (7 : Int), (7 : Int), (7 : Int), (7 : Int), (7 : Int), (7 : Int), (7 : Int), (7 : Int), (7 : Int), (7 : Int), (8 : Int), (8 : Int), (8 : Int), (8 : Int), (8 : Int), (8 : Int), (8 : Int), (8 : Int), (8 : Int), (8 : Int), (8 : Int), (8 : Int), (8 : Int), (8 : Int), (8 : Int), (8 : Int), (8 : Int), (8 : Int), (8 : Int), (8 : Int), (8 : Int), (8 : Int), (8 : Int), (8 : Int), (8 : Int), (8 : Int), (8 : Int), (8 : Int), (8 : Int), (8 : Int), (8 : Int), (8 : Int), (8 : Int), (8 : Int), (8 : Int), (8 : Int), (8 : Int), (8 : Int), (8 : Int), (8 : Int), (8 : Int), (8 : Int), (8 : Int), (8 : Int), (8 : Int), (8 : Int), (8 : Int), (8 : Int), (8 : Int), (8 : Int), (8 : Int), (8 : Int), (8 : Int), (8 : Int), (8 : Int), (8 : Int), (8 : Int), (8 : Int), (8 : Int), (8 : Int), (8 : Int), (8 : Int), (8 : Int), (8 : Int), (8 : Int), (8 : Int), (8 : Int), (8 : Int), (8 : Int), (8 : Int), (8 : Int), (8 : Int), (8 : Int), (8 : Int), (8 : Int), (8 : Int), (8 : Int), (8 : Int), (8 : Int), (8 : Int), (8 : Int), (8 : Int), (8 : Int), (8 : Int), (8 : Int), (8 : Int), (8 : Int), (8 : Int), (8 : Int), (8 : Int), (8 : Int), (8 : Int), (8 : Int), (8 : Int), (8 : Int), (8 : Int), (8 : Int), (8 : Int), (8 : Int), (8 : Int), (8 : Int), (8 : Int), (8 : Int), (8 : Int), (8 : Int), (8 : Int), (8 : Int), (8 : Int), (8 : Int), (8 : Int), (8 : Int), (8 : Int), (8 : Int), (8 : Int), (8 : Int), (8 : Int), (8 : Int), (8 : Int), (8 : Int), (8 : Int), (8 : Int), (8 : Int), (8 : Int), (8 : Int), (8 : Int), (8 : Int), (8 : Int), (8 : Int)] (Int.toNat (IntKind.wrap (IntKind.u8) (Int.fdiv x_ (256 : Int)))) (0 : Int))))), ()), ((), ()))) none) (brR (inR (IntKind.wrap (IntKind.u8) x_) (256 : Nat)) (some (((IntKind.wrap (IntKind.i64) ((0 : Int) + (IntKind.wrap (IntKind.i64) (List.getD [(0 : Int), (1 : Int), (2 : Int), (2 : Int), (3 : Int), (3 : Int), (3 : Int), (3 : Int), (4 : Int), (4 : Int), (4 : Int), (4 : Int), (4 : Int), (4 : Int), (4 : Int), (4 : Int), (5 : Int), (5 : Int), (5 : Int), (5 : Int), (5 : Int), (5 : Int), (5 : Int), (5 : Int), (5 : Int), (5 : Int), (5 : Int), (5 : Int), (5 : Int), (5 : Int), (5 : Int), (5 : Int), (6 : Int), (6 : Int), (6 : Int), (6 : Int), (6 : Int), (6 : Int), (6 : Int), (6 : Int), (6 : Int), (6 : Int), (6 : Int), (6 : Int), (6 : Int), (6 : Int), (6 : Int), (6 : Int), (6 : Int), (6 : Int), (6 : Int), (6 : Int), (6 : Int), (6 : Int), (6 : Int), (6 : Int), (6 : Int), (6 : Int), (6 : Int), (6 : Int), (6 : Int), (6 : Int), (6 : Int), (6 : Int), (7 : Int), (7 : Int), (7 : Int), (7 : Int), (7 : Int), (7 : Int), (7 : Int), (7 : Int), (7 : Int), (7 : Int), (7 : Int), (7 : Int), (7 : Int), (7 : Int), (7 : Int), (7 : Int), (7 : Int), (7 : Int), (7 : Int), (7 : Int), (7 : Int), (7 : Int), (7 : Int), (7 : Int), (7 : Int), (7 : Int), (7 : Int), (7 : Int), (7 : Int), (7 : Int), (7 : Int), (7 : Int), (7 : Int), (7 : Int), (7 : Int), (7 : Int), (7 : Int), (7 : Int), (7 : Int), (7 : Int), (7 : Int), (7 : Int), (7 : Int), (7 : Int), (7 : Int), (7 : Int), (7 : Int), (7 : Int), (7 : Int), (7 : Int), (7 : Int), (7 : Int), (7 : Int), (7 : Int), (7 : Int), (7 : Int), (7 : Int), (7 : Int), (7 : Int), (7 : Int), (7 : Int), (7 : Int), (7 : Int), (7 : Int), (8 : Int), (8 : Int), (8 : Int), (8 : Int), (8 : Int), (8 : Int), (8 : Int), (8 : Int), (8 : Int), (8 : Int), (8 : Int), (8 : Int), (8 : Int), (8 : Int), (8 : Int), (8 : Int), (8 : Int), (8 : Int), (8 : Int), (8 : Int), (8 : Int), (8 : Int), (8 : Int), (8 : Int), (8 : Int), (8 : Int), (8 : Int), (8 : Int), (8 : Int), (8 : Int), (8 : Int), (8 : Int), (8 : Int), (8 : Int), (8 : Int), (8 : Int), (8 : Int), (8 : Int), (8 : Int), (8 : Int), (8 : Int), (8 : Int), (8 : Int), (8 : Int), (8 : Int), (8 : Int), (8 : Int), (8 : Int), (8 : Int), (8 : Int), (8 : Int), (8 : Int), (8 : Int), (8 : Int), (8 : Int), (8 : Int), (8 : Int), (8 : Int), (8 : Int), (8 : Int), (8 : Int), (8 : Int), (8 : Int), (8 : Int), (8 : Int), (8 : Int), (8 : Int), (8 : Int), (8 : Int), (8 : Int), (8 : Int), (8 : Int), (8 : Int), (8 : Int), (8 : Int), (8 : Int), (8 : Int), (8 : Int), (8 : Int), (8 : Int), (8 : Int), (8 : Int), (8 : Int), (8 : Int), (8 : Int), (8 : Int), (8 : Int), (8 : Int), (8 : Int), (8 : Int), (8 : Int), (8 : Int), (8 : Int), (8 : Int), (8 : Int), (8 : Int), (8 : Int), (8 : Int), (8 : Int), (8 : Int), (8 : Int), (8 : Int), (8 : Int), (8 : Int), (8 : Int), (8 : Int), (8 : Int), (8 : Int), (8 : Int), (8 : Int), (8 : Int), (8 : Int), (8 : Int), (8 : Int), (8 : Int), (8 : Int), (8 : Int), (8 : Int), (8 : Int), (8 : Int), (8 : Int), (8 : Int), (8 : Int), (8 : Int), (8 : Int), (8 : Int), (8 : Int), (8 : Int)] (Int.toNat (IntKind.wrap (IntKind.u8) x_)) (0 : Int))))), ()), ((), ()))) none))))
noncomputable def sol_math_bits_Len64 : F_math_bits_Len64 := fun x => T_math_bits_Len64 bigLoop x.1
abbrev s_math_bits_RotateLeft32 : Sig := ⟨[(.ro true (.int .u32)), (.ro true (.int .i64))], [(.ro true (.int .u32))]⟩
abbrev F_math_bits_RotateLeft32 := (Int × (Int × Unit)) → Option ((Int × Unit) × (Unit × (Unit × Unit)))
noncomputable def T_math_bits_RotateLeft32 (L : LoopD) (x_ : Int) (k_ : Int) : Option ((Int × Unit) × (Unit × (Unit × Unit))) := (letR (IntKind.wrap (IntKind.u64) (((BitVec.toNat ((BitVec.ofInt (64 : Nat) (IntKind.wrap (IntKind.u64) k_)) &&& (BitVec.ofInt (64 : Nat) (31 : Int)))) : Nat) : Int)) fun (v_0 : Int) => (letR (IntKind.wrap (IntKind.u64) ((32 : Int) - v_0)) fun (v_1 : Int) => (brR (decide ((0 : Int) ≤ v_0)) (brR (decide ((0 : Int) ≤ v_1)) (some (((IntKind.wrap (IntKind.u32) (((BitVec.toNat ((BitVec.ofInt (32 : Nat) (IntKind.wrap (IntKind.u32) (x_ * ((2 : Int) ^ (min (Int.toNat v_0) (32 : Nat)))))) ||| (BitVec.ofInt (32 : Nat) (Int.fdiv x_ ((2 : Int) ^ (min (Int.toNat v_1) (32 : Nat))))))) : Nat) : Int)), ()), ((), ((), ())))) none) none)))
noncomputable def sol_math_bits_RotateLeft32 : F_math_bits_RotateLeft32 := fun x => T_math_bits_RotateLeft32 bigLoop x.1 x.2.1
abbrev s_math_bits_Sub64 : Sig := ⟨[(.ro true (.int .u64)), (.ro true (.int .u64)), (.ro true (.int .u64))], [(.ro true (.int .u64)), (.ro true (.int .u64))]⟩
abbrev F_math_bits_Sub64 := (Int × (Int × (Int × (Unit)))) → Option ((Int × (Int × (Unit))) × (Unit × (Unit × (Unit × (Unit)))))
noncomputable def T_math_bits_Sub64 (L : LoopD) (x_ : Int) (y_ : Int) (c_ : Int) : Option ((Int × (Int × (Unit))) × (Unit × (Unit × (Unit × (Unit))))) := subC (x_, (y_, (c_, (()))))
noncomputable def sol_math_bits_Sub64 : F_math_bits_Sub64 := fun x => T_math_bits_Sub64 bigLoop x.1 x.2.1 x.2.2.1
abbrev s_math_bits_Add64 : Sig := ⟨[(.ro true (.int .u64)), (.ro true (.int .u64)), (.ro true (.int .u64))], [(.ro true (.int .u64)), (.ro true (.int .u64))]⟩
abbrev F_math_bits_Add64 := (Int × (Int × (Int × (Unit)))) → Option ((Int × (Int × (Unit))) × (Unit × (Unit × (Unit × (Unit)))))
noncomputable def T_math_bits_Add64 (L : LoopD) (x_ : Int) (y_ : Int) (c_ : Int) : Option ((Int × (Int × (Unit))) × (Unit × (Unit × (Unit × (Unit))))) := addC (x_, (y_, (c_, (()))))
noncomputable def sol_math_bits_Add64 : F_math_bits_Add64 := fun x => T_math_bits_Add64 bigLoop x.1 x.2.1 x.2.2.1
end Go.Pon
set_option autoImplicit false
set_option linter.unusedVariables false
set_option maxRecDepth 100000
namespace Go.Pon
open Go
abbrev s_slices_Grow_byte_byte : Sig := ⟨[.nilm (.int .u8), .ro true (.int .i64)], [.own true (.int .u8)]⟩
abbrev F_slices_Grow_byte_byte := (Unit × (Int × Unit)) → Option (((List Int) × Unit) × (Unit × (Unit × Unit)))
noncomputable def T_slices_Grow_byte_byte (L : LoopD) (s_ : Unit) (n_ : Int) : Option (((List Int) × Unit) × (Unit × (Unit × Unit))) := (brR (decide (n_ < (0 : Int))) none (brR (decide ((IntKind.wrap (IntKind.i64) (n_ - (0 : Int))) > (0 : Int))) (brR (((decide ((0 : Int) ≤ (IntKind.wrap (IntKind.i64) (n_ - (0 : Int))))) && (roomy (Int.toNat (IntKind.wrap (IntKind.i64) (n_ - (0 : Int)))) (Ty.int IntKind.u8))) && true) (brR (decide ((0 : Int) ≤ (((List.length (List.replicate (Int.toNat (IntKind.wrap (IntKind.i64) (n_ - (0 : Int)))) (0 : Int))) : Nat) : Int))) (some (((List.take (0 : Nat) (List.replicate (Int.toNat (IntKind.wrap (IntKind.i64) (n_ - (0 : Int)))) (0 : Int))), ()), ((), ((), ())))) none) none) (some ((([] : List Int), ()), ((), ((), ()))))))
noncomputable def sol_slices_Grow_byte_byte : F_slices_Grow_byte_byte := fun x => T_slices_Grow_byte_byte bigLoop x.1 x.2.1
abbrev s_slices_Concat_byte_byte : Sig := ⟨[(.ro false (.slice (.slice (.int .u8))))], [(.own true (.int .u8))]⟩
abbrev F_slices_Concat_byte_byte := ((List (List Int)) × Unit) → Option (((List Int) × Unit) × (Unit × Unit))
noncomputable def T_slices_Concat_byte_byte_loop1 (again_8 : ((List Int) × ((List (List Int)) × (Int × (Int × Unit)))) → Option (((List Int) × Unit) × (Unit × Unit))) (newslice_9 : (List Int)) (t25_10 : (List (List Int))) (t26_11 : Int) (t27_12 : Int) : Option (((List Int) × Unit) × (Unit × Unit)) := (brR (decide (t27_12 < t26_11)) (brR (inR t27_12 (List.length t25_10)) (brR (roomy ((List.length newslice_9) + (List.length (List.getD t25_10 (Int.toNat t27_12) ([] : List Int)))) (Ty.int IntKind.u8)) (again_8 ((List.append newslice_9 (List.getD t25_10 (Int.toNat t27_12) ([] : List Int))), (t25_10, (t26_11, ((IntKind.wrap (IntKind.i64) (t27_12 + (1 : Int))), ()))))) none) none) (some ((newslice_9, ()), ((), ()))))
noncomputable def T_slices_Concat_byte_byte_loop0 (L : LoopD) (c_slices_Grow_byte_byte : F_slices_Grow_byte_byte) (again_0 : ((List (List Int)) × (Int × ((List (List Int)) × (Int × (Int × Unit))))) → Option (((List Int) × Unit) × (Unit × Unit))) (slices_1 : (List (List Int))) (size_2 : Int) (t9_3 : (List (List Int))) (t10_4 : Int) (t11_5 : Int) : Option (((List Int) × Unit) × (Unit × Unit)) := (letR (IntKind.wrap (IntKind.i64) (size_2 + (((List.length (List.getD t9_3 (Int.toNat t11_5) ([] : List Int))) : Nat) : Int))) fun (v_6 : Int) => (brR (decide (t11_5 < t10_4)) (brR (inR t11_5 (List.length t9_3)) (brR (decide (v_6 < (0 : Int))) none (again_0 (slices_1, (v_6, (t9_3, (t10_4, ((IntKind.wrap (IntKind.i64) (t11_5 + (1 : Int))), ()))))))) none) (Option.bind (c_slices_Grow_byte_byte ((), (size_2, ()))) (fun (y_7 : (((List Int) × Unit) × (Unit × (Unit × Unit)))) => (L _ _ (fun again x => T_slices_Concat_byte_byte_loop1 again x.1 x.2.1 x.2.2.1 x.2.2.2.1) (y_7.1.1, (slices_1, ((((List.length slices_1) : Nat) : Int), ((0 : Int), ())))))))))
noncomputable def T_slices_Concat_byte_byte (L : LoopD) (c_slices_Grow_byte_byte : F_slices_Grow_byte_byte) (slices_ : (List (List Int))) : Option (((List Int) × Unit) × (Unit × Unit)) := (L _ _ (fun again x => T_slices_Concat_byte_byte_loop0 L c_slices_Grow_byte_byte again x.1 x.2.1 x.2.2.1 x.2.2.2.1 x.2.2.2.2.1) (slices_, ((0 : Int), (slices_, ((((List.length slices_) : Nat) : Int), ((0 : Int), ()))))))
noncomputable def sol_slices_Concat_byte_byte : F_slices_Concat_byte_byte := fun x => T_slices_Concat_byte_byte bigLoop sol_slices_Grow_byte_byte x.1
abbrev s_slices_Insert_api_Payment_api_Payment : Sig := ⟨[(.own false (.pair (.int .u64) (.pair (.arr 4 (.int .u64)) .unit))), (.ro true (.int .i64)), (.own false (.pair (.int .u64) (.pair (.arr 4 (.int .u64)) .unit)))], [(.own false (.pair (.int .u64) (.pair (.arr 4 (.int .u64)) .unit)))]⟩
abbrev F_slices_Insert_api_Payment_api_Payment := ((List (Int × ((List Int) × Unit))) × (Int × ((List (Int × ((List Int) × Unit))) × (Unit)))) → Option (((List (Int × ((List Int) × Unit))) × (Unit)) × (Unit × (Unit × (Unit × (Unit)))))
noncomputable def T_slices_Insert_api_Payment_api_Payment (L : LoopD) (s_ : (List (Int × ((List Int) × Unit)))) (i_ : Int) (v_ : (List (Int × ((List Int) × Unit)))) : Option (((List (Int × ((List Int) × Unit))) × (Unit)) × (Unit × (Unit × (Unit × (Unit))))) := insF (.pair (.int .u64) (.pair (.arr 4 (.int .u64)) .unit)) (s_, (i_, (v_, (()))))
noncomputable def sol_slices_Insert_api_Payment_api_Payment : F_slices_Insert_api_Payment_api_Payment := fun x => T_slices_Insert_api_Payment_api_Payment bigLoop x.1 x.2.1 x.2.2.1
end Go.Pon
set_option autoImplicit false
set_option linter.unusedVariables false
set_option maxRecDepth 100000
namespace Go.Pon
open Go
abbrev s_hash_roundConstants : Sig := ⟨[], [(.ro true (.arr 64 (.int .u32)))]⟩
abbrev F_hash_roundConstants := Unit → Option (((List Int) × Unit) × Unit)
noncomputable def T_hash_roundConstants (L : LoopD) : Option (((List Int) × Unit) × Unit) := (some (((List.set (List.set (List.set (List.set (List.set (List.set (List.set (List.set (List.set (List.set (List.set (List.set (List.set (List.set (List.set (List.set (List.set (List.set (List.set (List.set (List.set (List.set (List.set (List.set (List.set (List.set (List.set (List.set (List.set (List.set (List.set (List.set (List.set (List.set (List.set (List.set (List.set (List.set (List.set (List.set (List.set (List.set (List.set (List.set (List.set (List.set (List.set (List.set (List.set (List.set (List.set (List.set (List.set (List.set (List.set (List.set (List.set (List.set (List.set (List.set (List.set (List.set (List.set (List.set (List.replicate (64 : Nat) (0 : Int)) (0 : Nat) (1116352408 : Int)) (1 : Nat) (1899447441 : Int)) (2 : Nat) (3049323471 : Int)) (3 : Nat) (3921009573 : Int)) (4 : Nat) (961987163 : Int)) (5 : Nat) (1508970993 : Int)) (6 : Nat) (2453635748 : Int)) (7 : Nat) (2870763221 : Int)) (8 : Nat) (3624381080 : Int)) (9 : Nat) (310598401 : Int)) (10 : Nat) (607225278 : Int)) (11 : Nat) (1426881987 : Int)) (12 : Nat) (1925078388 : Int)) (13 : Nat) (2162078206 : Int)) (14 : Nat) (2614888103 : Int)) (15 : Nat) (3248222580 : Int)) (16 : Nat) (3835390401 : Int)) (17 : Nat) (4022224774 : Int)) (18 : Nat) (264347078 : Int)) (19 : Nat) (604807628 : Int)) (20 : Nat) (770255983 : Int)) (21 : Nat) (1249150122 : Int)) (22 : Nat) (1555081692 : Int)) (23 : Nat) (1996064986 : Int)) (24 : Nat) (2554220882 : Int)) (25 : Nat) (2821834349 : Int)) (26 : Nat) (2952996808 : Int)) (27 : Nat) (3210313671 : Int)) (28 : Nat) (3336571891 : Int)) (29 : Nat) (3584528711 : Int)) (30 : Nat) (113926993 : Int)) (31 : Nat) (338241895 : Int)) (32 : Nat) (666307205 : Int)) (33 : Nat) (773529912 : Int)) (34 : Nat) (1294757372 : Int)) (35 : Nat) (1396182291 : Int)) (36 : Nat) (1695183700 : Int)) (37 : Nat) (1986661051 : Int)) (38 : Nat) (2177026350 : Int)) (39 : Nat) (2456956037 : Int)) (40 : Nat) (2730485921 : Int)) (41 : Nat) (2820302411 : Int)) (42 : Nat) (3259730800 : Int)) (43 : Nat) (3345764771 : Int)) (44 : Nat) (3516065817 : Int)) (45 : Nat) (3600352804 : Int)) (46 : Nat) (4094571909 : Int)) (47 : Nat) (275423344 : Int)) (48 : Nat) (430227734 : Int)) (49 : Nat) (506948616 : Int)) (50 : Nat) (659060556 : Int)) (51 : Nat) (883997877 : Int)) (52 : Nat) (958139571 : Int)) (53 : Nat) (1322822218 : Int)) (54 : Nat) (1537002063 : Int)) (55 : Nat) (1747873779 : Int)) (56 : Nat) (1955562222 : Int)) (57 : Nat) (2024104815 : Int)) (58 : Nat) (2227730452 : Int)) (59 : Nat) (2361852424 : Int)) (60 : Nat) (2428436474 : Int)) (61 : Nat) (2756734187 : Int)) (62 : Nat) (3204031479 : Int)) (63 : Nat) (3329325298 : Int)), ()), ()))
noncomputable def sol_hash_roundConstants : F_hash_roundConstants := fun x => T_hash_roundConstants bigLoop
abbrev s_hash_schedule : Sig := ⟨[(.ro false (.slice (.int .u8)))], [(.ro true (.arr 64 (.int .u32)))]⟩
abbrev F_hash_schedule := ((List Int) × Unit) → Option (((List Int) × Unit) × (Unit × Unit))
noncomputable def T_hash_schedule_loop1 (c_math_bits_RotateLeft32 : F_math_bits_RotateLeft32) (again_9 : ((List Int) × ((List Int) × (Int × Unit))) → Option (((List Int) × Unit) × (Unit × Unit))) (t2_10 : (List Int)) (w_11 : (List Int)) (i_12 : Int) : Option (((List Int) × Unit) × (Unit × Unit)) := (letR (IntKind.wrap (IntKind.i64) (i_12 - (15 : Int))) fun (v_13 : Int) => (letR (IntKind.wrap (IntKind.i64) (i_12 - (2 : Int))) fun (v_14 : Int) => (letR (IntKind.wrap (IntKind.i64) (i_12 - (16 : Int))) fun (v_15 : Int) => (letR (IntKind.wrap (IntKind.i64) (i_12 - (7 : Int))) fun (v_16 : Int) => (letR (List.getD w_11 (Int.toNat v_13) (0 : Int)) fun (v_17 : Int) => (letR (List.getD w_11 (Int.toNat v_14) (0 : Int)) fun (v_18 : Int) => (brR (decide (i_12 < (64 : Int))) (brR (inR v_13 (64 : Nat)) (brR (inR v_14 (64 : Nat)) (Option.bind (c_math_bits_RotateLeft32 (v_17, ((-7 : Int), ()))) (fun (y_19 : ((Int × Unit) × (Unit × (Unit × Unit)))) => (Option.bind (c_math_bits_RotateLeft32 (v_17, ((-18 : Int), ()))) (fun (y_20 : ((Int × Unit) × (Unit × (Unit × Unit)))) => (Option.bind (c_math_bits_RotateLeft32 (v_18, ((-17 : Int), ()))) (fun (y_21 : ((Int × Unit) × (Unit × (Unit × Unit)))) => (Option.bind (c_math_bits_RotateLeft32 (v_18, ((-19 : Int), ()))) (fun (y_22 : ((Int × Unit) × (Unit × (Unit × Unit)))) => (brR (inR v_15 (64 : Nat)) (brR (inR v_16 (64 : Nat)) (brR (inR i_12 (64 : Nat)) (again_9 (t2_10, ((List.set w_11 (Int.toNat i_12) (IntKind.wrap (IntKind.u32) ((IntKind.wrap (IntKind.u32) ((IntKind.wrap (IntKind.u32) ((List.getD w_11 (Int.toNat v_15) (0 : Int)) + (IntKind.wrap (IntKind.u32) (((BitVec.toNat ((BitVec.ofInt (32 : Nat) (IntKind.wrap (IntKind.u32) (((BitVec.toNat ((BitVec.ofInt (32 : Nat) y_19.1.1) ^^^ (BitVec.ofInt (32 : Nat) y_20.1.1))) : Nat) : Int))) ^^^ (BitVec.ofInt (32 : Nat) (Int.fdiv v_17 (8 : Int))))) : Nat) : Int)))) + (List.getD w_11 (Int.toNat v_16) (0 : Int)))) + (IntKind.wrap (IntKind.u32) (((BitVec.toNat ((BitVec.ofInt (32 : Nat) (IntKind.wrap (IntKind.u32) (((BitVec.toNat ((BitVec.ofInt (32 : Nat) y_21.1.1) ^^^ (BitVec.ofInt (32 : Nat) y_22.1.1))) : Nat) : Int))) ^^^ (BitVec.ofInt (32 : Nat) (Int.fdiv v_18 (1024 : Int))))) : Nat) : Int))))), ((IntKind.wrap (IntKind.i64) (i_12 + (1 : Int))), ())))) none) none) none))))))))) none) none) (some ((w_11, ()), ((), ()))))))))))
noncomputable def T_hash_schedule_loop0 (L : LoopD) (c_math_bits_RotateLeft32 : F_math_bits_RotateLeft32) (again_0 : ((List Int) × ((List Int) × ((List Int) × (Int × Unit)))) → Option (((List Int) × Unit) × (Unit × Unit))) (b_1 : (List Int)) (t2_2 : (List Int)) (w_3 : (List Int)) (t10_4 : Int) : Option (((List Int) × Unit) × (Unit × Unit)) := (letR (IntKind.wrap (IntKind.i64) ((4 : Int) * t10_4)) fun (v_5 : Int) => (letR (IntKind.wrap (IntKind.i64) (v_5 + (1 : Int))) fun (v_6 : Int) => (letR (IntKind.wrap (IntKind.i64) (v_5 + (2 : Int))) fun (v_7 : Int) => (letR (IntKind.wrap (IntKind.i64) (v_5 + (3 : Int))) fun (v_8 : Int) => (brR (decide (t10_4 < (16 : Int))) (brR (inR v_5 (List.length b_1)) (brR (inR v_6 (List.length b_1)) (brR (inR v_7 (List.length b_1)) (brR (inR v_8 (List.length b_1)) (brR (inR t10_4 (64 : Nat)) (again_0 (b_1, (t2_2, ((List.set w_3 (Int.toNat t10_4) (IntKind.wrap (IntKind.u32) (((BitVec.toNat ((BitVec.ofInt (32 : Nat) (IntKind.wrap (IntKind.u32) (((BitVec.toNat ((BitVec.ofInt (32 : Nat) (IntKind.wrap (IntKind.u32) (((BitVec.toNat ((BitVec.ofInt (32 : Nat) (IntKind.wrap (IntKind.u32) ((IntKind.wrap (IntKind.u32) (List.getD b_1 (Int.toNat v_5) (0 : Int))) * (16777216 : Int)))) ||| (BitVec.ofInt (32 : Nat) (IntKind.wrap (IntKind.u32) ((IntKind.wrap (IntKind.u32) (List.getD b_1 (Int.toNat v_6) (0 : Int))) * (65536 : Int)))))) : Nat) : Int))) ||| (BitVec.ofInt (32 : Nat) (IntKind.wrap (IntKind.u32) ((IntKind.wrap (IntKind.u32) (List.getD b_1 (Int.toNat v_7) (0 : Int))) * (256 : Int)))))) : Nat) : Int))) ||| (BitVec.ofInt (32 : Nat) (IntKind.wrap (IntKind.u32) (List.getD b_1 (Int.toNat v_8) (0 : Int)))))) : Nat) : Int))), ((IntKind.wrap (IntKind.i64) (t10_4 + (1 : Int))), ()))))) none) none) none) none) none) (L _ _ (fun again x => T_hash_schedule_loop1 c_math_bits_RotateLeft32 again x.1 x.2.1 x.2.2.1) (t2_2, (w_3, ((16 : Int), ())))))))))
noncomputable def T_hash_schedule (L : LoopD) (c_math_bits_RotateLeft32 : F_math_bits_RotateLeft32) (b_ : (List Int)) : Option (((List Int) × Unit) × (Unit × Unit)) := (L _ _ (fun again x => T_hash_schedule_loop0 L c_math_bits_RotateLeft32 again x.1 x.2.1 x.2.2.1 x.2.2.2.1) (b_, ((List.replicate (64 : Nat) (0 : Int)), ((List.replicate (64 : Nat) (0 : Int)), ((0 : Int), ())))))
noncomputable def sol_hash_schedule : F_hash_schedule := fun x => T_hash_schedule bigLoop sol_math_bits_RotateLeft32 x.1
abbrev s_hash_compress : Sig := ⟨[(.ro true (.arr 8 (.int .u32))), (.ro true (.arr 64 (.int .u32))), (.ro true (.arr 64 (.int .u32)))], [(.ro true (.arr 8 (.int .u32)))]⟩
abbrev F_hash_compress := ((List Int) × ((List Int) × ((List Int) × Unit))) → Option (((List Int) × Unit) × (Unit × (Unit × (Unit × Unit))))
noncomputable def T_hash_compress_loop1 (again_22 : ((List Int) × ((List Int) × ((List Int) × (Int × Unit)))) → Option (((List Int) × Unit) × (Unit × (Unit × (Unit × Unit))))) (s_23 : (List Int)) (t6_24 : (List Int)) (t_25 : (List Int)) (t103_26 : Int) : Option (((List Int) × Unit) × (Unit × (Unit × (Unit × Unit)))) := (brR (decide (t103_26 < (8 : Int))) (brR (inR t103_26 (8 : Nat)) (brR (inR t103_26 (8 : Nat)) (brR (inR t103_26 (8 : Nat)) (again_22 (s_23, (t6_24, ((List.set t_25 (Int.toNat t103_26) (IntKind.wrap (IntKind.u32) ((List.getD t_25 (Int.toNat t103_26) (0 : Int)) + (List.getD s_23 (Int.toNat t103_26) (0 : Int))))), ((IntKind.wrap (IntKind.i64) (t103_26 + (1 : Int))), ()))))) none) none) none) (some ((t_25, ()), ((), ((), ((), ()))))))
noncomputable def T_hash_compress_loop0 (L : LoopD) (c_math_bits_RotateLeft32 : F_math_bits_RotateLeft32) (again_0 : ((List Int) × ((List Int) × ((List Int) × ((List Int) × ((List Int) × (Int × Unit)))))) → Option (((List Int) × Unit) × (Unit × (Unit × (Unit × Unit))))) (s_1 : (List Int)) (w_2 : (List Int)) (k_3 : (List Int)) (t6_4 : (List Int)) (t_5 : (List Int)) (t18_6 : Int) : Option (((List Int) × Unit) × (Unit × (Unit × (Unit × Unit)))) := (letR (List.getD t_5 (4 : Nat) (0 : Int)) fun (v_7 : Int) => (letR (List.getD t_5 (0 : Nat) (0 : Int)) fun (v_8 : Int) => (letR (List.getD t_5 (7 : Nat) (0 : Int)) fun (v_9 : Int) => (letR (List.getD t_5 (5 : Nat) (0 : Int)) fun (v_10 : Int) => (letR (List.getD t_5 (6 : Nat) (0 : Int)) fun (v_11 : Int) => (letR (List.getD t_5 (1 : Nat) (0 : Int)) fun (v_12 : Int) => (letR (List.getD t_5 (2 : Nat) (0 : Int)) fun (v_13 : Int) => (letR (IntKind.wrap (IntKind.u32) (((BitVec.toNat ((BitVec.ofInt (32 : Nat) (IntKind.wrap (IntKind.u32) (((BitVec.toNat ((BitVec.ofInt (32 : Nat) v_7) &&& (BitVec.ofInt (32 : Nat) v_10))) : Nat) : Int))) ^^^ (BitVec.ofInt (32 : Nat) (IntKind.wrap (IntKind.u32) (((BitVec.toNat ((BitVec.ofInt (32 : Nat) (IntKind.wrap (IntKind.u32) (((BitVec.toNat ((BitVec.ofInt (32 : Nat) (4294967295 : Int)) ^^^ (BitVec.ofInt (32 : Nat) v_7))) : Nat) : Int))) &&& (BitVec.ofInt (32 : Nat) v_11))) : Nat) : Int))))) : Nat) : Int)) fun (v_14 : Int) => (brR (decide (t18_6 < (64 : Int))) (Option.bind (c_math_bits_RotateLeft32 (v_7, ((-6 : Int), ()))) (fun (y_15 : ((Int × Unit) × (Unit × (Unit × Unit)))) => (Option.bind (c_math_bits_RotateLeft32 (v_7, ((-11 : Int), ()))) (fun (y_16 : ((Int × Unit) × (Unit × (Unit × Unit)))) => (Option.bind (c_math_bits_RotateLeft32 (v_7, ((-25 : Int), ()))) (fun (y_17 : ((Int × Unit) × (Unit × (Unit × Unit)))) => (letR (IntKind.wrap (IntKind.u32) ((IntKind.wrap (IntKind.u32) ((IntKind.wrap (IntKind.u32) ((IntKind.wrap (IntKind.u32) (v_9 + (IntKind.wrap (IntKind.u32) (((BitVec.toNat ((BitVec.ofInt (32 : Nat) (IntKind.wrap (IntKind.u32) (((BitVec.toNat ((BitVec.ofInt (32 : Nat) y_15.1.1) ^^^ (BitVec.ofInt (32 : Nat) y_16.1.1))) : Nat) : Int))) ^^^ (BitVec.ofInt (32 : Nat) y_17.1.1))) : Nat) : Int)))) + v_14)) + (List.getD k_3 (Int.toNat t18_6) (0 : Int)))) + (List.getD w_2 (Int.toNat t18_6) (0 : Int)))) fun (v_18 : Int) => (Option.bind (c_math_bits_RotateLeft32 (v_8, ((-2 : Int), ()))) (fun (y_19 : ((Int × Unit) × (Unit × (Unit × Unit)))) => (Option.bind (c_math_bits_RotateLeft32 (v_8, ((-13 : Int), ()))) (fun (y_20 : ((Int × Unit) × (Unit × (Unit × Unit)))) => (Option.bind (c_math_bits_RotateLeft32 (v_8, ((-22 : Int), ()))) (fun (y_21 : ((Int × Unit) × (Unit × (Unit × Unit)))) => (brR (inR t18_6 (64 : Nat)) (brR (inR t18_6 (64 : Nat)) (again_0 (s_1, (w_2, (k_3, (t6_4, ([(IntKind.wrap (IntKind.u32) ((IntKind.wrap (IntKind.u32) (v_18 + (IntKind.wrap (IntKind.u32) (((BitVec.toNat ((BitVec.ofInt (32 : Nat) (IntKind.wrap (IntKind.u32) (((BitVec.toNat ((BitVec.ofInt (32 : Nat) y_19.1.1) ^^^ (BitVec.ofInt (32 : Nat) y_20.1.1))) : Nat) : Int))) ^^^ (BitVec.ofInt (32 : Nat) y_21.1.1))) : Nat) : Int)))) + (IntKind.wrap (IntKind.u32) (((BitVec.toNat ((BitVec.ofInt (32 : Nat) (IntKind.wrap (IntKind.u32) (((BitVec.toNat ((BitVec.ofInt (32 : Nat) (IntKind.wrap (IntKind.u32) (((BitVec.toNat ((BitVec.ofInt (32 : Nat) v_8) &&& (BitVec.ofInt (32 : Nat) v_12))) : Nat) : Int))) ^^^ (BitVec.ofInt (32 : Nat) (IntKind.wrap (IntKind.u32) (((BitVec.toNat ((BitVec.ofInt (32 : Nat) v_8) &&& (BitVec.ofInt (32 : Nat) v_13))) : Nat) : Int))))) : Nat) : Int))) ^^^ (BitVec.ofInt (32 : Nat) (IntKind.wrap (IntKind.u32) (((BitVec.toNat ((BitVec.ofInt (32 : Nat) v_12) &&& (BitVec.ofInt (32 : Nat) v_13))) : Nat) : Int))))) : Nat) : Int)))), v_8, v_12, v_13, (IntKind.wrap (IntKind.u32) ((List.getD t_5 (3 : Nat) (0 : Int)) + v_18)), v_7, v_10, v_11], ((IntKind.wrap (IntKind.i64) (t18_6 + (1 : Int))), ()))))))) none) none)))))))))))))) (L _ _ (fun again x => T_hash_compress_loop1 again x.1 x.2.1 x.2.2.1 x.2.2.2.1) (s_1, (t6_4, (t_5, ((0 : Int), ()))))))))))))))
noncomputable def T_hash_compress (L : LoopD) (c_math_bits_RotateLeft32 : F_math_bits_RotateLeft32) (s_ : (List Int)) (w_ : (List Int)) (k_ : (List Int)) : Option (((List Int) × Unit) × (Unit × (Unit × (Unit × Unit)))) := (L _ _ (fun again x => T_hash_compress_loop0 L c_math_bits_RotateLeft32 again x.1 x.2.1 x.2.2.1 x.2.2.2.1 x.2.2.2.2.1 x.2.2.2.2.2.1) (s_, (w_, (k_, ([(0 : Int), (0 : Int), (0 : Int), (0 : Int), (0 : Int), (0 : Int), (0 : Int), (0 : Int)], (s_, ((0 : Int), ())))))))
noncomputable def sol_hash_compress : F_hash_compress := fun x => T_hash_compress bigLoop sol_math_bits_RotateLeft32 x.1 x.2.1 x.2.2.1
abbrev s_hash_Sum : Sig := ⟨[(.ro false (.slice (.int .u8)))], [(.ro true (.arr 32 (.int .u8)))]⟩
abbrev F_hash_Sum := ((List Int) × Unit) → Option (((List Int) × Unit) × (Unit × Unit))
noncomputable def T_hash_Sum_loop3 (again_21 : ((List Int) × ((List Int) × ((List Int) × (Int × Unit)))) → Option (((List Int) × Unit) × (Unit × Unit))) (t2_22 : (List Int)) (s_23 : (List Int)) (h_24 : (List Int)) (t55_25 : Int) : Option (((List Int) × Unit) × (Unit × Unit)) := (letR (IntKind.wrap (IntKind.i64) ((24 : Int) - (IntKind.wrap (IntKind.i64) ((8 : Int) * (Int.tmod t55_25 (4 : Int)))))) fun (v_26 : Int) => (brR (decide (t55_25 < (32 : Int))) (brR (inR (IntKind.wrap (IntKind.i64) (Int.tdiv t55_25 (4 : Int))) (8 : Nat)) (brR (decide ((0 : Int) ≤ v_26)) (brR (inR t55_25 (32 : Nat)) (again_21 (t2_22, (s_23, ((List.set h_24 (Int.toNat t55_25) (IntKind.wrap (IntKind.u8) (Int.fdiv (List.getD s_23 (Int.toNat (IntKind.wrap (IntKind.i64) (Int.tdiv t55_25 (4 : Int)))) (0 : Int)) ((2 : Int) ^ (min (Int.toNat v_26) (32 : Nat)))))), ((IntKind.wrap (IntKind.i64) (t55_25 + (1 : Int))), ()))))) none) none) none) (some ((h_24, ()), ((), ())))))
noncomputable def T_hash_Sum_loop2 (L : LoopD) (c_hash_schedule : F_hash_schedule) (c_hash_compress : F_hash_compress) (again_12 : ((List Int) × ((List Int) × ((List Int) × ((List Int) × (Int × Unit))))) → Option (((List Int) × Unit) × (Unit × Unit))) (t2_13 : (List Int)) (l_14 : (List Int)) (s_15 : (List Int)) (k_16 : (List Int)) (at_17 : Int) : Option (((List Int) × Unit) × (Unit × Unit)) := (letR (IntKind.wrap (IntKind.i64) (at_17 + (64 : Int))) fun (v_18 : Int) => (brR (decide (at_17 < (((List.length l_14) : Nat) : Int))) (brR (((decide ((0 : Int) ≤ at_17)) && (decide (at_17 ≤ v_18))) && (decide (v_18 ≤ (((List.length l_14) : Nat) : Int)))) (Option.bind (c_hash_schedule ((List.take ((Int.toNat v_18) - (Int.toNat at_17)) (List.drop (Int.toNat at_17) l_14)), ())) (fun (y_19 : (((List Int) × Unit) × (Unit × Unit))) => (Option.bind (c_hash_compress (s_15, (y_19.1.1, (k_16, ())))) (fun (y_20 : (((List Int) × Unit) × (Unit × (Unit × (Unit × Unit))))) => (again_12 (t2_13, (l_14, (y_20.1.1, (k_16, (v_18, ())))))))))) none) (L _ _ (fun again x => T_hash_Sum_loop3 again x.1 x.2.1 x.2.2.1 x.2.2.2.1) (t2_13, (s_15, ((List.replicate (32 : Nat) (0 : Int)), ((0 : Int), ())))))))
noncomputable def T_hash_Sum_loop1 (L : LoopD) (c_hash_roundConstants : F_hash_roundConstants) (c_hash_schedule : F_hash_schedule) (c_hash_compress : F_hash_compress) (again_5 : ((List Int) × (Int × ((List Int) × (Int × Unit)))) → Option (((List Int) × Unit) × (Unit × Unit))) (t2_6 : (List Int)) (n_7 : Int) (l_8 : (List Int)) (i_9 : Int) : Option (((List Int) × Unit) × (Unit × Unit)) := (letR (IntKind.wrap (IntKind.i64) ((8 : Int) * i_9)) fun (v_10 : Int) => (brR (decide (i_9 ≥ (0 : Int))) (brR (decide ((0 : Int) ≤ v_10)) (brR (roomy ((List.length l_8) + (1 : Nat)) (Ty.int IntKind.u8)) (again_5 (t2_6, (n_7, ((List.append l_8 [(IntKind.wrap (IntKind.u8) (Int.fdiv n_7 ((2 : Int) ^ (min (Int.toNat v_10) (64 : Nat)))))]), ((IntKind.wrap (IntKind.i64) (i_9 - (1 : Int))), ()))))) none) none) (Option.bind (c_hash_roundConstants ()) (fun (y_11 : (((List Int) × Unit) × Unit)) => (L _ _ (fun again x => T_hash_Sum_loop2 L c_hash_schedule c_hash_compress again x.1 x.2.1 x.2.2.1 x.2.2.2.1 x.2.2.2.2.1) (t2_6, (l_8, ([(1779033703 : Int), (3144134277 : Int), (1013904242 : Int), (2773480762 : Int), (1359893119 : Int), (2600822924 : Int), (528734635 : Int), (1541459225 : Int)], (y_11.1.1, ((0 : Int), ()))))))))))
noncomputable def T_hash_Sum_loop0 (L : LoopD) (c_hash_roundConstants : F_hash_roundConstants) (c_hash_schedule : F_hash_schedule) (c_hash_compress : F_hash_compress) (again_1 : ((List Int) × (Int × ((List Int) × Unit))) → Option (((List Int) × Unit) × (Unit × Unit))) (t2_2 : (List Int)) (n_3 : Int) (l_4 : (List Int)) : Option (((List Int) × Unit) × (Unit × Unit)) := (brR (!(decide ((Int.tmod (((List.length l_4) : Nat) : Int) (64 : Int)) = (56 : Int)))) (brR (roomy ((List.length l_4) + (1 : Nat)) (Ty.int IntKind.u8)) (again_1 (t2_2, (n_3, ((List.append l_4 [(0 : Int)]), ())))) none) (L _ _ (fun again x => T_hash_Sum_loop1 L c_hash_roundConstants c_hash_schedule c_hash_compress again x.1 x.2.1 x.2.2.1 x.2.2.2.1) (t2_2, (n_3, (l_4, ((7 : Int), ()))))))
noncomputable def T_hash_Sum (L : LoopD) (c_slices_Concat_byte_byte : F_slices_Concat_byte_byte) (c_hash_roundConstants : F_hash_roundConstants) (c_hash_schedule : F_hash_schedule) (c_hash_compress : F_hash_compress) (b_ : (List Int)) : Option (((List Int) × Unit) × (Unit × Unit)) := (Option.bind (c_slices_Concat_byte_byte ([b_, [(128 : Int)]], ())) (fun (y_0 : (((List Int) × Unit) × (Unit × Unit))) => (L _ _ (fun again x => T_hash_Sum_loop0 L c_hash_roundConstants c_hash_schedule c_hash_compress again x.1 x.2.1 x.2.2.1) ((List.replicate (32 : Nat) (0 : Int)), ((IntKind.wrap (IntKind.u64) ((IntKind.wrap (IntKind.u64) (((List.length b_) : Nat) : Int)) * (8 : Int))), (y_0.1.1, ()))))))
noncomputable def sol_hash_Sum : F_hash_Sum := fun x => T_hash_Sum bigLoop sol_slices_Concat_byte_byte sol_hash_roundConstants sol_hash_schedule sol_hash_compress x.1
abbrev s_hash_Leaf : Sig := ⟨[(.ro false (.slice (.int .u8)))], [(.ro true (.arr 32 (.int .u8)))]⟩
abbrev F_hash_Leaf := ((List Int) × Unit) → Option (((List Int) × Unit) × (Unit × Unit))
noncomputable def T_hash_Leaf (L : LoopD) (c_slices_Concat_byte_byte : F_slices_Concat_byte_byte) (c_hash_Sum : F_hash_Sum) (b_ : (List Int)) : Option (((List Int) × Unit) × (Unit × Unit)) := (Option.bind (c_slices_Concat_byte_byte ([[(0 : Int)], b_], ())) (fun (y_0 : (((List Int) × Unit) × (Unit × Unit))) => (Option.bind (c_hash_Sum (y_0.1.1, ())) (fun (y_1 : (((List Int) × Unit) × (Unit × Unit))) => (some ((y_1.1.1, ()), ((), ())))))))
noncomputable def sol_hash_Leaf : F_hash_Leaf := fun x => T_hash_Leaf bigLoop sol_slices_Concat_byte_byte sol_hash_Sum x.1
abbrev s_hash_Node : Sig := ⟨[(.ro true (.arr 32 (.int .u8))), (.ro true (.arr 32 (.int .u8)))], [(.ro true (.arr 32 (.int .u8)))]⟩
abbrev F_hash_Node := ((List Int) × ((List Int) × Unit)) → Option (((List Int) × Unit) × (Unit × (Unit × Unit)))
noncomputable def T_hash_Node (L : LoopD) (c_slices_Concat_byte_byte : F_slices_Concat_byte_byte) (c_hash_Sum : F_hash_Sum) (x_ : (List Int)) (y_ : (List Int)) : Option (((List Int) × Unit) × (Unit × (Unit × Unit))) := (Option.bind (c_slices_Concat_byte_byte ([[(1 : Int)], (List.take ((32 : Nat) - (0 : Nat)) (List.drop (0 : Nat) x_)), (List.take ((32 : Nat) - (0 : Nat)) (List.drop (0 : Nat) y_))], ())) (fun (y_0 : (((List Int) × Unit) × (Unit × Unit))) => (Option.bind (c_hash_Sum (y_0.1.1, ())) (fun (y_1 : (((List Int) × Unit) × (Unit × Unit))) => (some ((y_1.1.1, ()), ((), ((), ()))))))))
noncomputable def sol_hash_Node : F_hash_Node := fun x => T_hash_Node bigLoop sol_slices_Concat_byte_byte sol_hash_Sum x.1 x.2.1
end Go.Pon
set_option autoImplicit false
set_option linter.unusedVariables false
set_option maxRecDepth 100000
namespace Go.Pon
open Go
abbrev s_merkle_splitPoint : Sig := ⟨[(.ro true (.int .i64))], [(.ro true (.int .i64))]⟩
abbrev F_merkle_splitPoint := (Int × Unit) → Option ((Int × Unit) × (Unit × Unit))
noncomputable def T_merkle_splitPoint_loop0 (again_0 : (Int × (Int × Unit)) → Option ((Int × Unit) × (Unit × Unit))) (n_1 : Int) (k_2 : Int) : Option ((Int × Unit) × (Unit × Unit)) := (brR (decide (k_2 < (IntKind.wrap (IntKind.i64) (n_1 - k_2)))) (again_0 (n_1, ((IntKind.wrap (IntKind.i64) (k_2 * (2 : Int))), ()))) (some ((k_2, ()), ((), ()))))
noncomputable def T_merkle_splitPoint (L : LoopD) (n_ : Int) : Option ((Int × Unit) × (Unit × Unit)) := (L _ _ (fun again x => T_merkle_splitPoint_loop0 again x.1 x.2.1) (n_, ((1 : Int), ())))
noncomputable def sol_merkle_splitPoint : F_merkle_splitPoint := fun x => T_merkle_splitPoint bigLoop x.1
abbrev s_merkle_rootFrom : Sig := ⟨[(.ro true (.int .i64)), (.ro true (.int .i64)), (.ro true (.arr 32 (.int .u8))), (.ro false (.slice (.arr 32 (.int .u8))))], [(.ro true (.arr 32 (.int .u8))), (.ro true .bool)]⟩
abbrev F_merkle_rootFrom := (Int × (Int × ((List Int) × ((List (List Int)) × Unit)))) → Option (((List Int) × (Bool × Unit)) × (Unit × (Unit × (Unit × (Unit × Unit)))))
noncomputable def T_merkle_rootFrom (L : LoopD) (c_merkle_splitPoint : F_merkle_splitPoint) (c_merkle_rootFrom : F_merkle_rootFrom) (c_hash_Node : F_hash_Node) (n_ : Int) (i_ : Int) (leaf_ : (List Int)) (l_ : (List (List Int))) : Option (((List Int) × (Bool × Unit)) × (Unit × (Unit × (Unit × (Unit × Unit))))) := (letR (((List.length l_) : Nat) : Int) fun (v_0 : Int) => (letR (IntKind.wrap (IntKind.i64) (v_0 - (1 : Int))) fun (v_1 : Int) => (letR (List.getD l_ (Int.toNat v_1) (List.replicate (32 : Nat) (0 : Int))) fun (v_2 : (List Int)) => (brR (decide (n_ = (1 : Int))) (some ((leaf_, ((decide (v_0 = (0 : Int))), ())), ((), ((), ((), ((), ())))))) (brR (decide (v_0 = (0 : Int))) (some (((List.replicate (32 : Nat) (0 : Int)), (false, ())), ((), ((), ((), ((), ())))))) (Option.bind (c_merkle_splitPoint (n_, ())) (fun (y_3 : ((Int × Unit) × (Unit × Unit))) => (brR (inR v_1 (List.length l_)) (brR ((decide ((0 : Int) ≤ v_1)) && (decide (v_1 ≤ v_0))) (brR (decide (i_ < y_3.1.1)) (Option.bind (c_merkle_rootFrom (y_3.1.1, (i_, (leaf_, ((List.take ((Int.toNat v_1) - (0 : Nat)) (List.drop (0 : Nat) l_)), ()))))) (fun (y_4 : (((List Int) × (Bool × Unit)) × (Unit × (Unit × (Unit × (Unit × Unit)))))) => (Option.bind (c_hash_Node (y_4.1.1, (v_2, ()))) (fun (y_5 : (((List Int) × Unit) × (Unit × (Unit × Unit)))) => (some ((y_5.1.1, (y_4.1.2.1, ())), ((), ((), ((), ((), ())))))))))) (Option.bind (c_merkle_rootFrom ((IntKind.wrap (IntKind.i64) (n_ - y_3.1.1)), ((IntKind.wrap (IntKind.i64) (i_ - y_3.1.1)), (leaf_, ((List.take ((Int.toNat v_1) - (0 : Nat)) (List.drop (0 : Nat) l_)), ()))))) (fun (y_6 : (((List Int) × (Bool × Unit)) × (Unit × (Unit × (Unit × (Unit × Unit)))))) => (Option.bind (c_hash_Node (v_2, (y_6.1.1, ()))) (fun (y_7 : (((List Int) × Unit) × (Unit × (Unit × Unit)))) => (some ((y_7.1.1, (y_6.1.2.1, ())), ((), ((), ((), ((), ()))))))))))) none) none))))))))
noncomputable def solN_merkle_rootFrom : Nat → F_merkle_rootFrom | 0 => fun _ => none | n + 1 => fun x => T_merkle_rootFrom bigLoop sol_merkle_splitPoint (solN_merkle_rootFrom n) sol_hash_Node x.1 x.2.1 x.2.2.1 x.2.2.2.1
noncomputable def sol_merkle_rootFrom : F_merkle_rootFrom := solN_merkle_rootFrom bigF
abbrev s_merkle_Verify : Sig := ⟨[(.ro true (.arr 32 (.int .u8))), (.ro true (.int .i64)), (.ro true (.int .i64)), (.ro true (.arr 32 (.int .u8))), (.ro false (.slice (.arr 32 (.int .u8))))], [(.ro true .bool)]⟩
abbrev F_merkle_Verify := ((List Int) × (Int × (Int × ((List Int) × ((List (List Int)) × Unit))))) → Option ((Bool × Unit) × (Unit × (Unit × (Unit × (Unit × (Unit × Unit))))))
noncomputable def T_merkle_Verify (L : LoopD) (c_merkle_rootFrom : F_merkle_rootFrom) (root_ : (List Int)) (n_ : Int) (i_ : Int) (leaf_ : (List Int)) (proof_ : (List (List Int))) : Option ((Bool × Unit) × (Unit × (Unit × (Unit × (Unit × (Unit × Unit)))))) := (brR (decide (i_ < (0 : Int))) (some ((false, ()), ((), ((), ((), ((), ((), ()))))))) (brR (decide (i_ ≥ n_)) (some ((false, ()), ((), ((), ((), ((), ((), ()))))))) (Option.bind (c_merkle_rootFrom (n_, (i_, (leaf_, (proof_, ()))))) (fun (y_0 : (((List Int) × (Bool × Unit)) × (Unit × (Unit × (Unit × (Unit × Unit)))))) => (brR y_0.1.2.1 (some (((eqD (Ty.arr 32 (Ty.int IntKind.u8)) y_0.1.1 root_), ()), ((), ((), ((), ((), ((), ()))))))) (some ((false, ()), ((), ((), ((), ((), ((), ()))))))))))))
noncomputable def sol_merkle_Verify : F_merkle_Verify := fun x => T_merkle_Verify bigLoop sol_merkle_rootFrom x.1 x.2.1 x.2.2.1 x.2.2.2.1 x.2.2.2.2.1
end Go.Pon
set_option autoImplicit false
set_option linter.unusedVariables false
set_option maxRecDepth 100000
namespace Go.Pon
open Go
abbrev s_uint256_FromUint64 : Sig := ⟨[(.ro true (.int .u64))], [(.ro true (.arr 4 (.int .u64)))]⟩
abbrev F_uint256_FromUint64 := (Int × Unit) → Option (((List Int) × Unit) × (Unit × Unit))
noncomputable def T_uint256_FromUint64 (L : LoopD) (n_ : Int) : Option (((List Int) × Unit) × (Unit × Unit)) := (some (([n_, (0 : Int), (0 : Int), (0 : Int)], ()), ((), ())))
noncomputable def sol_uint256_FromUint64 : F_uint256_FromUint64 := fun x => T_uint256_FromUint64 bigLoop x.1
abbrev s_uint256_BitLen : Sig := ⟨[(.ro true (.arr 4 (.int .u64)))], [(.ro true (.int .i64))]⟩
abbrev F_uint256_BitLen := ((List Int) × Unit) → Option ((Int × Unit) × (Unit × Unit))
noncomputable def T_uint256_BitLen_loop0 (c_math_bits_Len64 : F_math_bits_Len64) (again_0 : ((List Int) × (Int × Unit)) → Option ((Int × Unit) × (Unit × Unit))) (a_1 : (List Int)) (i_2 : Int) : Option ((Int × Unit) × (Unit × Unit)) := (brR (decide (i_2 ≥ (0 : Int))) (brR (inR i_2 (4 : Nat)) (brR (!(decide ((List.getD a_1 (Int.toNat i_2) (0 : Int)) = (0 : Int)))) (brR (inR i_2 (4 : Nat)) (Option.bind (c_math_bits_Len64 ((List.getD a_1 (Int.toNat i_2) (0 : Int)), ())) (fun (y_3 : ((Int × Unit) × (Unit × Unit))) => (some (((IntKind.wrap (IntKind.i64) ((IntKind.wrap (IntKind.i64) ((64 : Int) * i_2)) + y_3.1.1)), ()), ((), ()))))) none) (again_0 (a_1, ((IntKind.wrap (IntKind.i64) (i_2 - (1 : Int))), ())))) none) (some (((0 : Int), ()), ((), ()))))
noncomputable def T_uint256_BitLen (L : LoopD) (c_math_bits_Len64 : F_math_bits_Len64) (a_ : (List Int)) : Option ((Int × Unit) × (Unit × Unit)) := (L _ _ (fun again x => T_uint256_BitLen_loop0 c_math_bits_Len64 again x.1 x.2.1) (a_, ((3 : Int), ())))
noncomputable def sol_uint256_BitLen : F_uint256_BitLen := fun x => T_uint256_BitLen bigLoop sol_math_bits_Len64 x.1
abbrev s_uint256_Sub : Sig := ⟨[(.ro true (.arr 4 (.int .u64))), (.ro true (.arr 4 (.int .u64)))], [(.ro true (.arr 4 (.int .u64))), (.ro true (.int .i64))]⟩
abbrev F_uint256_Sub := ((List Int) × ((List Int) × Unit)) → Option (((List Int) × (Int × Unit)) × (Unit × (Unit × Unit)))
noncomputable def T_uint256_Sub_loop0 (c_math_bits_Sub64 : F_math_bits_Sub64) (again_0 : ((List Int) × ((List Int) × ((List Int) × ((List Int) × (Int × (Int × Unit)))))) → Option (((List Int) × (Int × Unit)) × (Unit × (Unit × Unit)))) (a_1 : (List Int)) (b_2 : (List Int)) (t4_3 : (List Int)) (s_4 : (List Int)) (c_5 : Int) (t9_6 : Int) : Option (((List Int) × (Int × Unit)) × (Unit × (Unit × Unit))) := (brR (decide (t9_6 < (4 : Int))) (brR (inR t9_6 (4 : Nat)) (brR (inR t9_6 (4 : Nat)) (Option.bind (c_math_bits_Sub64 ((List.getD a_1 (Int.toNat t9_6) (0 : Int)), ((List.getD b_2 (Int.toNat t9_6) (0 : Int)), (c_5, ())))) (fun (y_7 : ((Int × (Int × Unit)) × (Unit × (Unit × (Unit × Unit))))) => (brR (inR t9_6 (4 : Nat)) (again_0 (a_1, (b_2, (t4_3, ((List.set s_4 (Int.toNat t9_6) y_7.1.1), (y_7.1.2.1, ((IntKind.wrap (IntKind.i64) (t9_6 + (1 : Int))), ()))))))) none))) none) none) (brR (!(decide (c_5 = (0 : Int)))) (some (([(0 : Int), (0 : Int), (0 : Int), (0 : Int)], ((4 : Int), ())), ((), ((), ())))) (some ((s_4, ((0 : Int), ())), ((), ((), ()))))))
noncomputable def T_uint256_Sub (L : LoopD) (c_math_bits_Sub64 : F_math_bits_Sub64) (a_ : (List Int)) (b_ : (List Int)) : Option (((List Int) × (Int × Unit)) × (Unit × (Unit × Unit))) := (L _ _ (fun again x => T_uint256_Sub_loop0 c_math_bits_Sub64 again x.1 x.2.1 x.2.2.1 x.2.2.2.1 x.2.2.2.2.1 x.2.2.2.2.2.1) (a_, (b_, ([(0 : Int), (0 : Int), (0 : Int), (0 : Int)], ([(0 : Int), (0 : Int), (0 : Int), (0 : Int)], ((0 : Int), ((0 : Int), ())))))))
noncomputable def sol_uint256_Sub : F_uint256_Sub := fun x => T_uint256_Sub bigLoop sol_math_bits_Sub64 x.1 x.2.1
abbrev s_uint256_Add : Sig := ⟨[(.ro true (.arr 4 (.int .u64))), (.ro true (.arr 4 (.int .u64)))], [(.ro true (.arr 4 (.int .u64))), (.ro true (.int .i64))]⟩
abbrev F_uint256_Add := ((List Int) × ((List Int) × Unit)) → Option (((List Int) × (Int × Unit)) × (Unit × (Unit × Unit)))
noncomputable def T_uint256_Add_loop0 (c_math_bits_Add64 : F_math_bits_Add64) (again_0 : ((List Int) × ((List Int) × ((List Int) × ((List Int) × (Int × (Int × Unit)))))) → Option (((List Int) × (Int × Unit)) × (Unit × (Unit × Unit)))) (a_1 : (List Int)) (b_2 : (List Int)) (t4_3 : (List Int)) (s_4 : (List Int)) (c_5 : Int) (t9_6 : Int) : Option (((List Int) × (Int × Unit)) × (Unit × (Unit × Unit))) := (brR (decide (t9_6 < (4 : Int))) (brR (inR t9_6 (4 : Nat)) (brR (inR t9_6 (4 : Nat)) (Option.bind (c_math_bits_Add64 ((List.getD a_1 (Int.toNat t9_6) (0 : Int)), ((List.getD b_2 (Int.toNat t9_6) (0 : Int)), (c_5, ())))) (fun (y_7 : ((Int × (Int × Unit)) × (Unit × (Unit × (Unit × Unit))))) => (brR (inR t9_6 (4 : Nat)) (again_0 (a_1, (b_2, (t4_3, ((List.set s_4 (Int.toNat t9_6) y_7.1.1), (y_7.1.2.1, ((IntKind.wrap (IntKind.i64) (t9_6 + (1 : Int))), ()))))))) none))) none) none) (brR (!(decide (c_5 = (0 : Int)))) (some (([(0 : Int), (0 : Int), (0 : Int), (0 : Int)], ((4 : Int), ())), ((), ((), ())))) (some ((s_4, ((0 : Int), ())), ((), ((), ()))))))
noncomputable def T_uint256_Add (L : LoopD) (c_math_bits_Add64 : F_math_bits_Add64) (a_ : (List Int)) (b_ : (List Int)) : Option (((List Int) × (Int × Unit)) × (Unit × (Unit × Unit))) := (L _ _ (fun again x => T_uint256_Add_loop0 c_math_bits_Add64 again x.1 x.2.1 x.2.2.1 x.2.2.2.1 x.2.2.2.2.1 x.2.2.2.2.2.1) (a_, (b_, ([(0 : Int), (0 : Int), (0 : Int), (0 : Int)], ([(0 : Int), (0 : Int), (0 : Int), (0 : Int)], ((0 : Int), ((0 : Int), ())))))))
noncomputable def sol_uint256_Add : F_uint256_Add := fun x => T_uint256_Add bigLoop sol_math_bits_Add64 x.1 x.2.1
abbrev s_uint256_maxValue : Sig := ⟨[], [(.ro true (.arr 4 (.int .u64)))]⟩
abbrev F_uint256_maxValue := Unit → Option (((List Int) × Unit) × Unit)
noncomputable def T_uint256_maxValue (L : LoopD) : Option (((List Int) × Unit) × Unit) := (some (([(18446744073709551615 : Int), (18446744073709551615 : Int), (18446744073709551615 : Int), (18446744073709551615 : Int)], ()), ()))
noncomputable def sol_uint256_maxValue : F_uint256_maxValue := fun x => T_uint256_maxValue bigLoop
abbrev s_uint256_SaturatingAdd : Sig := ⟨[(.ro true (.arr 4 (.int .u64))), (.ro true (.arr 4 (.int .u64)))], [(.ro true (.arr 4 (.int .u64)))]⟩
abbrev F_uint256_SaturatingAdd := ((List Int) × ((List Int) × Unit)) → Option (((List Int) × Unit) × (Unit × (Unit × Unit)))
noncomputable def T_uint256_SaturatingAdd (L : LoopD) (c_uint256_Add : F_uint256_Add) (c_uint256_maxValue : F_uint256_maxValue) (a_ : (List Int)) (b_ : (List Int)) : Option (((List Int) × Unit) × (Unit × (Unit × Unit))) := (Option.bind (c_uint256_Add (a_, (b_, ()))) (fun (y_0 : (((List Int) × (Int × Unit)) × (Unit × (Unit × Unit)))) => (brR (decide (y_0.1.2.1 = (0 : Int))) (some ((y_0.1.1, ()), ((), ((), ())))) (Option.bind (c_uint256_maxValue ()) (fun (y_1 : (((List Int) × Unit) × Unit)) => (some ((y_1.1.1, ()), ((), ((), ())))))))))
noncomputable def sol_uint256_SaturatingAdd : F_uint256_SaturatingAdd := fun x => T_uint256_SaturatingAdd bigLoop sol_uint256_Add sol_uint256_maxValue x.1 x.2.1
end Go.Pon
set_option autoImplicit false
set_option linter.unusedVariables false
set_option maxRecDepth 100000
namespace Go.Pon
open Go
abbrev s_wire_encode : Sig := ⟨[(.ro true (.arr 4 (.int .u64)))], [(.own true (.int .u8))]⟩
abbrev F_wire_encode := ((List Int) × Unit) → Option (((List Int) × Unit) × (Unit × Unit))
noncomputable def T_wire_encode_loop0 (again_2 : ((List Int) × ((List Int) × (Int × Unit))) → Option (((List Int) × Unit) × (Unit × Unit))) (n_3 : (List Int)) (out_4 : (List Int)) (i_5 : Int) : Option (((List Int) × Unit) × (Unit × Unit)) := (letR (IntKind.wrap (IntKind.i64) ((8 : Int) * (Int.tmod i_5 (8 : Int)))) fun (v_6 : Int) => (brR (decide (i_5 ≥ (0 : Int))) (brR (inR (IntKind.wrap (IntKind.i64) (Int.tdiv i_5 (8 : Int))) (4 : Nat)) (brR (decide ((0 : Int) ≤ v_6)) (brR (roomy ((List.length out_4) + (1 : Nat)) (Ty.int IntKind.u8)) (again_2 (n_3, ((List.append out_4 [(IntKind.wrap (IntKind.u8) (Int.fdiv (List.getD n_3 (Int.toNat (IntKind.wrap (IntKind.i64) (Int.tdiv i_5 (8 : Int)))) (0 : Int)) ((2 : Int) ^ (min (Int.toNat v_6) (64 : Nat)))))]), ((IntKind.wrap (IntKind.i64) (i_5 - (1 : Int))), ())))) none) none) none) (some ((out_4, ()), ((), ())))))
noncomputable def T_wire_encode (L : LoopD) (c_uint256_BitLen : F_uint256_BitLen) (n_ : (List Int)) : Option (((List Int) × Unit) × (Unit × Unit)) := (Option.bind (c_uint256_BitLen (n_, ())) (fun (y_0 : ((Int × Unit) × (Unit × Unit))) => (letR (IntKind.wrap (IntKind.i64) (Int.tdiv (IntKind.wrap (IntKind.i64) (y_0.1.1 + (7 : Int))) (8 : Int))) fun (v_1 : Int) => (L _ _ (fun again x => T_wire_encode_loop0 again x.1 x.2.1 x.2.2.1) (n_, ([(IntKind.wrap (IntKind.u8) v_1)], ((IntKind.wrap (IntKind.i64) (v_1 - (1 : Int))), ())))))))
noncomputable def sol_wire_encode : F_wire_encode := fun x => T_wire_encode bigLoop sol_uint256_BitLen x.1
abbrev s_wire_AppendUint256 : Sig := ⟨[(.ro false (.slice (.int .u8))), (.ro true (.arr 4 (.int .u64)))], [(.own true (.int .u8))]⟩
abbrev F_wire_AppendUint256 := ((List Int) × ((List Int) × Unit)) → Option (((List Int) × Unit) × (Unit × (Unit × Unit)))
noncomputable def T_wire_AppendUint256 (L : LoopD) (c_wire_encode : F_wire_encode) (c_slices_Concat_byte_byte : F_slices_Concat_byte_byte) (b_ : (List Int)) (n_ : (List Int)) : Option (((List Int) × Unit) × (Unit × (Unit × Unit))) := (Option.bind (c_wire_encode (n_, ())) (fun (y_0 : (((List Int) × Unit) × (Unit × Unit))) => (Option.bind (c_slices_Concat_byte_byte ([b_, y_0.1.1], ())) (fun (y_1 : (((List Int) × Unit) × (Unit × Unit))) => (some ((y_1.1.1, ()), ((), ((), ()))))))))
noncomputable def sol_wire_AppendUint256 : F_wire_AppendUint256 := fun x => T_wire_AppendUint256 bigLoop sol_wire_encode sol_slices_Concat_byte_byte x.1 x.2.1
abbrev s_wire_AppendUint64 : Sig := ⟨[(.ro false (.slice (.int .u8))), (.ro true (.int .u64))], [(.own true (.int .u8))]⟩
abbrev F_wire_AppendUint64 := ((List Int) × (Int × Unit)) → Option (((List Int) × Unit) × (Unit × (Unit × Unit)))
noncomputable def T_wire_AppendUint64 (L : LoopD) (c_uint256_FromUint64 : F_uint256_FromUint64) (c_wire_AppendUint256 : F_wire_AppendUint256) (b_ : (List Int)) (n_ : Int) : Option (((List Int) × Unit) × (Unit × (Unit × Unit))) := (Option.bind (c_uint256_FromUint64 (n_, ())) (fun (y_0 : (((List Int) × Unit) × (Unit × Unit))) => (Option.bind (c_wire_AppendUint256 (b_, (y_0.1.1, ()))) (fun (y_1 : (((List Int) × Unit) × (Unit × (Unit × Unit)))) => (some ((y_1.1.1, ()), ((), ((), ()))))))))
noncomputable def sol_wire_AppendUint64 : F_wire_AppendUint64 := fun x => T_wire_AppendUint64 bigLoop sol_uint256_FromUint64 sol_wire_AppendUint256 x.1 x.2.1
end Go.Pon
set_option autoImplicit false
set_option linter.unusedVariables false
set_option maxRecDepth 100000
namespace Go.Pon
open Go
abbrev s_outbox_Encode : Sig := ⟨[(.ro true (.pair (.int .u64) (.pair (.int .u64) (.pair (.arr 4 (.int .u64)) .unit))))], [(.own true (.int .u8))]⟩
abbrev F_outbox_Encode := ((Int × (Int × ((List Int) × Unit))) × Unit) → Option (((List Int) × Unit) × (Unit × Unit))
noncomputable def T_outbox_Encode (L : LoopD) (c_wire_AppendUint64 : F_wire_AppendUint64) (c_wire_AppendUint256 : F_wire_AppendUint256) (m_ : (Int × (Int × ((List Int) × Unit)))) : Option (((List Int) × Unit) × (Unit × Unit)) := (Option.bind (c_wire_AppendUint64 (([] : List Int), (m_.1, ()))) (fun (y_0 : (((List Int) × Unit) × (Unit × (Unit × Unit)))) => (Option.bind (c_wire_AppendUint64 (y_0.1.1, (m_.2.1, ()))) (fun (y_1 : (((List Int) × Unit) × (Unit × (Unit × Unit)))) => (Option.bind (c_wire_AppendUint256 (y_1.1.1, (m_.2.2.1, ()))) (fun (y_2 : (((List Int) × Unit) × (Unit × (Unit × Unit)))) => (some ((y_2.1.1, ()), ((), ())))))))))
noncomputable def sol_outbox_Encode : F_outbox_Encode := fun x => T_outbox_Encode bigLoop sol_wire_AppendUint64 sol_wire_AppendUint256 x.1
abbrev s_outbox_Leaf : Sig := ⟨[(.ro true (.pair (.int .u64) (.pair (.int .u64) (.pair (.arr 4 (.int .u64)) .unit))))], [(.ro true (.arr 32 (.int .u8)))]⟩
abbrev F_outbox_Leaf := ((Int × (Int × ((List Int) × Unit))) × Unit) → Option (((List Int) × Unit) × (Unit × Unit))
noncomputable def T_outbox_Leaf (L : LoopD) (c_outbox_Encode : F_outbox_Encode) (c_hash_Leaf : F_hash_Leaf) (m_ : (Int × (Int × ((List Int) × Unit)))) : Option (((List Int) × Unit) × (Unit × Unit)) := (Option.bind (c_outbox_Encode (m_, ())) (fun (y_0 : (((List Int) × Unit) × (Unit × Unit))) => (Option.bind (c_hash_Leaf (y_0.1.1, ())) (fun (y_1 : (((List Int) × Unit) × (Unit × Unit))) => (some ((y_1.1.1, ()), ((), ())))))))
noncomputable def sol_outbox_Leaf : F_outbox_Leaf := fun x => T_outbox_Leaf bigLoop sol_outbox_Encode sol_hash_Leaf x.1
end Go.Pon
set_option autoImplicit false
set_option linter.unusedVariables false
set_option maxRecDepth 100000
namespace Go.Pon
open Go
abbrev s_escrow_Escrow_AppendRoot : Sig := ⟨[(.optr (.pair (.own false (.arr 32 (.int .u8))) (.pair (.own false .bool) (.pair (.ro true (.arr 4 (.int .u64))) (.pair (.own false (.pair (.int .u64) (.pair (.arr 4 (.int .u64)) .unit))) (.ro true .unit)))))), (.ro true (.arr 32 (.int .u8)))], [(.ro true (.int .i64))]⟩
abbrev F_escrow_Escrow_AppendRoot := ((Option ((List (List Int)) × ((List Bool) × ((List Int) × ((List (Int × ((List Int) × Unit))) × Unit))))) × ((List Int) × Unit)) → Option ((Int × Unit) × ((Option ((List (List Int)) × ((List Bool) × ((List Int) × ((List (Int × ((List Int) × Unit))) × Unit))))) × (Unit × Unit)))
noncomputable def T_escrow_Escrow_AppendRoot (L : LoopD) (e_ : (Option ((List (List Int)) × ((List Bool) × ((List Int) × ((List (Int × ((List Int) × Unit))) × Unit)))))) (root_ : (List Int)) : Option ((Int × Unit) × ((Option ((List (List Int)) × ((List Bool) × ((List Int) × ((List (Int × ((List Int) × Unit))) × Unit))))) × (Unit × Unit))) := (letR [root_] fun (v_0 : (List (List Int))) => (optR e_ (some (((0 : Int), ()), (none, ((), ())))) (fun (y_1 : ((List (List Int)) × ((List Bool) × ((List Int) × ((List (Int × ((List Int) × Unit))) × Unit))))) => (letR (List.append y_1.1 v_0) fun (v_2 : (List (List Int))) => (brR (roomy ((List.length y_1.1) + (1 : Nat)) (Ty.arr 32 (Ty.int IntKind.u8))) (brR (roomy ((List.length y_1.2.1) + (1 : Nat)) (Ty.bool)) (some (((((List.length v_2) : Nat) : Int), ()), ((some (v_2, ((List.append y_1.2.1 [false]), (y_1.2.2.1, (y_1.2.2.2.1, y_1.2.2.2.2))))), ((), ())))) none) none)))))
noncomputable def sol_escrow_Escrow_AppendRoot : F_escrow_Escrow_AppendRoot := fun x => T_escrow_Escrow_AppendRoot bigLoop x.1 x.2.1
abbrev s_escrow_Escrow_Balance : Sig := ⟨[(.optr (.pair (.own false (.arr 32 (.int .u8))) (.pair (.own false .bool) (.pair (.ro true (.arr 4 (.int .u64))) (.pair (.own false (.pair (.int .u64) (.pair (.arr 4 (.int .u64)) .unit))) (.ro true .unit))))))], [(.ro true (.arr 4 (.int .u64)))]⟩
abbrev F_escrow_Escrow_Balance := ((Option ((List (List Int)) × ((List Bool) × ((List Int) × ((List (Int × ((List Int) × Unit))) × Unit))))) × Unit) → Option (((List Int) × Unit) × ((Option ((List (List Int)) × ((List Bool) × ((List Int) × ((List (Int × ((List Int) × Unit))) × Unit))))) × Unit))
noncomputable def T_escrow_Escrow_Balance (L : LoopD) (e_ : (Option ((List (List Int)) × ((List Bool) × ((List Int) × ((List (Int × ((List Int) × Unit))) × Unit)))))) : Option (((List Int) × Unit) × ((Option ((List (List Int)) × ((List Bool) × ((List Int) × ((List (Int × ((List Int) × Unit))) × Unit))))) × Unit)) := (optR e_ (some (([(0 : Int), (0 : Int), (0 : Int), (0 : Int)], ()), (none, ()))) (fun (y_0 : ((List (List Int)) × ((List Bool) × ((List Int) × ((List (Int × ((List Int) × Unit))) × Unit))))) => (some ((y_0.2.2.1, ()), ((some (y_0.1, (y_0.2.1, (y_0.2.2.1, (y_0.2.2.2.1, y_0.2.2.2.2))))), ())))))
noncomputable def sol_escrow_Escrow_Balance : F_escrow_Escrow_Balance := fun x => T_escrow_Escrow_Balance bigLoop x.1
abbrev s_escrow_Escrow_checkClaim : Sig := ⟨[(.optr (.pair (.own false (.arr 32 (.int .u8))) (.pair (.own false .bool) (.pair (.ro true (.arr 4 (.int .u64))) (.pair (.own false (.pair (.int .u64) (.pair (.arr 4 (.int .u64)) .unit))) (.ro true .unit)))))), (.ro false (.pair (.int .u64) (.pair (.int .u64) (.pair (.int .u64) (.pair (.arr 4 (.int .u64)) (.pair (.slice (.arr 32 (.int .u8))) .unit))))))], [(.ro true (.int .i64))]⟩
abbrev F_escrow_Escrow_checkClaim := ((Option ((List (List Int)) × ((List Bool) × ((List Int) × ((List (Int × ((List Int) × Unit))) × Unit))))) × ((Int × (Int × (Int × ((List Int) × ((List (List Int)) × Unit))))) × Unit)) → Option ((Int × Unit) × ((Option ((List (List Int)) × ((List Bool) × ((List Int) × ((List (Int × ((List Int) × Unit))) × Unit))))) × (Unit × Unit)))
noncomputable def T_escrow_Escrow_checkClaim (L : LoopD) (c_outbox_Leaf : F_outbox_Leaf) (c_merkle_Verify : F_merkle_Verify) (e_ : (Option ((List (List Int)) × ((List Bool) × ((List Int) × ((List (Int × ((List Int) × Unit))) × Unit)))))) (c_ : (Int × (Int × (Int × ((List Int) × ((List (List Int)) × Unit)))))) : Option ((Int × Unit) × ((Option ((List (List Int)) × ((List Bool) × ((List Int) × ((List (Int × ((List Int) × Unit))) × Unit))))) × (Unit × Unit))) := (letR (IntKind.wrap (IntKind.u64) (c_.2.1 - (1 : Int))) fun (v_0 : Int) => (optR e_ (some (((1 : Int), ()), (none, ((), ())))) (fun (y_1 : ((List (List Int)) × ((List Bool) × ((List Int) × ((List (Int × ((List Int) × Unit))) × Unit))))) => (brR (decide (c_.2.2.1 = (0 : Int))) (some (((2 : Int), ()), ((some (y_1.1, (y_1.2.1, (y_1.2.2.1, (y_1.2.2.2.1, y_1.2.2.2.2))))), ((), ())))) (brR (eqD (Ty.arr 4 (Ty.int IntKind.u64)) c_.2.2.2.1 [(0 : Int), (0 : Int), (0 : Int), (0 : Int)]) (some (((2 : Int), ()), ((some (y_1.1, (y_1.2.1, (y_1.2.2.1, (y_1.2.2.2.1, y_1.2.2.2.2))))), ((), ())))) (brR (decide ((((List.length c_.2.2.2.2.1) : Nat) : Int) > (64 : Int))) (some (((2 : Int), ()), ((some (y_1.1, (y_1.2.1, (y_1.2.2.1, (y_1.2.2.2.1, y_1.2.2.2.2))))), ((), ())))) (brR (decide (c_.2.1 < (1 : Int))) (some (((8 : Int), ()), ((some (y_1.1, (y_1.2.1, (y_1.2.2.1, (y_1.2.2.2.1, y_1.2.2.2.2))))), ((), ())))) (brR (decide (c_.2.1 > (IntKind.wrap (IntKind.u64) (((List.length y_1.1) : Nat) : Int)))) (some (((8 : Int), ()), ((some (y_1.1, (y_1.2.1, (y_1.2.2.1, (y_1.2.2.2.1, y_1.2.2.2.2))))), ((), ())))) (brR (decide (c_.1 ≥ c_.2.1)) (some (((8 : Int), ()), ((some (y_1.1, (y_1.2.1, (y_1.2.2.1, (y_1.2.2.2.1, y_1.2.2.2.2))))), ((), ())))) (brR (inR c_.1 (List.length y_1.2.1)) (brR (List.getD y_1.2.1 (Int.toNat c_.1) false) (some (((9 : Int), ()), ((some (y_1.1, (y_1.2.1, (y_1.2.2.1, (y_1.2.2.2.1, y_1.2.2.2.2))))), ((), ())))) (Option.bind (c_outbox_Leaf ((c_.1, (c_.2.2.1, (c_.2.2.2.1, ()))), ())) (fun (y_2 : (((List Int) × Unit) × (Unit × Unit))) => (brR (inR v_0 (List.length y_1.1)) (Option.bind (c_merkle_Verify ((List.getD y_1.1 (Int.toNat v_0) (List.replicate (32 : Nat) (0 : Int))), ((IntKind.wrap (IntKind.i64) c_.2.1), ((IntKind.wrap (IntKind.i64) c_.1), (y_2.1.1, (c_.2.2.2.2.1, ())))))) (fun (y_3 : ((Bool × Unit) × (Unit × (Unit × (Unit × (Unit × (Unit × Unit))))))) => (brR (!y_3.1.1) (some (((16 : Int), ()), ((some (y_1.1, (y_1.2.1, (y_1.2.2.1, (y_1.2.2.2.1, y_1.2.2.2.2))))), ((), ())))) (some (((0 : Int), ()), ((some (y_1.1, (y_1.2.1, (y_1.2.2.1, (y_1.2.2.2.1, y_1.2.2.2.2))))), ((), ()))))))) none)))) none))))))))))
noncomputable def sol_escrow_Escrow_checkClaim : F_escrow_Escrow_checkClaim := fun x => T_escrow_Escrow_checkClaim bigLoop sol_outbox_Leaf sol_merkle_Verify x.1 x.2.1
abbrev s_escrow_Escrow_find_1 : Sig := ⟨[(.ro true (.pair (.int .u64) (.pair (.arr 4 (.int .u64)) .unit))), (.ro true (.int .u64))], [(.ro true (.int .i64))]⟩
abbrev F_escrow_Escrow_find_1 := ((Int × ((List Int) × Unit)) × (Int × Unit)) → Option ((Int × Unit) × (Unit × (Unit × Unit)))
noncomputable def T_escrow_Escrow_find_1 (L : LoopD) (c_cmp_Compare_api_Address : F_cmp_Compare_api_Address) (x_ : (Int × ((List Int) × Unit))) (a_ : Int) : Option ((Int × Unit) × (Unit × (Unit × Unit))) := (Option.bind (c_cmp_Compare_api_Address (x_.1, (a_, ()))) (fun (y_0 : ((Int × Unit) × (Unit × (Unit × Unit)))) => (some ((y_0.1.1, ()), ((), ((), ()))))))
noncomputable def sol_escrow_Escrow_find_1 : F_escrow_Escrow_find_1 := fun x => T_escrow_Escrow_find_1 bigLoop sol_cmp_Compare_api_Address x.1 x.2.1
abbrev F_slices_BinarySearchFunc_api_Payment_api_Payment_api_Address := ((List (Int × ((List Int) × Unit))) × (Int × (Unit × Unit))) → Option ((Int × (Bool × Unit)) × (Unit × (Unit × (Unit × Unit))))
noncomputable def T_slices_BinarySearchFunc_api_Payment_api_Payment_api_Address_loop0 (c_escrow_Escrow_find_1 : F_escrow_Escrow_find_1) (again_1 : ((List (Int × ((List Int) × Unit))) × (Int × (Unit × (Int × (Int × (Int × Unit)))))) → Option ((Int × (Bool × Unit)) × (Unit × (Unit × (Unit × Unit))))) (x_2 : (List (Int × ((List Int) × Unit)))) (target_3 : Int) (cmp_4 : Unit) (n_5 : Int) (i_6 : Int) (j_7 : Int) : Option ((Int × (Bool × Unit)) × (Unit × (Unit × (Unit × Unit)))) := (letR (List.length x_2) fun (v_8 : Nat) => (letR (IntKind.wrap (IntKind.i64) (Int.fdiv (IntKind.wrap (IntKind.u64) (IntKind.wrap (IntKind.i64) (i_6 + j_7))) (2 : Int))) fun (v_9 : Int) => (brR (decide (i_6 < j_7)) (brR (inR v_9 v_8) (Option.bind (c_escrow_Escrow_find_1 ((List.getD x_2 (Int.toNat v_9) ((0 : Int), ([(0 : Int), (0 : Int), (0 : Int), (0 : Int)], ()))), (target_3, ()))) (fun (y_10 : ((Int × Unit) × (Unit × (Unit × Unit)))) => (brR (decide (y_10.1.1 < (0 : Int))) (again_1 (x_2, (target_3, (cmp_4, (n_5, ((IntKind.wrap (IntKind.i64) (v_9 + (1 : Int))), (j_7, ()))))))) (again_1 (x_2, (target_3, (cmp_4, (n_5, (i_6, (v_9, ())))))))))) none) (brR (decide (i_6 < n_5)) (brR (inR i_6 v_8) (Option.bind (c_escrow_Escrow_find_1 ((List.getD x_2 (Int.toNat i_6) ((0 : Int), ([(0 : Int), (0 : Int), (0 : Int), (0 : Int)], ()))), (target_3, ()))) (fun (y_11 : ((Int × Unit) × (Unit × (Unit × Unit)))) => (some ((i_6, ((decide (y_11.1.1 = (0 : Int))), ())), ((), ((), ((), ()))))))) none) (some ((i_6, (false, ())), ((), ((), ((), ())))))))))
noncomputable def T_slices_BinarySearchFunc_api_Payment_api_Payment_api_Address (L : LoopD) (c_escrow_Escrow_find_1 : F_escrow_Escrow_find_1) (x_ : (List (Int × ((List Int) × Unit)))) (target_ : Int) (cmp_ : Unit) : Option ((Int × (Bool × Unit)) × (Unit × (Unit × (Unit × Unit)))) := (letR (((List.length x_) : Nat) : Int) fun (v_0 : Int) => (L _ _ (fun again x => T_slices_BinarySearchFunc_api_Payment_api_Payment_api_Address_loop0 c_escrow_Escrow_find_1 again x.1 x.2.1 x.2.2.1 x.2.2.2.1 x.2.2.2.2.1 x.2.2.2.2.2.1) (x_, (target_, (cmp_, (v_0, ((0 : Int), (v_0, ()))))))))
noncomputable def sol_slices_BinarySearchFunc_api_Payment_api_Payment_api_Address : F_slices_BinarySearchFunc_api_Payment_api_Payment_api_Address := fun x => T_slices_BinarySearchFunc_api_Payment_api_Payment_api_Address bigLoop sol_escrow_Escrow_find_1 x.1 x.2.1 x.2.2.1
abbrev s_escrow_Escrow_find : Sig := ⟨[(.ptr (.pair (.own false (.arr 32 (.int .u8))) (.pair (.own false .bool) (.pair (.ro true (.arr 4 (.int .u64))) (.pair (.own false (.pair (.int .u64) (.pair (.arr 4 (.int .u64)) .unit))) (.ro true .unit)))))), (.ro true (.int .u64))], [(.ro true (.int .i64)), (.ro true .bool)]⟩
abbrev F_escrow_Escrow_find := (((List (List Int)) × ((List Bool) × ((List Int) × ((List (Int × ((List Int) × Unit))) × Unit)))) × (Int × Unit)) → Option ((Int × (Bool × Unit)) × (((List (List Int)) × ((List Bool) × ((List Int) × ((List (Int × ((List Int) × Unit))) × Unit)))) × (Unit × Unit)))
noncomputable def T_escrow_Escrow_find (L : LoopD) (c_slices_BinarySearchFunc_api_Payment_api_Payment_api_Address : F_slices_BinarySearchFunc_api_Payment_api_Payment_api_Address) (e_ : ((List (List Int)) × ((List Bool) × ((List Int) × ((List (Int × ((List Int) × Unit))) × Unit))))) (a_ : Int) : Option ((Int × (Bool × Unit)) × (((List (List Int)) × ((List Bool) × ((List Int) × ((List (Int × ((List Int) × Unit))) × Unit)))) × (Unit × Unit))) := (Option.bind (c_slices_BinarySearchFunc_api_Payment_api_Payment_api_Address (e_.2.2.2.1, (a_, ((), ())))) (fun (y_0 : ((Int × (Bool × Unit)) × (Unit × (Unit × (Unit × Unit))))) => (some ((y_0.1.1, (y_0.1.2.1, ())), ((e_.1, (e_.2.1, (e_.2.2.1, (e_.2.2.2.1, e_.2.2.2.2)))), ((), ()))))))
noncomputable def sol_escrow_Escrow_find : F_escrow_Escrow_find := fun x => T_escrow_Escrow_find bigLoop sol_slices_BinarySearchFunc_api_Payment_api_Payment_api_Address x.1 x.2.1
abbrev s_escrow_Escrow_L1Balance : Sig := ⟨[(.optr (.pair (.own false (.arr 32 (.int .u8))) (.pair (.own false .bool) (.pair (.ro true (.arr 4 (.int .u64))) (.pair (.own false (.pair (.int .u64) (.pair (.arr 4 (.int .u64)) .unit))) (.ro true .unit)))))), (.ro true (.int .u64))], [(.ro true (.arr 4 (.int .u64)))]⟩
abbrev F_escrow_Escrow_L1Balance := ((Option ((List (List Int)) × ((List Bool) × ((List Int) × ((List (Int × ((List Int) × Unit))) × Unit))))) × (Int × Unit)) → Option (((List Int) × Unit) × ((Option ((List (List Int)) × ((List Bool) × ((List Int) × ((List (Int × ((List Int) × Unit))) × Unit))))) × (Unit × Unit)))
noncomputable def T_escrow_Escrow_L1Balance (L : LoopD) (c_escrow_Escrow_find : F_escrow_Escrow_find) (e_ : (Option ((List (List Int)) × ((List Bool) × ((List Int) × ((List (Int × ((List Int) × Unit))) × Unit)))))) (a_ : Int) : Option (((List Int) × Unit) × ((Option ((List (List Int)) × ((List Bool) × ((List Int) × ((List (Int × ((List Int) × Unit))) × Unit))))) × (Unit × Unit))) := (optR e_ (some (([(0 : Int), (0 : Int), (0 : Int), (0 : Int)], ()), (none, ((), ())))) (fun (y_0 : ((List (List Int)) × ((List Bool) × ((List Int) × ((List (Int × ((List Int) × Unit))) × Unit))))) => (Option.bind (c_escrow_Escrow_find ((y_0.1, (y_0.2.1, (y_0.2.2.1, (y_0.2.2.2.1, y_0.2.2.2.2)))), (a_, ()))) (fun (y_1 : ((Int × (Bool × Unit)) × (((List (List Int)) × ((List Bool) × ((List Int) × ((List (Int × ((List Int) × Unit))) × Unit)))) × (Unit × Unit)))) => (brR y_1.1.2.1 (brR (inR y_1.1.1 (List.length y_1.2.1.2.2.2.1)) (some (((List.getD y_1.2.1.2.2.2.1 (Int.toNat y_1.1.1) ((0 : Int), ([(0 : Int), (0 : Int), (0 : Int), (0 : Int)], ()))).2.1, ()), ((some (y_1.2.1.1, (y_1.2.1.2.1, (y_1.2.1.2.2.1, (y_1.2.1.2.2.2.1, y_1.2.1.2.2.2.2))))), ((), ())))) none) (some (([(0 : Int), (0 : Int), (0 : Int), (0 : Int)], ()), ((some (y_1.2.1.1, (y_1.2.1.2.1, (y_1.2.1.2.2.1, (y_1.2.1.2.2.2.1, y_1.2.1.2.2.2.2))))), ((), ())))))))))
noncomputable def sol_escrow_Escrow_L1Balance : F_escrow_Escrow_L1Balance := fun x => T_escrow_Escrow_L1Balance bigLoop sol_escrow_Escrow_find x.1 x.2.1
abbrev s_escrow_Escrow_Claim : Sig := ⟨[(.optr (.pair (.own false (.arr 32 (.int .u8))) (.pair (.own false .bool) (.pair (.ro true (.arr 4 (.int .u64))) (.pair (.own false (.pair (.int .u64) (.pair (.arr 4 (.int .u64)) .unit))) (.ro true .unit)))))), (.ro false (.pair (.int .u64) (.pair (.int .u64) (.pair (.int .u64) (.pair (.arr 4 (.int .u64)) (.pair (.slice (.arr 32 (.int .u8))) .unit))))))], [(.ro true (.int .i64))]⟩
abbrev F_escrow_Escrow_Claim := ((Option ((List (List Int)) × ((List Bool) × ((List Int) × ((List (Int × ((List Int) × Unit))) × Unit))))) × ((Int × (Int × (Int × ((List Int) × ((List (List Int)) × Unit))))) × Unit)) → Option ((Int × Unit) × ((Option ((List (List Int)) × ((List Bool) × ((List Int) × ((List (Int × ((List Int) × Unit))) × Unit))))) × (Unit × Unit)))
noncomputable def T_escrow_Escrow_Claim (L : LoopD) (c_escrow_Escrow_checkClaim : F_escrow_Escrow_checkClaim) (c_uint256_Sub : F_uint256_Sub) (c_escrow_Escrow_L1Balance : F_escrow_Escrow_L1Balance) (c_uint256_Add : F_uint256_Add) (c_escrow_Escrow_find : F_escrow_Escrow_find) (c_slices_Insert_api_Payment_api_Payment : F_slices_Insert_api_Payment_api_Payment) (e_ : (Option ((List (List Int)) × ((List Bool) × ((List Int) × ((List (Int × ((List Int) × Unit))) × Unit)))))) (c_ : (Int × (Int × (Int × ((List Int) × ((List (List Int)) × Unit)))))) : Option ((Int × Unit) × ((Option ((List (List Int)) × ((List Bool) × ((List Int) × ((List (Int × ((List Int) × Unit))) × Unit))))) × (Unit × Unit))) := (optR e_ (Option.bind (c_escrow_Escrow_checkClaim (none, (c_, ()))) (fun (y_0 : ((Int × Unit) × ((Option ((List (List Int)) × ((List Bool) × ((List Int) × ((List (Int × ((List Int) × Unit))) × Unit))))) × (Unit × Unit)))) => (optR y_0.2.1 (brR (!(decide (y_0.1.1 = (0 : Int)))) (some ((y_0.1.1, ()), (none, ((), ())))) none) (fun (y_1 : ((List (List Int)) × ((List Bool) × ((List Int) × ((List (Int × ((List Int) × Unit))) × Unit))))) => none)))) (fun (y_2 : ((List (List Int)) × ((List Bool) × ((List Int) × ((List (Int × ((List Int) × Unit))) × Unit))))) => (Option.bind (c_escrow_Escrow_checkClaim ((some (y_2.1, (y_2.2.1, (y_2.2.2.1, (y_2.2.2.2.1, y_2.2.2.2.2))))), (c_, ()))) (fun (y_3 : ((Int × Unit) × ((Option ((List (List Int)) × ((List Bool) × ((List Int) × ((List (Int × ((List Int) × Unit))) × Unit))))) × (Unit × Unit)))) => (optR y_3.2.1 none (fun (y_4 : ((List (List Int)) × ((List Bool) × ((List Int) × ((List (Int × ((List Int) × Unit))) × Unit))))) => (brR (!(decide (y_3.1.1 = (0 : Int)))) (some ((y_3.1.1, ()), ((some (y_4.1, (y_4.2.1, (y_4.2.2.1, (y_4.2.2.2.1, y_4.2.2.2.2))))), ((), ())))) (Option.bind (c_uint256_Sub (y_4.2.2.1, (c_.2.2.2.1, ()))) (fun (y_5 : (((List Int) × (Int × Unit)) × (Unit × (Unit × Unit)))) => (brR (!(decide (y_5.1.2.1 = (0 : Int)))) (some (((10 : Int), ()), ((some (y_4.1, (y_4.2.1, (y_4.2.2.1, (y_4.2.2.2.1, y_4.2.2.2.2))))), ((), ())))) (Option.bind (c_escrow_Escrow_L1Balance ((some (y_4.1, (y_4.2.1, (y_4.2.2.1, (y_4.2.2.2.1, y_4.2.2.2.2))))), (c_.2.2.1, ()))) (fun (y_6 : (((List Int) × Unit) × ((Option ((List (List Int)) × ((List Bool) × ((List Int) × ((List (Int × ((List Int) × Unit))) × Unit))))) × (Unit × Unit)))) => (optR y_6.2.1 none (fun (y_7 : ((List (List Int)) × ((List Bool) × ((List Int) × ((List (Int × ((List Int) × Unit))) × Unit))))) => (Option.bind (c_uint256_Add (y_6.1.1, (c_.2.2.2.1, ()))) (fun (y_8 : (((List Int) × (Int × Unit)) × (Unit × (Unit × Unit)))) => (brR (!(decide (y_8.1.2.1 = (0 : Int)))) (some ((y_8.1.2.1, ()), ((some (y_7.1, (y_7.2.1, (y_7.2.2.1, (y_7.2.2.2.1, y_7.2.2.2.2))))), ((), ())))) (brR (inR c_.1 (List.length y_7.2.1)) (Option.bind (c_escrow_Escrow_find ((y_7.1, ((List.set y_7.2.1 (Int.toNat c_.1) true), (y_5.1.1, (y_7.2.2.2.1, y_7.2.2.2.2)))), (c_.2.2.1, ()))) (fun (y_9 : ((Int × (Bool × Unit)) × (((List (List Int)) × ((List Bool) × ((List Int) × ((List (Int × ((List Int) × Unit))) × Unit)))) × (Unit × Unit)))) => (brR y_9.1.2.1 (brR (inR y_9.1.1 (List.length y_9.2.1.2.2.2.1)) (some (((0 : Int), ()), ((some (y_9.2.1.1, (y_9.2.1.2.1, (y_9.2.1.2.2.1, ((List.set y_9.2.1.2.2.2.1 (Int.toNat y_9.1.1) ((List.getD y_9.2.1.2.2.2.1 (Int.toNat y_9.1.1) ((0 : Int), ([(0 : Int), (0 : Int), (0 : Int), (0 : Int)], ()))).1, (y_8.1.1, (List.getD y_9.2.1.2.2.2.1 (Int.toNat y_9.1.1) ((0 : Int), ([(0 : Int), (0 : Int), (0 : Int), (0 : Int)], ()))).2.2))), y_9.2.1.2.2.2.2))))), ((), ())))) none) (Option.bind (c_slices_Insert_api_Payment_api_Payment (y_9.2.1.2.2.2.1, (y_9.1.1, ([(c_.2.2.1, (y_8.1.1, ()))], ())))) (fun (y_10 : (((List (Int × ((List Int) × Unit))) × Unit) × (Unit × (Unit × (Unit × Unit))))) => (some (((0 : Int), ()), ((some (y_9.2.1.1, (y_9.2.1.2.1, (y_9.2.1.2.2.1, (y_10.1.1, y_9.2.1.2.2.2.2))))), ((), ()))))))))) none))))))))))))))))))
noncomputable def sol_escrow_Escrow_Claim : F_escrow_Escrow_Claim := fun x => T_escrow_Escrow_Claim bigLoop sol_escrow_Escrow_checkClaim sol_uint256_Sub sol_escrow_Escrow_L1Balance sol_uint256_Add sol_escrow_Escrow_find sol_slices_Insert_api_Payment_api_Payment x.1 x.2.1
abbrev s_escrow_Escrow_Size : Sig := ⟨[(.optr (.pair (.own false (.arr 32 (.int .u8))) (.pair (.own false .bool) (.pair (.ro true (.arr 4 (.int .u64))) (.pair (.own false (.pair (.int .u64) (.pair (.arr 4 (.int .u64)) .unit))) (.ro true .unit))))))], [(.ro true (.int .i64))]⟩
abbrev F_escrow_Escrow_Size := ((Option ((List (List Int)) × ((List Bool) × ((List Int) × ((List (Int × ((List Int) × Unit))) × Unit))))) × Unit) → Option ((Int × Unit) × ((Option ((List (List Int)) × ((List Bool) × ((List Int) × ((List (Int × ((List Int) × Unit))) × Unit))))) × Unit))
noncomputable def T_escrow_Escrow_Size (L : LoopD) (e_ : (Option ((List (List Int)) × ((List Bool) × ((List Int) × ((List (Int × ((List Int) × Unit))) × Unit)))))) : Option ((Int × Unit) × ((Option ((List (List Int)) × ((List Bool) × ((List Int) × ((List (Int × ((List Int) × Unit))) × Unit))))) × Unit)) := (optR e_ (some (((0 : Int), ()), (none, ()))) (fun (y_0 : ((List (List Int)) × ((List Bool) × ((List Int) × ((List (Int × ((List Int) × Unit))) × Unit))))) => (some (((((List.length y_0.1) : Nat) : Int), ()), ((some (y_0.1, (y_0.2.1, (y_0.2.2.1, (y_0.2.2.2.1, y_0.2.2.2.2))))), ())))))
noncomputable def sol_escrow_Escrow_Size : F_escrow_Escrow_Size := fun x => T_escrow_Escrow_Size bigLoop x.1
abbrev s_escrow_Escrow_Claimed : Sig := ⟨[(.optr (.pair (.own false (.arr 32 (.int .u8))) (.pair (.own false .bool) (.pair (.ro true (.arr 4 (.int .u64))) (.pair (.own false (.pair (.int .u64) (.pair (.arr 4 (.int .u64)) .unit))) (.ro true .unit)))))), (.ro true (.int .u64))], [(.ro true .bool)]⟩
abbrev F_escrow_Escrow_Claimed := ((Option ((List (List Int)) × ((List Bool) × ((List Int) × ((List (Int × ((List Int) × Unit))) × Unit))))) × (Int × Unit)) → Option ((Bool × Unit) × ((Option ((List (List Int)) × ((List Bool) × ((List Int) × ((List (Int × ((List Int) × Unit))) × Unit))))) × (Unit × Unit)))
noncomputable def T_escrow_Escrow_Claimed (L : LoopD) (c_escrow_Escrow_Size : F_escrow_Escrow_Size) (e_ : (Option ((List (List Int)) × ((List Bool) × ((List Int) × ((List (Int × ((List Int) × Unit))) × Unit)))))) (seq_ : Int) : Option ((Bool × Unit) × ((Option ((List (List Int)) × ((List Bool) × ((List Int) × ((List (Int × ((List Int) × Unit))) × Unit))))) × (Unit × Unit))) := (optR e_ (Option.bind (c_escrow_Escrow_Size (none, ())) (fun (y_0 : ((Int × Unit) × ((Option ((List (List Int)) × ((List Bool) × ((List Int) × ((List (Int × ((List Int) × Unit))) × Unit))))) × Unit))) => (optR y_0.2.1 (brR (decide (seq_ < (IntKind.wrap (IntKind.u64) y_0.1.1))) none (some ((false, ()), (none, ((), ()))))) (fun (y_1 : ((List (List Int)) × ((List Bool) × ((List Int) × ((List (Int × ((List Int) × Unit))) × Unit))))) => none)))) (fun (y_2 : ((List (List Int)) × ((List Bool) × ((List Int) × ((List (Int × ((List Int) × Unit))) × Unit))))) => (Option.bind (c_escrow_Escrow_Size ((some (y_2.1, (y_2.2.1, (y_2.2.2.1, (y_2.2.2.2.1, y_2.2.2.2.2))))), ())) (fun (y_3 : ((Int × Unit) × ((Option ((List (List Int)) × ((List Bool) × ((List Int) × ((List (Int × ((List Int) × Unit))) × Unit))))) × Unit))) => (optR y_3.2.1 none (fun (y_4 : ((List (List Int)) × ((List Bool) × ((List Int) × ((List (Int × ((List Int) × Unit))) × Unit))))) => (brR (decide (seq_ < (IntKind.wrap (IntKind.u64) y_3.1.1))) (brR (inR seq_ (List.length y_4.2.1)) (some (((List.getD y_4.2.1 (Int.toNat seq_) false), ()), ((some (y_4.1, (y_4.2.1, (y_4.2.2.1, (y_4.2.2.2.1, y_4.2.2.2.2))))), ((), ())))) none) (some ((false, ()), ((some (y_4.1, (y_4.2.1, (y_4.2.2.1, (y_4.2.2.2.1, y_4.2.2.2.2))))), ((), ())))))))))))
noncomputable def sol_escrow_Escrow_Claimed : F_escrow_Escrow_Claimed := fun x => T_escrow_Escrow_Claimed bigLoop sol_escrow_Escrow_Size x.1 x.2.1
abbrev s_escrow_Escrow_Deposit : Sig := ⟨[(.optr (.pair (.own false (.arr 32 (.int .u8))) (.pair (.own false .bool) (.pair (.ro true (.arr 4 (.int .u64))) (.pair (.own false (.pair (.int .u64) (.pair (.arr 4 (.int .u64)) .unit))) (.ro true .unit)))))), (.ro true (.arr 4 (.int .u64)))], [(.ro true (.int .i64))]⟩
abbrev F_escrow_Escrow_Deposit := ((Option ((List (List Int)) × ((List Bool) × ((List Int) × ((List (Int × ((List Int) × Unit))) × Unit))))) × ((List Int) × Unit)) → Option ((Int × Unit) × ((Option ((List (List Int)) × ((List Bool) × ((List Int) × ((List (Int × ((List Int) × Unit))) × Unit))))) × (Unit × Unit)))
noncomputable def T_escrow_Escrow_Deposit (L : LoopD) (c_uint256_Add : F_uint256_Add) (e_ : (Option ((List (List Int)) × ((List Bool) × ((List Int) × ((List (Int × ((List Int) × Unit))) × Unit)))))) (n_ : (List Int)) : Option ((Int × Unit) × ((Option ((List (List Int)) × ((List Bool) × ((List Int) × ((List (Int × ((List Int) × Unit))) × Unit))))) × (Unit × Unit))) := (optR e_ (some (((1 : Int), ()), (none, ((), ())))) (fun (y_0 : ((List (List Int)) × ((List Bool) × ((List Int) × ((List (Int × ((List Int) × Unit))) × Unit))))) => (brR (eqD (Ty.arr 4 (Ty.int IntKind.u64)) n_ [(0 : Int), (0 : Int), (0 : Int), (0 : Int)]) (some (((2 : Int), ()), ((some (y_0.1, (y_0.2.1, (y_0.2.2.1, (y_0.2.2.2.1, y_0.2.2.2.2))))), ((), ())))) (Option.bind (c_uint256_Add (y_0.2.2.1, (n_, ()))) (fun (y_1 : (((List Int) × (Int × Unit)) × (Unit × (Unit × Unit)))) => (brR (!(decide (y_1.1.2.1 = (0 : Int)))) (some ((y_1.1.2.1, ()), ((some (y_0.1, (y_0.2.1, (y_0.2.2.1, (y_0.2.2.2.1, y_0.2.2.2.2))))), ((), ())))) (some (((0 : Int), ()), ((some (y_0.1, (y_0.2.1, (y_1.1.1, (y_0.2.2.2.1, y_0.2.2.2.2))))), ((), ()))))))))))
noncomputable def sol_escrow_Escrow_Deposit : F_escrow_Escrow_Deposit := fun x => T_escrow_Escrow_Deposit bigLoop sol_uint256_Add x.1 x.2.1
abbrev s_escrow_New : Sig := ⟨[], [(.ptr (.pair (.own false (.arr 32 (.int .u8))) (.pair (.own false .bool) (.pair (.ro true (.arr 4 (.int .u64))) (.pair (.own false (.pair (.int .u64) (.pair (.arr 4 (.int .u64)) .unit))) (.ro true .unit))))))]⟩
abbrev F_escrow_New := Unit → Option ((((List (List Int)) × ((List Bool) × ((List Int) × ((List (Int × ((List Int) × Unit))) × Unit)))) × Unit) × Unit)
noncomputable def T_escrow_New (L : LoopD) : Option ((((List (List Int)) × ((List Bool) × ((List Int) × ((List (Int × ((List Int) × Unit))) × Unit)))) × Unit) × Unit) := (some (((([] : List (List Int)), (([] : List Bool), ([(0 : Int), (0 : Int), (0 : Int), (0 : Int)], (([] : List (Int × ((List Int) × Unit))), ())))), ()), ()))
noncomputable def sol_escrow_New : F_escrow_New := fun x => T_escrow_New bigLoop
end Go.Pon
set_option autoImplicit false
set_option linter.unusedVariables false
set_option maxRecDepth 100000
namespace Go.Pon
open Go
abbrev s_law0_Mod : Sig := ⟨[(.ro true (.int .i64)), (.ro true (.int .i64))], [(.ro true (.int .i64))]⟩
abbrev F_law0_Mod := (Int × (Int × Unit)) → Option ((Int × Unit) × (Unit × (Unit × Unit)))
noncomputable def T_law0_Mod (L : LoopD) (x_ : Int) (n_ : Int) : Option ((Int × Unit) × (Unit × (Unit × Unit))) := (brR (decide ((IntKind.wrap (IntKind.u64) n_) ≠ (0 : Int))) (some (((IntKind.wrap (IntKind.i64) (Int.tmod (IntKind.wrap (IntKind.u64) x_) (IntKind.wrap (IntKind.u64) n_))), ()), ((), ((), ())))) none)
noncomputable def sol_law0_Mod : F_law0_Mod := fun x => T_law0_Mod bigLoop x.1 x.2.1
end Go.Pon
set_option autoImplicit false
set_option linter.unusedVariables false
set_option maxRecDepth 100000
namespace Go.Pon
open Go
abbrev s_ref6_digits : Sig := ⟨[(.ro true (.arr 4 (.int .u64)))], [(.own true (.int .u8))]⟩
abbrev F_ref6_digits := ((List Int) × Unit) → Option (((List Int) × Unit) × (Unit × Unit))
noncomputable def T_ref6_digits_loop0 (again_0 : ((List Int) × ((List Int) × (Int × Unit))) → Option (((List Int) × Unit) × (Unit × Unit))) (n_1 : (List Int)) (out_2 : (List Int)) (i_3 : Int) : Option (((List Int) × Unit) × (Unit × Unit)) := (letR (IntKind.wrap (IntKind.u64) (IntKind.wrap (IntKind.i64) ((8 : Int) * (Int.tmod i_3 (8 : Int))))) fun (v_4 : Int) => (letR (IntKind.wrap (IntKind.u8) (Int.fdiv (List.getD n_1 (Int.toNat (IntKind.wrap (IntKind.i64) (Int.tdiv i_3 (8 : Int)))) (0 : Int)) ((2 : Int) ^ (min (Int.toNat v_4) (64 : Nat))))) fun (v_5 : Int) => (brR (decide (i_3 ≥ (0 : Int))) (brR (inR (IntKind.wrap (IntKind.i64) (Int.tdiv i_3 (8 : Int))) (4 : Nat)) (brR (decide ((0 : Int) ≤ v_4)) (brR (decide ((((List.length out_2) : Nat) : Int) > (0 : Int))) (brR (roomy ((List.length out_2) + (1 : Nat)) (Ty.int IntKind.u8)) (again_0 (n_1, ((List.append out_2 [v_5]), ((IntKind.wrap (IntKind.i64) (i_3 - (1 : Int))), ())))) none) (brR (decide (v_5 > (0 : Int))) (brR (roomy ((List.length out_2) + (1 : Nat)) (Ty.int IntKind.u8)) (again_0 (n_1, ((List.append out_2 [v_5]), ((IntKind.wrap (IntKind.i64) (i_3 - (1 : Int))), ())))) none) (again_0 (n_1, (out_2, ((IntKind.wrap (IntKind.i64) (i_3 - (1 : Int))), ())))))) none) none) (some ((out_2, ()), ((), ()))))))
noncomputable def T_ref6_digits (L : LoopD) (n_ : (List Int)) : Option (((List Int) × Unit) × (Unit × Unit)) := (L _ _ (fun again x => T_ref6_digits_loop0 again x.1 x.2.1 x.2.2.1) (n_, (([] : List Int), ((31 : Int), ()))))
noncomputable def sol_ref6_digits : F_ref6_digits := fun x => T_ref6_digits bigLoop x.1
abbrev s_ref6_AppendUint256 : Sig := ⟨[(.ro false (.slice (.int .u8))), (.ro true (.arr 4 (.int .u64)))], [(.own true (.int .u8))]⟩
abbrev F_ref6_AppendUint256 := ((List Int) × ((List Int) × Unit)) → Option (((List Int) × Unit) × (Unit × (Unit × Unit)))
noncomputable def T_ref6_AppendUint256 (L : LoopD) (c_ref6_digits : F_ref6_digits) (b_ : (List Int)) (n_ : (List Int)) : Option (((List Int) × Unit) × (Unit × (Unit × Unit))) := (Option.bind (c_ref6_digits (n_, ())) (fun (y_0 : (((List Int) × Unit) × (Unit × Unit))) => (letR (List.length y_0.1.1) fun (v_1 : Nat) => (letR (List.append b_ [(IntKind.wrap (IntKind.u8) ((v_1 : Nat) : Int))]) fun (v_2 : (List Int)) => (brR (roomy ((0 : Nat) + (List.length b_)) (Ty.int IntKind.u8)) (brR (roomy ((List.length b_) + (1 : Nat)) (Ty.int IntKind.u8)) (brR (roomy ((List.length v_2) + v_1) (Ty.int IntKind.u8)) (some (((List.append v_2 y_0.1.1), ()), ((), ((), ())))) none) none) none)))))
noncomputable def sol_ref6_AppendUint256 : F_ref6_AppendUint256 := fun x => T_ref6_AppendUint256 bigLoop sol_ref6_digits x.1 x.2.1
abbrev s_ref6_AppendUint64 : Sig := ⟨[(.ro false (.slice (.int .u8))), (.ro true (.int .u64))], [(.own true (.int .u8))]⟩
abbrev F_ref6_AppendUint64 := ((List Int) × (Int × Unit)) → Option (((List Int) × Unit) × (Unit × (Unit × Unit)))
noncomputable def T_ref6_AppendUint64 (L : LoopD) (c_ref6_AppendUint256 : F_ref6_AppendUint256) (b_ : (List Int)) (n_ : Int) : Option (((List Int) × Unit) × (Unit × (Unit × Unit))) := (Option.bind (c_ref6_AppendUint256 (b_, ([n_, (0 : Int), (0 : Int), (0 : Int)], ()))) (fun (y_0 : (((List Int) × Unit) × (Unit × (Unit × Unit)))) => (some ((y_0.1.1, ()), ((), ((), ()))))))
noncomputable def sol_ref6_AppendUint64 : F_ref6_AppendUint64 := fun x => T_ref6_AppendUint64 bigLoop sol_ref6_AppendUint256 x.1 x.2.1
end Go.Pon
set_option autoImplicit false
set_option linter.unusedVariables false
set_option maxRecDepth 100000
namespace Go.Pon
open Go
abbrev s_ref7_words : Sig := ⟨[], [(.ro true (.arr 64 (.int .u32)))]⟩
abbrev F_ref7_words := Unit → Option (((List Int) × Unit) × Unit)
noncomputable def T_ref7_words (L : LoopD) : Option (((List Int) × Unit) × Unit) := (some (((List.set (List.set (List.set (List.set (List.set (List.set (List.set (List.set (List.set (List.set (List.set (List.set (List.set (List.set (List.set (List.set (List.set (List.set (List.set (List.set (List.set (List.set (List.set (List.set (List.set (List.set (List.set (List.set (List.set (List.set (List.set (List.set (List.set (List.set (List.set (List.set (List.set (List.set (List.set (List.set (List.set (List.set (List.set (List.set (List.set (List.set (List.set (List.set (List.set (List.set (List.set (List.set (List.set (List.set (List.set (List.set (List.set (List.set (List.set (List.set (List.set (List.set (List.set (List.set (List.replicate (64 : Nat) (0 : Int)) (0 : Nat) (1116352408 : Int)) (1 : Nat) (1899447441 : Int)) (2 : Nat) (3049323471 : Int)) (3 : Nat) (3921009573 : Int)) (4 : Nat) (961987163 : Int)) (5 : Nat) (1508970993 : Int)) (6 : Nat) (2453635748 : Int)) (7 : Nat) (2870763221 : Int)) (8 : Nat) (3624381080 : Int)) (9 : Nat) (310598401 : Int)) (10 : Nat) (607225278 : Int)) (11 : Nat) (1426881987 : Int)) (12 : Nat) (1925078388 : Int)) (13 : Nat) (2162078206 : Int)) (14 : Nat) (2614888103 : Int)) (15 : Nat) (3248222580 : Int)) (16 : Nat) (3835390401 : Int)) (17 : Nat) (4022224774 : Int)) (18 : Nat) (264347078 : Int)) (19 : Nat) (604807628 : Int)) (20 : Nat) (770255983 : Int)) (21 : Nat) (1249150122 : Int)) (22 : Nat) (1555081692 : Int)) (23 : Nat) (1996064986 : Int)) (24 : Nat) (2554220882 : Int)) (25 : Nat) (2821834349 : Int)) (26 : Nat) (2952996808 : Int)) (27 : Nat) (3210313671 : Int)) (28 : Nat) (3336571891 : Int)) (29 : Nat) (3584528711 : Int)) (30 : Nat) (113926993 : Int)) (31 : Nat) (338241895 : Int)) (32 : Nat) (666307205 : Int)) (33 : Nat) (773529912 : Int)) (34 : Nat) (1294757372 : Int)) (35 : Nat) (1396182291 : Int)) (36 : Nat) (1695183700 : Int)) (37 : Nat) (1986661051 : Int)) (38 : Nat) (2177026350 : Int)) (39 : Nat) (2456956037 : Int)) (40 : Nat) (2730485921 : Int)) (41 : Nat) (2820302411 : Int)) (42 : Nat) (3259730800 : Int)) (43 : Nat) (3345764771 : Int)) (44 : Nat) (3516065817 : Int)) (45 : Nat) (3600352804 : Int)) (46 : Nat) (4094571909 : Int)) (47 : Nat) (275423344 : Int)) (48 : Nat) (430227734 : Int)) (49 : Nat) (506948616 : Int)) (50 : Nat) (659060556 : Int)) (51 : Nat) (883997877 : Int)) (52 : Nat) (958139571 : Int)) (53 : Nat) (1322822218 : Int)) (54 : Nat) (1537002063 : Int)) (55 : Nat) (1747873779 : Int)) (56 : Nat) (1955562222 : Int)) (57 : Nat) (2024104815 : Int)) (58 : Nat) (2227730452 : Int)) (59 : Nat) (2361852424 : Int)) (60 : Nat) (2428436474 : Int)) (61 : Nat) (2756734187 : Int)) (62 : Nat) (3204031479 : Int)) (63 : Nat) (3329325298 : Int)), ()), ()))
noncomputable def sol_ref7_words : F_ref7_words := fun x => T_ref7_words bigLoop
abbrev s_ref7_right : Sig := ⟨[(.ro true (.int .u32)), (.ro true (.int .u64))], [(.ro true (.int .u32))]⟩
abbrev F_ref7_right := (Int × (Int × Unit)) → Option ((Int × Unit) × (Unit × (Unit × Unit)))
noncomputable def T_ref7_right (L : LoopD) (x_ : Int) (n_ : Int) : Option ((Int × Unit) × (Unit × (Unit × Unit))) := (letR (IntKind.wrap (IntKind.u64) ((32 : Int) - n_)) fun (v_0 : Int) => (brR (decide ((0 : Int) ≤ n_)) (brR (decide ((0 : Int) ≤ v_0)) (some (((IntKind.wrap (IntKind.u32) (((BitVec.toNat ((BitVec.ofInt (32 : Nat) (Int.fdiv x_ ((2 : Int) ^ (min (Int.toNat n_) (32 : Nat))))) ||| (BitVec.ofInt (32 : Nat) (IntKind.wrap (IntKind.u32) (x_ * ((2 : Int) ^ (min (Int.toNat v_0) (32 : Nat)))))))) : Nat) : Int)), ()), ((), ((), ())))) none) none))
noncomputable def sol_ref7_right : F_ref7_right := fun x => T_ref7_right bigLoop x.1 x.2.1
abbrev s_ref7_block : Sig := ⟨[(.ro true (.arr 8 (.int .u32))), (.ro false (.slice (.int .u8)))], [(.ro true (.arr 8 (.int .u32)))]⟩
abbrev F_ref7_block := ((List Int) × ((List Int) × Unit)) → Option (((List Int) × Unit) × (Unit × (Unit × Unit)))
noncomputable def T_ref7_block_loop2 (again_44 : ((List Int) × ((List Int) × ((List Int) × (Int × Unit)))) → Option (((List Int) × Unit) × (Unit × (Unit × Unit)))) (h_45 : (List Int)) (t4_46 : (List Int)) (s_47 : (List Int)) (i_48 : Int) : Option (((List Int) × Unit) × (Unit × (Unit × Unit))) := (brR (decide (i_48 < (8 : Int))) (brR (inR i_48 (8 : Nat)) (brR (inR i_48 (8 : Nat)) (brR (inR i_48 (8 : Nat)) (again_44 (h_45, (t4_46, ((List.set s_47 (Int.toNat i_48) (IntKind.wrap (IntKind.u32) ((List.getD s_47 (Int.toNat i_48) (0 : Int)) + (List.getD h_45 (Int.toNat i_48) (0 : Int))))), ((IntKind.wrap (IntKind.i64) (i_48 + (1 : Int))), ()))))) none) none) none) (some ((s_47, ()), ((), ((), ())))))
noncomputable def T_ref7_block_loop1 (L : LoopD) (c_ref7_right : F_ref7_right) (again_22 : ((List Int) × ((List Int) × ((List Int) × ((List Int) × ((List Int) × (Int × Unit)))))) → Option (((List Int) × Unit) × (Unit × (Unit × Unit)))) (h_23 : (List Int)) (t4_24 : (List Int)) (k_25 : (List Int)) (w_26 : (List Int)) (s_27 : (List Int)) (i_28 : Int) : Option (((List Int) × Unit) × (Unit × (Unit × Unit))) := (letR (List.getD s_27 (4 : Nat) (0 : Int)) fun (v_29 : Int) => (letR (List.getD s_27 (0 : Nat) (0 : Int)) fun (v_30 : Int) => (letR (List.getD s_27 (7 : Nat) (0 : Int)) fun (v_31 : Int) => (letR (List.getD s_27 (5 : Nat) (0 : Int)) fun (v_32 : Int) => (letR (List.getD s_27 (6 : Nat) (0 : Int)) fun (v_33 : Int) => (letR (List.getD s_27 (1 : Nat) (0 : Int)) fun (v_34 : Int) => (letR (List.getD s_27 (2 : Nat) (0 : Int)) fun (v_35 : Int) => (letR (IntKind.wrap (IntKind.u32) (((BitVec.toNat ((BitVec.ofInt (32 : Nat) (IntKind.wrap (IntKind.u32) (((BitVec.toNat ((BitVec.ofInt (32 : Nat) v_29) &&& (BitVec.ofInt (32 : Nat) v_32))) : Nat) : Int))) ^^^ (BitVec.ofInt (32 : Nat) (IntKind.wrap (IntKind.u32) (((BitVec.toNat ((BitVec.ofInt (32 : Nat) (IntKind.wrap (IntKind.u32) (((BitVec.toNat ((BitVec.ofInt (32 : Nat) (4294967295 : Int)) ^^^ (BitVec.ofInt (32 : Nat) v_29))) : Nat) : Int))) &&& (BitVec.ofInt (32 : Nat) v_33))) : Nat) : Int))))) : Nat) : Int)) fun (v_36 : Int) => (brR (decide (i_28 < (64 : Int))) (Option.bind (c_ref7_right (v_29, ((6 : Int), ()))) (fun (y_37 : ((Int × Unit) × (Unit × (Unit × Unit)))) => (Option.bind (c_ref7_right (v_29, ((11 : Int), ()))) (fun (y_38 : ((Int × Unit) × (Unit × (Unit × Unit)))) => (Option.bind (c_ref7_right (v_29, ((25 : Int), ()))) (fun (y_39 : ((Int × Unit) × (Unit × (Unit × Unit)))) => (letR (IntKind.wrap (IntKind.u32) ((IntKind.wrap (IntKind.u32) ((IntKind.wrap (IntKind.u32) ((IntKind.wrap (IntKind.u32) (v_31 + (IntKind.wrap (IntKind.u32) (((BitVec.toNat ((BitVec.ofInt (32 : Nat) (IntKind.wrap (IntKind.u32) (((BitVec.toNat ((BitVec.ofInt (32 : Nat) y_37.1.1) ^^^ (BitVec.ofInt (32 : Nat) y_38.1.1))) : Nat) : Int))) ^^^ (BitVec.ofInt (32 : Nat) y_39.1.1))) : Nat) : Int)))) + v_36)) + (List.getD k_25 (Int.toNat i_28) (0 : Int)))) + (List.getD w_26 (Int.toNat i_28) (0 : Int)))) fun (v_40 : Int) => (brR (inR i_28 (64 : Nat)) (brR (inR i_28 (64 : Nat)) (Option.bind (c_ref7_right (v_30, ((2 : Int), ()))) (fun (y_41 : ((Int × Unit) × (Unit × (Unit × Unit)))) => (Option.bind (c_ref7_right (v_30, ((13 : Int), ()))) (fun (y_42 : ((Int × Unit) × (Unit × (Unit × Unit)))) => (Option.bind (c_ref7_right (v_30, ((22 : Int), ()))) (fun (y_43 : ((Int × Unit) × (Unit × (Unit × Unit)))) => (again_22 (h_23, (t4_24, (k_25, (w_26, ([(IntKind.wrap (IntKind.u32) (v_40 + (IntKind.wrap (IntKind.u32) ((IntKind.wrap (IntKind.u32) (((BitVec.toNat ((BitVec.ofInt (32 : Nat) (IntKind.wrap (IntKind.u32) (((BitVec.toNat ((BitVec.ofInt (32 : Nat) y_41.1.1) ^^^ (BitVec.ofInt (32 : Nat) y_42.1.1))) : Nat) : Int))) ^^^ (BitVec.ofInt (32 : Nat) y_43.1.1))) : Nat) : Int)) + (IntKind.wrap (IntKind.u32) (((BitVec.toNat ((BitVec.ofInt (32 : Nat) (IntKind.wrap (IntKind.u32) (((BitVec.toNat ((BitVec.ofInt (32 : Nat) (IntKind.wrap (IntKind.u32) (((BitVec.toNat ((BitVec.ofInt (32 : Nat) v_30) &&& (BitVec.ofInt (32 : Nat) v_34))) : Nat) : Int))) ^^^ (BitVec.ofInt (32 : Nat) (IntKind.wrap (IntKind.u32) (((BitVec.toNat ((BitVec.ofInt (32 : Nat) v_30) &&& (BitVec.ofInt (32 : Nat) v_35))) : Nat) : Int))))) : Nat) : Int))) ^^^ (BitVec.ofInt (32 : Nat) (IntKind.wrap (IntKind.u32) (((BitVec.toNat ((BitVec.ofInt (32 : Nat) v_34) &&& (BitVec.ofInt (32 : Nat) v_35))) : Nat) : Int))))) : Nat) : Int)))))), v_30, v_34, v_35, (IntKind.wrap (IntKind.u32) ((List.getD s_27 (3 : Nat) (0 : Int)) + v_40)), v_29, v_32, v_33], ((IntKind.wrap (IntKind.i64) (i_28 + (1 : Int))), ()))))))))))))) none) none)))))))) (L _ _ (fun again x => T_ref7_block_loop2 again x.1 x.2.1 x.2.2.1 x.2.2.2.1) (h_23, (t4_24, (s_27, ((0 : Int), ()))))))))))))))
noncomputable def T_ref7_block_loop0 (L : LoopD) (c_ref7_right : F_ref7_right) (again_1 : ((List Int) × ((List Int) × ((List Int) × ((List Int) × ((List Int) × (Int × Unit)))))) → Option (((List Int) × Unit) × (Unit × (Unit × Unit)))) (b_2 : (List Int)) (h_3 : (List Int)) (t4_4 : (List Int)) (k_5 : (List Int)) (w_6 : (List Int)) (i_7 : Int) : Option (((List Int) × Unit) × (Unit × (Unit × Unit))) := (letR (IntKind.wrap (IntKind.i64) ((4 : Int) * i_7)) fun (v_8 : Int) => (letR (IntKind.wrap (IntKind.i64) (i_7 - (15 : Int))) fun (v_9 : Int) => (letR (IntKind.wrap (IntKind.i64) (i_7 - (2 : Int))) fun (v_10 : Int) => (letR (IntKind.wrap (IntKind.i64) (i_7 - (16 : Int))) fun (v_11 : Int) => (letR (IntKind.wrap (IntKind.i64) (i_7 - (7 : Int))) fun (v_12 : Int) => (letR (List.getD w_6 (Int.toNat v_9) (0 : Int)) fun (v_13 : Int) => (letR (List.getD w_6 (Int.toNat v_10) (0 : Int)) fun (v_14 : Int) => (letR (IntKind.wrap (IntKind.i64) (v_8 + (1 : Int))) fun (v_15 : Int) => (letR (IntKind.wrap (IntKind.i64) (v_8 + (2 : Int))) fun (v_16 : Int) => (letR (IntKind.wrap (IntKind.i64) (v_8 + (3 : Int))) fun (v_17 : Int) => (brR (decide (i_7 < (64 : Int))) (brR (decide (i_7 < (16 : Int))) (brR (inR v_8 (List.length b_2)) (brR (inR v_15 (List.length b_2)) (brR (inR v_16 (List.length b_2)) (brR (inR v_17 (List.length b_2)) (brR (inR i_7 (64 : Nat)) (again_1 (b_2, (h_3, (t4_4, (k_5, ((List.set w_6 (Int.toNat i_7) (IntKind.wrap (IntKind.u32) ((IntKind.wrap (IntKind.u32) ((IntKind.wrap (IntKind.u32) ((IntKind.wrap (IntKind.u32) ((IntKind.wrap (IntKind.u32) (List.getD b_2 (Int.toNat v_8) (0 : Int))) * (16777216 : Int))) + (IntKind.wrap (IntKind.u32) ((IntKind.wrap (IntKind.u32) (List.getD b_2 (Int.toNat v_15) (0 : Int))) * (65536 : Int))))) + (IntKind.wrap (IntKind.u32) ((IntKind.wrap (IntKind.u32) (List.getD b_2 (Int.toNat v_16) (0 : Int))) * (256 : Int))))) + (IntKind.wrap (IntKind.u32) (List.getD b_2 (Int.toNat v_17) (0 : Int)))))), ((IntKind.wrap (IntKind.i64) (i_7 + (1 : Int))), ()))))))) none) none) none) none) none) (brR (inR v_9 (64 : Nat)) (brR (inR v_10 (64 : Nat)) (brR (inR v_11 (64 : Nat)) (Option.bind (c_ref7_right (v_13, ((7 : Int), ()))) (fun (y_18 : ((Int × Unit) × (Unit × (Unit × Unit)))) => (Option.bind (c_ref7_right (v_13, ((18 : Int), ()))) (fun (y_19 : ((Int × Unit) × (Unit × (Unit × Unit)))) => (brR (inR v_12 (64 : Nat)) (Option.bind (c_ref7_right (v_14, ((17 : Int), ()))) (fun (y_20 : ((Int × Unit) × (Unit × (Unit × Unit)))) => (Option.bind (c_ref7_right (v_14, ((19 : Int), ()))) (fun (y_21 : ((Int × Unit) × (Unit × (Unit × Unit)))) => (brR (inR i_7 (64 : Nat)) (again_1 (b_2, (h_3, (t4_4, (k_5, ((List.set w_6 (Int.toNat i_7) (IntKind.wrap (IntKind.u32) ((IntKind.wrap (IntKind.u32) ((IntKind.wrap (IntKind.u32) ((List.getD w_6 (Int.toNat v_11) (0 : Int)) + (IntKind.wrap (IntKind.u32) (((BitVec.toNat ((BitVec.ofInt (32 : Nat) (IntKind.wrap (IntKind.u32) (((BitVec.toNat ((BitVec.ofInt (32 : Nat) y_18.1.1) ^^^ (BitVec.ofInt (32 : Nat) y_19.1.1))) : Nat) : Int))) ^^^ (BitVec.ofInt (32 : Nat) (Int.fdiv v_13 (8 : Int))))) : Nat) : Int)))) + (List.getD w_6 (Int.toNat v_12) (0 : Int)))) + (IntKind.wrap (IntKind.u32) (((BitVec.toNat ((BitVec.ofInt (32 : Nat) (IntKind.wrap (IntKind.u32) (((BitVec.toNat ((BitVec.ofInt (32 : Nat) y_20.1.1) ^^^ (BitVec.ofInt (32 : Nat) y_21.1.1))) : Nat) : Int))) ^^^ (BitVec.ofInt (32 : Nat) (Int.fdiv v_14 (1024 : Int))))) : Nat) : Int))))), ((IntKind.wrap (IntKind.i64) (i_7 + (1 : Int))), ()))))))) none))))) none))))) none) none) none)) (L _ _ (fun again x => T_ref7_block_loop1 L c_ref7_right again x.1 x.2.1 x.2.2.1 x.2.2.2.1 x.2.2.2.2.1 x.2.2.2.2.2.1) (h_3, (t4_4, (k_5, (w_6, (h_3, ((0 : Int), ()))))))))))))))))))
noncomputable def T_ref7_block (L : LoopD) (c_ref7_words : F_ref7_words) (c_ref7_right : F_ref7_right) (h_ : (List Int)) (b_ : (List Int)) : Option (((List Int) × Unit) × (Unit × (Unit × Unit))) := (Option.bind (c_ref7_words ()) (fun (y_0 : (((List Int) × Unit) × Unit)) => (L _ _ (fun again x => T_ref7_block_loop0 L c_ref7_right again x.1 x.2.1 x.2.2.1 x.2.2.2.1 x.2.2.2.2.1 x.2.2.2.2.2.1) (b_, (h_, ([(0 : Int), (0 : Int), (0 : Int), (0 : Int), (0 : Int), (0 : Int), (0 : Int), (0 : Int)], (y_0.1.1, ((List.replicate (64 : Nat) (0 : Int)), ((0 : Int), ())))))))))
noncomputable def sol_ref7_block : F_ref7_block := fun x => T_ref7_block bigLoop sol_ref7_words sol_ref7_right x.1 x.2.1
abbrev s_ref7_Sum : Sig := ⟨[(.ro false (.slice (.int .u8)))], [(.ro true (.arr 32 (.int .u8)))]⟩
abbrev F_ref7_Sum := ((List Int) × Unit) → Option (((List Int) × Unit) × (Unit × Unit))
noncomputable def T_ref7_Sum_loop3 (again_17 : ((List Int) × ((List Int) × ((List Int) × (Int × Unit)))) → Option (((List Int) × Unit) × (Unit × Unit))) (t2_18 : (List Int)) (h_19 : (List Int)) (out_20 : (List Int)) (i_21 : Int) : Option (((List Int) × Unit) × (Unit × Unit)) := (letR (IntKind.wrap (IntKind.u64) (IntKind.wrap (IntKind.i64) ((24 : Int) - (IntKind.wrap (IntKind.i64) ((8 : Int) * (Int.tmod i_21 (4 : Int))))))) fun (v_22 : Int) => (brR (decide (i_21 < (32 : Int))) (brR (inR (IntKind.wrap (IntKind.i64) (Int.tdiv i_21 (4 : Int))) (8 : Nat)) (brR (decide ((0 : Int) ≤ v_22)) (brR (inR i_21 (32 : Nat)) (again_17 (t2_18, (h_19, ((List.set out_20 (Int.toNat i_21) (IntKind.wrap (IntKind.u8) (Int.fdiv (List.getD h_19 (Int.toNat (IntKind.wrap (IntKind.i64) (Int.tdiv i_21 (4 : Int)))) (0 : Int)) ((2 : Int) ^ (min (Int.toNat v_22) (32 : Nat)))))), ((IntKind.wrap (IntKind.i64) (i_21 + (1 : Int))), ()))))) none) none) none) (some ((out_20, ()), ((), ())))))
noncomputable def T_ref7_Sum_loop2 (L : LoopD) (c_ref7_block : F_ref7_block) (again_10 : ((List Int) × ((List Int) × ((List Int) × (Int × Unit)))) → Option (((List Int) × Unit) × (Unit × Unit))) (t2_11 : (List Int)) (m_12 : (List Int)) (h_13 : (List Int)) (i_14 : Int) : Option (((List Int) × Unit) × (Unit × Unit)) := (letR (IntKind.wrap (IntKind.i64) (i_14 + (64 : Int))) fun (v_15 : Int) => (brR (decide (i_14 < (((List.length m_12) : Nat) : Int))) (brR (((decide ((0 : Int) ≤ i_14)) && (decide (i_14 ≤ v_15))) && (decide (v_15 ≤ (((List.length m_12) : Nat) : Int)))) (Option.bind (c_ref7_block (h_13, ((List.take ((Int.toNat v_15) - (Int.toNat i_14)) (List.drop (Int.toNat i_14) m_12)), ()))) (fun (y_16 : (((List Int) × Unit) × (Unit × (Unit × Unit)))) => (again_10 (t2_11, (m_12, (y_16.1.1, (v_15, ()))))))) none) (L _ _ (fun again x => T_ref7_Sum_loop3 again x.1 x.2.1 x.2.2.1 x.2.2.2.1) (t2_11, (h_13, ((List.replicate (32 : Nat) (0 : Int)), ((0 : Int), ())))))))
noncomputable def T_ref7_Sum_loop1 (L : LoopD) (c_ref7_block : F_ref7_block) (again_4 : ((List Int) × ((List Int) × (Int × (Int × Unit)))) → Option (((List Int) × Unit) × (Unit × Unit))) (t2_5 : (List Int)) (m_6 : (List Int)) (n_7 : Int) (i_8 : Int) : Option (((List Int) × Unit) × (Unit × Unit)) := (letR (IntKind.wrap (IntKind.u64) (IntKind.wrap (IntKind.i64) ((8 : Int) * i_8))) fun (v_9 : Int) => (brR (decide (i_8 ≥ (0 : Int))) (brR (decide ((0 : Int) ≤ v_9)) (brR (roomy ((List.length m_6) + (1 : Nat)) (Ty.int IntKind.u8)) (again_4 (t2_5, ((List.append m_6 [(IntKind.wrap (IntKind.u8) (Int.fdiv n_7 ((2 : Int) ^ (min (Int.toNat v_9) (64 : Nat)))))]), (n_7, ((IntKind.wrap (IntKind.i64) (i_8 - (1 : Int))), ()))))) none) none) (L _ _ (fun again x => T_ref7_Sum_loop2 L c_ref7_block again x.1 x.2.1 x.2.2.1 x.2.2.2.1) (t2_5, (m_6, ([(1779033703 : Int), (3144134277 : Int), (1013904242 : Int), (2773480762 : Int), (1359893119 : Int), (2600822924 : Int), (528734635 : Int), (1541459225 : Int)], ((0 : Int), ())))))))
noncomputable def T_ref7_Sum_loop0 (L : LoopD) (c_ref7_block : F_ref7_block) (again_0 : ((List Int) × ((List Int) × ((List Int) × Unit))) → Option (((List Int) × Unit) × (Unit × Unit))) (b_1 : (List Int)) (t2_2 : (List Int)) (m_3 : (List Int)) : Option (((List Int) × Unit) × (Unit × Unit)) := (brR (!(decide ((Int.tmod (((List.length m_3) : Nat) : Int) (64 : Int)) = (56 : Int)))) (brR (roomy ((List.length m_3) + (1 : Nat)) (Ty.int IntKind.u8)) (again_0 (b_1, (t2_2, ((List.append m_3 [(0 : Int)]), ())))) none) (L _ _ (fun again x => T_ref7_Sum_loop1 L c_ref7_block again x.1 x.2.1 x.2.2.1 x.2.2.2.1) (t2_2, (m_3, ((IntKind.wrap (IntKind.u64) ((IntKind.wrap (IntKind.u64) (((List.length b_1) : Nat) : Int)) * (8 : Int))), ((7 : Int), ()))))))
noncomputable def T_ref7_Sum (L : LoopD) (c_ref7_block : F_ref7_block) (b_ : (List Int)) : Option (((List Int) × Unit) × (Unit × Unit)) := (brR (roomy ((0 : Nat) + (List.length b_)) (Ty.int IntKind.u8)) (brR (roomy ((List.length b_) + (1 : Nat)) (Ty.int IntKind.u8)) (L _ _ (fun again x => T_ref7_Sum_loop0 L c_ref7_block again x.1 x.2.1 x.2.2.1) (b_, ((List.replicate (32 : Nat) (0 : Int)), ((List.append b_ [(128 : Int)]), ())))) none) none)
noncomputable def sol_ref7_Sum : F_ref7_Sum := fun x => T_ref7_Sum bigLoop sol_ref7_block x.1
abbrev s_ref7_Leaf : Sig := ⟨[(.ro false (.slice (.int .u8)))], [(.ro true (.arr 32 (.int .u8)))]⟩
abbrev F_ref7_Leaf := ((List Int) × Unit) → Option (((List Int) × Unit) × (Unit × Unit))
noncomputable def T_ref7_Leaf (L : LoopD) (c_ref7_Sum : F_ref7_Sum) (b_ : (List Int)) : Option (((List Int) × Unit) × (Unit × Unit)) := (brR (roomy ((1 : Nat) + (List.length b_)) (Ty.int IntKind.u8)) (Option.bind (c_ref7_Sum ((List.append [(0 : Int)] b_), ())) (fun (y_0 : (((List Int) × Unit) × (Unit × Unit))) => (some ((y_0.1.1, ()), ((), ()))))) none)
noncomputable def sol_ref7_Leaf : F_ref7_Leaf := fun x => T_ref7_Leaf bigLoop sol_ref7_Sum x.1
abbrev s_ref7_Node : Sig := ⟨[(.ro true (.arr 32 (.int .u8))), (.ro true (.arr 32 (.int .u8)))], [(.ro true (.arr 32 (.int .u8)))]⟩
abbrev F_ref7_Node := ((List Int) × ((List Int) × Unit)) → Option (((List Int) × Unit) × (Unit × (Unit × Unit)))
noncomputable def T_ref7_Node (L : LoopD) (c_ref7_Sum : F_ref7_Sum) (x_ : (List Int)) (y_ : (List Int)) : Option (((List Int) × Unit) × (Unit × (Unit × Unit))) := (letR (List.take ((32 : Nat) - (0 : Nat)) (List.drop (0 : Nat) x_)) fun (v_0 : (List Int)) => (letR (List.take ((32 : Nat) - (0 : Nat)) (List.drop (0 : Nat) y_)) fun (v_1 : (List Int)) => (letR (List.append [(1 : Int)] v_0) fun (v_2 : (List Int)) => (brR (roomy ((1 : Nat) + (List.length v_0)) (Ty.int IntKind.u8)) (brR (roomy ((List.length v_2) + (List.length v_1)) (Ty.int IntKind.u8)) (Option.bind (c_ref7_Sum ((List.append v_2 v_1), ())) (fun (y_3 : (((List Int) × Unit) × (Unit × Unit))) => (some ((y_3.1.1, ()), ((), ((), ())))))) none) none))))
noncomputable def sol_ref7_Node : F_ref7_Node := fun x => T_ref7_Node bigLoop sol_ref7_Sum x.1 x.2.1
end Go.Pon
set_option autoImplicit false
set_option linter.unusedVariables false
set_option maxRecDepth 100000
namespace Go.Pon
open Go
abbrev s_ref8_SplitPoint : Sig := ⟨[(.ro true (.int .i64))], [(.ro true (.int .i64))]⟩
abbrev F_ref8_SplitPoint := (Int × Unit) → Option ((Int × Unit) × (Unit × Unit))
noncomputable def T_ref8_SplitPoint_loop0 (again_0 : (Int × (Int × Unit)) → Option ((Int × Unit) × (Unit × Unit))) (n_1 : Int) (k_2 : Int) : Option ((Int × Unit) × (Unit × Unit)) := (brR (decide (k_2 < (IntKind.wrap (IntKind.i64) (n_1 - k_2)))) (again_0 (n_1, ((IntKind.wrap (IntKind.i64) ((2 : Int) * k_2)), ()))) (some ((k_2, ()), ((), ()))))
noncomputable def T_ref8_SplitPoint (L : LoopD) (n_ : Int) : Option ((Int × Unit) × (Unit × Unit)) := (L _ _ (fun again x => T_ref8_SplitPoint_loop0 again x.1 x.2.1) (n_, ((1 : Int), ())))
noncomputable def sol_ref8_SplitPoint : F_ref8_SplitPoint := fun x => T_ref8_SplitPoint bigLoop x.1
abbrev s_ref8_RootOf : Sig := ⟨[(.ro false (.slice (.arr 32 (.int .u8))))], [(.ro true (.arr 32 (.int .u8)))]⟩
abbrev F_ref8_RootOf := ((List (List Int)) × Unit) → Option (((List Int) × Unit) × (Unit × Unit))
noncomputable def T_ref8_RootOf (L : LoopD) (c_ref7_Sum : F_ref7_Sum) (c_ref8_SplitPoint : F_ref8_SplitPoint) (c_ref8_RootOf : F_ref8_RootOf) (c_ref7_Node : F_ref7_Node) (l_ : (List (List Int))) : Option (((List Int) × Unit) × (Unit × Unit)) := (letR (((List.length l_) : Nat) : Int) fun (v_0 : Int) => (brR (decide (v_0 = (0 : Int))) (Option.bind (c_ref7_Sum (([] : List Int), ())) (fun (y_1 : (((List Int) × Unit) × (Unit × Unit))) => (some ((y_1.1.1, ()), ((), ()))))) (brR (decide (v_0 = (1 : Int))) (brR (inR (0 : Int) (List.length l_)) (some (((List.getD l_ (0 : Nat) (List.replicate (32 : Nat) (0 : Int))), ()), ((), ()))) none) (Option.bind (c_ref8_SplitPoint (v_0, ())) (fun (y_2 : ((Int × Unit) × (Unit × Unit))) => (brR ((decide ((0 : Int) ≤ y_2.1.1)) && (decide (y_2.1.1 ≤ v_0))) (Option.bind (c_ref8_RootOf ((List.take ((Int.toNat y_2.1.1) - (0 : Nat)) (List.drop (0 : Nat) l_)), ())) (fun (y_3 : (((List Int) × Unit) × (Unit × Unit))) => (brR ((decide ((0 : Int) ≤ y_2.1.1)) && (decide (y_2.1.1 ≤ v_0))) (Option.bind (c_ref8_RootOf ((List.take ((List.length l_) - (Int.toNat y_2.1.1)) (List.drop (Int.toNat y_2.1.1) l_)), ())) (fun (y_4 : (((List Int) × Unit) × (Unit × Unit))) => (Option.bind (c_ref7_Node (y_3.1.1, (y_4.1.1, ()))) (fun (y_5 : (((List Int) × Unit) × (Unit × (Unit × Unit)))) => (some ((y_5.1.1, ()), ((), ()))))))) none))) none))))))
noncomputable def solN_ref8_RootOf : Nat → F_ref8_RootOf | 0 => fun _ => none | n + 1 => fun x => T_ref8_RootOf bigLoop sol_ref7_Sum sol_ref8_SplitPoint (solN_ref8_RootOf n) sol_ref7_Node x.1
noncomputable def sol_ref8_RootOf : F_ref8_RootOf := solN_ref8_RootOf bigF
abbrev s_ref8_Proof : Sig := ⟨[(.ro false (.slice (.arr 32 (.int .u8)))), (.ro true (.int .i64))], [(.own true (.arr 32 (.int .u8)))]⟩
abbrev F_ref8_Proof := ((List (List Int)) × (Int × Unit)) → Option (((List (List Int)) × Unit) × (Unit × (Unit × Unit)))
noncomputable def T_ref8_Proof (L : LoopD) (c_ref8_SplitPoint : F_ref8_SplitPoint) (c_ref8_Proof : F_ref8_Proof) (c_ref8_RootOf : F_ref8_RootOf) (l_ : (List (List Int))) (i_ : Int) : Option (((List (List Int)) × Unit) × (Unit × (Unit × Unit))) := (letR (((List.length l_) : Nat) : Int) fun (v_0 : Int) => (letR (List.drop (0 : Nat) l_) fun (v_1 : (List (List Int))) => (brR (decide (v_0 < (2 : Int))) (some ((([] : List (List Int)), ()), ((), ((), ())))) (Option.bind (c_ref8_SplitPoint (v_0, ())) (fun (y_2 : ((Int × Unit) × (Unit × Unit))) => (letR (List.take ((Int.toNat y_2.1.1) - (0 : Nat)) v_1) fun (v_3 : (List (List Int))) => (letR (List.take ((List.length l_) - (Int.toNat y_2.1.1)) (List.drop (Int.toNat y_2.1.1) l_)) fun (v_4 : (List (List Int))) => (brR (decide (i_ < y_2.1.1)) (brR ((decide ((0 : Int) ≤ y_2.1.1)) && (decide (y_2.1.1 ≤ v_0))) (Option.bind (c_ref8_Proof (v_3, (i_, ()))) (fun (y_5 : (((List (List Int)) × Unit) × (Unit × (Unit × Unit)))) => (brR ((decide ((0 : Int) ≤ y_2.1.1)) && (decide (y_2.1.1 ≤ v_0))) (Option.bind (c_ref8_RootOf (v_4, ())) (fun (y_6 : (((List Int) × Unit) × (Unit × Unit))) => (brR (roomy ((List.length y_5.1.1) + (1 : Nat)) (Ty.arr 32 (Ty.int IntKind.u8))) (some (((List.append y_5.1.1 [y_6.1.1]), ()), ((), ((), ())))) none))) none))) none) (brR ((decide ((0 : Int) ≤ y_2.1.1)) && (decide (y_2.1.1 ≤ v_0))) (Option.bind (c_ref8_Proof (v_4, ((IntKind.wrap (IntKind.i64) (i_ - y_2.1.1)), ()))) (fun (y_7 : (((List (List Int)) × Unit) × (Unit × (Unit × Unit)))) => (brR ((decide ((0 : Int) ≤ y_2.1.1)) && (decide (y_2.1.1 ≤ v_0))) (Option.bind (c_ref8_RootOf (v_3, ())) (fun (y_8 : (((List Int) × Unit) × (Unit × Unit))) => (brR (roomy ((List.length y_7.1.1) + (1 : Nat)) (Ty.arr 32 (Ty.int IntKind.u8))) (some (((List.append y_7.1.1 [y_8.1.1]), ()), ((), ((), ())))) none))) none))) none)))))))))
noncomputable def solN_ref8_Proof : Nat → F_ref8_Proof | 0 => fun _ => none | n + 1 => fun x => T_ref8_Proof bigLoop sol_ref8_SplitPoint (solN_ref8_Proof n) sol_ref8_RootOf x.1 x.2.1
noncomputable def sol_ref8_Proof : F_ref8_Proof := solN_ref8_Proof bigF
end Go.Pon
set_option autoImplicit false
set_option linter.unusedVariables false
set_option maxRecDepth 100000
namespace Go.Pon
open Go
abbrev s_ref24_Encode : Sig := ⟨[(.ro true (.pair (.int .u64) (.pair (.int .u64) (.pair (.arr 4 (.int .u64)) .unit))))], [(.own true (.int .u8))]⟩
abbrev F_ref24_Encode := ((Int × (Int × ((List Int) × Unit))) × Unit) → Option (((List Int) × Unit) × (Unit × Unit))
noncomputable def T_ref24_Encode (L : LoopD) (c_ref6_AppendUint64 : F_ref6_AppendUint64) (c_ref6_AppendUint256 : F_ref6_AppendUint256) (m_ : (Int × (Int × ((List Int) × Unit)))) : Option (((List Int) × Unit) × (Unit × Unit)) := (Option.bind (c_ref6_AppendUint64 (([] : List Int), (m_.1, ()))) (fun (y_0 : (((List Int) × Unit) × (Unit × (Unit × Unit)))) => (Option.bind (c_ref6_AppendUint64 (y_0.1.1, (m_.2.1, ()))) (fun (y_1 : (((List Int) × Unit) × (Unit × (Unit × Unit)))) => (Option.bind (c_ref6_AppendUint256 (y_1.1.1, (m_.2.2.1, ()))) (fun (y_2 : (((List Int) × Unit) × (Unit × (Unit × Unit)))) => (some ((y_2.1.1, ()), ((), ())))))))))
noncomputable def sol_ref24_Encode : F_ref24_Encode := fun x => T_ref24_Encode bigLoop sol_ref6_AppendUint64 sol_ref6_AppendUint256 x.1
abbrev s_ref24_Leaf : Sig := ⟨[(.ro true (.pair (.int .u64) (.pair (.int .u64) (.pair (.arr 4 (.int .u64)) .unit))))], [(.ro true (.arr 32 (.int .u8)))]⟩
abbrev F_ref24_Leaf := ((Int × (Int × ((List Int) × Unit))) × Unit) → Option (((List Int) × Unit) × (Unit × Unit))
noncomputable def T_ref24_Leaf (L : LoopD) (c_ref24_Encode : F_ref24_Encode) (c_ref7_Leaf : F_ref7_Leaf) (m_ : (Int × (Int × ((List Int) × Unit)))) : Option (((List Int) × Unit) × (Unit × Unit)) := (Option.bind (c_ref24_Encode (m_, ())) (fun (y_0 : (((List Int) × Unit) × (Unit × Unit))) => (Option.bind (c_ref7_Leaf (y_0.1.1, ())) (fun (y_1 : (((List Int) × Unit) × (Unit × Unit))) => (some ((y_1.1.1, ()), ((), ())))))))
noncomputable def sol_ref24_Leaf : F_ref24_Leaf := fun x => T_ref24_Leaf bigLoop sol_ref24_Encode sol_ref7_Leaf x.1
abbrev s_ref24_Leaves : Sig := ⟨[(.ro false (.slice (.pair (.int .u64) (.pair (.int .u64) (.pair (.arr 4 (.int .u64)) .unit))))), (.ro true (.int .i64))], [(.own true (.arr 32 (.int .u8)))]⟩
abbrev F_ref24_Leaves := ((List (Int × (Int × ((List Int) × Unit)))) × (Int × Unit)) → Option (((List (List Int)) × Unit) × (Unit × (Unit × Unit)))
noncomputable def T_ref24_Leaves_loop0 (c_ref24_Leaf : F_ref24_Leaf) (again_0 : ((List (Int × (Int × ((List Int) × Unit)))) × (Int × ((List (List Int)) × (Int × Unit)))) → Option (((List (List Int)) × Unit) × (Unit × (Unit × Unit)))) (l_1 : (List (Int × (Int × ((List Int) × Unit))))) (n_2 : Int) (out_3 : (List (List Int))) (i_4 : Int) : Option (((List (List Int)) × Unit) × (Unit × (Unit × Unit))) := (brR (decide (i_4 < n_2)) (brR (inR i_4 (List.length l_1)) (Option.bind (c_ref24_Leaf ((List.getD l_1 (Int.toNat i_4) ((0 : Int), ((0 : Int), ([(0 : Int), (0 : Int), (0 : Int), (0 : Int)], ())))), ())) (fun (y_5 : (((List Int) × Unit) × (Unit × Unit))) => (brR (roomy ((List.length out_3) + (1 : Nat)) (Ty.arr 32 (Ty.int IntKind.u8))) (again_0 (l_1, (n_2, ((List.append out_3 [y_5.1.1]), ((IntKind.wrap (IntKind.i64) (i_4 + (1 : Int))), ()))))) none))) none) (some ((out_3, ()), ((), ((), ())))))
noncomputable def T_ref24_Leaves (L : LoopD) (c_ref24_Leaf : F_ref24_Leaf) (l_ : (List (Int × (Int × ((List Int) × Unit))))) (n_ : Int) : Option (((List (List Int)) × Unit) × (Unit × (Unit × Unit))) := (L _ _ (fun again x => T_ref24_Leaves_loop0 c_ref24_Leaf again x.1 x.2.1 x.2.2.1 x.2.2.2.1) (l_, (n_, (([] : List (List Int)), ((0 : Int), ())))))
noncomputable def sol_ref24_Leaves : F_ref24_Leaves := fun x => T_ref24_Leaves bigLoop sol_ref24_Leaf x.1 x.2.1
abbrev s_ref24_Root : Sig := ⟨[(.ro false (.slice (.pair (.int .u64) (.pair (.int .u64) (.pair (.arr 4 (.int .u64)) .unit))))), (.ro true (.int .i64))], [(.ro true (.arr 32 (.int .u8))), (.ro true .bool)]⟩
abbrev F_ref24_Root := ((List (Int × (Int × ((List Int) × Unit)))) × (Int × Unit)) → Option (((List Int) × (Bool × Unit)) × (Unit × (Unit × Unit)))
noncomputable def T_ref24_Root (L : LoopD) (c_ref24_Leaves : F_ref24_Leaves) (c_ref8_RootOf : F_ref8_RootOf) (l_ : (List (Int × (Int × ((List Int) × Unit))))) (n_ : Int) : Option (((List Int) × (Bool × Unit)) × (Unit × (Unit × Unit))) := (brR (decide (n_ < (0 : Int))) (some (((List.replicate (32 : Nat) (0 : Int)), (false, ())), ((), ((), ())))) (brR (decide (n_ > (((List.length l_) : Nat) : Int))) (some (((List.replicate (32 : Nat) (0 : Int)), (false, ())), ((), ((), ())))) (Option.bind (c_ref24_Leaves (l_, (n_, ()))) (fun (y_0 : (((List (List Int)) × Unit) × (Unit × (Unit × Unit)))) => (Option.bind (c_ref8_RootOf (y_0.1.1, ())) (fun (y_1 : (((List Int) × Unit) × (Unit × Unit))) => (some ((y_1.1.1, (true, ())), ((), ((), ()))))))))))
noncomputable def sol_ref24_Root : F_ref24_Root := fun x => T_ref24_Root bigLoop sol_ref24_Leaves sol_ref8_RootOf x.1 x.2.1
abbrev s_ref24_Proof : Sig := ⟨[(.ro false (.slice (.pair (.int .u64) (.pair (.int .u64) (.pair (.arr 4 (.int .u64)) .unit))))), (.ro true (.int .i64)), (.ro true (.int .i64))], [(.own true (.arr 32 (.int .u8))), (.ro true .bool)]⟩
abbrev F_ref24_Proof := ((List (Int × (Int × ((List Int) × Unit)))) × (Int × (Int × Unit))) → Option (((List (List Int)) × (Bool × Unit)) × (Unit × (Unit × (Unit × Unit))))
noncomputable def T_ref24_Proof (L : LoopD) (c_ref24_Leaves : F_ref24_Leaves) (c_ref8_Proof : F_ref8_Proof) (l_ : (List (Int × (Int × ((List Int) × Unit))))) (i_ : Int) (n_ : Int) : Option (((List (List Int)) × (Bool × Unit)) × (Unit × (Unit × (Unit × Unit)))) := (brR (decide (i_ < (0 : Int))) (some ((([] : List (List Int)), (false, ())), ((), ((), ((), ()))))) (brR (decide (i_ ≥ n_)) (some ((([] : List (List Int)), (false, ())), ((), ((), ((), ()))))) (brR (decide (n_ > (((List.length l_) : Nat) : Int))) (some ((([] : List (List Int)), (false, ())), ((), ((), ((), ()))))) (Option.bind (c_ref24_Leaves (l_, (n_, ()))) (fun (y_0 : (((List (List Int)) × Unit) × (Unit × (Unit × Unit)))) => (Option.bind (c_ref8_Proof (y_0.1.1, (i_, ()))) (fun (y_1 : (((List (List Int)) × Unit) × (Unit × (Unit × Unit)))) => (some ((y_1.1.1, (true, ())), ((), ((), ((), ()))))))))))))
noncomputable def sol_ref24_Proof : F_ref24_Proof := fun x => T_ref24_Proof bigLoop sol_ref24_Leaves sol_ref8_Proof x.1 x.2.1 x.2.2.1
end Go.Pon
set_option autoImplicit false
set_option linter.unusedVariables false
set_option maxRecDepth 100000
namespace Go.Pon
open Go
abbrev s_law24_ValidMessages : Sig := ⟨[(.ro false (.slice (.pair (.int .u64) (.pair (.arr 4 (.int .u64)) (.pair .bool .unit)))))], [(.own true (.pair (.int .u64) (.pair (.int .u64) (.pair (.arr 4 (.int .u64)) .unit))))]⟩
abbrev F_law24_ValidMessages := ((List (Int × ((List Int) × (Bool × Unit)))) × Unit) → Option (((List (Int × (Int × ((List Int) × Unit)))) × Unit) × (Unit × Unit))
noncomputable def T_law24_ValidMessages_loop0 (again_0 : ((List (Int × ((List Int) × (Bool × Unit)))) × ((List (Int × (Int × ((List Int) × Unit)))) × (Int × Unit))) → Option (((List (Int × (Int × ((List Int) × Unit)))) × Unit) × (Unit × Unit))) (l_1 : (List (Int × ((List Int) × (Bool × Unit))))) (out_2 : (List (Int × (Int × ((List Int) × Unit))))) (i_3 : Int) : Option (((List (Int × (Int × ((List Int) × Unit)))) × Unit) × (Unit × Unit)) := (letR (List.length l_1) fun (v_4 : Nat) => (brR (decide (i_3 < ((v_4 : Nat) : Int))) (brR (inR i_3 v_4) (brR (inR i_3 v_4) (brR (inR i_3 v_4) (brR (roomy ((List.length out_2) + (1 : Nat)) ((Ty.int IntKind.u64).pair ((Ty.int IntKind.u64).pair ((Ty.arr 4 (Ty.int IntKind.u64)).pair Ty.unit)))) (again_0 (l_1, ((List.append out_2 [((IntKind.wrap (IntKind.u64) i_3), ((IntKind.wrap (IntKind.u64) ((1 : Int) + (Int.tmod (List.getD l_1 (Int.toNat i_3) (Ty.zero ((Ty.int IntKind.u64).pair ((Ty.arr 4 (Ty.int IntKind.u64)).pair (Ty.bool.pair Ty.unit))))).1 (6 : Int)))), ([(IntKind.wrap (IntKind.u64) ((1 : Int) + (Int.tmod (List.getD (List.getD l_1 (Int.toNat i_3) (Ty.zero ((Ty.int IntKind.u64).pair ((Ty.arr 4 (Ty.int IntKind.u64)).pair (Ty.bool.pair Ty.unit))))).2.1 (0 : Nat) (0 : Int)) (1000 : Int)))), (0 : Int), (Int.tmod (List.getD (List.getD l_1 (Int.toNat i_3) (Ty.zero ((Ty.int IntKind.u64).pair ((Ty.arr 4 (Ty.int IntKind.u64)).pair (Ty.bool.pair Ty.unit))))).2.1 (1 : Nat) (0 : Int)) (2 : Int)), (0 : Int)], ())))]), ((IntKind.wrap (IntKind.i64) (i_3 + (1 : Int))), ())))) none) none) none) none) (some ((out_2, ()), ((), ())))))
noncomputable def T_law24_ValidMessages (L : LoopD) (l_ : (List (Int × ((List Int) × (Bool × Unit))))) : Option (((List (Int × (Int × ((List Int) × Unit)))) × Unit) × (Unit × Unit)) := (L _ _ (fun again x => T_law24_ValidMessages_loop0 again x.1 x.2.1 x.2.2.1) (l_, (([] : List (Int × (Int × ((List Int) × Unit)))), ((0 : Int), ()))))
noncomputable def sol_law24_ValidMessages : F_law24_ValidMessages := fun x => T_law24_ValidMessages bigLoop x.1
end Go.Pon
set_option autoImplicit false
set_option linter.unusedVariables false
set_option maxRecDepth 100000
namespace Go.Pon
open Go
abbrev s_law25_awake : Sig := ⟨[], [(.ro true .bool)]⟩
abbrev F_law25_awake := Unit → Option ((Bool × Unit) × Unit)
noncomputable def T_law25_awake (L : LoopD) (c_escrow_New : F_escrow_New) (c_escrow_Escrow_Deposit : F_escrow_Escrow_Deposit) (c_ref24_Leaf : F_ref24_Leaf) (c_escrow_Escrow_AppendRoot : F_escrow_Escrow_AppendRoot) (c_escrow_Escrow_Claim : F_escrow_Escrow_Claim) (c_escrow_Escrow_Balance : F_escrow_Escrow_Balance) (c_escrow_Escrow_L1Balance : F_escrow_Escrow_L1Balance) : Option ((Bool × Unit) × Unit) := (Option.bind (c_escrow_New ()) (fun (y_0 : ((((List (List Int)) × ((List Bool) × ((List Int) × ((List (Int × ((List Int) × Unit))) × Unit)))) × Unit) × Unit)) => (Option.bind (c_escrow_Escrow_Deposit ((some (y_0.1.1.1, (y_0.1.1.2.1, (y_0.1.1.2.2.1, (y_0.1.1.2.2.2.1, y_0.1.1.2.2.2.2))))), ([(50 : Int), (0 : Int), (0 : Int), (0 : Int)], ()))) (fun (y_1 : ((Int × Unit) × ((Option ((List (List Int)) × ((List Bool) × ((List Int) × ((List (Int × ((List Int) × Unit))) × Unit))))) × (Unit × Unit)))) => (optR y_1.2.1 none (fun (y_2 : ((List (List Int)) × ((List Bool) × ((List Int) × ((List (Int × ((List Int) × Unit))) × Unit))))) => (Option.bind (c_ref24_Leaf (((0 : Int), ((7 : Int), ([(20 : Int), (0 : Int), (0 : Int), (0 : Int)], ()))), ())) (fun (y_3 : (((List Int) × Unit) × (Unit × Unit))) => (Option.bind (c_escrow_Escrow_AppendRoot ((some (y_2.1, (y_2.2.1, (y_2.2.2.1, (y_2.2.2.2.1, y_2.2.2.2.2))))), (y_3.1.1, ()))) (fun (y_4 : ((Int × Unit) × ((Option ((List (List Int)) × ((List Bool) × ((List Int) × ((List (Int × ((List Int) × Unit))) × Unit))))) × (Unit × Unit)))) => (optR y_4.2.1 none (fun (y_5 : ((List (List Int)) × ((List Bool) × ((List Int) × ((List (Int × ((List Int) × Unit))) × Unit))))) => (Option.bind (c_escrow_Escrow_Claim ((some (y_5.1, (y_5.2.1, (y_5.2.2.1, (y_5.2.2.2.1, y_5.2.2.2.2))))), (((0 : Int), ((1 : Int), ((7 : Int), ([(21 : Int), (0 : Int), (0 : Int), (0 : Int)], (([] : List (List Int)), ()))))), ()))) (fun (y_6 : ((Int × Unit) × ((Option ((List (List Int)) × ((List Bool) × ((List Int) × ((List (Int × ((List Int) × Unit))) × Unit))))) × (Unit × Unit)))) => (optR y_6.2.1 none (fun (y_7 : ((List (List Int)) × ((List Bool) × ((List Int) × ((List (Int × ((List Int) × Unit))) × Unit))))) => (Option.bind (c_escrow_Escrow_Claim ((some (y_7.1, (y_7.2.1, (y_7.2.2.1, (y_7.2.2.2.1, y_7.2.2.2.2))))), (((0 : Int), ((1 : Int), ((7 : Int), ([(20 : Int), (0 : Int), (0 : Int), (0 : Int)], (([] : List (List Int)), ()))))), ()))) (fun (y_8 : ((Int × Unit) × ((Option ((List (List Int)) × ((List Bool) × ((List Int) × ((List (Int × ((List Int) × Unit))) × Unit))))) × (Unit × Unit)))) => (optR y_8.2.1 none (fun (y_9 : ((List (List Int)) × ((List Bool) × ((List Int) × ((List (Int × ((List Int) × Unit))) × Unit))))) => (Option.bind (c_escrow_Escrow_Claim ((some (y_9.1, (y_9.2.1, (y_9.2.2.1, (y_9.2.2.2.1, y_9.2.2.2.2))))), (((0 : Int), ((1 : Int), ((7 : Int), ([(20 : Int), (0 : Int), (0 : Int), (0 : Int)], (([] : List (List Int)), ()))))), ()))) (fun (y_10 : ((Int × Unit) × ((Option ((List (List Int)) × ((List Bool) × ((List Int) × ((List (Int × ((List Int) × Unit))) × Unit))))) × (Unit × Unit)))) => (optR y_10.2.1 none (fun (y_11 : ((List (List Int)) × ((List Bool) × ((List Int) × ((List (Int × ((List Int) × Unit))) × Unit))))) => (brR (decide (y_1.1.1 = (0 : Int))) (brR (decide (y_4.1.1 = (1 : Int))) (brR (decide (y_6.1.1 = (16 : Int))) (brR (decide (y_8.1.1 = (0 : Int))) (brR (decide (y_10.1.1 = (9 : Int))) (Option.bind (c_escrow_Escrow_Balance ((some (y_11.1, (y_11.2.1, (y_11.2.2.1, (y_11.2.2.2.1, y_11.2.2.2.2))))), ())) (fun (y_12 : (((List Int) × Unit) × ((Option ((List (List Int)) × ((List Bool) × ((List Int) × ((List (Int × ((List Int) × Unit))) × Unit))))) × Unit))) => (optR y_12.2.1 none (fun (y_13 : ((List (List Int)) × ((List Bool) × ((List Int) × ((List (Int × ((List Int) × Unit))) × Unit))))) => (brR (eqD (Ty.arr 4 (Ty.int IntKind.u64)) y_12.1.1 [(30 : Int), (0 : Int), (0 : Int), (0 : Int)]) (Option.bind (c_escrow_Escrow_L1Balance ((some (y_13.1, (y_13.2.1, (y_13.2.2.1, (y_13.2.2.2.1, y_13.2.2.2.2))))), ((7 : Int), ()))) (fun (y_14 : (((List Int) × Unit) × ((Option ((List (List Int)) × ((List Bool) × ((List Int) × ((List (Int × ((List Int) × Unit))) × Unit))))) × (Unit × Unit)))) => (optR y_14.2.1 none (fun (y_15 : ((List (List Int)) × ((List Bool) × ((List Int) × ((List (Int × ((List Int) × Unit))) × Unit))))) => (some (((eqD (Ty.arr 4 (Ty.int IntKind.u64)) y_14.1.1 [(20 : Int), (0 : Int), (0 : Int), (0 : Int)]), ()), ())))))) (some ((false, ()), ()))))))) (some ((false, ()), ()))) (some ((false, ()), ()))) (some ((false, ()), ()))) (some ((false, ()), ()))) (some ((false, ()), ())))))))))))))))))))))))))))
noncomputable def sol_law25_awake : F_law25_awake := fun x => T_law25_awake bigLoop sol_escrow_New sol_escrow_Escrow_Deposit sol_ref24_Leaf sol_escrow_Escrow_AppendRoot sol_escrow_Escrow_Claim sol_escrow_Escrow_Balance sol_escrow_Escrow_L1Balance
abbrev s_law25_EscrowClaimOnce : Sig := ⟨[(.ro false (.slice (.pair (.int .u64) (.pair (.arr 4 (.int .u64)) (.pair .bool .unit))))), (.ro false (.slice (.int .i64))), (.ro true (.int .i64))], [(.ro true .bool)]⟩
abbrev F_law25_EscrowClaimOnce := ((List (Int × ((List Int) × (Bool × Unit)))) × ((List Int) × (Int × Unit))) → Option ((Bool × Unit) × (Unit × (Unit × (Unit × Unit))))
noncomputable def T_law25_EscrowClaimOnce_join4 (again_27 : ((List Int) × (Int × ((List (Int × (Int × ((List Int) × Unit)))) × (((List (List Int)) × ((List Bool) × ((List Int) × ((List (Int × ((List Int) × Unit))) × Unit)))) × ((List Int) × ((List Int) × ((List Bool) × (Int × Unit)))))))) → Option ((Bool × Unit) × (Unit × (Unit × (Unit × Unit))))) (order_60 : (List Int)) (size_61 : Int) (m_62 : (List (Int × (Int × ((List Int) × Unit))))) (e_63 : ((List (List Int)) × ((List Bool) × ((List Int) × ((List (Int × ((List Int) × Unit))) × Unit))))) (all_64 : (List Int)) (out_65 : (List Int)) (done_66 : (List Bool)) (i_67 : Int) : Option ((Bool × Unit) × (Unit × (Unit × (Unit × Unit)))) := (again_27 (order_60, (size_61, (m_62, ((e_63.1, (e_63.2.1, (e_63.2.2.1, (e_63.2.2.2.1, e_63.2.2.2.2)))), (all_64, (out_65, (done_66, ((IntKind.wrap (IntKind.i64) (i_67 + (1 : Int))), ())))))))))
noncomputable def T_law25_EscrowClaimOnce_join5 (again_27 : ((List Int) × (Int × ((List (Int × (Int × ((List Int) × Unit)))) × (((List (List Int)) × ((List Bool) × ((List Int) × ((List (Int × ((List Int) × Unit))) × Unit)))) × ((List Int) × ((List Int) × ((List Bool) × (Int × Unit)))))))) → Option ((Bool × Unit) × (Unit × (Unit × (Unit × Unit))))) (order_78 : (List Int)) (size_79 : Int) (m_80 : (List (Int × (Int × ((List Int) × Unit))))) (e_81 : ((List (List Int)) × ((List Bool) × ((List Int) × ((List (Int × ((List Int) × Unit))) × Unit))))) (all_82 : (List Int)) (out_83 : (List Int)) (done_84 : (List Bool)) (i_85 : Int) (k_86 : Int) : Option ((Bool × Unit) × (Unit × (Unit × (Unit × Unit)))) := (brR (inR k_86 (List.length done_84)) (joinR (fun (x : ((List Int) × (Int × ((List (Int × (Int × ((List Int) × Unit)))) × (((List (List Int)) × ((List Bool) × ((List Int) × ((List (Int × ((List Int) × Unit))) × Unit)))) × ((List Int) × ((List Int) × ((List Bool) × (Int × Unit))))))))) => T_law25_EscrowClaimOnce_join4 again_27 x.1 x.2.1 x.2.2.1 x.2.2.2.1 x.2.2.2.2.1 x.2.2.2.2.2.1 x.2.2.2.2.2.2.1 x.2.2.2.2.2.2.2.1) (order_78, (size_79, (m_80, ((e_81.1, (e_81.2.1, (e_81.2.2.1, (e_81.2.2.2.1, e_81.2.2.2.2)))), (all_82, (out_83, ((List.set done_84 (Int.toNat k_86) true), (i_85, ()))))))))) none)
noncomputable def T_law25_EscrowClaimOnce_join3 (c_law0_Mod : F_law0_Mod) (c_ref24_Proof : F_ref24_Proof) (c_escrow_Escrow_L1Balance : F_escrow_Escrow_L1Balance) (c_escrow_Escrow_Claim : F_escrow_Escrow_Claim) (c_uint256_SaturatingAdd : F_uint256_SaturatingAdd) (c_escrow_Escrow_Claimed : F_escrow_Escrow_Claimed) (c_escrow_Escrow_Balance : F_escrow_Escrow_Balance) (again_27 : ((List Int) × (Int × ((List (Int × (Int × ((List Int) × Unit)))) × (((List (List Int)) × ((List Bool) × ((List Int) × ((List (Int × ((List Int) × Unit))) × Unit)))) × ((List Int) × ((List Int) × ((List Bool) × (Int × Unit)))))))) → Option ((Bool × Unit) × (Unit × (Unit × (Unit × Unit))))) (order_39 : (List Int)) (size_40 : Int) (m_41 : (List (Int × (Int × ((List Int) × Unit))))) (e_42 : ((List (List Int)) × ((List Bool) × ((List Int) × ((List (Int × ((List Int) × Unit))) × Unit))))) (all_43 : (List Int)) (out_44 : (List Int)) (done_45 : (List Bool)) (i_46 : Int) (k_47 : Int) : Option ((Bool × Unit) × (Unit × (Unit × (Unit × Unit)))) := (letR (IntKind.wrap (IntKind.i64) (k_47 + (1 : Int))) fun (v_48 : Int) => (letR (List.length m_41) fun (v_49 : Nat) => (Option.bind (c_law0_Mod (size_40, ((IntKind.wrap (IntKind.i64) (((v_49 : Nat) : Int) - k_47)), ()))) (fun (y_50 : ((Int × Unit) × (Unit × (Unit × Unit)))) => (letR (IntKind.wrap (IntKind.i64) (v_48 + y_50.1.1)) fun (v_51 : Int) => (Option.bind (c_ref24_Proof (m_41, (k_47, (v_51, ())))) (fun (y_52 : (((List (List Int)) × (Bool × Unit)) × (Unit × (Unit × (Unit × Unit))))) => (brR (inR k_47 v_49) (Option.bind (c_escrow_Escrow_L1Balance ((some (e_42.1, (e_42.2.1, (e_42.2.2.1, (e_42.2.2.2.1, e_42.2.2.2.2))))), ((List.getD m_41 (Int.toNat k_47) ((0 : Int), ((0 : Int), ([(0 : Int), (0 : Int), (0 : Int), (0 : Int)], ())))).2.1, ()))) (fun (y_53 : (((List Int) × Unit) × ((Option ((List (List Int)) × ((List Bool) × ((List Int) × ((List (Int × ((List Int) × Unit))) × Unit))))) × (Unit × Unit)))) => (optR y_53.2.1 none (fun (y_54 : ((List (List Int)) × ((List Bool) × ((List Int) × ((List (Int × ((List Int) × Unit))) × Unit))))) => (brR (inR k_47 v_49) (brR (inR k_47 v_49) (Option.bind (c_escrow_Escrow_Claim ((some (y_54.1, (y_54.2.1, (y_54.2.2.1, (y_54.2.2.2.1, y_54.2.2.2.2))))), (((IntKind.wrap (IntKind.u64) k_47), ((IntKind.wrap (IntKind.u64) v_51), ((List.getD m_41 (Int.toNat k_47) ((0 : Int), ((0 : Int), ([(0 : Int), (0 : Int), (0 : Int), (0 : Int)], ())))).2.1, ((List.getD m_41 (Int.toNat k_47) ((0 : Int), ((0 : Int), ([(0 : Int), (0 : Int), (0 : Int), (0 : Int)], ())))).2.2.1, (y_52.1.1, ()))))), ()))) (fun (y_55 : ((Int × Unit) × ((Option ((List (List Int)) × ((List Bool) × ((List Int) × ((List (Int × ((List Int) × Unit))) × Unit))))) × (Unit × Unit)))) => (optR y_55.2.1 none (fun (y_56 : ((List (List Int)) × ((List Bool) × ((List Int) × ((List (Int × ((List Int) × Unit))) × Unit))))) => (brR (inR k_47 (List.length done_45)) (brR (List.getD done_45 (Int.toNat k_47) false) (brR (!(decide (y_55.1.1 = (9 : Int)))) (some ((false, ()), ((), ((), ((), ()))))) (brR (inR k_47 v_49) (Option.bind (c_escrow_Escrow_L1Balance ((some (y_56.1, (y_56.2.1, (y_56.2.2.1, (y_56.2.2.2.1, y_56.2.2.2.2))))), ((List.getD m_41 (Int.toNat k_47) ((0 : Int), ((0 : Int), ([(0 : Int), (0 : Int), (0 : Int), (0 : Int)], ())))).2.1, ()))) (fun (y_57 : (((List Int) × Unit) × ((Option ((List (List Int)) × ((List Bool) × ((List Int) × ((List (Int × ((List Int) × Unit))) × Unit))))) × (Unit × Unit)))) => (optR y_57.2.1 none (fun (y_58 : ((List (List Int)) × ((List Bool) × ((List Int) × ((List (Int × ((List Int) × Unit))) × Unit))))) => (brR (!(eqD (Ty.arr 4 (Ty.int IntKind.u64)) y_57.1.1 y_53.1.1)) (some ((false, ()), ((), ((), ((), ()))))) (joinR (fun (x : ((List Int) × (Int × ((List (Int × (Int × ((List Int) × Unit)))) × (((List (List Int)) × ((List Bool) × ((List Int) × ((List (Int × ((List Int) × Unit))) × Unit)))) × ((List Int) × ((List Int) × ((List Bool) × (Int × Unit))))))))) => T_law25_EscrowClaimOnce_join4 again_27 x.1 x.2.1 x.2.2.1 x.2.2.2.1 x.2.2.2.2.1 x.2.2.2.2.2.1 x.2.2.2.2.2.2.1 x.2.2.2.2.2.2.2.1) (order_39, (size_40, (m_41, ((y_58.1, (y_58.2.1, (y_58.2.2.1, (y_58.2.2.2.1, y_58.2.2.2.2)))), (all_43, (out_44, (done_45, (i_46, ())))))))))))))) none)) (brR (inR k_47 v_49) (Option.bind (c_uint256_SaturatingAdd (out_44, ((List.getD m_41 (Int.toNat k_47) ((0 : Int), ((0 : Int), ([(0 : Int), (0 : Int), (0 : Int), (0 : Int)], ())))).2.2.1, ()))) (fun (y_68 : (((List Int) × Unit) × (Unit × (Unit × Unit)))) => (brR (!(decide (y_55.1.1 = (0 : Int)))) (some ((false, ()), ((), ((), ((), ()))))) (Option.bind (c_escrow_Escrow_Claimed ((some (y_56.1, (y_56.2.1, (y_56.2.2.1, (y_56.2.2.2.1, y_56.2.2.2.2))))), ((IntKind.wrap (IntKind.u64) k_47), ()))) (fun (y_69 : ((Bool × Unit) × ((Option ((List (List Int)) × ((List Bool) × ((List Int) × ((List (Int × ((List Int) × Unit))) × Unit))))) × (Unit × Unit)))) => (optR y_69.2.1 none (fun (y_70 : ((List (List Int)) × ((List Bool) × ((List Int) × ((List (Int × ((List Int) × Unit))) × Unit))))) => (brR (!y_69.1.1) (some ((false, ()), ((), ((), ((), ()))))) (brR (inR k_47 v_49) (Option.bind (c_escrow_Escrow_L1Balance ((some (y_70.1, (y_70.2.1, (y_70.2.2.1, (y_70.2.2.2.1, y_70.2.2.2.2))))), ((List.getD m_41 (Int.toNat k_47) ((0 : Int), ((0 : Int), ([(0 : Int), (0 : Int), (0 : Int), (0 : Int)], ())))).2.1, ()))) (fun (y_71 : (((List Int) × Unit) × ((Option ((List (List Int)) × ((List Bool) × ((List Int) × ((List (Int × ((List Int) × Unit))) × Unit))))) × (Unit × Unit)))) => (optR y_71.2.1 none (fun (y_72 : ((List (List Int)) × ((List Bool) × ((List Int) × ((List (Int × ((List Int) × Unit))) × Unit))))) => (brR (inR k_47 v_49) (Option.bind (c_uint256_SaturatingAdd (y_53.1.1, ((List.getD m_41 (Int.toNat k_47) ((0 : Int), ((0 : Int), ([(0 : Int), (0 : Int), (0 : Int), (0 : Int)], ())))).2.2.1, ()))) (fun (y_73 : (((List Int) × Unit) × (Unit × (Unit × Unit)))) => (brR (!(eqD (Ty.arr 4 (Ty.int IntKind.u64)) y_71.1.1 y_73.1.1)) (some ((false, ()), ((), ((), ((), ()))))) (Option.bind (c_escrow_Escrow_Balance ((some (y_72.1, (y_72.2.1, (y_72.2.2.1, (y_72.2.2.2.1, y_72.2.2.2.2))))), ())) (fun (y_74 : (((List Int) × Unit) × ((Option ((List (List Int)) × ((List Bool) × ((List Int) × ((List (Int × ((List Int) × Unit))) × Unit))))) × Unit))) => (optR y_74.2.1 none (fun (y_75 : ((List (List Int)) × ((List Bool) × ((List Int) × ((List (Int × ((List Int) × Unit))) × Unit))))) => (Option.bind (c_uint256_SaturatingAdd (y_74.1.1, (y_68.1.1, ()))) (fun (y_76 : (((List Int) × Unit) × (Unit × (Unit × Unit)))) => (brR (!(eqD (Ty.arr 4 (Ty.int IntKind.u64)) y_76.1.1 all_43)) (some ((false, ()), ((), ((), ((), ()))))) (joinR (fun (x : ((List Int) × (Int × ((List (Int × (Int × ((List Int) × Unit)))) × (((List (List Int)) × ((List Bool) × ((List Int) × ((List (Int × ((List Int) × Unit))) × Unit)))) × ((List Int) × ((List Int) × ((List Bool) × (Int × (Int × Unit)))))))))) => T_law25_EscrowClaimOnce_join5 again_27 x.1 x.2.1 x.2.2.1 x.2.2.2.1 x.2.2.2.2.1 x.2.2.2.2.2.1 x.2.2.2.2.2.2.1 x.2.2.2.2.2.2.2.1 x.2.2.2.2.2.2.2.2.1) (order_39, (size_40, (m_41, ((y_75.1, (y_75.2.1, (y_75.2.2.1, (y_75.2.2.2.1, y_75.2.2.2.2)))), (all_43, (y_68.1.1, (done_45, (i_46, (k_47, ())))))))))))))))))))) none))))) none))))))))) none)) none))))) none) none))))) none))))))))
noncomputable def T_law25_EscrowClaimOnce_loop2 (c_law0_Mod : F_law0_Mod) (c_ref24_Proof : F_ref24_Proof) (c_escrow_Escrow_L1Balance : F_escrow_Escrow_L1Balance) (c_escrow_Escrow_Claim : F_escrow_Escrow_Claim) (c_uint256_SaturatingAdd : F_uint256_SaturatingAdd) (c_escrow_Escrow_Claimed : F_escrow_Escrow_Claimed) (c_escrow_Escrow_Balance : F_escrow_Escrow_Balance) (c_law25_awake : F_law25_awake) (again_27 : ((List Int) × (Int × ((List (Int × (Int × ((List Int) × Unit)))) × (((List (List Int)) × ((List Bool) × ((List Int) × ((List (Int × ((List Int) × Unit))) × Unit)))) × ((List Int) × ((List Int) × ((List Bool) × (Int × Unit)))))))) → Option ((Bool × Unit) × (Unit × (Unit × (Unit × Unit))))) (order_28 : (List Int)) (size_29 : Int) (m_30 : (List (Int × (Int × ((List Int) × Unit))))) (e_31 : ((List (List Int)) × ((List Bool) × ((List Int) × ((List (Int × ((List Int) × Unit))) × Unit))))) (all_32 : (List Int)) (out_33 : (List Int)) (done_34 : (List Bool)) (i_35 : Int) : Option ((Bool × Unit) × (Unit × (Unit × (Unit × Unit)))) := (letR (((List.length m_30) : Nat) : Int) fun (v_36 : Int) => (brR (decide (i_35 < (IntKind.wrap (IntKind.i64) ((((List.length order_28) : Nat) : Int) + v_36)))) (brR (decide (i_35 < (((List.length order_28) : Nat) : Int))) (brR (inR i_35 (List.length order_28)) (Option.bind (c_law0_Mod ((List.getD order_28 (Int.toNat i_35) (0 : Int)), (v_36, ()))) (fun (y_37 : ((Int × Unit) × (Unit × (Unit × Unit)))) => (joinR (fun (x : ((List Int) × (Int × ((List (Int × (Int × ((List Int) × Unit)))) × (((List (List Int)) × ((List Bool) × ((List Int) × ((List (Int × ((List Int) × Unit))) × Unit)))) × ((List Int) × ((List Int) × ((List Bool) × (Int × (Int × Unit)))))))))) => T_law25_EscrowClaimOnce_join3 c_law0_Mod c_ref24_Proof c_escrow_Escrow_L1Balance c_escrow_Escrow_Claim c_uint256_SaturatingAdd c_escrow_Escrow_Claimed c_escrow_Escrow_Balance again_27 x.1 x.2.1 x.2.2.1 x.2.2.2.1 x.2.2.2.2.1 x.2.2.2.2.2.1 x.2.2.2.2.2.2.1 x.2.2.2.2.2.2.2.1 x.2.2.2.2.2.2.2.2.1) (order_28, (size_29, (m_30, ((e_31.1, (e_31.2.1, (e_31.2.2.1, (e_31.2.2.2.1, e_31.2.2.2.2)))), (all_32, (out_33, (done_34, (i_35, (y_37.1.1, ())))))))))))) none) (joinR (fun (x : ((List Int) × (Int × ((List (Int × (Int × ((List Int) × Unit)))) × (((List (List Int)) × ((List Bool) × ((List Int) × ((List (Int × ((List Int) × Unit))) × Unit)))) × ((List Int) × ((List Int) × ((List Bool) × (Int × (Int × Unit)))))))))) => T_law25_EscrowClaimOnce_join3 c_law0_Mod c_ref24_Proof c_escrow_Escrow_L1Balance c_escrow_Escrow_Claim c_uint256_SaturatingAdd c_escrow_Escrow_Claimed c_escrow_Escrow_Balance again_27 x.1 x.2.1 x.2.2.1 x.2.2.2.1 x.2.2.2.2.1 x.2.2.2.2.2.1 x.2.2.2.2.2.2.1 x.2.2.2.2.2.2.2.1 x.2.2.2.2.2.2.2.2.1) (order_28, (size_29, (m_30, ((e_31.1, (e_31.2.1, (e_31.2.2.1, (e_31.2.2.2.1, e_31.2.2.2.2)))), (all_32, (out_33, (done_34, (i_35, ((IntKind.wrap (IntKind.i64) (i_35 - (((List.length order_28) : Nat) : Int))), ()))))))))))) (Option.bind (c_escrow_Escrow_Balance ((some (e_31.1, (e_31.2.1, (e_31.2.2.1, (e_31.2.2.2.1, e_31.2.2.2.2))))), ())) (fun (y_87 : (((List Int) × Unit) × ((Option ((List (List Int)) × ((List Bool) × ((List Int) × ((List (Int × ((List Int) × Unit))) × Unit))))) × Unit))) => (optR y_87.2.1 none (fun (y_88 : ((List (List Int)) × ((List Bool) × ((List Int) × ((List (Int × ((List Int) × Unit))) × Unit))))) => (brR (eqD (Ty.arr 4 (Ty.int IntKind.u64)) y_87.1.1 [(0 : Int), (0 : Int), (0 : Int), (0 : Int)]) (Option.bind (c_law25_awake ()) (fun (y_89 : ((Bool × Unit) × Unit)) => (some ((y_89.1.1, ()), ((), ((), ((), ()))))))) (some ((false, ()), ((), ((), ((), ()))))))))))))
noncomputable def T_law25_EscrowClaimOnce_loop1 (L : LoopD) (c_uint256_SaturatingAdd : F_uint256_SaturatingAdd) (c_ref24_Root : F_ref24_Root) (c_escrow_Escrow_AppendRoot : F_escrow_Escrow_AppendRoot) (c_escrow_Escrow_Deposit : F_escrow_Escrow_Deposit) (c_law0_Mod : F_law0_Mod) (c_ref24_Proof : F_ref24_Proof) (c_escrow_Escrow_L1Balance : F_escrow_Escrow_L1Balance) (c_escrow_Escrow_Claim : F_escrow_Escrow_Claim) (c_escrow_Escrow_Claimed : F_escrow_Escrow_Claimed) (c_escrow_Escrow_Balance : F_escrow_Escrow_Balance) (c_law25_awake : F_law25_awake) (again_10 : ((List Int) × (Int × ((List (Int × (Int × ((List Int) × Unit)))) × (((List (List Int)) × ((List Bool) × ((List Int) × ((List (Int × ((List Int) × Unit))) × Unit)))) × ((List Int) × ((List Int) × (Int × Unit))))))) → Option ((Bool × Unit) × (Unit × (Unit × (Unit × Unit))))) (order_11 : (List Int)) (size_12 : Int) (m_13 : (List (Int × (Int × ((List Int) × Unit))))) (e_14 : ((List (List Int)) × ((List Bool) × ((List Int) × ((List (Int × ((List Int) × Unit))) × Unit))))) (all_15 : (List Int)) (out_16 : (List Int)) (i_17 : Int) : Option ((Bool × Unit) × (Unit × (Unit × (Unit × Unit)))) := (letR (IntKind.wrap (IntKind.i64) (i_17 + (1 : Int))) fun (v_18 : Int) => (letR (List.length m_13) fun (v_19 : Nat) => (letR ((v_19 : Nat) : Int) fun (v_20 : Int) => (brR (decide (i_17 < v_20)) (brR (inR i_17 v_19) (Option.bind (c_uint256_SaturatingAdd (all_15, ((List.getD m_13 (Int.toNat i_17) ((0 : Int), ((0 : Int), ([(0 : Int), (0 : Int), (0 : Int), (0 : Int)], ())))).2.2.1, ()))) (fun (y_21 : (((List Int) × Unit) × (Unit × (Unit × Unit)))) => (Option.bind (c_ref24_Root (m_13, (v_18, ()))) (fun (y_22 : (((List Int) × (Bool × Unit)) × (Unit × (Unit × Unit)))) => (Option.bind (c_escrow_Escrow_AppendRoot ((some (e_14.1, (e_14.2.1, (e_14.2.2.1, (e_14.2.2.2.1, e_14.2.2.2.2))))), (y_22.1.1, ()))) (fun (y_23 : ((Int × Unit) × ((Option ((List (List Int)) × ((List Bool) × ((List Int) × ((List (Int × ((List Int) × Unit))) × Unit))))) × (Unit × Unit)))) => (optR y_23.2.1 none (fun (y_24 : ((List (List Int)) × ((List Bool) × ((List Int) × ((List (Int × ((List Int) × Unit))) × Unit))))) => (brR (!(decide (y_23.1.1 = v_18))) (some ((false, ()), ((), ((), ((), ()))))) (again_10 (order_11, (size_12, (m_13, ((y_24.1, (y_24.2.1, (y_24.2.2.1, (y_24.2.2.2.1, y_24.2.2.2.2)))), (y_21.1.1, (out_16, (v_18, ()))))))))))))))))) none) (Option.bind (c_escrow_Escrow_Deposit ((some (e_14.1, (e_14.2.1, (e_14.2.2.1, (e_14.2.2.2.1, e_14.2.2.2.2))))), (all_15, ()))) (fun (y_25 : ((Int × Unit) × ((Option ((List (List Int)) × ((List Bool) × ((List Int) × ((List (Int × ((List Int) × Unit))) × Unit))))) × (Unit × Unit)))) => (optR y_25.2.1 none (fun (y_26 : ((List (List Int)) × ((List Bool) × ((List Int) × ((List (Int × ((List Int) × Unit))) × Unit))))) => (brR (!(decide (y_25.1.1 = (0 : Int)))) (some ((false, ()), ((), ((), ((), ()))))) (brR ((((decide ((0 : Int) ≤ v_20)) && (decide (v_20 ≤ v_20))) && (roomy (Int.toNat v_20) (Ty.bool))) && true) (L _ _ (fun again x => T_law25_EscrowClaimOnce_loop2 c_law0_Mod c_ref24_Proof c_escrow_Escrow_L1Balance c_escrow_Escrow_Claim c_uint256_SaturatingAdd c_escrow_Escrow_Claimed c_escrow_Escrow_Balance c_law25_awake again x.1 x.2.1 x.2.2.1 x.2.2.2.1 x.2.2.2.2.1 x.2.2.2.2.2.1 x.2.2.2.2.2.2.1 x.2.2.2.2.2.2.2.1) (order_11, (size_12, (m_13, ((y_26.1, (y_26.2.1, (y_26.2.2.1, (y_26.2.2.2.1, y_26.2.2.2.2)))), (all_15, (out_16, ((List.replicate (Int.toNat v_20) false), ((0 : Int), ()))))))))) none))))))))))
noncomputable def T_law25_EscrowClaimOnce_join0 (L : LoopD) (c_law24_ValidMessages : F_law24_ValidMessages) (c_escrow_New : F_escrow_New) (c_uint256_SaturatingAdd : F_uint256_SaturatingAdd) (c_ref24_Root : F_ref24_Root) (c_escrow_Escrow_AppendRoot : F_escrow_Escrow_AppendRoot) (c_escrow_Escrow_Deposit : F_escrow_Escrow_Deposit) (c_law0_Mod : F_law0_Mod) (c_ref24_Proof : F_ref24_Proof) (c_escrow_Escrow_L1Balance : F_escrow_Escrow_L1Balance) (c_escrow_Escrow_Claim : F_escrow_Escrow_Claim) (c_escrow_Escrow_Claimed : F_escrow_Escrow_Claimed) (c_escrow_Escrow_Balance : F_escrow_Escrow_Balance) (c_law25_awake : F_law25_awake) (s_5 : (List (Int × ((List Int) × (Bool × Unit))))) (order_6 : (List Int)) (size_7 : Int) : Option ((Bool × Unit) × (Unit × (Unit × (Unit × Unit)))) := (Option.bind (c_law24_ValidMessages (s_5, ())) (fun (y_8 : (((List (Int × (Int × ((List Int) × Unit)))) × Unit) × (Unit × Unit))) => (Option.bind (c_escrow_New ()) (fun (y_9 : ((((List (List Int)) × ((List Bool) × ((List Int) × ((List (Int × ((List Int) × Unit))) × Unit)))) × Unit) × Unit)) => (L _ _ (fun again x => T_law25_EscrowClaimOnce_loop1 L c_uint256_SaturatingAdd c_ref24_Root c_escrow_Escrow_AppendRoot c_escrow_Escrow_Deposit c_law0_Mod c_ref24_Proof c_escrow_Escrow_L1Balance c_escrow_Escrow_Claim c_escrow_Escrow_Claimed c_escrow_Escrow_Balance c_law25_awake again x.1 x.2.1 x.2.2.1 x.2.2.2.1 x.2.2.2.2.1 x.2.2.2.2.2.1 x.2.2.2.2.2.2.1) (order_6, (size_7, (y_8.1.1, ((y_9.1.1.1, (y_9.1.1.2.1, (y_9.1.1.2.2.1, (y_9.1.1.2.2.2.1, y_9.1.1.2.2.2.2)))), ([(0 : Int), (0 : Int), (0 : Int), (0 : Int)], ([(0 : Int), (0 : Int), (0 : Int), (0 : Int)], ((0 : Int), ()))))))))))))
noncomputable def T_law25_EscrowClaimOnce (L : LoopD) (c_law25_awake : F_law25_awake) (c_law24_ValidMessages : F_law24_ValidMessages) (c_escrow_New : F_escrow_New) (c_uint256_SaturatingAdd : F_uint256_SaturatingAdd) (c_ref24_Root : F_ref24_Root) (c_escrow_Escrow_AppendRoot : F_escrow_Escrow_AppendRoot) (c_escrow_Escrow_Deposit : F_escrow_Escrow_Deposit) (c_law0_Mod : F_law0_Mod) (c_ref24_Proof : F_ref24_Proof) (c_escrow_Escrow_L1Balance : F_escrow_Escrow_L1Balance) (c_escrow_Escrow_Claim : F_escrow_Escrow_Claim) (c_escrow_Escrow_Claimed : F_escrow_Escrow_Claimed) (c_escrow_Escrow_Balance : F_escrow_Escrow_Balance) (s_ : (List (Int × ((List Int) × (Bool × Unit))))) (order_ : (List Int)) (size_ : Int) : Option ((Bool × Unit) × (Unit × (Unit × (Unit × Unit)))) := (letR (((List.length s_) : Nat) : Int) fun (v_0 : Int) => (brR (decide (v_0 > (20 : Int))) (Option.bind (c_law25_awake ()) (fun (y_1 : ((Bool × Unit) × Unit)) => (some ((y_1.1.1, ()), ((), ((), ((), ()))))))) (brR (decide ((((List.length order_) : Nat) : Int) > (60 : Int))) (Option.bind (c_law25_awake ()) (fun (y_2 : ((Bool × Unit) × Unit)) => (some ((y_2.1.1, ()), ((), ((), ((), ()))))))) (brR (decide (v_0 = (0 : Int))) (Option.bind (c_law25_awake ()) (fun (y_3 : ((Bool × Unit) × Unit)) => (some ((y_3.1.1, ()), ((), ((), ((), ()))))))) (joinR (fun (x : ((List (Int × ((List Int) × (Bool × Unit)))) × ((List Int) × (Int × Unit)))) => T_law25_EscrowClaimOnce_join0 L c_law24_ValidMessages c_escrow_New c_uint256_SaturatingAdd c_ref24_Root c_escrow_Escrow_AppendRoot c_escrow_Escrow_Deposit c_law0_Mod c_ref24_Proof c_escrow_Escrow_L1Balance c_escrow_Escrow_Claim c_escrow_Escrow_Claimed c_escrow_Escrow_Balance c_law25_awake x.1 x.2.1 x.2.2.1) (s_, (order_, (size_, ()))))))))
noncomputable def sol_law25_EscrowClaimOnce : F_law25_EscrowClaimOnce := fun x => T_law25_EscrowClaimOnce bigLoop sol_law25_awake sol_law24_ValidMessages sol_escrow_New sol_uint256_SaturatingAdd sol_ref24_Root sol_escrow_Escrow_AppendRoot sol_escrow_Escrow_Deposit sol_law0_Mod sol_ref24_Proof sol_escrow_Escrow_L1Balance sol_escrow_Escrow_Claim sol_escrow_Escrow_Claimed sol_escrow_Escrow_Balance x.1 x.2.1 x.2.2.1
end Go.Pon
set_option autoImplicit false
set_option linter.unusedVariables false
namespace Go.Pon
open Go
theorem brR_ite {α : Type} (c : Bool) (t e : Option α) : brR c t e = if c = true then t else e := by cases c <;> rfl
theorem brR_dec {α : Type} (p : Prop) [Decidable p] (t e : Option α) : brR (decide p) t e = if p then t else e := by
  rw [brR_ite]; by_cases h : p <;> simp [h]
theorem brR_not {α : Type} (c : Bool) (t e : Option α) : brR (!c) t e = brR c e t := by cases c <;> rfl
theorem brR_and {α : Type} (a b : Bool) (t e : Option α) : brR (a && b) t e = brR a (brR b t e) e := by cases a <;> rfl
theorem brR_inR {α : Type} (i : Int) (n : Nat) (t e : Option α) : brR (inR i n) t e = if 0 ≤ i ∧ i < n then t else e := by
  unfold inR; rw [brR_and, brR_dec, brR_dec]; by_cases h1 : 0 ≤ i <;> by_cases h2 : i < n <;> simp [h1, h2]
theorem bind_some' {α β : Type} (a : α) (f : α → Option β) : Option.bind (some a) f = f a := rfl
theorem roomy_dec {n : Nat} {t : Ty} : roomy n t = decide (0 < t.size ∧ n * (24 * t.size) ≤ 140737488355328) := by
  unfold roomy
  by_cases h : 0 < t.size
  · simp [h]
  · simp [h]
theorem brR_roomy {α : Type} (n : Nat) (t : Ty) (a b : Option α) : brR (roomy n t) a b = if 0 < t.size ∧ n * (24 * t.size) ≤ 140737488355328 then a else b := by
  rw [roomy_dec, brR_dec]
theorem optR_some {α β : Type} (a : α) (n : Option β) (f : α → Option β) : optR (some a) n f = f a := rfl
theorem joinR_eq {ω δ : Type} (f : δ → Option ω) (x : δ) : joinR f x = f x := rfl
theorem bigLoop_rule {ω δ : Type} {round : (δ → Option ω) → δ → Option ω} (I : δ → Prop) (m : δ → Nat) (g : δ → Option ω)
    (h : ∀ x (again : δ → Option ω), I x → (∀ y, I y → m y < m x → again y = g y) → round again x = g x) {x : δ} (hx : I x) (hm : m x < bigN) : bigLoop ω δ round x = g x := by
  have key : ∀ n x, I x → m x < n → loopN round n x = g x := by
    intro n
    induction n with
    | zero => intro x _ hm; omega
    | succ n ih =>
      intro x hx hm
      rw [loopN_succ]
      exact h x _ hx fun y hy hlt => ih y hy (by omega)
  rw [bigLoop_def]
  exact key bigN x hx hm
theorem bigN_eq : bigN = 18446744073709551616 := rfl
theorem w_i64 {n : Int} (h1 : -9223372036854775808 ≤ n) (h2 : n ≤ 9223372036854775807) : IntKind.i64.wrap n = n := by rw [IntKind.wrap_i64]; omega
theorem w_u64 {n : Int} (h1 : 0 ≤ n) (h2 : n ≤ 18446744073709551615) : IntKind.u64.wrap n = n := by rw [IntKind.wrap_u64]; omega
theorem w_u32 {n : Int} (h1 : 0 ≤ n) (h2 : n ≤ 4294967295) : IntKind.u32.wrap n = n := by rw [IntKind.wrap_u32]; omega
theorem w_u8 {n : Int} (h1 : 0 ≤ n) (h2 : n ≤ 255) : IntKind.u8.wrap n = n := by rw [IntKind.wrap_u8]; omega
theorem tdiv_pos {a b : Int} (h : 0 ≤ a) : Int.tdiv a b = a / b := Int.tdiv_eq_ediv_of_nonneg h
theorem tmod_pos {a b : Int} (h : 0 ≤ a) : Int.tmod a b = a % b := Int.tmod_eq_emod_of_nonneg h
theorem inK_u64 {n : Int} : inK .u64 n ↔ 0 ≤ n ∧ n ≤ 18446744073709551615 := by simp [inK, IntKind.min, IntKind.max, IntKind.signed, IntKind.bits]
theorem inK_i64 {n : Int} : inK .i64 n ↔ -9223372036854775808 ≤ n ∧ n ≤ 9223372036854775807 := by simp [inK, IntKind.min, IntKind.max, IntKind.signed, IntKind.bits]
theorem eqD_dec (t : Ty) (x y : t.den) [Decidable (x = y)] : eqD t x y = decide (x = y) := by
  rw [Bool.eq_iff_iff, eqD_iff]; simp
theorem getD_mem {α : Type} {l : List α} {i : Nat} {d : α} (h : i < l.length) : List.getD l i d ∈ l := by
  rw [List.getD_eq_getElem?_getD, List.getElem?_eq_getElem h]; simp
theorem getD_all {p : Int → Prop} {l : List Int} (h : ∀ x ∈ l, p x) (h0 : p 0) (i : Nat) : p (List.getD l i 0) := by
  rcases Nat.lt_or_ge i l.length with hi | hi
  · exact h _ (getD_mem hi)
  · rw [List.getD_eq_getElem?_getD, List.getElem?_eq_none hi]; exact h0
theorem append_def {α : Type} (l m : List α) : List.append l m = l ++ m := rfl
end Go.Pon
set_option autoImplicit false
namespace Go.Pon
open Go
def U64 (n : Int) : Prop := 0 ≤ n ∧ n ≤ 18446744073709551615
def I64 (n : Int) : Prop := -9223372036854775808 ≤ n ∧ n ≤ 9223372036854775807
def B256 (n : Nat) : Prop := n < 115792089237316195423570985008687907853269984665640564039457584007913129639936
theorem ext_getD {α : Type} {l m : List α} {d : α} (hl : l.length = m.length) (h : ∀ k, k < l.length → l.getD k d = m.getD k d) : l = m := by
  apply List.ext_getElem hl
  intro k h1 h2
  have := h k h1
  rw [List.getD_eq_getElem?_getD, List.getElem?_eq_getElem h1, List.getD_eq_getElem?_getD, List.getElem?_eq_getElem h2] at this
  exact this
theorem take_map_succ {α β : Type} {f : α → β} {l : List α} {d : α} {i : Nat} (h : i < l.length) : (l.take (i + 1)).map f = (l.take i).map f ++ [f (l.getD i d)] := by
  rw [List.take_succ_eq_append_getElem h, List.map_append, List.getD_eq_getElem?_getD, List.getElem?_eq_getElem h]; rfl
end Go.Pon
set_option autoImplicit false
set_option linter.unusedVariables false
namespace Go.Pon
open Go
def bitlen (n : Nat) : Nat := if n = 0 then 0 else Nat.log2 n + 1
theorem bitlen_zero : bitlen 0 = 0 := rfl
theorem lt_bitlen (n : Nat) : n < 2 ^ bitlen n := by
  unfold bitlen
  by_cases h : n = 0
  · subst h; simp
  · rw [if_neg h]; exact Nat.lt_log2_self
theorem bitlen_le {n b : Nat} : bitlen n ≤ b ↔ n < 2 ^ b := by
  unfold bitlen
  by_cases h : n = 0
  · subst h; simp [Nat.two_pow_pos]
  · rw [if_neg h, Nat.succ_le_iff, Nat.log2_lt h]
theorem bitlen_eq {n b : Nat} (h1 : n < 2 ^ b) (h2 : ∀ c, c < b → 2 ^ c ≤ n) : bitlen n = b := by
  rcases Nat.lt_trichotomy (bitlen n) b with h | h | h
  · have := h2 _ h
    have := lt_bitlen n
    omega
  · exact h
  · have := bitlen_le.2 h1
    omega
theorem bitlen_div {n k : Nat} (h : 2 ^ k ≤ n) : bitlen n = k + bitlen (n / 2 ^ k) := by
  have hpos : 0 < 2 ^ k := Nat.two_pow_pos k
  have h1 : n / 2 ^ k ≠ 0 := by
    have : 1 ≤ n / 2 ^ k := (Nat.le_div_iff_mul_le hpos).2 (by omega)
    omega
  refine bitlen_eq ?_ fun c hc => ?_
  · have := lt_bitlen (n / 2 ^ k)
    rw [Nat.div_lt_iff_lt_mul hpos, ← Nat.pow_add] at this
    rwa [Nat.add_comm] at this
  · rcases Nat.lt_or_ge c k with hck | hck
    · exact Nat.le_trans (Nat.pow_le_pow_right (by omega) (by omega)) h
    · have h2 : ¬ (n / 2 ^ k) < 2 ^ (c - k) := fun hh => by
        have := bitlen_le.2 hh
        omega
      have h3 : 2 ^ (c - k) ≤ n / 2 ^ k := by omega
      rw [Nat.le_div_iff_mul_le hpos, ← Nat.pow_add] at h3
      rwa [Nat.sub_add_cancel hck] at h3
def lim (n : Nat) : List Int := [((n % 18446744073709551616 : Nat) : Int), ((n / 18446744073709551616 % 18446744073709551616 : Nat) : Int), ((n / 340282366920938463463374607431768211456 % 18446744073709551616 : Nat) : Int), ((n / 6277101735386680763835789423207666416102355444464034512896 : Nat) : Int)]
def val4 (l : List Int) : Nat := (l.getD 0 0).toNat + (l.getD 1 0).toNat * 18446744073709551616 + (l.getD 2 0).toNat * 340282366920938463463374607431768211456 + (l.getD 3 0).toNat * 6277101735386680763835789423207666416102355444464034512896
theorem val4_lim {n : Nat} : val4 (lim n) = n := by
  simp only [val4, lim, List.getD_cons_zero, List.getD_cons_succ, Int.toNat_natCast]
  omega
theorem lim_inj {n m : Nat} : lim n = lim m ↔ n = m := ⟨fun h => by rw [← val4_lim (n := n), h, val4_lim], fun h => by rw [h]⟩
theorem list4 {α : Type} {l : List α} (h : l.length = 4) : ∃ a b c d, l = [a, b, c, d] := by
  match l, h with
  | [a, b, c, d], _ => exact ⟨a, b, c, d, rfl⟩
theorem u256_wf {l : List Int} (h : (Ty.arr 4 (.int .u64)).wf l) : ∃ n, n < 115792089237316195423570985008687907853269984665640564039457584007913129639936 ∧ l = lim n := by
  obtain ⟨h1, h2⟩ := h
  obtain ⟨a, b, c, d, rfl⟩ := list4 (α := Int) h1
  have ha := inK_u64.1 (h2 a (by simp))
  have hb := inK_u64.1 (h2 b (by simp))
  have hc := inK_u64.1 (h2 c (by simp))
  have hd := inK_u64.1 (h2 d (by simp))
  refine ⟨a.toNat + b.toNat * 18446744073709551616 + c.toNat * 340282366920938463463374607431768211456 + d.toNat * 6277101735386680763835789423207666416102355444464034512896, by omega, ?_⟩
  simp only [lim, List.cons.injEq, and_true]
  refine ⟨?_, ?_, ?_, ?_⟩ <;> omega
theorem lim_small {x : Int} (h1 : 0 ≤ x) (h2 : x ≤ 18446744073709551615) : ([x, 0, 0, 0] : List Int) = lim x.toNat := by
  simp only [lim, List.cons.injEq, and_true]
  refine ⟨?_, ?_, ?_, ?_⟩ <;> omega
theorem lim_getD {n i : Nat} (hn : n < 115792089237316195423570985008687907853269984665640564039457584007913129639936) (hi : i < 4) : (lim n).getD i 0 = ((n / 18446744073709551616 ^ i % 18446744073709551616 : Nat) : Int) := by
  match i, hi with
  | 0, _ => simp [lim]
  | 1, _ => simp [lim]
  | 2, _ => simp [lim]
  | 3, _ =>
    simp only [lim, List.getD_cons_zero, List.getD_cons_succ]
    have : n / 6277101735386680763835789423207666416102355444464034512896 % 18446744073709551616 = n / 6277101735386680763835789423207666416102355444464034512896 := Nat.mod_eq_of_lt (by omega)
    rw [show (18446744073709551616 : Nat) ^ 3 = 6277101735386680763835789423207666416102355444464034512896 from rfl, this]
def beB : Nat → Nat → List Int
  | 0, _ => []
  | k + 1, n => ((n / 256 ^ k % 256 : Nat) : Int) :: beB k n
theorem len_beB : ∀ {k n : Nat}, (beB k n).length = k
  | 0, _ => rfl
  | k + 1, n => by simp [beB, len_beB]
theorem beB_byte : ∀ {k n : Nat}, ∀ x ∈ beB k n, 0 ≤ x ∧ x ≤ 255
  | 0, _, x, h => by simp [beB] at h
  | k + 1, n, x, h => by
    rcases List.mem_cons.1 h with rfl | h
    · have := Nat.mod_lt (n / 256 ^ k) (show 0 < 256 by omega)
      omega
    · exact beB_byte x h
def bylen (n : Nat) : Nat := (bitlen n + 7) / 8
theorem pow256 (k : Nat) : 256 ^ k = 2 ^ (8 * k) := by rw [show (256 : Nat) = 2 ^ 8 from rfl, ← Nat.pow_mul]
theorem bylen_le {n k : Nat} : bylen n ≤ k ↔ n < 256 ^ k := by
  rw [pow256, ← bitlen_le]; unfold bylen; omega
theorem bylen_256 {n : Nat} (h : n < 115792089237316195423570985008687907853269984665640564039457584007913129639936) : bylen n ≤ 32 := bylen_le.2 h
theorem bylen_64 {n : Nat} (h : n < 18446744073709551616) : bylen n ≤ 8 := bylen_le.2 h
theorem bylen_zero : bylen 0 = 0 := rfl
end Go.Pon
set_option autoImplicit false
set_option linter.unusedVariables false
set_option linter.unusedSimpArgs false
namespace Go.Pon
open Go
abbrev AccT := Int × (List Int × (Int × Unit))
abbrev zAcc : AccT := ((0 : Int), ([(0 : Int), (0 : Int), (0 : Int), (0 : Int)], ((0 : Int), ())))
abbrev eAcc (a : Int) : AccT := (a, ([(0 : Int), (0 : Int), (0 : Int), (0 : Int)], ((0 : Int), ())))
inductive AccW : AccT → Prop
  | mk {a : Int} {b : Nat} {n : Int} (ha : U64 a) (hb : B256 b) (hn : U64 n) : AccW (a, (lim b, (n, ())))
def AllA (l : List AccT) : Prop := ∀ x ∈ l, AccW x
def isE (x : AccT) : Prop := x = eAcc x.1
instance (x : AccT) : Decidable (isE x) := inferInstanceAs (Decidable (x = eAcc x.1))
theorem eAccW {a : Int} (h : U64 a) : AccW (eAcc a) := by
  have := AccW.mk (a := a) (b := 0) (n := 0) h (by unfold B256; omega) (by unfold U64; omega)
  exact this
theorem zAccW : AccW zAcc := eAccW (by unfold U64; omega)
theorem AllA.at {l : List AccT} (h : AllA l) (i : Nat) : AccW (l.getD i zAcc) := by
  rcases Nat.lt_or_ge i l.length with hi | hi
  · exact h _ (getD_mem hi)
  · rw [List.getD_eq_getElem?_getD, List.getElem?_eq_none hi]; exact zAccW
def Srt (l : List AccT) : Prop := l.Pairwise fun x y => x.1 < y.1
def NE (l : List AccT) : Prop := ∀ x ∈ l, ¬ isE x
theorem val4_z : val4 [(0 : Int), (0 : Int), (0 : Int), (0 : Int)] = 0 := by decide
end Go.Pon
set_option autoImplicit false
set_option linter.unusedVariables false
set_option linter.unusedSimpArgs false
namespace Go.Pon
open Go
abbrev PayT := Int × (List Int × Unit)
abbrev zPay : PayT := ((0 : Int), ([(0 : Int), (0 : Int), (0 : Int), (0 : Int)], ()))
abbrev ePay (a : Int) : PayT := (a, ([(0 : Int), (0 : Int), (0 : Int), (0 : Int)], ()))
inductive PayW : PayT → Prop
  | mk {a : Int} {b : Nat} (ha : U64 a) (hb : B256 b) : PayW (a, (lim b, ()))
def AllPay (l : List PayT) : Prop := ∀ x ∈ l, PayW x
def isEP (x : PayT) : Prop := x = ePay x.1
instance (x : PayT) : Decidable (isEP x) := inferInstanceAs (Decidable (x = ePay x.1))
theorem ePayW {a : Int} (h : U64 a) : PayW (ePay a) := by
  have := PayW.mk (a := a) (b := 0) h (by unfold B256; omega)
  exact this
theorem zPayW : PayW zPay := ePayW (by unfold U64; omega)
theorem AllPay.at {l : List PayT} (h : AllPay l) (i : Nat) : PayW (l.getD i zPay) := by
  rcases Nat.lt_or_ge i l.length with hi | hi
  · exact h _ (getD_mem hi)
  · rw [List.getD_eq_getElem?_getD, List.getElem?_eq_none hi]; exact zPayW
def pget : List PayT → Int → PayT
  | [], a => ePay a
  | x :: l, a => if x.1 = a then x else pget l a
def pput : List PayT → PayT → List PayT
  | [], y => if isEP y then [] else [y]
  | x :: l, y => if x.1 < y.1 then x :: pput l y else if x.1 = y.1 then (if isEP y then l else y :: l) else (if isEP y then x :: l else y :: x :: l)
def SrtP (l : List PayT) : Prop := l.Pairwise fun x y => x.1 < y.1
def NEP (l : List PayT) : Prop := ∀ x ∈ l, ¬ isEP x
def sumP (l : List PayT) : Nat := (l.map fun x => val4 x.2.1).sum
theorem sumP_nil : sumP [] = 0 := rfl
theorem sumP_cons (x : PayT) (l : List PayT) : sumP (x :: l) = val4 x.2.1 + sumP l := by simp [sumP]
theorem pget_absent : ∀ {l : List PayT} {a : Int}, (∀ x ∈ l, x.1 ≠ a) → pget l a = ePay a
  | [], _, _ => rfl
  | x :: l, a, h => by
    unfold pget
    rw [if_neg (h x (by simp)), pget_absent fun y hy => h y (by simp [hy])]
theorem pget_fst : ∀ (l : List PayT) (a : Int), (pget l a).1 = a
  | [], _ => rfl
  | x :: l, a => by
    unfold pget
    by_cases h : x.1 = a
    · rw [if_pos h]; exact h
    · rw [if_neg h]; exact pget_fst l a
theorem pget_mem : ∀ (l : List PayT) (a : Int), pget l a ∈ l ∨ ((∀ x ∈ l, x.1 ≠ a) ∧ pget l a = ePay a)
  | [], _ => .inr ⟨fun x h => by simp at h, rfl⟩
  | x :: l, a => by
    unfold pget
    by_cases h : x.1 = a
    · rw [if_pos h]; exact .inl (by simp)
    · rw [if_neg h]
      rcases pget_mem l a with h1 | ⟨h1, h2⟩
      · exact .inl (by simp [h1])
      · exact .inr ⟨fun y hy => by
          rcases List.mem_cons.1 hy with rfl | hy
          · exact h
          · exact h1 y hy, h2⟩
theorem pgetW {l : List PayT} {a : Int} (h : AllPay l) (ha : U64 a) : PayW (pget l a) := by
  rcases pget_mem l a with h1 | ⟨_, h2⟩
  · exact h _ h1
  · rw [h2]; exact ePayW ha
theorem mem_pput : ∀ {l : List PayT} {x y : PayT}, x ∈ pput l y → x ∈ l ∨ (x = y ∧ ¬ isEP y)
  | [], x, y, h => by
    unfold pput at h
    by_cases he : isEP y
    · rw [if_pos he] at h; simp at h
    · rw [if_neg he] at h; exact .inr ⟨by simpa using h, he⟩
  | z :: l, x, y, h => by
    unfold pput at h
    by_cases h1 : z.1 < y.1
    · rw [if_pos h1] at h
      rcases List.mem_cons.1 h with rfl | h
      · exact .inl (by simp)
      · rcases mem_pput h with h | h
        · exact .inl (by simp [h])
        · exact .inr h
    · rw [if_neg h1] at h
      by_cases h2 : z.1 = y.1
      · rw [if_pos h2] at h
        by_cases he : isEP y
        · rw [if_pos he] at h; exact .inl (by simp [h])
        · rw [if_neg he] at h
          rcases List.mem_cons.1 h with rfl | h
          · exact .inr ⟨rfl, he⟩
          · exact .inl (by simp [h])
      · rw [if_neg h2] at h
        by_cases he : isEP y
        · rw [if_pos he] at h; exact .inl h
        · rw [if_neg he] at h
          rcases List.mem_cons.1 h with rfl | h
          · exact .inr ⟨rfl, he⟩
          · exact .inl h
theorem srt_pput : ∀ {l : List PayT} {y : PayT}, SrtP l → SrtP (pput l y)
  | [], y, _ => by
    unfold pput
    by_cases he : isEP y
    · rw [if_pos he]; exact List.Pairwise.nil
    · rw [if_neg he]; exact List.pairwise_singleton _ _
  | z :: l, y, h => by
    have h' := List.pairwise_cons.1 h
    unfold pput
    by_cases h1 : z.1 < y.1
    · rw [if_pos h1]
      refine List.pairwise_cons.2 ⟨fun x hx => ?_, srt_pput h'.2⟩
      rcases mem_pput hx with hx | ⟨rfl, _⟩
      · exact h'.1 x hx
      · exact h1
    · rw [if_neg h1]
      by_cases h2 : z.1 = y.1
      · rw [if_pos h2]
        by_cases he : isEP y
        · rw [if_pos he]; exact h'.2
        · rw [if_neg he]
          exact List.pairwise_cons.2 ⟨fun x hx => by rw [← h2]; exact h'.1 x hx, h'.2⟩
      · rw [if_neg h2]
        by_cases he : isEP y
        · rw [if_pos he]; exact h
        · rw [if_neg he]
          refine List.pairwise_cons.2 ⟨fun x hx => ?_, h⟩
          rcases List.mem_cons.1 hx with rfl | hx
          · omega
          · have := h'.1 x hx; omega
theorem ne_pput {l : List PayT} {y : PayT} (h : NEP l) : NEP (pput l y) := fun x hx => by
  rcases mem_pput hx with hx | ⟨rfl, he⟩
  · exact h x hx
  · exact he
theorem all_pput {l : List PayT} {y : PayT} (h : AllPay l) (hy : PayW y) : AllPay (pput l y) := fun x hx => by
  rcases mem_pput hx with hx | ⟨rfl, he⟩
  · exact h x hx
  · exact hy
theorem len_pput : ∀ (l : List PayT) (y : PayT), (pput l y).length ≤ l.length + 1
  | [], y => by
    unfold pput
    by_cases he : isEP y
    · rw [if_pos he]; simp
    · rw [if_neg he]; simp
  | z :: l, y => by
    have := len_pput l y
    unfold pput
    split
    · simp; omega
    · split
      · split <;> (simp; try omega)
      · split <;> simp
theorem pget_pput : ∀ {l : List PayT} {y : PayT} {a : Int}, SrtP l → pget (pput l y) a = if a = y.1 then y else pget l a
  | [], y, a, _ => by
    unfold pput
    by_cases he : isEP y
    · rw [if_pos he]
      by_cases ha : a = y.1
      · rw [if_pos ha, ha]; exact he.symm
      · rw [if_neg ha]
    · rw [if_neg he]
      simp only [pget]
      by_cases ha : a = y.1
      · rw [if_pos ha, if_pos ha.symm]
      · rw [if_neg ha, if_neg fun h => ha h.symm]
  | z :: l, y, a, h => by
    have h' := List.pairwise_cons.1 h
    unfold pput
    by_cases h1 : z.1 < y.1
    · rw [if_pos h1]
      have ih := pget_pput (y := y) (a := a) h'.2
      simp only [pget]
      rw [ih]
      by_cases hz : z.1 = a
      · rw [if_pos hz, if_neg (by omega), if_pos hz]
      · rw [if_neg hz, if_neg hz]
    · rw [if_neg h1]
      by_cases h2 : z.1 = y.1
      · rw [if_pos h2]
        by_cases he : isEP y
        · rw [if_pos he]
          by_cases ha : a = y.1
          · rw [if_pos ha, pget_absent fun x hx => by have := h'.1 x hx; omega, ha]
            exact he.symm
          · rw [if_neg ha]
            simp only [pget]
            rw [if_neg (by omega)]
        · rw [if_neg he]
          simp only [pget]
          by_cases ha : a = y.1
          · rw [if_pos ha, if_pos ha.symm]
          · rw [if_neg ha, if_neg (fun h => ha h.symm), if_neg (by omega)]
      · rw [if_neg h2]
        by_cases he : isEP y
        · rw [if_pos he]
          by_cases ha : a = y.1
          · rw [if_pos ha, pget_absent (fun x hx => ?_), ha]
            · exact he.symm
            · rcases List.mem_cons.1 hx with rfl | hx
              · omega
              · have := h'.1 x hx; omega
          · rw [if_neg ha]
        · rw [if_neg he]
          simp only [pget]
          by_cases ha : a = y.1
          · rw [if_pos ha, if_pos ha.symm]
          · rw [if_neg ha, if_neg fun h => ha h.symm]
theorem isEP_val {y : PayT} (h : isEP y) : val4 y.2.1 = 0 := by
  unfold isEP at h; rw [h]; exact val4_z
theorem sum_pput : ∀ {l : List PayT} {y : PayT}, SrtP l → sumP (pput l y) + val4 (pget l y.1).2.1 = sumP l + val4 y.2.1
  | [], y, _ => by
    unfold pput pget
    by_cases he : isEP y
    · rw [if_pos he, isEP_val he, val4_z]
    · rw [if_neg he, val4_z, sumP_cons, sumP_nil]; omega
  | z :: l, y, h => by
    have h' := List.pairwise_cons.1 h
    unfold pput
    by_cases h1 : z.1 < y.1
    · rw [if_pos h1]
      have ih := sum_pput (y := y) h'.2
      simp only [pget]
      rw [if_neg (by omega), sumP_cons, sumP_cons]; omega
    · rw [if_neg h1]
      by_cases h2 : z.1 = y.1
      · rw [if_pos h2]
        simp only [pget]
        rw [if_pos h2]
        by_cases he : isEP y
        · rw [if_pos he, isEP_val he, sumP_cons]; omega
        · rw [if_neg he, sumP_cons, sumP_cons]; omega
      · rw [if_neg h2, pget_absent (fun x hx => ?_), val4_z]
        · by_cases he : isEP y
          · rw [if_pos he, isEP_val he]
          · rw [if_neg he, sumP_cons y]; omega
        · rcases List.mem_cons.1 hx with rfl | hx
          · exact h2
          · have := h'.1 x hx; omega
theorem pget_head {x : PayT} {l : List PayT} : pget (x :: l) x.1 = x := by unfold pget; rw [if_pos rfl]
def cntQ : List PayT → Int → Nat
  | [], _ => 0
  | p :: l, a => if p.1 < a then cntQ l a + 1 else 0
theorem cntQ_cons (p : PayT) (l : List PayT) (a : Int) : cntQ (p :: l) a = if p.1 < a then cntQ l a + 1 else 0 := rfl
theorem cntQ_le (a : Int) : ∀ l : List PayT, cntQ l a ≤ l.length
  | [] => by simp [cntQ]
  | p :: l => by
    have := cntQ_le a l
    unfold cntQ
    split
    · simp; omega
    · simp
theorem cntQ_lt : ∀ {l : List PayT} {a : Int} {i : Nat}, i < cntQ l a → (l.getD i zPay).1 < a
  | [], a, i, h => by simp [cntQ] at h
  | p :: l, a, i, h => by
    unfold cntQ at h
    by_cases hp : p.1 < a
    · rw [if_pos hp] at h
      cases i with
      | zero => exact hp
      | succ i => exact cntQ_lt (l := l) (by omega)
    · rw [if_neg hp] at h; omega
theorem psrt_lt {l : List PayT} (h : SrtP l) {i j : Nat} (hij : i < j) (hj : j < l.length) : (l.getD i zPay).1 < (l.getD j zPay).1 := by
  have := List.pairwise_iff_getElem.1 h i j (by omega) hj hij
  rw [List.getD_eq_getElem?_getD, List.getElem?_eq_getElem (by omega), List.getD_eq_getElem?_getD, List.getElem?_eq_getElem hj]
  exact this
theorem cntQ_at : ∀ {l : List PayT} {a : Int}, cntQ l a < l.length → a ≤ (l.getD (cntQ l a) zPay).1
  | [], a, h => by simp [cntQ] at h
  | p :: l, a, h => by
    unfold cntQ at h ⊢
    by_cases hp : p.1 < a
    · rw [if_pos hp] at h ⊢
      exact cntQ_at (l := l) (by simpa using h)
    · rw [if_neg hp] at h ⊢
      show a ≤ p.1
      omega
theorem cntQ_ge {l : List PayT} (hs : SrtP l) {a : Int} {i : Nat} (h : cntQ l a ≤ i) (hi : i < l.length) : a ≤ (l.getD i zPay).1 := by
  have h1 := cntQ_at (l := l) (a := a) (by omega)
  rcases Nat.lt_or_ge (cntQ l a) i with h2 | h2
  · have := psrt_lt hs h2 hi; omega
  · rw [show i = cntQ l a by omega]; exact h1
abbrev foundQ (l : List PayT) (a : Int) : Prop := cntQ l a < l.length ∧ (l.getD (cntQ l a) zPay).1 = a
theorem pget_cnt : ∀ {l : List PayT} {a : Int}, SrtP l → pget l a = if foundQ l a then l.getD (cntQ l a) zPay else ePay a
  | [], a, _ => rfl
  | p :: l, a, h => by
    have h' := List.pairwise_cons.1 h
    unfold foundQ
    rw [cntQ_cons]
    simp only [pget]
    by_cases hp : p.1 < a
    · rw [if_neg (by omega), if_pos hp, pget_cnt h'.2]
      unfold foundQ
      simp only [List.length_cons, Nat.add_lt_add_iff_right, List.getD_cons_succ]
    · rw [if_neg hp]
      simp only [List.length_cons, List.getD_cons_zero, Nat.zero_lt_succ, true_and]
      by_cases he : p.1 = a
      · rw [if_pos he, if_pos he]
      · rw [if_neg he, if_neg he, pget_absent fun x hx => by have := h'.1 x hx; omega]
theorem pput_cnt : ∀ (l : List PayT) (y : PayT), pput l y = if foundQ l y.1 then (if isEP y then l.take (cntQ l y.1) ++ l.drop (cntQ l y.1 + 1) else l.set (cntQ l y.1) y) else
    (if isEP y then l else l.take (cntQ l y.1) ++ (y :: l.drop (cntQ l y.1)))
  | [], y => by
    unfold pput foundQ cntQ
    simp
  | p :: l, y => by
    unfold foundQ
    rw [cntQ_cons]
    unfold pput
    by_cases hp : p.1 < y.1
    · rw [if_pos hp, if_pos hp, pput_cnt l y]
      unfold foundQ
      simp only [List.length_cons, Nat.add_lt_add_iff_right, List.getD_cons_succ, List.take_succ_cons, List.drop_succ_cons, List.set_cons_succ]
      split
      · split <;> rfl
      · split <;> rfl
    · rw [if_neg hp, if_neg hp]
      simp only [List.length_cons, List.getD_cons_zero, Nat.zero_lt_succ, true_and, List.take_zero, List.drop_zero, List.nil_append, List.set_cons_zero, Nat.zero_add, List.drop_succ_cons]
def DistP (m : List PayT) : Prop := m.Pairwise fun x y => x.1 ≠ y.1
def psort (m : List PayT) : List PayT := m.foldl pput []
theorem pget_fold : ∀ {m o : List PayT} (a : Int), DistP m → SrtP o → ((∀ x ∈ m, x.1 ≠ a) ∧ pget (m.foldl pput o) a = pget o a) ∨ ((∃ x ∈ m, x.1 = a) ∧ pget (m.foldl pput o) a = pget m a)
  | [], o, a, _, _ => .inl ⟨fun x h => by simp at h, rfl⟩
  | y :: m, o, a, hd, ho => by
    have hd' := List.pairwise_cons.1 hd
    show ((∀ x ∈ y :: m, x.1 ≠ a) ∧ pget (m.foldl pput (pput o y)) a = pget o a) ∨ ((∃ x ∈ y :: m, x.1 = a) ∧ pget (m.foldl pput (pput o y)) a = pget (y :: m) a)
    rcases pget_fold (m := m) (o := pput o y) a hd'.2 (srt_pput ho) with ⟨h1, h2⟩ | ⟨⟨z, hz, h1⟩, h2⟩
    · rw [h2, pget_pput ho]
      by_cases ha : a = y.1
      · rw [if_pos ha]
        exact .inr ⟨⟨y, by simp, ha.symm⟩, by rw [ha, pget_head]⟩
      · rw [if_neg ha]
        refine .inl ⟨fun x hx => ?_, rfl⟩
        rcases List.mem_cons.1 hx with rfl | hx
        · exact fun h => ha h.symm
        · exact h1 x hx
    · refine .inr ⟨⟨z, by simp [hz], h1⟩, ?_⟩
      rw [h2]
      simp only [pget]
      rw [if_neg]
      have := hd'.1 z hz
      rw [h1] at this
      exact this
theorem pget_psort {m : List PayT} (h : DistP m) (a : Int) : pget (psort m) a = pget m a := by
  rcases pget_fold (o := []) a h List.Pairwise.nil with ⟨h1, h2⟩ | ⟨_, h2⟩
  · exact h2.trans (by rw [pget_absent h1]; rfl)
  · exact h2
end Go.Pon
set_option autoImplicit false
set_option linter.unusedVariables false
set_option linter.unusedSimpArgs false
set_option maxRecDepth 10000
namespace Go.Pon
open Go
def len8 : List Int := [0, 1, 2, 2, 3, 3, 3, 3, 4, 4, 4, 4, 4, 4, 4, 4, 5, 5, 5, 5, 5, 5, 5, 5, 5, 5, 5, 5, 5, 5, 5, 5, 6, 6, 6, 6, 6, 6, 6, 6, 6, 6, 6, 6, 6, 6, 6, 6, 6, 6, 6, 6, 6, 6, 6, 6, 6, 6, 6, 6, 6, 6, 6, 6, 7, 7, 7, 7, 7, 7, 7, 7, 7, 7, 7, 7, 7, 7, 7, 7, 7, 7, 7, 7, 7, 7, 7, 7, 7, 7, 7, 7, 7, 7, 7, 7, 7, 7, 7, 7, 7, 7, 7, 7, 7, 7, 7, 7, 7, 7, 7, 7, 7, 7, 7, 7, 7, 7, 7, 7, 7, 7, 7, 7, 7, 7, 7, 7, 8, 8, 8, 8, 8, 8, 8, 8, 8, 8, 8, 8, 8, 8, 8, 8, 8, 8, 8, 8, 8, 8, 8, 8, 8, 8, 8, 8, 8, 8, 8, 8, 8, 8, 8, 8, 8, 8, 8, 8, 8, 8, 8, 8, 8, 8, 8, 8, 8, 8, 8, 8, 8, 8, 8, 8, 8, 8, 8, 8, 8, 8, 8, 8, 8, 8, 8, 8, 8, 8, 8, 8, 8, 8, 8, 8, 8, 8, 8, 8, 8, 8, 8, 8, 8, 8, 8, 8, 8, 8, 8, 8, 8, 8, 8, 8, 8, 8, 8, 8, 8, 8, 8, 8, 8, 8, 8, 8, 8, 8, 8, 8, 8, 8, 8, 8, 8, 8, 8, 8, 8, 8, 8, 8, 8, 8, 8, 8]
theorem len8_at : ∀ i, i < 256 → len8.getD i 0 = ((bitlen i : Nat) : Int) := by decide
theorem len8_int {x : Int} (h1 : 0 ≤ x) (h2 : x < 256) : len8.getD x.toNat 0 = ((bitlen x.toNat : Nat) : Int) := len8_at _ (by omega)
theorem bitlen_small {n : Nat} (h : n < 256) : bitlen n ≤ 8 := bitlen_le.2 (by omega)
theorem len64_case {x : Int} (k : Nat) (q : Int) (hk : k ≤ 56) (h0 : 0 ≤ x) (h1 : ((2 ^ k : Nat) : Int) ≤ x ∨ k = 0) (hq : q = x / ((2 ^ k : Nat) : Int)) (h2 : q < 256) :
    brR (inR (IntKind.wrap .u8 q) 256) (some ((IntKind.wrap .i64 ((k : Int) + IntKind.wrap .i64 (List.getD len8 (Int.toNat (IntKind.wrap .u8 q)) 0)), ()), ((), ()))) (none : Option ((Int × Unit) × (Unit × Unit))) = some ((((bitlen x.toNat : Nat) : Int), ()), ((), ())) := by
  obtain ⟨n, rfl⟩ := Int.eq_ofNat_of_zero_le h0
  have hq0 : 0 ≤ q := by rw [hq]; exact Int.ediv_nonneg h0 (Int.natCast_nonneg _)
  have hqn : q.toNat = n / 2 ^ k := by rw [hq, ← Int.natCast_ediv, Int.toNat_natCast]
  rw [w_u8 hq0 (by omega), brR_inR, if_pos ⟨hq0, h2⟩, len8_int hq0 h2, hqn]
  have hs : bitlen (n / 2 ^ k) ≤ 8 := bitlen_small (by omega)
  rw [w_i64 (n := ((bitlen (n / 2 ^ k) : Nat) : Int)) (by omega) (by omega), w_i64 (by omega) (by omega), Int.toNat_natCast]
  have : bitlen n = k + bitlen (n / 2 ^ k) := by
    rcases h1 with h1 | rfl
    · exact bitlen_div (by omega)
    · simp
  rw [this]; simp
theorem fdiv_pos {a b : Int} (h : 0 ≤ b) : Int.fdiv a b = a / b := Int.fdiv_eq_ediv_of_nonneg _ h
theorem len64_eq {x : Int} (h0 : 0 ≤ x) (h1 : x ≤ 18446744073709551615) : sol_math_bits_Len64 (x, ()) = some ((((bitlen x.toNat : Nat) : Int), ()), ((), ())) := by
  unfold sol_math_bits_Len64 T_math_bits_Len64
  simp only [letR_eq, brR_dec, ge_iff_le, fdiv_pos (show (0 : Int) ≤ 4294967296 by omega), fdiv_pos (show (0 : Int) ≤ 65536 by omega), fdiv_pos (show (0 : Int) ≤ 256 by omega)]
  repeat' split
  · exact len64_case 56 _ (by omega) h0 (.inl (by omega)) (by omega) (by omega)
  · exact len64_case 48 _ (by omega) h0 (.inl (by omega)) (by omega) (by omega)
  · exact len64_case 40 _ (by omega) h0 (.inl (by omega)) (by omega) (by omega)
  · exact len64_case 32 _ (by omega) h0 (.inl (by omega)) (by omega) (by omega)
  · exact len64_case 24 _ (by omega) h0 (.inl (by omega)) (by omega) (by omega)
  · exact len64_case 16 _ (by omega) h0 (.inl (by omega)) (by omega) (by omega)
  · exact len64_case 8 _ (by omega) h0 (.inl (by omega)) (by omega) (by omega)
  · exact len64_case 0 _ (by omega) h0 (.inr rfl) (by omega) (by omega)
theorem bitlen_256 {n : Nat} (h : n < 115792089237316195423570985008687907853269984665640564039457584007913129639936) : bitlen n ≤ 256 := bitlen_le.2 h
theorem pow64 (k : Nat) : 18446744073709551616 ^ k = 2 ^ (64 * k) := by rw [show (18446744073709551616 : Nat) = 2 ^ 64 from rfl, ← Nat.pow_mul]
theorem bitLen_eq {n : Nat} (hn : n < 115792089237316195423570985008687907853269984665640564039457584007913129639936) : sol_uint256_BitLen (lim n, ()) = some ((((bitlen n : Nat) : Int), ()), ((), ())) := by
  unfold sol_uint256_BitLen T_uint256_BitLen
  refine bigLoop_rule (I := fun x => x.1 = lim n ∧ -1 ≤ x.2.1 ∧ x.2.1 ≤ 3 ∧ n < 18446744073709551616 ^ (x.2.1 + 1).toNat) (m := fun x => (x.2.1 + 1).toNat) (g := fun _ => some ((((bitlen n : Nat) : Int), ()), ((), ()))) ?_ ⟨rfl, by simp only; omega, by simp only; omega, hn⟩ (by simp only [bigN_eq]; omega)
  rintro ⟨a, i, _⟩ again ⟨h1, h2, h3, h4⟩ hag
  simp only at h1 h2 h3 h4 hag ⊢
  subst h1
  simp only [T_uint256_BitLen_loop0, brR_dec, brR_not, brR_inR, ge_iff_le]
  by_cases hi : 0 ≤ i
  · obtain ⟨j, rfl⟩ := Int.eq_ofNat_of_zero_le hi
    have e1 : ((j : Int) + 1).toNat = j + 1 := by omega
    rw [e1] at h4
    rw [if_pos hi, if_pos ⟨hi, by omega⟩, Int.toNat_natCast, lim_getD hn (by omega)]
    have hp : 0 < 18446744073709551616 ^ j := Nat.pow_pos (by omega)
    have hlt : n / 18446744073709551616 ^ j < 18446744073709551616 := by
      rw [Nat.div_lt_iff_lt_mul hp, Nat.mul_comm, ← Nat.pow_succ]; exact h4
    rw [Nat.mod_eq_of_lt hlt]
    by_cases hz : n / 18446744073709551616 ^ j = 0
    · rw [if_pos (by omega), w_i64 (by omega) (by omega)]
      refine hag _ ⟨rfl, by simp only; omega, by simp only; omega, ?_⟩ (by simp only; omega)
      simp only
      rw [show ((j : Int) - 1 + 1).toNat = j by omega]
      exact (Nat.div_eq_zero_iff.1 hz).resolve_left (by omega)
    · have hge : 2 ^ (64 * j) ≤ n := by
        rw [← pow64]
        rcases Nat.lt_or_ge n (18446744073709551616 ^ j) with h | h
        · exact absurd (Nat.div_eq_of_lt h) hz
        · exact h
      have hb := bitlen_div hge
      have := bitlen_256 hn
      rw [← pow64] at hb
      generalize n / 18446744073709551616 ^ j = q at *
      rw [if_neg (by omega), if_pos ⟨hi, by omega⟩, len64_eq (by omega) (by omega)]
      simp only [bind_some']
      rw [Int.toNat_natCast, w_i64 (n := 64 * (j : Int)) (by omega) (by omega), w_i64 (by omega) (by omega), hb]
      simp
  · have hz : i = -1 := by omega
    subst hz
    have : n = 0 := by simpa using h4
    subst this
    simp [bitlen_zero]
theorem fromUint64_eq {x : Int} (h0 : 0 ≤ x) (h1 : x ≤ 18446744073709551615) : sol_uint256_FromUint64 (x, ()) = some ((lim x.toNat, ()), ((), ())) := by
  unfold sol_uint256_FromUint64 T_uint256_FromUint64
  rw [lim_small h0 h1]
end Go.Pon
set_option autoImplicit false
set_option linter.unusedVariables false
set_option linter.unusedSimpArgs false
namespace Go.Pon
open Go
theorem u8_size : (Ty.int IntKind.u8).size = 1 := rfl
theorem brR_room8 {α : Type} {n : Nat} (h : n ≤ 1099511627776) (a b : Option α) : brR (roomy n (.int .u8)) a b = a := by
  rw [brR_roomy, u8_size, if_pos ⟨by omega, by omega⟩]
theorem grow_eq {n : Int} (h0 : 0 ≤ n) (h1 : n ≤ 1099511627776) : sol_slices_Grow_byte_byte ((), (n, ())) = some (([], ()), ((), ((), ()))) := by
  unfold sol_slices_Grow_byte_byte T_slices_Grow_byte_byte
  simp only [letR_eq, brR_dec, brR_and, Int.sub_zero]
  rw [if_neg (by omega), w_i64 (n := n) (by omega) (by omega)]
  split
  · rw [brR_room8 (by omega), brR_true, if_pos (by omega)]; rfl
  · rfl
theorem take_succ_flatten {ls : List (List Int)} {i : Nat} (h : i < ls.length) : (ls.take (i + 1)).flatten = (ls.take i).flatten ++ ls.getD i [] := by
  rw [List.take_succ_eq_append_getElem h, List.flatten_append, List.getD_eq_getElem?_getD, List.getElem?_eq_getElem h]; simp
theorem take_flatten_le (ls : List (List Int)) (i : Nat) : (ls.take i).flatten.length ≤ ls.flatten.length := by
  have : (ls.take i ++ ls.drop i).flatten = ls.flatten := by rw [List.take_append_drop]
  rw [← this, List.flatten_append, List.length_append]; omega
theorem concat_loop {ls : List (List Int)} (h : ls.flatten.length ≤ 1099511627776) (hn : ls.length ≤ 1099511627776) :
    bigLoop _ _ (fun again x => T_slices_Concat_byte_byte_loop1 again x.1 x.2.1 x.2.2.1 x.2.2.2.1) (([] : List Int), (ls, (((ls.length : Nat) : Int), ((0 : Int), ())))) = some ((ls.flatten, ()), ((), ())) := by
  refine bigLoop_rule (I := fun x => x.2.1 = ls ∧ x.2.2.1 = ((ls.length : Nat) : Int) ∧ (0 : Int) ≤ x.2.2.2.1 ∧ x.2.2.2.1 ≤ ((ls.length : Nat) : Int) ∧ x.1 = (ls.take x.2.2.2.1.toNat).flatten) (m := fun x => ((ls.length : Int) - x.2.2.2.1).toNat) (g := fun _ => some ((ls.flatten, ()), ((), ()))) ?_ ⟨rfl, rfl, by simp only; omega, by simp only; omega, rfl⟩ (by simp only [bigN_eq]; omega)
  rintro ⟨new, l, n, i, _⟩ again ⟨h1, h2, h3, h4, h5⟩ hag
  simp only at h1 h2 h3 h4 h5 hag ⊢
  subst h1 h2 h5
  obtain ⟨j, rfl⟩ := Int.eq_ofNat_of_zero_le h3
  simp only [T_slices_Concat_byte_byte_loop1, brR_dec, brR_inR, Int.toNat_natCast, append_def]
  by_cases hi : j < l.length
  · have e := take_succ_flatten hi
    have hle := take_flatten_le l (j + 1)
    rw [e] at hle
    rw [if_pos (by omega), if_pos ⟨h3, by omega⟩, brR_room8 (by rw [← List.length_append]; omega), ← e, w_i64 (by omega) (by omega)]
    exact hag _ ⟨rfl, rfl, by simp only; omega, by simp only; omega, rfl⟩ (by simp only; omega)
  · rw [if_neg (by omega), List.take_of_length_le (by omega)]
theorem concat_eq {ls : List (List Int)} (h : ls.flatten.length ≤ 1099511627776) (hn : ls.length ≤ 1099511627776) : sol_slices_Concat_byte_byte (ls, ()) = some ((ls.flatten, ()), ((), ())) := by
  unfold sol_slices_Concat_byte_byte T_slices_Concat_byte_byte
  refine bigLoop_rule (I := fun x => x.1 = ls ∧ x.2.2.1 = ls ∧ x.2.2.2.1 = ((ls.length : Nat) : Int) ∧ (0 : Int) ≤ x.2.2.2.2.1 ∧ x.2.2.2.2.1 ≤ ((ls.length : Nat) : Int) ∧ x.2.1 = (((ls.take x.2.2.2.2.1.toNat).flatten.length : Nat) : Int)) (m := fun x => ((ls.length : Int) - x.2.2.2.2.1).toNat) (g := fun _ => some ((ls.flatten, ()), ((), ()))) ?_
    ⟨rfl, rfl, rfl, by simp only; omega, by simp only; omega, rfl⟩ (by simp only [bigN_eq]; omega)
  rintro ⟨l, size, l', n, i, _⟩ again ⟨h1, h2, h3, h4, h5, h6⟩ hag
  simp only at h1 h2 h3 h4 h5 h6 hag ⊢
  subst h2 h1 h3 h6
  obtain ⟨j, rfl⟩ := Int.eq_ofNat_of_zero_le h4
  simp only [T_slices_Concat_byte_byte_loop0, letR_eq, brR_dec, brR_inR, Int.toNat_natCast]
  by_cases hi : j < l.length
  · have e := take_succ_flatten hi
    have hle := take_flatten_le l (j + 1)
    rw [e, List.length_append] at hle
    rw [if_pos (by omega), if_pos ⟨h4, by omega⟩, w_i64 (by omega) (by omega), if_neg (by omega), w_i64 (by omega) (by omega)]
    refine hag _ ⟨rfl, rfl, rfl, by simp only; omega, by simp only; omega, ?_⟩ (by simp only; omega)
    simp only
    rw [show ((j : Int) + 1).toNat = j + 1 by omega, e, List.length_append]; omega
  · have hle := take_flatten_le l j
    rw [if_neg (by omega), grow_eq (by omega) (by omega)]
    simp only [bind_some']
    exact concat_loop h hn
end Go.Pon
set_option autoImplicit false
set_option linter.unusedVariables false
set_option linter.unusedSimpArgs false
namespace Go.Pon
open Go
theorem limb_byte (n j : Nat) : (n / 18446744073709551616 ^ (j / 8) % 18446744073709551616) / 2 ^ (8 * (j % 8)) % 256 = n / 256 ^ j % 256 := by
  rw [pow64, pow256, show (18446744073709551616 : Nat) = 2 ^ 64 from rfl, show (256 : Nat) = 2 ^ 8 from rfl]
  apply Nat.eq_of_testBit_eq
  intro k
  simp only [Nat.testBit_mod_two_pow, Nat.testBit_div_two_pow]
  by_cases hk : k < 8
  · rw [show decide (k + 8 * (j % 8) < 64) = true by simp; omega, show k + 8 * (j % 8) + 64 * (j / 8) = k + 8 * j by omega]; simp
  · simp [hk]
theorem byte_out {n j : Nat} (hn : n < 115792089237316195423570985008687907853269984665640564039457584007913129639936) (hj : j < 32) :
    IntKind.wrap .u8 (Int.fdiv ((lim n).getD (j / 8) 0) ((2 : Int) ^ (min (8 * (j % 8)) 64))) = ((n / 256 ^ j % 256 : Nat) : Int) := by
  rw [lim_getD hn (by omega), Nat.min_eq_left (by omega), IntKind.wrap_u8, Int.fdiv_eq_ediv_of_nonneg _ (Int.pow_nonneg (by omega)), ← limb_byte n j]
  rfl
theorem encode_loop {n : Nat} (hn : n < 115792089237316195423570985008687907853269984665640564039457584007913129639936) {k : Nat} (hk : k ≤ 32) {out : List Int} (ho : out.length ≤ 100) :
    bigLoop _ _ (fun again x => T_wire_encode_loop0 again x.1 x.2.1 x.2.2.1) (lim n, (out, (((k : Nat) : Int) - 1, ()))) = some ((out ++ beB k n, ()), ((), ())) := by
  refine Eq.trans (bigLoop_rule (I := fun x => x.1 = lim n ∧ (-1 : Int) ≤ x.2.2.1 ∧ x.2.2.1 ≤ (31 : Int) ∧ (x.2.1.length : Int) + x.2.2.1 ≤ (131 : Int)) (m := fun x => (x.2.2.1 + 1).toNat) (g := fun x => some ((x.2.1 ++ beB (x.2.2.1 + 1).toNat n, ()), ((), ()))) ?_
    ⟨rfl, by simp only; omega, by simp only; omega, by simp only; omega⟩ (by simp only [bigN_eq]; omega)) ?_
  · rintro ⟨l, o, i, _⟩ again ⟨h1, h2, h3, h4⟩ hag
    simp only at h1 h2 h3 h4 hag ⊢
    subst h1
    simp only [T_wire_encode_loop0, letR_eq, brR_dec, brR_inR, ge_iff_le, append_def]
    by_cases hi : 0 ≤ i
    · obtain ⟨j, rfl⟩ := Int.eq_ofNat_of_zero_le hi
      rw [if_pos hi, tdiv_pos hi, tmod_pos hi, w_i64 (n := (j : Int) / 8) (by omega) (by omega), w_i64 (n := 8 * ((j : Int) % 8)) (by omega) (by omega), if_pos (by omega), if_pos (by omega), brR_room8 (by omega), w_i64 (by omega) (by omega)]
      rw [show ((j : Int) / 8).toNat = j / 8 by omega, show (8 * ((j : Int) % 8)).toNat = 8 * (j % 8) by omega, byte_out hn (by omega)]
      rw [hag _ ⟨rfl, by simp only; omega, by simp only; omega, by simp only [List.length_append, List.length_singleton]; omega⟩ (by simp only; omega)]
      simp only
      rw [show ((j : Int) - 1 + 1).toNat = j by omega, show ((j : Int) + 1).toNat = j + 1 by omega, beB]; simp
    · have : i = -1 := by omega
      subst this
      simp [beB]
  · simp only
    rw [show ((k : Int) - 1 + 1).toNat = k by omega]
def enc (n : Nat) : List Int := ((bylen n : Nat) : Int) :: beB (bylen n) n
theorem len_enc {n : Nat} : (enc n).length = 1 + bylen n := by simp [enc, len_beB]; omega
theorem encode_eq {n : Nat} (hn : n < 115792089237316195423570985008687907853269984665640564039457584007913129639936) : sol_wire_encode (lim n, ()) = some ((enc n, ()), ((), ())) := by
  unfold sol_wire_encode T_wire_encode
  have h1 := bitlen_256 hn
  have h2 := bylen_256 hn
  have h3 : ((bitlen n : Nat) : Int) + 7 = ((bitlen n + 7 : Nat) : Int) := by omega
  rw [bitLen_eq hn]
  simp only [bind_some', letR_eq]
  rw [w_i64 (n := ((bitlen n : Nat) : Int) + 7) (by omega) (by omega), tdiv_pos (by omega), w_i64 (n := (((bitlen n : Nat) : Int) + 7) / 8) (by omega) (by omega), w_i64 (by omega) (by omega), w_u8 (by omega) (by omega)]
  rw [show (((bitlen n : Nat) : Int) + 7) / 8 = ((bylen n : Nat) : Int) by unfold bylen; omega]
  exact encode_loop hn h2 (by simp)
theorem appendUint256_eq {b : List Int} (hb : b.length ≤ 1000000000) {n : Nat} (hn : n < 115792089237316195423570985008687907853269984665640564039457584007913129639936) :
    sol_wire_AppendUint256 (b, (lim n, ())) = some ((b ++ enc n, ()), ((), ((), ()))) := by
  unfold sol_wire_AppendUint256 T_wire_AppendUint256
  have h2 := bylen_256 hn
  rw [encode_eq hn]
  simp only [bind_some']
  rw [concat_eq (by simp [len_enc]; omega) (by simp)]
  simp [bind_some']
theorem appendUint64_eq {b : List Int} (hb : b.length ≤ 1000000000) {n : Int} (h0 : 0 ≤ n) (h1 : n ≤ 18446744073709551615) :
    sol_wire_AppendUint64 (b, (n, ())) = some ((b ++ enc n.toNat, ()), ((), ((), ()))) := by
  unfold sol_wire_AppendUint64 T_wire_AppendUint64
  rw [fromUint64_eq h0 h1]
  simp only [bind_some']
  rw [appendUint256_eq hb (by omega)]
  simp [bind_some']
def Bytes (b : List Int) : Prop := ∀ x ∈ b, 0 ≤ x ∧ x ≤ 255
theorem Bytes.drop {b : List Int} (h : Bytes b) (i : Nat) : Bytes (b.drop i) := fun x hx => h x (List.mem_of_mem_drop hx)
theorem Bytes.take {b : List Int} (h : Bytes b) (i : Nat) : Bytes (b.take i) := fun x hx => h x (List.mem_of_mem_take hx)
theorem Bytes.at {b : List Int} (h : Bytes b) (i : Nat) : 0 ≤ b.getD i 0 ∧ b.getD i 0 ≤ 255 := getD_all (p := fun x => 0 ≤ x ∧ x ≤ 255) h (by omega) i
theorem Bytes.append {a b : List Int} (ha : Bytes a) (hb : Bytes b) : Bytes (a ++ b) := fun x hx => by
  rcases List.mem_append.1 hx with h | h
  · exact ha x h
  · exact hb x h
theorem eqD_lim (n m : Nat) : eqD (.arr 4 (.int .u64)) (lim n) (lim m) = decide (n = m) := by
  rw [Bool.eq_iff_iff, eqD_iff]; exact lim_inj.trans (by simp)
end Go.Pon
set_option autoImplicit false
set_option linter.unusedVariables false
set_option linter.unusedSimpArgs false
namespace Go.Pon
open Go
theorem mod_eq {x n : Int} (h0 : -9223372036854775808 ≤ x) (h1 : x ≤ 9223372036854775807) (h2 : 1 ≤ n) (h3 : n ≤ 9223372036854775807) :
    sol_law0_Mod (x, (n, ())) = some ((((x % 18446744073709551616) % n, ()), ((), ((), ())))) := by
  unfold sol_law0_Mod T_law0_Mod
  simp only [letR_eq, brR_dec]
  rw [w_u64 (n := n) (by omega) (by omega), if_pos (by omega), IntKind.wrap_u64, tmod_pos (by omega), w_i64]
  · have := Int.emod_nonneg (x % 18446744073709551616) (b := n) (by omega); omega
  · have := Int.emod_lt_of_pos (x % 18446744073709551616) (b := n) (by omega); omega
theorem lim_of {a b c d : Int} (ha : 0 ≤ a ∧ a ≤ 18446744073709551615) (hb : 0 ≤ b ∧ b ≤ 18446744073709551615) (hc : 0 ≤ c ∧ c ≤ 18446744073709551615) (hd : 0 ≤ d ∧ d ≤ 18446744073709551615) :
    ∃ n, n < 115792089237316195423570985008687907853269984665640564039457584007913129639936 ∧ [a, b, c, d] = lim n :=
  u256_wf (l := [a, b, c, d]) ⟨rfl, by
    intro y hy
    simp only [List.mem_cons, List.not_mem_nil, or_false] at hy
    rcases hy with rfl | rfl | rfl | rfl <;> exact inK_u64.2 (by assumption)⟩
theorem mod_range {x n : Int} (h : 1 ≤ n) : 0 ≤ x % 18446744073709551616 % n ∧ x % 18446744073709551616 % n < n := ⟨Int.emod_nonneg _ (by omega), Int.emod_lt_of_pos _ (by omega)⟩
end Go.Pon
set_option autoImplicit false
set_option linter.unusedVariables false
set_option linter.unusedSimpArgs false
namespace Go.Pon
open Go
theorem add64_eq {x y c : Int} (hc : c ≤ 1) : sol_math_bits_Add64 (x, (y, (c, ()))) = some (((x + y + c) % 18446744073709551616, ((x + y + c) / 18446744073709551616, ())), ((), ((), ((), ())))) := by
  unfold sol_math_bits_Add64 T_math_bits_Add64 addC
  simp only
  rw [if_pos hc]
  rfl
theorem sub64_eq {x y c : Int} (hc : c ≤ 1) : sol_math_bits_Sub64 (x, (y, (c, ()))) = some (((x - y - c) % 18446744073709551616, ((if x < y + c then 1 else 0), ())), ((), ((), ((), ())))) := by
  unfold sol_math_bits_Sub64 T_math_bits_Sub64 subC
  simp only
  rw [if_pos hc]
  rfl
def lb (n i : Nat) : Nat := n / 18446744073709551616 ^ i % 18446744073709551616
theorem lb_get {n q : Nat} (hn : n < 115792089237316195423570985008687907853269984665640564039457584007913129639936) (hq : q < 4) : List.getD (lim n) q 0 = ((lb n q : Nat) : Int) := by
  unfold lim lb
  match q, hq with
  | 0, _ => simp
  | 1, _ => simp
  | 2, _ => simp only [List.getD_cons_succ, List.getD_cons_zero, Nat.reducePow]
  | 3, _ =>
    simp only [List.getD_cons_succ, List.getD_cons_zero, Nat.reducePow]
    omega
def limbs (k i n : Nat) : List Int := ((List.range i).map fun j => ((lb n j : Nat) : Int)) ++ List.replicate (k - i) 0
theorem limbs_zero (k n : Nat) : limbs k 0 n = List.replicate k 0 := by simp [limbs]
theorem limbs_set {k i n : Nat} (h : i < k) : List.set (limbs k i n) i ((lb n i : Nat) : Int) = limbs k (i + 1) n := by
  unfold limbs
  rw [List.set_append, if_neg (by simp), List.length_map, List.length_range, Nat.sub_self, show k - i = (k - (i + 1)) + 1 by omega, List.replicate_succ, List.set_cons_zero, List.range_succ]
  simp
theorem limbs_lim {n : Nat} (hn : n < 115792089237316195423570985008687907853269984665640564039457584007913129639936) : limbs 4 4 n = lim n := by
  refine ext_getD (d := 0) (by simp [limbs, lim]) fun j hj => ?_
  have hj4 : j < 4 := by simpa [limbs] using hj
  rw [lb_get hn hj4]
  simp [limbs, List.getD_eq_getElem?_getD, hj4]
theorem pow_step (n i : Nat) : n / 18446744073709551616 ^ (i + 1) = n / 18446744073709551616 ^ i / 18446744073709551616 := by rw [Nat.pow_succ, Nat.div_div_eq_div_mul]
theorem pow4 : (18446744073709551616 : Nat) ^ 4 = 115792089237316195423570985008687907853269984665640564039457584007913129639936 := by decide
theorem add_step {a b c i : Nat} (hc : c ≤ 1) (h : (a + b) / 18446744073709551616 ^ i = a / 18446744073709551616 ^ i + b / 18446744073709551616 ^ i + c) :
    (lb a i + lb b i + c) % 18446744073709551616 = lb (a + b) i ∧ (lb a i + lb b i + c) / 18446744073709551616 ≤ 1 ∧
      (a + b) / 18446744073709551616 ^ (i + 1) = a / 18446744073709551616 ^ (i + 1) + b / 18446744073709551616 ^ (i + 1) + (lb a i + lb b i + c) / 18446744073709551616 := by
  unfold lb
  rw [pow_step, pow_step, pow_step, h]
  generalize a / 18446744073709551616 ^ i = x
  generalize b / 18446744073709551616 ^ i = y
  refine ⟨by omega, by omega, by omega⟩
theorem add_cast {x y c : Nat} : ((((x : Nat) : Int) + ((y : Nat) : Int) + ((c : Nat) : Int)) % 18446744073709551616 = (((x + y + c) % 18446744073709551616 : Nat) : Int)) ∧ ((((x : Nat) : Int) + ((y : Nat) : Int) + ((c : Nat) : Int)) / 18446744073709551616 = (((x + y + c) / 18446744073709551616 : Nat) : Int)) := by omega
theorem uAdd_eq {a b : Nat} (ha : a < 115792089237316195423570985008687907853269984665640564039457584007913129639936) (hb : b < 115792089237316195423570985008687907853269984665640564039457584007913129639936) :
    sol_uint256_Add (lim a, (lim b, ())) = some ((if a + b < 115792089237316195423570985008687907853269984665640564039457584007913129639936 then (lim (a + b), ((0 : Int), ())) else ([(0 : Int), (0 : Int), (0 : Int), (0 : Int)], ((4 : Int), ()))), ((), ((), ()))) := by
  unfold sol_uint256_Add T_uint256_Add
  refine bigLoop_rule (I := fun x => ∃ i c : Nat, i ≤ 4 ∧ c ≤ 1 ∧ (a + b) / 18446744073709551616 ^ i = a / 18446744073709551616 ^ i + b / 18446744073709551616 ^ i + c ∧
      x = (lim a, (lim b, ([(0 : Int), (0 : Int), (0 : Int), (0 : Int)], (limbs 4 i (a + b), (((c : Nat) : Int), (((i : Nat) : Int), ())))))))
    (m := fun x => ((4 : Int) - x.2.2.2.2.2.1).toNat) (g := fun _ => some ((if a + b < 115792089237316195423570985008687907853269984665640564039457584007913129639936 then (lim (a + b), ((0 : Int), ())) else ([(0 : Int), (0 : Int), (0 : Int), (0 : Int)], ((4 : Int), ()))), ((), ((), ())))) ?_
    ⟨0, 0, by omega, by omega, by simp, by rw [limbs_zero]; rfl⟩ (by rw [bigN_eq]; simp only; omega)
  rintro x again ⟨i, c, hi, hc, hd, rfl⟩ hag
  simp only at hag ⊢
  unfold T_uint256_Add_loop0
  simp only [brR_dec, brR_inR, brR_not]
  by_cases h1 : ((i : Nat) : Int) < 4
  · obtain ⟨s1, s2, s3⟩ := add_step hc hd
    rw [if_pos h1, if_pos (by omega), if_pos (by omega), Int.toNat_natCast, lb_get ha (by omega), lb_get hb (by omega), add64_eq (by omega)]
    simp only [bind_some']
    rw [if_pos (by omega), add_cast.1, add_cast.2, s1, limbs_set (by omega), w_i64 (by omega) (by omega)]
    exact hag _ ⟨i + 1, _, by omega, s2, s3, by rw [Int.natCast_add]; rfl⟩ (by simp only; omega)
  · have hi4 : i = 4 := by omega
    subst hi4
    rw [pow4] at hd
    rw [if_neg h1]
    by_cases hs : a + b < 115792089237316195423570985008687907853269984665640564039457584007913129639936
    · rw [if_pos hs, if_pos (by omega), limbs_lim hs]
    · rw [if_neg hs, if_neg (by omega)]
theorem uSub_ok {a b : Nat} (ha : a < 115792089237316195423570985008687907853269984665640564039457584007913129639936) (hb : b ≤ a) :
    sol_uint256_Sub (lim a, (lim b, ())) = some ((lim (a - b), ((0 : Int), ())), ((), ((), ()))) := by
  obtain ⟨d, rfl⟩ := Nat.exists_eq_add_of_le hb
  rw [Nat.add_sub_cancel_left]
  unfold sol_uint256_Sub T_uint256_Sub
  refine bigLoop_rule (I := fun x => ∃ i c : Nat, i ≤ 4 ∧ c ≤ 1 ∧ (b + d) / 18446744073709551616 ^ i = b / 18446744073709551616 ^ i + d / 18446744073709551616 ^ i + c ∧
      x = (lim (b + d), (lim b, ([(0 : Int), (0 : Int), (0 : Int), (0 : Int)], (limbs 4 i d, (((c : Nat) : Int), (((i : Nat) : Int), ())))))))
    (m := fun x => ((4 : Int) - x.2.2.2.2.2.1).toNat) (g := fun _ => some ((lim d, ((0 : Int), ())), ((), ((), ())))) ?_
    ⟨0, 0, by omega, by omega, by simp, by rw [limbs_zero]; rfl⟩ (by rw [bigN_eq]; simp only; omega)
  rintro x again ⟨i, c, hi, hc, hd, rfl⟩ hag
  simp only at hag ⊢
  unfold T_uint256_Sub_loop0
  simp only [brR_dec, brR_inR, brR_not]
  by_cases h1 : ((i : Nat) : Int) < 4
  · have key : (((lb (b + d) i : Nat) : Int) - ((lb b i : Nat) : Int) - ((c : Nat) : Int)) % 18446744073709551616 = ((lb d i : Nat) : Int) ∧
        ∃ c' : Nat, c' ≤ 1 ∧ (if ((lb (b + d) i : Nat) : Int) < ((lb b i : Nat) : Int) + ((c : Nat) : Int) then (1 : Int) else 0) = ((c' : Nat) : Int) ∧ (b + d) / 18446744073709551616 ^ (i + 1) = b / 18446744073709551616 ^ (i + 1) + d / 18446744073709551616 ^ (i + 1) + c' := by
      unfold lb
      rw [pow_step, pow_step, pow_step, hd]
      generalize b / 18446744073709551616 ^ i = x
      generalize d / 18446744073709551616 ^ i = y
      refine ⟨by omega, ?_⟩
      by_cases hlt : (((x + y + c) % 18446744073709551616 : Nat) : Int) < ((x % 18446744073709551616 : Nat) : Int) + ((c : Nat) : Int)
      · exact ⟨1, by omega, by rw [if_pos hlt]; rfl, by omega⟩
      · exact ⟨0, by omega, by rw [if_neg hlt]; rfl, by omega⟩
    obtain ⟨s1, c', s2, s4, s3⟩ := key
    rw [if_pos h1, if_pos (by omega), if_pos (by omega), Int.toNat_natCast, lb_get ha (by omega), lb_get (by omega) (by omega), sub64_eq (by omega)]
    simp only [bind_some']
    rw [if_pos (by omega), s1, s4, limbs_set (by omega), w_i64 (by omega) (by omega)]
    exact hag _ ⟨i + 1, c', by omega, s2, s3, by rw [Int.natCast_add]; rfl⟩ (by simp only; omega)
  · have hi4 : i = 4 := by omega
    subst hi4
    rw [pow4] at hd
    rw [if_neg h1, if_pos (by omega), limbs_lim (by omega)]
theorem uSub_bad {a b : Nat} (ha : a < b) (hb : b < 115792089237316195423570985008687907853269984665640564039457584007913129639936) :
    sol_uint256_Sub (lim a, (lim b, ())) = some (([(0 : Int), (0 : Int), (0 : Int), (0 : Int)], ((4 : Int), ())), ((), ((), ()))) := by
  have ha2 : a < 115792089237316195423570985008687907853269984665640564039457584007913129639936 := by omega
  unfold sol_uint256_Sub T_uint256_Sub
  -- the borrow: what the low limbs lack
  refine bigLoop_rule (I := fun x => ∃ (i c : Nat) (s : List Int), i ≤ 4 ∧ s.length = 4 ∧ c ≤ 1 ∧ (c = 1 ↔ a % 18446744073709551616 ^ i < b % 18446744073709551616 ^ i) ∧
      x = (lim a, (lim b, ([(0 : Int), (0 : Int), (0 : Int), (0 : Int)], (s, (((c : Nat) : Int), (((i : Nat) : Int), ())))))))
    (m := fun x => ((4 : Int) - x.2.2.2.2.2.1).toNat) (g := fun _ => some (([(0 : Int), (0 : Int), (0 : Int), (0 : Int)], ((4 : Int), ())), ((), ((), ())))) ?_
    ⟨0, 0, [0, 0, 0, 0], by omega, rfl, by omega, by simp [Nat.mod_one], rfl⟩ (by rw [bigN_eq]; simp only; omega)
  rintro x again ⟨i, c, s, hi, hs, hc, hd, rfl⟩ hag
  simp only at hag ⊢
  unfold T_uint256_Sub_loop0
  simp only [brR_dec, brR_inR, brR_not]
  by_cases h1 : ((i : Nat) : Int) < 4
  · have ma : a % 18446744073709551616 ^ (i + 1) = a % 18446744073709551616 ^ i + 18446744073709551616 ^ i * lb a i := by rw [Nat.pow_succ, Nat.mod_mul]; rfl
    have mb : b % 18446744073709551616 ^ (i + 1) = b % 18446744073709551616 ^ i + 18446744073709551616 ^ i * lb b i := by rw [Nat.pow_succ, Nat.mod_mul]; rfl
    have p0 : 0 < 18446744073709551616 ^ i := Nat.pow_pos (by omega)
    have ra := Nat.mod_lt a p0; have rb := Nat.mod_lt b p0
    have hcmp : (((lb a i : Nat) : Int) < ((lb b i : Nat) : Int) + ((c : Nat) : Int)) ↔ a % 18446744073709551616 ^ (i + 1) < b % 18446744073709551616 ^ (i + 1) := by
      rw [ma, mb]
      generalize a % 18446744073709551616 ^ i = x at *
      generalize b % 18446744073709551616 ^ i = y at *
      generalize 18446744073709551616 ^ i = p at *
      generalize lb a i = u at *
      generalize lb b i = v at *
      rcases Nat.lt_trichotomy u v with h | h | h
      · have : p * (u + 1) ≤ p * v := Nat.mul_le_mul_left p h
        rw [Nat.mul_add, Nat.mul_one] at this
        constructor
        · intro _; omega
        · intro _; omega
      · subst h
        constructor
        · intro h; have : c = 1 := by omega
          have := hd.1 this; omega
        · intro h; have := hd.2 (by omega); omega
      · have : p * (v + 1) ≤ p * u := Nat.mul_le_mul_left p h
        rw [Nat.mul_add, Nat.mul_one] at this
        constructor
        · intro h'; omega
        · intro h'; omega
    rw [if_pos h1, if_pos (by omega), if_pos (by omega), Int.toNat_natCast, lb_get ha2 (by omega), lb_get hb (by omega), sub64_eq (by omega)]
    simp only [bind_some']
    rw [if_pos (by omega), w_i64 (by omega) (by omega)]
    by_cases hlt : ((lb a i : Nat) : Int) < ((lb b i : Nat) : Int) + ((c : Nat) : Int)
    · rw [if_pos hlt]
      exact hag _ ⟨i + 1, 1, (List.set s i ((((lb a i : Nat) : Int) - ((lb b i : Nat) : Int) - ((c : Nat) : Int)) % 18446744073709551616)), by omega, by rw [List.length_set]; exact hs, by omega, ⟨fun _ => hcmp.1 hlt, fun _ => rfl⟩, by rw [Int.natCast_add]; rfl⟩ (by simp only; omega)
    · rw [if_neg hlt]
      exact hag _ ⟨i + 1, 0, (List.set s i ((((lb a i : Nat) : Int) - ((lb b i : Nat) : Int) - ((c : Nat) : Int)) % 18446744073709551616)), by omega, by rw [List.length_set]; exact hs, by omega, ⟨fun h => by omega, fun h => absurd (hcmp.2 h) hlt⟩, by rw [Int.natCast_add]; rfl⟩ (by simp only; omega)
  · have hi4 : i = 4 := by omega
    subst hi4
    rw [pow4, Nat.mod_eq_of_lt ha2, Nat.mod_eq_of_lt hb] at hd
    have := hd.2 ha
    rw [if_neg h1, if_neg (by omega)]
end Go.Pon
set_option autoImplicit false
set_option linter.unusedVariables false
set_option linter.unusedSimpArgs false
namespace Go.Pon
open Go
theorem lim0 : lim 0 = [(0 : Int), (0 : Int), (0 : Int), (0 : Int)] := rfl
end Go.Pon
set_option autoImplicit false
set_option linter.unusedVariables false
set_option linter.unusedSimpArgs false
namespace Go.Pon
open Go
def sat (n : Nat) : Nat := if n < 115792089237316195423570985008687907853269984665640564039457584007913129639936 then n else 115792089237316195423570985008687907853269984665640564039457584007913129639935
theorem sat_of {n : Nat} (h : n < 115792089237316195423570985008687907853269984665640564039457584007913129639936) : sat n = n := if_pos h
theorem lim_max : lim 115792089237316195423570985008687907853269984665640564039457584007913129639935 = [(18446744073709551615 : Int), (18446744073709551615 : Int), (18446744073709551615 : Int), (18446744073709551615 : Int)] := by decide
theorem satAdd_eq {a b : Nat} (ha : B256 a) (hb : B256 b) : sol_uint256_SaturatingAdd (lim a, (lim b, ())) = some ((lim (sat (a + b)), ()), ((), ((), ()))) := by
  unfold B256 at ha hb
  unfold sol_uint256_SaturatingAdd T_uint256_SaturatingAdd
  rw [uAdd_eq ha hb]
  simp only [bind_some', brR_dec]
  unfold sat
  by_cases h : a + b < 115792089237316195423570985008687907853269984665640564039457584007913129639936
  · rw [if_pos h, if_pos rfl, if_pos h]
  · simp only [if_neg h]
    rw [if_neg (by decide)]
    unfold sol_uint256_maxValue T_uint256_maxValue
    rw [lim_max]; rfl
end Go.Pon
set_option autoImplicit false
set_option linter.unusedVariables false
set_option linter.unusedSimpArgs false
namespace Go.Pon
open Go
def xor32 (x y : Nat) : Nat := (x % 4294967296) ^^^ (y % 4294967296)
def and32 (x y : Nat) : Nat := (x % 4294967296) &&& (y % 4294967296)
def or32 (x y : Nat) : Nat := (x % 4294967296) ||| (y % 4294967296)
def add32 (x y : Nat) : Nat := (x + y) % 4294967296
def rotr (x n : Nat) : Nat := or32 (x * 2 ^ (32 - n) % 4294967296) (x / 2 ^ n)
theorem xor32_lt (x y : Nat) : xor32 x y < 4294967296 := Nat.xor_lt_two_pow (n := 32) (Nat.mod_lt _ (by omega)) (Nat.mod_lt _ (by omega))
theorem and32_lt (x y : Nat) : and32 x y < 4294967296 := Nat.and_lt_two_pow (n := 32) _ (Nat.mod_lt _ (by omega))
theorem or32_lt (x y : Nat) : or32 x y < 4294967296 := Nat.or_lt_two_pow (n := 32) (Nat.mod_lt _ (by omega)) (Nat.mod_lt _ (by omega))
theorem or32_comm (x y : Nat) : or32 x y = or32 y x := Nat.or_comm _ _
theorem add32_assoc (x y z : Nat) : add32 (add32 x y) z = add32 x (add32 y z) := by unfold add32; omega
theorem wu32_nat (x : Nat) : IntKind.wrap .u32 ((x : Nat) : Int) = ((x % 4294967296 : Nat) : Int) := by rw [IntKind.wrap_u32]; omega
theorem x32 (x y : Nat) : IntKind.wrap .u32 ((BitVec.toNat (BitVec.ofInt 32 ((x : Nat) : Int) ^^^ BitVec.ofInt 32 ((y : Nat) : Int)) : Nat) : Int) = ((xor32 x y : Nat) : Int) := by
  rw [BitVec.toNat_xor, BitVec.ofInt_natCast, BitVec.ofInt_natCast, BitVec.toNat_ofNat, BitVec.toNat_ofNat, wu32_nat, ← Nat.mod_eq_of_lt (xor32_lt x y)]; rfl
theorem n32 (x y : Nat) : IntKind.wrap .u32 ((BitVec.toNat (BitVec.ofInt 32 ((x : Nat) : Int) &&& BitVec.ofInt 32 ((y : Nat) : Int)) : Nat) : Int) = ((and32 x y : Nat) : Int) := by
  rw [BitVec.toNat_and, BitVec.ofInt_natCast, BitVec.ofInt_natCast, BitVec.toNat_ofNat, BitVec.toNat_ofNat, wu32_nat, ← Nat.mod_eq_of_lt (and32_lt x y)]; rfl
theorem o32 (x y : Nat) : IntKind.wrap .u32 ((BitVec.toNat (BitVec.ofInt 32 ((x : Nat) : Int) ||| BitVec.ofInt 32 ((y : Nat) : Int)) : Nat) : Int) = ((or32 x y : Nat) : Int) := by
  rw [BitVec.toNat_or, BitVec.ofInt_natCast, BitVec.ofInt_natCast, BitVec.toNat_ofNat, BitVec.toNat_ofNat, wu32_nat, ← Nat.mod_eq_of_lt (or32_lt x y)]; rfl
theorem a32 (x y : Nat) : IntKind.wrap .u32 (((x : Nat) : Int) + ((y : Nat) : Int)) = ((add32 x y : Nat) : Int) := by rw [← Int.natCast_add, wu32_nat]; rfl
theorem m32 (x c : Nat) : IntKind.wrap .u32 (((x : Nat) : Int) * ((c : Nat) : Int)) = ((x * c % 4294967296 : Nat) : Int) := by rw [← Int.natCast_mul, wu32_nat]
theorem d32 (x c : Nat) : Int.fdiv ((x : Nat) : Int) ((c : Nat) : Int) = ((x / c : Nat) : Int) := by rw [Int.fdiv_eq_ediv_of_nonneg _ (Int.natCast_nonneg _)]; rfl
def sig (r1 r2 s x : Nat) : Nat := xor32 (xor32 (rotr x r1) (rotr x r2)) (x / s)
def sum3 (r1 r2 r3 x : Nat) : Nat := xor32 (xor32 (rotr x r1) (rotr x r2)) (rotr x r3)
def word (b : List Int) (i : Nat) : Nat := (b.getD (4 * i) 0).toNat * 16777216 + (b.getD (4 * i + 1) 0).toNat * 65536 + (b.getD (4 * i + 2) 0).toNat * 256 + (b.getD (4 * i + 3) 0).toNat
def nextW (l : List Nat) (i : Nat) : Nat := add32 (add32 (add32 (l.getD (i - 16) 0) (sig 7 18 8 (l.getD (i - 15) 0))) (l.getD (i - 7) 0)) (sig 17 19 1024 (l.getD (i - 2) 0))
def sched (b : List Int) : Nat → List Nat
  | 0 => []
  | i + 1 => sched b i ++ [if i < 16 then word b i else nextW (sched b i) i]
def kTab : List Nat := [
  0x428a2f98, 0x71374491, 0xb5c0fbcf, 0xe9b5dba5, 0x3956c25b, 0x59f111f1, 0x923f82a4, 0xab1c5ed5,
  0xd807aa98, 0x12835b01, 0x243185be, 0x550c7dc3, 0x72be5d74, 0x80deb1fe, 0x9bdc06a7, 0xc19bf174,
  0xe49b69c1, 0xefbe4786, 0x0fc19dc6, 0x240ca1cc, 0x2de92c6f, 0x4a7484aa, 0x5cb0a9dc, 0x76f988da,
  0x983e5152, 0xa831c66d, 0xb00327c8, 0xbf597fc7, 0xc6e00bf3, 0xd5a79147, 0x06ca6351, 0x14292967,
  0x27b70a85, 0x2e1b2138, 0x4d2c6dfc, 0x53380d13, 0x650a7354, 0x766a0abb, 0x81c2c92e, 0x92722c85,
  0xa2bfe8a1, 0xa81a664b, 0xc24b8b70, 0xc76c51a3, 0xd192e819, 0xd6990624, 0xf40e3585, 0x106aa070,
  0x19a4c116, 0x1e376c08, 0x2748774c, 0x34b0bcb5, 0x391c0cb3, 0x4ed8aa4a, 0x5b9cca4f, 0x682e6ff3,
  0x748f82ee, 0x78a5636f, 0x84c87814, 0x8cc70208, 0x90befffa, 0xa4506ceb, 0xbef9a3f7, 0xc67178f2]
def iv : List Nat := [0x6a09e667, 0xbb67ae85, 0x3c6ef372, 0xa54ff53a, 0x510e527f, 0x9b05688c, 0x1f83d9ab, 0x5be0cd19]
def rnd (t : List Nat) (k w : Nat) : List Nat :=
  let a := t.getD 0 0; let b := t.getD 1 0; let c := t.getD 2 0; let e := t.getD 4 0; let f := t.getD 5 0; let g := t.getD 6 0
  let p := add32 (add32 (add32 (add32 (t.getD 7 0) (sum3 6 11 25 e)) (xor32 (and32 e f) (and32 (xor32 4294967295 e) g))) k) w
  [add32 (add32 p (sum3 2 13 22 a)) (xor32 (xor32 (and32 a b) (and32 a c)) (and32 b c)), a, b, c, add32 (t.getD 3 0) p, e, f, g]
def rounds (w s : List Nat) : Nat → List Nat
  | 0 => s
  | i + 1 => rnd (rounds w s i) (kTab.getD i 0) (w.getD i 0)
def addL (t s : List Nat) (i : Nat) : List Nat := (List.range 8).map fun j => if j < i then add32 (t.getD j 0) (s.getD j 0) else t.getD j 0
def comp (s : List Nat) (b : List Int) : List Nat := addL (rounds (sched b 64) s 64) s 8
def states (m : List Int) : Nat → List Nat
  | 0 => iv
  | i + 1 => comp (states m i) ((m.drop (64 * i)).take 64)
def padded (b : List Int) : List Int := b ++ 128 :: (List.replicate ((119 - b.length % 64) % 64) 0 ++ beB 8 (b.length * 8))
def shaOut (s : List Nat) : List Int := (List.range 32).map fun i => ((s.getD (i / 4) 0 / 2 ^ (24 - 8 * (i % 4)) % 256 : Nat) : Int)
def sha (b : List Int) : List Int := shaOut (states (padded b) ((padded b).length / 64))
theorem len_sha (b : List Int) : (sha b).length = 32 := by simp [sha, shaOut]
theorem bytes_sha (b : List Int) : Bytes (sha b) := by
  intro x hx
  simp only [sha, shaOut, List.mem_map] at hx
  obtain ⟨i, _, rfl⟩ := hx
  omega
end Go.Pon
set_option autoImplicit false
set_option linter.unusedVariables false
set_option linter.unusedSimpArgs false
set_option maxRecDepth 4000
namespace Go.Pon
open Go
def castL (l : List Nat) : List Int := l.map fun n => ((n : Nat) : Int)
theorem len_castL {l : List Nat} : (castL l).length = l.length := by simp [castL]
theorem castL_append {l m : List Nat} : castL (l ++ m) = castL l ++ castL m := by simp [castL]
theorem castL_getD {l : List Nat} {i : Nat} : (castL l).getD i 0 = ((l.getD i 0 : Nat) : Int) := by
  simp only [castL, List.getD_eq_getElem?_getD, List.getElem?_map]
  cases l[i]? <;> rfl
def part (l : List Nat) (n : Nat) : List Int := castL l ++ List.replicate (n - l.length) 0
theorem part_getD {l : List Nat} {n j : Nat} (h : j < l.length) : (part l n).getD j 0 = ((l.getD j 0 : Nat) : Int) := by
  rw [part, List.getD_eq_getElem?_getD, List.getElem?_append_left (by rw [len_castL]; exact h), ← List.getD_eq_getElem?_getD, castL_getD]
theorem part_set {l : List Nat} {n : Nat} (h : l.length < n) (x : Nat) : (part l n).set l.length ((x : Nat) : Int) = part (l ++ [x]) n := by
  have e : n - l.length = (n - (l.length + 1)) + 1 := by omega
  simp only [part, castL_append, List.length_append, List.length_singleton]
  rw [List.set_append, if_neg (by rw [len_castL]; omega), len_castL, Nat.sub_self, e, List.replicate_succ, List.set_cons_zero]
  simp [castL]
theorem part_full {l : List Nat} : part l l.length = castL l := by simp [part]
theorem part_nil {n : Nat} : part [] n = List.replicate n 0 := by simp [part, castL]
theorem len_sched (b : List Int) : ∀ i, (sched b i).length = i
  | 0 => rfl
  | i + 1 => by simp [sched, len_sched b i]
theorem rotl_eq (x n : Nat) (h1 : 1 ≤ n) (h2 : n ≤ 31) : sol_math_bits_RotateLeft32 (((x : Nat) : Int), (-((n : Nat) : Int), ())) = some ((((rotr x n : Nat) : Int), ()), ((), ((), ()))) := by
  unfold sol_math_bits_RotateLeft32 T_math_bits_RotateLeft32
  simp only [letR_eq]
  have e : ∀ n, n < 32 → 1 ≤ n → IntKind.wrap .u64 ((BitVec.toNat (BitVec.ofInt 64 (IntKind.wrap .u64 (-((n : Nat) : Int))) &&& BitVec.ofInt 64 31) : Nat) : Int) = ((32 - n : Nat) : Int) := by decide
  rw [e n (by omega) h1, brR_dec, if_pos (by omega), show (32 : Int) - ((32 - n : Nat) : Int) = ((n : Nat) : Int) by omega, w_u64 (by omega) (by omega), brR_dec, if_pos (by omega)]
  simp only [Int.toNat_natCast]
  have p : ∀ k : Nat, (2 : Int) ^ k = ((2 ^ k : Nat) : Int) := fun k => by rw [Int.natCast_pow]; rfl
  rw [Nat.min_eq_left (by omega), Nat.min_eq_left (by omega), p, p, m32, d32, o32]
  rfl
theorem rot7 (x : Nat) : sol_math_bits_RotateLeft32 (((x : Nat) : Int), ((-7 : Int), ())) = some ((((rotr x 7 : Nat) : Int), ()), ((), ((), ()))) := rotl_eq x 7 (by omega) (by omega)
theorem rot18 (x : Nat) : sol_math_bits_RotateLeft32 (((x : Nat) : Int), ((-18 : Int), ())) = some ((((rotr x 18 : Nat) : Int), ()), ((), ((), ()))) := rotl_eq x 18 (by omega) (by omega)
theorem rot17 (x : Nat) : sol_math_bits_RotateLeft32 (((x : Nat) : Int), ((-17 : Int), ())) = some ((((rotr x 17 : Nat) : Int), ()), ((), ((), ()))) := rotl_eq x 17 (by omega) (by omega)
theorem rot19 (x : Nat) : sol_math_bits_RotateLeft32 (((x : Nat) : Int), ((-19 : Int), ())) = some ((((rotr x 19 : Nat) : Int), ()), ((), ((), ()))) := rotl_eq x 19 (by omega) (by omega)
theorem rot6 (x : Nat) : sol_math_bits_RotateLeft32 (((x : Nat) : Int), ((-6 : Int), ())) = some ((((rotr x 6 : Nat) : Int), ()), ((), ((), ()))) := rotl_eq x 6 (by omega) (by omega)
theorem rot11 (x : Nat) : sol_math_bits_RotateLeft32 (((x : Nat) : Int), ((-11 : Int), ())) = some ((((rotr x 11 : Nat) : Int), ()), ((), ((), ()))) := rotl_eq x 11 (by omega) (by omega)
theorem rot25 (x : Nat) : sol_math_bits_RotateLeft32 (((x : Nat) : Int), ((-25 : Int), ())) = some ((((rotr x 25 : Nat) : Int), ()), ((), ((), ()))) := rotl_eq x 25 (by omega) (by omega)
theorem rot2 (x : Nat) : sol_math_bits_RotateLeft32 (((x : Nat) : Int), ((-2 : Int), ())) = some ((((rotr x 2 : Nat) : Int), ()), ((), ((), ()))) := rotl_eq x 2 (by omega) (by omega)
theorem rot13 (x : Nat) : sol_math_bits_RotateLeft32 (((x : Nat) : Int), ((-13 : Int), ())) = some ((((rotr x 13 : Nat) : Int), ()), ((), ((), ()))) := rotl_eq x 13 (by omega) (by omega)
theorem rot22 (x : Nat) : sol_math_bits_RotateLeft32 (((x : Nat) : Int), ((-22 : Int), ())) = some ((((rotr x 22 : Nat) : Int), ()), ((), ((), ()))) := rotl_eq x 22 (by omega) (by omega)
theorem d32_8 (x : Nat) : Int.fdiv ((x : Nat) : Int) 8 = ((x / 8 : Nat) : Int) := d32 x 8
theorem d32_1024 (x : Nat) : Int.fdiv ((x : Nat) : Int) 1024 = ((x / 1024 : Nat) : Int) := d32 x 1024
theorem not32 (x : Nat) : IntKind.wrap .u32 ((BitVec.toNat (BitVec.ofInt 32 4294967295 ^^^ BitVec.ofInt 32 ((x : Nat) : Int)) : Nat) : Int) = ((xor32 4294967295 x : Nat) : Int) := x32 4294967295 x
theorem word_or {p q r s : Int} (hp : 0 ≤ p ∧ p ≤ 255) (hq : 0 ≤ q ∧ q ≤ 255) (hr : 0 ≤ r ∧ r ≤ 255) (hs : 0 ≤ s ∧ s ≤ 255) :
    IntKind.wrap .u32 ((BitVec.toNat (BitVec.ofInt 32 (IntKind.wrap .u32 ((BitVec.toNat (BitVec.ofInt 32 (IntKind.wrap .u32 ((BitVec.toNat (BitVec.ofInt 32 (IntKind.wrap .u32 (IntKind.wrap .u32 p * 16777216)) ||| BitVec.ofInt 32 (IntKind.wrap .u32 (IntKind.wrap .u32 q * 65536))) : Nat) : Int)) |||
      BitVec.ofInt 32 (IntKind.wrap .u32 (IntKind.wrap .u32 r * 256))) : Nat) : Int)) ||| BitVec.ofInt 32 (IntKind.wrap .u32 s)) : Nat) : Int) = ((p.toNat * 16777216 + q.toNat * 65536 + r.toNat * 256 + s.toNat : Nat) : Int) := by
  obtain ⟨p, rfl⟩ := Int.eq_ofNat_of_zero_le hp.1
  obtain ⟨q, rfl⟩ := Int.eq_ofNat_of_zero_le hq.1
  obtain ⟨r, rfl⟩ := Int.eq_ofNat_of_zero_le hr.1
  obtain ⟨s, rfl⟩ := Int.eq_ofNat_of_zero_le hs.1
  rw [w_u32 (n := (p : Int)) (by omega) (by omega), w_u32 (n := (q : Int)) (by omega) (by omega), w_u32 (n := (r : Int)) (by omega) (by omega), w_u32 (n := (s : Int)) (by omega) (by omega)]
  rw [show ((p : Nat) : Int) * 16777216 = ((p * 16777216 : Nat) : Int) by omega, show ((q : Nat) : Int) * 65536 = ((q * 65536 : Nat) : Int) by omega, show ((r : Nat) : Int) * 256 = ((r * 256 : Nat) : Int) by omega]
  rw [w_u32 (n := ((p * 16777216 : Nat) : Int)) (by omega) (by omega), w_u32 (n := ((q * 65536 : Nat) : Int)) (by omega) (by omega), w_u32 (n := ((r * 256 : Nat) : Int)) (by omega) (by omega), o32, o32, o32]
  have o : ∀ (a b i : Nat), b < 2 ^ i → 2 ^ i * a + b < 4294967296 → or32 (2 ^ i * a) b = 2 ^ i * a + b := fun a b i h1 h2 => by
    unfold or32
    rw [Nat.mod_eq_of_lt (by omega), Nat.mod_eq_of_lt (by omega), Nat.two_pow_add_eq_or_of_lt h1]
  have e1 := o p (q * 65536) 24 (by omega) (by omega)
  have e2 := o (p * 256 + q) (r * 256) 16 (by omega) (by omega)
  have e3 := o (p * 65536 + q * 256 + r) s 8 (by omega) (by omega)
  rw [show p * 16777216 = 2 ^ 24 * p by omega, e1, show 2 ^ 24 * p + q * 65536 = 2 ^ 16 * (p * 256 + q) by omega, e2, show 2 ^ 16 * (p * 256 + q) + r * 256 = 2 ^ 8 * (p * 65536 + q * 256 + r) by omega, e3]
  simp only [Int.toNat_natCast]; omega
theorem schedule_eq {b : List Int} (hb : Bytes b) (hl : b.length = 64) : sol_hash_schedule (b, ()) = some ((castL (sched b 64), ()), ((), ())) := by
  unfold sol_hash_schedule T_hash_schedule
  have second : ∀ t2 : List Int, bigLoop _ _ (fun again x => T_hash_schedule_loop1 sol_math_bits_RotateLeft32 again x.1 x.2.1 x.2.2.1) (t2, (part (sched b 16) 64, ((16 : Int), ()))) = some ((castL (sched b 64), ()), ((), ())) := by
    intro t2
    refine bigLoop_rule (I := fun x => (16 : Int) ≤ x.2.2.1 ∧ x.2.2.1 ≤ (64 : Int) ∧ x.2.1 = part (sched b x.2.2.1.toNat) 64) (m := fun x => ((64 : Int) - x.2.2.1).toNat) (g := fun _ => some ((castL (sched b 64), ()), ((), ()))) ?_
      ⟨by simp only; omega, by simp only; omega, rfl⟩ (by simp only [bigN_eq]; omega)
    rintro ⟨t, w, i, _⟩ again ⟨e1, e2, e3⟩ hag
    simp only at e1 e2 e3 hag ⊢
    subst e3
    obtain ⟨i, rfl⟩ := Int.eq_ofNat_of_zero_le (show 0 ≤ i by omega)
    have hls := len_sched b i
    simp only [T_hash_schedule_loop1, letR_eq, brR_dec, brR_inR, Int.toNat_natCast]
    by_cases hi : i < 64
    · rw [if_pos (by omega), w_i64 (n := (i : Int) - 7) (by omega) (by omega), w_i64 (n := (i : Int) - 16) (by omega) (by omega), w_i64 (n := (i : Int) - 2) (by omega) (by omega), w_i64 (n := (i : Int) - 15) (by omega) (by omega), w_i64 (n := (i : Int) + 1) (by omega) (by omega)]
      rw [show ((i : Int) - 7).toNat = i - 7 by omega, show ((i : Int) - 16).toNat = i - 16 by omega, show ((i : Int) - 2).toNat = i - 2 by omega, show ((i : Int) - 15).toNat = i - 15 by omega]
      rw [if_pos (by omega), if_pos (by omega), part_getD (j := i - 7) (by omega), part_getD (j := i - 16) (by omega), part_getD (j := i - 2) (by omega), part_getD (j := i - 15) (by omega)]
      simp only [rot7, rot18, rot17, rot19, bind_some']
      rw [if_pos (by omega), if_pos (by omega), if_pos (by omega)]
      simp only [x32, d32_8, d32_1024, a32]
      have es : (part (sched b i) 64).set i ((nextW (sched b i) i : Nat) : Int) = part (sched b (i + 1)) 64 := by
        have := part_set (l := sched b i) (n := 64) (by omega) (nextW (sched b i) i)
        rw [hls] at this
        rw [this, sched, if_neg (by omega)]
      refine (congrArg again ?_).trans (hag (t, (part (sched b (i + 1)) 64, (((i : Int) + 1), ()))) ⟨by simp only; omega, by simp only; omega, by simp only; rw [show ((i : Int) + 1).toNat = i + 1 by omega]⟩ (by simp only; omega))
      rw [← es]; rfl
    · have : i = 64 := by omega
      subst this
      rw [if_neg (by omega)]
      have := part_full (l := sched b 64)
      rw [hls] at this
      rw [this]
  refine bigLoop_rule (I := fun x => x.1 = b ∧ (0 : Int) ≤ x.2.2.2.1 ∧ x.2.2.2.1 ≤ (16 : Int) ∧ x.2.2.1 = part (sched b x.2.2.2.1.toNat) 64) (m := fun x => ((16 : Int) - x.2.2.2.1).toNat) (g := fun _ => some ((castL (sched b 64), ()), ((), ()))) ?_
    ⟨rfl, by simp only; omega, by simp only; omega, by simp only; exact part_nil.symm⟩ (by simp only [bigN_eq]; omega)
  rintro ⟨b', t, w, i, _⟩ again ⟨e0, e1, e2, e3⟩ hag
  simp only at e0 e1 e2 e3 hag ⊢
  subst e0 e3
  obtain ⟨i, rfl⟩ := Int.eq_ofNat_of_zero_le e1
  have hls := len_sched b' i
  simp only [T_hash_schedule_loop0, letR_eq, brR_dec, brR_inR, Int.toNat_natCast]
  by_cases hi : i < 16
  · rw [if_pos (by omega), w_i64 (n := 4 * (i : Int)) (by omega) (by omega), w_i64 (n := 4 * (i : Int) + 3) (by omega) (by omega), w_i64 (n := 4 * (i : Int) + 2) (by omega) (by omega), w_i64 (n := 4 * (i : Int) + 1) (by omega) (by omega), w_i64 (n := (i : Int) + 1) (by omega) (by omega)]
    rw [show (4 * (i : Int)).toNat = 4 * i by omega, show (4 * (i : Int) + 1).toNat = 4 * i + 1 by omega, show (4 * (i : Int) + 2).toNat = 4 * i + 2 by omega, show (4 * (i : Int) + 3).toNat = 4 * i + 3 by omega]
    rw [if_pos (by omega), if_pos (by omega), if_pos (by omega), if_pos (by omega), if_pos (by omega), word_or (hb.at _) (hb.at _) (hb.at _) (hb.at _)]
    have es : (part (sched b' i) 64).set i ((word b' i : Nat) : Int) = part (sched b' (i + 1)) 64 := by
      have := part_set (l := sched b' i) (n := 64) (by omega) (word b' i)
      rw [hls] at this
      rw [this, sched, if_pos (by omega)]
    refine (congrArg again ?_).trans (hag (b', (t, (part (sched b' (i + 1)) 64, (((i : Int) + 1), ())))) ⟨rfl, by simp only; omega, by simp only; omega, by simp only; rw [show ((i : Int) + 1).toNat = i + 1 by omega]⟩ (by simp only; omega))
    rw [← es]; rfl
  · have : i = 16 := by omega
    subst this
    rw [if_neg (by omega)]
    exact second t
theorem len_rounds {w s : List Nat} (h : s.length = 8) : ∀ i, (rounds w s i).length = 8
  | 0 => h
  | i + 1 => rfl
theorem addL_set {t s : List Nat} {i : Nat} (hi : i < 8) : (castL (addL t s i)).set i ((add32 (t.getD i 0) (s.getD i 0) : Nat) : Int) = castL (addL t s (i + 1)) := by
  apply List.ext_getElem
  · simp [castL, addL]
  · intro j h1 h2
    have hj : j < 8 := by simpa [castL, addL] using h2
    simp only [List.getElem_set, castL, addL, List.getElem_map, List.getElem_range]
    by_cases hc : i = j
    · subst hc; simp
    · rw [if_neg hc]
      by_cases h3 : j < i
      · rw [if_pos h3, if_pos (by omega)]
      · rw [if_neg h3, if_neg (by omega)]
theorem addL_zero {t s : List Nat} (h : t.length = 8) : addL t s 0 = t := by
  apply List.ext_getElem
  · simp [addL, h]
  · intro j h1 h2
    simp only [addL, List.getElem_map, List.getElem_range]
    rw [if_neg (by omega), List.getD_eq_getElem?_getD, List.getElem?_eq_getElem h2]; rfl
theorem addL_getD {t s : List Nat} {i : Nat} (hi : i < 8) : (addL t s i).getD i 0 = t.getD i 0 := by
  rw [addL, List.getD_eq_getElem?_getD, List.getElem?_map, List.getElem?_range hi]
  simp
theorem compress_eq {s w : List Nat} (hs : s.length = 8) : sol_hash_compress (castL s, (castL w, (castL kTab, ()))) = some ((castL (addL (rounds w s 64) s 8), ()), ((), ((), ((), ())))) := by
  unfold sol_hash_compress T_hash_compress
  have second : ∀ t2 : List Int, bigLoop _ _ (fun again x => T_hash_compress_loop1 again x.1 x.2.1 x.2.2.1 x.2.2.2.1) (castL s, (t2, (castL (rounds w s 64), ((0 : Int), ())))) = some ((castL (addL (rounds w s 64) s 8), ()), ((), ((), ((), ())))) := by
    intro t2
    refine bigLoop_rule (I := fun x => x.1 = castL s ∧ (0 : Int) ≤ x.2.2.2.1 ∧ x.2.2.2.1 ≤ (8 : Int) ∧ x.2.2.1 = castL (addL (rounds w s 64) s x.2.2.2.1.toNat)) (m := fun x => ((8 : Int) - x.2.2.2.1).toNat) (g := fun _ => some ((castL (addL (rounds w s 64) s 8), ()), ((), ((), ((), ()))))) ?_
      ⟨rfl, by simp only; omega, by simp only; omega, by simp only; rw [show (0 : Int).toNat = 0 from rfl, addL_zero (len_rounds hs 64)]⟩ (by simp only [bigN_eq]; omega)
    rintro ⟨s', t', t, i, _⟩ again ⟨e0, e1, e2, e3⟩ hag
    simp only at e0 e1 e2 e3 hag ⊢
    subst e0 e3
    obtain ⟨i, rfl⟩ := Int.eq_ofNat_of_zero_le e1
    simp only [T_hash_compress_loop1, letR_eq, brR_dec, brR_inR, Int.toNat_natCast]
    by_cases hi : i < 8
    · rw [if_pos (by omega), if_pos (by omega), if_pos (by omega), if_pos (by omega), castL_getD, castL_getD, a32, addL_getD hi, addL_set hi, w_i64 (by omega) (by omega)]
      exact hag _ ⟨rfl, by simp only; omega, by simp only; omega, by simp only; rw [show ((i : Int) + 1).toNat = i + 1 by omega]⟩ (by simp only; omega)
    · have : i = 8 := by omega
      subst this
      rw [if_neg (by omega)]
  refine bigLoop_rule (I := fun x => x.1 = castL s ∧ x.2.1 = castL w ∧ x.2.2.1 = castL kTab ∧ (0 : Int) ≤ x.2.2.2.2.2.1 ∧ x.2.2.2.2.2.1 ≤ (64 : Int) ∧ x.2.2.2.2.1 = castL (rounds w s x.2.2.2.2.2.1.toNat)) (m := fun x => ((64 : Int) - x.2.2.2.2.2.1).toNat) (g := fun _ => some ((castL (addL (rounds w s 64) s 8), ()), ((), ((), ((), ()))))) ?_
    ⟨rfl, rfl, rfl, by simp only; omega, by simp only; omega, rfl⟩ (by simp only [bigN_eq]; omega)
  rintro ⟨s', w', k', t', t, i, _⟩ again ⟨e0, e1, e2, e3, e4, e5⟩ hag
  simp only at e0 e1 e2 e3 e4 e5 hag ⊢
  subst e0 e1 e2 e5
  obtain ⟨i, rfl⟩ := Int.eq_ofNat_of_zero_le e3
  simp only [T_hash_compress_loop0, letR_eq, brR_dec, brR_inR, Int.toNat_natCast]
  by_cases hi : i < 64
  · rw [if_pos (by omega)]
    simp only [castL_getD, rot6, rot11, rot25, rot2, rot13, rot22, bind_some']
    rw [if_pos (by omega), if_pos (by omega), w_i64 (by omega) (by omega)]
    simp only [not32, x32, n32, a32]
    refine (congrArg again ?_).trans (hag (castL s, (castL w, (castL kTab, (t', (castL (rounds w s (i + 1)), (((i : Int) + 1), ())))))) ⟨rfl, rfl, rfl, by simp only; omega, by simp only; omega, by simp only; rw [show ((i : Int) + 1).toNat = i + 1 by omega]⟩ (by simp only; omega))
    rw [rounds, rnd]
    simp only [castL, List.map_cons, List.map_nil]
    rfl
  · have : i = 64 := by omega
    subst this
    rw [if_neg (by omega)]
    exact second t'
theorem len_addL (t s : List Nat) (i : Nat) : (addL t s i).length = 8 := by simp [addL]
theorem len_states (m : List Int) : ∀ i, (states m i).length = 8
  | 0 => rfl
  | i + 1 => by rw [states, comp, len_addL]
theorem roundConstants_eq : sol_hash_roundConstants () = some ((castL kTab, ()), ()) := by
  unfold sol_hash_roundConstants T_hash_roundConstants; rfl
def outN (s : List Nat) (i : Nat) : List Nat := (List.range i).map fun i => s.getD (i / 4) 0 / 2 ^ (24 - 8 * (i % 4)) % 256
theorem len_outN (s : List Nat) (i : Nat) : (outN s i).length = i := by simp [outN]
theorem outN_succ (s : List Nat) (i : Nat) : outN s (i + 1) = outN s i ++ [s.getD (i / 4) 0 / 2 ^ (24 - 8 * (i % 4)) % 256] := by simp [outN, List.range_succ]
theorem outN_32 (s : List Nat) : castL (outN s 32) = shaOut s := by
  simp only [castL, outN, shaOut, List.map_map]; rfl
theorem out_byte {s : List Nat} {i : Nat} : IntKind.wrap .u8 (Int.fdiv ((castL s).getD (i / 4) 0) ((2 : Int) ^ (24 - 8 * (i % 4)))) = ((s.getD (i / 4) 0 / 2 ^ (24 - 8 * (i % 4)) % 256 : Nat) : Int) := by
  have p : ∀ k : Nat, (2 : Int) ^ k = ((2 ^ k : Nat) : Int) := fun k => by rw [Int.natCast_pow]; rfl
  rw [castL_getD, p, d32, IntKind.wrap_u8]; omega
theorem sumOut_eq {s : List Nat} (t2 : List Int) : bigLoop _ _ (fun again x => T_hash_Sum_loop3 again x.1 x.2.1 x.2.2.1 x.2.2.2.1) (t2, (castL s, (List.replicate 32 0, ((0 : Int), ())))) = some ((shaOut s, ()), ((), ())) := by
  refine bigLoop_rule (I := fun x => x.2.1 = castL s ∧ (0 : Int) ≤ x.2.2.2.1 ∧ x.2.2.2.1 ≤ (32 : Int) ∧ x.2.2.1 = part (outN s x.2.2.2.1.toNat) 32) (m := fun x => ((32 : Int) - x.2.2.2.1).toNat) (g := fun _ => some ((shaOut s, ()), ((), ()))) ?_
    ⟨rfl, by simp only; omega, by simp only; omega, part_nil.symm⟩ (by simp only [bigN_eq]; omega)
  rintro ⟨t, s', h, i, _⟩ again ⟨e0, e1, e2, e3⟩ hag
  simp only at e0 e1 e2 e3 hag ⊢
  subst e0 e3
  obtain ⟨i, rfl⟩ := Int.eq_ofNat_of_zero_le e1
  have hls := len_outN s i
  simp only [T_hash_Sum_loop3, letR_eq, brR_dec, brR_inR, Int.toNat_natCast]
  by_cases hi : i < 32
  · rw [if_pos (by omega), tdiv_pos (by omega), tmod_pos (by omega), w_i64 (n := (i : Int) / 4) (by omega) (by omega), w_i64 (n := 8 * ((i : Int) % 4)) (by omega) (by omega), w_i64 (n := 24 - 8 * ((i : Int) % 4)) (by omega) (by omega), w_i64 (n := (i : Int) + 1) (by omega) (by omega), if_pos (by omega), if_pos (by omega), if_pos (by omega)]
    rw [show ((i : Int) / 4).toNat = i / 4 by omega, show (24 - 8 * ((i : Int) % 4)).toNat = 24 - 8 * (i % 4) by omega, Nat.min_eq_left (by omega), out_byte]
    have es := part_set (l := outN s i) (n := 32) (by omega) (s.getD (i / 4) 0 / 2 ^ (24 - 8 * (i % 4)) % 256)
    rw [hls, ← outN_succ] at es
    rw [es]
    exact hag _ ⟨rfl, by simp only; omega, by simp only; omega, by simp only; rw [show ((i : Int) + 1).toNat = i + 1 by omega]⟩ (by simp only; omega)
  · have : i = 32 := by omega
    subst this
    rw [if_neg (by omega)]
    have := part_full (l := outN s 32)
    rw [hls, outN_32] at this
    rw [this]
theorem sumBlocks_eq {m : List Int} (hm : Bytes m) {n : Nat} (hn : m.length = 64 * n) (hl : m.length ≤ 1000000000) (t2 : List Int) :
    bigLoop _ _ (fun again x => T_hash_Sum_loop2 bigLoop sol_hash_schedule sol_hash_compress again x.1 x.2.1 x.2.2.1 x.2.2.2.1 x.2.2.2.2.1) (t2, (m, (castL iv, (castL kTab, ((0 : Int), ()))))) = some ((shaOut (states m n), ()), ((), ())) := by
  refine bigLoop_rule (I := fun x => x.2.1 = m ∧ x.2.2.2.1 = castL kTab ∧ ∃ i : Nat, i ≤ n ∧ x.2.2.2.2.1 = ((64 * i : Nat) : Int) ∧ x.2.2.1 = castL (states m i)) (m := fun x => ((m.length : Int) - x.2.2.2.2.1).toNat) (g := fun _ => some ((shaOut (states m n), ()), ((), ()))) ?_
    ⟨rfl, rfl, 0, by omega, rfl, rfl⟩ (by simp only [bigN_eq]; omega)
  rintro ⟨t, m', s, k, a, _⟩ again ⟨e0, e1, i, hi, e2, e3⟩ hag
  simp only at e0 e1 e2 e3 hag ⊢
  subst e0 e1 e2 e3
  simp only [T_hash_Sum_loop2, letR_eq, brR_dec, brR_and, Int.toNat_natCast]
  by_cases hc : i < n
  · rw [if_pos (by omega), w_i64 (by omega) (by omega), if_pos (by omega), if_pos (by omega), if_pos (by omega), show (((64 * i : Nat) : Int) + 64).toNat - 64 * i = 64 by omega,
      schedule_eq ((hm.drop _).take _) (by rw [List.length_take, List.length_drop]; omega)]
    simp only [bind_some']
    rw [compress_eq (len_states m' i)]
    simp only [bind_some']
    exact hag _ ⟨rfl, rfl, i + 1, by omega, by simp only; omega, rfl⟩ (by simp only; omega)
  · have : i = n := by omega
    subst this
    rw [if_neg (by omega)]
    exact sumOut_eq t
theorem sumLen_eq {l : List Int} (hb : Bytes l) {n k : Nat} (hn : n < 18446744073709551616) (hk : l.length + 8 = 64 * k) (hl : l.length ≤ 900000000) (t2 : List Int) :
    bigLoop _ _ (fun again x => T_hash_Sum_loop1 bigLoop sol_hash_roundConstants sol_hash_schedule sol_hash_compress again x.1 x.2.1 x.2.2.1 x.2.2.2.1) (t2, (((n : Nat) : Int), (l, ((7 : Int), ())))) = some ((shaOut (states (l ++ beB 8 n) k), ()), ((), ())) := by
  refine Eq.trans (bigLoop_rule (I := fun x => x.2.1 = ((n : Nat) : Int) ∧ (-1 : Int) ≤ x.2.2.2.1 ∧ x.2.2.2.1 ≤ (7 : Int) ∧ Bytes x.2.2.1 ∧ (x.2.2.1.length : Int) + x.2.2.2.1 + 1 = ((64 * k : Nat) : Int)) (m := fun x => (x.2.2.2.1 + 1).toNat) (g := fun x => some ((shaOut (states (x.2.2.1 ++ beB (x.2.2.2.1 + 1).toNat n) k), ()), ((), ()))) ?_
    ⟨rfl, by simp only; omega, by simp only; omega, hb, by simp only; omega⟩ (by simp only [bigN_eq]; omega)) rfl
  rintro ⟨t, n', l', i, _⟩ again ⟨e0, e1, e2, e3, e4⟩ hag
  simp only at e0 e1 e2 e3 e4 hag ⊢
  subst e0
  simp only [T_hash_Sum_loop1, letR_eq, brR_dec, append_def, ge_iff_le]
  by_cases hi : 0 ≤ i
  · obtain ⟨j, rfl⟩ := Int.eq_ofNat_of_zero_le hi
    rw [if_pos hi, w_i64 (n := 8 * (j : Int)) (by omega) (by omega), if_pos (by omega), brR_room8 (by omega), w_i64 (by omega) (by omega), show (8 * (j : Int)).toNat = 8 * j by omega, Nat.min_eq_left (by omega)]
    have p : ∀ k : Nat, (2 : Int) ^ k = ((2 ^ k : Nat) : Int) := fun k => by rw [Int.natCast_pow]; rfl
    have hby : IntKind.wrap .u8 (Int.fdiv ((n : Nat) : Int) ((2 : Int) ^ (8 * j))) = ((n / 256 ^ j % 256 : Nat) : Int) := by
      rw [p, d32, IntKind.wrap_u8, pow256]; omega
    rw [hby, hag _ ⟨rfl, by simp only; omega, by simp only; omega, e3.append (by intro x hx; simp only [List.mem_singleton] at hx; subst hx; omega), by simp only [List.length_append, List.length_singleton]; omega⟩ (by simp only; omega)]
    simp only
    rw [show ((j : Int) - 1 + 1).toNat = j by omega, show ((j : Int) + 1).toNat = j + 1 by omega, beB]; simp
  · have : i = -1 := by omega
    subst this
    rw [if_neg hi, roundConstants_eq]
    simp only [bind_some']
    have := sumBlocks_eq e3 (n := k) (by omega) (by omega) t
    refine Eq.trans this ?_
    simp [beB]
theorem sum_eq {b : List Int} (hb : Bytes b) (hl : b.length ≤ 100000000) : sol_hash_Sum (b, ()) = some ((sha b, ()), ((), ())) := by
  unfold sol_hash_Sum T_hash_Sum
  simp only
  rw [concat_eq (by simp; omega) (by simp), w_u64 (n := ((b.length : Nat) : Int)) (by omega) (by omega), w_u64 (by omega) (by omega), show ((b.length : Nat) : Int) * 8 = ((b.length * 8 : Nat) : Int) by omega]
  simp only [bind_some', List.flatten_cons, List.flatten_nil, List.append_nil]
  refine bigLoop_rule (I := fun x => x.2.1 = ((b.length * 8 : Nat) : Int) ∧ ∃ j : Nat, j ≤ (119 - b.length % 64) % 64 ∧ x.2.2.1 = b ++ 128 :: List.replicate j 0) (m := fun x => b.length + 100 - x.2.2.1.length) (g := fun _ => some ((sha b, ()), ((), ()))) ?_
    ⟨rfl, 0, by omega, rfl⟩ (by simp only [bigN_eq]; omega)
  rintro ⟨t, n, l, _⟩ again ⟨e0, j, hj, e1⟩ hag
  simp only at e0 e1 hag ⊢
  subst e0 e1
  have hlen : (b ++ 128 :: List.replicate j (0 : Int)).length = b.length + 1 + j := by simp; omega
  simp only [T_hash_Sum_loop0, letR_eq, brR_dec, brR_not, append_def]
  rw [tmod_pos (by omega), hlen, brR_room8 (by omega)]
  by_cases hc : j = (119 - b.length % 64) % 64
  · rw [if_pos (by omega)]
    have hby : Bytes (b ++ 128 :: List.replicate j (0 : Int)) := hb.append (by
      intro x hx
      rcases List.mem_cons.1 hx with rfl | hx
      · omega
      · rw [List.eq_of_mem_replicate hx]; omega)
    refine (sumLen_eq hby (n := b.length * 8) (k := (b.length + 1 + j + 8) / 64) (by omega) (by omega) (by omega) t).trans ?_
    have hp : b ++ 128 :: List.replicate j (0 : Int) ++ beB 8 (b.length * 8) = padded b := by simp [padded, hc]
    have hpl : (padded b).length = b.length + 1 + j + 8 := by rw [← hp, List.length_append, hlen, len_beB]
    rw [hp, ← hpl]; rfl
  · rw [if_neg (by omega)]
    have e : b ++ 128 :: List.replicate j (0 : Int) ++ [0] = b ++ 128 :: List.replicate (j + 1) 0 := by
      rw [List.replicate_succ']; simp
    exact hag _ ⟨rfl, j + 1, by omega, by simp only; exact e⟩ (by simp only [e, hlen]; simp; omega)
end Go.Pon
set_option autoImplicit false
set_option linter.unusedVariables false
set_option linter.unusedSimpArgs false
set_option maxRecDepth 4000
namespace Go.Pon
open Go
theorem right_eq (x n : Nat) (h1 : 1 ≤ n) (h2 : n ≤ 31) : sol_ref7_right (((x : Nat) : Int), (((n : Nat) : Int), ())) = some ((((rotr x n : Nat) : Int), ()), ((), ((), ()))) := by
  unfold sol_ref7_right T_ref7_right
  simp only [letR_eq]
  rw [show (32 : Int) - ((n : Nat) : Int) = ((32 - n : Nat) : Int) by omega, w_u64 (by omega) (by omega), brR_dec, if_pos (by omega), brR_dec, if_pos (by omega)]
  simp only [Int.toNat_natCast]
  have p : ∀ k : Nat, (2 : Int) ^ k = ((2 ^ k : Nat) : Int) := fun k => by rw [Int.natCast_pow]; rfl
  rw [Nat.min_eq_left (by omega), Nat.min_eq_left (by omega), p, p, m32, d32, o32, or32_comm]
  rfl
theorem rr7 (x : Nat) : sol_ref7_right (((x : Nat) : Int), ((7 : Int), ())) = some ((((rotr x 7 : Nat) : Int), ()), ((), ((), ()))) := right_eq x 7 (by omega) (by omega)
theorem rr18 (x : Nat) : sol_ref7_right (((x : Nat) : Int), ((18 : Int), ())) = some ((((rotr x 18 : Nat) : Int), ()), ((), ((), ()))) := right_eq x 18 (by omega) (by omega)
theorem rr17 (x : Nat) : sol_ref7_right (((x : Nat) : Int), ((17 : Int), ())) = some ((((rotr x 17 : Nat) : Int), ()), ((), ((), ()))) := right_eq x 17 (by omega) (by omega)
theorem rr19 (x : Nat) : sol_ref7_right (((x : Nat) : Int), ((19 : Int), ())) = some ((((rotr x 19 : Nat) : Int), ()), ((), ((), ()))) := right_eq x 19 (by omega) (by omega)
theorem rr6 (x : Nat) : sol_ref7_right (((x : Nat) : Int), ((6 : Int), ())) = some ((((rotr x 6 : Nat) : Int), ()), ((), ((), ()))) := right_eq x 6 (by omega) (by omega)
theorem rr11 (x : Nat) : sol_ref7_right (((x : Nat) : Int), ((11 : Int), ())) = some ((((rotr x 11 : Nat) : Int), ()), ((), ((), ()))) := right_eq x 11 (by omega) (by omega)
theorem rr25 (x : Nat) : sol_ref7_right (((x : Nat) : Int), ((25 : Int), ())) = some ((((rotr x 25 : Nat) : Int), ()), ((), ((), ()))) := right_eq x 25 (by omega) (by omega)
theorem rr2 (x : Nat) : sol_ref7_right (((x : Nat) : Int), ((2 : Int), ())) = some ((((rotr x 2 : Nat) : Int), ()), ((), ((), ()))) := right_eq x 2 (by omega) (by omega)
theorem rr13 (x : Nat) : sol_ref7_right (((x : Nat) : Int), ((13 : Int), ())) = some ((((rotr x 13 : Nat) : Int), ()), ((), ((), ()))) := right_eq x 13 (by omega) (by omega)
theorem rr22 (x : Nat) : sol_ref7_right (((x : Nat) : Int), ((22 : Int), ())) = some ((((rotr x 22 : Nat) : Int), ()), ((), ((), ()))) := right_eq x 22 (by omega) (by omega)
theorem word_add {p q r s : Int} (hp : 0 ≤ p ∧ p ≤ 255) (hq : 0 ≤ q ∧ q ≤ 255) (hr : 0 ≤ r ∧ r ≤ 255) (hs : 0 ≤ s ∧ s ≤ 255) :
    IntKind.wrap .u32 (IntKind.wrap .u32 (IntKind.wrap .u32 (IntKind.wrap .u32 (IntKind.wrap .u32 p * 16777216) + IntKind.wrap .u32 (IntKind.wrap .u32 q * 65536)) + IntKind.wrap .u32 (IntKind.wrap .u32 r * 256)) + IntKind.wrap .u32 s) =
      ((p.toNat * 16777216 + q.toNat * 65536 + r.toNat * 256 + s.toNat : Nat) : Int) := by
  simp only [IntKind.wrap_u32]; omega
theorem words_eq : sol_ref7_words () = some ((castL kTab, ()), ()) := by
  unfold sol_ref7_words T_ref7_words; rfl
theorem block_third {s : List Nat} (hs : s.length = 8) (W : List Nat) (t2 : List Int) : bigLoop _ _ (fun again x => T_ref7_block_loop2 again x.1 x.2.1 x.2.2.1 x.2.2.2.1) (castL s, (t2, (castL (rounds (W) s 64), ((0 : Int), ())))) = some ((castL (addL (rounds W s 64) s 8), ()), ((), ((), ()))) := by
  refine bigLoop_rule (I := fun x => x.1 = castL s ∧ (0 : Int) ≤ x.2.2.2.1 ∧ x.2.2.2.1 ≤ (8 : Int) ∧ x.2.2.1 = castL (addL (rounds (W) s 64) s x.2.2.2.1.toNat)) (m := fun x => ((8 : Int) - x.2.2.2.1).toNat) (g := fun _ => some ((castL (addL (rounds W s 64) s 8), ()), ((), ((), ())))) ?_
    ⟨rfl, by simp only; omega, by simp only; omega, by simp only; rw [show (0 : Int).toNat = 0 from rfl, addL_zero (len_rounds hs 64)]⟩ (by simp only [bigN_eq]; omega)
  rintro ⟨s', t', t, i, _⟩ again ⟨e0, e1, e2, e3⟩ hag
  simp only at e0 e1 e2 e3 hag ⊢
  subst e0 e3
  obtain ⟨i, rfl⟩ := Int.eq_ofNat_of_zero_le e1
  simp only [T_ref7_block_loop2, letR_eq, brR_dec, brR_inR, Int.toNat_natCast]
  by_cases hi : i < 8
  · rw [if_pos (by omega), if_pos (by omega), if_pos (by omega), if_pos (by omega), castL_getD, castL_getD, a32, addL_getD hi, addL_set hi, w_i64 (by omega) (by omega)]
    exact hag _ ⟨rfl, by simp only; omega, by simp only; omega, by simp only; rw [show ((i : Int) + 1).toNat = i + 1 by omega]⟩ (by simp only; omega)
  · have : i = 8 := by omega
    subst this
    rw [if_neg (by omega)]
set_option maxHeartbeats 1000000 in
theorem block_second {s : List Nat} (hs : s.length = 8) (W : List Nat) (t2 : List Int) : bigLoop _ _ (fun again x => T_ref7_block_loop1 bigLoop sol_ref7_right again x.1 x.2.1 x.2.2.1 x.2.2.2.1 x.2.2.2.2.1 x.2.2.2.2.2.1) (castL s, (t2, (castL kTab, (castL (W), (castL s, ((0 : Int), ())))))) = some ((castL (addL (rounds W s 64) s 8), ()), ((), ((), ()))) := by
  refine bigLoop_rule (I := fun x => x.1 = castL s ∧ x.2.2.1 = castL kTab ∧ x.2.2.2.1 = castL (W) ∧ (0 : Int) ≤ x.2.2.2.2.2.1 ∧ x.2.2.2.2.2.1 ≤ (64 : Int) ∧ x.2.2.2.2.1 = castL (rounds (W) s x.2.2.2.2.2.1.toNat)) (m := fun x => ((64 : Int) - x.2.2.2.2.2.1).toNat) (g := fun _ => some ((castL (addL (rounds W s 64) s 8), ()), ((), ((), ())))) ?_
    ⟨rfl, rfl, rfl, by simp only; omega, by simp only; omega, rfl⟩ (by simp only [bigN_eq]; omega)
  rintro ⟨s', t', k', w', t, i, _⟩ again ⟨e0, e1, e2, e3, e4, e5⟩ hag
  simp only at e0 e1 e2 e3 e4 e5 hag ⊢
  subst e0 e1 e2 e5
  obtain ⟨i, rfl⟩ := Int.eq_ofNat_of_zero_le e3
  simp only [T_ref7_block_loop1, letR_eq, brR_dec, brR_inR, Int.toNat_natCast]
  by_cases hi : i < 64
  · have hin : (0 : Int) ≤ (i : Int) ∧ (i : Int) < ((64 : Nat) : Int) := by omega
    rw [if_pos (by omega)]
    simp only [castL_getD, rr6, rr11, rr25, rr2, rr13, rr22, bind_some', if_pos hin]
    rw [w_i64 (by omega) (by omega)]
    simp only [not32, x32, n32, a32]
    refine (congrArg again ?_).trans (hag (castL s, (t', (castL kTab, (castL (W), (castL (rounds (W) s (i + 1)), (((i : Int) + 1), ())))))) ⟨rfl, rfl, rfl, by simp only; omega, by simp only; omega, by simp only; rw [show ((i : Int) + 1).toNat = i + 1 by omega]⟩ (by simp only; omega))
    rw [rounds, rnd]
    simp only [castL, List.map_cons, List.map_nil, add32_assoc]
    rfl
  · have : i = 64 := by omega
    subst this
    rw [if_neg (by omega)]
    exact block_third hs W t'
set_option maxHeartbeats 1000000 in
theorem block_eq {s : List Nat} (hs : s.length = 8) {b : List Int} (hb : Bytes b) (hl : b.length = 64) : sol_ref7_block (castL s, (b, ())) = some ((castL (comp s b), ()), ((), ((), ()))) := by
  unfold sol_ref7_block T_ref7_block
  rw [words_eq]
  simp only [bind_some']
  refine bigLoop_rule (I := fun x => x.1 = b ∧ x.2.1 = castL s ∧ x.2.2.2.1 = castL kTab ∧ (0 : Int) ≤ x.2.2.2.2.2.1 ∧ x.2.2.2.2.2.1 ≤ (64 : Int) ∧ x.2.2.2.2.1 = part (sched b x.2.2.2.2.2.1.toNat) 64) (m := fun x => ((64 : Int) - x.2.2.2.2.2.1).toNat) (g := fun _ => some ((castL (comp s b), ()), ((), ((), ())))) ?_
    ⟨rfl, rfl, rfl, by simp only; omega, by simp only; omega, by simp only; exact part_nil.symm⟩ (by simp only [bigN_eq]; omega)
  rintro ⟨b', h', t, k', w, i, _⟩ again ⟨e0, e1, e2, e3, e4, e5⟩ hag
  simp only at e0 e1 e2 e3 e4 e5 hag ⊢
  subst e0 e1 e2 e5
  obtain ⟨i, rfl⟩ := Int.eq_ofNat_of_zero_le e3
  have hls := len_sched b' i
  simp only [T_ref7_block_loop0, letR_eq, brR_dec, brR_inR, Int.toNat_natCast]
  by_cases hi : i < 64
  · rw [if_pos (by omega)]
    by_cases h16 : i < 16
    · rw [if_pos (by omega), w_i64 (n := 4 * (i : Int)) (by omega) (by omega), w_i64 (n := 4 * (i : Int) + 3) (by omega) (by omega), w_i64 (n := 4 * (i : Int) + 2) (by omega) (by omega), w_i64 (n := 4 * (i : Int) + 1) (by omega) (by omega), w_i64 (n := (i : Int) + 1) (by omega) (by omega)]
      rw [show (4 * (i : Int)).toNat = 4 * i by omega, show (4 * (i : Int) + 1).toNat = 4 * i + 1 by omega, show (4 * (i : Int) + 2).toNat = 4 * i + 2 by omega, show (4 * (i : Int) + 3).toNat = 4 * i + 3 by omega]
      rw [if_pos (by omega), if_pos (by omega), if_pos (by omega), if_pos (by omega), if_pos (by omega), word_add (hb.at _) (hb.at _) (hb.at _) (hb.at _)]
      have es : (part (sched b' i) 64).set i ((word b' i : Nat) : Int) = part (sched b' (i + 1)) 64 := by
        have := part_set (l := sched b' i) (n := 64) (by omega) (word b' i)
        rw [hls] at this
        rw [this, sched, if_pos (by omega)]
      refine (congrArg again ?_).trans (hag (b', (castL s, (t, (castL kTab, (part (sched b' (i + 1)) 64, (((i : Int) + 1), ())))))) ⟨rfl, rfl, rfl, by simp only; omega, by simp only; omega, by simp only; rw [show ((i : Int) + 1).toNat = i + 1 by omega]⟩ (by simp only; omega))
      rw [← es]; rfl
    · rw [if_neg (by omega), w_i64 (n := (i : Int) - 7) (by omega) (by omega), w_i64 (n := (i : Int) - 16) (by omega) (by omega), w_i64 (n := (i : Int) - 2) (by omega) (by omega), w_i64 (n := (i : Int) - 15) (by omega) (by omega), w_i64 (n := (i : Int) + 1) (by omega) (by omega)]
      rw [show ((i : Int) - 7).toNat = i - 7 by omega, show ((i : Int) - 16).toNat = i - 16 by omega, show ((i : Int) - 2).toNat = i - 2 by omega, show ((i : Int) - 15).toNat = i - 15 by omega]
      rw [if_pos (by omega), if_pos (by omega), if_pos (by omega), part_getD (j := i - 7) (by omega), part_getD (j := i - 16) (by omega), part_getD (j := i - 2) (by omega), part_getD (j := i - 15) (by omega)]
      have hA : (0 : Int) ≤ (i : Int) - 7 ∧ (i : Int) - 7 < ((64 : Nat) : Int) := by omega
      have hB : (0 : Int) ≤ (i : Int) ∧ (i : Int) < ((64 : Nat) : Int) := by omega
      simp only [rr7, rr18, rr17, rr19, bind_some', if_pos hA, if_pos hB]
      simp only [x32, d32_8, d32_1024, a32]
      have es : (part (sched b' i) 64).set i ((nextW (sched b' i) i : Nat) : Int) = part (sched b' (i + 1)) 64 := by
        have := part_set (l := sched b' i) (n := 64) (by omega) (nextW (sched b' i) i)
        rw [hls] at this
        rw [this, sched, if_neg (by omega)]
      refine (congrArg again ?_).trans (hag (b', (castL s, (t, (castL kTab, (part (sched b' (i + 1)) 64, (((i : Int) + 1), ())))))) ⟨rfl, rfl, rfl, by simp only; omega, by simp only; omega, by simp only; rw [show ((i : Int) + 1).toNat = i + 1 by omega]⟩ (by simp only; omega))
      rw [← es]; rfl
  · have : i = 64 := by omega
    subst this
    rw [if_neg (by omega)]
    have := part_full (l := sched b' 64)
    rw [hls] at this
    rw [this]
    exact block_second hs (sched b' 64) t
theorem rsumOut_eq {s : List Nat} (t2 : List Int) : bigLoop _ _ (fun again x => T_ref7_Sum_loop3 again x.1 x.2.1 x.2.2.1 x.2.2.2.1) (t2, (castL s, (List.replicate 32 0, ((0 : Int), ())))) = some ((shaOut s, ()), ((), ())) := by
  refine bigLoop_rule (I := fun x => x.2.1 = castL s ∧ (0 : Int) ≤ x.2.2.2.1 ∧ x.2.2.2.1 ≤ (32 : Int) ∧ x.2.2.1 = part (outN s x.2.2.2.1.toNat) 32) (m := fun x => ((32 : Int) - x.2.2.2.1).toNat) (g := fun _ => some ((shaOut s, ()), ((), ()))) ?_
    ⟨rfl, by simp only; omega, by simp only; omega, part_nil.symm⟩ (by simp only [bigN_eq]; omega)
  rintro ⟨t, s', h, i, _⟩ again ⟨e0, e1, e2, e3⟩ hag
  simp only at e0 e1 e2 e3 hag ⊢
  subst e0 e3
  obtain ⟨i, rfl⟩ := Int.eq_ofNat_of_zero_le e1
  have hls := len_outN s i
  simp only [T_ref7_Sum_loop3, letR_eq, brR_dec, brR_inR, Int.toNat_natCast]
  by_cases hi : i < 32
  · rw [if_pos (by omega), tdiv_pos (by omega), tmod_pos (by omega), w_i64 (n := (i : Int) / 4) (by omega) (by omega), w_i64 (n := 8 * ((i : Int) % 4)) (by omega) (by omega), w_i64 (n := 24 - 8 * ((i : Int) % 4)) (by omega) (by omega), w_u64 (n := 24 - 8 * ((i : Int) % 4)) (by omega) (by omega), w_i64 (n := (i : Int) + 1) (by omega) (by omega), if_pos (by omega), if_pos (by omega), if_pos (by omega)]
    rw [show ((i : Int) / 4).toNat = i / 4 by omega, show (24 - 8 * ((i : Int) % 4)).toNat = 24 - 8 * (i % 4) by omega, Nat.min_eq_left (by omega), out_byte]
    have es := part_set (l := outN s i) (n := 32) (by omega) (s.getD (i / 4) 0 / 2 ^ (24 - 8 * (i % 4)) % 256)
    rw [hls, ← outN_succ] at es
    rw [es]
    exact hag _ ⟨rfl, by simp only; omega, by simp only; omega, by simp only; rw [show ((i : Int) + 1).toNat = i + 1 by omega]⟩ (by simp only; omega)
  · have : i = 32 := by omega
    subst this
    rw [if_neg (by omega)]
    have := part_full (l := outN s 32)
    rw [hls, outN_32] at this
    rw [this]
theorem rsumBlocks_eq {m : List Int} (hm : Bytes m) {n : Nat} (hn : m.length = 64 * n) (hl : m.length ≤ 1000000000) (t2 : List Int) :
    bigLoop _ _ (fun again x => T_ref7_Sum_loop2 bigLoop sol_ref7_block again x.1 x.2.1 x.2.2.1 x.2.2.2.1) (t2, (m, (castL iv, ((0 : Int), ())))) = some ((shaOut (states m n), ()), ((), ())) := by
  refine bigLoop_rule (I := fun x => x.2.1 = m ∧ ∃ i : Nat, i ≤ n ∧ x.2.2.2.1 = ((64 * i : Nat) : Int) ∧ x.2.2.1 = castL (states m i)) (m := fun x => ((m.length : Int) - x.2.2.2.1).toNat) (g := fun _ => some ((shaOut (states m n), ()), ((), ()))) ?_
    ⟨rfl, 0, by omega, rfl, rfl⟩ (by simp only [bigN_eq]; omega)
  rintro ⟨t, m', s, a, _⟩ again ⟨e0, i, hi, e2, e3⟩ hag
  simp only at e0 e2 e3 hag ⊢
  subst e0 e2 e3
  simp only [T_ref7_Sum_loop2, letR_eq, brR_dec, brR_and, Int.toNat_natCast]
  by_cases hc : i < n
  · rw [if_pos (by omega), w_i64 (by omega) (by omega), if_pos (by omega), if_pos (by omega), if_pos (by omega), show (((64 * i : Nat) : Int) + 64).toNat - 64 * i = 64 by omega,
      block_eq (len_states m' i) ((hm.drop _).take _) (by rw [List.length_take, List.length_drop]; omega)]
    simp only [bind_some']
    exact hag _ ⟨rfl, i + 1, by omega, by simp only; omega, rfl⟩ (by simp only; omega)
  · have : i = n := by omega
    subst this
    rw [if_neg (by omega)]
    exact rsumOut_eq t
theorem rsumLen_eq {l : List Int} (hb : Bytes l) {n k : Nat} (hn : n < 18446744073709551616) (hk : l.length + 8 = 64 * k) (hl : l.length ≤ 900000000) (t2 : List Int) :
    bigLoop _ _ (fun again x => T_ref7_Sum_loop1 bigLoop sol_ref7_block again x.1 x.2.1 x.2.2.1 x.2.2.2.1) (t2, (l, (((n : Nat) : Int), ((7 : Int), ())))) = some ((shaOut (states (l ++ beB 8 n) k), ()), ((), ())) := by
  refine Eq.trans (bigLoop_rule (I := fun x => x.2.2.1 = ((n : Nat) : Int) ∧ (-1 : Int) ≤ x.2.2.2.1 ∧ x.2.2.2.1 ≤ (7 : Int) ∧ Bytes x.2.1 ∧ (x.2.1.length : Int) + x.2.2.2.1 + 1 = ((64 * k : Nat) : Int)) (m := fun x => (x.2.2.2.1 + 1).toNat) (g := fun x => some ((shaOut (states (x.2.1 ++ beB (x.2.2.2.1 + 1).toNat n) k), ()), ((), ()))) ?_
    ⟨rfl, by simp only; omega, by simp only; omega, hb, by simp only; omega⟩ (by simp only [bigN_eq]; omega)) rfl
  rintro ⟨t, l', n', i, _⟩ again ⟨e0, e1, e2, e3, e4⟩ hag
  simp only at e0 e1 e2 e3 e4 hag ⊢
  subst e0
  simp only [T_ref7_Sum_loop1, letR_eq, brR_dec, append_def, ge_iff_le]
  by_cases hi : 0 ≤ i
  · obtain ⟨j, rfl⟩ := Int.eq_ofNat_of_zero_le hi
    rw [if_pos hi, w_i64 (n := 8 * (j : Int)) (by omega) (by omega), w_u64 (n := 8 * (j : Int)) (by omega) (by omega), if_pos (by omega), brR_room8 (by omega), w_i64 (by omega) (by omega), show (8 * (j : Int)).toNat = 8 * j by omega, Nat.min_eq_left (by omega)]
    have p : ∀ k : Nat, (2 : Int) ^ k = ((2 ^ k : Nat) : Int) := fun k => by rw [Int.natCast_pow]; rfl
    have hby : IntKind.wrap .u8 (Int.fdiv ((n : Nat) : Int) ((2 : Int) ^ (8 * j))) = ((n / 256 ^ j % 256 : Nat) : Int) := by
      rw [p, d32, IntKind.wrap_u8, pow256]; omega
    rw [hby, hag _ ⟨rfl, by simp only; omega, by simp only; omega, e3.append (by intro x hx; simp only [List.mem_singleton] at hx; subst hx; omega), by simp only [List.length_append, List.length_singleton]; omega⟩ (by simp only; omega)]
    simp only
    rw [show ((j : Int) - 1 + 1).toNat = j by omega, show ((j : Int) + 1).toNat = j + 1 by omega, beB]; simp
  · have : i = -1 := by omega
    subst this
    rw [if_neg hi]
    have := rsumBlocks_eq e3 (n := k) (by omega) (by omega) t
    refine Eq.trans this ?_
    simp [beB]
theorem rsum_eq {b : List Int} (hb : Bytes b) (hl : b.length ≤ 100000000) : sol_ref7_Sum (b, ()) = some ((sha b, ()), ((), ())) := by
  unfold sol_ref7_Sum T_ref7_Sum
  simp only [append_def]
  rw [brR_room8 (by omega), brR_room8 (by omega)]
  refine bigLoop_rule (I := fun x => x.1 = b ∧ ∃ j : Nat, j ≤ (119 - b.length % 64) % 64 ∧ x.2.2.1 = b ++ 128 :: List.replicate j 0) (m := fun x => b.length + 100 - x.2.2.1.length) (g := fun _ => some ((sha b, ()), ((), ()))) ?_
    ⟨rfl, 0, by omega, rfl⟩ (by simp only [bigN_eq]; omega)
  rintro ⟨b', t, l, _⟩ again ⟨e0, j, hj, e1⟩ hag
  simp only at e0 e1 hag ⊢
  subst e0 e1
  have hlen : (b' ++ 128 :: List.replicate j (0 : Int)).length = b'.length + 1 + j := by simp; omega
  simp only [T_ref7_Sum_loop0, letR_eq, brR_dec, brR_not, append_def]
  rw [tmod_pos (by omega), hlen, brR_room8 (by omega)]
  by_cases hc : j = (119 - b'.length % 64) % 64
  · rw [if_pos (by omega), w_u64 (n := ((b'.length : Nat) : Int)) (by omega) (by omega), w_u64 (by omega) (by omega), show ((b'.length : Nat) : Int) * 8 = ((b'.length * 8 : Nat) : Int) by omega]
    have hby : Bytes (b' ++ 128 :: List.replicate j (0 : Int)) := hb.append (by
      intro x hx
      rcases List.mem_cons.1 hx with rfl | hx
      · omega
      · rw [List.eq_of_mem_replicate hx]; omega)
    refine (rsumLen_eq hby (n := b'.length * 8) (k := (b'.length + 1 + j + 8) / 64) (by omega) (by omega) (by omega) t).trans ?_
    have hp : b' ++ 128 :: List.replicate j (0 : Int) ++ beB 8 (b'.length * 8) = padded b' := by simp [padded, hc]
    have hpl : (padded b').length = b'.length + 1 + j + 8 := by rw [← hp, List.length_append, hlen, len_beB]
    rw [hp, ← hpl]; rfl
  · rw [if_neg (by omega)]
    have e : b' ++ 128 :: List.replicate j (0 : Int) ++ [0] = b' ++ 128 :: List.replicate (j + 1) 0 := by
      rw [List.replicate_succ']; simp
    exact hag _ ⟨rfl, j + 1, by omega, by simp only; exact e⟩ (by simp only [e, hlen]; simp; omega)
end Go.Pon
set_option autoImplicit false
set_option linter.unusedVariables false
set_option linter.unusedSimpArgs false
set_option maxRecDepth 100000
namespace Go.Pon
open Go
def H32 (h : List Int) : Prop := h.length = 32 ∧ Bytes h
theorem h32_sha (b : List Int) : H32 (sha b) := ⟨len_sha b, bytes_sha b⟩
def leafH (b : List Int) : List Int := sha (0 :: b)
def nodeH (x y : List Int) : List Int := sha (1 :: (x ++ y))
theorem bytes_cons {x : Int} {b : List Int} (hx : 0 ≤ x ∧ x ≤ 255) (hb : Bytes b) : Bytes (x :: b) := fun y hy => by
  rcases List.mem_cons.1 hy with rfl | hy
  · exact hx
  · exact hb y hy
theorem leaf_eq {b : List Int} (hb : Bytes b) (hl : b.length ≤ 90000000) : sol_hash_Leaf (b, ()) = some ((leafH b, ()), ((), ())) := by
  unfold sol_hash_Leaf T_hash_Leaf
  rw [concat_eq (by simp; omega) (by simp)]
  simp only [bind_some', List.flatten_cons, List.flatten_nil, List.append_nil, List.cons_append, List.nil_append]
  rw [sum_eq (bytes_cons (by omega) hb) (by simp; omega)]
  rfl
theorem take32 {x : List Int} (h : x.length = 32) : List.take (32 - 0) (List.drop 0 x) = x := by
  rw [List.drop_zero, List.take_of_length_le (by omega)]
theorem node_eq {x y : List Int} (hx : H32 x) (hy : H32 y) : sol_hash_Node (x, (y, ())) = some ((nodeH x y, ()), ((), ((), ()))) := by
  unfold sol_hash_Node T_hash_Node
  simp only
  have h1 := hx.1
  have h2 := hy.1
  rw [take32 h1, take32 h2, concat_eq (by simp; omega) (by simp)]
  simp only [bind_some', List.flatten_cons, List.flatten_nil, List.append_nil, List.cons_append, List.nil_append]
  rw [sum_eq (bytes_cons (by omega) (hx.2.append hy.2)) (by simp; omega)]
  rfl
theorem rleaf_eq {b : List Int} (hb : Bytes b) (hl : b.length ≤ 90000000) : sol_ref7_Leaf (b, ()) = some ((leafH b, ()), ((), ())) := by
  unfold sol_ref7_Leaf T_ref7_Leaf
  simp only [append_def]
  rw [brR_room8 (by omega), rsum_eq (b := [0] ++ b) (bytes_cons (by omega) hb) (by simp; omega)]
  rfl
theorem rnode_eq {x y : List Int} (hx : H32 x) (hy : H32 y) : sol_ref7_Node (x, (y, ())) = some ((nodeH x y, ()), ((), ((), ()))) := by
  unfold sol_ref7_Node T_ref7_Node
  simp only [letR_eq, append_def]
  have h1 := hx.1
  have h2 := hy.1
  rw [take32 h1, take32 h2, brR_room8 (by omega), brR_room8 (by simp; omega), rsum_eq (b := [1] ++ x ++ y) (bytes_cons (by omega) (hx.2.append hy.2)) (by simp; omega)]
  rfl
theorem h32_node (x y : List Int) : H32 (nodeH x y) := h32_sha _
theorem h32_leaf (x : List Int) : H32 (leafH x) := h32_sha _
theorem eqD_h32 (x y : List Int) : eqD (.arr 32 (.int .u8)) x y = decide (x = y) := eqD_dec _ _ _
def hv (c : Int) : Int := if 48 ≤ c ∧ c ≤ 57 then c - 48 else if 97 ≤ c ∧ c ≤ 102 then c - 87 else -1
def hN (s : List Int) (i : Nat) : List Int := (List.range 32).map fun k => if 2 * k + 1 < i then hv (s.getD (2 * k) 0) * 16 + hv (s.getD (2 * k + 1) 0) else if 2 * k < i then hv (s.getD (2 * k) 0) else 0
def Hex64 (s : List Int) : Prop := s.length = 64 ∧ ∀ i, i < 64 → 0 ≤ hv (s.getD i 0)
noncomputable instance (s : List Int) : Decidable (Hex64 s) := Classical.propDecidable _
end Go.Pon
