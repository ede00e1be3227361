/-
  Part of a proof: general lemmas, merged by a program of this work.
-/
import Derived.Test.YtinkgninfmagjaaF3
/-
  What the functions of package math_bits compute (printed by a program of this work).
-/
set_option autoImplicit false
set_option linter.unusedVariables false
set_option maxRecDepth 100000
namespace Go.Pon
open Go

/-- math/bits.RotateLeft32 -/
abbrev s_math_bits_RotateLeft32 : Sig := ⟨[(.ro true (.int .u32)), (.ro true (.int .i64))], [(.ro true (.int .u32))]⟩
abbrev F_math_bits_RotateLeft32 := (Int × (Int × Unit)) → Option ((Int × Unit) × (Unit × (Unit × Unit)))

noncomputable def T_math_bits_RotateLeft32 (L : LoopD) (x_ : Int) (k_ : Int) : Option ((Int × Unit) × (Unit × (Unit × Unit))) :=
  (letR (Go.IntKind.wrap (Go.IntKind.u64) (((BitVec.toNat ((BitVec.ofInt (64 : Nat) (Go.IntKind.wrap (Go.IntKind.u64) k_)) &&& (BitVec.ofInt (64 : Nat) (31 : Int)))) : Nat) : Int)) fun (v_0 : Int) =>
  (letR (Go.IntKind.wrap (Go.IntKind.u64) ((32 : Int) - v_0)) fun (v_1 : Int) =>
  (brR (decide ((0 : Int) ≤ v_0))
   (brR (decide ((0 : Int) ≤ v_1))
    (some (((Go.IntKind.wrap (Go.IntKind.u32) (((BitVec.toNat ((BitVec.ofInt (32 : Nat) (Go.IntKind.wrap (Go.IntKind.u32) (x_ * ((2 : Int) ^ (min (Int.toNat v_0) (32 : Nat)))))) ||| (BitVec.ofInt (32 : Nat) (Int.fdiv x_ ((2 : Int) ^ (min (Int.toNat v_1) (32 : Nat))))))) : Nat) : Int)), ()), ((), ((), ()))))
    none)
   none)))

noncomputable def sol_math_bits_RotateLeft32 : F_math_bits_RotateLeft32 := fun x => T_math_bits_RotateLeft32 bigLoop x.1 x.2.1

/-- math/bits.Len64 -/
abbrev s_math_bits_Len64 : Sig := ⟨[(.ro true (.int .u64))], [(.ro true (.int .i64))]⟩
abbrev F_math_bits_Len64 := (Int × Unit) → Option ((Int × Unit) × (Unit × Unit))

noncomputable def T_math_bits_Len64 (L : LoopD) (x_ : Int) : Option ((Int × Unit) × (Unit × Unit)) :=
  (brR (decide (x_ ≥ (4294967296 : Int)))
   (brR (decide ((Int.fdiv x_ (4294967296 : Int)) ≥ (65536 : Int)))
    (brR (decide ((Int.fdiv (Int.fdiv x_ (4294967296 : Int)) (65536 : Int)) ≥ (256 : Int)))
     (brR (Go.Pon.inR (Go.IntKind.wrap (Go.IntKind.u8) (Int.fdiv (Int.fdiv (Int.fdiv x_ (4294967296 : Int)) (65536 : Int)) (256 : Int))) (256 : Nat))
      (some (((Go.IntKind.wrap (Go.IntKind.i64) ((56 : Int) + (Go.IntKind.wrap (Go.IntKind.i64) (List.getD [(0 : Int), (1 : Int), (2 : Int), (2 : Int), (3 : Int), (3 : Int), (3 : Int), (3 : Int), (4 : Int), (4 : Int), (4 : Int), (4 : Int), (4 : Int), (4 : Int), (4 : Int), (4 : Int), (5 : Int), (5 : Int), (5 : Int), (5 : Int), (5 : Int), (5 : Int), (5 : Int), (5 : Int), (5 : Int), (5 : Int), (5 : Int), (5 : Int), (5 : Int), (5 : Int), (5 : Int), (5 : Int), (6 : Int), (6 : Int), (6 : Int), (6 : Int), (6 : Int), (6 : Int), (6 : Int), (6 : Int), (6 : Int), (6 : Int), (6 : Int), (6 : Int), (6 : Int), (6 : Int), (6 : Int), (6 : Int), (6 : Int), (6 : Int), (6 : Int), (6 : Int), (6 : Int), (6 : Int), (6 : Int), (6 : Int), (6 : Int), (6 : Int), (6 : Int), (6 : Int), (6 : Int), (6 : Int), (6 : Int), (6 : Int), (7 : Int), (7 : Int), (7 : Int), (7 : Int), (7 : Int), (7 : Int), (7 : Int), (7 : Int), (7 : Int), (7 : Int), (7 : Int), (7 : Int), (7 : Int), (7 : Int), (7 : Int), (7 : Int), (7 : Int), (7 : Int), (7 : Int), (7 : Int), (7 : Int), (7 : Int), (7 : Int), (7 : Int), (7 : Int), (7 : Int), (7 : Int), (7 : Int), (7 : Int), (7 : Int), (7 : Int), (7 : Int), (7 : Int), (7 : Int), (7 : Int), (7 : Int), (7 : Int), (7 : Int), (7 : Int), (7 : Int), (7 : Int), (7 : Int), (7 : Int), (7 : Int), (7 : Int), (7 : Int), (7 : Int), (7 : Int), (7 : Int), (7 : Int), (7 : Int), (7 : Int), (7 : Int), (7 : Int), (7 : Int), (7 : Int), (7 : Int), (7 : Int), (7 : Int), (7 : Int), (7 : Int), (7 : Int), (7 : Int), (7 : Int), (8 : Int), (8 : Int), (8 : Int), (8 : Int), (8 : Int), (8 : Int), (8 : Int), (8 : Int), (8 : Int), (8 : Int), (8 : Int), (8 : Int), (8 : Int), (8 : Int), (8 : Int), (8 : Int), (8 : Int), (8 : Int), (8 : Int), (8 : Int), (8 : Int), (8 : Int), (8 : Int), (8 : Int), (8 : Int), (8 : Int), (8 : Int), (8 : Int), (8 : Int), (8 : Int), (8 : Int), (8 : Int), (8 : Int), (8 : Int), (8 : Int), (8 : Int), (8 : Int), (8 : Int), (8 : Int), (8 : Int), (8 : Int), (8 : Int), (8 : Int), (8 : Int), (8 : Int), (8 : Int), (8 : Int), (8 : Int), (8 : Int), (8 : Int), (8 : Int), (8 : Int), (8 : Int), (8 : Int), (8 : Int), (8 : Int), (8 : Int), (8 : Int), (8 : Int), (8 : Int), (8 : Int), (8 : Int), (8 : Int), (8 : Int), (8 : Int), (8 : Int), (8 : Int), (8 : Int), (8 : Int), (8 : Int), (8 : Int), (8 : Int), (8 : Int), (8 : Int), (8 : Int), (8 : Int), (8 : Int), (8 : Int), (8 : Int), (8 : Int), (8 : Int), (8 : Int), (8 : Int), (8 : Int), (8 : Int), (8 : Int), (8 : Int), (8 : Int), (8 : Int), (8 : Int), (8 : Int), (8 : Int), (8 : Int), (8 : Int), (8 : Int), (8 : Int), (8 : Int), (8 : Int), (8 : Int), (8 : Int), (8 : Int), (8 : Int), (8 : Int), (8 : Int), (8 : Int), (8 : Int), (8 : Int), (8 : Int), (8 : Int), (8 : Int), (8 : Int), (8 : Int), (8 : Int), (8 : Int), (8 : Int), (8 : Int), (8 : Int), (8 : Int), (8 : Int), (8 : Int), (8 : Int), (8 : Int), (8 : Int), (8 : Int), (8 : Int), (8 : Int), (8 : Int), (8 : Int)] (Int.toNat (Go.IntKind.wrap (Go.IntKind.u8) (Int.fdiv (Int.fdiv (Int.fdiv x_ (4294967296 : Int)) (65536 : Int)) (256 : Int)))) (0 : Int))))), ()), ((), ())))
      none)
     (brR (Go.Pon.inR (Go.IntKind.wrap (Go.IntKind.u8) (Int.fdiv (Int.fdiv x_ (4294967296 : Int)) (65536 : Int))) (256 : Nat))
      (some (((Go.IntKind.wrap (Go.IntKind.i64) ((48 : Int) + (Go.IntKind.wrap (Go.IntKind.i64) (List.getD [(0 : Int), (1 : Int), (2 : Int), (2 : Int), (3 : Int), (3 : Int), (3 : Int), (3 : Int), (4 : Int), (4 : Int), (4 : Int), (4 : Int), (4 : Int), (4 : Int), (4 : Int), (4 : Int), (5 : Int), (5 : Int), (5 : Int), (5 : Int), (5 : Int), (5 : Int), (5 : Int), (5 : Int), (5 : Int), (5 : Int), (5 : Int), (5 : Int), (5 : Int), (5 : Int), (5 : Int), (5 : Int), (6 : Int), (6 : Int), (6 : Int), (6 : Int), (6 : Int), (6 : Int), (6 : Int), (6 : Int), (6 : Int), (6 : Int), (6 : Int), (6 : Int), (6 : Int), (6 : Int), (6 : Int), (6 : Int), (6 : Int), (6 : Int), (6 : Int), (6 : Int), (6 : Int), (6 : Int), (6 : Int), (6 : Int), (6 : Int), (6 : Int), (6 : Int), (6 : Int), (6 : Int), (6 : Int), (6 : Int), (6 : Int), (7 : Int), (7 : Int), (7 : Int), (7 : Int), (7 : Int), (7 : Int), (7 : Int), (7 : Int), (7 : Int), (7 : Int), (7 : Int), (7 : Int), (7 : Int), (7 : Int), (7 : Int), (7 : Int), (7 : Int), (7 : Int), (7 : Int), (7 : Int), (7 : Int), (7 : Int), (7 : Int), (7 : Int), (7 : Int), (7 : Int), (7 : Int), (7 : Int), (7 : Int), (7 : Int), (7 : Int), (7 : Int), (7 : Int), (7 : Int), (7 : Int), (7 : Int), (7 : Int), (7 : Int), (7 : Int), (7 : Int), (7 : Int), (7 : Int), (7 : Int), (7 : Int), (7 : Int), (7 : Int), (7 : Int), (7 : Int), (7 : Int), (7 : Int), (7 : Int), (7 : Int), (7 : Int), (7 : Int), (7 : Int), (7 : Int), (7 : Int), (7 : Int), (7 : Int), (7 : Int), (7 : Int), (7 : Int), (7 : Int), (7 : Int), (8 : Int), (8 : Int), (8 : Int), (8 : Int), (8 : Int), (8 : Int), (8 : Int), (8 : Int), (8 : Int), (8 : Int), (8 : Int), (8 : Int), (8 : Int), (8 : Int), (8 : Int), (8 : Int), (8 : Int), (8 : Int), (8 : Int), (8 : Int), (8 : Int), (8 : Int), (8 : Int), (8 : Int), (8 : Int), (8 : Int), (8 : Int), (8 : Int), (8 : Int), (8 : Int), (8 : Int), (8 : Int), (8 : Int), (8 : Int), (8 : Int), (8 : Int), (8 : Int), (8 : Int), (8 : Int), (8 : Int), (8 : Int), (8 : Int), (8 : Int), (8 : Int), (8 : Int), (8 : Int), (8 : Int), (8 : Int), (8 : Int), (8 : Int), (8 : Int), (8 : Int), (8 : Int), (8 : Int), (8 : Int), (8 : Int), (8 : Int), (8 : Int), (8 : Int), (8 : Int), (8 : Int), (8 : Int), (8 : Int), (8 : Int), (8 : Int), (8 : Int), (8 : Int), (8 : Int), (8 : Int), (8 : Int), (8 : Int), (8 : Int), (8 : Int), (8 : Int), (8 : Int), (8 : Int), (8 : Int), (8 : Int), (8 : Int), (8 : Int), (8 : Int), (8 : Int), (8 : Int), (8 : Int), (8 : Int), (8 : Int), (8 : Int), (8 : Int), (8 : Int), (8 : Int), (8 : Int), (8 : Int), (8 : Int), (8 : Int), (8 : Int), (8 : Int), (8 : Int), (8 : Int), (8 : Int), (8 : Int), (8 : Int), (8 : Int), (8 : Int), (8 : Int), (8 : Int), (8 : Int), (8 : Int), (8 : Int), (8 : Int), (8 : Int), (8 : Int), (8 : Int), (8 : Int), (8 : Int), (8 : Int), (8 : Int), (8 : Int), (8 : Int), (8 : Int), (8 : Int), (8 : Int), (8 : Int), (8 : Int), (8 : Int), (8 : Int), (8 : Int), (8 : Int), (8 : Int)] (Int.toNat (Go.IntKind.wrap (Go.IntKind.u8) (Int.fdiv (Int.fdiv x_ (4294967296 : Int)) (65536 : Int)))) (0 : Int))))), ()), ((), ())))
      none))
    (brR (decide ((Int.fdiv x_ (4294967296 : Int)) ≥ (256 : Int)))
     (brR (Go.Pon.inR (Go.IntKind.wrap (Go.IntKind.u8) (Int.fdiv (Int.fdiv x_ (4294967296 : Int)) (256 : Int))) (256 : Nat))
      (some (((Go.IntKind.wrap (Go.IntKind.i64) ((40 : Int) + (Go.IntKind.wrap (Go.IntKind.i64) (List.getD [(0 : Int), (1 : Int), (2 : Int), (2 : Int), (3 : Int), (3 : Int), (3 : Int), (3 : Int), (4 : Int), (4 : Int), (4 : Int), (4 : Int), (4 : Int), (4 : Int), (4 : Int), (4 : Int), (5 : Int), (5 : Int), (5 : Int), (5 : Int), (5 : Int), (5 : Int), (5 : Int), (5 : Int), (5 : Int), (5 : Int), (5 : Int), (5 : Int), (5 : Int), (5 : Int), (5 : Int), (5 : Int), (6 : Int), (6 : Int), (6 : Int), (6 : Int), (6 : Int), (6 : Int), (6 : Int), (6 : Int), (6 : Int), (6 : Int), (6 : Int), (6 : Int), (6 : Int), (6 : Int), (6 : Int), (6 : Int), (6 : Int), (6 : Int), (6 : Int), (6 : Int), (6 : Int), (6 : Int), (6 : Int), (6 : Int), (6 : Int), (6 : Int), (6 : Int), (6 : Int), (6 : Int), (6 : Int), (6 : Int), (6 : Int), (7 : Int), (7 : Int), (7 : Int), (7 : Int), (7 : Int), (7 : Int), (7 : Int), (7 : Int), (7 : Int), (7 : Int), (7 : Int), (7 : Int), (7 : Int), (7 : Int), (7 : Int), (7 : Int), (7 : Int), (7 : Int), (7 : Int), (7 : Int), (7 : Int), (7 : Int), (7 : Int), (7 : Int), (7 : Int), (7 : Int), (7 : Int), (7 : Int), (7 : Int), (7 : Int), (7 : Int), (7 : Int), (7 : Int), (7 : Int), (7 : Int), (7 : Int), (7 : Int), (7 : Int), (7 : Int), (7 : Int), (7 : Int), (7 : Int), (7 : Int), (7 : Int), (7 : Int), (7 : Int), (7 : Int), (7 : Int), (7 : Int), (7 : Int), (7 : Int), (7 : Int), (7 : Int), (7 : Int), (7 : Int), (7 : Int), (7 : Int), (7 : Int), (7 : Int), (7 : Int), (7 : Int), (7 : Int), (7 : Int), (7 : Int), (8 : Int), (8 : Int), (8 : Int), (8 : Int), (8 : Int), (8 : Int), (8 : Int), (8 : Int), (8 : Int), (8 : Int), (8 : Int), (8 : Int), (8 : Int), (8 : Int), (8 : Int), (8 : Int), (8 : Int), (8 : Int), (8 : Int), (8 : Int), (8 : Int), (8 : Int), (8 : Int), (8 : Int), (8 : Int), (8 : Int), (8 : Int), (8 : Int), (8 : Int), (8 : Int), (8 : Int), (8 : Int), (8 : Int), (8 : Int), (8 : Int), (8 : Int), (8 : Int), (8 : Int), (8 : Int), (8 : Int), (8 : Int), (8 : Int), (8 : Int), (8 : Int), (8 : Int), (8 : Int), (8 : Int), (8 : Int), (8 : Int), (8 : Int), (8 : Int), (8 : Int), (8 : Int), (8 : Int), (8 : Int), (8 : Int), (8 : Int), (8 : Int), (8 : Int), (8 : Int), (8 : Int), (8 : Int), (8 : Int), (8 : Int), (8 : Int), (8 : Int), (8 : Int), (8 : Int), (8 : Int), (8 : Int), (8 : Int), (8 : Int), (8 : Int), (8 : Int), (8 : Int), (8 : Int), (8 : Int), (8 : Int), (8 : Int), (8 : Int), (8 : Int), (8 : Int), (8 : Int), (8 : Int), (8 : Int), (8 : Int), (8 : Int), (8 : Int), (8 : Int), (8 : Int), (8 : Int), (8 : Int), (8 : Int), (8 : Int), (8 : Int), (8 : Int), (8 : Int), (8 : Int), (8 : Int), (8 : Int), (8 : Int), (8 : Int), (8 : Int), (8 : Int), (8 : Int), (8 : Int), (8 : Int), (8 : Int), (8 : Int), (8 : Int), (8 : Int), (8 : Int), (8 : Int), (8 : Int), (8 : Int), (8 : Int), (8 : Int), (8 : Int), (8 : Int), (8 : Int), (8 : Int), (8 : Int), (8 : Int), (8 : Int), (8 : Int), (8 : Int), (8 : Int), (8 : Int)] (Int.toNat (Go.IntKind.wrap (Go.IntKind.u8) (Int.fdiv (Int.fdiv x_ (4294967296 : Int)) (256 : Int)))) (0 : Int))))), ()), ((), ())))
      none)
     (brR (Go.Pon.inR (Go.IntKind.wrap (Go.IntKind.u8) (Int.fdiv x_ (4294967296 : Int))) (256 : Nat))
      (some (((Go.IntKind.wrap (Go.IntKind.i64) ((32 : Int) + (Go.IntKind.wrap (Go.IntKind.i64) (List.getD [(0 : Int), (1 : Int), (2 : Int), (2 : Int), (3 : Int), (3 : Int), (3 : Int), (3 : Int), (4 : Int), (4 : Int), (4 : Int), (4 : Int), (4 : Int), (4 : Int), (4 : Int), (4 : Int), (5 : Int), (5 : Int), (5 : Int), (5 : Int), (5 : Int), (5 : Int), (5 : Int), (5 : Int), (5 : Int), (5 : Int), (5 : Int), (5 : Int), (5 : Int), (5 : Int), (5 : Int), (5 : Int), (6 : Int), (6 : Int), (6 : Int), (6 : Int), (6 : Int), (6 : Int), (6 : Int), (6 : Int), (6 : Int), (6 : Int), (6 : Int), (6 : Int), (6 : Int), (6 : Int), (6 : Int), (6 : Int), (6 : Int), (6 : Int), (6 : Int), (6 : Int), (6 : Int), (6 : Int), (6 : Int), (6 : Int), (6 : Int), (6 : Int), (6 : Int), (6 : Int), (6 : Int), (6 : Int), (6 : Int), (6 : Int), (7 : Int), (7 : Int), (7 : Int), (7 : Int), (7 : Int), (7 : Int), (7 : Int), (7 : Int), (7 : Int), (7 : Int), (7 : Int), (7 : Int), (7 : Int), (7 : Int), (7 : Int), (7 : Int), (7 : Int), (7 : Int), (7 : Int), (7 : Int), (7 : Int), (7 : Int), (7 : Int), (7 : Int), (7 : Int), (7 : Int), (7 : Int), (7 : Int), (7 : Int), (7 : Int), (7 : Int), (7 : Int), (7 : Int), (7 : Int), (7 : Int), (7 : Int), (7 : Int), (7 : Int), (7 : Int), (7 : Int), (7 : Int), (7 : Int), (7 : Int), (7 : Int), (7 : Int), (7 : Int), (7 : Int), (7 : Int), (7 : Int), (7 : Int), (7 : Int), (7 : Int), (7 : Int), (7 : Int), (7 : Int), (7 : Int), (7 : Int), (7 : Int), (7 : Int), (7 : Int), (7 : Int), (7 : Int), (7 : Int), (7 : Int), (8 : Int), (8 : Int), (8 : Int), (8 : Int), (8 : Int), (8 : Int), (8 : Int), (8 : Int), (8 : Int), (8 : Int), (8 : Int), (8 : Int), (8 : Int), (8 : Int), (8 : Int), (8 : Int), (8 : Int), (8 : Int), (8 : Int), (8 : Int), (8 : Int), (8 : Int), (8 : Int), (8 : Int), (8 : Int), (8 : Int), (8 : Int), (8 : Int), (8 : Int), (8 : Int), (8 : Int), (8 : Int), (8 : Int), (8 : Int), (8 : Int), (8 : Int), (8 : Int), (8 : Int), (8 : Int), (8 : Int), (8 : Int), (8 : Int), (8 : Int), (8 : Int), (8 : Int), (8 : Int), (8 : Int), (8 : Int), (8 : Int), (8 : Int), (8 : Int), (8 : Int), (8 : Int), (8 : Int), (8 : Int), (8 : Int), (8 : Int), (8 : Int), (8 : Int), (8 : Int), (8 : Int), (8 : Int), (8 : Int), (8 : Int), (8 : Int), (8 : Int), (8 : Int), (8 : Int), (8 : Int), (8 : Int), (8 : Int), (8 : Int), (8 : Int), (8 : Int), (8 : Int), (8 : Int), (8 : Int), (8 : Int), (8 : Int), (8 : Int), (8 : Int), (8 : Int), (8 : Int), (8 : Int), (8 : Int), (8 : Int), (8 : Int), (8 : Int), (8 : Int), (8 : Int), (8 : Int), (8 : Int), (8 : Int), (8 : Int), (8 : Int), (8 : Int), (8 : Int), (8 : Int), (8 : Int), (8 : Int), (8 : Int), (8 : Int), (8 : Int), (8 : Int), (8 : Int), (8 : Int), (8 : Int), (8 : Int), (8 : Int), (8 : Int), (8 : Int), (8 : Int), (8 : Int), (8 : Int), (8 : Int), (8 : Int), (8 : Int), (8 : Int), (8 : Int), (8 : Int), (8 : Int), (8 : Int), (8 : Int), (8 : Int), (8 : Int), (8 : Int), (8 : Int), (8 : Int)] (Int.toNat (Go.IntKind.wrap (Go.IntKind.u8) (Int.fdiv x_ (4294967296 : Int)))) (0 : Int))))), ()), ((), ())))
      none)))
   (brR (decide (x_ ≥ (65536 : Int)))
    (brR (decide ((Int.fdiv x_ (65536 : Int)) ≥ (256 : Int)))
     (brR (Go.Pon.inR (Go.IntKind.wrap (Go.IntKind.u8) (Int.fdiv (Int.fdiv x_ (65536 : Int)) (256 : Int))) (256 : Nat))
      (some (((Go.IntKind.wrap (Go.IntKind.i64) ((24 : Int) + (Go.IntKind.wrap (Go.IntKind.i64) (List.getD [(0 : Int), (1 : Int), (2 : Int), (2 : Int), (3 : Int), (3 : Int), (3 : Int), (3 : Int), (4 : Int), (4 : Int), (4 : Int), (4 : Int), (4 : Int), (4 : Int), (4 : Int), (4 : Int), (5 : Int), (5 : Int), (5 : Int), (5 : Int), (5 : Int), (5 : Int), (5 : Int), (5 : Int), (5 : Int), (5 : Int), (5 : Int), (5 : Int), (5 : Int), (5 : Int), (5 : Int), (5 : Int), (6 : Int), (6 : Int), (6 : Int), (6 : Int), (6 : Int), (6 : Int), (6 : Int), (6 : Int), (6 : Int), (6 : Int), (6 : Int), (6 : Int), (6 : Int), (6 : Int), (6 : Int), (6 : Int), (6 : Int), (6 : Int), (6 : Int), (6 : Int), (6 : Int), (6 : Int), (6 : Int), (6 : Int), (6 : Int), (6 : Int), (6 : Int), (6 : Int), (6 : Int), (6 : Int), (6 : Int), (6 : Int), (7 : Int), (7 : Int), (7 : Int), (7 : Int), (7 : Int), (7 : Int), (7 : Int), (7 : Int), (7 : Int), (7 : Int), (7 : Int), (7 : Int), (7 : Int), (7 : Int), (7 : Int), (7 : Int), (7 : Int), (7 : Int), (7 : Int), (7 : Int), (7 : Int), (7 : Int), (7 : Int), (7 : Int), (7 : Int), (7 : Int), (7 : Int), (7 : Int), (7 : Int), (7 : Int), (7 : Int), (7 : Int), (7 : Int), (7 : Int), (7 : Int), (7 : Int), (7 : Int), (7 : Int), (7 : Int), (7 : Int), (7 : Int), (7 : Int), (7 : Int), (7 : Int), (7 : Int), (7 : Int), (7 : Int), (7 : Int), (7 : Int), (7 : Int), (7 : Int), (7 : Int), (7 : Int), (7 : Int), (7 : Int), (7 : Int), (7 : Int), (7 : Int), (7 : Int), (7 : Int), (7 : Int), (7 : Int), (7 : Int), (7 : Int), (8 : Int), (8 : Int), (8 : Int), (8 : Int), (8 : Int), (8 : Int), (8 : Int), (8 : Int), (8 : Int), (8 : Int), (8 : Int), (8 : Int), (8 : Int), (8 : Int), (8 : Int), (8 : Int), (8 : Int), (8 : Int), (8 : Int), (8 : Int), (8 : Int), (8 : Int), (8 : Int), (8 : Int), (8 : Int), (8 : Int), (8 : Int), (8 : Int), (8 : Int), (8 : Int), (8 : Int), (8 : Int), (8 : Int), (8 : Int), (8 : Int), (8 : Int), (8 : Int), (8 : Int), (8 : Int), (8 : Int), (8 : Int), (8 : Int), (8 : Int), (8 : Int), (8 : Int), (8 : Int), (8 : Int), (8 : Int), (8 : Int), (8 : Int), (8 : Int), (8 : Int), (8 : Int), (8 : Int), (8 : Int), (8 : Int), (8 : Int), (8 : Int), (8 : Int), (8 : Int), (8 : Int), (8 : Int), (8 : Int), (8 : Int), (8 : Int), (8 : Int), (8 : Int), (8 : Int), (8 : Int), (8 : Int), (8 : Int), (8 : Int), (8 : Int), (8 : Int), (8 : Int), (8 : Int), (8 : Int), (8 : Int), (8 : Int), (8 : Int), (8 : Int), (8 : Int), (8 : Int), (8 : Int), (8 : Int), (8 : Int), (8 : Int), (8 : Int), (8 : Int), (8 : Int), (8 : Int), (8 : Int), (8 : Int), (8 : Int), (8 : Int), (8 : Int), (8 : Int), (8 : Int), (8 : Int), (8 : Int), (8 : Int), (8 : Int), (8 : Int), (8 : Int), (8 : Int), (8 : Int), (8 : Int), (8 : Int), (8 : Int), (8 : Int), (8 : Int), (8 : Int), (8 : Int), (8 : Int), (8 : Int), (8 : Int), (8 : Int), (8 : Int), (8 : Int), (8 : Int), (8 : Int), (8 : Int), (8 : Int), (8 : Int), (8 : Int), (8 : Int), (8 : Int), (8 : Int)] (Int.toNat (Go.IntKind.wrap (Go.IntKind.u8) (Int.fdiv (Int.fdiv x_ (65536 : Int)) (256 : Int)))) (0 : Int))))), ()), ((), ())))
      none)
     (brR (Go.Pon.inR (Go.IntKind.wrap (Go.IntKind.u8) (Int.fdiv x_ (65536 : Int))) (256 : Nat))
      (some (((Go.IntKind.wrap (Go.IntKind.i64) ((16 : Int) + (Go.IntKind.wrap (Go.IntKind.i64) (List.getD [(0 : Int), (1 : Int), (2 : Int), (2 : Int), (3 : Int), (3 : Int), (3 : Int), (3 : Int), (4 : Int), (4 : Int), (4 : Int), (4 : Int), (4 : Int), (4 : Int), (4 : Int), (4 : Int), (5 : Int), (5 : Int), (5 : Int), (5 : Int), (5 : Int), (5 : Int), (5 : Int), (5 : Int), (5 : Int), (5 : Int), (5 : Int), (5 : Int), (5 : Int), (5 : Int), (5 : Int), (5 : Int), (6 : Int), (6 : Int), (6 : Int), (6 : Int), (6 : Int), (6 : Int), (6 : Int), (6 : Int), (6 : Int), (6 : Int), (6 : Int), (6 : Int), (6 : Int), (6 : Int), (6 : Int), (6 : Int), (6 : Int), (6 : Int), (6 : Int), (6 : Int), (6 : Int), (6 : Int), (6 : Int), (6 : Int), (6 : Int), (6 : Int), (6 : Int), (6 : Int), (6 : Int), (6 : Int), (6 : Int), (6 : Int), (7 : Int), (7 : Int), (7 : Int), (7 : Int), (7 : Int), (7 : Int), (7 : Int), (7 : Int), (7 : Int), (7 : Int), (7 : Int), (7 : Int), (7 : Int), (7 : Int), (7 : Int), (7 : Int), (7 : Int), (7 : Int), (7 : Int), (7 : Int), (7 : Int), (7 : Int), (7 : Int), (7 : Int), (7 : Int), (7 : Int), (7 : Int), (7 : Int), (7 : Int), (7 : Int), (7 : Int), (7 : Int), (7 : Int), (7 : Int), (7 : Int), (7 : Int), (7 : Int), (7 : Int), (7 : Int), (7 : Int), (7 : Int), (7 : Int), (7 : Int), (7 : Int), (7 : Int), (7 : Int), (7 : Int), (7 : Int), (7 : Int), (7 : Int), (7 : Int), (7 : Int), (7 : Int), (7 : Int), (7 : Int), (7 : Int), (7 : Int), (7 : Int), (7 : Int), (7 : Int), (7 : Int), (7 : Int), (7 : Int), (7 : Int), (8 : Int), (8 : Int), (8 : Int), (8 : Int), (8 : Int), (8 : Int), (8 : Int), (8 : Int), (8 : Int), (8 : Int), (8 : Int), (8 : Int), (8 : Int), (8 : Int), (8 : Int), (8 : Int), (8 : Int), (8 : Int), (8 : Int), (8 : Int), (8 : Int), (8 : Int), (8 : Int), (8 : Int), (8 : Int), (8 : Int), (8 : Int), (8 : Int), (8 : Int), (8 : Int), (8 : Int), (8 : Int), (8 : Int), (8 : Int), (8 : Int), (8 : Int), (8 : Int), (8 : Int), (8 : Int), (8 : Int), (8 : Int), (8 : Int), (8 : Int), (8 : Int), (8 : Int), (8 : Int), (8 : Int), (8 : Int), (8 : Int), (8 : Int), (8 : Int), (8 : Int), (8 : Int), (8 : Int), (8 : Int), (8 : Int), (8 : Int), (8 : Int), (8 : Int), (8 : Int), (8 : Int), (8 : Int), (8 : Int), (8 : Int), (8 : Int), (8 : Int), (8 : Int), (8 : Int), (8 : Int), (8 : Int), (8 : Int), (8 : Int), (8 : Int), (8 : Int), (8 : Int), (8 : Int), (8 : Int), (8 : Int), (8 : Int), (8 : Int), (8 : Int), (8 : Int), (8 : Int), (8 : Int), (8 : Int), (8 : Int), (8 : Int), (8 : Int), (8 : Int), (8 : Int), (8 : Int), (8 : Int), (8 : Int), (8 : Int), (8 : Int), (8 : Int), (8 : Int), (8 : Int), (8 : Int), (8 : Int), (8 : Int), (8 : Int), (8 : Int), (8 : Int), (8 : Int), (8 : Int), (8 : Int), (8 : Int), (8 : Int), (8 : Int), (8 : Int), (8 : Int), (8 : Int), (8 : Int), (8 : Int), (8 : Int), (8 : Int), (8 : Int), (8 : Int), (8 : Int), (8 : Int), (8 : Int), (8 : Int), (8 : Int), (8 : Int), (8 : Int), (8 : Int), (8 : Int)] (Int.toNat (Go.IntKind.wrap (Go.IntKind.u8) (Int.fdiv x_ (65536 : Int)))) (0 : Int))))), ()), ((), ())))
      none))
    (brR (decide (x_ ≥ (256 : Int)))
     (brR (Go.Pon.inR (Go.IntKind.wrap (Go.IntKind.u8) (Int.fdiv x_ (256 : Int))) (256 : Nat))
      (some (((Go.IntKind.wrap (Go.IntKind.i64) ((8 : Int) + (Go.IntKind.wrap (Go.IntKind.i64) (List.getD [(0 : Int), (1 : Int), (2 : Int), (2 : Int), (3 : Int), (3 : Int), (3 : Int), (3 : Int), (4 : Int), (4 : Int), (4 : Int), (4 : Int), (4 : Int), (4 : Int), (4 : Int), (4 : Int), (5 : Int), (5 : Int), (5 : Int), (5 : Int), (5 : Int), (5 : Int), (5 : Int), (5 : Int), (5 : Int), (5 : Int), (5 : Int), (5 : Int), (5 : Int), (5 : Int), (5 : Int), (5 : Int), (6 : Int), (6 : Int), (6 : Int), (6 : Int), (6 : Int), (6 : Int), (6 : Int), (6 : Int), (6 : Int), (6 : Int), (6 : Int), (6 : Int), (6 : Int), (6 : Int), (6 : Int), (6 : Int), (6 : Int), (6 : Int), (6 : Int), (6 : Int), (6 : Int), (6 : Int), (6 : Int), (6 : Int), (6 : Int), (6 : Int), (6 : Int), (6 : Int), (6 : Int), (6 : Int), (6 : Int), (6 : Int), (7 : Int), (7 : Int), (7 : Int), (7 : Int), (7 : Int), (7 : Int), (7 : Int), (7 : Int), (7 : Int), (7 : Int), (7 : Int), (7 : Int), (7 : Int), (7 : Int), (7 : Int), (7 : Int), (7 : Int), (7 : Int), (7 : Int), (7 : Int), (7 : Int), (7 : Int), (7 : Int), (7 : Int), (7 : Int), (7 : Int), (7 : Int), (7 : Int), (7 : Int), (7 : Int), (7 : Int), (7 : Int), (7 : Int), (7 : Int), (7 : Int), (7 : Int), (7 : Int), (7 : Int), (7 : Int), (7 : Int), (7 : Int), (7 : Int), (7 : Int), (7 : Int), (7 : Int), (7 : Int), (7 : Int), (7 : Int), (7 : Int), (7 : Int), (7 : Int), (7 : Int), (7 : Int), (7 : Int), (7 : Int), (7 : Int), (7 : Int), (7 : Int), (7 : Int), (7 : Int), (7 : Int), (7 : Int), (7 : Int), (7 : Int), (8 : Int), (8 : Int), (8 : Int), (8 : Int), (8 : Int), (8 : Int), (8 : Int), (8 : Int), (8 : Int), (8 : Int), (8 : Int), (8 : Int), (8 : Int), (8 : Int), (8 : Int), (8 : Int), (8 : Int), (8 : Int), (8 : Int), (8 : Int), (8 : Int), (8 : Int), (8 : Int), (8 : Int), (8 : Int), (8 : Int), (8 : Int), (8 : Int), (8 : Int), (8 : Int), (8 : Int), (8 : Int), (8 : Int), (8 : Int), (8 : Int), (8 : Int), (8 : Int), (8 : Int), (8 : Int), (8 : Int), (8 : Int), (8 : Int), (8 : Int), (8 : Int), (8 : Int), (8 : Int), (8 : Int), (8 : Int), (8 : Int), (8 : Int), (8 : Int), (8 : Int), (8 : Int), (8 : Int), (8 : Int), (8 : Int), (8 : Int), (8 : Int), (8 : Int), (8 : Int), (8 : Int), (8 : Int), (8 : Int), (8 : Int), (8 : Int), (8 : Int), (8 : Int), (8 : Int), (8 : Int), (8 : Int), (8 : Int), (8 : Int), (8 : Int), (8 : Int), (8 : Int), (8 : Int), (8 : Int), (8 : Int), (8 : Int), (8 : Int), (8 : Int), (8 : Int), (8 : Int), (8 : Int), (8 : Int), (8 : Int), (8 : Int), (8 : Int), (8 : Int), (8 : Int), (8 : Int), (8 : Int), (8 : Int), (8 : Int), (8 : Int), (8 : Int), (8 : Int), (8 : Int), (8 : Int), (8 : Int), (8 : Int), (8 : Int), (8 : Int), (8 : Int), (8 : Int), (8 : Int), (8 : Int), (8 : Int), (8 : Int), (8 : Int), (8 : Int), (8 : Int), (8 : Int), (8 : Int), (8 : Int), (8 : Int), (8 : Int), (8 : Int), (8 : Int), (8 : Int), (8 : Int), (8 : Int), (8 : Int), (8 : Int), (8 : Int), (8 : Int), (8 : Int), (8 : Int)] (Int.toNat (Go.IntKind.wrap (Go.IntKind.u8) (Int.fdiv x_ (256 : Int)))) (0 : Int))))), ()), ((), ())))
      none)
     (brR (Go.Pon.inR (Go.IntKind.wrap (Go.IntKind.u8) x_) (256 : Nat))
      (some (((Go.IntKind.wrap (Go.IntKind.i64) ((0 : Int) + (Go.IntKind.wrap (Go.IntKind.i64) (List.getD [(0 : Int), (1 : Int), (2 : Int), (2 : Int), (3 : Int), (3 : Int), (3 : Int), (3 : Int), (4 : Int), (4 : Int), (4 : Int), (4 : Int), (4 : Int), (4 : Int), (4 : Int), (4 : Int), (5 : Int), (5 : Int), (5 : Int), (5 : Int), (5 : Int), (5 : Int), (5 : Int), (5 : Int), (5 : Int), (5 : Int), (5 : Int), (5 : Int), (5 : Int), (5 : Int), (5 : Int), (5 : Int), (6 : Int), (6 : Int), (6 : Int), (6 : Int), (6 : Int), (6 : Int), (6 : Int), (6 : Int), (6 : Int), (6 : Int), (6 : Int), (6 : Int), (6 : Int), (6 : Int), (6 : Int), (6 : Int), (6 : Int), (6 : Int), (6 : Int), (6 : Int), (6 : Int), (6 : Int), (6 : Int), (6 : Int), (6 : Int), (6 : Int), (6 : Int), (6 : Int), (6 : Int), (6 : Int), (6 : Int), (6 : Int), (7 : Int), (7 : Int), (7 : Int), (7 : Int), (7 : Int), (7 : Int), (7 : Int), (7 : Int), (7 : Int), (7 : Int), (7 : Int), (7 : Int), (7 : Int), (7 : Int), (7 : Int), (7 : Int), (7 : Int), (7 : Int), (7 : Int), (7 : Int), (7 : Int), (7 : Int), (7 : Int), (7 : Int), (7 : Int), (7 : Int), (7 : Int), (7 : Int), (7 : Int), (7 : Int), (7 : Int), (7 : Int), (7 : Int), (7 : Int), (7 : Int), (7 : Int), (7 : Int), (7 : Int), (7 : Int), (7 : Int), (7 : Int), (7 : Int), (7 : Int), (7 : Int), (7 : Int), (7 : Int), (7 : Int), (7 : Int), (7 : Int), (7 : Int), (7 : Int), (7 : Int), (7 : Int), (7 : Int), (7 : Int), (7 : Int), (7 : Int), (7 : Int), (7 : Int), (7 : Int), (7 : Int), (7 : Int), (7 : Int), (7 : Int), (8 : Int), (8 : Int), (8 : Int), (8 : Int), (8 : Int), (8 : Int), (8 : Int), (8 : Int), (8 : Int), (8 : Int), (8 : Int), (8 : Int), (8 : Int), (8 : Int), (8 : Int), (8 : Int), (8 : Int), (8 : Int), (8 : Int), (8 : Int), (8 : Int), (8 : Int), (8 : Int), (8 : Int), (8 : Int), (8 : Int), (8 : Int), (8 : Int), (8 : Int), (8 : Int), (8 : Int), (8 : Int), (8 : Int), (8 : Int), (8 : Int), (8 : Int), (8 : Int), (8 : Int), (8 : Int), (8 : Int), (8 : Int), (8 : Int), (8 : Int), (8 : Int), (8 : Int), (8 : Int), (8 : Int), (8 : Int), (8 : Int), (8 : Int), (8 : Int), (8 : Int), (8 : Int), (8 : Int), (8 : Int), (8 : Int), (8 : Int), (8 : Int), (8 : Int), (8 : Int), (8 : Int), (8 : Int), (8 : Int), (8 : Int), (8 : Int), (8 : Int), (8 : Int), (8 : Int), (8 : Int), (8 : Int), (8 : Int), (8 : Int), (8 : Int), (8 : Int), (8 : Int), (8 : Int), (8 : Int), (8 : Int), (8 : Int), (8 : Int), (8 : Int), (8 : Int), (8 : Int), (8 : Int), (8 : Int), (8 : Int), (8 : Int), (8 : Int), (8 : Int), (8 : Int), (8 : Int), (8 : Int), (8 : Int), (8 : Int), (8 : Int), (8 : Int), (8 : Int), (8 : Int), (8 : Int), (8 : Int), (8 : Int), (8 : Int), (8 : Int), (8 : Int), (8 : Int), (8 : Int), (8 : Int), (8 : Int), (8 : Int), (8 : Int), (8 : Int), (8 : Int), (8 : Int), (8 : Int), (8 : Int), (8 : Int), (8 : Int), (8 : Int), (8 : Int), (8 : Int), (8 : Int), (8 : Int), (8 : Int), (8 : Int), (8 : Int), (8 : Int), (8 : Int), (8 : Int)] (Int.toNat (Go.IntKind.wrap (Go.IntKind.u8) x_)) (0 : Int))))), ()), ((), ())))
      none))))

noncomputable def sol_math_bits_Len64 : F_math_bits_Len64 := fun x => T_math_bits_Len64 bigLoop x.1

end Go.Pon
/-
  What the functions of package slices compute (printed by a program of this work).
-/
set_option autoImplicit false
set_option linter.unusedVariables false
set_option maxRecDepth 100000
namespace Go.Pon
open Go

/-- slices.Grow[[]byte,byte] -/
abbrev s_slices_Grow_byte_byte : Sig := ⟨[.nilm (.int .u8), .ro true (.int .i64)], [.own true (.int .u8)]⟩
abbrev F_slices_Grow_byte_byte := (Unit × (Int × Unit)) → Option (((List Int) × Unit) × (Unit × (Unit × Unit)))

noncomputable def T_slices_Grow_byte_byte (L : LoopD) (s_ : Unit) (n_ : Int) : Option (((List Int) × Unit) × (Unit × (Unit × Unit))) :=
  (brR (decide (n_ < (0 : Int)))
   none
   (brR (decide ((Go.IntKind.wrap (Go.IntKind.i64) (n_ - (0 : Int))) > (0 : Int)))
    (brR (((decide ((0 : Int) ≤ (Go.IntKind.wrap (Go.IntKind.i64) (n_ - (0 : Int))))) && (Go.Pon.roomy (Int.toNat (Go.IntKind.wrap (Go.IntKind.i64) (n_ - (0 : Int)))) (Go.Pon.Ty.int Go.IntKind.u8))) && true)
     (brR (decide ((0 : Int) ≤ (((List.length (List.replicate (Int.toNat (Go.IntKind.wrap (Go.IntKind.i64) (n_ - (0 : Int)))) (0 : Int))) : Nat) : Int)))
      (some (((List.take (0 : Nat) (List.replicate (Int.toNat (Go.IntKind.wrap (Go.IntKind.i64) (n_ - (0 : Int)))) (0 : Int))), ()), ((), ((), ()))))
      none)
     none)
    (some ((([] : List Int), ()), ((), ((), ()))))))

noncomputable def sol_slices_Grow_byte_byte : F_slices_Grow_byte_byte := fun x => T_slices_Grow_byte_byte bigLoop x.1 x.2.1

/-- slices.Concat[[]byte,byte] -/
abbrev s_slices_Concat_byte_byte : Sig := ⟨[(.ro false (.slice (.slice (.int .u8))))], [(.own true (.int .u8))]⟩
abbrev F_slices_Concat_byte_byte := ((List (List Int)) × Unit) → Option (((List Int) × Unit) × (Unit × Unit))

noncomputable def T_slices_Concat_byte_byte_loop1 (again_8 : ((List Int) × ((List (List Int)) × (Int × (Int × Unit)))) → Option (((List Int) × Unit) × (Unit × Unit))) (newslice_9 : (List Int)) (t25_10 : (List (List Int))) (t26_11 : Int) (t27_12 : Int) : Option (((List Int) × Unit) × (Unit × Unit)) :=
  (brR (decide (t27_12 < t26_11))
   (brR (Go.Pon.inR t27_12 (List.length t25_10))
    (brR (Go.Pon.roomy ((List.length newslice_9) + (List.length (List.getD t25_10 (Int.toNat t27_12) ([] : List Int)))) (Go.Pon.Ty.int Go.IntKind.u8))
     (again_8 ((List.append newslice_9 (List.getD t25_10 (Int.toNat t27_12) ([] : List Int))), (t25_10, (t26_11, ((Go.IntKind.wrap (Go.IntKind.i64) (t27_12 + (1 : Int))), ())))))
     none)
    none)
   (some ((newslice_9, ()), ((), ()))))

noncomputable def T_slices_Concat_byte_byte_loop0 (L : LoopD) (c_slices_Grow_byte_byte : F_slices_Grow_byte_byte) (again_0 : ((List (List Int)) × (Int × ((List (List Int)) × (Int × (Int × Unit))))) → Option (((List Int) × Unit) × (Unit × Unit))) (slices_1 : (List (List Int))) (size_2 : Int) (t9_3 : (List (List Int))) (t10_4 : Int) (t11_5 : Int) : Option (((List Int) × Unit) × (Unit × Unit)) :=
  (letR (Go.IntKind.wrap (Go.IntKind.i64) (size_2 + (((List.length (List.getD t9_3 (Int.toNat t11_5) ([] : List Int))) : Nat) : Int))) fun (v_6 : Int) =>
  (brR (decide (t11_5 < t10_4))
   (brR (Go.Pon.inR t11_5 (List.length t9_3))
    (brR (decide (v_6 < (0 : Int)))
     none
     (again_0 (slices_1, (v_6, (t9_3, (t10_4, ((Go.IntKind.wrap (Go.IntKind.i64) (t11_5 + (1 : Int))), ())))))))
    none)
   (Option.bind (c_slices_Grow_byte_byte ((), (size_2, ()))) (fun (y_7 : (((List Int) × Unit) × (Unit × (Unit × Unit)))) =>
    (L _ _ (fun again x => T_slices_Concat_byte_byte_loop1 again x.1 x.2.1 x.2.2.1 x.2.2.2.1) (y_7.1.1, (slices_1, ((((List.length slices_1) : Nat) : Int), ((0 : Int), ())))))))))

noncomputable def T_slices_Concat_byte_byte (L : LoopD) (c_slices_Grow_byte_byte : F_slices_Grow_byte_byte) (slices_ : (List (List Int))) : Option (((List Int) × Unit) × (Unit × Unit)) :=
  (L _ _ (fun again x => T_slices_Concat_byte_byte_loop0 L c_slices_Grow_byte_byte again x.1 x.2.1 x.2.2.1 x.2.2.2.1 x.2.2.2.2.1) (slices_, ((0 : Int), (slices_, ((((List.length slices_) : Nat) : Int), ((0 : Int), ()))))))

noncomputable def sol_slices_Concat_byte_byte : F_slices_Concat_byte_byte := fun x => T_slices_Concat_byte_byte bigLoop sol_slices_Grow_byte_byte x.1

/-- slices.Clone[[]byte,byte] -/
abbrev s_slices_Clone_byte_byte : Sig := ⟨[(.ro false (.slice (.int .u8)))], [(.own true (.int .u8))]⟩
abbrev F_slices_Clone_byte_byte := ((List Int) × Unit) → Option (((List Int) × Unit) × (Unit × Unit))

noncomputable def T_slices_Clone_byte_byte (L : LoopD) (s_ : (List Int)) : Option (((List Int) × Unit) × (Unit × Unit)) :=
  (brR (decide ((List.length s_) = (0 : Nat)))
   (bothR (some ((([] : List Int), ()), ((), ())))
    (brR (Go.Pon.roomy ((0 : Nat) + (List.length s_)) (Go.Pon.Ty.int Go.IntKind.u8))
     (some ((s_, ()), ((), ())))
     none))
   (brR (Go.Pon.roomy ((0 : Nat) + (List.length s_)) (Go.Pon.Ty.int Go.IntKind.u8))
    (some ((s_, ()), ((), ())))
    none))

noncomputable def sol_slices_Clone_byte_byte : F_slices_Clone_byte_byte := fun x => T_slices_Clone_byte_byte bigLoop x.1

/-- slices.Clip[[]pontage/api.Hash,pontage/api.Hash] -/
abbrev s_slices_Clip_api_Hash_api_Hash : Sig := ⟨[.own false (.arr 32 (.int .u8))], [.ro false (.slice (.arr 32 (.int .u8)))]⟩
abbrev F_slices_Clip_api_Hash_api_Hash := ((List (List Int)) × Unit) → Option (((List (List Int)) × Unit) × (Unit × Unit))

noncomputable def T_slices_Clip_api_Hash_api_Hash (L : LoopD) (s_ : (List (List Int))) : Option (((List (List Int)) × Unit) × (Unit × Unit)) :=
  (letR (((List.length s_) : Nat) : Int) fun (v_0 : Int) =>
  (brR (decide (v_0 = v_0))
   (brR ((decide ((0 : Int) ≤ v_0)) && (decide (v_0 ≤ v_0)))
    (some (((List.take ((Int.toNat v_0) - (0 : Nat)) (List.drop (0 : Nat) s_)), ()), ((), ())))
    none)
   none))

noncomputable def sol_slices_Clip_api_Hash_api_Hash : F_slices_Clip_api_Hash_api_Hash := fun x => T_slices_Clip_api_Hash_api_Hash bigLoop x.1

end Go.Pon
/-
  What the functions of package hash compute (printed by a program of this work).
-/
set_option autoImplicit false
set_option linter.unusedVariables false
set_option maxRecDepth 100000
namespace Go.Pon
open Go

/-- pontage/hash.Format -/
abbrev s_hash_Format : Sig := ⟨[(.ro true (.arr 32 (.int .u8)))], [(.ro true .str)]⟩
abbrev F_hash_Format := ((List Int) × Unit) → Option (((List Int) × Unit) × (Unit × Unit))

noncomputable def T_hash_Format_loop0 (again_0 : ((List Int) × ((List Int) × (Int × Unit))) → Option (((List Int) × Unit) × (Unit × Unit))) (out_1 : (List Int)) (t6_2 : (List Int)) (t7_3 : Int) : Option (((List Int) × Unit) × (Unit × Unit)) :=
  (letR (Go.IntKind.wrap (Go.IntKind.u8) (((BitVec.toNat ((BitVec.ofInt (8 : Nat) (List.getD t6_2 (Int.toNat t7_3) (0 : Int))) &&& (BitVec.ofInt (8 : Nat) (15 : Int)))) : Nat) : Int)) fun (v_4 : Int) =>
  (brR (decide (t7_3 < (32 : Int)))
   (brR (Go.Pon.inR t7_3 (32 : Nat))
    (brR (Go.Pon.inR (Int.fdiv (List.getD t6_2 (Int.toNat t7_3) (0 : Int)) (16 : Int)) (16 : Nat))
     (brR (Go.Pon.inR v_4 (16 : Nat))
      (brR (Go.Pon.roomy ((List.length out_1) + (2 : Nat)) (Go.Pon.Ty.int Go.IntKind.u8))
       (again_0 ((List.append out_1 [(List.getD [(48 : Int), (49 : Int), (50 : Int), (51 : Int), (52 : Int), (53 : Int), (54 : Int), (55 : Int), (56 : Int), (57 : Int), (97 : Int), (98 : Int), (99 : Int), (100 : Int), (101 : Int), (102 : Int)] (Int.toNat (Int.fdiv (List.getD t6_2 (Int.toNat t7_3) (0 : Int)) (16 : Int))) (0 : Int)), (List.getD [(48 : Int), (49 : Int), (50 : Int), (51 : Int), (52 : Int), (53 : Int), (54 : Int), (55 : Int), (56 : Int), (57 : Int), (97 : Int), (98 : Int), (99 : Int), (100 : Int), (101 : Int), (102 : Int)] (Int.toNat v_4) (0 : Int))]), (t6_2, ((Go.IntKind.wrap (Go.IntKind.i64) (t7_3 + (1 : Int))), ()))))
       none)
      none)
     none)
    none)
   (some ((out_1, ()), ((), ())))))

noncomputable def T_hash_Format (L : LoopD) (h_ : (List Int)) : Option (((List Int) × Unit) × (Unit × Unit)) :=
  (L _ _ (fun again x => T_hash_Format_loop0 again x.1 x.2.1 x.2.2.1) (([] : List Int), (h_, ((0 : Int), ()))))

noncomputable def sol_hash_Format : F_hash_Format := fun x => T_hash_Format bigLoop x.1

/-- pontage/hash.roundConstants -/
abbrev s_hash_roundConstants : Sig := ⟨[], [(.ro true (.arr 64 (.int .u32)))]⟩
abbrev F_hash_roundConstants := Unit → Option (((List Int) × Unit) × Unit)

noncomputable def T_hash_roundConstants (L : LoopD) : Option (((List Int) × Unit) × Unit) :=
  (some (((List.set (List.set (List.set (List.set (List.set (List.set (List.set (List.set (List.set (List.set (List.set (List.set (List.set (List.set (List.set (List.set (List.set (List.set (List.set (List.set (List.set (List.set (List.set (List.set (List.set (List.set (List.set (List.set (List.set (List.set (List.set (List.set (List.set (List.set (List.set (List.set (List.set (List.set (List.set (List.set (List.set (List.set (List.set (List.set (List.set (List.set (List.set (List.set (List.set (List.set (List.set (List.set (List.set (List.set (List.set (List.set (List.set (List.set (List.set (List.set (List.set (List.set (List.set (List.set (List.replicate (64 : Nat) (0 : Int)) (0 : Nat) (1116352408 : Int)) (1 : Nat) (1899447441 : Int)) (2 : Nat) (3049323471 : Int)) (3 : Nat) (3921009573 : Int)) (4 : Nat) (961987163 : Int)) (5 : Nat) (1508970993 : Int)) (6 : Nat) (2453635748 : Int)) (7 : Nat) (2870763221 : Int)) (8 : Nat) (3624381080 : Int)) (9 : Nat) (310598401 : Int)) (10 : Nat) (607225278 : Int)) (11 : Nat) (1426881987 : Int)) (12 : Nat) (1925078388 : Int)) (13 : Nat) (2162078206 : Int)) (14 : Nat) (2614888103 : Int)) (15 : Nat) (3248222580 : Int)) (16 : Nat) (3835390401 : Int)) (17 : Nat) (4022224774 : Int)) (18 : Nat) (264347078 : Int)) (19 : Nat) (604807628 : Int)) (20 : Nat) (770255983 : Int)) (21 : Nat) (1249150122 : Int)) (22 : Nat) (1555081692 : Int)) (23 : Nat) (1996064986 : Int)) (24 : Nat) (2554220882 : Int)) (25 : Nat) (2821834349 : Int)) (26 : Nat) (2952996808 : Int)) (27 : Nat) (3210313671 : Int)) (28 : Nat) (3336571891 : Int)) (29 : Nat) (3584528711 : Int)) (30 : Nat) (113926993 : Int)) (31 : Nat) (338241895 : Int)) (32 : Nat) (666307205 : Int)) (33 : Nat) (773529912 : Int)) (34 : Nat) (1294757372 : Int)) (35 : Nat) (1396182291 : Int)) (36 : Nat) (1695183700 : Int)) (37 : Nat) (1986661051 : Int)) (38 : Nat) (2177026350 : Int)) (39 : Nat) (2456956037 : Int)) (40 : Nat) (2730485921 : Int)) (41 : Nat) (2820302411 : Int)) (42 : Nat) (3259730800 : Int)) (43 : Nat) (3345764771 : Int)) (44 : Nat) (3516065817 : Int)) (45 : Nat) (3600352804 : Int)) (46 : Nat) (4094571909 : Int)) (47 : Nat) (275423344 : Int)) (48 : Nat) (430227734 : Int)) (49 : Nat) (506948616 : Int)) (50 : Nat) (659060556 : Int)) (51 : Nat) (883997877 : Int)) (52 : Nat) (958139571 : Int)) (53 : Nat) (1322822218 : Int)) (54 : Nat) (1537002063 : Int)) (55 : Nat) (1747873779 : Int)) (56 : Nat) (1955562222 : Int)) (57 : Nat) (2024104815 : Int)) (58 : Nat) (2227730452 : Int)) (59 : Nat) (2361852424 : Int)) (60 : Nat) (2428436474 : Int)) (61 : Nat) (2756734187 : Int)) (62 : Nat) (3204031479 : Int)) (63 : Nat) (3329325298 : Int)), ()), ()))

noncomputable def sol_hash_roundConstants : F_hash_roundConstants := fun x => T_hash_roundConstants bigLoop

/-- pontage/hash.schedule -/
abbrev s_hash_schedule : Sig := ⟨[(.ro false (.slice (.int .u8)))], [(.ro true (.arr 64 (.int .u32)))]⟩
abbrev F_hash_schedule := ((List Int) × Unit) → Option (((List Int) × Unit) × (Unit × Unit))

noncomputable def T_hash_schedule_loop1 (c_math_bits_RotateLeft32 : F_math_bits_RotateLeft32) (again_9 : ((List Int) × ((List Int) × (Int × Unit))) → Option (((List Int) × Unit) × (Unit × Unit))) (t2_10 : (List Int)) (w_11 : (List Int)) (i_12 : Int) : Option (((List Int) × Unit) × (Unit × Unit)) :=
  (letR (Go.IntKind.wrap (Go.IntKind.i64) (i_12 - (15 : Int))) fun (v_13 : Int) =>
  (letR (Go.IntKind.wrap (Go.IntKind.i64) (i_12 - (2 : Int))) fun (v_14 : Int) =>
  (letR (Go.IntKind.wrap (Go.IntKind.i64) (i_12 - (16 : Int))) fun (v_15 : Int) =>
  (letR (Go.IntKind.wrap (Go.IntKind.i64) (i_12 - (7 : Int))) fun (v_16 : Int) =>
  (letR (List.getD w_11 (Int.toNat v_13) (0 : Int)) fun (v_17 : Int) =>
  (letR (List.getD w_11 (Int.toNat v_14) (0 : Int)) fun (v_18 : Int) =>
  (brR (decide (i_12 < (64 : Int)))
   (brR (Go.Pon.inR v_13 (64 : Nat))
    (brR (Go.Pon.inR v_14 (64 : Nat))
     (Option.bind (c_math_bits_RotateLeft32 (v_17, ((-7 : Int), ()))) (fun (y_19 : ((Int × Unit) × (Unit × (Unit × Unit)))) =>
      (Option.bind (c_math_bits_RotateLeft32 (v_17, ((-18 : Int), ()))) (fun (y_20 : ((Int × Unit) × (Unit × (Unit × Unit)))) =>
       (Option.bind (c_math_bits_RotateLeft32 (v_18, ((-17 : Int), ()))) (fun (y_21 : ((Int × Unit) × (Unit × (Unit × Unit)))) =>
        (Option.bind (c_math_bits_RotateLeft32 (v_18, ((-19 : Int), ()))) (fun (y_22 : ((Int × Unit) × (Unit × (Unit × Unit)))) =>
         (brR (Go.Pon.inR v_15 (64 : Nat))
          (brR (Go.Pon.inR v_16 (64 : Nat))
           (brR (Go.Pon.inR i_12 (64 : Nat))
            (again_9 (t2_10, ((List.set w_11 (Int.toNat i_12) (Go.IntKind.wrap (Go.IntKind.u32) ((Go.IntKind.wrap (Go.IntKind.u32) ((Go.IntKind.wrap (Go.IntKind.u32) ((List.getD w_11 (Int.toNat v_15) (0 : Int)) + (Go.IntKind.wrap (Go.IntKind.u32) (((BitVec.toNat ((BitVec.ofInt (32 : Nat) (Go.IntKind.wrap (Go.IntKind.u32) (((BitVec.toNat ((BitVec.ofInt (32 : Nat) y_19.1.1) ^^^ (BitVec.ofInt (32 : Nat) y_20.1.1))) : Nat) : Int))) ^^^ (BitVec.ofInt (32 : Nat) (Int.fdiv v_17 (8 : Int))))) : Nat) : Int)))) + (List.getD w_11 (Int.toNat v_16) (0 : Int)))) + (Go.IntKind.wrap (Go.IntKind.u32) (((BitVec.toNat ((BitVec.ofInt (32 : Nat) (Go.IntKind.wrap (Go.IntKind.u32) (((BitVec.toNat ((BitVec.ofInt (32 : Nat) y_21.1.1) ^^^ (BitVec.ofInt (32 : Nat) y_22.1.1))) : Nat) : Int))) ^^^ (BitVec.ofInt (32 : Nat) (Int.fdiv v_18 (1024 : Int))))) : Nat) : Int))))), ((Go.IntKind.wrap (Go.IntKind.i64) (i_12 + (1 : Int))), ()))))
            none)
           none)
          none)))))))))
     none)
    none)
   (some ((w_11, ()), ((), ()))))))))))

noncomputable def T_hash_schedule_loop0 (L : LoopD) (c_math_bits_RotateLeft32 : F_math_bits_RotateLeft32) (again_0 : ((List Int) × ((List Int) × ((List Int) × (Int × Unit)))) → Option (((List Int) × Unit) × (Unit × Unit))) (b_1 : (List Int)) (t2_2 : (List Int)) (w_3 : (List Int)) (t10_4 : Int) : Option (((List Int) × Unit) × (Unit × Unit)) :=
  (letR (Go.IntKind.wrap (Go.IntKind.i64) ((4 : Int) * t10_4)) fun (v_5 : Int) =>
  (letR (Go.IntKind.wrap (Go.IntKind.i64) (v_5 + (1 : Int))) fun (v_6 : Int) =>
  (letR (Go.IntKind.wrap (Go.IntKind.i64) (v_5 + (2 : Int))) fun (v_7 : Int) =>
  (letR (Go.IntKind.wrap (Go.IntKind.i64) (v_5 + (3 : Int))) fun (v_8 : Int) =>
  (brR (decide (t10_4 < (16 : Int)))
   (brR (Go.Pon.inR v_5 (List.length b_1))
    (brR (Go.Pon.inR v_6 (List.length b_1))
     (brR (Go.Pon.inR v_7 (List.length b_1))
      (brR (Go.Pon.inR v_8 (List.length b_1))
       (brR (Go.Pon.inR t10_4 (64 : Nat))
        (again_0 (b_1, (t2_2, ((List.set w_3 (Int.toNat t10_4) (Go.IntKind.wrap (Go.IntKind.u32) (((BitVec.toNat ((BitVec.ofInt (32 : Nat) (Go.IntKind.wrap (Go.IntKind.u32) (((BitVec.toNat ((BitVec.ofInt (32 : Nat) (Go.IntKind.wrap (Go.IntKind.u32) (((BitVec.toNat ((BitVec.ofInt (32 : Nat) (Go.IntKind.wrap (Go.IntKind.u32) ((Go.IntKind.wrap (Go.IntKind.u32) (List.getD b_1 (Int.toNat v_5) (0 : Int))) * (16777216 : Int)))) ||| (BitVec.ofInt (32 : Nat) (Go.IntKind.wrap (Go.IntKind.u32) ((Go.IntKind.wrap (Go.IntKind.u32) (List.getD b_1 (Int.toNat v_6) (0 : Int))) * (65536 : Int)))))) : Nat) : Int))) ||| (BitVec.ofInt (32 : Nat) (Go.IntKind.wrap (Go.IntKind.u32) ((Go.IntKind.wrap (Go.IntKind.u32) (List.getD b_1 (Int.toNat v_7) (0 : Int))) * (256 : Int)))))) : Nat) : Int))) ||| (BitVec.ofInt (32 : Nat) (Go.IntKind.wrap (Go.IntKind.u32) (List.getD b_1 (Int.toNat v_8) (0 : Int)))))) : Nat) : Int))), ((Go.IntKind.wrap (Go.IntKind.i64) (t10_4 + (1 : Int))), ())))))
        none)
       none)
      none)
     none)
    none)
   (L _ _ (fun again x => T_hash_schedule_loop1 c_math_bits_RotateLeft32 again x.1 x.2.1 x.2.2.1) (t2_2, (w_3, ((16 : Int), ())))))))))

noncomputable def T_hash_schedule (L : LoopD) (c_math_bits_RotateLeft32 : F_math_bits_RotateLeft32) (b_ : (List Int)) : Option (((List Int) × Unit) × (Unit × Unit)) :=
  (L _ _ (fun again x => T_hash_schedule_loop0 L c_math_bits_RotateLeft32 again x.1 x.2.1 x.2.2.1 x.2.2.2.1) (b_, ((List.replicate (64 : Nat) (0 : Int)), ((List.replicate (64 : Nat) (0 : Int)), ((0 : Int), ())))))

noncomputable def sol_hash_schedule : F_hash_schedule := fun x => T_hash_schedule bigLoop sol_math_bits_RotateLeft32 x.1

/-- pontage/hash.compress -/
abbrev s_hash_compress : Sig := ⟨[(.ro true (.arr 8 (.int .u32))), (.ro true (.arr 64 (.int .u32))), (.ro true (.arr 64 (.int .u32)))], [(.ro true (.arr 8 (.int .u32)))]⟩
abbrev F_hash_compress := ((List Int) × ((List Int) × ((List Int) × Unit))) → Option (((List Int) × Unit) × (Unit × (Unit × (Unit × Unit))))

noncomputable def T_hash_compress_loop1 (again_22 : ((List Int) × ((List Int) × ((List Int) × (Int × Unit)))) → Option (((List Int) × Unit) × (Unit × (Unit × (Unit × Unit))))) (s_23 : (List Int)) (t6_24 : (List Int)) (t_25 : (List Int)) (t103_26 : Int) : Option (((List Int) × Unit) × (Unit × (Unit × (Unit × Unit)))) :=
  (brR (decide (t103_26 < (8 : Int)))
   (brR (Go.Pon.inR t103_26 (8 : Nat))
    (brR (Go.Pon.inR t103_26 (8 : Nat))
     (brR (Go.Pon.inR t103_26 (8 : Nat))
      (again_22 (s_23, (t6_24, ((List.set t_25 (Int.toNat t103_26) (Go.IntKind.wrap (Go.IntKind.u32) ((List.getD t_25 (Int.toNat t103_26) (0 : Int)) + (List.getD s_23 (Int.toNat t103_26) (0 : Int))))), ((Go.IntKind.wrap (Go.IntKind.i64) (t103_26 + (1 : Int))), ())))))
      none)
     none)
    none)
   (some ((t_25, ()), ((), ((), ((), ()))))))

noncomputable def T_hash_compress_loop0 (L : LoopD) (c_math_bits_RotateLeft32 : F_math_bits_RotateLeft32) (again_0 : ((List Int) × ((List Int) × ((List Int) × ((List Int) × ((List Int) × (Int × Unit)))))) → Option (((List Int) × Unit) × (Unit × (Unit × (Unit × Unit))))) (s_1 : (List Int)) (w_2 : (List Int)) (k_3 : (List Int)) (t6_4 : (List Int)) (t_5 : (List Int)) (t18_6 : Int) : Option (((List Int) × Unit) × (Unit × (Unit × (Unit × Unit)))) :=
  (letR (List.getD t_5 (4 : Nat) (0 : Int)) fun (v_7 : Int) =>
  (letR (List.getD t_5 (0 : Nat) (0 : Int)) fun (v_8 : Int) =>
  (letR (List.getD t_5 (7 : Nat) (0 : Int)) fun (v_9 : Int) =>
  (letR (List.getD t_5 (5 : Nat) (0 : Int)) fun (v_10 : Int) =>
  (letR (List.getD t_5 (6 : Nat) (0 : Int)) fun (v_11 : Int) =>
  (letR (List.getD t_5 (1 : Nat) (0 : Int)) fun (v_12 : Int) =>
  (letR (List.getD t_5 (2 : Nat) (0 : Int)) fun (v_13 : Int) =>
  (letR (Go.IntKind.wrap (Go.IntKind.u32) (((BitVec.toNat ((BitVec.ofInt (32 : Nat) (Go.IntKind.wrap (Go.IntKind.u32) (((BitVec.toNat ((BitVec.ofInt (32 : Nat) v_7) &&& (BitVec.ofInt (32 : Nat) v_10))) : Nat) : Int))) ^^^ (BitVec.ofInt (32 : Nat) (Go.IntKind.wrap (Go.IntKind.u32) (((BitVec.toNat ((BitVec.ofInt (32 : Nat) (Go.IntKind.wrap (Go.IntKind.u32) (((BitVec.toNat ((BitVec.ofInt (32 : Nat) (4294967295 : Int)) ^^^ (BitVec.ofInt (32 : Nat) v_7))) : Nat) : Int))) &&& (BitVec.ofInt (32 : Nat) v_11))) : Nat) : Int))))) : Nat) : Int)) fun (v_14 : Int) =>
  (brR (decide (t18_6 < (64 : Int)))
   (Option.bind (c_math_bits_RotateLeft32 (v_7, ((-6 : Int), ()))) (fun (y_15 : ((Int × Unit) × (Unit × (Unit × Unit)))) =>
    (Option.bind (c_math_bits_RotateLeft32 (v_7, ((-11 : Int), ()))) (fun (y_16 : ((Int × Unit) × (Unit × (Unit × Unit)))) =>
     (Option.bind (c_math_bits_RotateLeft32 (v_7, ((-25 : Int), ()))) (fun (y_17 : ((Int × Unit) × (Unit × (Unit × Unit)))) =>
      (letR (Go.IntKind.wrap (Go.IntKind.u32) ((Go.IntKind.wrap (Go.IntKind.u32) ((Go.IntKind.wrap (Go.IntKind.u32) ((Go.IntKind.wrap (Go.IntKind.u32) (v_9 + (Go.IntKind.wrap (Go.IntKind.u32) (((BitVec.toNat ((BitVec.ofInt (32 : Nat) (Go.IntKind.wrap (Go.IntKind.u32) (((BitVec.toNat ((BitVec.ofInt (32 : Nat) y_15.1.1) ^^^ (BitVec.ofInt (32 : Nat) y_16.1.1))) : Nat) : Int))) ^^^ (BitVec.ofInt (32 : Nat) y_17.1.1))) : Nat) : Int)))) + v_14)) + (List.getD k_3 (Int.toNat t18_6) (0 : Int)))) + (List.getD w_2 (Int.toNat t18_6) (0 : Int)))) fun (v_18 : Int) =>
      (Option.bind (c_math_bits_RotateLeft32 (v_8, ((-2 : Int), ()))) (fun (y_19 : ((Int × Unit) × (Unit × (Unit × Unit)))) =>
       (Option.bind (c_math_bits_RotateLeft32 (v_8, ((-13 : Int), ()))) (fun (y_20 : ((Int × Unit) × (Unit × (Unit × Unit)))) =>
        (Option.bind (c_math_bits_RotateLeft32 (v_8, ((-22 : Int), ()))) (fun (y_21 : ((Int × Unit) × (Unit × (Unit × Unit)))) =>
         (brR (Go.Pon.inR t18_6 (64 : Nat))
          (brR (Go.Pon.inR t18_6 (64 : Nat))
           (again_0 (s_1, (w_2, (k_3, (t6_4, ([(Go.IntKind.wrap (Go.IntKind.u32) ((Go.IntKind.wrap (Go.IntKind.u32) (v_18 + (Go.IntKind.wrap (Go.IntKind.u32) (((BitVec.toNat ((BitVec.ofInt (32 : Nat) (Go.IntKind.wrap (Go.IntKind.u32) (((BitVec.toNat ((BitVec.ofInt (32 : Nat) y_19.1.1) ^^^ (BitVec.ofInt (32 : Nat) y_20.1.1))) : Nat) : Int))) ^^^ (BitVec.ofInt (32 : Nat) y_21.1.1))) : Nat) : Int)))) + (Go.IntKind.wrap (Go.IntKind.u32) (((BitVec.toNat ((BitVec.ofInt (32 : Nat) (Go.IntKind.wrap (Go.IntKind.u32) (((BitVec.toNat ((BitVec.ofInt (32 : Nat) (Go.IntKind.wrap (Go.IntKind.u32) (((BitVec.toNat ((BitVec.ofInt (32 : Nat) v_8) &&& (BitVec.ofInt (32 : Nat) v_12))) : Nat) : Int))) ^^^ (BitVec.ofInt (32 : Nat) (Go.IntKind.wrap (Go.IntKind.u32) (((BitVec.toNat ((BitVec.ofInt (32 : Nat) v_8) &&& (BitVec.ofInt (32 : Nat) v_13))) : Nat) : Int))))) : Nat) : Int))) ^^^ (BitVec.ofInt (32 : Nat) (Go.IntKind.wrap (Go.IntKind.u32) (((BitVec.toNat ((BitVec.ofInt (32 : Nat) v_12) &&& (BitVec.ofInt (32 : Nat) v_13))) : Nat) : Int))))) : Nat) : Int)))), v_8, v_12, v_13, (Go.IntKind.wrap (Go.IntKind.u32) ((List.getD t_5 (3 : Nat) (0 : Int)) + v_18)), v_7, v_10, v_11], ((Go.IntKind.wrap (Go.IntKind.i64) (t18_6 + (1 : Int))), ())))))))
           none)
          none))))))))))))))
   (L _ _ (fun again x => T_hash_compress_loop1 again x.1 x.2.1 x.2.2.1 x.2.2.2.1) (s_1, (t6_4, (t_5, ((0 : Int), ()))))))))))))))

noncomputable def T_hash_compress (L : LoopD) (c_math_bits_RotateLeft32 : F_math_bits_RotateLeft32) (s_ : (List Int)) (w_ : (List Int)) (k_ : (List Int)) : Option (((List Int) × Unit) × (Unit × (Unit × (Unit × Unit)))) :=
  (L _ _ (fun again x => T_hash_compress_loop0 L c_math_bits_RotateLeft32 again x.1 x.2.1 x.2.2.1 x.2.2.2.1 x.2.2.2.2.1 x.2.2.2.2.2.1) (s_, (w_, (k_, ([(0 : Int), (0 : Int), (0 : Int), (0 : Int), (0 : Int), (0 : Int), (0 : Int), (0 : Int)], (s_, ((0 : Int), ())))))))

noncomputable def sol_hash_compress : F_hash_compress := fun x => T_hash_compress bigLoop sol_math_bits_RotateLeft32 x.1 x.2.1 x.2.2.1

/-- pontage/hash.Sum -/
abbrev s_hash_Sum : Sig := ⟨[(.ro false (.slice (.int .u8)))], [(.ro true (.arr 32 (.int .u8)))]⟩
abbrev F_hash_Sum := ((List Int) × Unit) → Option (((List Int) × Unit) × (Unit × Unit))

noncomputable def T_hash_Sum_loop3 (again_21 : ((List Int) × ((List Int) × ((List Int) × (Int × Unit)))) → Option (((List Int) × Unit) × (Unit × Unit))) (t2_22 : (List Int)) (s_23 : (List Int)) (h_24 : (List Int)) (t55_25 : Int) : Option (((List Int) × Unit) × (Unit × Unit)) :=
  (letR (Go.IntKind.wrap (Go.IntKind.i64) ((24 : Int) - (Go.IntKind.wrap (Go.IntKind.i64) ((8 : Int) * (Int.tmod t55_25 (4 : Int)))))) fun (v_26 : Int) =>
  (brR (decide (t55_25 < (32 : Int)))
   (brR (Go.Pon.inR (Go.IntKind.wrap (Go.IntKind.i64) (Int.tdiv t55_25 (4 : Int))) (8 : Nat))
    (brR (decide ((0 : Int) ≤ v_26))
     (brR (Go.Pon.inR t55_25 (32 : Nat))
      (again_21 (t2_22, (s_23, ((List.set h_24 (Int.toNat t55_25) (Go.IntKind.wrap (Go.IntKind.u8) (Int.fdiv (List.getD s_23 (Int.toNat (Go.IntKind.wrap (Go.IntKind.i64) (Int.tdiv t55_25 (4 : Int)))) (0 : Int)) ((2 : Int) ^ (min (Int.toNat v_26) (32 : Nat)))))), ((Go.IntKind.wrap (Go.IntKind.i64) (t55_25 + (1 : Int))), ())))))
      none)
     none)
    none)
   (some ((h_24, ()), ((), ())))))

noncomputable def T_hash_Sum_loop2 (L : LoopD) (c_hash_schedule : F_hash_schedule) (c_hash_compress : F_hash_compress) (again_12 : ((List Int) × ((List Int) × ((List Int) × ((List Int) × (Int × Unit))))) → Option (((List Int) × Unit) × (Unit × Unit))) (t2_13 : (List Int)) (l_14 : (List Int)) (s_15 : (List Int)) (k_16 : (List Int)) (at_17 : Int) : Option (((List Int) × Unit) × (Unit × Unit)) :=
  (letR (Go.IntKind.wrap (Go.IntKind.i64) (at_17 + (64 : Int))) fun (v_18 : Int) =>
  (brR (decide (at_17 < (((List.length l_14) : Nat) : Int)))
   (brR (((decide ((0 : Int) ≤ at_17)) && (decide (at_17 ≤ v_18))) && (decide (v_18 ≤ (((List.length l_14) : Nat) : Int))))
    (Option.bind (c_hash_schedule ((List.take ((Int.toNat v_18) - (Int.toNat at_17)) (List.drop (Int.toNat at_17) l_14)), ())) (fun (y_19 : (((List Int) × Unit) × (Unit × Unit))) =>
     (Option.bind (c_hash_compress (s_15, (y_19.1.1, (k_16, ())))) (fun (y_20 : (((List Int) × Unit) × (Unit × (Unit × (Unit × Unit))))) =>
      (again_12 (t2_13, (l_14, (y_20.1.1, (k_16, (v_18, ()))))))))))
    none)
   (L _ _ (fun again x => T_hash_Sum_loop3 again x.1 x.2.1 x.2.2.1 x.2.2.2.1) (t2_13, (s_15, ((List.replicate (32 : Nat) (0 : Int)), ((0 : Int), ())))))))

noncomputable def T_hash_Sum_loop1 (L : LoopD) (c_hash_roundConstants : F_hash_roundConstants) (c_hash_schedule : F_hash_schedule) (c_hash_compress : F_hash_compress) (again_5 : ((List Int) × (Int × ((List Int) × (Int × Unit)))) → Option (((List Int) × Unit) × (Unit × Unit))) (t2_6 : (List Int)) (n_7 : Int) (l_8 : (List Int)) (i_9 : Int) : Option (((List Int) × Unit) × (Unit × Unit)) :=
  (letR (Go.IntKind.wrap (Go.IntKind.i64) ((8 : Int) * i_9)) fun (v_10 : Int) =>
  (brR (decide (i_9 ≥ (0 : Int)))
   (brR (decide ((0 : Int) ≤ v_10))
    (brR (Go.Pon.roomy ((List.length l_8) + (1 : Nat)) (Go.Pon.Ty.int Go.IntKind.u8))
     (again_5 (t2_6, (n_7, ((List.append l_8 [(Go.IntKind.wrap (Go.IntKind.u8) (Int.fdiv n_7 ((2 : Int) ^ (min (Int.toNat v_10) (64 : Nat)))))]), ((Go.IntKind.wrap (Go.IntKind.i64) (i_9 - (1 : Int))), ())))))
     none)
    none)
   (Option.bind (c_hash_roundConstants ()) (fun (y_11 : (((List Int) × Unit) × Unit)) =>
    (L _ _ (fun again x => T_hash_Sum_loop2 L c_hash_schedule c_hash_compress again x.1 x.2.1 x.2.2.1 x.2.2.2.1 x.2.2.2.2.1) (t2_6, (l_8, ([(1779033703 : Int), (3144134277 : Int), (1013904242 : Int), (2773480762 : Int), (1359893119 : Int), (2600822924 : Int), (528734635 : Int), (1541459225 : Int)], (y_11.1.1, ((0 : Int), ()))))))))))

noncomputable def T_hash_Sum_loop0 (L : LoopD) (c_hash_roundConstants : F_hash_roundConstants) (c_hash_schedule : F_hash_schedule) (c_hash_compress : F_hash_compress) (again_1 : ((List Int) × (Int × ((List Int) × Unit))) → Option (((List Int) × Unit) × (Unit × Unit))) (t2_2 : (List Int)) (n_3 : Int) (l_4 : (List Int)) : Option (((List Int) × Unit) × (Unit × Unit)) :=
  (brR (!(decide ((Int.tmod (((List.length l_4) : Nat) : Int) (64 : Int)) = (56 : Int))))
   (brR (Go.Pon.roomy ((List.length l_4) + (1 : Nat)) (Go.Pon.Ty.int Go.IntKind.u8))
    (again_1 (t2_2, (n_3, ((List.append l_4 [(0 : Int)]), ()))))
    none)
   (L _ _ (fun again x => T_hash_Sum_loop1 L c_hash_roundConstants c_hash_schedule c_hash_compress again x.1 x.2.1 x.2.2.1 x.2.2.2.1) (t2_2, (n_3, (l_4, ((7 : Int), ()))))))

noncomputable def T_hash_Sum (L : LoopD) (c_slices_Concat_byte_byte : F_slices_Concat_byte_byte) (c_hash_roundConstants : F_hash_roundConstants) (c_hash_schedule : F_hash_schedule) (c_hash_compress : F_hash_compress) (b_ : (List Int)) : Option (((List Int) × Unit) × (Unit × Unit)) :=
  (Option.bind (c_slices_Concat_byte_byte ([b_, [(128 : Int)]], ())) (fun (y_0 : (((List Int) × Unit) × (Unit × Unit))) =>
   (L _ _ (fun again x => T_hash_Sum_loop0 L c_hash_roundConstants c_hash_schedule c_hash_compress again x.1 x.2.1 x.2.2.1) ((List.replicate (32 : Nat) (0 : Int)), ((Go.IntKind.wrap (Go.IntKind.u64) ((Go.IntKind.wrap (Go.IntKind.u64) (((List.length b_) : Nat) : Int)) * (8 : Int))), (y_0.1.1, ()))))))

noncomputable def sol_hash_Sum : F_hash_Sum := fun x => T_hash_Sum bigLoop sol_slices_Concat_byte_byte sol_hash_roundConstants sol_hash_schedule sol_hash_compress x.1

/-- pontage/hash.Leaf -/
abbrev s_hash_Leaf : Sig := ⟨[(.ro false (.slice (.int .u8)))], [(.ro true (.arr 32 (.int .u8)))]⟩
abbrev F_hash_Leaf := ((List Int) × Unit) → Option (((List Int) × Unit) × (Unit × Unit))

noncomputable def T_hash_Leaf (L : LoopD) (c_slices_Concat_byte_byte : F_slices_Concat_byte_byte) (c_hash_Sum : F_hash_Sum) (b_ : (List Int)) : Option (((List Int) × Unit) × (Unit × Unit)) :=
  (Option.bind (c_slices_Concat_byte_byte ([[(0 : Int)], b_], ())) (fun (y_0 : (((List Int) × Unit) × (Unit × Unit))) =>
   (Option.bind (c_hash_Sum (y_0.1.1, ())) (fun (y_1 : (((List Int) × Unit) × (Unit × Unit))) =>
    (some ((y_1.1.1, ()), ((), ())))))))

noncomputable def sol_hash_Leaf : F_hash_Leaf := fun x => T_hash_Leaf bigLoop sol_slices_Concat_byte_byte sol_hash_Sum x.1

/-- pontage/hash.Node -/
abbrev s_hash_Node : Sig := ⟨[(.ro true (.arr 32 (.int .u8))), (.ro true (.arr 32 (.int .u8)))], [(.ro true (.arr 32 (.int .u8)))]⟩
abbrev F_hash_Node := ((List Int) × ((List Int) × Unit)) → Option (((List Int) × Unit) × (Unit × (Unit × Unit)))

noncomputable def T_hash_Node (L : LoopD) (c_slices_Concat_byte_byte : F_slices_Concat_byte_byte) (c_hash_Sum : F_hash_Sum) (x_ : (List Int)) (y_ : (List Int)) : Option (((List Int) × Unit) × (Unit × (Unit × Unit))) :=
  (Option.bind (c_slices_Concat_byte_byte ([[(1 : Int)], (List.take ((32 : Nat) - (0 : Nat)) (List.drop (0 : Nat) x_)), (List.take ((32 : Nat) - (0 : Nat)) (List.drop (0 : Nat) y_))], ())) (fun (y_0 : (((List Int) × Unit) × (Unit × Unit))) =>
   (Option.bind (c_hash_Sum (y_0.1.1, ())) (fun (y_1 : (((List Int) × Unit) × (Unit × Unit))) =>
    (some ((y_1.1.1, ()), ((), ((), ()))))))))

noncomputable def sol_hash_Node : F_hash_Node := fun x => T_hash_Node bigLoop sol_slices_Concat_byte_byte sol_hash_Sum x.1 x.2.1

/-- pontage/hash.digit -/
abbrev s_hash_digit : Sig := ⟨[(.ro true (.int .u8))], [(.ro true (.int .u8)), (.ro true .bool)]⟩
abbrev F_hash_digit := (Int × Unit) → Option ((Int × (Bool × Unit)) × (Unit × Unit))

noncomputable def T_hash_digit (L : LoopD) (c_ : Int) : Option ((Int × (Bool × Unit)) × (Unit × Unit)) :=
  (brR (decide (c_ ≥ (48 : Int)))
   (brR (decide (c_ ≤ (57 : Int)))
    (some (((Go.IntKind.wrap (Go.IntKind.u8) (c_ - (48 : Int))), (true, ())), ((), ())))
    (brR (decide (c_ ≥ (97 : Int)))
     (brR (decide (c_ ≤ (102 : Int)))
      (some (((Go.IntKind.wrap (Go.IntKind.u8) ((Go.IntKind.wrap (Go.IntKind.u8) (c_ - (97 : Int))) + (10 : Int))), (true, ())), ((), ())))
      (some (((0 : Int), (false, ())), ((), ()))))
     (some (((0 : Int), (false, ())), ((), ())))))
   (brR (decide (c_ ≥ (97 : Int)))
    (brR (decide (c_ ≤ (102 : Int)))
     (some (((Go.IntKind.wrap (Go.IntKind.u8) ((Go.IntKind.wrap (Go.IntKind.u8) (c_ - (97 : Int))) + (10 : Int))), (true, ())), ((), ())))
     (some (((0 : Int), (false, ())), ((), ()))))
    (some (((0 : Int), (false, ())), ((), ())))))

noncomputable def sol_hash_digit : F_hash_digit := fun x => T_hash_digit bigLoop x.1

/-- pontage/hash.Parse -/
abbrev s_hash_Parse : Sig := ⟨[(.ro true .str)], [(.ro true (.arr 32 (.int .u8))), (.ro true (.int .i64))]⟩
abbrev F_hash_Parse := ((List Int) × Unit) → Option (((List Int) × (Int × Unit)) × (Unit × Unit))

noncomputable def T_hash_Parse_loop0 (c_hash_digit : F_hash_digit) (again_0 : ((List Int) × ((List Int) × ((List Int) × (Int × Unit)))) → Option (((List Int) × (Int × Unit)) × (Unit × Unit))) (s_1 : (List Int)) (t2_2 : (List Int)) (h_3 : (List Int)) (t14_4 : Int) : Option (((List Int) × (Int × Unit)) × (Unit × Unit)) :=
  (letR (Go.IntKind.wrap (Go.IntKind.i64) ((2 : Int) * t14_4)) fun (v_5 : Int) =>
  (letR (Go.IntKind.wrap (Go.IntKind.i64) (v_5 + (1 : Int))) fun (v_6 : Int) =>
  (brR (decide (t14_4 < (32 : Int)))
   (brR (Go.Pon.inR v_5 (List.length s_1))
    (Option.bind (c_hash_digit ((List.getD s_1 (Int.toNat v_5) (0 : Int)), ())) (fun (y_7 : ((Int × (Bool × Unit)) × (Unit × Unit))) =>
     (brR (Go.Pon.inR v_6 (List.length s_1))
      (Option.bind (c_hash_digit ((List.getD s_1 (Int.toNat v_6) (0 : Int)), ())) (fun (y_8 : ((Int × (Bool × Unit)) × (Unit × Unit))) =>
       (brR (!y_7.1.2.1)
        (some (((List.replicate (32 : Nat) (0 : Int)), ((3 : Int), ())), ((), ())))
        (brR (!y_8.1.2.1)
         (some (((List.replicate (32 : Nat) (0 : Int)), ((3 : Int), ())), ((), ())))
         (brR (Go.Pon.inR t14_4 (32 : Nat))
          (again_0 (s_1, (t2_2, ((List.set h_3 (Int.toNat t14_4) (Go.IntKind.wrap (Go.IntKind.u8) (((BitVec.toNat ((BitVec.ofInt (8 : Nat) (Go.IntKind.wrap (Go.IntKind.u8) (y_7.1.1 * (16 : Int)))) ||| (BitVec.ofInt (8 : Nat) y_8.1.1))) : Nat) : Int))), ((Go.IntKind.wrap (Go.IntKind.i64) (t14_4 + (1 : Int))), ())))))
          none)))))
      none)))
    none)
   (some ((h_3, ((0 : Int), ())), ((), ()))))))

noncomputable def T_hash_Parse (L : LoopD) (c_hash_digit : F_hash_digit) (s_ : (List Int)) : Option (((List Int) × (Int × Unit)) × (Unit × Unit)) :=
  (brR (!(decide ((((List.length s_) : Nat) : Int) = (64 : Int))))
   (some (((List.replicate (32 : Nat) (0 : Int)), ((3 : Int), ())), ((), ())))
   (L _ _ (fun again x => T_hash_Parse_loop0 c_hash_digit again x.1 x.2.1 x.2.2.1 x.2.2.2.1) (s_, ((List.replicate (32 : Nat) (0 : Int)), ((List.replicate (32 : Nat) (0 : Int)), ((0 : Int), ()))))))

noncomputable def sol_hash_Parse : F_hash_Parse := fun x => T_hash_Parse bigLoop sol_hash_digit x.1

end Go.Pon
/-
  What the functions of package law0 compute (printed by a program of this work).
-/
set_option autoImplicit false
set_option linter.unusedVariables false
set_option maxRecDepth 100000
namespace Go.Pon
open Go

/-- pontage/pontagelaw0.Mod -/
abbrev s_law0_Mod : Sig := ⟨[(.ro true (.int .i64)), (.ro true (.int .i64))], [(.ro true (.int .i64))]⟩
abbrev F_law0_Mod := (Int × (Int × Unit)) → Option ((Int × Unit) × (Unit × (Unit × Unit)))

noncomputable def T_law0_Mod (L : LoopD) (x_ : Int) (n_ : Int) : Option ((Int × Unit) × (Unit × (Unit × Unit))) :=
  (brR (decide ((Go.IntKind.wrap (Go.IntKind.u64) n_) ≠ (0 : Int)))
   (some (((Go.IntKind.wrap (Go.IntKind.i64) (Int.tmod (Go.IntKind.wrap (Go.IntKind.u64) x_) (Go.IntKind.wrap (Go.IntKind.u64) n_))), ()), ((), ((), ()))))
   none)

noncomputable def sol_law0_Mod : F_law0_Mod := fun x => T_law0_Mod bigLoop x.1 x.2.1

/-- pontage/pontagelaw0.EdgeUint256 -/
abbrev s_law0_EdgeUint256 : Sig := ⟨[(.ro true (.int .u64)), (.ro true (.int .u64)), (.ro true (.int .i64))], [(.ro true (.arr 4 (.int .u64)))]⟩
abbrev F_law0_EdgeUint256 := (Int × (Int × (Int × Unit))) → Option (((List Int) × Unit) × (Unit × (Unit × (Unit × Unit))))

noncomputable def T_law0_EdgeUint256 (L : LoopD) (c_law0_Mod : F_law0_Mod) (a_ : Int) (b_ : Int) (shape_ : Int) : Option (((List Int) × Unit) × (Unit × (Unit × (Unit × Unit)))) :=
  (Option.bind (c_law0_Mod (shape_, ((9 : Int), ()))) (fun (y_0 : ((Int × Unit) × (Unit × (Unit × Unit)))) =>
   (brR (decide (y_0.1.1 = (0 : Int)))
    (some (([a_, (0 : Int), (0 : Int), (0 : Int)], ()), ((), ((), ((), ())))))
    (brR (decide (y_0.1.1 = (1 : Int)))
     (some (([a_, b_, (0 : Int), (0 : Int)], ()), ((), ((), ((), ())))))
     (brR (decide (y_0.1.1 = (2 : Int)))
      (some (([a_, b_, a_, b_], ()), ((), ((), ((), ())))))
      (brR (decide (y_0.1.1 = (3 : Int)))
       (some (([(Go.IntKind.wrap (Go.IntKind.u64) ((18446744073709551615 : Int) - (Int.tmod a_ (4 : Int)))), (18446744073709551615 : Int), (18446744073709551615 : Int), (18446744073709551615 : Int)], ()), ((), ((), ((), ())))))
       (brR (decide (y_0.1.1 = (4 : Int)))
        (some (([(Int.tmod a_ (4 : Int)), (0 : Int), (Go.IntKind.wrap (Go.IntKind.u64) ((1 : Int) + (Int.tmod b_ (4 : Int)))), (0 : Int)], ()), ((), ((), ((), ())))))
        (brR (decide (y_0.1.1 = (5 : Int)))
         (some (([(18446744073709551615 : Int), (18446744073709551615 : Int), (0 : Int), (0 : Int)], ()), ((), ((), ((), ())))))
         (brR (decide (y_0.1.1 = (6 : Int)))
          (brR (decide ((0 : Int) ≤ (Int.tmod b_ (64 : Int))))
           (some (([(0 : Int), (0 : Int), (0 : Int), (Go.IntKind.wrap (Go.IntKind.u64) ((1 : Int) * ((2 : Int) ^ (min (Int.toNat (Int.tmod b_ (64 : Int))) (64 : Nat)))))], ()), ((), ((), ((), ())))))
           none)
          (brR (decide (y_0.1.1 = (7 : Int)))
           (some (([(Int.tmod a_ (16 : Int)), (0 : Int), (0 : Int), (0 : Int)], ()), ((), ((), ((), ())))))
           (some (([b_, a_, b_, (0 : Int)], ()), ((), ((), ((), ())))))))))))))))

noncomputable def sol_law0_EdgeUint256 : F_law0_EdgeUint256 := fun x => T_law0_EdgeUint256 bigLoop sol_law0_Mod x.1 x.2.1 x.2.2.1

/-- pontage/pontagelaw0.EqualBytes -/
abbrev s_law0_EqualBytes : Sig := ⟨[(.ro false (.slice (.int .u8))), (.ro false (.slice (.int .u8)))], [(.ro true .bool)]⟩
abbrev F_law0_EqualBytes := ((List Int) × ((List Int) × Unit)) → Option ((Bool × Unit) × (Unit × (Unit × Unit)))

noncomputable def T_law0_EqualBytes (L : LoopD) (a_ : (List Int)) (b_ : (List Int)) : Option ((Bool × Unit) × (Unit × (Unit × Unit))) :=
  (some (((Go.Pon.eqD (Go.Pon.Ty.str) a_ b_), ()), ((), ((), ()))))

noncomputable def sol_law0_EqualBytes : F_law0_EqualBytes := fun x => T_law0_EqualBytes bigLoop x.1 x.2.1

/-- pontage/pontagelaw0.EqualHashes -/
abbrev s_law0_EqualHashes : Sig := ⟨[(.ro false (.slice (.arr 32 (.int .u8)))), (.ro false (.slice (.arr 32 (.int .u8))))], [(.ro true .bool)]⟩
abbrev F_law0_EqualHashes := ((List (List Int)) × ((List (List Int)) × Unit)) → Option ((Bool × Unit) × (Unit × (Unit × Unit)))

noncomputable def T_law0_EqualHashes_loop0 (again_0 : ((List (List Int)) × ((List (List Int)) × (Int × Unit))) → Option ((Bool × Unit) × (Unit × (Unit × Unit)))) (a_1 : (List (List Int))) (b_2 : (List (List Int))) (i_3 : Int) : Option ((Bool × Unit) × (Unit × (Unit × Unit))) :=
  (brR (decide (i_3 < (((List.length a_1) : Nat) : Int)))
   (brR (Go.Pon.inR i_3 (List.length a_1))
    (brR (Go.Pon.inR i_3 (List.length b_2))
     (brR (!(Go.Pon.eqD (Go.Pon.Ty.arr 32 (Go.Pon.Ty.int Go.IntKind.u8)) (List.getD a_1 (Int.toNat i_3) (List.replicate (32 : Nat) (0 : Int))) (List.getD b_2 (Int.toNat i_3) (List.replicate (32 : Nat) (0 : Int)))))
      (some ((false, ()), ((), ((), ()))))
      (again_0 (a_1, (b_2, ((Go.IntKind.wrap (Go.IntKind.i64) (i_3 + (1 : Int))), ())))))
     none)
    none)
   (some ((true, ()), ((), ((), ())))))

noncomputable def T_law0_EqualHashes (L : LoopD) (a_ : (List (List Int))) (b_ : (List (List Int))) : Option ((Bool × Unit) × (Unit × (Unit × Unit))) :=
  (brR (!(decide ((((List.length a_) : Nat) : Int) = (((List.length b_) : Nat) : Int))))
   (some ((false, ()), ((), ((), ()))))
   (L _ _ (fun again x => T_law0_EqualHashes_loop0 again x.1 x.2.1 x.2.2.1) (a_, (b_, ((0 : Int), ())))))

noncomputable def sol_law0_EqualHashes : F_law0_EqualHashes := fun x => T_law0_EqualHashes bigLoop x.1 x.2.1

/-- pontage/pontagelaw0.HashOf -/
abbrev s_law0_HashOf : Sig := ⟨[(.ro true (.int .i64))], [(.ro true (.arr 32 (.int .u8)))]⟩
abbrev F_law0_HashOf := (Int × Unit) → Option (((List Int) × Unit) × (Unit × Unit))

noncomputable def T_law0_HashOf_loop0 (again_0 : (Int × ((List Int) × ((List Int) × (Int × Unit)))) → Option (((List Int) × Unit) × (Unit × Unit))) (n_1 : Int) (t2_2 : (List Int)) (h_3 : (List Int)) (i_4 : Int) : Option (((List Int) × Unit) × (Unit × Unit)) :=
  (letR (Go.IntKind.wrap (Go.IntKind.u64) (Go.IntKind.wrap (Go.IntKind.i64) ((8 : Int) * i_4))) fun (v_5 : Int) =>
  (brR (decide (i_4 < (8 : Int)))
   (brR (decide ((0 : Int) ≤ v_5))
    (brR (Go.Pon.inR i_4 (32 : Nat))
     (again_0 (n_1, (t2_2, ((List.set h_3 (Int.toNat i_4) (Go.IntKind.wrap (Go.IntKind.u8) (Int.fdiv (Go.IntKind.wrap (Go.IntKind.u64) n_1) ((2 : Int) ^ (min (Int.toNat v_5) (64 : Nat)))))), ((Go.IntKind.wrap (Go.IntKind.i64) (i_4 + (1 : Int))), ())))))
     none)
    none)
   (some ((h_3, ()), ((), ())))))

noncomputable def T_law0_HashOf (L : LoopD) (n_ : Int) : Option (((List Int) × Unit) × (Unit × Unit)) :=
  (L _ _ (fun again x => T_law0_HashOf_loop0 again x.1 x.2.1 x.2.2.1 x.2.2.2.1) (n_, ((List.replicate (32 : Nat) (0 : Int)), ((List.replicate (32 : Nat) (0 : Int)), ((0 : Int), ())))))

noncomputable def sol_law0_HashOf : F_law0_HashOf := fun x => T_law0_HashOf bigLoop x.1

end Go.Pon
/-
  What the functions of package merkle compute (printed by a program of this work).
-/
set_option autoImplicit false
set_option linter.unusedVariables false
set_option maxRecDepth 100000
namespace Go.Pon
open Go

/-- pontage/merkle.New -/
abbrev s_merkle_New : Sig := ⟨[], [(.ptr (.pair (.own false (.arr 32 (.int .u8))) (.ro true .unit)))]⟩
abbrev F_merkle_New := Unit → Option ((((List (List Int)) × Unit) × Unit) × Unit)

noncomputable def T_merkle_New (L : LoopD) : Option ((((List (List Int)) × Unit) × Unit) × Unit) :=
  (some (((([] : List (List Int)), ()), ()), ()))

noncomputable def sol_merkle_New : F_merkle_New := fun x => T_merkle_New bigLoop

/-- (*pontage/merkle.Tree).Append -/
abbrev s_merkle_Tree_Append : Sig := ⟨[(.ptr (.pair (.own false (.arr 32 (.int .u8))) (.ro true .unit))), (.ro true (.arr 32 (.int .u8)))], [(.ro true (.int .i64))]⟩
abbrev F_merkle_Tree_Append := (((List (List Int)) × Unit) × ((List Int) × Unit)) → Option ((Int × Unit) × (((List (List Int)) × Unit) × (Unit × Unit)))

noncomputable def T_merkle_Tree_Append (L : LoopD) (t_ : ((List (List Int)) × Unit)) (h_ : (List Int)) : Option ((Int × Unit) × (((List (List Int)) × Unit) × (Unit × Unit))) :=
  (letR (List.append t_.1 [h_]) fun (v_0 : (List (List Int))) =>
  (brR (Go.Pon.roomy ((List.length t_.1) + (1 : Nat)) (Go.Pon.Ty.arr 32 (Go.Pon.Ty.int Go.IntKind.u8)))
   (some (((Go.IntKind.wrap (Go.IntKind.i64) ((((List.length v_0) : Nat) : Int) - (1 : Int))), ()), ((v_0, t_.2), ((), ()))))
   none))

noncomputable def sol_merkle_Tree_Append : F_merkle_Tree_Append := fun x => T_merkle_Tree_Append bigLoop x.1 x.2.1

/-- pontage/merkle.splitPoint -/
abbrev s_merkle_splitPoint : Sig := ⟨[(.ro true (.int .i64))], [(.ro true (.int .i64))]⟩
abbrev F_merkle_splitPoint := (Int × Unit) → Option ((Int × Unit) × (Unit × Unit))

noncomputable def T_merkle_splitPoint_loop0 (again_0 : (Int × (Int × Unit)) → Option ((Int × Unit) × (Unit × Unit))) (n_1 : Int) (k_2 : Int) : Option ((Int × Unit) × (Unit × Unit)) :=
  (brR (decide (k_2 < (Go.IntKind.wrap (Go.IntKind.i64) (n_1 - k_2))))
   (again_0 (n_1, ((Go.IntKind.wrap (Go.IntKind.i64) (k_2 * (2 : Int))), ())))
   (some ((k_2, ()), ((), ()))))

noncomputable def T_merkle_splitPoint (L : LoopD) (n_ : Int) : Option ((Int × Unit) × (Unit × Unit)) :=
  (L _ _ (fun again x => T_merkle_splitPoint_loop0 again x.1 x.2.1) (n_, ((1 : Int), ())))

noncomputable def sol_merkle_splitPoint : F_merkle_splitPoint := fun x => T_merkle_splitPoint bigLoop x.1

/-- pontage/merkle.RootOf -/
abbrev s_merkle_RootOf : Sig := ⟨[(.ro false (.slice (.arr 32 (.int .u8))))], [(.ro true (.arr 32 (.int .u8)))]⟩
abbrev F_merkle_RootOf := ((List (List Int)) × Unit) → Option (((List Int) × Unit) × (Unit × Unit))

noncomputable def T_merkle_RootOf (L : LoopD) (c_hash_Sum : F_hash_Sum) (c_merkle_splitPoint : F_merkle_splitPoint) (c_merkle_RootOf : F_merkle_RootOf) (c_hash_Node : F_hash_Node) (l_ : (List (List Int))) : Option (((List Int) × Unit) × (Unit × Unit)) :=
  (letR (((List.length l_) : Nat) : Int) fun (v_0 : Int) =>
  (brR (decide (v_0 = (0 : Int)))
   (Option.bind (c_hash_Sum (([] : List Int), ())) (fun (y_1 : (((List Int) × Unit) × (Unit × Unit))) =>
    (some ((y_1.1.1, ()), ((), ())))))
   (brR (decide (v_0 = (1 : Int)))
    (brR (Go.Pon.inR (0 : Int) (List.length l_))
     (some (((List.getD l_ (0 : Nat) (List.replicate (32 : Nat) (0 : Int))), ()), ((), ())))
     none)
    (Option.bind (c_merkle_splitPoint (v_0, ())) (fun (y_2 : ((Int × Unit) × (Unit × Unit))) =>
     (brR ((decide ((0 : Int) ≤ y_2.1.1)) && (decide (y_2.1.1 ≤ v_0)))
      (Option.bind (c_merkle_RootOf ((List.take ((Int.toNat y_2.1.1) - (0 : Nat)) (List.drop (0 : Nat) l_)), ())) (fun (y_3 : (((List Int) × Unit) × (Unit × Unit))) =>
       (brR ((decide ((0 : Int) ≤ y_2.1.1)) && (decide (y_2.1.1 ≤ v_0)))
        (Option.bind (c_merkle_RootOf ((List.take ((List.length l_) - (Int.toNat y_2.1.1)) (List.drop (Int.toNat y_2.1.1) l_)), ())) (fun (y_4 : (((List Int) × Unit) × (Unit × Unit))) =>
         (Option.bind (c_hash_Node (y_3.1.1, (y_4.1.1, ()))) (fun (y_5 : (((List Int) × Unit) × (Unit × (Unit × Unit)))) =>
          (some ((y_5.1.1, ()), ((), ())))))))
        none)))
      none))))))

noncomputable def solN_merkle_RootOf : Nat → F_merkle_RootOf
  | 0 => fun _ => none
  | n + 1 => fun x => T_merkle_RootOf bigLoop sol_hash_Sum sol_merkle_splitPoint (solN_merkle_RootOf n) sol_hash_Node x.1
noncomputable def sol_merkle_RootOf : F_merkle_RootOf := solN_merkle_RootOf bigF

/-- (*pontage/merkle.Tree).Root -/
abbrev s_merkle_Tree_Root : Sig := ⟨[(.ptr (.pair (.own false (.arr 32 (.int .u8))) (.ro true .unit))), (.ro true (.int .i64))], [(.ro true (.arr 32 (.int .u8))), (.ro true .bool)]⟩
abbrev F_merkle_Tree_Root := (((List (List Int)) × Unit) × (Int × Unit)) → Option (((List Int) × (Bool × Unit)) × (((List (List Int)) × Unit) × (Unit × Unit)))

noncomputable def T_merkle_Tree_Root (L : LoopD) (c_merkle_RootOf : F_merkle_RootOf) (t_ : ((List (List Int)) × Unit)) (n_ : Int) : Option (((List Int) × (Bool × Unit)) × (((List (List Int)) × Unit) × (Unit × Unit))) :=
  (letR (((List.length t_.1) : Nat) : Int) fun (v_0 : Int) =>
  (brR (decide (n_ < (0 : Int)))
   (some (((List.replicate (32 : Nat) (0 : Int)), (false, ())), ((t_.1, t_.2), ((), ()))))
   (brR (decide (n_ > v_0))
    (some (((List.replicate (32 : Nat) (0 : Int)), (false, ())), ((t_.1, t_.2), ((), ()))))
    (brR ((decide ((0 : Int) ≤ n_)) && (decide (n_ ≤ v_0)))
     (Option.bind (c_merkle_RootOf ((List.take ((Int.toNat n_) - (0 : Nat)) (List.drop (0 : Nat) t_.1)), ())) (fun (y_1 : (((List Int) × Unit) × (Unit × Unit))) =>
      (some ((y_1.1.1, (true, ())), ((t_.1, t_.2), ((), ()))))))
     none))))

noncomputable def sol_merkle_Tree_Root : F_merkle_Tree_Root := fun x => T_merkle_Tree_Root bigLoop sol_merkle_RootOf x.1 x.2.1

/-- pontage/merkle.proof -/
abbrev s_merkle_proof : Sig := ⟨[(.ro false (.slice (.arr 32 (.int .u8)))), (.ro true (.int .i64))], [(.own true (.arr 32 (.int .u8)))]⟩
abbrev F_merkle_proof := ((List (List Int)) × (Int × Unit)) → Option (((List (List Int)) × Unit) × (Unit × (Unit × Unit)))

noncomputable def T_merkle_proof (L : LoopD) (c_merkle_splitPoint : F_merkle_splitPoint) (c_merkle_proof : F_merkle_proof) (c_merkle_RootOf : F_merkle_RootOf) (l_ : (List (List Int))) (i_ : Int) : Option (((List (List Int)) × Unit) × (Unit × (Unit × Unit))) :=
  (letR (((List.length l_) : Nat) : Int) fun (v_0 : Int) =>
  (letR (List.drop (0 : Nat) l_) fun (v_1 : (List (List Int))) =>
  (brR (decide (v_0 = (1 : Int)))
   (some ((([] : List (List Int)), ()), ((), ((), ()))))
   (Option.bind (c_merkle_splitPoint (v_0, ())) (fun (y_2 : ((Int × Unit) × (Unit × Unit))) =>
    (letR (List.take ((Int.toNat y_2.1.1) - (0 : Nat)) v_1) fun (v_3 : (List (List Int))) =>
    (letR (List.take ((List.length l_) - (Int.toNat y_2.1.1)) (List.drop (Int.toNat y_2.1.1) l_)) fun (v_4 : (List (List Int))) =>
    (brR (decide (i_ < y_2.1.1))
     (brR ((decide ((0 : Int) ≤ y_2.1.1)) && (decide (y_2.1.1 ≤ v_0)))
      (Option.bind (c_merkle_proof (v_3, (i_, ()))) (fun (y_5 : (((List (List Int)) × Unit) × (Unit × (Unit × Unit)))) =>
       (brR ((decide ((0 : Int) ≤ y_2.1.1)) && (decide (y_2.1.1 ≤ v_0)))
        (Option.bind (c_merkle_RootOf (v_4, ())) (fun (y_6 : (((List Int) × Unit) × (Unit × Unit))) =>
         (brR (Go.Pon.roomy ((List.length y_5.1.1) + (1 : Nat)) (Go.Pon.Ty.arr 32 (Go.Pon.Ty.int Go.IntKind.u8)))
          (some (((List.append y_5.1.1 [y_6.1.1]), ()), ((), ((), ()))))
          none)))
        none)))
      none)
     (brR ((decide ((0 : Int) ≤ y_2.1.1)) && (decide (y_2.1.1 ≤ v_0)))
      (Option.bind (c_merkle_proof (v_4, ((Go.IntKind.wrap (Go.IntKind.i64) (i_ - y_2.1.1)), ()))) (fun (y_7 : (((List (List Int)) × Unit) × (Unit × (Unit × Unit)))) =>
       (brR ((decide ((0 : Int) ≤ y_2.1.1)) && (decide (y_2.1.1 ≤ v_0)))
        (Option.bind (c_merkle_RootOf (v_3, ())) (fun (y_8 : (((List Int) × Unit) × (Unit × Unit))) =>
         (brR (Go.Pon.roomy ((List.length y_7.1.1) + (1 : Nat)) (Go.Pon.Ty.arr 32 (Go.Pon.Ty.int Go.IntKind.u8)))
          (some (((List.append y_7.1.1 [y_8.1.1]), ()), ((), ((), ()))))
          none)))
        none)))
      none)))))))))

noncomputable def solN_merkle_proof : Nat → F_merkle_proof
  | 0 => fun _ => none
  | n + 1 => fun x => T_merkle_proof bigLoop sol_merkle_splitPoint (solN_merkle_proof n) sol_merkle_RootOf x.1 x.2.1
noncomputable def sol_merkle_proof : F_merkle_proof := solN_merkle_proof bigF

/-- (*pontage/merkle.Tree).Proof -/
abbrev s_merkle_Tree_Proof : Sig := ⟨[(.ptr (.pair (.own false (.arr 32 (.int .u8))) (.ro true .unit))), (.ro true (.int .i64)), (.ro true (.int .i64))], [(.ro false (.slice (.arr 32 (.int .u8)))), (.ro true .bool)]⟩
abbrev F_merkle_Tree_Proof := (((List (List Int)) × Unit) × (Int × (Int × Unit))) → Option (((List (List Int)) × (Bool × Unit)) × (((List (List Int)) × Unit) × (Unit × (Unit × Unit))))

noncomputable def T_merkle_Tree_Proof (L : LoopD) (c_merkle_proof : F_merkle_proof) (c_slices_Clip_api_Hash_api_Hash : F_slices_Clip_api_Hash_api_Hash) (t_ : ((List (List Int)) × Unit)) (i_ : Int) (n_ : Int) : Option (((List (List Int)) × (Bool × Unit)) × (((List (List Int)) × Unit) × (Unit × (Unit × Unit)))) :=
  (letR (((List.length t_.1) : Nat) : Int) fun (v_0 : Int) =>
  (brR (decide (i_ < (0 : Int)))
   (some ((([] : List (List Int)), (false, ())), ((t_.1, t_.2), ((), ((), ())))))
   (brR (decide (i_ ≥ n_))
    (some ((([] : List (List Int)), (false, ())), ((t_.1, t_.2), ((), ((), ())))))
    (brR (decide (n_ > v_0))
     (some ((([] : List (List Int)), (false, ())), ((t_.1, t_.2), ((), ((), ())))))
     (brR ((decide ((0 : Int) ≤ n_)) && (decide (n_ ≤ v_0)))
      (Option.bind (c_merkle_proof ((List.take ((Int.toNat n_) - (0 : Nat)) (List.drop (0 : Nat) t_.1)), (i_, ()))) (fun (y_1 : (((List (List Int)) × Unit) × (Unit × (Unit × Unit)))) =>
       (Option.bind (c_slices_Clip_api_Hash_api_Hash (y_1.1.1, ())) (fun (y_2 : (((List (List Int)) × Unit) × (Unit × Unit))) =>
        (some ((y_2.1.1, (true, ())), ((t_.1, t_.2), ((), ((), ())))))))))
      none)))))

noncomputable def sol_merkle_Tree_Proof : F_merkle_Tree_Proof := fun x => T_merkle_Tree_Proof bigLoop sol_merkle_proof sol_slices_Clip_api_Hash_api_Hash x.1 x.2.1 x.2.2.1

/-- (*pontage/merkle.Tree).Len -/
abbrev s_merkle_Tree_Len : Sig := ⟨[(.ptr (.pair (.own false (.arr 32 (.int .u8))) (.ro true .unit)))], [(.ro true (.int .i64))]⟩
abbrev F_merkle_Tree_Len := (((List (List Int)) × Unit) × Unit) → Option ((Int × Unit) × (((List (List Int)) × Unit) × Unit))

noncomputable def T_merkle_Tree_Len (L : LoopD) (t_ : ((List (List Int)) × Unit)) : Option ((Int × Unit) × (((List (List Int)) × Unit) × Unit)) :=
  (some (((((List.length t_.1) : Nat) : Int), ()), ((t_.1, t_.2), ())))

noncomputable def sol_merkle_Tree_Len : F_merkle_Tree_Len := fun x => T_merkle_Tree_Len bigLoop x.1

/-- pontage/merkle.rootFrom -/
abbrev s_merkle_rootFrom : Sig := ⟨[(.ro true (.int .i64)), (.ro true (.int .i64)), (.ro true (.arr 32 (.int .u8))), (.ro false (.slice (.arr 32 (.int .u8))))], [(.ro true (.arr 32 (.int .u8))), (.ro true .bool)]⟩
abbrev F_merkle_rootFrom := (Int × (Int × ((List Int) × ((List (List Int)) × Unit)))) → Option (((List Int) × (Bool × Unit)) × (Unit × (Unit × (Unit × (Unit × Unit)))))

noncomputable def T_merkle_rootFrom (L : LoopD) (c_merkle_splitPoint : F_merkle_splitPoint) (c_merkle_rootFrom : F_merkle_rootFrom) (c_hash_Node : F_hash_Node) (n_ : Int) (i_ : Int) (leaf_ : (List Int)) (l_ : (List (List Int))) : Option (((List Int) × (Bool × Unit)) × (Unit × (Unit × (Unit × (Unit × Unit))))) :=
  (letR (((List.length l_) : Nat) : Int) fun (v_0 : Int) =>
  (letR (Go.IntKind.wrap (Go.IntKind.i64) (v_0 - (1 : Int))) fun (v_1 : Int) =>
  (letR (List.getD l_ (Int.toNat v_1) (List.replicate (32 : Nat) (0 : Int))) fun (v_2 : (List Int)) =>
  (brR (decide (n_ = (1 : Int)))
   (some ((leaf_, ((decide (v_0 = (0 : Int))), ())), ((), ((), ((), ((), ()))))))
   (brR (decide (v_0 = (0 : Int)))
    (some (((List.replicate (32 : Nat) (0 : Int)), (false, ())), ((), ((), ((), ((), ()))))))
    (Option.bind (c_merkle_splitPoint (n_, ())) (fun (y_3 : ((Int × Unit) × (Unit × Unit))) =>
     (brR (Go.Pon.inR v_1 (List.length l_))
      (brR ((decide ((0 : Int) ≤ v_1)) && (decide (v_1 ≤ v_0)))
       (brR (decide (i_ < y_3.1.1))
        (Option.bind (c_merkle_rootFrom (y_3.1.1, (i_, (leaf_, ((List.take ((Int.toNat v_1) - (0 : Nat)) (List.drop (0 : Nat) l_)), ()))))) (fun (y_4 : (((List Int) × (Bool × Unit)) × (Unit × (Unit × (Unit × (Unit × Unit)))))) =>
         (Option.bind (c_hash_Node (y_4.1.1, (v_2, ()))) (fun (y_5 : (((List Int) × Unit) × (Unit × (Unit × Unit)))) =>
          (some ((y_5.1.1, (y_4.1.2.1, ())), ((), ((), ((), ((), ()))))))))))
        (Option.bind (c_merkle_rootFrom ((Go.IntKind.wrap (Go.IntKind.i64) (n_ - y_3.1.1)), ((Go.IntKind.wrap (Go.IntKind.i64) (i_ - y_3.1.1)), (leaf_, ((List.take ((Int.toNat v_1) - (0 : Nat)) (List.drop (0 : Nat) l_)), ()))))) (fun (y_6 : (((List Int) × (Bool × Unit)) × (Unit × (Unit × (Unit × (Unit × Unit)))))) =>
         (Option.bind (c_hash_Node (v_2, (y_6.1.1, ()))) (fun (y_7 : (((List Int) × Unit) × (Unit × (Unit × Unit)))) =>
          (some ((y_7.1.1, (y_6.1.2.1, ())), ((), ((), ((), ((), ())))))))))))
       none)
      none))))))))

noncomputable def solN_merkle_rootFrom : Nat → F_merkle_rootFrom
  | 0 => fun _ => none
  | n + 1 => fun x => T_merkle_rootFrom bigLoop sol_merkle_splitPoint (solN_merkle_rootFrom n) sol_hash_Node x.1 x.2.1 x.2.2.1 x.2.2.2.1
noncomputable def sol_merkle_rootFrom : F_merkle_rootFrom := solN_merkle_rootFrom bigF

/-- pontage/merkle.Verify -/
abbrev s_merkle_Verify : Sig := ⟨[(.ro true (.arr 32 (.int .u8))), (.ro true (.int .i64)), (.ro true (.int .i64)), (.ro true (.arr 32 (.int .u8))), (.ro false (.slice (.arr 32 (.int .u8))))], [(.ro true .bool)]⟩
abbrev F_merkle_Verify := ((List Int) × (Int × (Int × ((List Int) × ((List (List Int)) × Unit))))) → Option ((Bool × Unit) × (Unit × (Unit × (Unit × (Unit × (Unit × Unit))))))

noncomputable def T_merkle_Verify (L : LoopD) (c_merkle_rootFrom : F_merkle_rootFrom) (root_ : (List Int)) (n_ : Int) (i_ : Int) (leaf_ : (List Int)) (proof_ : (List (List Int))) : Option ((Bool × Unit) × (Unit × (Unit × (Unit × (Unit × (Unit × Unit)))))) :=
  (brR (decide (i_ < (0 : Int)))
   (some ((false, ()), ((), ((), ((), ((), ((), ())))))))
   (brR (decide (i_ ≥ n_))
    (some ((false, ()), ((), ((), ((), ((), ((), ())))))))
    (Option.bind (c_merkle_rootFrom (n_, (i_, (leaf_, (proof_, ()))))) (fun (y_0 : (((List Int) × (Bool × Unit)) × (Unit × (Unit × (Unit × (Unit × Unit)))))) =>
     (brR y_0.1.2.1
      (some (((Go.Pon.eqD (Go.Pon.Ty.arr 32 (Go.Pon.Ty.int Go.IntKind.u8)) y_0.1.1 root_), ()), ((), ((), ((), ((), ((), ())))))))
      (some ((false, ()), ((), ((), ((), ((), ((), ()))))))))))))

noncomputable def sol_merkle_Verify : F_merkle_Verify := fun x => T_merkle_Verify bigLoop sol_merkle_rootFrom x.1 x.2.1 x.2.2.1 x.2.2.2.1 x.2.2.2.2.1

end Go.Pon
/-
  What the functions of package ref7 compute (printed by a program of this work).
-/
set_option autoImplicit false
set_option linter.unusedVariables false
set_option maxRecDepth 100000
namespace Go.Pon
open Go

/-- pontage/pontageref7.Format -/
abbrev s_ref7_Format : Sig := ⟨[(.ro true (.arr 32 (.int .u8)))], [(.ro true .str)]⟩
abbrev F_ref7_Format := ((List Int) × Unit) → Option (((List Int) × Unit) × (Unit × Unit))

noncomputable def T_ref7_Format_loop0 (again_0 : ((List Int) × ((List Int) × (Int × Unit))) → Option (((List Int) × Unit) × (Unit × Unit))) (h_1 : (List Int)) (s_2 : (List Int)) (i_3 : Int) : Option (((List Int) × Unit) × (Unit × Unit)) :=
  (letR (Int.tmod (List.getD h_1 (Int.toNat i_3) (0 : Int)) (16 : Int)) fun (v_4 : Int) =>
  (letR (Go.IntKind.wrap (Go.IntKind.u8) (Int.tdiv (List.getD h_1 (Int.toNat i_3) (0 : Int)) (16 : Int))) fun (v_5 : Int) =>
  (letR (Go.IntKind.wrap (Go.IntKind.u8) (v_4 + (1 : Int))) fun (v_6 : Int) =>
  (letR (Go.IntKind.wrap (Go.IntKind.u8) (v_5 + (1 : Int))) fun (v_7 : Int) =>
  (letR (List.take ((Int.toNat v_6) - (Int.toNat v_4)) (List.drop (Int.toNat v_4) [(48 : Int), (49 : Int), (50 : Int), (51 : Int), (52 : Int), (53 : Int), (54 : Int), (55 : Int), (56 : Int), (57 : Int), (97 : Int), (98 : Int), (99 : Int), (100 : Int), (101 : Int), (102 : Int)])) fun (v_8 : (List Int)) =>
  (letR (List.take ((Int.toNat v_7) - (Int.toNat v_5)) (List.drop (Int.toNat v_5) [(48 : Int), (49 : Int), (50 : Int), (51 : Int), (52 : Int), (53 : Int), (54 : Int), (55 : Int), (56 : Int), (57 : Int), (97 : Int), (98 : Int), (99 : Int), (100 : Int), (101 : Int), (102 : Int)])) fun (v_9 : (List Int)) =>
  (letR (List.append s_2 v_9) fun (v_10 : (List Int)) =>
  (brR (decide (i_3 < (32 : Int)))
   (brR (Go.Pon.inR i_3 (32 : Nat))
    (brR (Go.Pon.inR i_3 (32 : Nat))
     (brR (((decide ((0 : Int) ≤ v_5)) && (decide (v_5 ≤ v_7))) && (decide (v_7 ≤ (16 : Int))))
      (brR (decide (((List.length s_2) + (List.length v_9)) ≤ (9223372036854775807 : Nat)))
       (brR (((decide ((0 : Int) ≤ v_4)) && (decide (v_4 ≤ v_6))) && (decide (v_6 ≤ (16 : Int))))
        (brR (decide (((List.length v_10) + (List.length v_8)) ≤ (9223372036854775807 : Nat)))
         (again_0 (h_1, ((List.append v_10 v_8), ((Go.IntKind.wrap (Go.IntKind.i64) (i_3 + (1 : Int))), ()))))
         none)
        none)
       none)
      none)
     none)
    none)
   (some ((s_2, ()), ((), ())))))))))))

noncomputable def T_ref7_Format (L : LoopD) (h_ : (List Int)) : Option (((List Int) × Unit) × (Unit × Unit)) :=
  (L _ _ (fun again x => T_ref7_Format_loop0 again x.1 x.2.1 x.2.2.1) (h_, (([] : List Int), ((0 : Int), ()))))

noncomputable def sol_ref7_Format : F_ref7_Format := fun x => T_ref7_Format bigLoop x.1

/-- pontage/pontageref7.words -/
abbrev s_ref7_words : Sig := ⟨[], [(.ro true (.arr 64 (.int .u32)))]⟩
abbrev F_ref7_words := Unit → Option (((List Int) × Unit) × Unit)

noncomputable def T_ref7_words (L : LoopD) : Option (((List Int) × Unit) × Unit) :=
  (some (((List.set (List.set (List.set (List.set (List.set (List.set (List.set (List.set (List.set (List.set (List.set (List.set (List.set (List.set (List.set (List.set (List.set (List.set (List.set (List.set (List.set (List.set (List.set (List.set (List.set (List.set (List.set (List.set (List.set (List.set (List.set (List.set (List.set (List.set (List.set (List.set (List.set (List.set (List.set (List.set (List.set (List.set (List.set (List.set (List.set (List.set (List.set (List.set (List.set (List.set (List.set (List.set (List.set (List.set (List.set (List.set (List.set (List.set (List.set (List.set (List.set (List.set (List.set (List.set (List.replicate (64 : Nat) (0 : Int)) (0 : Nat) (1116352408 : Int)) (1 : Nat) (1899447441 : Int)) (2 : Nat) (3049323471 : Int)) (3 : Nat) (3921009573 : Int)) (4 : Nat) (961987163 : Int)) (5 : Nat) (1508970993 : Int)) (6 : Nat) (2453635748 : Int)) (7 : Nat) (2870763221 : Int)) (8 : Nat) (3624381080 : Int)) (9 : Nat) (310598401 : Int)) (10 : Nat) (607225278 : Int)) (11 : Nat) (1426881987 : Int)) (12 : Nat) (1925078388 : Int)) (13 : Nat) (2162078206 : Int)) (14 : Nat) (2614888103 : Int)) (15 : Nat) (3248222580 : Int)) (16 : Nat) (3835390401 : Int)) (17 : Nat) (4022224774 : Int)) (18 : Nat) (264347078 : Int)) (19 : Nat) (604807628 : Int)) (20 : Nat) (770255983 : Int)) (21 : Nat) (1249150122 : Int)) (22 : Nat) (1555081692 : Int)) (23 : Nat) (1996064986 : Int)) (24 : Nat) (2554220882 : Int)) (25 : Nat) (2821834349 : Int)) (26 : Nat) (2952996808 : Int)) (27 : Nat) (3210313671 : Int)) (28 : Nat) (3336571891 : Int)) (29 : Nat) (3584528711 : Int)) (30 : Nat) (113926993 : Int)) (31 : Nat) (338241895 : Int)) (32 : Nat) (666307205 : Int)) (33 : Nat) (773529912 : Int)) (34 : Nat) (1294757372 : Int)) (35 : Nat) (1396182291 : Int)) (36 : Nat) (1695183700 : Int)) (37 : Nat) (1986661051 : Int)) (38 : Nat) (2177026350 : Int)) (39 : Nat) (2456956037 : Int)) (40 : Nat) (2730485921 : Int)) (41 : Nat) (2820302411 : Int)) (42 : Nat) (3259730800 : Int)) (43 : Nat) (3345764771 : Int)) (44 : Nat) (3516065817 : Int)) (45 : Nat) (3600352804 : Int)) (46 : Nat) (4094571909 : Int)) (47 : Nat) (275423344 : Int)) (48 : Nat) (430227734 : Int)) (49 : Nat) (506948616 : Int)) (50 : Nat) (659060556 : Int)) (51 : Nat) (883997877 : Int)) (52 : Nat) (958139571 : Int)) (53 : Nat) (1322822218 : Int)) (54 : Nat) (1537002063 : Int)) (55 : Nat) (1747873779 : Int)) (56 : Nat) (1955562222 : Int)) (57 : Nat) (2024104815 : Int)) (58 : Nat) (2227730452 : Int)) (59 : Nat) (2361852424 : Int)) (60 : Nat) (2428436474 : Int)) (61 : Nat) (2756734187 : Int)) (62 : Nat) (3204031479 : Int)) (63 : Nat) (3329325298 : Int)), ()), ()))

noncomputable def sol_ref7_words : F_ref7_words := fun x => T_ref7_words bigLoop

/-- pontage/pontageref7.right -/
abbrev s_ref7_right : Sig := ⟨[(.ro true (.int .u32)), (.ro true (.int .u64))], [(.ro true (.int .u32))]⟩
abbrev F_ref7_right := (Int × (Int × Unit)) → Option ((Int × Unit) × (Unit × (Unit × Unit)))

noncomputable def T_ref7_right (L : LoopD) (x_ : Int) (n_ : Int) : Option ((Int × Unit) × (Unit × (Unit × Unit))) :=
  (letR (Go.IntKind.wrap (Go.IntKind.u64) ((32 : Int) - n_)) fun (v_0 : Int) =>
  (brR (decide ((0 : Int) ≤ n_))
   (brR (decide ((0 : Int) ≤ v_0))
    (some (((Go.IntKind.wrap (Go.IntKind.u32) (((BitVec.toNat ((BitVec.ofInt (32 : Nat) (Int.fdiv x_ ((2 : Int) ^ (min (Int.toNat n_) (32 : Nat))))) ||| (BitVec.ofInt (32 : Nat) (Go.IntKind.wrap (Go.IntKind.u32) (x_ * ((2 : Int) ^ (min (Int.toNat v_0) (32 : Nat)))))))) : Nat) : Int)), ()), ((), ((), ()))))
    none)
   none))

noncomputable def sol_ref7_right : F_ref7_right := fun x => T_ref7_right bigLoop x.1 x.2.1

/-- pontage/pontageref7.block -/
abbrev s_ref7_block : Sig := ⟨[(.ro true (.arr 8 (.int .u32))), (.ro false (.slice (.int .u8)))], [(.ro true (.arr 8 (.int .u32)))]⟩
abbrev F_ref7_block := ((List Int) × ((List Int) × Unit)) → Option (((List Int) × Unit) × (Unit × (Unit × Unit)))

noncomputable def T_ref7_block_loop2 (again_44 : ((List Int) × ((List Int) × ((List Int) × (Int × Unit)))) → Option (((List Int) × Unit) × (Unit × (Unit × Unit)))) (h_45 : (List Int)) (t4_46 : (List Int)) (s_47 : (List Int)) (i_48 : Int) : Option (((List Int) × Unit) × (Unit × (Unit × Unit))) :=
  (brR (decide (i_48 < (8 : Int)))
   (brR (Go.Pon.inR i_48 (8 : Nat))
    (brR (Go.Pon.inR i_48 (8 : Nat))
     (brR (Go.Pon.inR i_48 (8 : Nat))
      (again_44 (h_45, (t4_46, ((List.set s_47 (Int.toNat i_48) (Go.IntKind.wrap (Go.IntKind.u32) ((List.getD s_47 (Int.toNat i_48) (0 : Int)) + (List.getD h_45 (Int.toNat i_48) (0 : Int))))), ((Go.IntKind.wrap (Go.IntKind.i64) (i_48 + (1 : Int))), ())))))
      none)
     none)
    none)
   (some ((s_47, ()), ((), ((), ())))))

noncomputable def T_ref7_block_loop1 (L : LoopD) (c_ref7_right : F_ref7_right) (again_22 : ((List Int) × ((List Int) × ((List Int) × ((List Int) × ((List Int) × (Int × Unit)))))) → Option (((List Int) × Unit) × (Unit × (Unit × Unit)))) (h_23 : (List Int)) (t4_24 : (List Int)) (k_25 : (List Int)) (w_26 : (List Int)) (s_27 : (List Int)) (i_28 : Int) : Option (((List Int) × Unit) × (Unit × (Unit × Unit))) :=
  (letR (List.getD s_27 (4 : Nat) (0 : Int)) fun (v_29 : Int) =>
  (letR (List.getD s_27 (0 : Nat) (0 : Int)) fun (v_30 : Int) =>
  (letR (List.getD s_27 (7 : Nat) (0 : Int)) fun (v_31 : Int) =>
  (letR (List.getD s_27 (5 : Nat) (0 : Int)) fun (v_32 : Int) =>
  (letR (List.getD s_27 (6 : Nat) (0 : Int)) fun (v_33 : Int) =>
  (letR (List.getD s_27 (1 : Nat) (0 : Int)) fun (v_34 : Int) =>
  (letR (List.getD s_27 (2 : Nat) (0 : Int)) fun (v_35 : Int) =>
  (letR (Go.IntKind.wrap (Go.IntKind.u32) (((BitVec.toNat ((BitVec.ofInt (32 : Nat) (Go.IntKind.wrap (Go.IntKind.u32) (((BitVec.toNat ((BitVec.ofInt (32 : Nat) v_29) &&& (BitVec.ofInt (32 : Nat) v_32))) : Nat) : Int))) ^^^ (BitVec.ofInt (32 : Nat) (Go.IntKind.wrap (Go.IntKind.u32) (((BitVec.toNat ((BitVec.ofInt (32 : Nat) (Go.IntKind.wrap (Go.IntKind.u32) (((BitVec.toNat ((BitVec.ofInt (32 : Nat) (4294967295 : Int)) ^^^ (BitVec.ofInt (32 : Nat) v_29))) : Nat) : Int))) &&& (BitVec.ofInt (32 : Nat) v_33))) : Nat) : Int))))) : Nat) : Int)) fun (v_36 : Int) =>
  (brR (decide (i_28 < (64 : Int)))
   (Option.bind (c_ref7_right (v_29, ((6 : Int), ()))) (fun (y_37 : ((Int × Unit) × (Unit × (Unit × Unit)))) =>
    (Option.bind (c_ref7_right (v_29, ((11 : Int), ()))) (fun (y_38 : ((Int × Unit) × (Unit × (Unit × Unit)))) =>
     (Option.bind (c_ref7_right (v_29, ((25 : Int), ()))) (fun (y_39 : ((Int × Unit) × (Unit × (Unit × Unit)))) =>
      (letR (Go.IntKind.wrap (Go.IntKind.u32) ((Go.IntKind.wrap (Go.IntKind.u32) ((Go.IntKind.wrap (Go.IntKind.u32) ((Go.IntKind.wrap (Go.IntKind.u32) (v_31 + (Go.IntKind.wrap (Go.IntKind.u32) (((BitVec.toNat ((BitVec.ofInt (32 : Nat) (Go.IntKind.wrap (Go.IntKind.u32) (((BitVec.toNat ((BitVec.ofInt (32 : Nat) y_37.1.1) ^^^ (BitVec.ofInt (32 : Nat) y_38.1.1))) : Nat) : Int))) ^^^ (BitVec.ofInt (32 : Nat) y_39.1.1))) : Nat) : Int)))) + v_36)) + (List.getD k_25 (Int.toNat i_28) (0 : Int)))) + (List.getD w_26 (Int.toNat i_28) (0 : Int)))) fun (v_40 : Int) =>
      (brR (Go.Pon.inR i_28 (64 : Nat))
       (brR (Go.Pon.inR i_28 (64 : Nat))
        (Option.bind (c_ref7_right (v_30, ((2 : Int), ()))) (fun (y_41 : ((Int × Unit) × (Unit × (Unit × Unit)))) =>
         (Option.bind (c_ref7_right (v_30, ((13 : Int), ()))) (fun (y_42 : ((Int × Unit) × (Unit × (Unit × Unit)))) =>
          (Option.bind (c_ref7_right (v_30, ((22 : Int), ()))) (fun (y_43 : ((Int × Unit) × (Unit × (Unit × Unit)))) =>
           (again_22 (h_23, (t4_24, (k_25, (w_26, ([(Go.IntKind.wrap (Go.IntKind.u32) (v_40 + (Go.IntKind.wrap (Go.IntKind.u32) ((Go.IntKind.wrap (Go.IntKind.u32) (((BitVec.toNat ((BitVec.ofInt (32 : Nat) (Go.IntKind.wrap (Go.IntKind.u32) (((BitVec.toNat ((BitVec.ofInt (32 : Nat) y_41.1.1) ^^^ (BitVec.ofInt (32 : Nat) y_42.1.1))) : Nat) : Int))) ^^^ (BitVec.ofInt (32 : Nat) y_43.1.1))) : Nat) : Int)) + (Go.IntKind.wrap (Go.IntKind.u32) (((BitVec.toNat ((BitVec.ofInt (32 : Nat) (Go.IntKind.wrap (Go.IntKind.u32) (((BitVec.toNat ((BitVec.ofInt (32 : Nat) (Go.IntKind.wrap (Go.IntKind.u32) (((BitVec.toNat ((BitVec.ofInt (32 : Nat) v_30) &&& (BitVec.ofInt (32 : Nat) v_34))) : Nat) : Int))) ^^^ (BitVec.ofInt (32 : Nat) (Go.IntKind.wrap (Go.IntKind.u32) (((BitVec.toNat ((BitVec.ofInt (32 : Nat) v_30) &&& (BitVec.ofInt (32 : Nat) v_35))) : Nat) : Int))))) : Nat) : Int))) ^^^ (BitVec.ofInt (32 : Nat) (Go.IntKind.wrap (Go.IntKind.u32) (((BitVec.toNat ((BitVec.ofInt (32 : Nat) v_34) &&& (BitVec.ofInt (32 : Nat) v_35))) : Nat) : Int))))) : Nat) : Int)))))), v_30, v_34, v_35, (Go.IntKind.wrap (Go.IntKind.u32) ((List.getD s_27 (3 : Nat) (0 : Int)) + v_40)), v_29, v_32, v_33], ((Go.IntKind.wrap (Go.IntKind.i64) (i_28 + (1 : Int))), ())))))))))))))
        none)
       none))))))))
   (L _ _ (fun again x => T_ref7_block_loop2 again x.1 x.2.1 x.2.2.1 x.2.2.2.1) (h_23, (t4_24, (s_27, ((0 : Int), ()))))))))))))))

noncomputable def T_ref7_block_loop0 (L : LoopD) (c_ref7_right : F_ref7_right) (again_1 : ((List Int) × ((List Int) × ((List Int) × ((List Int) × ((List Int) × (Int × Unit)))))) → Option (((List Int) × Unit) × (Unit × (Unit × Unit)))) (b_2 : (List Int)) (h_3 : (List Int)) (t4_4 : (List Int)) (k_5 : (List Int)) (w_6 : (List Int)) (i_7 : Int) : Option (((List Int) × Unit) × (Unit × (Unit × Unit))) :=
  (letR (Go.IntKind.wrap (Go.IntKind.i64) ((4 : Int) * i_7)) fun (v_8 : Int) =>
  (letR (Go.IntKind.wrap (Go.IntKind.i64) (i_7 - (15 : Int))) fun (v_9 : Int) =>
  (letR (Go.IntKind.wrap (Go.IntKind.i64) (i_7 - (2 : Int))) fun (v_10 : Int) =>
  (letR (Go.IntKind.wrap (Go.IntKind.i64) (i_7 - (16 : Int))) fun (v_11 : Int) =>
  (letR (Go.IntKind.wrap (Go.IntKind.i64) (i_7 - (7 : Int))) fun (v_12 : Int) =>
  (letR (List.getD w_6 (Int.toNat v_9) (0 : Int)) fun (v_13 : Int) =>
  (letR (List.getD w_6 (Int.toNat v_10) (0 : Int)) fun (v_14 : Int) =>
  (letR (Go.IntKind.wrap (Go.IntKind.i64) (v_8 + (1 : Int))) fun (v_15 : Int) =>
  (letR (Go.IntKind.wrap (Go.IntKind.i64) (v_8 + (2 : Int))) fun (v_16 : Int) =>
  (letR (Go.IntKind.wrap (Go.IntKind.i64) (v_8 + (3 : Int))) fun (v_17 : Int) =>
  (brR (decide (i_7 < (64 : Int)))
   (brR (decide (i_7 < (16 : Int)))
    (brR (Go.Pon.inR v_8 (List.length b_2))
     (brR (Go.Pon.inR v_15 (List.length b_2))
      (brR (Go.Pon.inR v_16 (List.length b_2))
       (brR (Go.Pon.inR v_17 (List.length b_2))
        (brR (Go.Pon.inR i_7 (64 : Nat))
         (again_1 (b_2, (h_3, (t4_4, (k_5, ((List.set w_6 (Int.toNat i_7) (Go.IntKind.wrap (Go.IntKind.u32) ((Go.IntKind.wrap (Go.IntKind.u32) ((Go.IntKind.wrap (Go.IntKind.u32) ((Go.IntKind.wrap (Go.IntKind.u32) ((Go.IntKind.wrap (Go.IntKind.u32) (List.getD b_2 (Int.toNat v_8) (0 : Int))) * (16777216 : Int))) + (Go.IntKind.wrap (Go.IntKind.u32) ((Go.IntKind.wrap (Go.IntKind.u32) (List.getD b_2 (Int.toNat v_15) (0 : Int))) * (65536 : Int))))) + (Go.IntKind.wrap (Go.IntKind.u32) ((Go.IntKind.wrap (Go.IntKind.u32) (List.getD b_2 (Int.toNat v_16) (0 : Int))) * (256 : Int))))) + (Go.IntKind.wrap (Go.IntKind.u32) (List.getD b_2 (Int.toNat v_17) (0 : Int)))))), ((Go.IntKind.wrap (Go.IntKind.i64) (i_7 + (1 : Int))), ())))))))
         none)
        none)
       none)
      none)
     none)
    (brR (Go.Pon.inR v_9 (64 : Nat))
     (brR (Go.Pon.inR v_10 (64 : Nat))
      (brR (Go.Pon.inR v_11 (64 : Nat))
       (Option.bind (c_ref7_right (v_13, ((7 : Int), ()))) (fun (y_18 : ((Int × Unit) × (Unit × (Unit × Unit)))) =>
        (Option.bind (c_ref7_right (v_13, ((18 : Int), ()))) (fun (y_19 : ((Int × Unit) × (Unit × (Unit × Unit)))) =>
         (brR (Go.Pon.inR v_12 (64 : Nat))
          (Option.bind (c_ref7_right (v_14, ((17 : Int), ()))) (fun (y_20 : ((Int × Unit) × (Unit × (Unit × Unit)))) =>
           (Option.bind (c_ref7_right (v_14, ((19 : Int), ()))) (fun (y_21 : ((Int × Unit) × (Unit × (Unit × Unit)))) =>
            (brR (Go.Pon.inR i_7 (64 : Nat))
             (again_1 (b_2, (h_3, (t4_4, (k_5, ((List.set w_6 (Int.toNat i_7) (Go.IntKind.wrap (Go.IntKind.u32) ((Go.IntKind.wrap (Go.IntKind.u32) ((Go.IntKind.wrap (Go.IntKind.u32) ((List.getD w_6 (Int.toNat v_11) (0 : Int)) + (Go.IntKind.wrap (Go.IntKind.u32) (((BitVec.toNat ((BitVec.ofInt (32 : Nat) (Go.IntKind.wrap (Go.IntKind.u32) (((BitVec.toNat ((BitVec.ofInt (32 : Nat) y_18.1.1) ^^^ (BitVec.ofInt (32 : Nat) y_19.1.1))) : Nat) : Int))) ^^^ (BitVec.ofInt (32 : Nat) (Int.fdiv v_13 (8 : Int))))) : Nat) : Int)))) + (List.getD w_6 (Int.toNat v_12) (0 : Int)))) + (Go.IntKind.wrap (Go.IntKind.u32) (((BitVec.toNat ((BitVec.ofInt (32 : Nat) (Go.IntKind.wrap (Go.IntKind.u32) (((BitVec.toNat ((BitVec.ofInt (32 : Nat) y_20.1.1) ^^^ (BitVec.ofInt (32 : Nat) y_21.1.1))) : Nat) : Int))) ^^^ (BitVec.ofInt (32 : Nat) (Int.fdiv v_14 (1024 : Int))))) : Nat) : Int))))), ((Go.IntKind.wrap (Go.IntKind.i64) (i_7 + (1 : Int))), ())))))))
             none)))))
          none)))))
       none)
      none)
     none))
   (L _ _ (fun again x => T_ref7_block_loop1 L c_ref7_right again x.1 x.2.1 x.2.2.1 x.2.2.2.1 x.2.2.2.2.1 x.2.2.2.2.2.1) (h_3, (t4_4, (k_5, (w_6, (h_3, ((0 : Int), ()))))))))))))))))))

noncomputable def T_ref7_block (L : LoopD) (c_ref7_words : F_ref7_words) (c_ref7_right : F_ref7_right) (h_ : (List Int)) (b_ : (List Int)) : Option (((List Int) × Unit) × (Unit × (Unit × Unit))) :=
  (Option.bind (c_ref7_words ()) (fun (y_0 : (((List Int) × Unit) × Unit)) =>
   (L _ _ (fun again x => T_ref7_block_loop0 L c_ref7_right again x.1 x.2.1 x.2.2.1 x.2.2.2.1 x.2.2.2.2.1 x.2.2.2.2.2.1) (b_, (h_, ([(0 : Int), (0 : Int), (0 : Int), (0 : Int), (0 : Int), (0 : Int), (0 : Int), (0 : Int)], (y_0.1.1, ((List.replicate (64 : Nat) (0 : Int)), ((0 : Int), ())))))))))

noncomputable def sol_ref7_block : F_ref7_block := fun x => T_ref7_block bigLoop sol_ref7_words sol_ref7_right x.1 x.2.1

/-- pontage/pontageref7.Sum -/
abbrev s_ref7_Sum : Sig := ⟨[(.ro false (.slice (.int .u8)))], [(.ro true (.arr 32 (.int .u8)))]⟩
abbrev F_ref7_Sum := ((List Int) × Unit) → Option (((List Int) × Unit) × (Unit × Unit))

noncomputable def T_ref7_Sum_loop3 (again_17 : ((List Int) × ((List Int) × ((List Int) × (Int × Unit)))) → Option (((List Int) × Unit) × (Unit × Unit))) (t2_18 : (List Int)) (h_19 : (List Int)) (out_20 : (List Int)) (i_21 : Int) : Option (((List Int) × Unit) × (Unit × Unit)) :=
  (letR (Go.IntKind.wrap (Go.IntKind.u64) (Go.IntKind.wrap (Go.IntKind.i64) ((24 : Int) - (Go.IntKind.wrap (Go.IntKind.i64) ((8 : Int) * (Int.tmod i_21 (4 : Int))))))) fun (v_22 : Int) =>
  (brR (decide (i_21 < (32 : Int)))
   (brR (Go.Pon.inR (Go.IntKind.wrap (Go.IntKind.i64) (Int.tdiv i_21 (4 : Int))) (8 : Nat))
    (brR (decide ((0 : Int) ≤ v_22))
     (brR (Go.Pon.inR i_21 (32 : Nat))
      (again_17 (t2_18, (h_19, ((List.set out_20 (Int.toNat i_21) (Go.IntKind.wrap (Go.IntKind.u8) (Int.fdiv (List.getD h_19 (Int.toNat (Go.IntKind.wrap (Go.IntKind.i64) (Int.tdiv i_21 (4 : Int)))) (0 : Int)) ((2 : Int) ^ (min (Int.toNat v_22) (32 : Nat)))))), ((Go.IntKind.wrap (Go.IntKind.i64) (i_21 + (1 : Int))), ())))))
      none)
     none)
    none)
   (some ((out_20, ()), ((), ())))))

noncomputable def T_ref7_Sum_loop2 (L : LoopD) (c_ref7_block : F_ref7_block) (again_10 : ((List Int) × ((List Int) × ((List Int) × (Int × Unit)))) → Option (((List Int) × Unit) × (Unit × Unit))) (t2_11 : (List Int)) (m_12 : (List Int)) (h_13 : (List Int)) (i_14 : Int) : Option (((List Int) × Unit) × (Unit × Unit)) :=
  (letR (Go.IntKind.wrap (Go.IntKind.i64) (i_14 + (64 : Int))) fun (v_15 : Int) =>
  (brR (decide (i_14 < (((List.length m_12) : Nat) : Int)))
   (brR (((decide ((0 : Int) ≤ i_14)) && (decide (i_14 ≤ v_15))) && (decide (v_15 ≤ (((List.length m_12) : Nat) : Int))))
    (Option.bind (c_ref7_block (h_13, ((List.take ((Int.toNat v_15) - (Int.toNat i_14)) (List.drop (Int.toNat i_14) m_12)), ()))) (fun (y_16 : (((List Int) × Unit) × (Unit × (Unit × Unit)))) =>
     (again_10 (t2_11, (m_12, (y_16.1.1, (v_15, ())))))))
    none)
   (L _ _ (fun again x => T_ref7_Sum_loop3 again x.1 x.2.1 x.2.2.1 x.2.2.2.1) (t2_11, (h_13, ((List.replicate (32 : Nat) (0 : Int)), ((0 : Int), ())))))))

noncomputable def T_ref7_Sum_loop1 (L : LoopD) (c_ref7_block : F_ref7_block) (again_4 : ((List Int) × ((List Int) × (Int × (Int × Unit)))) → Option (((List Int) × Unit) × (Unit × Unit))) (t2_5 : (List Int)) (m_6 : (List Int)) (n_7 : Int) (i_8 : Int) : Option (((List Int) × Unit) × (Unit × Unit)) :=
  (letR (Go.IntKind.wrap (Go.IntKind.u64) (Go.IntKind.wrap (Go.IntKind.i64) ((8 : Int) * i_8))) fun (v_9 : Int) =>
  (brR (decide (i_8 ≥ (0 : Int)))
   (brR (decide ((0 : Int) ≤ v_9))
    (brR (Go.Pon.roomy ((List.length m_6) + (1 : Nat)) (Go.Pon.Ty.int Go.IntKind.u8))
     (again_4 (t2_5, ((List.append m_6 [(Go.IntKind.wrap (Go.IntKind.u8) (Int.fdiv n_7 ((2 : Int) ^ (min (Int.toNat v_9) (64 : Nat)))))]), (n_7, ((Go.IntKind.wrap (Go.IntKind.i64) (i_8 - (1 : Int))), ())))))
     none)
    none)
   (L _ _ (fun again x => T_ref7_Sum_loop2 L c_ref7_block again x.1 x.2.1 x.2.2.1 x.2.2.2.1) (t2_5, (m_6, ([(1779033703 : Int), (3144134277 : Int), (1013904242 : Int), (2773480762 : Int), (1359893119 : Int), (2600822924 : Int), (528734635 : Int), (1541459225 : Int)], ((0 : Int), ())))))))

noncomputable def T_ref7_Sum_loop0 (L : LoopD) (c_ref7_block : F_ref7_block) (again_0 : ((List Int) × ((List Int) × ((List Int) × Unit))) → Option (((List Int) × Unit) × (Unit × Unit))) (b_1 : (List Int)) (t2_2 : (List Int)) (m_3 : (List Int)) : Option (((List Int) × Unit) × (Unit × Unit)) :=
  (brR (!(decide ((Int.tmod (((List.length m_3) : Nat) : Int) (64 : Int)) = (56 : Int))))
   (brR (Go.Pon.roomy ((List.length m_3) + (1 : Nat)) (Go.Pon.Ty.int Go.IntKind.u8))
    (again_0 (b_1, (t2_2, ((List.append m_3 [(0 : Int)]), ()))))
    none)
   (L _ _ (fun again x => T_ref7_Sum_loop1 L c_ref7_block again x.1 x.2.1 x.2.2.1 x.2.2.2.1) (t2_2, (m_3, ((Go.IntKind.wrap (Go.IntKind.u64) ((Go.IntKind.wrap (Go.IntKind.u64) (((List.length b_1) : Nat) : Int)) * (8 : Int))), ((7 : Int), ()))))))

noncomputable def T_ref7_Sum (L : LoopD) (c_ref7_block : F_ref7_block) (b_ : (List Int)) : Option (((List Int) × Unit) × (Unit × Unit)) :=
  (brR (Go.Pon.roomy ((0 : Nat) + (List.length b_)) (Go.Pon.Ty.int Go.IntKind.u8))
   (brR (Go.Pon.roomy ((List.length b_) + (1 : Nat)) (Go.Pon.Ty.int Go.IntKind.u8))
    (L _ _ (fun again x => T_ref7_Sum_loop0 L c_ref7_block again x.1 x.2.1 x.2.2.1) (b_, ((List.replicate (32 : Nat) (0 : Int)), ((List.append b_ [(128 : Int)]), ()))))
    none)
   none)

noncomputable def sol_ref7_Sum : F_ref7_Sum := fun x => T_ref7_Sum bigLoop sol_ref7_block x.1

/-- pontage/pontageref7.Node -/
abbrev s_ref7_Node : Sig := ⟨[(.ro true (.arr 32 (.int .u8))), (.ro true (.arr 32 (.int .u8)))], [(.ro true (.arr 32 (.int .u8)))]⟩
abbrev F_ref7_Node := ((List Int) × ((List Int) × Unit)) → Option (((List Int) × Unit) × (Unit × (Unit × Unit)))

noncomputable def T_ref7_Node (L : LoopD) (c_ref7_Sum : F_ref7_Sum) (x_ : (List Int)) (y_ : (List Int)) : Option (((List Int) × Unit) × (Unit × (Unit × Unit))) :=
  (letR (List.take ((32 : Nat) - (0 : Nat)) (List.drop (0 : Nat) x_)) fun (v_0 : (List Int)) =>
  (letR (List.take ((32 : Nat) - (0 : Nat)) (List.drop (0 : Nat) y_)) fun (v_1 : (List Int)) =>
  (letR (List.append [(1 : Int)] v_0) fun (v_2 : (List Int)) =>
  (brR (Go.Pon.roomy ((1 : Nat) + (List.length v_0)) (Go.Pon.Ty.int Go.IntKind.u8))
   (brR (Go.Pon.roomy ((List.length v_2) + (List.length v_1)) (Go.Pon.Ty.int Go.IntKind.u8))
    (Option.bind (c_ref7_Sum ((List.append v_2 v_1), ())) (fun (y_3 : (((List Int) × Unit) × (Unit × Unit))) =>
     (some ((y_3.1.1, ()), ((), ((), ()))))))
    none)
   none))))

noncomputable def sol_ref7_Node : F_ref7_Node := fun x => T_ref7_Node bigLoop sol_ref7_Sum x.1 x.2.1

/-- pontage/pontageref7.HexDigit -/
abbrev s_ref7_HexDigit : Sig := ⟨[(.ro true (.int .u8))], [(.ro true (.int .i64))]⟩
abbrev F_ref7_HexDigit := (Int × Unit) → Option ((Int × Unit) × (Unit × Unit))

noncomputable def T_ref7_HexDigit (L : LoopD) (x_ : Int) : Option ((Int × Unit) × (Unit × Unit)) :=
  (brR (decide (x_ ≥ (48 : Int)))
   (brR (decide (x_ ≤ (57 : Int)))
    (some (((Go.IntKind.wrap (Go.IntKind.i64) (Go.IntKind.wrap (Go.IntKind.u8) (x_ - (48 : Int)))), ()), ((), ())))
    (brR (decide (x_ ≥ (97 : Int)))
     (brR (decide (x_ ≤ (102 : Int)))
      (some (((Go.IntKind.wrap (Go.IntKind.i64) ((Go.IntKind.wrap (Go.IntKind.i64) (Go.IntKind.wrap (Go.IntKind.u8) (x_ - (97 : Int)))) + (10 : Int))), ()), ((), ())))
      (some (((-1 : Int), ()), ((), ()))))
     (some (((-1 : Int), ()), ((), ())))))
   (brR (decide (x_ ≥ (97 : Int)))
    (brR (decide (x_ ≤ (102 : Int)))
     (some (((Go.IntKind.wrap (Go.IntKind.i64) ((Go.IntKind.wrap (Go.IntKind.i64) (Go.IntKind.wrap (Go.IntKind.u8) (x_ - (97 : Int)))) + (10 : Int))), ()), ((), ())))
     (some (((-1 : Int), ()), ((), ()))))
    (some (((-1 : Int), ()), ((), ())))))

noncomputable def sol_ref7_HexDigit : F_ref7_HexDigit := fun x => T_ref7_HexDigit bigLoop x.1

/-- pontage/pontageref7.Parse -/
abbrev s_ref7_Parse : Sig := ⟨[(.ro true .str)], [(.ro true (.arr 32 (.int .u8))), (.ro true (.int .i64))]⟩
abbrev F_ref7_Parse := ((List Int) × Unit) → Option (((List Int) × (Int × Unit)) × (Unit × Unit))

noncomputable def T_ref7_Parse_loop0 (c_ref7_HexDigit : F_ref7_HexDigit) (again_0 : ((List Int) × ((List Int) × ((List Int) × (Int × Unit)))) → Option (((List Int) × (Int × Unit)) × (Unit × Unit))) (s_1 : (List Int)) (t2_2 : (List Int)) (h_3 : (List Int)) (i_4 : Int) : Option (((List Int) × (Int × Unit)) × (Unit × Unit)) :=
  (brR (decide (i_4 < (64 : Int)))
   (brR (Go.Pon.inR i_4 (List.length s_1))
    (Option.bind (c_ref7_HexDigit ((List.getD s_1 (Int.toNat i_4) (0 : Int)), ())) (fun (y_5 : ((Int × Unit) × (Unit × Unit))) =>
     (brR (decide (y_5.1.1 < (0 : Int)))
      (some (((List.replicate (32 : Nat) (0 : Int)), ((3 : Int), ())), ((), ())))
      (brR (Go.Pon.inR (Go.IntKind.wrap (Go.IntKind.i64) (Int.tdiv i_4 (2 : Int))) (32 : Nat))
       (brR (Go.Pon.inR i_4 (List.length s_1))
        (Option.bind (c_ref7_HexDigit ((List.getD s_1 (Int.toNat i_4) (0 : Int)), ())) (fun (y_6 : ((Int × Unit) × (Unit × Unit))) =>
         (brR (Go.Pon.inR (Go.IntKind.wrap (Go.IntKind.i64) (Int.tdiv i_4 (2 : Int))) (32 : Nat))
          (again_0 (s_1, (t2_2, ((List.set h_3 (Int.toNat (Go.IntKind.wrap (Go.IntKind.i64) (Int.tdiv i_4 (2 : Int)))) (Go.IntKind.wrap (Go.IntKind.u8) ((Go.IntKind.wrap (Go.IntKind.u8) ((List.getD h_3 (Int.toNat (Go.IntKind.wrap (Go.IntKind.i64) (Int.tdiv i_4 (2 : Int)))) (0 : Int)) * (16 : Int))) + (Go.IntKind.wrap (Go.IntKind.u8) y_6.1.1)))), ((Go.IntKind.wrap (Go.IntKind.i64) (i_4 + (1 : Int))), ())))))
          none)))
        none)
       none))))
    none)
   (some ((h_3, ((0 : Int), ())), ((), ()))))

noncomputable def T_ref7_Parse (L : LoopD) (c_ref7_HexDigit : F_ref7_HexDigit) (s_ : (List Int)) : Option (((List Int) × (Int × Unit)) × (Unit × Unit)) :=
  (brR (!(decide ((((List.length s_) : Nat) : Int) = (64 : Int))))
   (some (((List.replicate (32 : Nat) (0 : Int)), ((3 : Int), ())), ((), ())))
   (L _ _ (fun again x => T_ref7_Parse_loop0 c_ref7_HexDigit again x.1 x.2.1 x.2.2.1 x.2.2.2.1) (s_, ((List.replicate (32 : Nat) (0 : Int)), ((List.replicate (32 : Nat) (0 : Int)), ((0 : Int), ()))))))

noncomputable def sol_ref7_Parse : F_ref7_Parse := fun x => T_ref7_Parse bigLoop sol_ref7_HexDigit x.1

/-- pontage/pontageref7.Leaf -/
abbrev s_ref7_Leaf : Sig := ⟨[(.ro false (.slice (.int .u8)))], [(.ro true (.arr 32 (.int .u8)))]⟩
abbrev F_ref7_Leaf := ((List Int) × Unit) → Option (((List Int) × Unit) × (Unit × Unit))

noncomputable def T_ref7_Leaf (L : LoopD) (c_ref7_Sum : F_ref7_Sum) (b_ : (List Int)) : Option (((List Int) × Unit) × (Unit × Unit)) :=
  (brR (Go.Pon.roomy ((1 : Nat) + (List.length b_)) (Go.Pon.Ty.int Go.IntKind.u8))
   (Option.bind (c_ref7_Sum ((List.append [(0 : Int)] b_), ())) (fun (y_0 : (((List Int) × Unit) × (Unit × Unit))) =>
    (some ((y_0.1.1, ()), ((), ())))))
   none)

noncomputable def sol_ref7_Leaf : F_ref7_Leaf := fun x => T_ref7_Leaf bigLoop sol_ref7_Sum x.1

end Go.Pon
/-
  What the functions of package ref8 compute (printed by a program of this work).
-/
set_option autoImplicit false
set_option linter.unusedVariables false
set_option maxRecDepth 100000
namespace Go.Pon
open Go

/-- pontage/pontageref8.SplitPoint -/
abbrev s_ref8_SplitPoint : Sig := ⟨[(.ro true (.int .i64))], [(.ro true (.int .i64))]⟩
abbrev F_ref8_SplitPoint := (Int × Unit) → Option ((Int × Unit) × (Unit × Unit))

noncomputable def T_ref8_SplitPoint_loop0 (again_0 : (Int × (Int × Unit)) → Option ((Int × Unit) × (Unit × Unit))) (n_1 : Int) (k_2 : Int) : Option ((Int × Unit) × (Unit × Unit)) :=
  (brR (decide (k_2 < (Go.IntKind.wrap (Go.IntKind.i64) (n_1 - k_2))))
   (again_0 (n_1, ((Go.IntKind.wrap (Go.IntKind.i64) ((2 : Int) * k_2)), ())))
   (some ((k_2, ()), ((), ()))))

noncomputable def T_ref8_SplitPoint (L : LoopD) (n_ : Int) : Option ((Int × Unit) × (Unit × Unit)) :=
  (L _ _ (fun again x => T_ref8_SplitPoint_loop0 again x.1 x.2.1) (n_, ((1 : Int), ())))

noncomputable def sol_ref8_SplitPoint : F_ref8_SplitPoint := fun x => T_ref8_SplitPoint bigLoop x.1

/-- pontage/pontageref8.RootOf -/
abbrev s_ref8_RootOf : Sig := ⟨[(.ro false (.slice (.arr 32 (.int .u8))))], [(.ro true (.arr 32 (.int .u8)))]⟩
abbrev F_ref8_RootOf := ((List (List Int)) × Unit) → Option (((List Int) × Unit) × (Unit × Unit))

noncomputable def T_ref8_RootOf (L : LoopD) (c_ref7_Sum : F_ref7_Sum) (c_ref8_SplitPoint : F_ref8_SplitPoint) (c_ref8_RootOf : F_ref8_RootOf) (c_ref7_Node : F_ref7_Node) (l_ : (List (List Int))) : Option (((List Int) × Unit) × (Unit × Unit)) :=
  (letR (((List.length l_) : Nat) : Int) fun (v_0 : Int) =>
  (brR (decide (v_0 = (0 : Int)))
   (Option.bind (c_ref7_Sum (([] : List Int), ())) (fun (y_1 : (((List Int) × Unit) × (Unit × Unit))) =>
    (some ((y_1.1.1, ()), ((), ())))))
   (brR (decide (v_0 = (1 : Int)))
    (brR (Go.Pon.inR (0 : Int) (List.length l_))
     (some (((List.getD l_ (0 : Nat) (List.replicate (32 : Nat) (0 : Int))), ()), ((), ())))
     none)
    (Option.bind (c_ref8_SplitPoint (v_0, ())) (fun (y_2 : ((Int × Unit) × (Unit × Unit))) =>
     (brR ((decide ((0 : Int) ≤ y_2.1.1)) && (decide (y_2.1.1 ≤ v_0)))
      (Option.bind (c_ref8_RootOf ((List.take ((Int.toNat y_2.1.1) - (0 : Nat)) (List.drop (0 : Nat) l_)), ())) (fun (y_3 : (((List Int) × Unit) × (Unit × Unit))) =>
       (brR ((decide ((0 : Int) ≤ y_2.1.1)) && (decide (y_2.1.1 ≤ v_0)))
        (Option.bind (c_ref8_RootOf ((List.take ((List.length l_) - (Int.toNat y_2.1.1)) (List.drop (Int.toNat y_2.1.1) l_)), ())) (fun (y_4 : (((List Int) × Unit) × (Unit × Unit))) =>
         (Option.bind (c_ref7_Node (y_3.1.1, (y_4.1.1, ()))) (fun (y_5 : (((List Int) × Unit) × (Unit × (Unit × Unit)))) =>
          (some ((y_5.1.1, ()), ((), ())))))))
        none)))
      none))))))

noncomputable def solN_ref8_RootOf : Nat → F_ref8_RootOf
  | 0 => fun _ => none
  | n + 1 => fun x => T_ref8_RootOf bigLoop sol_ref7_Sum sol_ref8_SplitPoint (solN_ref8_RootOf n) sol_ref7_Node x.1
noncomputable def sol_ref8_RootOf : F_ref8_RootOf := solN_ref8_RootOf bigF

/-- pontage/pontageref8.Proof -/
abbrev s_ref8_Proof : Sig := ⟨[(.ro false (.slice (.arr 32 (.int .u8)))), (.ro true (.int .i64))], [(.own true (.arr 32 (.int .u8)))]⟩
abbrev F_ref8_Proof := ((List (List Int)) × (Int × Unit)) → Option (((List (List Int)) × Unit) × (Unit × (Unit × Unit)))

noncomputable def T_ref8_Proof (L : LoopD) (c_ref8_SplitPoint : F_ref8_SplitPoint) (c_ref8_Proof : F_ref8_Proof) (c_ref8_RootOf : F_ref8_RootOf) (l_ : (List (List Int))) (i_ : Int) : Option (((List (List Int)) × Unit) × (Unit × (Unit × Unit))) :=
  (letR (((List.length l_) : Nat) : Int) fun (v_0 : Int) =>
  (letR (List.drop (0 : Nat) l_) fun (v_1 : (List (List Int))) =>
  (brR (decide (v_0 < (2 : Int)))
   (some ((([] : List (List Int)), ()), ((), ((), ()))))
   (Option.bind (c_ref8_SplitPoint (v_0, ())) (fun (y_2 : ((Int × Unit) × (Unit × Unit))) =>
    (letR (List.take ((Int.toNat y_2.1.1) - (0 : Nat)) v_1) fun (v_3 : (List (List Int))) =>
    (letR (List.take ((List.length l_) - (Int.toNat y_2.1.1)) (List.drop (Int.toNat y_2.1.1) l_)) fun (v_4 : (List (List Int))) =>
    (brR (decide (i_ < y_2.1.1))
     (brR ((decide ((0 : Int) ≤ y_2.1.1)) && (decide (y_2.1.1 ≤ v_0)))
      (Option.bind (c_ref8_Proof (v_3, (i_, ()))) (fun (y_5 : (((List (List Int)) × Unit) × (Unit × (Unit × Unit)))) =>
       (brR ((decide ((0 : Int) ≤ y_2.1.1)) && (decide (y_2.1.1 ≤ v_0)))
        (Option.bind (c_ref8_RootOf (v_4, ())) (fun (y_6 : (((List Int) × Unit) × (Unit × Unit))) =>
         (brR (Go.Pon.roomy ((List.length y_5.1.1) + (1 : Nat)) (Go.Pon.Ty.arr 32 (Go.Pon.Ty.int Go.IntKind.u8)))
          (some (((List.append y_5.1.1 [y_6.1.1]), ()), ((), ((), ()))))
          none)))
        none)))
      none)
     (brR ((decide ((0 : Int) ≤ y_2.1.1)) && (decide (y_2.1.1 ≤ v_0)))
      (Option.bind (c_ref8_Proof (v_4, ((Go.IntKind.wrap (Go.IntKind.i64) (i_ - y_2.1.1)), ()))) (fun (y_7 : (((List (List Int)) × Unit) × (Unit × (Unit × Unit)))) =>
       (brR ((decide ((0 : Int) ≤ y_2.1.1)) && (decide (y_2.1.1 ≤ v_0)))
        (Option.bind (c_ref8_RootOf (v_3, ())) (fun (y_8 : (((List Int) × Unit) × (Unit × Unit))) =>
         (brR (Go.Pon.roomy ((List.length y_7.1.1) + (1 : Nat)) (Go.Pon.Ty.arr 32 (Go.Pon.Ty.int Go.IntKind.u8)))
          (some (((List.append y_7.1.1 [y_8.1.1]), ()), ((), ((), ()))))
          none)))
        none)))
      none)))))))))

noncomputable def solN_ref8_Proof : Nat → F_ref8_Proof
  | 0 => fun _ => none
  | n + 1 => fun x => T_ref8_Proof bigLoop sol_ref8_SplitPoint (solN_ref8_Proof n) sol_ref8_RootOf x.1 x.2.1
noncomputable def sol_ref8_Proof : F_ref8_Proof := solN_ref8_Proof bigF

/-- pontage/pontageref8.up -/
abbrev s_ref8_up : Sig := ⟨[(.ro true (.int .i64)), (.ro true (.int .i64)), (.ro true (.arr 32 (.int .u8))), (.ro false (.slice (.arr 32 (.int .u8))))], [(.ro true (.arr 32 (.int .u8))), (.ro true .bool)]⟩
abbrev F_ref8_up := (Int × (Int × ((List Int) × ((List (List Int)) × Unit)))) → Option (((List Int) × (Bool × Unit)) × (Unit × (Unit × (Unit × (Unit × Unit)))))

noncomputable def T_ref8_up (L : LoopD) (c_ref8_SplitPoint : F_ref8_SplitPoint) (c_ref8_up : F_ref8_up) (c_ref7_Node : F_ref7_Node) (n_ : Int) (i_ : Int) (leaf_ : (List Int)) (proof_ : (List (List Int))) : Option (((List Int) × (Bool × Unit)) × (Unit × (Unit × (Unit × (Unit × Unit))))) :=
  (letR (((List.length proof_) : Nat) : Int) fun (v_0 : Int) =>
  (letR (Go.IntKind.wrap (Go.IntKind.i64) (v_0 - (1 : Int))) fun (v_1 : Int) =>
  (letR (List.getD proof_ (Int.toNat v_1) (List.replicate (32 : Nat) (0 : Int))) fun (v_2 : (List Int)) =>
  (brR (decide (n_ = (1 : Int)))
   (some ((leaf_, ((decide (v_0 = (0 : Int))), ())), ((), ((), ((), ((), ()))))))
   (brR (decide (v_0 = (0 : Int)))
    (some ((leaf_, (false, ())), ((), ((), ((), ((), ()))))))
    (brR (Go.Pon.inR v_1 (List.length proof_))
     (Option.bind (c_ref8_SplitPoint (n_, ())) (fun (y_3 : ((Int × Unit) × (Unit × Unit))) =>
      (brR (decide (i_ < y_3.1.1))
       (brR ((decide ((0 : Int) ≤ v_1)) && (decide (v_1 ≤ v_0)))
        (Option.bind (c_ref8_up (y_3.1.1, (i_, (leaf_, ((List.take ((Int.toNat v_1) - (0 : Nat)) (List.drop (0 : Nat) proof_)), ()))))) (fun (y_4 : (((List Int) × (Bool × Unit)) × (Unit × (Unit × (Unit × (Unit × Unit)))))) =>
         (Option.bind (c_ref7_Node (y_4.1.1, (v_2, ()))) (fun (y_5 : (((List Int) × Unit) × (Unit × (Unit × Unit)))) =>
          (some ((y_5.1.1, (y_4.1.2.1, ())), ((), ((), ((), ((), ()))))))))))
        none)
       (brR ((decide ((0 : Int) ≤ v_1)) && (decide (v_1 ≤ v_0)))
        (Option.bind (c_ref8_up ((Go.IntKind.wrap (Go.IntKind.i64) (n_ - y_3.1.1)), ((Go.IntKind.wrap (Go.IntKind.i64) (i_ - y_3.1.1)), (leaf_, ((List.take ((Int.toNat v_1) - (0 : Nat)) (List.drop (0 : Nat) proof_)), ()))))) (fun (y_6 : (((List Int) × (Bool × Unit)) × (Unit × (Unit × (Unit × (Unit × Unit)))))) =>
         (Option.bind (c_ref7_Node (v_2, (y_6.1.1, ()))) (fun (y_7 : (((List Int) × Unit) × (Unit × (Unit × Unit)))) =>
          (some ((y_7.1.1, (y_6.1.2.1, ())), ((), ((), ((), ((), ()))))))))))
        none))))
     none))))))

noncomputable def solN_ref8_up : Nat → F_ref8_up
  | 0 => fun _ => none
  | n + 1 => fun x => T_ref8_up bigLoop sol_ref8_SplitPoint (solN_ref8_up n) sol_ref7_Node x.1 x.2.1 x.2.2.1 x.2.2.2.1
noncomputable def sol_ref8_up : F_ref8_up := solN_ref8_up bigF

/-- pontage/pontageref8.Verify -/
abbrev s_ref8_Verify : Sig := ⟨[(.ro true (.arr 32 (.int .u8))), (.ro true (.int .i64)), (.ro true (.int .i64)), (.ro true (.arr 32 (.int .u8))), (.ro false (.slice (.arr 32 (.int .u8))))], [(.ro true .bool)]⟩
abbrev F_ref8_Verify := ((List Int) × (Int × (Int × ((List Int) × ((List (List Int)) × Unit))))) → Option ((Bool × Unit) × (Unit × (Unit × (Unit × (Unit × (Unit × Unit))))))

noncomputable def T_ref8_Verify (L : LoopD) (c_ref8_up : F_ref8_up) (root_ : (List Int)) (n_ : Int) (i_ : Int) (leaf_ : (List Int)) (proof_ : (List (List Int))) : Option ((Bool × Unit) × (Unit × (Unit × (Unit × (Unit × (Unit × Unit)))))) :=
  (brR (decide (i_ < (0 : Int)))
   (some ((false, ()), ((), ((), ((), ((), ((), ())))))))
   (brR (decide (i_ ≥ n_))
    (some ((false, ()), ((), ((), ((), ((), ((), ())))))))
    (brR (decide ((((List.length proof_) : Nat) : Int) > (64 : Int)))
     (some ((false, ()), ((), ((), ((), ((), ((), ())))))))
     (Option.bind (c_ref8_up (n_, (i_, (leaf_, (proof_, ()))))) (fun (y_0 : (((List Int) × (Bool × Unit)) × (Unit × (Unit × (Unit × (Unit × Unit)))))) =>
      (brR y_0.1.2.1
       (some (((Go.Pon.eqD (Go.Pon.Ty.arr 32 (Go.Pon.Ty.int Go.IntKind.u8)) y_0.1.1 root_), ()), ((), ((), ((), ((), ((), ())))))))
       (some ((false, ()), ((), ((), ((), ((), ((), ())))))))))))))

noncomputable def sol_ref8_Verify : F_ref8_Verify := fun x => T_ref8_Verify bigLoop sol_ref8_up x.1 x.2.1 x.2.2.1 x.2.2.2.1 x.2.2.2.2.1

end Go.Pon
/-
  What the functions of package law8 compute (printed by a program of this work).
-/
set_option autoImplicit false
set_option linter.unusedVariables false
set_option maxRecDepth 100000
namespace Go.Pon
open Go

/-- pontage/pontagelaw8.awake -/
abbrev s_law8_awake : Sig := ⟨[], [(.ro true .bool)]⟩
abbrev F_law8_awake := Unit → Option ((Bool × Unit) × Unit)

noncomputable def T_law8_awake (L : LoopD) (c_law0_HashOf : F_law0_HashOf) (c_merkle_New : F_merkle_New) (c_merkle_Tree_Append : F_merkle_Tree_Append) (c_merkle_Tree_Root : F_merkle_Tree_Root) (c_merkle_Tree_Proof : F_merkle_Tree_Proof) (c_hash_Node : F_hash_Node) : Option ((Bool × Unit) × Unit) :=
  (Option.bind (c_law0_HashOf ((1 : Int), ())) (fun (y_0 : (((List Int) × Unit) × (Unit × Unit))) =>
   (Option.bind (c_law0_HashOf ((2 : Int), ())) (fun (y_1 : (((List Int) × Unit) × (Unit × Unit))) =>
    (Option.bind (c_law0_HashOf ((3 : Int), ())) (fun (y_2 : (((List Int) × Unit) × (Unit × Unit))) =>
     (Option.bind (c_merkle_New ()) (fun (y_3 : ((((List (List Int)) × Unit) × Unit) × Unit)) =>
      (Option.bind (c_merkle_Tree_Append ((y_3.1.1.1, y_3.1.1.2), (y_0.1.1, ()))) (fun (y_4 : ((Int × Unit) × (((List (List Int)) × Unit) × (Unit × Unit)))) =>
       (Option.bind (c_merkle_Tree_Append ((y_4.2.1.1, y_4.2.1.2), (y_1.1.1, ()))) (fun (y_5 : ((Int × Unit) × (((List (List Int)) × Unit) × (Unit × Unit)))) =>
        (Option.bind (c_merkle_Tree_Append ((y_5.2.1.1, y_5.2.1.2), (y_2.1.1, ()))) (fun (y_6 : ((Int × Unit) × (((List (List Int)) × Unit) × (Unit × Unit)))) =>
         (Option.bind (c_merkle_Tree_Root ((y_6.2.1.1, y_6.2.1.2), ((3 : Int), ()))) (fun (y_7 : (((List Int) × (Bool × Unit)) × (((List (List Int)) × Unit) × (Unit × Unit)))) =>
          (Option.bind (c_merkle_Tree_Proof ((y_7.2.1.1, y_7.2.1.2), ((2 : Int), ((3 : Int), ())))) (fun (y_8 : (((List (List Int)) × (Bool × Unit)) × (((List (List Int)) × Unit) × (Unit × (Unit × Unit))))) =>
           (letR (List.length y_8.1.1) fun (v_9 : Nat) =>
           (brR (decide (y_4.1.1 = (0 : Int)))
            (brR (decide (y_5.1.1 = (1 : Int)))
             (brR (decide (y_6.1.1 = (2 : Int)))
              (Option.bind (c_hash_Node (y_0.1.1, (y_1.1.1, ()))) (fun (y_10 : (((List Int) × Unit) × (Unit × (Unit × Unit)))) =>
               (Option.bind (c_hash_Node (y_10.1.1, (y_2.1.1, ()))) (fun (y_11 : (((List Int) × Unit) × (Unit × (Unit × Unit)))) =>
                (brR (Go.Pon.eqD (Go.Pon.Ty.arr 32 (Go.Pon.Ty.int Go.IntKind.u8)) y_7.1.1 y_11.1.1)
                 (brR y_7.1.2.1
                  (brR y_8.1.2.1
                   (brR (decide (((v_9 : Nat) : Int) = (1 : Int)))
                    (brR (Go.Pon.inR (0 : Int) v_9)
                     (Option.bind (c_hash_Node (y_0.1.1, (y_1.1.1, ()))) (fun (y_12 : (((List Int) × Unit) × (Unit × (Unit × Unit)))) =>
                      (some (((Go.Pon.eqD (Go.Pon.Ty.arr 32 (Go.Pon.Ty.int Go.IntKind.u8)) (List.getD y_8.1.1 (0 : Nat) (List.replicate (32 : Nat) (0 : Int))) y_12.1.1), ()), ()))))
                     none)
                    (some ((false, ()), ())))
                   (some ((false, ()), ())))
                  (some ((false, ()), ())))
                 (some ((false, ()), ())))))))
              (some ((false, ()), ())))
             (some ((false, ()), ())))
            (some ((false, ()), ()))))))))))))))))))))))

noncomputable def sol_law8_awake : F_law8_awake := fun x => T_law8_awake bigLoop sol_law0_HashOf sol_merkle_New sol_merkle_Tree_Append sol_merkle_Tree_Root sol_merkle_Tree_Proof sol_hash_Node

/-- pontage/pontagelaw8.MerkleAppendOnly -/
abbrev s_law8_MerkleAppendOnly : Sig := ⟨[(.ro false (.slice (.int .i64))), (.ro false (.slice (.int .i64))), (.ro true (.int .i64))], [(.ro true .bool)]⟩
abbrev F_law8_MerkleAppendOnly := ((List Int) × ((List Int) × (Int × Unit))) → Option ((Bool × Unit) × (Unit × (Unit × (Unit × Unit))))

noncomputable def T_law8_MerkleAppendOnly_loop1 (c_law0_HashOf : F_law0_HashOf) (c_merkle_Tree_Append : F_merkle_Tree_Append) (c_merkle_Tree_Root : F_merkle_Tree_Root) (c_merkle_Tree_Proof : F_merkle_Tree_Proof) (c_law0_EqualHashes : F_law0_EqualHashes) (c_merkle_Tree_Len : F_merkle_Tree_Len) (c_law8_awake : F_law8_awake) (again_15 : ((List Int) × ((List Int) × (((List (List Int)) × Unit) × (Int × ((List Int) × ((List (List Int)) × (Int × Unit))))))) → Option ((Bool × Unit) × (Unit × (Unit × (Unit × Unit))))) (v_16 : (List Int)) (w_17 : (List Int)) (t_18 : ((List (List Int)) × Unit)) (k_19 : Int) (r_20 : (List Int)) (p_21 : (List (List Int))) (j_22 : Int) : Option ((Bool × Unit) × (Unit × (Unit × (Unit × Unit)))) :=
  (brR (decide (j_22 < (((List.length w_17) : Nat) : Int)))
   (brR (Go.Pon.inR j_22 (List.length w_17))
    (Option.bind (c_law0_HashOf ((List.getD w_17 (Int.toNat j_22) (0 : Int)), ())) (fun (y_23 : (((List Int) × Unit) × (Unit × Unit))) =>
     (Option.bind (c_merkle_Tree_Append ((t_18.1, t_18.2), (y_23.1.1, ()))) (fun (y_24 : ((Int × Unit) × (((List (List Int)) × Unit) × (Unit × Unit)))) =>
      (again_15 (v_16, (w_17, ((y_24.2.1.1, y_24.2.1.2), (k_19, (r_20, (p_21, ((Go.IntKind.wrap (Go.IntKind.i64) (j_22 + (1 : Int))), ()))))))))))))
    none)
   (Option.bind (c_merkle_Tree_Root ((t_18.1, t_18.2), ((((List.length v_16) : Nat) : Int), ()))) (fun (y_25 : (((List Int) × (Bool × Unit)) × (((List (List Int)) × Unit) × (Unit × Unit)))) =>
    (Option.bind (c_merkle_Tree_Proof ((y_25.2.1.1, y_25.2.1.2), (k_19, ((((List.length v_16) : Nat) : Int), ())))) (fun (y_26 : (((List (List Int)) × (Bool × Unit)) × (((List (List Int)) × Unit) × (Unit × (Unit × Unit))))) =>
     (brR y_25.1.2.1
      (brR y_26.1.2.1
       (brR (Go.Pon.eqD (Go.Pon.Ty.arr 32 (Go.Pon.Ty.int Go.IntKind.u8)) r_20 y_25.1.1)
        (Option.bind (c_law0_EqualHashes (p_21, (y_26.1.1, ()))) (fun (y_27 : ((Bool × Unit) × (Unit × (Unit × Unit)))) =>
         (brR y_27.1.1
          (Option.bind (c_merkle_Tree_Len ((y_26.2.1.1, y_26.2.1.2), ())) (fun (y_28 : ((Int × Unit) × (((List (List Int)) × Unit) × Unit))) =>
           (brR (decide (y_28.1.1 = (Go.IntKind.wrap (Go.IntKind.i64) ((((List.length v_16) : Nat) : Int) + (((List.length w_17) : Nat) : Int)))))
            (Option.bind (c_law8_awake ()) (fun (y_29 : ((Bool × Unit) × Unit)) =>
             (some ((y_29.1.1, ()), ((), ((), ((), ())))))))
            (some ((false, ()), ((), ((), ((), ()))))))))
          (some ((false, ()), ((), ((), ((), ()))))))))
        (some ((false, ()), ((), ((), ((), ()))))))
       (some ((false, ()), ((), ((), ((), ()))))))
      (some ((false, ()), ((), ((), ((), ())))))))))))

noncomputable def T_law8_MerkleAppendOnly_loop0 (L : LoopD) (c_law0_HashOf : F_law0_HashOf) (c_merkle_Tree_Append : F_merkle_Tree_Append) (c_law0_Mod : F_law0_Mod) (c_merkle_Tree_Root : F_merkle_Tree_Root) (c_merkle_Tree_Proof : F_merkle_Tree_Proof) (c_law0_EqualHashes : F_law0_EqualHashes) (c_merkle_Tree_Len : F_merkle_Tree_Len) (c_law8_awake : F_law8_awake) (again_4 : ((List Int) × ((List Int) × (Int × (((List (List Int)) × Unit) × (Int × Unit))))) → Option ((Bool × Unit) × (Unit × (Unit × (Unit × Unit))))) (v_5 : (List Int)) (w_6 : (List Int)) (i_7 : Int) (t_8 : ((List (List Int)) × Unit)) (k_9 : Int) : Option ((Bool × Unit) × (Unit × (Unit × (Unit × Unit)))) :=
  (brR (decide (k_9 < (((List.length v_5) : Nat) : Int)))
   (brR (Go.Pon.inR k_9 (List.length v_5))
    (Option.bind (c_law0_HashOf ((List.getD v_5 (Int.toNat k_9) (0 : Int)), ())) (fun (y_10 : (((List Int) × Unit) × (Unit × Unit))) =>
     (Option.bind (c_merkle_Tree_Append ((t_8.1, t_8.2), (y_10.1.1, ()))) (fun (y_11 : ((Int × Unit) × (((List (List Int)) × Unit) × (Unit × Unit)))) =>
      (again_4 (v_5, (w_6, (i_7, ((y_11.2.1.1, y_11.2.1.2), ((Go.IntKind.wrap (Go.IntKind.i64) (k_9 + (1 : Int))), ()))))))))))
    none)
   (Option.bind (c_law0_Mod (i_7, ((((List.length v_5) : Nat) : Int), ()))) (fun (y_12 : ((Int × Unit) × (Unit × (Unit × Unit)))) =>
    (Option.bind (c_merkle_Tree_Root ((t_8.1, t_8.2), ((((List.length v_5) : Nat) : Int), ()))) (fun (y_13 : (((List Int) × (Bool × Unit)) × (((List (List Int)) × Unit) × (Unit × Unit)))) =>
     (Option.bind (c_merkle_Tree_Proof ((y_13.2.1.1, y_13.2.1.2), (y_12.1.1, ((((List.length v_5) : Nat) : Int), ())))) (fun (y_14 : (((List (List Int)) × (Bool × Unit)) × (((List (List Int)) × Unit) × (Unit × (Unit × Unit))))) =>
      (L _ _ (fun again x => T_law8_MerkleAppendOnly_loop1 c_law0_HashOf c_merkle_Tree_Append c_merkle_Tree_Root c_merkle_Tree_Proof c_law0_EqualHashes c_merkle_Tree_Len c_law8_awake again x.1 x.2.1 x.2.2.1 x.2.2.2.1 x.2.2.2.2.1 x.2.2.2.2.2.1 x.2.2.2.2.2.2.1) (v_5, (w_6, ((y_14.2.1.1, y_14.2.1.2), (y_12.1.1, (y_13.1.1, (y_14.1.1, ((0 : Int), ())))))))))))))))

noncomputable def T_law8_MerkleAppendOnly (L : LoopD) (c_law8_awake : F_law8_awake) (c_merkle_New : F_merkle_New) (c_law0_HashOf : F_law0_HashOf) (c_merkle_Tree_Append : F_merkle_Tree_Append) (c_law0_Mod : F_law0_Mod) (c_merkle_Tree_Root : F_merkle_Tree_Root) (c_merkle_Tree_Proof : F_merkle_Tree_Proof) (c_law0_EqualHashes : F_law0_EqualHashes) (c_merkle_Tree_Len : F_merkle_Tree_Len) (v_ : (List Int)) (w_ : (List Int)) (i_ : Int) : Option ((Bool × Unit) × (Unit × (Unit × (Unit × Unit)))) :=
  (brR (decide ((((List.length v_) : Nat) : Int) > (40 : Int)))
   (Option.bind (c_law8_awake ()) (fun (y_0 : ((Bool × Unit) × Unit)) =>
    (some ((y_0.1.1, ()), ((), ((), ((), ())))))))
   (brR (decide ((((List.length v_) : Nat) : Int) = (0 : Int)))
    (Option.bind (c_law8_awake ()) (fun (y_1 : ((Bool × Unit) × Unit)) =>
     (some ((y_1.1.1, ()), ((), ((), ((), ())))))))
    (brR (decide ((((List.length w_) : Nat) : Int) > (40 : Int)))
     (Option.bind (c_law8_awake ()) (fun (y_2 : ((Bool × Unit) × Unit)) =>
      (some ((y_2.1.1, ()), ((), ((), ((), ())))))))
     (Option.bind (c_merkle_New ()) (fun (y_3 : ((((List (List Int)) × Unit) × Unit) × Unit)) =>
      (L _ _ (fun again x => T_law8_MerkleAppendOnly_loop0 L c_law0_HashOf c_merkle_Tree_Append c_law0_Mod c_merkle_Tree_Root c_merkle_Tree_Proof c_law0_EqualHashes c_merkle_Tree_Len c_law8_awake again x.1 x.2.1 x.2.2.1 x.2.2.2.1 x.2.2.2.2.1) (v_, (w_, (i_, ((y_3.1.1.1, y_3.1.1.2), ((0 : Int), ())))))))))))

noncomputable def sol_law8_MerkleAppendOnly : F_law8_MerkleAppendOnly := fun x => T_law8_MerkleAppendOnly bigLoop sol_law8_awake sol_merkle_New sol_law0_HashOf sol_merkle_Tree_Append sol_law0_Mod sol_merkle_Tree_Root sol_merkle_Tree_Proof sol_law0_EqualHashes sol_merkle_Tree_Len x.1 x.2.1 x.2.2.1

/-- pontage/pontagelaw8.MerkleCompleteness -/
abbrev s_law8_MerkleCompleteness : Sig := ⟨[(.ro false (.slice (.int .i64))), (.ro true (.int .i64)), (.ro true (.int .i64))], [(.ro true .bool)]⟩
abbrev F_law8_MerkleCompleteness := ((List Int) × (Int × (Int × Unit))) → Option ((Bool × Unit) × (Unit × (Unit × (Unit × Unit))))

noncomputable def T_law8_MerkleCompleteness_loop0 (c_law0_HashOf : F_law0_HashOf) (c_merkle_Tree_Append : F_merkle_Tree_Append) (c_law0_Mod : F_law0_Mod) (c_merkle_Tree_Root : F_merkle_Tree_Root) (c_merkle_Tree_Proof : F_merkle_Tree_Proof) (c_merkle_Verify : F_merkle_Verify) (c_law8_awake : F_law8_awake) (again_3 : ((List Int) × (Int × (Int × (((List (List Int)) × Unit) × (Int × Unit))))) → Option ((Bool × Unit) × (Unit × (Unit × (Unit × Unit))))) (v_4 : (List Int)) (i_5 : Int) (n_6 : Int) (t_7 : ((List (List Int)) × Unit)) (k_8 : Int) : Option ((Bool × Unit) × (Unit × (Unit × (Unit × Unit)))) :=
  (brR (decide (k_8 < (((List.length v_4) : Nat) : Int)))
   (brR (Go.Pon.inR k_8 (List.length v_4))
    (Option.bind (c_law0_HashOf ((List.getD v_4 (Int.toNat k_8) (0 : Int)), ())) (fun (y_9 : (((List Int) × Unit) × (Unit × Unit))) =>
     (Option.bind (c_merkle_Tree_Append ((t_7.1, t_7.2), (y_9.1.1, ()))) (fun (y_10 : ((Int × Unit) × (((List (List Int)) × Unit) × (Unit × Unit)))) =>
      (again_3 (v_4, (i_5, (n_6, ((y_10.2.1.1, y_10.2.1.2), ((Go.IntKind.wrap (Go.IntKind.i64) (k_8 + (1 : Int))), ()))))))))))
    none)
   (Option.bind (c_law0_Mod (n_6, ((((List.length v_4) : Nat) : Int), ()))) (fun (y_11 : ((Int × Unit) × (Unit × (Unit × Unit)))) =>
    (letR (Go.IntKind.wrap (Go.IntKind.i64) ((1 : Int) + y_11.1.1)) fun (v_12 : Int) =>
    (Option.bind (c_law0_Mod (i_5, (v_12, ()))) (fun (y_13 : ((Int × Unit) × (Unit × (Unit × Unit)))) =>
     (Option.bind (c_merkle_Tree_Root ((t_7.1, t_7.2), (v_12, ()))) (fun (y_14 : (((List Int) × (Bool × Unit)) × (((List (List Int)) × Unit) × (Unit × Unit)))) =>
      (Option.bind (c_merkle_Tree_Proof ((y_14.2.1.1, y_14.2.1.2), (y_13.1.1, (v_12, ())))) (fun (y_15 : (((List (List Int)) × (Bool × Unit)) × (((List (List Int)) × Unit) × (Unit × (Unit × Unit))))) =>
       (brR y_14.1.2.1
        (brR y_15.1.2.1
         (brR (Go.Pon.inR y_13.1.1 (List.length v_4))
          (Option.bind (c_law0_HashOf ((List.getD v_4 (Int.toNat y_13.1.1) (0 : Int)), ())) (fun (y_16 : (((List Int) × Unit) × (Unit × Unit))) =>
           (Option.bind (c_merkle_Verify (y_14.1.1, (v_12, (y_13.1.1, (y_16.1.1, (y_15.1.1, ())))))) (fun (y_17 : ((Bool × Unit) × (Unit × (Unit × (Unit × (Unit × (Unit × Unit))))))) =>
            (brR y_17.1.1
             (brR (Go.Pon.inR y_13.1.1 (List.length v_4))
              (Option.bind (c_law0_HashOf ((List.getD v_4 (Int.toNat y_13.1.1) (0 : Int)), ())) (fun (y_18 : (((List Int) × Unit) × (Unit × Unit))) =>
               (Option.bind (c_merkle_Verify (y_14.1.1, (v_12, (v_12, (y_18.1.1, (y_15.1.1, ())))))) (fun (y_19 : ((Bool × Unit) × (Unit × (Unit × (Unit × (Unit × (Unit × Unit))))))) =>
                (brR (!y_19.1.1)
                 (brR (Go.Pon.inR y_13.1.1 (List.length v_4))
                  (Option.bind (c_law0_HashOf ((List.getD v_4 (Int.toNat y_13.1.1) (0 : Int)), ())) (fun (y_20 : (((List Int) × Unit) × (Unit × Unit))) =>
                   (Option.bind (c_merkle_Verify (y_14.1.1, (v_12, ((-1 : Int), (y_20.1.1, (y_15.1.1, ())))))) (fun (y_21 : ((Bool × Unit) × (Unit × (Unit × (Unit × (Unit × (Unit × Unit))))))) =>
                    (brR (!y_21.1.1)
                     (Option.bind (c_law8_awake ()) (fun (y_22 : ((Bool × Unit) × Unit)) =>
                      (some ((y_22.1.1, ()), ((), ((), ((), ())))))))
                     (some ((false, ()), ((), ((), ((), ()))))))))))
                  none)
                 (some ((false, ()), ((), ((), ((), ()))))))))))
              none)
             (some ((false, ()), ((), ((), ((), ()))))))))))
          none)
         (some ((false, ()), ((), ((), ((), ()))))))
        (some ((false, ()), ((), ((), ((), ()))))))))))))))))

noncomputable def T_law8_MerkleCompleteness (L : LoopD) (c_law8_awake : F_law8_awake) (c_merkle_New : F_merkle_New) (c_law0_HashOf : F_law0_HashOf) (c_merkle_Tree_Append : F_merkle_Tree_Append) (c_law0_Mod : F_law0_Mod) (c_merkle_Tree_Root : F_merkle_Tree_Root) (c_merkle_Tree_Proof : F_merkle_Tree_Proof) (c_merkle_Verify : F_merkle_Verify) (v_ : (List Int)) (i_ : Int) (n_ : Int) : Option ((Bool × Unit) × (Unit × (Unit × (Unit × Unit)))) :=
  (brR (decide ((((List.length v_) : Nat) : Int) > (60 : Int)))
   (Option.bind (c_law8_awake ()) (fun (y_0 : ((Bool × Unit) × Unit)) =>
    (some ((y_0.1.1, ()), ((), ((), ((), ())))))))
   (brR (decide ((((List.length v_) : Nat) : Int) = (0 : Int)))
    (Option.bind (c_law8_awake ()) (fun (y_1 : ((Bool × Unit) × Unit)) =>
     (some ((y_1.1.1, ()), ((), ((), ((), ())))))))
    (Option.bind (c_merkle_New ()) (fun (y_2 : ((((List (List Int)) × Unit) × Unit) × Unit)) =>
     (L _ _ (fun again x => T_law8_MerkleCompleteness_loop0 c_law0_HashOf c_merkle_Tree_Append c_law0_Mod c_merkle_Tree_Root c_merkle_Tree_Proof c_merkle_Verify c_law8_awake again x.1 x.2.1 x.2.2.1 x.2.2.2.1 x.2.2.2.2.1) (v_, (i_, (n_, ((y_2.1.1.1, y_2.1.1.2), ((0 : Int), ()))))))))))

noncomputable def sol_law8_MerkleCompleteness : F_law8_MerkleCompleteness := fun x => T_law8_MerkleCompleteness bigLoop sol_law8_awake sol_merkle_New sol_law0_HashOf sol_merkle_Tree_Append sol_law0_Mod sol_merkle_Tree_Root sol_merkle_Tree_Proof sol_merkle_Verify x.1 x.2.1 x.2.2.1

/-- pontage/pontagelaw8.leaves -/
abbrev s_law8_leaves : Sig := ⟨[(.ro false (.slice (.int .i64)))], [(.own true (.arr 32 (.int .u8)))]⟩
abbrev F_law8_leaves := ((List Int) × Unit) → Option (((List (List Int)) × Unit) × (Unit × Unit))

noncomputable def T_law8_leaves_loop0 (c_law0_HashOf : F_law0_HashOf) (again_0 : ((List Int) × ((List (List Int)) × (Int × Unit))) → Option (((List (List Int)) × Unit) × (Unit × Unit))) (v_1 : (List Int)) (out_2 : (List (List Int))) (i_3 : Int) : Option (((List (List Int)) × Unit) × (Unit × Unit)) :=
  (brR (decide (i_3 < (((List.length v_1) : Nat) : Int)))
   (brR (Go.Pon.inR i_3 (List.length v_1))
    (Option.bind (c_law0_HashOf ((List.getD v_1 (Int.toNat i_3) (0 : Int)), ())) (fun (y_4 : (((List Int) × Unit) × (Unit × Unit))) =>
     (brR (Go.Pon.roomy ((List.length out_2) + (1 : Nat)) (Go.Pon.Ty.arr 32 (Go.Pon.Ty.int Go.IntKind.u8)))
      (again_0 (v_1, ((List.append out_2 [y_4.1.1]), ((Go.IntKind.wrap (Go.IntKind.i64) (i_3 + (1 : Int))), ()))))
      none)))
    none)
   (some ((out_2, ()), ((), ()))))

noncomputable def T_law8_leaves (L : LoopD) (c_law0_HashOf : F_law0_HashOf) (v_ : (List Int)) : Option (((List (List Int)) × Unit) × (Unit × Unit)) :=
  (L _ _ (fun again x => T_law8_leaves_loop0 c_law0_HashOf again x.1 x.2.1 x.2.2.1) (v_, (([] : List (List Int)), ((0 : Int), ()))))

noncomputable def sol_law8_leaves : F_law8_leaves := fun x => T_law8_leaves bigLoop sol_law0_HashOf x.1

/-- pontage/pontagelaw8.MerkleProofs -/
abbrev s_law8_MerkleProofs : Sig := ⟨[(.ro false (.slice (.int .i64))), (.ro true (.int .i64)), (.ro true (.int .i64))], [(.ro true .bool)]⟩
abbrev F_law8_MerkleProofs := ((List Int) × (Int × (Int × Unit))) → Option ((Bool × Unit) × (Unit × (Unit × (Unit × Unit))))

noncomputable def T_law8_MerkleProofs_loop1 (c_merkle_Tree_Proof : F_merkle_Tree_Proof) (c_ref8_Proof : F_ref8_Proof) (c_law0_EqualHashes : F_law0_EqualHashes) (c_law0_Mod : F_law0_Mod) (c_law8_awake : F_law8_awake) (again_10 : (Int × (Int × ((List (List Int)) × (((List (List Int)) × Unit) × (Int × Unit))))) → Option ((Bool × Unit) × (Unit × (Unit × (Unit × Unit))))) (i_11 : Int) (n_12 : Int) (l_13 : (List (List Int))) (t_14 : ((List (List Int)) × Unit)) (turn_15 : Int) : Option ((Bool × Unit) × (Unit × (Unit × (Unit × Unit)))) :=
  (letR (((List.length l_13) : Nat) : Int) fun (v_16 : Int) =>
  (brR (decide (turn_15 < (2 : Int)))
   (Option.bind (c_merkle_Tree_Proof ((t_14.1, t_14.2), (i_11, (n_12, ())))) (fun (y_17 : (((List (List Int)) × (Bool × Unit)) × (((List (List Int)) × Unit) × (Unit × (Unit × Unit))))) =>
    (brR (decide (i_11 ≥ (0 : Int)))
     (brR (decide (i_11 < n_12))
      (brR (!(Go.Pon.eqD (Go.Pon.Ty.bool) y_17.1.2.1 (decide (n_12 ≤ v_16))))
       (some ((false, ()), ((), ((), ((), ())))))
       (brR (decide (n_12 ≤ v_16))
        (brR ((decide ((0 : Int) ≤ n_12)) && (decide (n_12 ≤ v_16)))
         (Option.bind (c_ref8_Proof ((List.take ((Int.toNat n_12) - (0 : Nat)) (List.drop (0 : Nat) l_13)), (i_11, ()))) (fun (y_18 : (((List (List Int)) × Unit) × (Unit × (Unit × Unit)))) =>
          (Option.bind (c_law0_EqualHashes (y_17.1.1, (y_18.1.1, ()))) (fun (y_19 : ((Bool × Unit) × (Unit × (Unit × Unit)))) =>
           (brR (!y_19.1.1)
            (some ((false, ()), ((), ((), ((), ())))))
            (brR (!(decide (n_12 ≤ v_16)))
             (brR (decide ((((List.length y_17.1.1) : Nat) : Int) > (0 : Int)))
              (some ((false, ()), ((), ((), ((), ())))))
              (Option.bind (c_law0_Mod (n_12, ((Go.IntKind.wrap (Go.IntKind.i64) (v_16 + (1 : Int))), ()))) (fun (y_20 : ((Int × Unit) × (Unit × (Unit × Unit)))) =>
               (Option.bind (c_law0_Mod (i_11, ((Go.IntKind.wrap (Go.IntKind.i64) (y_20.1.1 + (1 : Int))), ()))) (fun (y_21 : ((Int × Unit) × (Unit × (Unit × Unit)))) =>
                (again_10 (y_21.1.1, (y_20.1.1, (l_13, ((y_17.2.1.1, y_17.2.1.2), ((Go.IntKind.wrap (Go.IntKind.i64) (turn_15 + (1 : Int))), ())))))))))))
             (Option.bind (c_law0_Mod (n_12, ((Go.IntKind.wrap (Go.IntKind.i64) (v_16 + (1 : Int))), ()))) (fun (y_22 : ((Int × Unit) × (Unit × (Unit × Unit)))) =>
              (Option.bind (c_law0_Mod (i_11, ((Go.IntKind.wrap (Go.IntKind.i64) (y_22.1.1 + (1 : Int))), ()))) (fun (y_23 : ((Int × Unit) × (Unit × (Unit × Unit)))) =>
               (again_10 (y_23.1.1, (y_22.1.1, (l_13, ((y_17.2.1.1, y_17.2.1.2), ((Go.IntKind.wrap (Go.IntKind.i64) (turn_15 + (1 : Int))), ()))))))))))))))))
         none)
        (brR (!(decide (n_12 ≤ v_16)))
         (brR (decide ((((List.length y_17.1.1) : Nat) : Int) > (0 : Int)))
          (some ((false, ()), ((), ((), ((), ())))))
          (Option.bind (c_law0_Mod (n_12, ((Go.IntKind.wrap (Go.IntKind.i64) (v_16 + (1 : Int))), ()))) (fun (y_24 : ((Int × Unit) × (Unit × (Unit × Unit)))) =>
           (Option.bind (c_law0_Mod (i_11, ((Go.IntKind.wrap (Go.IntKind.i64) (y_24.1.1 + (1 : Int))), ()))) (fun (y_25 : ((Int × Unit) × (Unit × (Unit × Unit)))) =>
            (again_10 (y_25.1.1, (y_24.1.1, (l_13, ((y_17.2.1.1, y_17.2.1.2), ((Go.IntKind.wrap (Go.IntKind.i64) (turn_15 + (1 : Int))), ())))))))))))
         (Option.bind (c_law0_Mod (n_12, ((Go.IntKind.wrap (Go.IntKind.i64) (v_16 + (1 : Int))), ()))) (fun (y_26 : ((Int × Unit) × (Unit × (Unit × Unit)))) =>
          (Option.bind (c_law0_Mod (i_11, ((Go.IntKind.wrap (Go.IntKind.i64) (y_26.1.1 + (1 : Int))), ()))) (fun (y_27 : ((Int × Unit) × (Unit × (Unit × Unit)))) =>
           (again_10 (y_27.1.1, (y_26.1.1, (l_13, ((y_17.2.1.1, y_17.2.1.2), ((Go.IntKind.wrap (Go.IntKind.i64) (turn_15 + (1 : Int))), ())))))))))))))
      (brR (!(Go.Pon.eqD (Go.Pon.Ty.bool) y_17.1.2.1 false))
       (some ((false, ()), ((), ((), ((), ())))))
       (brR (decide ((((List.length y_17.1.1) : Nat) : Int) > (0 : Int)))
        (some ((false, ()), ((), ((), ((), ())))))
        (Option.bind (c_law0_Mod (n_12, ((Go.IntKind.wrap (Go.IntKind.i64) (v_16 + (1 : Int))), ()))) (fun (y_28 : ((Int × Unit) × (Unit × (Unit × Unit)))) =>
         (Option.bind (c_law0_Mod (i_11, ((Go.IntKind.wrap (Go.IntKind.i64) (y_28.1.1 + (1 : Int))), ()))) (fun (y_29 : ((Int × Unit) × (Unit × (Unit × Unit)))) =>
          (again_10 (y_29.1.1, (y_28.1.1, (l_13, ((y_17.2.1.1, y_17.2.1.2), ((Go.IntKind.wrap (Go.IntKind.i64) (turn_15 + (1 : Int))), ())))))))))))))
     (brR (!(Go.Pon.eqD (Go.Pon.Ty.bool) y_17.1.2.1 false))
      (some ((false, ()), ((), ((), ((), ())))))
      (brR (decide ((((List.length y_17.1.1) : Nat) : Int) > (0 : Int)))
       (some ((false, ()), ((), ((), ((), ())))))
       (Option.bind (c_law0_Mod (n_12, ((Go.IntKind.wrap (Go.IntKind.i64) (v_16 + (1 : Int))), ()))) (fun (y_30 : ((Int × Unit) × (Unit × (Unit × Unit)))) =>
        (Option.bind (c_law0_Mod (i_11, ((Go.IntKind.wrap (Go.IntKind.i64) (y_30.1.1 + (1 : Int))), ()))) (fun (y_31 : ((Int × Unit) × (Unit × (Unit × Unit)))) =>
         (again_10 (y_31.1.1, (y_30.1.1, (l_13, ((y_17.2.1.1, y_17.2.1.2), ((Go.IntKind.wrap (Go.IntKind.i64) (turn_15 + (1 : Int))), ())))))))))))))))
   (Option.bind (c_law8_awake ()) (fun (y_32 : ((Bool × Unit) × Unit)) =>
    (some ((y_32.1.1, ()), ((), ((), ((), ())))))))))

noncomputable def T_law8_MerkleProofs_loop0 (L : LoopD) (c_merkle_Tree_Append : F_merkle_Tree_Append) (c_merkle_Tree_Proof : F_merkle_Tree_Proof) (c_ref8_Proof : F_ref8_Proof) (c_law0_EqualHashes : F_law0_EqualHashes) (c_law0_Mod : F_law0_Mod) (c_law8_awake : F_law8_awake) (again_3 : (Int × (Int × ((List (List Int)) × (((List (List Int)) × Unit) × (Int × Unit))))) → Option ((Bool × Unit) × (Unit × (Unit × (Unit × Unit))))) (i_4 : Int) (n_5 : Int) (l_6 : (List (List Int))) (t_7 : ((List (List Int)) × Unit)) (k_8 : Int) : Option ((Bool × Unit) × (Unit × (Unit × (Unit × Unit)))) :=
  (brR (decide (k_8 < (((List.length l_6) : Nat) : Int)))
   (brR (Go.Pon.inR k_8 (List.length l_6))
    (Option.bind (c_merkle_Tree_Append ((t_7.1, t_7.2), ((List.getD l_6 (Int.toNat k_8) (List.replicate (32 : Nat) (0 : Int))), ()))) (fun (y_9 : ((Int × Unit) × (((List (List Int)) × Unit) × (Unit × Unit)))) =>
     (again_3 (i_4, (n_5, (l_6, ((y_9.2.1.1, y_9.2.1.2), ((Go.IntKind.wrap (Go.IntKind.i64) (k_8 + (1 : Int))), ()))))))))
    none)
   (L _ _ (fun again x => T_law8_MerkleProofs_loop1 c_merkle_Tree_Proof c_ref8_Proof c_law0_EqualHashes c_law0_Mod c_law8_awake again x.1 x.2.1 x.2.2.1 x.2.2.2.1 x.2.2.2.2.1) (i_4, (n_5, (l_6, ((t_7.1, t_7.2), ((0 : Int), ())))))))

noncomputable def T_law8_MerkleProofs (L : LoopD) (c_law8_awake : F_law8_awake) (c_law8_leaves : F_law8_leaves) (c_merkle_New : F_merkle_New) (c_merkle_Tree_Append : F_merkle_Tree_Append) (c_merkle_Tree_Proof : F_merkle_Tree_Proof) (c_ref8_Proof : F_ref8_Proof) (c_law0_EqualHashes : F_law0_EqualHashes) (c_law0_Mod : F_law0_Mod) (v_ : (List Int)) (i_ : Int) (n_ : Int) : Option ((Bool × Unit) × (Unit × (Unit × (Unit × Unit)))) :=
  (brR (decide ((((List.length v_) : Nat) : Int) > (70 : Int)))
   (Option.bind (c_law8_awake ()) (fun (y_0 : ((Bool × Unit) × Unit)) =>
    (some ((y_0.1.1, ()), ((), ((), ((), ())))))))
   (Option.bind (c_law8_leaves (v_, ())) (fun (y_1 : (((List (List Int)) × Unit) × (Unit × Unit))) =>
    (Option.bind (c_merkle_New ()) (fun (y_2 : ((((List (List Int)) × Unit) × Unit) × Unit)) =>
     (L _ _ (fun again x => T_law8_MerkleProofs_loop0 L c_merkle_Tree_Append c_merkle_Tree_Proof c_ref8_Proof c_law0_EqualHashes c_law0_Mod c_law8_awake again x.1 x.2.1 x.2.2.1 x.2.2.2.1 x.2.2.2.2.1) (i_, (n_, (y_1.1.1, ((y_2.1.1.1, y_2.1.1.2), ((0 : Int), ())))))))))))

noncomputable def sol_law8_MerkleProofs : F_law8_MerkleProofs := fun x => T_law8_MerkleProofs bigLoop sol_law8_awake sol_law8_leaves sol_merkle_New sol_merkle_Tree_Append sol_merkle_Tree_Proof sol_ref8_Proof sol_law0_EqualHashes sol_law0_Mod x.1 x.2.1 x.2.2.1

/-- pontage/pontagelaw8.MerkleRoots -/
abbrev s_law8_MerkleRoots : Sig := ⟨[(.ro false (.slice (.arr 32 (.int .u8)))), (.ro true (.int .i64))], [(.ro true .bool)]⟩
abbrev F_law8_MerkleRoots := ((List (List Int)) × (Int × Unit)) → Option ((Bool × Unit) × (Unit × (Unit × Unit)))

noncomputable def T_law8_MerkleRoots_loop1 (c_merkle_Tree_Root : F_merkle_Tree_Root) (c_ref8_RootOf : F_ref8_RootOf) (c_merkle_RootOf : F_merkle_RootOf) (c_law8_awake : F_law8_awake) (again_10 : ((List (List Int)) × (Int × (((List (List Int)) × Unit) × (Int × Unit)))) → Option ((Bool × Unit) × (Unit × (Unit × Unit)))) (l_11 : (List (List Int))) (n_12 : Int) (t_13 : ((List (List Int)) × Unit)) (k_14 : Int) : Option ((Bool × Unit) × (Unit × (Unit × Unit))) :=
  (letR (((List.length l_11) : Nat) : Int) fun (v_15 : Int) =>
  (brR (decide (k_14 ≤ (Go.IntKind.wrap (Go.IntKind.i64) (v_15 + (1 : Int)))))
   (Option.bind (c_merkle_Tree_Root ((t_13.1, t_13.2), (k_14, ()))) (fun (y_16 : (((List Int) × (Bool × Unit)) × (((List (List Int)) × Unit) × (Unit × Unit)))) =>
    (brR (decide (k_14 ≥ (0 : Int)))
     (brR (!(Go.Pon.eqD (Go.Pon.Ty.bool) y_16.1.2.1 (decide (k_14 ≤ v_15))))
      (some ((false, ()), ((), ((), ()))))
      (brR (decide (k_14 ≤ v_15))
       (brR ((decide ((0 : Int) ≤ k_14)) && (decide (k_14 ≤ v_15)))
        (Option.bind (c_ref8_RootOf ((List.take ((Int.toNat k_14) - (0 : Nat)) (List.drop (0 : Nat) l_11)), ())) (fun (y_17 : (((List Int) × Unit) × (Unit × Unit))) =>
         (brR (!(Go.Pon.eqD (Go.Pon.Ty.arr 32 (Go.Pon.Ty.int Go.IntKind.u8)) y_16.1.1 y_17.1.1))
          (some ((false, ()), ((), ((), ()))))
          (brR (!(decide (k_14 ≤ v_15)))
           (brR (!(Go.Pon.eqD (Go.Pon.Ty.arr 32 (Go.Pon.Ty.int Go.IntKind.u8)) y_16.1.1 (List.replicate (32 : Nat) (0 : Int))))
            (some ((false, ()), ((), ((), ()))))
            (again_10 (l_11, (n_12, ((y_16.2.1.1, y_16.2.1.2), ((Go.IntKind.wrap (Go.IntKind.i64) (k_14 + (1 : Int))), ()))))))
           (again_10 (l_11, (n_12, ((y_16.2.1.1, y_16.2.1.2), ((Go.IntKind.wrap (Go.IntKind.i64) (k_14 + (1 : Int))), ())))))))))
        none)
       (brR (!(decide (k_14 ≤ v_15)))
        (brR (!(Go.Pon.eqD (Go.Pon.Ty.arr 32 (Go.Pon.Ty.int Go.IntKind.u8)) y_16.1.1 (List.replicate (32 : Nat) (0 : Int))))
         (some ((false, ()), ((), ((), ()))))
         (again_10 (l_11, (n_12, ((y_16.2.1.1, y_16.2.1.2), ((Go.IntKind.wrap (Go.IntKind.i64) (k_14 + (1 : Int))), ()))))))
        (again_10 (l_11, (n_12, ((y_16.2.1.1, y_16.2.1.2), ((Go.IntKind.wrap (Go.IntKind.i64) (k_14 + (1 : Int))), ()))))))))
     (brR (!(Go.Pon.eqD (Go.Pon.Ty.bool) y_16.1.2.1 false))
      (some ((false, ()), ((), ((), ()))))
      (brR (!(Go.Pon.eqD (Go.Pon.Ty.arr 32 (Go.Pon.Ty.int Go.IntKind.u8)) y_16.1.1 (List.replicate (32 : Nat) (0 : Int))))
       (some ((false, ()), ((), ((), ()))))
       (again_10 (l_11, (n_12, ((y_16.2.1.1, y_16.2.1.2), ((Go.IntKind.wrap (Go.IntKind.i64) (k_14 + (1 : Int))), ()))))))))))
   (Option.bind (c_merkle_Tree_Root ((t_13.1, t_13.2), (n_12, ()))) (fun (y_18 : (((List Int) × (Bool × Unit)) × (((List (List Int)) × Unit) × (Unit × Unit)))) =>
    (brR (decide (n_12 ≥ (0 : Int)))
     (brR (Go.Pon.eqD (Go.Pon.Ty.bool) y_18.1.2.1 (decide (n_12 ≤ v_15)))
      (Option.bind (c_merkle_RootOf (l_11, ())) (fun (y_19 : (((List Int) × Unit) × (Unit × Unit))) =>
       (Option.bind (c_ref8_RootOf (l_11, ())) (fun (y_20 : (((List Int) × Unit) × (Unit × Unit))) =>
        (brR (Go.Pon.eqD (Go.Pon.Ty.arr 32 (Go.Pon.Ty.int Go.IntKind.u8)) y_19.1.1 y_20.1.1)
         (Option.bind (c_law8_awake ()) (fun (y_21 : ((Bool × Unit) × Unit)) =>
          (some ((y_21.1.1, ()), ((), ((), ()))))))
         (some ((false, ()), ((), ((), ())))))))))
      (some ((false, ()), ((), ((), ())))))
     (brR (Go.Pon.eqD (Go.Pon.Ty.bool) y_18.1.2.1 false)
      (Option.bind (c_merkle_RootOf (l_11, ())) (fun (y_22 : (((List Int) × Unit) × (Unit × Unit))) =>
       (Option.bind (c_ref8_RootOf (l_11, ())) (fun (y_23 : (((List Int) × Unit) × (Unit × Unit))) =>
        (brR (Go.Pon.eqD (Go.Pon.Ty.arr 32 (Go.Pon.Ty.int Go.IntKind.u8)) y_22.1.1 y_23.1.1)
         (Option.bind (c_law8_awake ()) (fun (y_24 : ((Bool × Unit) × Unit)) =>
          (some ((y_24.1.1, ()), ((), ((), ()))))))
         (some ((false, ()), ((), ((), ())))))))))
      (some ((false, ()), ((), ((), ()))))))))))

noncomputable def T_law8_MerkleRoots_loop0 (L : LoopD) (c_merkle_Tree_Append : F_merkle_Tree_Append) (c_merkle_Tree_Len : F_merkle_Tree_Len) (c_merkle_Tree_Root : F_merkle_Tree_Root) (c_ref8_RootOf : F_ref8_RootOf) (c_merkle_RootOf : F_merkle_RootOf) (c_law8_awake : F_law8_awake) (again_2 : ((List (List Int)) × (Int × (((List (List Int)) × Unit) × (Int × Unit)))) → Option ((Bool × Unit) × (Unit × (Unit × Unit)))) (l_3 : (List (List Int))) (n_4 : Int) (t_5 : ((List (List Int)) × Unit)) (i_6 : Int) : Option ((Bool × Unit) × (Unit × (Unit × Unit))) :=
  (letR (Go.IntKind.wrap (Go.IntKind.i64) (i_6 + (1 : Int))) fun (v_7 : Int) =>
  (brR (decide (i_6 < (((List.length l_3) : Nat) : Int)))
   (brR (Go.Pon.inR i_6 (List.length l_3))
    (Option.bind (c_merkle_Tree_Append ((t_5.1, t_5.2), ((List.getD l_3 (Int.toNat i_6) (List.replicate (32 : Nat) (0 : Int))), ()))) (fun (y_8 : ((Int × Unit) × (((List (List Int)) × Unit) × (Unit × Unit)))) =>
     (brR (!(decide (y_8.1.1 = i_6)))
      (some ((false, ()), ((), ((), ()))))
      (Option.bind (c_merkle_Tree_Len ((y_8.2.1.1, y_8.2.1.2), ())) (fun (y_9 : ((Int × Unit) × (((List (List Int)) × Unit) × Unit))) =>
       (brR (!(decide (y_9.1.1 = v_7)))
        (some ((false, ()), ((), ((), ()))))
        (again_2 (l_3, (n_4, ((y_9.2.1.1, y_9.2.1.2), (v_7, ())))))))))))
    none)
   (L _ _ (fun again x => T_law8_MerkleRoots_loop1 c_merkle_Tree_Root c_ref8_RootOf c_merkle_RootOf c_law8_awake again x.1 x.2.1 x.2.2.1 x.2.2.2.1) (l_3, (n_4, ((t_5.1, t_5.2), ((-1 : Int), ())))))))

noncomputable def T_law8_MerkleRoots (L : LoopD) (c_law8_awake : F_law8_awake) (c_merkle_New : F_merkle_New) (c_merkle_Tree_Append : F_merkle_Tree_Append) (c_merkle_Tree_Len : F_merkle_Tree_Len) (c_merkle_Tree_Root : F_merkle_Tree_Root) (c_ref8_RootOf : F_ref8_RootOf) (c_merkle_RootOf : F_merkle_RootOf) (l_ : (List (List Int))) (n_ : Int) : Option ((Bool × Unit) × (Unit × (Unit × Unit))) :=
  (brR (decide ((((List.length l_) : Nat) : Int) > (40 : Int)))
   (Option.bind (c_law8_awake ()) (fun (y_0 : ((Bool × Unit) × Unit)) =>
    (some ((y_0.1.1, ()), ((), ((), ()))))))
   (Option.bind (c_merkle_New ()) (fun (y_1 : ((((List (List Int)) × Unit) × Unit) × Unit)) =>
    (L _ _ (fun again x => T_law8_MerkleRoots_loop0 L c_merkle_Tree_Append c_merkle_Tree_Len c_merkle_Tree_Root c_ref8_RootOf c_merkle_RootOf c_law8_awake again x.1 x.2.1 x.2.2.1 x.2.2.2.1) (l_, (n_, ((y_1.1.1.1, y_1.1.1.2), ((0 : Int), ()))))))))

noncomputable def sol_law8_MerkleRoots : F_law8_MerkleRoots := fun x => T_law8_MerkleRoots bigLoop sol_law8_awake sol_merkle_New sol_merkle_Tree_Append sol_merkle_Tree_Len sol_merkle_Tree_Root sol_ref8_RootOf sol_merkle_RootOf x.1 x.2.1

/-- pontage/pontagelaw8.MerkleSubtrees -/
abbrev s_law8_MerkleSubtrees : Sig := ⟨[(.ro false (.slice (.int .i64))), (.ro true (.arr 32 (.int .u8)))], [(.ro true .bool)]⟩
abbrev F_law8_MerkleSubtrees := ((List Int) × ((List Int) × Unit)) → Option ((Bool × Unit) × (Unit × (Unit × Unit)))

noncomputable def T_law8_MerkleSubtrees_loop0 (c_merkle_RootOf : F_merkle_RootOf) (c_hash_Node : F_hash_Node) (c_law8_awake : F_law8_awake) (again_6 : ((List (List Int)) × (Int × Unit)) → Option ((Bool × Unit) × (Unit × (Unit × Unit)))) (l_7 : (List (List Int))) (k_8 : Int) : Option ((Bool × Unit) × (Unit × (Unit × Unit))) :=
  (letR (((List.length l_7) : Nat) : Int) fun (v_9 : Int) =>
  (letR (Go.IntKind.wrap (Go.IntKind.i64) ((2 : Int) * k_8)) fun (v_10 : Int) =>
  (brR (decide (v_10 < v_9))
   (again_6 (l_7, (v_10, ())))
   (Option.bind (c_merkle_RootOf (l_7, ())) (fun (y_11 : (((List Int) × Unit) × (Unit × Unit))) =>
    (brR ((decide ((0 : Int) ≤ k_8)) && (decide (k_8 ≤ v_9)))
     (Option.bind (c_merkle_RootOf ((List.take ((Int.toNat k_8) - (0 : Nat)) (List.drop (0 : Nat) l_7)), ())) (fun (y_12 : (((List Int) × Unit) × (Unit × Unit))) =>
      (brR ((decide ((0 : Int) ≤ k_8)) && (decide (k_8 ≤ v_9)))
       (Option.bind (c_merkle_RootOf ((List.take ((List.length l_7) - (Int.toNat k_8)) (List.drop (Int.toNat k_8) l_7)), ())) (fun (y_13 : (((List Int) × Unit) × (Unit × Unit))) =>
        (Option.bind (c_hash_Node (y_12.1.1, (y_13.1.1, ()))) (fun (y_14 : (((List Int) × Unit) × (Unit × (Unit × Unit)))) =>
         (brR (Go.Pon.eqD (Go.Pon.Ty.arr 32 (Go.Pon.Ty.int Go.IntKind.u8)) y_11.1.1 y_14.1.1)
          (Option.bind (c_law8_awake ()) (fun (y_15 : ((Bool × Unit) × Unit)) =>
           (some ((y_15.1.1, ()), ((), ((), ()))))))
          (some ((false, ()), ((), ((), ())))))))))
       none)))
     none))))))

noncomputable def T_law8_MerkleSubtrees (L : LoopD) (c_law8_awake : F_law8_awake) (c_law8_leaves : F_law8_leaves) (c_merkle_RootOf : F_merkle_RootOf) (c_hash_Node : F_hash_Node) (v_ : (List Int)) (h_ : (List Int)) : Option ((Bool × Unit) × (Unit × (Unit × Unit))) :=
  (letR [h_] fun (v_0 : (List (List Int))) =>
  (brR (decide ((((List.length v_) : Nat) : Int) > (60 : Int)))
   (Option.bind (c_law8_awake ()) (fun (y_1 : ((Bool × Unit) × Unit)) =>
    (some ((y_1.1.1, ()), ((), ((), ()))))))
   (Option.bind (c_law8_leaves (v_, ())) (fun (y_2 : (((List (List Int)) × Unit) × (Unit × Unit))) =>
    (letR (List.append y_2.1.1 v_0) fun (v_3 : (List (List Int))) =>
    (brR (Go.Pon.roomy ((List.length y_2.1.1) + (1 : Nat)) (Go.Pon.Ty.arr 32 (Go.Pon.Ty.int Go.IntKind.u8)))
     (brR (decide ((((List.length v_3) : Nat) : Int) = (1 : Int)))
      (Option.bind (c_merkle_RootOf (v_3, ())) (fun (y_4 : (((List Int) × Unit) × (Unit × Unit))) =>
       (brR (Go.Pon.eqD (Go.Pon.Ty.arr 32 (Go.Pon.Ty.int Go.IntKind.u8)) y_4.1.1 h_)
        (Option.bind (c_law8_awake ()) (fun (y_5 : ((Bool × Unit) × Unit)) =>
         (some ((y_5.1.1, ()), ((), ((), ()))))))
        (some ((false, ()), ((), ((), ())))))))
      (L _ _ (fun again x => T_law8_MerkleSubtrees_loop0 c_merkle_RootOf c_hash_Node c_law8_awake again x.1 x.2.1) (v_3, ((1 : Int), ()))))
     none))))))

noncomputable def sol_law8_MerkleSubtrees : F_law8_MerkleSubtrees := fun x => T_law8_MerkleSubtrees bigLoop sol_law8_awake sol_law8_leaves sol_merkle_RootOf sol_hash_Node x.1 x.2.1

/-- pontage/pontagelaw8.MerkleVerify -/
abbrev s_law8_MerkleVerify : Sig := ⟨[(.ro false (.slice (.int .i64))), (.ro true (.int .i64)), (.ro true (.int .i64)), (.ro true (.arr 32 (.int .u8))), (.ro true (.arr 32 (.int .u8))), (.ro false (.slice (.arr 32 (.int .u8)))), (.ro true (.int .i64)), (.ro true (.int .i64))], [(.ro true .bool)]⟩
abbrev F_law8_MerkleVerify := ((List Int) × (Int × (Int × ((List Int) × ((List Int) × ((List (List Int)) × (Int × (Int × Unit)))))))) → Option ((Bool × Unit) × (Unit × (Unit × (Unit × (Unit × (Unit × (Unit × (Unit × (Unit × Unit)))))))))

noncomputable def T_law8_MerkleVerify (L : LoopD) (c_law8_awake : F_law8_awake) (c_law8_leaves : F_law8_leaves) (c_merkle_Verify : F_merkle_Verify) (c_ref8_Verify : F_ref8_Verify) (c_law0_Mod : F_law0_Mod) (c_ref8_RootOf : F_ref8_RootOf) (c_ref8_Proof : F_ref8_Proof) (v_ : (List Int)) (i_ : Int) (n_ : Int) (root_ : (List Int)) (leaf_ : (List Int)) (proof_ : (List (List Int))) (how_ : Int) (at_ : Int) : Option ((Bool × Unit) × (Unit × (Unit × (Unit × (Unit × (Unit × (Unit × (Unit × (Unit × Unit))))))))) :=
  (letR [leaf_] fun (v_0 : (List (List Int))) =>
  (brR (decide ((((List.length v_) : Nat) : Int) > (40 : Int)))
   (Option.bind (c_law8_awake ()) (fun (y_1 : ((Bool × Unit) × Unit)) =>
    (some ((y_1.1.1, ()), ((), ((), ((), ((), ((), ((), ((), ((), ()))))))))))))
   (brR (decide ((((List.length v_) : Nat) : Int) = (0 : Int)))
    (Option.bind (c_law8_awake ()) (fun (y_2 : ((Bool × Unit) × Unit)) =>
     (some ((y_2.1.1, ()), ((), ((), ((), ((), ((), ((), ((), ((), ()))))))))))))
    (brR (decide ((((List.length proof_) : Nat) : Int) > (40 : Int)))
     (Option.bind (c_law8_awake ()) (fun (y_3 : ((Bool × Unit) × Unit)) =>
      (some ((y_3.1.1, ()), ((), ((), ((), ((), ((), ((), ((), ((), ()))))))))))))
     (Option.bind (c_law8_leaves (v_, ())) (fun (y_4 : (((List (List Int)) × Unit) × (Unit × Unit))) =>
      (letR (List.length y_4.1.1) fun (v_5 : Nat) =>
      (letR ((v_5 : Nat) : Int) fun (v_6 : Int) =>
      (letR (List.drop (0 : Nat) y_4.1.1) fun (v_7 : (List (List Int))) =>
      (Option.bind (c_merkle_Verify (root_, (n_, (i_, (leaf_, (proof_, ())))))) (fun (y_8 : ((Bool × Unit) × (Unit × (Unit × (Unit × (Unit × (Unit × Unit))))))) =>
       (Option.bind (c_ref8_Verify (root_, (n_, (i_, (leaf_, (proof_, ())))))) (fun (y_9 : ((Bool × Unit) × (Unit × (Unit × (Unit × (Unit × (Unit × Unit))))))) =>
        (brR (!(Go.Pon.eqD (Go.Pon.Ty.bool) y_8.1.1 y_9.1.1))
         (some ((false, ()), ((), ((), ((), ((), ((), ((), ((), ((), ()))))))))))
         (Option.bind (c_law0_Mod (n_, (v_6, ()))) (fun (y_10 : ((Int × Unit) × (Unit × (Unit × Unit)))) =>
          (letR (Go.IntKind.wrap (Go.IntKind.i64) ((1 : Int) + y_10.1.1)) fun (v_11 : Int) =>
          (letR (List.take ((Int.toNat v_11) - (0 : Nat)) v_7) fun (v_12 : (List (List Int))) =>
          (Option.bind (c_law0_Mod (i_, (v_11, ()))) (fun (y_13 : ((Int × Unit) × (Unit × (Unit × Unit)))) =>
           (letR (List.getD y_4.1.1 (Int.toNat y_13.1.1) (List.replicate (32 : Nat) (0 : Int))) fun (v_14 : (List Int)) =>
           (brR ((decide ((0 : Int) ≤ v_11)) && (decide (v_11 ≤ v_6)))
            (Option.bind (c_ref8_RootOf (v_12, ())) (fun (y_15 : (((List Int) × Unit) × (Unit × Unit))) =>
             (brR (Go.Pon.inR y_13.1.1 v_5)
              (brR ((decide ((0 : Int) ≤ v_11)) && (decide (v_11 ≤ v_6)))
               (Option.bind (c_ref8_Proof (v_12, (y_13.1.1, ()))) (fun (y_16 : (((List (List Int)) × Unit) × (Unit × (Unit × Unit)))) =>
                (letR (List.length y_16.1.1) fun (v_17 : Nat) =>
                (letR ((v_17 : Nat) : Int) fun (v_18 : Int) =>
                (Option.bind (c_law0_Mod (how_, ((7 : Int), ()))) (fun (y_19 : ((Int × Unit) × (Unit × (Unit × Unit)))) =>
                 (brR (decide (y_19.1.1 = (0 : Int)))
                  (Option.bind (c_merkle_Verify (y_15.1.1, (v_11, (y_13.1.1, (leaf_, (y_16.1.1, ())))))) (fun (y_20 : ((Bool × Unit) × (Unit × (Unit × (Unit × (Unit × (Unit × Unit))))))) =>
                   (Option.bind (c_ref8_Verify (y_15.1.1, (v_11, (y_13.1.1, (leaf_, (y_16.1.1, ())))))) (fun (y_21 : ((Bool × Unit) × (Unit × (Unit × (Unit × (Unit × (Unit × Unit))))))) =>
                    (brR (Go.Pon.eqD (Go.Pon.Ty.bool) y_20.1.1 y_21.1.1)
                     (Option.bind (c_law8_awake ()) (fun (y_22 : ((Bool × Unit) × Unit)) =>
                      (some ((y_22.1.1, ()), ((), ((), ((), ((), ((), ((), ((), ((), ()))))))))))))
                     (some ((false, ()), ((), ((), ((), ((), ((), ((), ((), ((), ())))))))))))))))
                  (brR (decide (y_19.1.1 = (1 : Int)))
                   (Option.bind (c_merkle_Verify (root_, (v_11, (y_13.1.1, (v_14, (y_16.1.1, ())))))) (fun (y_23 : ((Bool × Unit) × (Unit × (Unit × (Unit × (Unit × (Unit × Unit))))))) =>
                    (Option.bind (c_ref8_Verify (root_, (v_11, (y_13.1.1, (v_14, (y_16.1.1, ())))))) (fun (y_24 : ((Bool × Unit) × (Unit × (Unit × (Unit × (Unit × (Unit × Unit))))))) =>
                     (brR (Go.Pon.eqD (Go.Pon.Ty.bool) y_23.1.1 y_24.1.1)
                      (Option.bind (c_law8_awake ()) (fun (y_25 : ((Bool × Unit) × Unit)) =>
                       (some ((y_25.1.1, ()), ((), ((), ((), ((), ((), ((), ((), ((), ()))))))))))))
                      (some ((false, ()), ((), ((), ((), ((), ((), ((), ((), ((), ())))))))))))))))
                   (brR (decide (y_19.1.1 = (2 : Int)))
                    (brR (Go.Pon.roomy (v_17 + (1 : Nat)) (Go.Pon.Ty.arr 32 (Go.Pon.Ty.int Go.IntKind.u8)))
                     (Option.bind (c_merkle_Verify (y_15.1.1, (v_11, (y_13.1.1, (v_14, ((List.append y_16.1.1 v_0), ())))))) (fun (y_26 : ((Bool × Unit) × (Unit × (Unit × (Unit × (Unit × (Unit × Unit))))))) =>
                      (Option.bind (c_ref8_Verify (y_15.1.1, (v_11, (y_13.1.1, (v_14, ((List.append y_16.1.1 v_0), ())))))) (fun (y_27 : ((Bool × Unit) × (Unit × (Unit × (Unit × (Unit × (Unit × Unit))))))) =>
                       (brR (Go.Pon.eqD (Go.Pon.Ty.bool) y_26.1.1 y_27.1.1)
                        (Option.bind (c_law8_awake ()) (fun (y_28 : ((Bool × Unit) × Unit)) =>
                         (some ((y_28.1.1, ()), ((), ((), ((), ((), ((), ((), ((), ((), ()))))))))))))
                        (some ((false, ()), ((), ((), ((), ((), ((), ((), ((), ((), ())))))))))))))))
                     none)
                    (brR (decide (y_19.1.1 = (3 : Int)))
                     (brR (decide (v_18 > (0 : Int)))
                      (brR (decide ((1 : Int) ≤ v_18))
                       (Option.bind (c_merkle_Verify (y_15.1.1, (v_11, (y_13.1.1, (v_14, ((List.take (v_17 - (1 : Nat)) (List.drop (1 : Nat) y_16.1.1)), ())))))) (fun (y_29 : ((Bool × Unit) × (Unit × (Unit × (Unit × (Unit × (Unit × Unit))))))) =>
                        (Option.bind (c_ref8_Verify (y_15.1.1, (v_11, (y_13.1.1, (v_14, ((List.take (v_17 - (1 : Nat)) (List.drop (1 : Nat) y_16.1.1)), ())))))) (fun (y_30 : ((Bool × Unit) × (Unit × (Unit × (Unit × (Unit × (Unit × Unit))))))) =>
                         (brR (Go.Pon.eqD (Go.Pon.Ty.bool) y_29.1.1 y_30.1.1)
                          (Option.bind (c_law8_awake ()) (fun (y_31 : ((Bool × Unit) × Unit)) =>
                           (some ((y_31.1.1, ()), ((), ((), ((), ((), ((), ((), ((), ((), ()))))))))))))
                          (some ((false, ()), ((), ((), ((), ((), ((), ((), ((), ((), ())))))))))))))))
                       none)
                      (Option.bind (c_merkle_Verify (y_15.1.1, (v_11, (y_13.1.1, (v_14, (y_16.1.1, ())))))) (fun (y_32 : ((Bool × Unit) × (Unit × (Unit × (Unit × (Unit × (Unit × Unit))))))) =>
                       (Option.bind (c_ref8_Verify (y_15.1.1, (v_11, (y_13.1.1, (v_14, (y_16.1.1, ())))))) (fun (y_33 : ((Bool × Unit) × (Unit × (Unit × (Unit × (Unit × (Unit × Unit))))))) =>
                        (brR (Go.Pon.eqD (Go.Pon.Ty.bool) y_32.1.1 y_33.1.1)
                         (Option.bind (c_law8_awake ()) (fun (y_34 : ((Bool × Unit) × Unit)) =>
                          (some ((y_34.1.1, ()), ((), ((), ((), ((), ((), ((), ((), ((), ()))))))))))))
                         (some ((false, ()), ((), ((), ((), ((), ((), ((), ((), ((), ()))))))))))))))))
                     (brR (decide (y_19.1.1 = (4 : Int)))
                      (brR (decide (v_18 > (0 : Int)))
                       (Option.bind (c_law0_Mod (at_, (v_18, ()))) (fun (y_35 : ((Int × Unit) × (Unit × (Unit × Unit)))) =>
                        (brR (Go.Pon.inR y_35.1.1 v_17)
                         (Option.bind (c_merkle_Verify (y_15.1.1, (v_11, (y_13.1.1, (v_14, ((List.set y_16.1.1 (Int.toNat y_35.1.1) leaf_), ())))))) (fun (y_36 : ((Bool × Unit) × (Unit × (Unit × (Unit × (Unit × (Unit × Unit))))))) =>
                          (Option.bind (c_ref8_Verify (y_15.1.1, (v_11, (y_13.1.1, (v_14, ((List.set y_16.1.1 (Int.toNat y_35.1.1) leaf_), ())))))) (fun (y_37 : ((Bool × Unit) × (Unit × (Unit × (Unit × (Unit × (Unit × Unit))))))) =>
                           (brR (Go.Pon.eqD (Go.Pon.Ty.bool) y_36.1.1 y_37.1.1)
                            (Option.bind (c_law8_awake ()) (fun (y_38 : ((Bool × Unit) × Unit)) =>
                             (some ((y_38.1.1, ()), ((), ((), ((), ((), ((), ((), ((), ((), ()))))))))))))
                            (some ((false, ()), ((), ((), ((), ((), ((), ((), ((), ((), ())))))))))))))))
                         none)))
                       (Option.bind (c_merkle_Verify (y_15.1.1, (v_11, (y_13.1.1, (v_14, (y_16.1.1, ())))))) (fun (y_39 : ((Bool × Unit) × (Unit × (Unit × (Unit × (Unit × (Unit × Unit))))))) =>
                        (Option.bind (c_ref8_Verify (y_15.1.1, (v_11, (y_13.1.1, (v_14, (y_16.1.1, ())))))) (fun (y_40 : ((Bool × Unit) × (Unit × (Unit × (Unit × (Unit × (Unit × Unit))))))) =>
                         (brR (Go.Pon.eqD (Go.Pon.Ty.bool) y_39.1.1 y_40.1.1)
                          (Option.bind (c_law8_awake ()) (fun (y_41 : ((Bool × Unit) × Unit)) =>
                           (some ((y_41.1.1, ()), ((), ((), ((), ((), ((), ((), ((), ((), ()))))))))))))
                          (some ((false, ()), ((), ((), ((), ((), ((), ((), ((), ((), ()))))))))))))))))
                      (brR (decide (y_19.1.1 = (5 : Int)))
                       (Option.bind (c_law0_Mod (at_, ((Go.IntKind.wrap (Go.IntKind.i64) (v_6 + (2 : Int))), ()))) (fun (y_42 : ((Int × Unit) × (Unit × (Unit × Unit)))) =>
                        (Option.bind (c_merkle_Verify (y_15.1.1, (v_11, ((Go.IntKind.wrap (Go.IntKind.i64) (y_42.1.1 - (1 : Int))), (v_14, (y_16.1.1, ())))))) (fun (y_43 : ((Bool × Unit) × (Unit × (Unit × (Unit × (Unit × (Unit × Unit))))))) =>
                         (Option.bind (c_ref8_Verify (y_15.1.1, (v_11, ((Go.IntKind.wrap (Go.IntKind.i64) (y_42.1.1 - (1 : Int))), (v_14, (y_16.1.1, ())))))) (fun (y_44 : ((Bool × Unit) × (Unit × (Unit × (Unit × (Unit × (Unit × Unit))))))) =>
                          (brR (Go.Pon.eqD (Go.Pon.Ty.bool) y_43.1.1 y_44.1.1)
                           (Option.bind (c_law8_awake ()) (fun (y_45 : ((Bool × Unit) × Unit)) =>
                            (some ((y_45.1.1, ()), ((), ((), ((), ((), ((), ((), ((), ((), ()))))))))))))
                           (some ((false, ()), ((), ((), ((), ((), ((), ((), ((), ((), ())))))))))))))))))
                       (brR (decide (y_19.1.1 = (6 : Int)))
                        (Option.bind (c_law0_Mod (at_, ((Go.IntKind.wrap (Go.IntKind.i64) (v_6 + (2 : Int))), ()))) (fun (y_46 : ((Int × Unit) × (Unit × (Unit × Unit)))) =>
                         (Option.bind (c_merkle_Verify (y_15.1.1, (y_46.1.1, (y_13.1.1, (v_14, (y_16.1.1, ())))))) (fun (y_47 : ((Bool × Unit) × (Unit × (Unit × (Unit × (Unit × (Unit × Unit))))))) =>
                          (Option.bind (c_ref8_Verify (y_15.1.1, (y_46.1.1, (y_13.1.1, (v_14, (y_16.1.1, ())))))) (fun (y_48 : ((Bool × Unit) × (Unit × (Unit × (Unit × (Unit × (Unit × Unit))))))) =>
                           (brR (Go.Pon.eqD (Go.Pon.Ty.bool) y_47.1.1 y_48.1.1)
                            (Option.bind (c_law8_awake ()) (fun (y_49 : ((Bool × Unit) × Unit)) =>
                             (some ((y_49.1.1, ()), ((), ((), ((), ((), ((), ((), ((), ((), ()))))))))))))
                            (some ((false, ()), ((), ((), ((), ((), ((), ((), ((), ((), ())))))))))))))))))
                        (Option.bind (c_merkle_Verify (y_15.1.1, (v_11, (y_13.1.1, (v_14, (y_16.1.1, ())))))) (fun (y_50 : ((Bool × Unit) × (Unit × (Unit × (Unit × (Unit × (Unit × Unit))))))) =>
                         (Option.bind (c_ref8_Verify (y_15.1.1, (v_11, (y_13.1.1, (v_14, (y_16.1.1, ())))))) (fun (y_51 : ((Bool × Unit) × (Unit × (Unit × (Unit × (Unit × (Unit × Unit))))))) =>
                          (brR (Go.Pon.eqD (Go.Pon.Ty.bool) y_50.1.1 y_51.1.1)
                           (Option.bind (c_law8_awake ()) (fun (y_52 : ((Bool × Unit) × Unit)) =>
                            (some ((y_52.1.1, ()), ((), ((), ((), ((), ((), ((), ((), ((), ()))))))))))))
                           (some ((false, ()), ((), ((), ((), ((), ((), ((), ((), ((), ()))))))))))))))))))))))))))))
               none)
              none)))
            none))))))))))))))))))))))

noncomputable def sol_law8_MerkleVerify : F_law8_MerkleVerify := fun x => T_law8_MerkleVerify bigLoop sol_law8_awake sol_law8_leaves sol_merkle_Verify sol_ref8_Verify sol_law0_Mod sol_ref8_RootOf sol_ref8_Proof x.1 x.2.1 x.2.2.1 x.2.2.2.1 x.2.2.2.2.1 x.2.2.2.2.2.1 x.2.2.2.2.2.2.1 x.2.2.2.2.2.2.2.1

end Go.Pon
/-
  Plain lemmas: branches, loops, numbers of a kind, lists.
-/
set_option autoImplicit false
set_option linter.unusedVariables false
namespace Go.Pon
open Go

/-! ### Branches -/

theorem brR_ite {α : Type} (c : Bool) (t e : Option α) : brR c t e = if c = true then t else e := by cases c <;> rfl
theorem brR_dec {α : Type} (p : Prop) [Decidable p] (t e : Option α) : brR (decide p) t e = if p then t else e := by
  rw [brR_ite]; by_cases h : p <;> simp [h]
theorem brR_not {α : Type} (c : Bool) (t e : Option α) : brR (!c) t e = brR c e t := by cases c <;> rfl
theorem brR_and {α : Type} (a b : Bool) (t e : Option α) : brR (a && b) t e = brR a (brR b t e) e := by cases a <;> rfl
theorem brR_or {α : Type} (a b : Bool) (t e : Option α) : brR (a || b) t e = brR a t (brR b t e) := by cases a <;> rfl
theorem brR_inR {α : Type} (i : Int) (n : Nat) (t e : Option α) : brR (inR i n) t e = if 0 ≤ i ∧ i < n then t else e := by
  unfold inR; rw [brR_and, brR_dec, brR_dec]; by_cases h1 : 0 ≤ i <;> by_cases h2 : i < n <;> simp [h1, h2]

theorem bind_some' {α β : Type} (a : α) (f : α → Option β) : Option.bind (some a) f = f a := rfl

/-- Room for so many elements. -/
theorem roomy_dec {n : Nat} {t : Ty} : roomy n t = decide (0 < t.size ∧ n * (24 * t.size) ≤ 140737488355328) := by
  unfold roomy
  by_cases h : 0 < t.size
  · simp [h]
  · simp [h]

theorem brR_roomy {α : Type} (n : Nat) (t : Ty) (a b : Option α) : brR (roomy n t) a b = if 0 < t.size ∧ n * (24 * t.size) ≤ 140737488355328 then a else b := by
  rw [roomy_dec, brR_dec]

/-! ### Loops -/

/-- A loop's result, by an invariant, a measure and a guess that each round keeps. -/
theorem bigLoop_rule {ω δ : Type} {round : (δ → Option ω) → δ → Option ω} (I : δ → Prop) (m : δ → Nat) (g : δ → Option ω)
    (h : ∀ x (again : δ → Option ω), I x → (∀ y, I y → m y < m x → again y = g y) → round again x = g x) {x : δ} (hx : I x) (hm : m x < bigN) : bigLoop ω δ round x = g x := by
  have key : ∀ n x, I x → m x < n → loopN round n x = g x := by
    intro n
    induction n with
    | zero => intro x _ hm; omega
    | succ n ih =>
      intro x hx hm
      rw [loopN_succ]
      exact h x _ hx fun y hy hlt => ih y hy (by omega)
  rw [bigLoop_def]
  exact key bigN x hx hm

theorem bigN_eq : bigN = 18446744073709551616 := rfl

/-- So many rounds, one by one. -/
theorem bigLoop_add {ω δ : Type} {round : (δ → Option ω) → δ → Option ω} (k : Nat) (hk : k ≤ bigN) (x : δ) : ∃ n, bigLoop ω δ round x = loopN round (n + k) x :=
  ⟨bigN - k, by rw [Nat.sub_add_cancel hk, bigLoop_def]⟩

/-! ### Numbers of a kind -/

theorem w_i64 {n : Int} (h1 : -9223372036854775808 ≤ n) (h2 : n ≤ 9223372036854775807) : IntKind.i64.wrap n = n := by rw [IntKind.wrap_i64]; omega
theorem w_u64 {n : Int} (h1 : 0 ≤ n) (h2 : n ≤ 18446744073709551615) : IntKind.u64.wrap n = n := by rw [IntKind.wrap_u64]; omega
theorem w_u32 {n : Int} (h1 : 0 ≤ n) (h2 : n ≤ 4294967295) : IntKind.u32.wrap n = n := by rw [IntKind.wrap_u32]; omega
theorem w_u16 {n : Int} (h1 : 0 ≤ n) (h2 : n ≤ 65535) : IntKind.u16.wrap n = n := by rw [IntKind.wrap_u16]; omega
theorem w_u8 {n : Int} (h1 : 0 ≤ n) (h2 : n ≤ 255) : IntKind.u8.wrap n = n := by rw [IntKind.wrap_u8]; omega

theorem tdiv_pos {a b : Int} (h : 0 ≤ a) : Int.tdiv a b = a / b := Int.tdiv_eq_ediv_of_nonneg h
theorem tmod_pos {a b : Int} (h : 0 ≤ a) : Int.tmod a b = a % b := Int.tmod_eq_emod_of_nonneg h

theorem inK_u64 {n : Int} : inK .u64 n ↔ 0 ≤ n ∧ n ≤ 18446744073709551615 := by simp [inK, IntKind.min, IntKind.max, IntKind.signed, IntKind.bits]
theorem inK_u8 {n : Int} : inK .u8 n ↔ 0 ≤ n ∧ n ≤ 255 := by simp [inK, IntKind.min, IntKind.max, IntKind.signed, IntKind.bits]
theorem inK_u16 {n : Int} : inK .u16 n ↔ 0 ≤ n ∧ n ≤ 65535 := by simp [inK, IntKind.min, IntKind.max, IntKind.signed, IntKind.bits]
theorem inK_u32 {n : Int} : inK .u32 n ↔ 0 ≤ n ∧ n ≤ 4294967295 := by simp [inK, IntKind.min, IntKind.max, IntKind.signed, IntKind.bits]
theorem inK_i64 {n : Int} : inK .i64 n ↔ -9223372036854775808 ≤ n ∧ n ≤ 9223372036854775807 := by simp [inK, IntKind.min, IntKind.max, IntKind.signed, IntKind.bits]

/-! ### Equality of data -/

theorem eqD_dec (t : Ty) (x y : t.den) [Decidable (x = y)] : eqD t x y = decide (x = y) := by
  rw [Bool.eq_iff_iff, eqD_iff]; simp

theorem brR_eqD {α : Type} (t : Ty) (x y : t.den) [Decidable (x = y)] (a b : Option α) : brR (eqD t x y) a b = if x = y then a else b := by rw [eqD_dec, brR_dec]

/-! ### Lists -/

theorem getD_mem {α : Type} {l : List α} {i : Nat} {d : α} (h : i < l.length) : List.getD l i d ∈ l := by
  rw [List.getD_eq_getElem?_getD, List.getElem?_eq_getElem h]; simp

theorem getD_all {p : Int → Prop} {l : List Int} (h : ∀ x ∈ l, p x) (h0 : p 0) (i : Nat) : p (List.getD l i 0) := by
  rcases Nat.lt_or_ge i l.length with hi | hi
  · exact h _ (getD_mem hi)
  · rw [List.getD_eq_getElem?_getD, List.getElem?_eq_none hi]; exact h0

theorem append_def {α : Type} (l m : List α) : List.append l m = l ++ m := rfl

end Go.Pon
/-
  Plain lemmas: numbers in four limbs, their bytes, their length in bits.
-/
set_option autoImplicit false
set_option linter.unusedVariables false
namespace Go.Pon
open Go

/-! ### The length in bits -/

def bitlen (n : Nat) : Nat := if n = 0 then 0 else Nat.log2 n + 1

theorem bitlen_zero : bitlen 0 = 0 := rfl

theorem lt_bitlen (n : Nat) : n < 2 ^ bitlen n := by
  unfold bitlen
  by_cases h : n = 0
  · subst h; simp
  · rw [if_neg h]; exact Nat.lt_log2_self

theorem bitlen_le {n b : Nat} : bitlen n ≤ b ↔ n < 2 ^ b := by
  unfold bitlen
  by_cases h : n = 0
  · subst h; simp [Nat.two_pow_pos]
  · rw [if_neg h, Nat.succ_le_iff, Nat.log2_lt h]

theorem bitlen_pos {n : Nat} : 0 < bitlen n ↔ n ≠ 0 := by
  unfold bitlen
  by_cases h : n = 0 <;> simp [h]

/-- The one length that fits. -/
theorem bitlen_eq {n b : Nat} (h1 : n < 2 ^ b) (h2 : ∀ c, c < b → 2 ^ c ≤ n) : bitlen n = b := by
  rcases Nat.lt_trichotomy (bitlen n) b with h | h | h
  · have := h2 _ h
    have := lt_bitlen n
    omega
  · exact h
  · have := bitlen_le.2 h1
    omega

theorem bitlen_div {n k : Nat} (h : 2 ^ k ≤ n) : bitlen n = k + bitlen (n / 2 ^ k) := by
  have hpos : 0 < 2 ^ k := Nat.two_pow_pos k
  have h1 : n / 2 ^ k ≠ 0 := by
    have : 1 ≤ n / 2 ^ k := (Nat.le_div_iff_mul_le hpos).2 (by omega)
    omega
  refine bitlen_eq ?_ fun c hc => ?_
  · have := lt_bitlen (n / 2 ^ k)
    rw [Nat.div_lt_iff_lt_mul hpos, ← Nat.pow_add] at this
    rwa [Nat.add_comm] at this
  · rcases Nat.lt_or_ge c k with hck | hck
    · exact Nat.le_trans (Nat.pow_le_pow_right (by omega) (by omega)) h
    · have h2 : ¬ (n / 2 ^ k) < 2 ^ (c - k) := fun hh => by
        have := bitlen_le.2 hh
        omega
      have h3 : 2 ^ (c - k) ≤ n / 2 ^ k := by omega
      rw [Nat.le_div_iff_mul_le hpos, ← Nat.pow_add] at h3
      rwa [Nat.sub_add_cancel hck] at h3

/-! ### Four limbs -/

def lim (n : Nat) : List Int := [((n % 18446744073709551616 : Nat) : Int), ((n / 18446744073709551616 % 18446744073709551616 : Nat) : Int), ((n / 340282366920938463463374607431768211456 % 18446744073709551616 : Nat) : Int), ((n / 6277101735386680763835789423207666416102355444464034512896 : Nat) : Int)]

/-- The number that four limbs hold. -/
def val4 (l : List Int) : Nat := (l.getD 0 0).toNat + (l.getD 1 0).toNat * 18446744073709551616 + (l.getD 2 0).toNat * 340282366920938463463374607431768211456 + (l.getD 3 0).toNat * 6277101735386680763835789423207666416102355444464034512896

theorem val4_lim {n : Nat} : val4 (lim n) = n := by
  simp only [val4, lim, List.getD_cons_zero, List.getD_cons_succ, Int.toNat_natCast]
  omega

theorem lim_inj {n m : Nat} : lim n = lim m ↔ n = m := ⟨fun h => by rw [← val4_lim (n := n), h, val4_lim], fun h => by rw [h]⟩

theorem len_lim {n : Nat} : (lim n).length = 4 := rfl

theorem list4 {α : Type} {l : List α} (h : l.length = 4) : ∃ a b c d, l = [a, b, c, d] := by
  match l, h with
  | [a, b, c, d], _ => exact ⟨a, b, c, d, rfl⟩

/-- Whatever four limbs hold is a number. -/
theorem u256_wf {l : List Int} (h : (Ty.arr 4 (.int .u64)).wf l) : ∃ n, n < 115792089237316195423570985008687907853269984665640564039457584007913129639936 ∧ l = lim n := by
  obtain ⟨h1, h2⟩ := h
  obtain ⟨a, b, c, d, rfl⟩ := list4 (α := Int) h1
  have ha := inK_u64.1 (h2 a (by simp))
  have hb := inK_u64.1 (h2 b (by simp))
  have hc := inK_u64.1 (h2 c (by simp))
  have hd := inK_u64.1 (h2 d (by simp))
  refine ⟨a.toNat + b.toNat * 18446744073709551616 + c.toNat * 340282366920938463463374607431768211456 + d.toNat * 6277101735386680763835789423207666416102355444464034512896, by omega, ?_⟩
  simp only [lim, List.cons.injEq, and_true]
  refine ⟨?_, ?_, ?_, ?_⟩ <;> omega

theorem lim_small {x : Int} (h1 : 0 ≤ x) (h2 : x ≤ 18446744073709551615) : ([x, 0, 0, 0] : List Int) = lim x.toNat := by
  simp only [lim, List.cons.injEq, and_true]
  refine ⟨?_, ?_, ?_, ?_⟩ <;> omega

theorem lim_zero : lim 0 = [0, 0, 0, 0] := rfl

/-- Limb i. -/
theorem lim_getD {n i : Nat} (hn : n < 115792089237316195423570985008687907853269984665640564039457584007913129639936) (hi : i < 4) : (lim n).getD i 0 = ((n / 18446744073709551616 ^ i % 18446744073709551616 : Nat) : Int) := by
  match i, hi with
  | 0, _ => simp [lim]
  | 1, _ => simp [lim]
  | 2, _ => simp [lim]
  | 3, _ =>
    simp only [lim, List.getD_cons_zero, List.getD_cons_succ]
    have : n / 6277101735386680763835789423207666416102355444464034512896 % 18446744073709551616 = n / 6277101735386680763835789423207666416102355444464034512896 := Nat.mod_eq_of_lt (by omega)
    rw [show (18446744073709551616 : Nat) ^ 3 = 6277101735386680763835789423207666416102355444464034512896 from rfl, this]

/-! ### Bytes -/

/-- k bytes, the greatest first. -/
def beB : Nat → Nat → List Int
  | 0, _ => []
  | k + 1, n => ((n / 256 ^ k % 256 : Nat) : Int) :: beB k n

theorem len_beB : ∀ {k n : Nat}, (beB k n).length = k
  | 0, _ => rfl
  | k + 1, n => by simp [beB, len_beB]

theorem beB_byte : ∀ {k n : Nat}, ∀ x ∈ beB k n, 0 ≤ x ∧ x ≤ 255
  | 0, _, x, h => by simp [beB] at h
  | k + 1, n, x, h => by
    rcases List.mem_cons.1 h with rfl | h
    · have := Nat.mod_lt (n / 256 ^ k) (show 0 < 256 by omega)
      omega
    · exact beB_byte x h

/-- How many bytes count. -/
def bylen (n : Nat) : Nat := (bitlen n + 7) / 8

theorem pow256 (k : Nat) : 256 ^ k = 2 ^ (8 * k) := by rw [show (256 : Nat) = 2 ^ 8 from rfl, ← Nat.pow_mul]

theorem bylen_le {n k : Nat} : bylen n ≤ k ↔ n < 256 ^ k := by
  rw [pow256, ← bitlen_le]; unfold bylen; omega

theorem bylen_256 {n : Nat} (h : n < 115792089237316195423570985008687907853269984665640564039457584007913129639936) : bylen n ≤ 32 := bylen_le.2 h
theorem bylen_64 {n : Nat} (h : n < 18446744073709551616) : bylen n ≤ 8 := bylen_le.2 h

theorem bylen_pos {n : Nat} : 0 < bylen n ↔ n ≠ 0 := by
  have := @bitlen_pos n
  unfold bylen; omega

theorem bylen_zero : bylen 0 = 0 := rfl

/-- The number of bytes. -/
def beV (l : List Int) : Nat := l.foldl (fun v x => v * 256 + x.toNat) 0

theorem beV_append (l : List Int) (x : Int) : beV (l ++ [x]) = beV l * 256 + x.toNat := by simp [beV]
theorem beV_nil : beV [] = 0 := rfl

theorem snoc_ind {α : Type} {motive : List α → Prop} (l : List α) (nil : motive []) (append : ∀ l x, motive l → motive (l ++ [x])) : motive l := by
  have : motive l.reverse.reverse := by
    induction l.reverse with
    | nil => exact nil
    | cons a m ih => rw [List.reverse_cons]; exact append _ _ ih
  simpa using this

theorem beV_lt (l : List Int) : (∀ x ∈ l, 0 ≤ x ∧ x ≤ 255) → beV l < 256 ^ l.length := by
  refine snoc_ind (motive := fun l => (∀ x ∈ l, 0 ≤ x ∧ x ≤ 255) → beV l < 256 ^ l.length) l ?_ ?_
  · intro _; simp [beV]
  · intro l x ih h
    have h1 := ih fun y hy => h y (by simp [hy])
    have h2 := h x (by simp)
    rw [beV_append, List.length_append, List.length_singleton, Nat.pow_succ]
    omega

/-! ### Setting a byte -/

theorem or_bits {x y : Nat} (hx : x < 18446744073709551616) (hy : y < 18446744073709551616) : (((BitVec.ofInt 64 ((x : Nat) : Int) ||| BitVec.ofInt 64 ((y : Nat) : Int)).toNat : Nat) : Int) = ((x ||| y : Nat) : Int) := by
  rw [BitVec.toNat_or, BitVec.ofInt_natCast, BitVec.ofInt_natCast, BitVec.toNat_ofNat, BitVec.toNat_ofNat, Nat.mod_eq_of_lt hx, Nat.mod_eq_of_lt hy]

theorem byte_bits {b i : Nat} (hb : b < 256) (hi : 8 ≤ i) : b.testBit i = false :=
  Nat.testBit_lt_two_pow (Nat.lt_of_lt_of_le hb (by rw [show (256 : Nat) = 2 ^ 8 from rfl]; exact Nat.pow_le_pow_right (by omega) hi))

theorem limb_or {a b j q : Nat} (hb : b < 256) :
    (a * 256 ^ (j + 1) + b * 256 ^ j) / 18446744073709551616 ^ q % 18446744073709551616 =
      (a * 256 ^ (j + 1) / 18446744073709551616 ^ q % 18446744073709551616) ||| (if q = j / 8 then b * 2 ^ (8 * (j % 8)) else 0) := by
  have h1 : a * 256 ^ (j + 1) + b * 256 ^ j = (a * 256 ^ (j + 1)) ||| (b <<< (8 * j)) := by
    rw [Nat.shiftLeft_eq, pow256, pow256, Nat.mul_comm a, Nat.mul_comm b, ← Nat.two_pow_add_eq_or_of_lt]
    rw [show 8 * (j + 1) = 8 * j + 8 by omega, Nat.pow_add, Nat.mul_comm (2 ^ (8 * j)) b, Nat.mul_comm (2 ^ (8 * j)) (2 ^ 8)]
    exact Nat.mul_lt_mul_of_pos_right hb (Nat.two_pow_pos _)
  rw [h1, show (18446744073709551616 : Nat) ^ q = 2 ^ (64 * q) by rw [show (18446744073709551616 : Nat) = 2 ^ 64 from rfl, ← Nat.pow_mul], show (18446744073709551616 : Nat) = 2 ^ 64 from rfl]
  generalize a * 256 ^ (j + 1) = m
  apply Nat.eq_of_testBit_eq
  intro t
  simp only [Nat.testBit_mod_two_pow, Nat.testBit_div_two_pow, Nat.testBit_or, Nat.testBit_shiftLeft]
  by_cases hq : q = j / 8
  · subst hq
    rw [if_pos rfl, ← Nat.shiftLeft_eq, Nat.testBit_shiftLeft]
    by_cases ht : t < 64
    · rw [show t + 64 * (j / 8) - 8 * j = t - 8 * (j % 8) by omega, show decide (t + 64 * (j / 8) ≥ 8 * j) = decide (t ≥ 8 * (j % 8)) by simp; omega]
      simp [ht]
    · rw [byte_bits hb (i := t - 8 * (j % 8)) (by omega)]; simp [ht]
  · rw [if_neg hq, Nat.zero_testBit, Bool.or_false]
    by_cases ht : t < 64
    · by_cases h : 8 * j ≤ t + 64 * q
      · rw [byte_bits hb (i := t + 64 * q - 8 * j) (by omega)]; simp [ht]
      · simp [ht, h]
    · simp [ht]

theorem limb_sum {a b j : Nat} (hb : b < 256) :
    (a * 256 ^ (j + 1) / 18446744073709551616 ^ (j / 8) % 18446744073709551616) ||| (b * 2 ^ (8 * (j % 8))) = a * 256 ^ (j + 1) / 18446744073709551616 ^ (j / 8) % 18446744073709551616 + b * 2 ^ (8 * (j % 8)) := by
  have h1 : a * 256 ^ (j + 1) / 18446744073709551616 ^ (j / 8) % 18446744073709551616 = 2 ^ (8 * (j % 8) + 8) * (a % 2 ^ (56 - 8 * (j % 8))) := by
    rw [show (18446744073709551616 : Nat) ^ (j / 8) = 2 ^ (64 * (j / 8)) by rw [show (18446744073709551616 : Nat) = 2 ^ 64 from rfl, ← Nat.pow_mul], pow256,
      show 8 * (j + 1) = (8 * (j % 8) + 8) + 64 * (j / 8) by omega, Nat.pow_add 2 _ (64 * (j / 8)), ← Nat.mul_assoc, Nat.mul_div_cancel _ (Nat.two_pow_pos _),
      show (18446744073709551616 : Nat) = 2 ^ (8 * (j % 8) + 8) * 2 ^ (56 - 8 * (j % 8)) by rw [← Nat.pow_add, show 8 * (j % 8) + 8 + (56 - 8 * (j % 8)) = 64 by omega], Nat.mul_comm a, Nat.mul_mod_mul_left]
  rw [h1, Nat.two_pow_add_eq_or_of_lt]
  rw [Nat.pow_add, Nat.mul_comm (2 ^ (8 * (j % 8)))]
  exact Nat.mul_lt_mul_of_pos_right hb (Nat.two_pow_pos _)

theorem lim_set {a b j : Nat} (hj : j < 32) (hb : b < 256) (h : a * 256 ^ (j + 1) + b * 256 ^ j < 115792089237316195423570985008687907853269984665640564039457584007913129639936) {y : Int}
    (hy : y = (((a * 256 ^ (j + 1) / 18446744073709551616 ^ (j / 8) % 18446744073709551616) ||| (b * 2 ^ (8 * (j % 8))) : Nat) : Int)) :
    (lim (a * 256 ^ (j + 1))).set (j / 8) y = lim (a * 256 ^ (j + 1) + b * 256 ^ j) := by
  apply List.ext_getElem
  · simp [len_lim]
  · intro q h1 h2
    have hq : q < 4 := h2
    have e : ∀ n, n < 115792089237316195423570985008687907853269984665640564039457584007913129639936 → (hh : q < (lim n).length) → (lim n)[q] = ((n / 18446744073709551616 ^ q % 18446744073709551616 : Nat) : Int) := fun n hn hh => by
      rw [← lim_getD hn hq, List.getD_eq_getElem?_getD, List.getElem?_eq_getElem hh]; rfl
    rw [e _ h, limb_or hb, List.getElem_set]
    by_cases hc : j / 8 = q
    · rw [if_pos hc, if_pos hc.symm, hy, hc]
    · rw [if_neg hc, if_neg (fun h => hc h.symm), e _ (by omega), Nat.or_zero]

end Go.Pon
/-
  What the functions of package uint256 compute (printed by a program of this work).
-/
set_option autoImplicit false
set_option linter.unusedVariables false
set_option maxRecDepth 100000
namespace Go.Pon
open Go

/-- pontage/uint256.BitLen -/
abbrev s_uint256_BitLen : Sig := ⟨[(.ro true (.arr 4 (.int .u64)))], [(.ro true (.int .i64))]⟩
abbrev F_uint256_BitLen := ((List Int) × Unit) → Option ((Int × Unit) × (Unit × Unit))

noncomputable def T_uint256_BitLen_loop0 (c_math_bits_Len64 : F_math_bits_Len64) (again_0 : ((List Int) × (Int × Unit)) → Option ((Int × Unit) × (Unit × Unit))) (a_1 : (List Int)) (i_2 : Int) : Option ((Int × Unit) × (Unit × Unit)) :=
  (brR (decide (i_2 ≥ (0 : Int)))
   (brR (Go.Pon.inR i_2 (4 : Nat))
    (brR (!(decide ((List.getD a_1 (Int.toNat i_2) (0 : Int)) = (0 : Int))))
     (brR (Go.Pon.inR i_2 (4 : Nat))
      (Option.bind (c_math_bits_Len64 ((List.getD a_1 (Int.toNat i_2) (0 : Int)), ())) (fun (y_3 : ((Int × Unit) × (Unit × Unit))) =>
       (some (((Go.IntKind.wrap (Go.IntKind.i64) ((Go.IntKind.wrap (Go.IntKind.i64) ((64 : Int) * i_2)) + y_3.1.1)), ()), ((), ())))))
      none)
     (again_0 (a_1, ((Go.IntKind.wrap (Go.IntKind.i64) (i_2 - (1 : Int))), ()))))
    none)
   (some (((0 : Int), ()), ((), ()))))

noncomputable def T_uint256_BitLen (L : LoopD) (c_math_bits_Len64 : F_math_bits_Len64) (a_ : (List Int)) : Option ((Int × Unit) × (Unit × Unit)) :=
  (L _ _ (fun again x => T_uint256_BitLen_loop0 c_math_bits_Len64 again x.1 x.2.1) (a_, ((3 : Int), ())))

noncomputable def sol_uint256_BitLen : F_uint256_BitLen := fun x => T_uint256_BitLen bigLoop sol_math_bits_Len64 x.1

/-- pontage/uint256.FromUint64 -/
abbrev s_uint256_FromUint64 : Sig := ⟨[(.ro true (.int .u64))], [(.ro true (.arr 4 (.int .u64)))]⟩
abbrev F_uint256_FromUint64 := (Int × Unit) → Option (((List Int) × Unit) × (Unit × Unit))

noncomputable def T_uint256_FromUint64 (L : LoopD) (n_ : Int) : Option (((List Int) × Unit) × (Unit × Unit)) :=
  (some (([n_, (0 : Int), (0 : Int), (0 : Int)], ()), ((), ())))

noncomputable def sol_uint256_FromUint64 : F_uint256_FromUint64 := fun x => T_uint256_FromUint64 bigLoop x.1

end Go.Pon
/-
  What math/bits.Len64 and uint256.BitLen compute.
-/
set_option autoImplicit false
set_option linter.unusedVariables false
set_option linter.unusedSimpArgs false
set_option maxRecDepth 10000
namespace Go.Pon
open Go

def len8 : List Int := [0, 1, 2, 2, 3, 3, 3, 3, 4, 4, 4, 4, 4, 4, 4, 4, 5, 5, 5, 5, 5, 5, 5, 5, 5, 5, 5, 5, 5, 5, 5, 5, 6, 6, 6, 6, 6, 6, 6, 6, 6, 6, 6, 6, 6, 6, 6, 6, 6, 6, 6, 6, 6, 6, 6, 6, 6, 6, 6, 6, 6, 6, 6, 6, 7, 7, 7, 7, 7, 7, 7, 7, 7, 7, 7, 7, 7, 7, 7, 7, 7, 7, 7, 7, 7, 7, 7, 7, 7, 7, 7, 7, 7, 7, 7, 7, 7, 7, 7, 7, 7, 7, 7, 7, 7, 7, 7, 7, 7, 7, 7, 7, 7, 7, 7, 7, 7, 7, 7, 7, 7, 7, 7, 7, 7, 7, 7, 7, 8, 8, 8, 8, 8, 8, 8, 8, 8, 8, 8, 8, 8, 8, 8, 8, 8, 8, 8, 8, 8, 8, 8, 8, 8, 8, 8, 8, 8, 8, 8, 8, 8, 8, 8, 8, 8, 8, 8, 8, 8, 8, 8, 8, 8, 8, 8, 8, 8, 8, 8, 8, 8, 8, 8, 8, 8, 8, 8, 8, 8, 8, 8, 8, 8, 8, 8, 8, 8, 8, 8, 8, 8, 8, 8, 8, 8, 8, 8, 8, 8, 8, 8, 8, 8, 8, 8, 8, 8, 8, 8, 8, 8, 8, 8, 8, 8, 8, 8, 8, 8, 8, 8, 8, 8, 8, 8, 8, 8, 8, 8, 8, 8, 8, 8, 8, 8, 8, 8, 8, 8, 8, 8, 8, 8, 8, 8, 8]

theorem len8_at : ∀ i, i < 256 → len8.getD i 0 = ((bitlen i : Nat) : Int) := by decide

theorem len8_int {x : Int} (h1 : 0 ≤ x) (h2 : x < 256) : len8.getD x.toNat 0 = ((bitlen x.toNat : Nat) : Int) := len8_at _ (by omega)

theorem bitlen_small {n : Nat} (h : n < 256) : bitlen n ≤ 8 := bitlen_le.2 (by omega)

theorem len64_case {x : Int} (k : Nat) (q : Int) (hk : k ≤ 56) (h0 : 0 ≤ x) (h1 : ((2 ^ k : Nat) : Int) ≤ x ∨ k = 0) (hq : q = x / ((2 ^ k : Nat) : Int)) (h2 : q < 256) :
    brR (inR (IntKind.wrap .u8 q) 256) (some ((IntKind.wrap .i64 ((k : Int) + IntKind.wrap .i64 (List.getD len8 (Int.toNat (IntKind.wrap .u8 q)) 0)), ()), ((), ()))) (none : Option ((Int × Unit) × (Unit × Unit))) = some ((((bitlen x.toNat : Nat) : Int), ()), ((), ())) := by
  obtain ⟨n, rfl⟩ := Int.eq_ofNat_of_zero_le h0
  have hq0 : 0 ≤ q := by rw [hq]; exact Int.ediv_nonneg h0 (Int.natCast_nonneg _)
  have hqn : q.toNat = n / 2 ^ k := by rw [hq, ← Int.natCast_ediv, Int.toNat_natCast]
  rw [w_u8 hq0 (by omega), brR_inR, if_pos ⟨hq0, h2⟩, len8_int hq0 h2, hqn]
  have hs : bitlen (n / 2 ^ k) ≤ 8 := bitlen_small (by omega)
  rw [w_i64 (n := ((bitlen (n / 2 ^ k) : Nat) : Int)) (by omega) (by omega), w_i64 (by omega) (by omega), Int.toNat_natCast]
  have : bitlen n = k + bitlen (n / 2 ^ k) := by
    rcases h1 with h1 | rfl
    · exact bitlen_div (by omega)
    · simp
  rw [this]; simp

theorem fdiv_pos {a b : Int} (h : 0 ≤ b) : Int.fdiv a b = a / b := Int.fdiv_eq_ediv_of_nonneg _ h

theorem len64_eq {x : Int} (h0 : 0 ≤ x) (h1 : x ≤ 18446744073709551615) : sol_math_bits_Len64 (x, ()) = some ((((bitlen x.toNat : Nat) : Int), ()), ((), ())) := by
  unfold sol_math_bits_Len64 T_math_bits_Len64
  simp only [letR_eq, brR_dec, ge_iff_le, fdiv_pos (show (0 : Int) ≤ 4294967296 by omega), fdiv_pos (show (0 : Int) ≤ 65536 by omega), fdiv_pos (show (0 : Int) ≤ 256 by omega)]
  repeat' split
  · exact len64_case 56 _ (by omega) h0 (.inl (by omega)) (by omega) (by omega)
  · exact len64_case 48 _ (by omega) h0 (.inl (by omega)) (by omega) (by omega)
  · exact len64_case 40 _ (by omega) h0 (.inl (by omega)) (by omega) (by omega)
  · exact len64_case 32 _ (by omega) h0 (.inl (by omega)) (by omega) (by omega)
  · exact len64_case 24 _ (by omega) h0 (.inl (by omega)) (by omega) (by omega)
  · exact len64_case 16 _ (by omega) h0 (.inl (by omega)) (by omega) (by omega)
  · exact len64_case 8 _ (by omega) h0 (.inl (by omega)) (by omega) (by omega)
  · exact len64_case 0 _ (by omega) h0 (.inr rfl) (by omega) (by omega)

theorem bitlen_256 {n : Nat} (h : n < 115792089237316195423570985008687907853269984665640564039457584007913129639936) : bitlen n ≤ 256 := bitlen_le.2 h

theorem pow64 (k : Nat) : 18446744073709551616 ^ k = 2 ^ (64 * k) := by rw [show (18446744073709551616 : Nat) = 2 ^ 64 from rfl, ← Nat.pow_mul]

theorem bitLen_eq {n : Nat} (hn : n < 115792089237316195423570985008687907853269984665640564039457584007913129639936) : sol_uint256_BitLen (lim n, ()) = some ((((bitlen n : Nat) : Int), ()), ((), ())) := by
  unfold sol_uint256_BitLen T_uint256_BitLen
  refine bigLoop_rule (I := fun x => x.1 = lim n ∧ -1 ≤ x.2.1 ∧ x.2.1 ≤ 3 ∧ n < 18446744073709551616 ^ (x.2.1 + 1).toNat) (m := fun x => (x.2.1 + 1).toNat) (g := fun _ => some ((((bitlen n : Nat) : Int), ()), ((), ()))) ?_ ⟨rfl, by simp only; omega, by simp only; omega, hn⟩ (by simp only [bigN_eq]; omega)
  rintro ⟨a, i, _⟩ again ⟨h1, h2, h3, h4⟩ hag
  simp only at h1 h2 h3 h4 hag ⊢
  subst h1
  simp only [T_uint256_BitLen_loop0, brR_dec, brR_not, brR_inR, ge_iff_le]
  by_cases hi : 0 ≤ i
  · obtain ⟨j, rfl⟩ := Int.eq_ofNat_of_zero_le hi
    have e1 : ((j : Int) + 1).toNat = j + 1 := by omega
    rw [e1] at h4
    rw [if_pos hi, if_pos ⟨hi, by omega⟩, Int.toNat_natCast, lim_getD hn (by omega)]
    have hp : 0 < 18446744073709551616 ^ j := Nat.pow_pos (by omega)
    have hlt : n / 18446744073709551616 ^ j < 18446744073709551616 := by
      rw [Nat.div_lt_iff_lt_mul hp, Nat.mul_comm, ← Nat.pow_succ]; exact h4
    rw [Nat.mod_eq_of_lt hlt]
    by_cases hz : n / 18446744073709551616 ^ j = 0
    · rw [if_pos (by omega), w_i64 (by omega) (by omega)]
      refine hag _ ⟨rfl, by simp only; omega, by simp only; omega, ?_⟩ (by simp only; omega)
      simp only
      rw [show ((j : Int) - 1 + 1).toNat = j by omega]
      exact (Nat.div_eq_zero_iff.1 hz).resolve_left (by omega)
    · have hge : 2 ^ (64 * j) ≤ n := by
        rw [← pow64]
        rcases Nat.lt_or_ge n (18446744073709551616 ^ j) with h | h
        · exact absurd (Nat.div_eq_of_lt h) hz
        · exact h
      have hb := bitlen_div hge
      have := bitlen_256 hn
      rw [← pow64] at hb
      generalize n / 18446744073709551616 ^ j = q at *
      rw [if_neg (by omega), if_pos ⟨hi, by omega⟩, len64_eq (by omega) (by omega)]
      simp only [bind_some']
      rw [Int.toNat_natCast, w_i64 (n := 64 * (j : Int)) (by omega) (by omega), w_i64 (by omega) (by omega), hb]
      simp
  · have hz : i = -1 := by omega
    subst hz
    have : n = 0 := by simpa using h4
    subst this
    simp [bitlen_zero]

theorem fromUint64_eq {x : Int} (h0 : 0 ≤ x) (h1 : x ≤ 18446744073709551615) : sol_uint256_FromUint64 (x, ()) = some ((lim x.toNat, ()), ((), ())) := by
  unfold sol_uint256_FromUint64 T_uint256_FromUint64
  rw [lim_small h0 h1]

end Go.Pon
/-
  What slices.Concat, slices.Grow and slices.Clone of bytes compute.
-/
set_option autoImplicit false
set_option linter.unusedVariables false
set_option linter.unusedSimpArgs false
namespace Go.Pon
open Go

theorem u8_size : (Ty.int IntKind.u8).size = 1 := rfl

theorem brR_room8 {α : Type} {n : Nat} (h : n ≤ 1099511627776) (a b : Option α) : brR (roomy n (.int .u8)) a b = a := by
  rw [brR_roomy, u8_size, if_pos ⟨by omega, by omega⟩]

theorem grow_eq {n : Int} (h0 : 0 ≤ n) (h1 : n ≤ 1099511627776) : sol_slices_Grow_byte_byte ((), (n, ())) = some (([], ()), ((), ((), ()))) := by
  unfold sol_slices_Grow_byte_byte T_slices_Grow_byte_byte
  simp only [letR_eq, brR_dec, brR_and, Int.sub_zero]
  rw [if_neg (by omega), w_i64 (n := n) (by omega) (by omega)]
  split
  · rw [brR_room8 (by omega), brR_true, if_pos (by omega)]; rfl
  · rfl

theorem take_succ_flatten {ls : List (List Int)} {i : Nat} (h : i < ls.length) : (ls.take (i + 1)).flatten = (ls.take i).flatten ++ ls.getD i [] := by
  rw [List.take_succ_eq_append_getElem h, List.flatten_append, List.getD_eq_getElem?_getD, List.getElem?_eq_getElem h]; simp

theorem take_flatten_le (ls : List (List Int)) (i : Nat) : (ls.take i).flatten.length ≤ ls.flatten.length := by
  have : (ls.take i ++ ls.drop i).flatten = ls.flatten := by rw [List.take_append_drop]
  rw [← this, List.flatten_append, List.length_append]; omega

theorem concat_loop {ls : List (List Int)} (h : ls.flatten.length ≤ 1099511627776) (hn : ls.length ≤ 1099511627776) :
    bigLoop _ _ (fun again x => T_slices_Concat_byte_byte_loop1 again x.1 x.2.1 x.2.2.1 x.2.2.2.1) (([] : List Int), (ls, (((ls.length : Nat) : Int), ((0 : Int), ())))) = some ((ls.flatten, ()), ((), ())) := by
  refine bigLoop_rule (I := fun x => x.2.1 = ls ∧ x.2.2.1 = ((ls.length : Nat) : Int) ∧ (0 : Int) ≤ x.2.2.2.1 ∧ x.2.2.2.1 ≤ ((ls.length : Nat) : Int) ∧ x.1 = (ls.take x.2.2.2.1.toNat).flatten) (m := fun x => ((ls.length : Int) - x.2.2.2.1).toNat) (g := fun _ => some ((ls.flatten, ()), ((), ()))) ?_ ⟨rfl, rfl, by simp only; omega, by simp only; omega, rfl⟩ (by simp only [bigN_eq]; omega)
  rintro ⟨new, l, n, i, _⟩ again ⟨h1, h2, h3, h4, h5⟩ hag
  simp only at h1 h2 h3 h4 h5 hag ⊢
  subst h1 h2 h5
  obtain ⟨j, rfl⟩ := Int.eq_ofNat_of_zero_le h3
  simp only [T_slices_Concat_byte_byte_loop1, brR_dec, brR_inR, Int.toNat_natCast, append_def]
  by_cases hi : j < l.length
  · have e := take_succ_flatten hi
    have hle := take_flatten_le l (j + 1)
    rw [e] at hle
    rw [if_pos (by omega), if_pos ⟨h3, by omega⟩, brR_room8 (by rw [← List.length_append]; omega), ← e, w_i64 (by omega) (by omega)]
    exact hag _ ⟨rfl, rfl, by simp only; omega, by simp only; omega, rfl⟩ (by simp only; omega)
  · rw [if_neg (by omega), List.take_of_length_le (by omega)]

theorem concat_eq {ls : List (List Int)} (h : ls.flatten.length ≤ 1099511627776) (hn : ls.length ≤ 1099511627776) : sol_slices_Concat_byte_byte (ls, ()) = some ((ls.flatten, ()), ((), ())) := by
  unfold sol_slices_Concat_byte_byte T_slices_Concat_byte_byte
  refine bigLoop_rule (I := fun x => x.1 = ls ∧ x.2.2.1 = ls ∧ x.2.2.2.1 = ((ls.length : Nat) : Int) ∧ (0 : Int) ≤ x.2.2.2.2.1 ∧ x.2.2.2.2.1 ≤ ((ls.length : Nat) : Int) ∧ x.2.1 = (((ls.take x.2.2.2.2.1.toNat).flatten.length : Nat) : Int)) (m := fun x => ((ls.length : Int) - x.2.2.2.2.1).toNat) (g := fun _ => some ((ls.flatten, ()), ((), ()))) ?_
    ⟨rfl, rfl, rfl, by simp only; omega, by simp only; omega, rfl⟩ (by simp only [bigN_eq]; omega)
  rintro ⟨l, size, l', n, i, _⟩ again ⟨h1, h2, h3, h4, h5, h6⟩ hag
  simp only at h1 h2 h3 h4 h5 h6 hag ⊢
  subst h2 h1 h3 h6
  obtain ⟨j, rfl⟩ := Int.eq_ofNat_of_zero_le h4
  simp only [T_slices_Concat_byte_byte_loop0, letR_eq, brR_dec, brR_inR, Int.toNat_natCast]
  by_cases hi : j < l.length
  · have e := take_succ_flatten hi
    have hle := take_flatten_le l (j + 1)
    rw [e, List.length_append] at hle
    rw [if_pos (by omega), if_pos ⟨h4, by omega⟩, w_i64 (by omega) (by omega), if_neg (by omega), w_i64 (by omega) (by omega)]
    refine hag _ ⟨rfl, rfl, rfl, by simp only; omega, by simp only; omega, ?_⟩ (by simp only; omega)
    simp only
    rw [show ((j : Int) + 1).toNat = j + 1 by omega, e, List.length_append]; omega
  · have hle := take_flatten_le l j
    rw [if_neg (by omega), grow_eq (by omega) (by omega)]
    simp only [bind_some']
    exact concat_loop h hn

theorem clone_eq {l : List Int} (h : l.length ≤ 1099511627776) : sol_slices_Clone_byte_byte (l, ()) = some ((l, ()), ((), ())) := by
  unfold sol_slices_Clone_byte_byte T_slices_Clone_byte_byte
  simp only
  rw [brR_room8 (by omega), brR_dec]
  split
  · rename_i h0
    have : l = [] := List.length_eq_zero_iff.1 h0
    subst this
    exact bothR_eq rfl rfl
  · rfl

end Go.Pon
/-
  What the functions of package int256 compute (printed by a program of this work).
-/
set_option autoImplicit false
set_option linter.unusedVariables false
set_option maxRecDepth 100000
namespace Go.Pon
open Go

/-- pontage/int256.Valid -/
abbrev s_int256_Valid : Sig := ⟨[(.ro true (.pair .bool (.pair (.arr 4 (.int .u64)) .unit)))], [(.ro true .bool)]⟩
abbrev F_int256_Valid := ((Bool × ((List Int) × Unit)) × Unit) → Option ((Bool × Unit) × (Unit × Unit))

noncomputable def T_int256_Valid (L : LoopD) (a_ : (Bool × ((List Int) × Unit))) : Option ((Bool × Unit) × (Unit × Unit)) :=
  (brR (!a_.1)
   (some ((true, ()), ((), ())))
   (some (((!(Go.Pon.eqD (Go.Pon.Ty.arr 4 (Go.Pon.Ty.int Go.IntKind.u64)) a_.2.1 [(0 : Int), (0 : Int), (0 : Int), (0 : Int)])), ()), ((), ()))))

noncomputable def sol_int256_Valid : F_int256_Valid := fun x => T_int256_Valid bigLoop x.1

end Go.Pon
/-
  What the functions of package wire compute (printed by a program of this work).
-/
set_option autoImplicit false
set_option linter.unusedVariables false
set_option maxRecDepth 100000
namespace Go.Pon
open Go

/-- pontage/wire.encode -/
abbrev s_wire_encode : Sig := ⟨[(.ro true (.arr 4 (.int .u64)))], [(.own true (.int .u8))]⟩
abbrev F_wire_encode := ((List Int) × Unit) → Option (((List Int) × Unit) × (Unit × Unit))

noncomputable def T_wire_encode_loop0 (again_2 : ((List Int) × ((List Int) × (Int × Unit))) → Option (((List Int) × Unit) × (Unit × Unit))) (n_3 : (List Int)) (out_4 : (List Int)) (i_5 : Int) : Option (((List Int) × Unit) × (Unit × Unit)) :=
  (letR (Go.IntKind.wrap (Go.IntKind.i64) ((8 : Int) * (Int.tmod i_5 (8 : Int)))) fun (v_6 : Int) =>
  (brR (decide (i_5 ≥ (0 : Int)))
   (brR (Go.Pon.inR (Go.IntKind.wrap (Go.IntKind.i64) (Int.tdiv i_5 (8 : Int))) (4 : Nat))
    (brR (decide ((0 : Int) ≤ v_6))
     (brR (Go.Pon.roomy ((List.length out_4) + (1 : Nat)) (Go.Pon.Ty.int Go.IntKind.u8))
      (again_2 (n_3, ((List.append out_4 [(Go.IntKind.wrap (Go.IntKind.u8) (Int.fdiv (List.getD n_3 (Int.toNat (Go.IntKind.wrap (Go.IntKind.i64) (Int.tdiv i_5 (8 : Int)))) (0 : Int)) ((2 : Int) ^ (min (Int.toNat v_6) (64 : Nat)))))]), ((Go.IntKind.wrap (Go.IntKind.i64) (i_5 - (1 : Int))), ()))))
      none)
     none)
    none)
   (some ((out_4, ()), ((), ())))))

noncomputable def T_wire_encode (L : LoopD) (c_uint256_BitLen : F_uint256_BitLen) (n_ : (List Int)) : Option (((List Int) × Unit) × (Unit × Unit)) :=
  (Option.bind (c_uint256_BitLen (n_, ())) (fun (y_0 : ((Int × Unit) × (Unit × Unit))) =>
   (letR (Go.IntKind.wrap (Go.IntKind.i64) (Int.tdiv (Go.IntKind.wrap (Go.IntKind.i64) (y_0.1.1 + (7 : Int))) (8 : Int))) fun (v_1 : Int) =>
   (L _ _ (fun again x => T_wire_encode_loop0 again x.1 x.2.1 x.2.2.1) (n_, ([(Go.IntKind.wrap (Go.IntKind.u8) v_1)], ((Go.IntKind.wrap (Go.IntKind.i64) (v_1 - (1 : Int))), ())))))))

noncomputable def sol_wire_encode : F_wire_encode := fun x => T_wire_encode bigLoop sol_uint256_BitLen x.1

/-- pontage/wire.AppendUint256 -/
abbrev s_wire_AppendUint256 : Sig := ⟨[(.ro false (.slice (.int .u8))), (.ro true (.arr 4 (.int .u64)))], [(.own true (.int .u8))]⟩
abbrev F_wire_AppendUint256 := ((List Int) × ((List Int) × Unit)) → Option (((List Int) × Unit) × (Unit × (Unit × Unit)))

noncomputable def T_wire_AppendUint256 (L : LoopD) (c_wire_encode : F_wire_encode) (c_slices_Concat_byte_byte : F_slices_Concat_byte_byte) (b_ : (List Int)) (n_ : (List Int)) : Option (((List Int) × Unit) × (Unit × (Unit × Unit))) :=
  (Option.bind (c_wire_encode (n_, ())) (fun (y_0 : (((List Int) × Unit) × (Unit × Unit))) =>
   (Option.bind (c_slices_Concat_byte_byte ([b_, y_0.1.1], ())) (fun (y_1 : (((List Int) × Unit) × (Unit × Unit))) =>
    (some ((y_1.1.1, ()), ((), ((), ()))))))))

noncomputable def sol_wire_AppendUint256 : F_wire_AppendUint256 := fun x => T_wire_AppendUint256 bigLoop sol_wire_encode sol_slices_Concat_byte_byte x.1 x.2.1

/-- pontage/wire.readUint -/
abbrev s_wire_readUint : Sig := ⟨[(.ro false (.slice (.int .u8))), (.ro true (.int .i64)), (.ro true (.int .i64))], [(.ro true (.arr 4 (.int .u64))), (.ro true (.int .i64)), (.ro true (.int .i64))]⟩
abbrev F_wire_readUint := ((List Int) × (Int × (Int × Unit))) → Option (((List Int) × (Int × (Int × Unit))) × (Unit × (Unit × (Unit × Unit))))

noncomputable def T_wire_readUint_loop0 (again_6 : (Int × ((List Int) × ((List Int) × (Int × ((List Int) × (Int × (Int × Unit))))))) → Option (((List Int) × (Int × (Int × Unit))) × (Unit × (Unit × (Unit × Unit))))) (at_7 : Int) (t6_8 : (List Int)) (rest_9 : (List Int)) (k_10 : Int) (n_11 : (List Int)) (t56_12 : Int) (t57_13 : Int) : Option (((List Int) × (Int × (Int × Unit))) × (Unit × (Unit × (Unit × Unit)))) :=
  (letR (Go.IntKind.wrap (Go.IntKind.i64) ((Go.IntKind.wrap (Go.IntKind.i64) (k_10 - (1 : Int))) - t57_13)) fun (v_14 : Int) =>
  (letR (Go.IntKind.wrap (Go.IntKind.i64) (Int.tdiv v_14 (8 : Int))) fun (v_15 : Int) =>
  (letR (Go.IntKind.wrap (Go.IntKind.i64) ((8 : Int) * (Int.tmod v_14 (8 : Int)))) fun (v_16 : Int) =>
  (brR (decide (t57_13 < t56_12))
   (brR (Go.Pon.inR v_15 (4 : Nat))
    (brR (Go.Pon.inR t57_13 (List.length rest_9))
     (brR (decide ((0 : Int) ≤ v_16))
      (brR (Go.Pon.inR v_15 (4 : Nat))
       (again_6 (at_7, (t6_8, (rest_9, (k_10, ((List.set n_11 (Int.toNat v_15) (Go.IntKind.wrap (Go.IntKind.u64) (((BitVec.toNat ((BitVec.ofInt (64 : Nat) (List.getD n_11 (Int.toNat v_15) (0 : Int))) ||| (BitVec.ofInt (64 : Nat) (Go.IntKind.wrap (Go.IntKind.u64) ((Go.IntKind.wrap (Go.IntKind.u64) (List.getD rest_9 (Int.toNat t57_13) (0 : Int))) * ((2 : Int) ^ (min (Int.toNat v_16) (64 : Nat)))))))) : Nat) : Int))), (t56_12, ((Go.IntKind.wrap (Go.IntKind.i64) (t57_13 + (1 : Int))), ()))))))))
       none)
      none)
     none)
    none)
   (some ((n_11, ((Go.IntKind.wrap (Go.IntKind.i64) ((Go.IntKind.wrap (Go.IntKind.i64) (at_7 + (1 : Int))) + k_10)), ((0 : Int), ()))), ((), ((), ((), ())))))))))

noncomputable def T_wire_readUint (L : LoopD) (b_ : (List Int)) (at_ : Int) (most_ : Int) : Option (((List Int) × (Int × (Int × Unit))) × (Unit × (Unit × (Unit × Unit)))) :=
  (letR (List.take ((List.length b_) - (Int.toNat at_)) (List.drop (Int.toNat at_) b_)) fun (v_0 : (List Int)) =>
  (letR (List.length v_0) fun (v_1 : Nat) =>
  (letR ((v_1 : Nat) : Int) fun (v_2 : Int) =>
  (letR (Go.IntKind.wrap (Go.IntKind.i64) (List.getD v_0 (0 : Nat) (0 : Int))) fun (v_3 : Int) =>
  (letR (List.take (v_1 - (1 : Nat)) (List.drop (1 : Nat) v_0)) fun (v_4 : (List Int)) =>
  (letR (List.length v_4) fun (v_5 : Nat) =>
  (brR (decide (at_ < (0 : Int)))
   (some (([(0 : Int), (0 : Int), (0 : Int), (0 : Int)], ((0 : Int), ((2 : Int), ()))), ((), ((), ((), ())))))
   (brR (decide (at_ > (((List.length b_) : Nat) : Int)))
    (some (([(0 : Int), (0 : Int), (0 : Int), (0 : Int)], ((0 : Int), ((2 : Int), ()))), ((), ((), ((), ())))))
    (brR ((decide ((0 : Int) ≤ at_)) && (decide (at_ ≤ (((List.length b_) : Nat) : Int))))
     (brR (decide (v_2 = (0 : Int)))
      (some (([(0 : Int), (0 : Int), (0 : Int), (0 : Int)], ((0 : Int), ((3 : Int), ()))), ((), ((), ((), ())))))
      (brR (Go.Pon.inR (0 : Int) v_1)
       (brR (decide ((1 : Int) ≤ v_2))
        (brR (decide (v_3 > most_))
         (some (([(0 : Int), (0 : Int), (0 : Int), (0 : Int)], ((0 : Int), ((3 : Int), ()))), ((), ((), ((), ())))))
         (brR (decide (v_3 > ((v_5 : Nat) : Int)))
          (some (([(0 : Int), (0 : Int), (0 : Int), (0 : Int)], ((0 : Int), ((3 : Int), ()))), ((), ((), ((), ())))))
          (brR (decide (v_3 > (0 : Int)))
           (brR (Go.Pon.inR (0 : Int) v_5)
            (brR (decide ((List.getD v_4 (0 : Nat) (0 : Int)) = (0 : Int)))
             (some (([(0 : Int), (0 : Int), (0 : Int), (0 : Int)], ((0 : Int), ((3 : Int), ()))), ((), ((), ((), ())))))
             (L _ _ (fun again x => T_wire_readUint_loop0 again x.1 x.2.1 x.2.2.1 x.2.2.2.1 x.2.2.2.2.1 x.2.2.2.2.2.1 x.2.2.2.2.2.2.1) (at_, ([(0 : Int), (0 : Int), (0 : Int), (0 : Int)], (v_4, (v_3, ([(0 : Int), (0 : Int), (0 : Int), (0 : Int)], (v_3, ((0 : Int), ())))))))))
            none)
           (L _ _ (fun again x => T_wire_readUint_loop0 again x.1 x.2.1 x.2.2.1 x.2.2.2.1 x.2.2.2.2.1 x.2.2.2.2.2.1 x.2.2.2.2.2.2.1) (at_, ([(0 : Int), (0 : Int), (0 : Int), (0 : Int)], (v_4, (v_3, ([(0 : Int), (0 : Int), (0 : Int), (0 : Int)], (v_3, ((0 : Int), ())))))))))))
        none)
       none))
     none)))))))))

noncomputable def sol_wire_readUint : F_wire_readUint := fun x => T_wire_readUint bigLoop x.1 x.2.1 x.2.2.1

/-- pontage/wire.ReadUint256 -/
abbrev s_wire_ReadUint256 : Sig := ⟨[(.ro false (.slice (.int .u8))), (.ro true (.int .i64))], [(.ro true (.arr 4 (.int .u64))), (.ro true (.int .i64)), (.ro true (.int .i64))]⟩
abbrev F_wire_ReadUint256 := ((List Int) × (Int × Unit)) → Option (((List Int) × (Int × (Int × Unit))) × (Unit × (Unit × Unit)))

noncomputable def T_wire_ReadUint256 (L : LoopD) (c_wire_readUint : F_wire_readUint) (b_ : (List Int)) (at_ : Int) : Option (((List Int) × (Int × (Int × Unit))) × (Unit × (Unit × Unit))) :=
  (Option.bind (c_wire_readUint (b_, (at_, ((32 : Int), ())))) (fun (y_0 : (((List Int) × (Int × (Int × Unit))) × (Unit × (Unit × (Unit × Unit))))) =>
   (some ((y_0.1.1, (y_0.1.2.1, (y_0.1.2.2.1, ()))), ((), ((), ()))))))

noncomputable def sol_wire_ReadUint256 : F_wire_ReadUint256 := fun x => T_wire_ReadUint256 bigLoop sol_wire_readUint x.1 x.2.1

/-- pontage/wire.AppendUint64 -/
abbrev s_wire_AppendUint64 : Sig := ⟨[(.ro false (.slice (.int .u8))), (.ro true (.int .u64))], [(.own true (.int .u8))]⟩
abbrev F_wire_AppendUint64 := ((List Int) × (Int × Unit)) → Option (((List Int) × Unit) × (Unit × (Unit × Unit)))

noncomputable def T_wire_AppendUint64 (L : LoopD) (c_uint256_FromUint64 : F_uint256_FromUint64) (c_wire_AppendUint256 : F_wire_AppendUint256) (b_ : (List Int)) (n_ : Int) : Option (((List Int) × Unit) × (Unit × (Unit × Unit))) :=
  (Option.bind (c_uint256_FromUint64 (n_, ())) (fun (y_0 : (((List Int) × Unit) × (Unit × Unit))) =>
   (Option.bind (c_wire_AppendUint256 (b_, (y_0.1.1, ()))) (fun (y_1 : (((List Int) × Unit) × (Unit × (Unit × Unit)))) =>
    (some ((y_1.1.1, ()), ((), ((), ()))))))))

noncomputable def sol_wire_AppendUint64 : F_wire_AppendUint64 := fun x => T_wire_AppendUint64 bigLoop sol_uint256_FromUint64 sol_wire_AppendUint256 x.1 x.2.1

/-- pontage/wire.AppendBytes -/
abbrev s_wire_AppendBytes : Sig := ⟨[(.ro false (.slice (.int .u8))), (.ro false (.slice (.int .u8)))], [(.own true (.int .u8))]⟩
abbrev F_wire_AppendBytes := ((List Int) × ((List Int) × Unit)) → Option (((List Int) × Unit) × (Unit × (Unit × Unit)))

noncomputable def T_wire_AppendBytes (L : LoopD) (c_uint256_FromUint64 : F_uint256_FromUint64) (c_wire_encode : F_wire_encode) (c_slices_Concat_byte_byte : F_slices_Concat_byte_byte) (b_ : (List Int)) (x_ : (List Int)) : Option (((List Int) × Unit) × (Unit × (Unit × Unit))) :=
  (Option.bind (c_uint256_FromUint64 ((Go.IntKind.wrap (Go.IntKind.u64) (((List.length x_) : Nat) : Int)), ())) (fun (y_0 : (((List Int) × Unit) × (Unit × Unit))) =>
   (Option.bind (c_wire_encode (y_0.1.1, ())) (fun (y_1 : (((List Int) × Unit) × (Unit × Unit))) =>
    (Option.bind (c_slices_Concat_byte_byte ([b_, y_1.1.1, x_], ())) (fun (y_2 : (((List Int) × Unit) × (Unit × Unit))) =>
     (some ((y_2.1.1, ()), ((), ((), ()))))))))))

noncomputable def sol_wire_AppendBytes : F_wire_AppendBytes := fun x => T_wire_AppendBytes bigLoop sol_uint256_FromUint64 sol_wire_encode sol_slices_Concat_byte_byte x.1 x.2.1

/-- pontage/wire.AppendInt256 -/
abbrev s_wire_AppendInt256 : Sig := ⟨[(.ro false (.slice (.int .u8))), (.ro true (.pair .bool (.pair (.arr 4 (.int .u64)) .unit)))], [(.own true (.int .u8))]⟩
abbrev F_wire_AppendInt256 := ((List Int) × ((Bool × ((List Int) × Unit)) × Unit)) → Option (((List Int) × Unit) × (Unit × (Unit × Unit)))

noncomputable def T_wire_AppendInt256 (L : LoopD) (c_int256_Valid : F_int256_Valid) (c_slices_Clone_byte_byte : F_slices_Clone_byte_byte) (c_wire_encode : F_wire_encode) (c_slices_Concat_byte_byte : F_slices_Concat_byte_byte) (b_ : (List Int)) (a_ : (Bool × ((List Int) × Unit))) : Option (((List Int) × Unit) × (Unit × (Unit × Unit))) :=
  (Option.bind (c_int256_Valid (a_, ())) (fun (y_0 : ((Bool × Unit) × (Unit × Unit))) =>
   (brR (!y_0.1.1)
    (Option.bind (c_slices_Clone_byte_byte (b_, ())) (fun (y_1 : (((List Int) × Unit) × (Unit × Unit))) =>
     (some ((y_1.1.1, ()), ((), ((), ()))))))
    (brR a_.1
     (Option.bind (c_wire_encode (a_.2.1, ())) (fun (y_2 : (((List Int) × Unit) × (Unit × Unit))) =>
      (Option.bind (c_slices_Concat_byte_byte ([b_, [(1 : Int)], y_2.1.1], ())) (fun (y_3 : (((List Int) × Unit) × (Unit × Unit))) =>
       (some ((y_3.1.1, ()), ((), ((), ()))))))))
     (Option.bind (c_wire_encode (a_.2.1, ())) (fun (y_4 : (((List Int) × Unit) × (Unit × Unit))) =>
      (Option.bind (c_slices_Concat_byte_byte ([b_, [(0 : Int)], y_4.1.1], ())) (fun (y_5 : (((List Int) × Unit) × (Unit × Unit))) =>
       (some ((y_5.1.1, ()), ((), ((), ()))))))))))))

noncomputable def sol_wire_AppendInt256 : F_wire_AppendInt256 := fun x => T_wire_AppendInt256 bigLoop sol_int256_Valid sol_slices_Clone_byte_byte sol_wire_encode sol_slices_Concat_byte_byte x.1 x.2.1

/-- pontage/wire.ReadUint64 -/
abbrev s_wire_ReadUint64 : Sig := ⟨[(.ro false (.slice (.int .u8))), (.ro true (.int .i64))], [(.ro true (.int .u64)), (.ro true (.int .i64)), (.ro true (.int .i64))]⟩
abbrev F_wire_ReadUint64 := ((List Int) × (Int × Unit)) → Option ((Int × (Int × (Int × Unit))) × (Unit × (Unit × Unit)))

noncomputable def T_wire_ReadUint64 (L : LoopD) (c_wire_readUint : F_wire_readUint) (b_ : (List Int)) (at_ : Int) : Option ((Int × (Int × (Int × Unit))) × (Unit × (Unit × Unit))) :=
  (Option.bind (c_wire_readUint (b_, (at_, ((8 : Int), ())))) (fun (y_0 : (((List Int) × (Int × (Int × Unit))) × (Unit × (Unit × (Unit × Unit))))) =>
   (some (((List.getD y_0.1.1 (0 : Nat) (0 : Int)), (y_0.1.2.1, (y_0.1.2.2.1, ()))), ((), ((), ()))))))

noncomputable def sol_wire_ReadUint64 : F_wire_ReadUint64 := fun x => T_wire_ReadUint64 bigLoop sol_wire_readUint x.1 x.2.1

/-- pontage/wire.ReadBytes -/
abbrev s_wire_ReadBytes : Sig := ⟨[(.ro false (.slice (.int .u8))), (.ro true (.int .i64))], [(.own true (.int .u8)), (.ro true (.int .i64)), (.ro true (.int .i64))]⟩
abbrev F_wire_ReadBytes := ((List Int) × (Int × Unit)) → Option (((List Int) × (Int × (Int × Unit))) × (Unit × (Unit × Unit)))

noncomputable def T_wire_ReadBytes (L : LoopD) (c_wire_ReadUint64 : F_wire_ReadUint64) (c_slices_Clone_byte_byte : F_slices_Clone_byte_byte) (b_ : (List Int)) (at_ : Int) : Option (((List Int) × (Int × (Int × Unit))) × (Unit × (Unit × Unit))) :=
  (Option.bind (c_wire_ReadUint64 (b_, (at_, ()))) (fun (y_0 : ((Int × (Int × (Int × Unit))) × (Unit × (Unit × Unit)))) =>
   (letR (Go.IntKind.wrap (Go.IntKind.i64) (y_0.1.2.1 + (Go.IntKind.wrap (Go.IntKind.i64) y_0.1.1))) fun (v_1 : Int) =>
   (brR (!(decide (y_0.1.2.2.1 = (0 : Int))))
    (some ((([] : List Int), ((0 : Int), (y_0.1.2.2.1, ()))), ((), ((), ()))))
    (brR (decide (y_0.1.1 > (Go.IntKind.wrap (Go.IntKind.u64) (Go.IntKind.wrap (Go.IntKind.i64) ((((List.length b_) : Nat) : Int) - y_0.1.2.1)))))
     (some ((([] : List Int), ((0 : Int), ((3 : Int), ()))), ((), ((), ()))))
     (brR (((decide ((0 : Int) ≤ y_0.1.2.1)) && (decide (y_0.1.2.1 ≤ v_1))) && (decide (v_1 ≤ (((List.length b_) : Nat) : Int))))
      (Option.bind (c_slices_Clone_byte_byte ((List.take ((Int.toNat v_1) - (Int.toNat y_0.1.2.1)) (List.drop (Int.toNat y_0.1.2.1) b_)), ())) (fun (y_2 : (((List Int) × Unit) × (Unit × Unit))) =>
       (some ((y_2.1.1, (v_1, ((0 : Int), ()))), ((), ((), ()))))))
      none))))))

noncomputable def sol_wire_ReadBytes : F_wire_ReadBytes := fun x => T_wire_ReadBytes bigLoop sol_wire_ReadUint64 sol_slices_Clone_byte_byte x.1 x.2.1

/-- pontage/wire.ReadInt256 -/
abbrev s_wire_ReadInt256 : Sig := ⟨[(.ro false (.slice (.int .u8))), (.ro true (.int .i64))], [(.ro true (.pair .bool (.pair (.arr 4 (.int .u64)) .unit))), (.ro true (.int .i64)), (.ro true (.int .i64))]⟩
abbrev F_wire_ReadInt256 := ((List Int) × (Int × Unit)) → Option (((Bool × ((List Int) × Unit)) × (Int × (Int × Unit))) × (Unit × (Unit × Unit)))

noncomputable def T_wire_ReadInt256 (L : LoopD) (c_wire_ReadUint256 : F_wire_ReadUint256) (c_int256_Valid : F_int256_Valid) (b_ : (List Int)) (at_ : Int) : Option (((Bool × ((List Int) × Unit)) × (Int × (Int × Unit))) × (Unit × (Unit × Unit))) :=
  (brR (decide (at_ < (0 : Int)))
   (some (((false, ([(0 : Int), (0 : Int), (0 : Int), (0 : Int)], ())), ((0 : Int), ((2 : Int), ()))), ((), ((), ()))))
   (brR (decide (at_ > (((List.length b_) : Nat) : Int)))
    (some (((false, ([(0 : Int), (0 : Int), (0 : Int), (0 : Int)], ())), ((0 : Int), ((2 : Int), ()))), ((), ((), ()))))
    (brR (decide (at_ = (((List.length b_) : Nat) : Int)))
     (some (((false, ([(0 : Int), (0 : Int), (0 : Int), (0 : Int)], ())), ((0 : Int), ((3 : Int), ()))), ((), ((), ()))))
     (brR (Go.Pon.inR at_ (List.length b_))
      (brR (decide ((List.getD b_ (Int.toNat at_) (0 : Int)) > (1 : Int)))
       (some (((false, ([(0 : Int), (0 : Int), (0 : Int), (0 : Int)], ())), ((0 : Int), ((3 : Int), ()))), ((), ((), ()))))
       (Option.bind (c_wire_ReadUint256 (b_, ((Go.IntKind.wrap (Go.IntKind.i64) (at_ + (1 : Int))), ()))) (fun (y_0 : (((List Int) × (Int × (Int × Unit))) × (Unit × (Unit × Unit)))) =>
        (brR (Go.Pon.inR at_ (List.length b_))
         (brR (!(decide (y_0.1.2.2.1 = (0 : Int))))
          (some (((false, ([(0 : Int), (0 : Int), (0 : Int), (0 : Int)], ())), ((0 : Int), ((3 : Int), ()))), ((), ((), ()))))
          (Option.bind (c_int256_Valid (((decide ((List.getD b_ (Int.toNat at_) (0 : Int)) = (1 : Int))), (y_0.1.1, ())), ())) (fun (y_1 : ((Bool × Unit) × (Unit × Unit))) =>
           (brR (!y_1.1.1)
            (some (((false, ([(0 : Int), (0 : Int), (0 : Int), (0 : Int)], ())), ((0 : Int), ((3 : Int), ()))), ((), ((), ()))))
            (some ((((decide ((List.getD b_ (Int.toNat at_) (0 : Int)) = (1 : Int))), (y_0.1.1, ())), (y_0.1.2.1, ((0 : Int), ()))), ((), ((), ()))))))))
         none))))
      none))))

noncomputable def sol_wire_ReadInt256 : F_wire_ReadInt256 := fun x => T_wire_ReadInt256 bigLoop sol_wire_ReadUint256 sol_int256_Valid x.1 x.2.1

end Go.Pon
/-
  What package wire computes.
-/
set_option autoImplicit false
set_option linter.unusedVariables false
set_option linter.unusedSimpArgs false
namespace Go.Pon
open Go

theorem limb_byte (n j : Nat) : (n / 18446744073709551616 ^ (j / 8) % 18446744073709551616) / 2 ^ (8 * (j % 8)) % 256 = n / 256 ^ j % 256 := by
  rw [pow64, pow256, show (18446744073709551616 : Nat) = 2 ^ 64 from rfl, show (256 : Nat) = 2 ^ 8 from rfl]
  apply Nat.eq_of_testBit_eq
  intro k
  simp only [Nat.testBit_mod_two_pow, Nat.testBit_div_two_pow]
  by_cases hk : k < 8
  · rw [show decide (k + 8 * (j % 8) < 64) = true by simp; omega, show k + 8 * (j % 8) + 64 * (j / 8) = k + 8 * j by omega]; simp
  · simp [hk]

/-- Byte j of a number, as both programs take it out of its limbs. -/
theorem byte_out {n j : Nat} (hn : n < 115792089237316195423570985008687907853269984665640564039457584007913129639936) (hj : j < 32) :
    IntKind.wrap .u8 (Int.fdiv ((lim n).getD (j / 8) 0) ((2 : Int) ^ (min (8 * (j % 8)) 64))) = ((n / 256 ^ j % 256 : Nat) : Int) := by
  rw [lim_getD hn (by omega), Nat.min_eq_left (by omega), IntKind.wrap_u8, Int.fdiv_eq_ediv_of_nonneg _ (Int.pow_nonneg (by omega)), ← limb_byte n j]
  rfl

theorem encode_loop {n : Nat} (hn : n < 115792089237316195423570985008687907853269984665640564039457584007913129639936) {k : Nat} (hk : k ≤ 32) {out : List Int} (ho : out.length ≤ 100) :
    bigLoop _ _ (fun again x => T_wire_encode_loop0 again x.1 x.2.1 x.2.2.1) (lim n, (out, (((k : Nat) : Int) - 1, ()))) = some ((out ++ beB k n, ()), ((), ())) := by
  refine Eq.trans (bigLoop_rule (I := fun x => x.1 = lim n ∧ (-1 : Int) ≤ x.2.2.1 ∧ x.2.2.1 ≤ (31 : Int) ∧ (x.2.1.length : Int) + x.2.2.1 ≤ (131 : Int)) (m := fun x => (x.2.2.1 + 1).toNat) (g := fun x => some ((x.2.1 ++ beB (x.2.2.1 + 1).toNat n, ()), ((), ()))) ?_
    ⟨rfl, by simp only; omega, by simp only; omega, by simp only; omega⟩ (by simp only [bigN_eq]; omega)) ?_
  · rintro ⟨l, o, i, _⟩ again ⟨h1, h2, h3, h4⟩ hag
    simp only at h1 h2 h3 h4 hag ⊢
    subst h1
    simp only [T_wire_encode_loop0, letR_eq, brR_dec, brR_inR, ge_iff_le, append_def]
    by_cases hi : 0 ≤ i
    · obtain ⟨j, rfl⟩ := Int.eq_ofNat_of_zero_le hi
      rw [if_pos hi, tdiv_pos hi, tmod_pos hi, w_i64 (n := (j : Int) / 8) (by omega) (by omega), w_i64 (n := 8 * ((j : Int) % 8)) (by omega) (by omega), if_pos (by omega), if_pos (by omega), brR_room8 (by omega), w_i64 (by omega) (by omega)]
      rw [show ((j : Int) / 8).toNat = j / 8 by omega, show (8 * ((j : Int) % 8)).toNat = 8 * (j % 8) by omega, byte_out hn (by omega)]
      rw [hag _ ⟨rfl, by simp only; omega, by simp only; omega, by simp only [List.length_append, List.length_singleton]; omega⟩ (by simp only; omega)]
      simp only
      rw [show ((j : Int) - 1 + 1).toNat = j by omega, show ((j : Int) + 1).toNat = j + 1 by omega, beB]; simp
    · have : i = -1 := by omega
      subst this
      simp [beB]
  · simp only
    rw [show ((k : Int) - 1 + 1).toNat = k by omega]

/-- A number's encoding. -/
def enc (n : Nat) : List Int := ((bylen n : Nat) : Int) :: beB (bylen n) n

theorem len_enc {n : Nat} : (enc n).length = 1 + bylen n := by simp [enc, len_beB]; omega

theorem encode_eq {n : Nat} (hn : n < 115792089237316195423570985008687907853269984665640564039457584007913129639936) : sol_wire_encode (lim n, ()) = some ((enc n, ()), ((), ())) := by
  unfold sol_wire_encode T_wire_encode
  have h1 := bitlen_256 hn
  have h2 := bylen_256 hn
  have h3 : ((bitlen n : Nat) : Int) + 7 = ((bitlen n + 7 : Nat) : Int) := by omega
  rw [bitLen_eq hn]
  simp only [bind_some', letR_eq]
  rw [w_i64 (n := ((bitlen n : Nat) : Int) + 7) (by omega) (by omega), tdiv_pos (by omega), w_i64 (n := (((bitlen n : Nat) : Int) + 7) / 8) (by omega) (by omega), w_i64 (by omega) (by omega), w_u8 (by omega) (by omega)]
  rw [show (((bitlen n : Nat) : Int) + 7) / 8 = ((bylen n : Nat) : Int) by unfold bylen; omega]
  exact encode_loop hn h2 (by simp)

theorem appendUint256_eq {b : List Int} (hb : b.length ≤ 1000000000) {n : Nat} (hn : n < 115792089237316195423570985008687907853269984665640564039457584007913129639936) :
    sol_wire_AppendUint256 (b, (lim n, ())) = some ((b ++ enc n, ()), ((), ((), ()))) := by
  unfold sol_wire_AppendUint256 T_wire_AppendUint256
  have h2 := bylen_256 hn
  rw [encode_eq hn]
  simp only [bind_some']
  rw [concat_eq (by simp [len_enc]; omega) (by simp)]
  simp [bind_some']

theorem appendUint64_eq {b : List Int} (hb : b.length ≤ 1000000000) {n : Int} (h0 : 0 ≤ n) (h1 : n ≤ 18446744073709551615) :
    sol_wire_AppendUint64 (b, (n, ())) = some ((b ++ enc n.toNat, ()), ((), ((), ()))) := by
  unfold sol_wire_AppendUint64 T_wire_AppendUint64
  rw [fromUint64_eq h0 h1]
  simp only [bind_some']
  rw [appendUint256_eq hb (by omega)]
  simp [bind_some']

theorem appendBytes_eq {b x : List Int} (hb : b.length ≤ 1000000000) (hx : x.length ≤ 1000000000) :
    sol_wire_AppendBytes (b, (x, ())) = some ((b ++ (enc x.length ++ x), ()), ((), ((), ()))) := by
  unfold sol_wire_AppendBytes T_wire_AppendBytes
  have h2 := @bylen_64 x.length (by omega)
  simp only [letR_eq]
  rw [w_u64 (by omega) (by omega), fromUint64_eq (by omega) (by omega)]
  simp only [bind_some', Int.toNat_natCast]
  rw [encode_eq (by omega)]
  simp only [bind_some']
  rw [concat_eq (by simp [len_enc]; omega) (by simp)]
  simp [bind_some']

/-! ### Reading -/

def Bytes (b : List Int) : Prop := ∀ x ∈ b, 0 ≤ x ∧ x ≤ 255

theorem Bytes.drop {b : List Int} (h : Bytes b) (i : Nat) : Bytes (b.drop i) := fun x hx => h x (List.mem_of_mem_drop hx)
theorem Bytes.take {b : List Int} (h : Bytes b) (i : Nat) : Bytes (b.take i) := fun x hx => h x (List.mem_of_mem_take hx)
theorem Bytes.at {b : List Int} (h : Bytes b) (i : Nat) : 0 ≤ b.getD i 0 ∧ b.getD i 0 ≤ 255 := getD_all (p := fun x => 0 ≤ x ∧ x ≤ 255) h (by omega) i
theorem Bytes.append {a b : List Int} (ha : Bytes a) (hb : Bytes b) : Bytes (a ++ b) := fun x hx => by
  rcases List.mem_append.1 hx with h | h
  · exact ha x h
  · exact hb x h
theorem bytes_beB {k n : Nat} : Bytes (beB k n) := fun x hx => beB_byte x hx

theorem beV_take_succ {r : List Int} {i : Nat} (h : i < r.length) : beV (r.take (i + 1)) = beV (r.take i) * 256 + (r.getD i 0).toNat := by
  rw [List.take_succ_eq_append_getElem h, beV_append, List.getD_eq_getElem?_getD, List.getElem?_eq_getElem h]; rfl

theorem beV_take_lt {r : List Int} (hr : Bytes r) {i : Nat} (h : i ≤ r.length) : beV (r.take i) < 256 ^ i := by
  have := beV_lt (r.take i) (hr.take i)
  rwa [List.length_take, Nat.min_eq_left h] at this

theorem readUint_loop {r : List Int} (hr : Bytes r) {k : Nat} (hk : k ≤ 32) (hkr : k ≤ r.length) {at_ : Int} (h0 : 0 ≤ at_) (h1 : at_ ≤ 1099511627776) (t6 : List Int) :
    bigLoop _ _ (fun again x => T_wire_readUint_loop0 again x.1 x.2.1 x.2.2.1 x.2.2.2.1 x.2.2.2.2.1 x.2.2.2.2.2.1 x.2.2.2.2.2.2.1) (at_, (t6, (r, (((k : Nat) : Int), (lim 0, (((k : Nat) : Int), ((0 : Int), ()))))))) =
      some ((lim (beV (r.take k)), (at_ + 1 + k, ((0 : Int), ()))), ((), ((), ((), ())))) := by
  refine bigLoop_rule (I := fun x => x.1 = at_ ∧ x.2.2.1 = r ∧ x.2.2.2.1 = ((k : Nat) : Int) ∧ x.2.2.2.2.2.1 = ((k : Nat) : Int) ∧ (0 : Int) ≤ x.2.2.2.2.2.2.1 ∧ x.2.2.2.2.2.2.1 ≤ ((k : Nat) : Int) ∧ x.2.2.2.2.1 = lim (beV (r.take x.2.2.2.2.2.2.1.toNat) * 256 ^ (k - x.2.2.2.2.2.2.1.toNat)))
    (m := fun x => (((k : Nat) : Int) - x.2.2.2.2.2.2.1).toNat) (g := fun _ => some ((lim (beV (r.take k)), (at_ + 1 + k, ((0 : Int), ()))), ((), ((), ((), ()))))) ?_
    ⟨rfl, rfl, rfl, rfl, by simp only; omega, by simp only; omega, by simp [beV_nil]⟩ (by simp only [bigN_eq]; omega)
  rintro ⟨a, t, r', k', l, k2, i, _⟩ again ⟨e1, e2, e3, e4, e5, e6, e7⟩ hag
  simp only at e1 e2 e3 e4 e5 e6 e7 hag ⊢
  subst e1 e2 e3 e4 e7
  obtain ⟨i, rfl⟩ := Int.eq_ofNat_of_zero_le e5
  simp only [T_wire_readUint_loop0, letR_eq, brR_dec, brR_inR, Int.toNat_natCast]
  by_cases hi : i < k
  · obtain ⟨j, hj⟩ : ∃ j, k = i + 1 + j := ⟨k - i - 1, by omega⟩
    have e : ((k : Nat) : Int) - 1 - i = (j : Int) := by omega
    have hb := hr.at i
    have hA := beV_take_lt hr (i := i + 1) (by omega)
    have hs := beV_take_succ (r := r') (i := i) (by omega)
    rw [hs] at hA
    rw [if_pos (by omega), w_i64 (n := ((k : Nat) : Int) - 1) (by omega) (by omega), e, w_i64 (n := (j : Int)) (by omega) (by omega), tdiv_pos (by omega), tmod_pos (by omega), w_i64 (n := (j : Int) / 8) (by omega) (by omega),
      w_i64 (n := 8 * ((j : Int) % 8)) (by omega) (by omega), if_pos (by omega), if_pos (by omega), if_pos (by omega), if_pos (by omega), w_i64 (by omega) (by omega)]
    rw [show ((j : Int) / 8).toNat = j / 8 by omega, show (8 * ((j : Int) % 8)).toNat = 8 * (j % 8) by omega, show k - i = j + 1 by omega, w_u64 (n := r'.getD i 0) (by omega) (by omega)]
    obtain ⟨c, hc⟩ := Int.eq_ofNat_of_zero_le hb.1
    rw [hc] at hb hs hA ⊢
    rw [Int.toNat_natCast] at hs hA
    generalize hv : beV (r'.take i) = v at *
    have hp : 0 < 256 ^ j := Nat.pow_pos (by omega)
    have h3 : (v * 256 + c) * 256 ^ j < 256 ^ (i + 1) * 256 ^ j := Nat.mul_lt_mul_of_pos_right hA hp
    rw [← Nat.pow_add] at h3
    have h4 : (256 : Nat) ^ (i + 1 + j) ≤ 256 ^ 32 := Nat.pow_le_pow_right (by omega) (by omega)
    have h5 : v * 256 ^ (j + 1) + c * 256 ^ j = (v * 256 + c) * 256 ^ j := by rw [Nat.add_mul, Nat.pow_succ, Nat.mul_assoc v, Nat.mul_comm 256]
    have h6 : v * 256 ^ (j + 1) + c * 256 ^ j < 115792089237316195423570985008687907853269984665640564039457584007913129639936 := by
      rw [h5]; exact Nat.lt_of_lt_of_le h3 h4
    rw [lim_getD (by omega) (by omega), Nat.min_eq_left (by omega)]
    have h7 : (2 : Nat) ^ (8 * (j % 8)) ≤ 72057594037927936 := Nat.pow_le_pow_right (n := 2) (j := 56) (by omega) (by omega)
    have h8 : ((c : Nat) : Int) * 2 ^ (8 * (j % 8)) = ((c * 2 ^ (8 * (j % 8)) : Nat) : Int) := by rw [Int.natCast_mul, Int.natCast_pow]; rfl
    have h9 : c * 2 ^ (8 * (j % 8)) ≤ 255 * 72057594037927936 := Nat.mul_le_mul (by omega) h7
    have h10 : v * 256 ^ (j + 1) / 18446744073709551616 ^ (j / 8) % 18446744073709551616 < 18446744073709551616 := Nat.mod_lt _ (by omega)
    have h11 : v * 256 ^ (j + 1) / 18446744073709551616 ^ (j / 8) % 18446744073709551616 ||| c * 2 ^ (8 * (j % 8)) < 18446744073709551616 := Nat.or_lt_two_pow (n := 64) h10 (by omega)
    rw [h8, w_u64 (n := ((c * 2 ^ (8 * (j % 8)) : Nat) : Int)) (by omega) (by omega), or_bits h10 (by omega), w_u64 (by omega) (by omega), lim_set (by omega) (by omega) h6 rfl, h5]
    refine hag _ ⟨rfl, rfl, rfl, rfl, by simp only; omega, by simp only; omega, ?_⟩ (by simp only; omega)
    simp only
    rw [show ((i : Int) + 1).toNat = i + 1 by omega, hs, show k - (i + 1) = j by omega]
  · have : i = k := by omega
    subst this
    rw [if_neg (by omega), Nat.sub_self, Nat.pow_zero, Nat.mul_one, w_i64 (n := a + 1) (by omega) (by omega), w_i64 (by omega) (by omega)]

/-- A number of at most so many bytes at an offset, and the offset behind it. -/
def rdU (b : List Int) (i : Nat) (most : Nat) : Option (Nat × Nat) :=
  match b.drop i with
  | [] => none
  | k :: r => if most < k.toNat ∨ r.length < k.toNat ∨ (0 < k.toNat ∧ r.getD 0 0 = 0) then none else some (beV (r.take k.toNat), i + 1 + k.toNat)

/-- What a reader gives. -/
def readR (b : List Int) (at_ : Int) (most : Nat) : List Int × (Int × (Int × Unit)) :=
  if at_ < 0 ∨ b.length < at_ then (lim 0, (0, (2, ()))) else
    match rdU b at_.toNat most with
    | none => (lim 0, (0, (3, ())))
    | some (v, j) => (lim v, (j, (0, ())))

theorem readUint_eq {b : List Int} (hb : Bytes b) (hl : b.length ≤ 1000000000) {at_ : Int} (h1 : -9223372036854775808 ≤ at_) (h2 : at_ ≤ 9223372036854775807) {most : Nat} (hm : most ≤ 32) :
    sol_wire_readUint (b, (at_, (((most : Nat) : Int), ()))) = some (readR b at_ most, ((), ((), ((), ())))) := by
  unfold sol_wire_readUint T_wire_readUint readR
  simp only [letR_eq, brR_dec, brR_and]
  by_cases c1 : at_ < 0
  · rw [if_pos c1, if_pos (.inl c1)]; rfl
  rw [if_neg c1]
  by_cases c2 : b.length < at_
  · rw [if_pos (by omega), if_pos (.inr c2)]; rfl
  rw [if_neg (show ¬ at_ > (b.length : Int) by omega), if_neg (show ¬ (at_ < 0 ∨ (b.length : Int) < at_) by omega), if_pos (by omega), if_pos (by omega)]
  obtain ⟨i, rfl⟩ := Int.eq_ofNat_of_zero_le (show 0 ≤ at_ by omega)
  have hd := hb.drop i
  have hlen : (b.drop i).length = b.length - i := List.length_drop
  rw [Int.toNat_natCast, List.take_of_length_le (by omega)]
  unfold rdU
  generalize b.drop i = rest at *
  cases rest with
  | nil => rw [if_pos (by simp)]; rfl
  | cons k r =>
    have hk := hd k (by simp)
    have hr : Bytes r := fun x hx => hd x (by simp [hx])
    obtain ⟨k, rfl⟩ := Int.eq_ofNat_of_zero_le hk.1
    simp only [List.length_cons] at hlen
    rw [if_neg (by simp; omega), brR_inR, if_pos ⟨by omega, by simp⟩, if_pos (by simp; omega)]
    simp only [List.getD_cons_zero, List.drop_succ_cons, List.drop_zero, List.length_cons, Nat.add_sub_cancel, List.take_length]
    rw [w_i64 (by omega) (by omega)]
    by_cases c3 : most < k
    · rw [if_pos (by omega), if_pos (by omega)]; rfl
    rw [if_neg (by omega)]
    by_cases c4 : r.length < k
    · rw [if_pos (by omega), if_pos (by omega)]; rfl
    rw [if_neg (by omega)]
    have loop := readUint_loop hr (k := k) (by omega) (by omega) (at_ := (i : Int)) (by omega) (by omega)
    by_cases c5 : 0 < k
    · rw [if_pos (by omega), brR_inR, if_pos (by omega)]
      by_cases c6 : r.getD 0 0 = 0
      · rw [if_pos c6, if_pos (by simp only [Int.toNat_natCast]; omega)]; rfl
      · rw [if_neg c6, if_neg (by simp only [Int.toNat_natCast]; omega)]
        refine (loop _).trans ?_
        simp only [Int.toNat_natCast]
        rw [show ((i + 1 + k : Nat) : Int) = (i : Int) + 1 + k by omega]
    · rw [if_neg (by omega), if_neg (by simp only [Int.toNat_natCast]; omega)]
      refine (loop _).trans ?_
      simp only [Int.toNat_natCast]
      rw [show ((i + 1 + k : Nat) : Int) = (i : Int) + 1 + k by omega]

theorem readUint256_eq {b : List Int} (hb : Bytes b) (hl : b.length ≤ 1000000000) {at_ : Int} (h1 : -9223372036854775808 ≤ at_) (h2 : at_ ≤ 9223372036854775807) :
    sol_wire_ReadUint256 (b, (at_, ())) = some (readR b at_ 32, ((), ((), ()))) := by
  unfold sol_wire_ReadUint256 T_wire_ReadUint256
  rw [show ((32 : Int)) = ((32 : Nat) : Int) from rfl, readUint_eq hb hl h1 h2 (by omega)]
  simp only [bind_some']

theorem readR_bounds {b : List Int} (hb : Bytes b) (at_ : Int) {most : Nat} (hm : most ≤ 32) : ∃ v, v < 256 ^ most ∧ (readR b at_ most).1 = lim v ∧ 0 ≤ (readR b at_ most).2.1 ∧ (readR b at_ most).2.1 ≤ b.length ∧
    ((readR b at_ most).2.2.1 = 0 ∨ (readR b at_ most).2.2.1 = 2 ∨ (readR b at_ most).2.2.1 = 3) := by
  unfold readR
  have h0 : 0 < 256 ^ most := Nat.pow_pos (by omega)
  split
  · exact ⟨0, h0, rfl, by simp, by simp only; omega, by simp⟩
  · split
    · exact ⟨0, h0, rfl, by simp, by simp only; omega, by simp⟩
    · rename_i hc _ v j hv
      unfold rdU at hv
      split at hv
      · cases hv
      · rename_i k r hr
        split at hv
        · cases hv
        · rename_i hk
          cases hv
          have hl := congrArg List.length hr
          simp only [List.length_drop, List.length_cons] at hl
          have hbr : Bytes r := fun x hx => (hb.drop at_.toNat) x (by rw [hr]; simp [hx])
          refine ⟨_, Nat.lt_of_lt_of_le (beV_take_lt hbr (by omega)) (Nat.pow_le_pow_right (by omega) (by omega)), rfl, by simp only; omega, by simp only; omega, by simp⟩

theorem readUint64_eq {b : List Int} (hb : Bytes b) (hl : b.length ≤ 1000000000) {at_ : Int} (h1 : -9223372036854775808 ≤ at_) (h2 : at_ ≤ 9223372036854775807) :
    sol_wire_ReadUint64 (b, (at_, ())) = some ((((val4 (readR b at_ 8).1 : Nat) : Int), (readR b at_ 8).2), ((), ((), ()))) := by
  unfold sol_wire_ReadUint64 T_wire_ReadUint64
  obtain ⟨v, v1, v2, _⟩ := readR_bounds hb at_ (most := 8) (by omega)
  rw [show ((8 : Int)) = ((8 : Nat) : Int) from rfl, readUint_eq hb hl h1 h2 (by omega)]
  simp only [bind_some']
  have : (readR b at_ 8).1.getD 0 0 = ((val4 (readR b at_ 8).1 : Nat) : Int) := by
    rw [v2, val4_lim]; simp only [lim, List.getD_cons_zero]; omega
  rw [this]

/-- What ReadBytes gives. -/
def readB (b : List Int) (at_ : Int) : List Int × (Int × (Int × Unit)) :=
  if at_ < 0 ∨ b.length < at_ then ([], (0, (2, ()))) else
    match rdU b at_.toNat 8 with
    | none => ([], (0, (3, ())))
    | some (n, j) => if b.length - j < n then ([], (0, (3, ()))) else ((b.drop j).take n, ((j + n : Nat), (0, ())))

theorem rdU_le {b : List Int} {i most v j : Nat} (h : rdU b i most = some (v, j)) (hb : Bytes b) : i < j ∧ j ≤ b.length ∧ v < 256 ^ most ∧ j ≤ i + 1 + most := by
  unfold rdU at h
  split at h
  · cases h
  · rename_i k r hr
    split at h
    · cases h
    · rename_i hk
      cases h
      have hl := congrArg List.length hr
      simp only [List.length_drop, List.length_cons] at hl
      have hbr : Bytes r := fun x hx => (hb.drop i) x (by rw [hr]; simp [hx])
      exact ⟨by omega, by omega, Nat.lt_of_lt_of_le (beV_take_lt hbr (by omega)) (Nat.pow_le_pow_right (by omega) (by omega)), by omega⟩

theorem readBytes_eq {b : List Int} (hb : Bytes b) (hl : b.length ≤ 1000000000) {at_ : Int} (h1 : -9223372036854775808 ≤ at_) (h2 : at_ ≤ 9223372036854775807) :
    sol_wire_ReadBytes (b, (at_, ())) = some (readB b at_, ((), ((), ()))) := by
  unfold sol_wire_ReadBytes T_wire_ReadBytes readB
  rw [readUint64_eq hb hl h1 h2]
  simp only [bind_some', letR_eq, brR_dec, brR_not, brR_and]
  unfold readR
  by_cases c1 : at_ < 0 ∨ (b.length : Int) < at_
  · rw [if_pos c1, if_pos c1]; rfl
  rw [if_neg c1, if_neg c1]
  cases h : rdU b at_.toNat 8 with
  | none => rfl
  | some p =>
    obtain ⟨n, j⟩ := p
    obtain ⟨r1, r2, r3, _⟩ := rdU_le h hb
    have r3 : n < 18446744073709551616 := r3
    simp only [val4_lim]
    rw [if_pos trivial, w_i64 (n := (b.length : Int) - (j : Int)) (by omega) (by omega), w_u64 (by omega) (by omega)]
    by_cases c2 : b.length - j < n
    · rw [if_pos (by omega), if_pos c2]
    · rw [if_neg (by omega), if_neg c2, w_i64 (n := (n : Int)) (by omega) (by omega), w_i64 (n := (j : Int) + (n : Int)) (by omega) (by omega), if_pos (by omega), if_pos (by omega), if_pos (by omega)]
      rw [show ((j : Int) + (n : Int)).toNat - (j : Int).toNat = n by omega, Int.toNat_natCast, clone_eq (by rw [List.length_take, List.length_drop]; omega)]
      simp only [bind_some']
      rw [show ((j : Int) + (n : Int)) = ((j + n : Nat) : Int) by omega]

abbrev I256 := Bool × (List Int × Unit)

theorem i256_wf {a : I256} (h : (Ty.pair .bool (.pair (.arr 4 (.int .u64)) .unit)).wf a) : ∃ s n, n < 115792089237316195423570985008687907853269984665640564039457584007913129639936 ∧ a = (s, (lim n, ())) := by
  obtain ⟨s, l, _⟩ := a
  obtain ⟨_, h2, _⟩ := h
  obtain ⟨n, h3, h4⟩ := u256_wf h2
  exact ⟨s, n, h3, by rw [show l = lim n from h4]⟩

theorem eqD_lim (n m : Nat) : eqD (.arr 4 (.int .u64)) (lim n) (lim m) = decide (n = m) := by
  rw [Bool.eq_iff_iff, eqD_iff]; exact lim_inj.trans (by simp)

theorem valid_eq (s : Bool) (n : Nat) : sol_int256_Valid ((s, (lim n, ())), ()) = some ((!s || !decide (n = 0), ()), ((), ())) := by
  unfold sol_int256_Valid T_int256_Valid
  simp only [brR_not]
  rw [← lim_zero, eqD_lim]
  cases s <;> rfl

/-- The encoding of a signed number. -/
def encI (s : Bool) (n : Nat) : List Int := if s = true ∧ n = 0 then [] else (if s then 1 else 0) :: enc n

theorem appendInt256_eq {b : List Int} (hb : b.length ≤ 1000000000) {s : Bool} {n : Nat} (hn : n < 115792089237316195423570985008687907853269984665640564039457584007913129639936) :
    sol_wire_AppendInt256 (b, ((s, (lim n, ())), ())) = some ((b ++ encI s n, ()), ((), ((), ()))) := by
  unfold sol_wire_AppendInt256 T_wire_AppendInt256 encI
  have h2 := bylen_256 hn
  rw [valid_eq]
  simp only [bind_some', brR_not]
  rw [encode_eq hn]
  simp only [bind_some']
  rw [concat_eq (by simp [len_enc]; omega) (by simp), concat_eq (by simp [len_enc]; omega) (by simp), clone_eq (by omega)]
  simp only [bind_some']
  cases s
  · simp [brR_true, brR_false]
  · by_cases h0 : n = 0
    · simp [h0, brR_false]
    · simp [h0, brR_true]

/-- What ReadInt256 gives. -/
def readI (b : List Int) (at_ : Int) : I256 × (Int × (Int × Unit)) :=
  if at_ < 0 ∨ b.length < at_ then ((false, (lim 0, ())), (0, (2, ()))) else
    if b.length = at_.toNat ∨ 1 < b.getD at_.toNat 0 then ((false, (lim 0, ())), (0, (3, ()))) else
      match rdU b (at_.toNat + 1) 32 with
      | none => ((false, (lim 0, ())), (0, (3, ())))
      | some (n, j) => if b.getD at_.toNat 0 = 1 ∧ n = 0 then ((false, (lim 0, ())), (0, (3, ()))) else ((decide (b.getD at_.toNat 0 = 1), (lim n, ())), (j, (0, ())))

theorem readInt256_eq {b : List Int} (hb : Bytes b) (hl : b.length ≤ 1000000000) {at_ : Int} (h1 : -9223372036854775808 ≤ at_) (h2 : at_ ≤ 9223372036854775807) :
    sol_wire_ReadInt256 (b, (at_, ())) = some (readI b at_, ((), ((), ()))) := by
  unfold sol_wire_ReadInt256 T_wire_ReadInt256 readI
  simp only [letR_eq, brR_dec, brR_inR, brR_not]
  by_cases c1 : at_ < 0
  · rw [if_pos c1, if_pos (.inl c1)]; rfl
  rw [if_neg c1]
  by_cases c2 : b.length < at_
  · rw [if_pos (by omega), if_pos (.inr c2)]; rfl
  obtain ⟨i, rfl⟩ := Int.eq_ofNat_of_zero_le (show 0 ≤ at_ by omega)
  rw [if_neg (show ¬ (i : Int) > (b.length : Int) by omega), if_neg (show ¬ ((i : Int) < 0 ∨ (b.length : Int) < (i : Int)) by omega)]
  simp only [Int.toNat_natCast]
  by_cases c3 : b.length = i
  · rw [if_pos (by omega), if_pos (.inl c3)]; rfl
  rw [if_neg (by omega), if_pos (by omega)]
  by_cases c4 : 1 < b.getD i 0
  · rw [if_pos (by omega), if_pos (.inr c4)]; rfl
  rw [if_neg (show ¬ b.getD i 0 > 1 by omega), if_neg (show ¬ (b.length = i ∨ 1 < b.getD i 0) by omega), w_i64 (by omega) (by omega), show ((i : Int) + 1) = ((i + 1 : Nat) : Int) by omega, readUint256_eq hb hl (by omega) (by omega)]
  simp only [bind_some']
  unfold readR
  rw [if_neg (show ¬ (((i + 1 : Nat) : Int) < 0 ∨ (b.length : Int) < ((i + 1 : Nat) : Int)) by omega), Int.toNat_natCast, if_pos (by omega)]
  cases h : rdU b (i + 1) 32 with
  | none =>
    rw [valid_eq]
    rfl
  | some p =>
    obtain ⟨n, j⟩ := p
    simp only
    rw [valid_eq]
    simp only [bind_some', if_pos]
    rw [brR_or, brR_not, brR_not, brR_dec, brR_dec]
    by_cases c5 : b.getD i 0 = 1 <;> by_cases c6 : n = 0 <;> simp [c5, c6, lim_zero, -List.getD_eq_getElem?_getD]

end Go.Pon
/-
  SHA-256, plainly, on natural numbers.
-/
set_option autoImplicit false
set_option linter.unusedVariables false
set_option linter.unusedSimpArgs false
namespace Go.Pon
open Go

def xor32 (x y : Nat) : Nat := (x % 4294967296) ^^^ (y % 4294967296)
def and32 (x y : Nat) : Nat := (x % 4294967296) &&& (y % 4294967296)
def or32 (x y : Nat) : Nat := (x % 4294967296) ||| (y % 4294967296)
def add32 (x y : Nat) : Nat := (x + y) % 4294967296
def rotr (x n : Nat) : Nat := or32 (x * 2 ^ (32 - n) % 4294967296) (x / 2 ^ n)

theorem xor32_lt (x y : Nat) : xor32 x y < 4294967296 := Nat.xor_lt_two_pow (n := 32) (Nat.mod_lt _ (by omega)) (Nat.mod_lt _ (by omega))
theorem and32_lt (x y : Nat) : and32 x y < 4294967296 := Nat.and_lt_two_pow (n := 32) _ (Nat.mod_lt _ (by omega))
theorem or32_lt (x y : Nat) : or32 x y < 4294967296 := Nat.or_lt_two_pow (n := 32) (Nat.mod_lt _ (by omega)) (Nat.mod_lt _ (by omega))
theorem add32_lt (x y : Nat) : add32 x y < 4294967296 := Nat.mod_lt _ (by omega)
theorem or32_comm (x y : Nat) : or32 x y = or32 y x := Nat.or_comm _ _
theorem add32_assoc (x y z : Nat) : add32 (add32 x y) z = add32 x (add32 y z) := by unfold add32; omega

theorem wu32_nat (x : Nat) : IntKind.wrap .u32 ((x : Nat) : Int) = ((x % 4294967296 : Nat) : Int) := by rw [IntKind.wrap_u32]; omega
theorem x32 (x y : Nat) : IntKind.wrap .u32 ((BitVec.toNat (BitVec.ofInt 32 ((x : Nat) : Int) ^^^ BitVec.ofInt 32 ((y : Nat) : Int)) : Nat) : Int) = ((xor32 x y : Nat) : Int) := by
  rw [BitVec.toNat_xor, BitVec.ofInt_natCast, BitVec.ofInt_natCast, BitVec.toNat_ofNat, BitVec.toNat_ofNat, wu32_nat, ← Nat.mod_eq_of_lt (xor32_lt x y)]; rfl
theorem n32 (x y : Nat) : IntKind.wrap .u32 ((BitVec.toNat (BitVec.ofInt 32 ((x : Nat) : Int) &&& BitVec.ofInt 32 ((y : Nat) : Int)) : Nat) : Int) = ((and32 x y : Nat) : Int) := by
  rw [BitVec.toNat_and, BitVec.ofInt_natCast, BitVec.ofInt_natCast, BitVec.toNat_ofNat, BitVec.toNat_ofNat, wu32_nat, ← Nat.mod_eq_of_lt (and32_lt x y)]; rfl
theorem o32 (x y : Nat) : IntKind.wrap .u32 ((BitVec.toNat (BitVec.ofInt 32 ((x : Nat) : Int) ||| BitVec.ofInt 32 ((y : Nat) : Int)) : Nat) : Int) = ((or32 x y : Nat) : Int) := by
  rw [BitVec.toNat_or, BitVec.ofInt_natCast, BitVec.ofInt_natCast, BitVec.toNat_ofNat, BitVec.toNat_ofNat, wu32_nat, ← Nat.mod_eq_of_lt (or32_lt x y)]; rfl
theorem a32 (x y : Nat) : IntKind.wrap .u32 (((x : Nat) : Int) + ((y : Nat) : Int)) = ((add32 x y : Nat) : Int) := by rw [← Int.natCast_add, wu32_nat]; rfl
theorem m32 (x c : Nat) : IntKind.wrap .u32 (((x : Nat) : Int) * ((c : Nat) : Int)) = ((x * c % 4294967296 : Nat) : Int) := by rw [← Int.natCast_mul, wu32_nat]
theorem d32 (x c : Nat) : Int.fdiv ((x : Nat) : Int) ((c : Nat) : Int) = ((x / c : Nat) : Int) := by rw [Int.fdiv_eq_ediv_of_nonneg _ (Int.natCast_nonneg _)]; rfl

def sig (r1 r2 s x : Nat) : Nat := xor32 (xor32 (rotr x r1) (rotr x r2)) (x / s)
def sum3 (r1 r2 r3 x : Nat) : Nat := xor32 (xor32 (rotr x r1) (rotr x r2)) (rotr x r3)

/-- The word at place i of a block of bytes. -/
def word (b : List Int) (i : Nat) : Nat := (b.getD (4 * i) 0).toNat * 16777216 + (b.getD (4 * i + 1) 0).toNat * 65536 + (b.getD (4 * i + 2) 0).toNat * 256 + (b.getD (4 * i + 3) 0).toNat

def nextW (l : List Nat) (i : Nat) : Nat := add32 (add32 (add32 (l.getD (i - 16) 0) (sig 7 18 8 (l.getD (i - 15) 0))) (l.getD (i - 7) 0)) (sig 17 19 1024 (l.getD (i - 2) 0))

/-- The first i words of the schedule. -/
def sched (b : List Int) : Nat → List Nat
  | 0 => []
  | i + 1 => sched b i ++ [if i < 16 then word b i else nextW (sched b i) i]

def kTab : List Nat := [
  0x428a2f98, 0x71374491, 0xb5c0fbcf, 0xe9b5dba5, 0x3956c25b, 0x59f111f1, 0x923f82a4, 0xab1c5ed5,
  0xd807aa98, 0x12835b01, 0x243185be, 0x550c7dc3, 0x72be5d74, 0x80deb1fe, 0x9bdc06a7, 0xc19bf174,
  0xe49b69c1, 0xefbe4786, 0x0fc19dc6, 0x240ca1cc, 0x2de92c6f, 0x4a7484aa, 0x5cb0a9dc, 0x76f988da,
  0x983e5152, 0xa831c66d, 0xb00327c8, 0xbf597fc7, 0xc6e00bf3, 0xd5a79147, 0x06ca6351, 0x14292967,
  0x27b70a85, 0x2e1b2138, 0x4d2c6dfc, 0x53380d13, 0x650a7354, 0x766a0abb, 0x81c2c92e, 0x92722c85,
  0xa2bfe8a1, 0xa81a664b, 0xc24b8b70, 0xc76c51a3, 0xd192e819, 0xd6990624, 0xf40e3585, 0x106aa070,
  0x19a4c116, 0x1e376c08, 0x2748774c, 0x34b0bcb5, 0x391c0cb3, 0x4ed8aa4a, 0x5b9cca4f, 0x682e6ff3,
  0x748f82ee, 0x78a5636f, 0x84c87814, 0x8cc70208, 0x90befffa, 0xa4506ceb, 0xbef9a3f7, 0xc67178f2]

def iv : List Nat := [0x6a09e667, 0xbb67ae85, 0x3c6ef372, 0xa54ff53a, 0x510e527f, 0x9b05688c, 0x1f83d9ab, 0x5be0cd19]

/-- One round, with the round's constant and word. -/
def rnd (t : List Nat) (k w : Nat) : List Nat :=
  let a := t.getD 0 0; let b := t.getD 1 0; let c := t.getD 2 0; let e := t.getD 4 0; let f := t.getD 5 0; let g := t.getD 6 0
  let p := add32 (add32 (add32 (add32 (t.getD 7 0) (sum3 6 11 25 e)) (xor32 (and32 e f) (and32 (xor32 4294967295 e) g))) k) w
  [add32 (add32 p (sum3 2 13 22 a)) (xor32 (xor32 (and32 a b) (and32 a c)) (and32 b c)), a, b, c, add32 (t.getD 3 0) p, e, f, g]

def rounds (w s : List Nat) : Nat → List Nat
  | 0 => s
  | i + 1 => rnd (rounds w s i) (kTab.getD i 0) (w.getD i 0)

def addL (t s : List Nat) (i : Nat) : List Nat := (List.range 8).map fun j => if j < i then add32 (t.getD j 0) (s.getD j 0) else t.getD j 0

/-- The state after a block. -/
def comp (s : List Nat) (b : List Int) : List Nat := addL (rounds (sched b 64) s 64) s 8

/-- The state after so many blocks of a message. -/
def states (m : List Int) : Nat → List Nat
  | 0 => iv
  | i + 1 => comp (states m i) ((m.drop (64 * i)).take 64)

/-- The padded message. -/
def padded (b : List Int) : List Int := b ++ 128 :: (List.replicate ((119 - b.length % 64) % 64) 0 ++ beB 8 (b.length * 8))

def shaOut (s : List Nat) : List Int := (List.range 32).map fun i => ((s.getD (i / 4) 0 / 2 ^ (24 - 8 * (i % 4)) % 256 : Nat) : Int)

/-- The hash. -/
def sha (b : List Int) : List Int := shaOut (states (padded b) ((padded b).length / 64))

theorem len_sha (b : List Int) : (sha b).length = 32 := by simp [sha, shaOut]
theorem bytes_sha (b : List Int) : Bytes (sha b) := by
  intro x hx
  simp only [sha, shaOut, List.mem_map] at hx
  obtain ⟨i, _, rfl⟩ := hx
  omega

set_option maxRecDepth 100000 in
theorem sha_nil : sha [] = [0xe3, 0xb0, 0xc4, 0x42, 0x98, 0xfc, 0x1c, 0x14, 0x9a, 0xfb, 0xf4, 0xc8, 0x99, 0x6f, 0xb9, 0x24, 0x27, 0xae, 0x41, 0xe4, 0x64, 0x9b, 0x93, 0x4c, 0xa4, 0x95, 0x99, 0x1b, 0x78, 0x52, 0xb8, 0x55] := by kernel_rfl

set_option maxRecDepth 100000 in
theorem sha_abc : sha [97, 98, 99] = [0xba, 0x78, 0x16, 0xbf, 0x8f, 0x01, 0xcf, 0xea, 0x41, 0x41, 0x40, 0xde, 0x5d, 0xae, 0x22, 0x23, 0xb0, 0x03, 0x61, 0xa3, 0x96, 0x17, 0x7a, 0x9c, 0xb4, 0x10, 0xff, 0x61, 0xf2, 0x00, 0x15, 0xad] := by kernel_rfl

end Go.Pon
