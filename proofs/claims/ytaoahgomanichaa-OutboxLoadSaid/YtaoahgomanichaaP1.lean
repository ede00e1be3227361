/-
  Part of a proof: general lemmas, merged by a program of this work.
-/
import Derived.Test.YtaoahgomanichaaF3
/-
  What the functions of package math_bits compute (printed by a program of this work).
-/
set_option autoImplicit false
set_option linter.unusedVariables false
set_option maxRecDepth 100000
namespace Go.Pon
open Go

/-- math/bits.RotateLeft32 -/
abbrev s_math_bits_RotateLeft32 : Sig := ⟨[(.ro true (.int .u32)), (.ro true (.int .i64))], [(.ro true (.int .u32))]⟩
abbrev F_math_bits_RotateLeft32 := (Int × (Int × Unit)) → Option ((Int × Unit) × (Unit × (Unit × Unit)))

noncomputable def T_math_bits_RotateLeft32 (L : LoopD) (x_ : Int) (k_ : Int) : Option ((Int × Unit) × (Unit × (Unit × Unit))) :=
  (letR (Go.IntKind.wrap (Go.IntKind.u64) (((BitVec.toNat ((BitVec.ofInt (64 : Nat) (Go.IntKind.wrap (Go.IntKind.u64) k_)) &&& (BitVec.ofInt (64 : Nat) (31 : Int)))) : Nat) : Int)) fun (v_0 : Int) =>
  (letR (Go.IntKind.wrap (Go.IntKind.u64) ((32 : Int) - v_0)) fun (v_1 : Int) =>
  (brR (decide ((0 : Int) ≤ v_0))
   (brR (decide ((0 : Int) ≤ v_1))
    (some (((Go.IntKind.wrap (Go.IntKind.u32) (((BitVec.toNat ((BitVec.ofInt (32 : Nat) (Go.IntKind.wrap (Go.IntKind.u32) (x_ * ((2 : Int) ^ (min (Int.toNat v_0) (32 : Nat)))))) ||| (BitVec.ofInt (32 : Nat) (Int.fdiv x_ ((2 : Int) ^ (min (Int.toNat v_1) (32 : Nat))))))) : Nat) : Int)), ()), ((), ((), ()))))
    none)
   none)))

noncomputable def sol_math_bits_RotateLeft32 : F_math_bits_RotateLeft32 := fun x => T_math_bits_RotateLeft32 bigLoop x.1 x.2.1

/-- math/bits.Len64 -/
abbrev s_math_bits_Len64 : Sig := ⟨[(.ro true (.int .u64))], [(.ro true (.int .i64))]⟩
abbrev F_math_bits_Len64 := (Int × Unit) → Option ((Int × Unit) × (Unit × Unit))

noncomputable def T_math_bits_Len64 (L : LoopD) (x_ : Int) : Option ((Int × Unit) × (Unit × Unit)) :=
  (brR (decide (x_ ≥ (4294967296 : Int)))
   (brR (decide ((Int.fdiv x_ (4294967296 : Int)) ≥ (65536 : Int)))
    (brR (decide ((Int.fdiv (Int.fdiv x_ (4294967296 : Int)) (65536 : Int)) ≥ (256 : Int)))
     (brR (Go.Pon.inR (Go.IntKind.wrap (Go.IntKind.u8) (Int.fdiv (Int.fdiv (Int.fdiv x_ (4294967296 : Int)) (65536 : Int)) (256 : Int))) (256 : Nat))
      (some (((Go.IntKind.wrap (Go.IntKind.i64) ((56 : Int) + (Go.IntKind.wrap (Go.IntKind.i64) (List.getD [(0 : Int), (1 : Int), (2 : Int), (2 : Int), (3 : Int), (3 : Int), (3 : Int), (3 : Int), (4 : Int), (4 : Int), (4 : Int), (4 : Int), (4 : Int), (4 : Int), (4 : Int), (4 : Int), (5 : Int), (5 : Int), (5 : Int), (5 : Int), (5 : Int), (5 : Int), (5 : Int), (5 : Int), (5 : Int), (5 : Int), (5 : Int), (5 : Int), (5 : Int), (5 : Int), (5 : Int), (5 : Int), (6 : Int), (6 : Int), (6 : Int), (6 : Int), (6 : Int), (6 : Int), (6 : Int), (6 : Int), (6 : Int), (6 : Int), (6 : Int), (6 : Int), (6 : Int), (6 : Int), (6 : Int), (6 : Int), (6 : Int), (6 : Int), (6 : Int), (6 : Int), (6 : Int), (6 : Int), (6 : Int), (6 : Int), (6 : Int), (6 : Int), (6 : Int), (6 : Int), (6 : Int), (6 : Int), (6 : Int), (6 : Int), (7 : Int), (7 : Int), (7 : Int), (7 : Int), (7 : Int), (7 : Int), (7 : Int), (7 : Int), (7 : Int), (7 : Int), (7 : Int), (7 : Int), (7 : Int), (7 : Int), (7 : Int), (7 : Int), (7 : Int), (7 : Int), (7 : Int), (7 : Int), (7 : Int), (7 : Int), (7 : Int), (7 : Int), (7 : Int), (7 : Int), (7 : Int), (7 : Int), (7 : Int), (7 : Int), (7 : Int), (7 : Int), (7 : Int), (7 : Int), (7 : Int), (7 : Int), (7 : Int), (7 : Int), (7 : Int), (7 : Int), (7 : Int), (7 : Int), (7 : Int), (7 : Int), (7 : Int), (7 : Int), (7 : Int), (7 : Int), (7 : Int), (7 : Int), (7 : Int), (7 : Int), (7 : Int), (7 : Int), (7 : Int), (7 : Int), (7 : Int), (7 : Int), (7 : Int), (7 : Int), (7 : Int), (7 : Int), (7 : Int), (7 : Int), (8 : Int), (8 : Int), (8 : Int), (8 : Int), (8 : Int), (8 : Int), (8 : Int), (8 : Int), (8 : Int), (8 : Int), (8 : Int), (8 : Int), (8 : Int), (8 : Int), (8 : Int), (8 : Int), (8 : Int), (8 : Int), (8 : Int), (8 : Int), (8 : Int), (8 : Int), (8 : Int), (8 : Int), (8 : Int), (8 : Int), (8 : Int), (8 : Int), (8 : Int), (8 : Int), (8 : Int), (8 : Int), (8 : Int), (8 : Int), (8 : Int), (8 : Int), (8 : Int), (8 : Int), (8 : Int), (8 : Int), (8 : Int), (8 : Int), (8 : Int), (8 : Int), (8 : Int), (8 : Int), (8 : Int), (8 : Int), (8 : Int), (8 : Int), (8 : Int), (8 : Int), (8 : Int), (8 : Int), (8 : Int), (8 : Int), (8 : Int), (8 : Int), (8 : Int), (8 : Int), (8 : Int), (8 : Int), (8 : Int), (8 : Int), (8 : Int), (8 : Int), (8 : Int), (8 : Int), (8 : Int), (8 : Int), (8 : Int), (8 : Int), (8 : Int), (8 : Int), (8 : Int), (8 : Int), (8 : Int), (8 : Int), (8 : Int), (8 : Int), (8 : Int), (8 : Int), (8 : Int), (8 : Int), (8 : Int), (8 : Int), (8 : Int), (8 : Int), (8 : Int), (8 : Int), (8 : Int), (8 : Int), (8 : Int), (8 : Int), (8 : Int), (8 : Int), (8 : Int), (8 : Int), (8 : Int), (8 : Int), (8 : Int), (8 : Int), (8 : Int), (8 : Int), (8 : Int), (8 : Int), (8 : Int), (8 : Int), (8 : Int), (8 : Int), (8 : Int), (8 : Int), (8 : Int), (8 : Int), (8 : Int), (8 : Int), (8 : Int), (8 : Int), (8 : Int), (8 : Int), (8 : Int), (8 : Int), (8 : Int), (8 : Int), (8 : Int), (8 : Int), (8 : Int), (8 : Int)] (Int.toNat (Go.IntKind.wrap (Go.IntKind.u8) (Int.fdiv (Int.fdiv (Int.fdiv x_ (4294967296 : Int)) (65536 : Int)) (256 : Int)))) (0 : Int))))), ()), ((), ())))
      none)
     (brR (Go.Pon.inR (Go.IntKind.wrap (Go.IntKind.u8) (Int.fdiv (Int.fdiv x_ (4294967296 : Int)) (65536 : Int))) (256 : Nat))
      (some (((Go.IntKind.wrap (Go.IntKind.i64) ((48 : Int) + (Go.IntKind.wrap (Go.IntKind.i64) (List.getD [(0 : Int), (1 : Int), (2 : Int), (2 : Int), (3 : Int), (3 : Int), (3 : Int), (3 : Int), (4 : Int), (4 : Int), (4 : Int), (4 : Int), (4 : Int), (4 : Int), (4 : Int), (4 : Int), (5 : Int), (5 : Int), (5 : Int), (5 : Int), (5 : Int), (5 : Int), (5 : Int), (5 : Int), (5 : Int), (5 : Int), (5 : Int), (5 : Int), (5 : Int), (5 : Int), (5 : Int), (5 : Int), (6 : Int), (6 : Int), (6 : Int), (6 : Int), (6 : Int), (6 : Int), (6 : Int), (6 : Int), (6 : Int), (6 : Int), (6 : Int), (6 : Int), (6 : Int), (6 : Int), (6 : Int), (6 : Int), (6 : Int), (6 : Int), (6 : Int), (6 : Int), (6 : Int), (6 : Int), (6 : Int), (6 : Int), (6 : Int), (6 : Int), (6 : Int), (6 : Int), (6 : Int), (6 : Int), (6 : Int), (6 : Int), (7 : Int), (7 : Int), (7 : Int), (7 : Int), (7 : Int), (7 : Int), (7 : Int), (7 : Int), (7 : Int), (7 : Int), (7 : Int), (7 : Int), (7 : Int), (7 : Int), (7 : Int), (7 : Int), (7 : Int), (7 : Int), (7 : Int), (7 : Int), (7 : Int), (7 : Int), (7 : Int), (7 : Int), (7 : Int), (7 : Int), (7 : Int), (7 : Int), (7 : Int), (7 : Int), (7 : Int), (7 : Int), (7 : Int), (7 : Int), (7 : Int), (7 : Int), (7 : Int), (7 : Int), (7 : Int), (7 : Int), (7 : Int), (7 : Int), (7 : Int), (7 : Int), (7 : Int), (7 : Int), (7 : Int), (7 : Int), (7 : Int), (7 : Int), (7 : Int), (7 : Int), (7 : Int), (7 : Int), (7 : Int), (7 : Int), (7 : Int), (7 : Int), (7 : Int), (7 : Int), (7 : Int), (7 : Int), (7 : Int), (7 : Int), (8 : Int), (8 : Int), (8 : Int), (8 : Int), (8 : Int), (8 : Int), (8 : Int), (8 : Int), (8 : Int), (8 : Int), (8 : Int), (8 : Int), (8 : Int), (8 : Int), (8 : Int), (8 : Int), (8 : Int), (8 : Int), (8 : Int), (8 : Int), (8 : Int), (8 : Int), (8 : Int), (8 : Int), (8 : Int), (8 : Int), (8 : Int), (8 : Int), (8 : Int), (8 : Int), (8 : Int), (8 : Int), (8 : Int), (8 : Int), (8 : Int), (8 : Int), (8 : Int), (8 : Int), (8 : Int), (8 : Int), (8 : Int), (8 : Int), (8 : Int), (8 : Int), (8 : Int), (8 : Int), (8 : Int), (8 : Int), (8 : Int), (8 : Int), (8 : Int), (8 : Int), (8 : Int), (8 : Int), (8 : Int), (8 : Int), (8 : Int), (8 : Int), (8 : Int), (8 : Int), (8 : Int), (8 : Int), (8 : Int), (8 : Int), (8 : Int), (8 : Int), (8 : Int), (8 : Int), (8 : Int), (8 : Int), (8 : Int), (8 : Int), (8 : Int), (8 : Int), (8 : Int), (8 : Int), (8 : Int), (8 : Int), (8 : Int), (8 : Int), (8 : Int), (8 : Int), (8 : Int), (8 : Int), (8 : Int), (8 : Int), (8 : Int), (8 : Int), (8 : Int), (8 : Int), (8 : Int), (8 : Int), (8 : Int), (8 : Int), (8 : Int), (8 : Int), (8 : Int), (8 : Int), (8 : Int), (8 : Int), (8 : Int), (8 : Int), (8 : Int), (8 : Int), (8 : Int), (8 : Int), (8 : Int), (8 : Int), (8 : Int), (8 : Int), (8 : Int), (8 : Int), (8 : Int), (8 : Int), (8 : Int), (8 : Int), (8 : Int), (8 : Int), (8 : Int), (8 : Int), (8 : Int), (8 : Int), (8 : Int), (8 : Int), (8 : Int), (8 : Int), (8 : Int), (8 : Int)] (Int.toNat (Go.IntKind.wrap (Go.IntKind.u8) (Int.fdiv (Int.fdiv x_ (4294967296 : Int)) (65536 : Int)))) (0 : Int))))), ()), ((), ())))
      none))
    (brR (decide ((Int.fdiv x_ (4294967296 : Int)) ≥ (256 : Int)))
     (brR (Go.Pon.inR (Go.IntKind.wrap (Go.IntKind.u8) (Int.fdiv (Int.fdiv x_ (4294967296 : Int)) (256 : Int))) (256 : Nat))
      (some (((Go.IntKind.wrap (Go.IntKind.i64) ((40 : Int) + (Go.IntKind.wrap (Go.IntKind.i64) (List.getD [(0 : Int), (1 : Int), (2 : Int), (2 : Int), (3 : Int), (3 : Int), (3 : Int), (3 : Int), (4 : Int), (4 : Int), (4 : Int), (4 : Int), (4 : Int), (4 : Int), (4 : Int), (4 : Int), (5 : Int), (5 : Int), (5 : Int), (5 : Int), (5 : Int), (5 : Int), (5 : Int), (5 : Int), (5 : Int), (5 : Int), (5 : Int), (5 : Int), (5 : Int), (5 : Int), (5 : Int), (5 : Int), (6 : Int), (6 : Int), (6 : Int), (6 : Int), (6 : Int), (6 : Int), (6 : Int), (6 : Int), (6 : Int), (6 : Int), (6 : Int), (6 : Int), (6 : Int), (6 : Int), (6 : Int), (6 : Int), (6 : Int), (6 : Int), (6 : Int), (6 : Int), (6 : Int), (6 : Int), (6 : Int), (6 : Int), (6 : Int), (6 : Int), (6 : Int), (6 : Int), (6 : Int), (6 : Int), (6 : Int), (6 : Int), (7 : Int), (7 : Int), (7 : Int), (7 : Int), (7 : Int), (7 : Int), (7 : Int), (7 : Int), (7 : Int), (7 : Int), (7 : Int), (7 : Int), (7 : Int), (7 : Int), (7 : Int), (7 : Int), (7 : Int), (7 : Int), (7 : Int), (7 : Int), (7 : Int), (7 : Int), (7 : Int), (7 : Int), (7 : Int), (7 : Int), (7 : Int), (7 : Int), (7 : Int), (7 : Int), (7 : Int), (7 : Int), (7 : Int), (7 : Int), (7 : Int), (7 : Int), (7 : Int), (7 : Int), (7 : Int), (7 : Int), (7 : Int), (7 : Int), (7 : Int), (7 : Int), (7 : Int), (7 : Int), (7 : Int), (7 : Int), (7 : Int), (7 : Int), (7 : Int), (7 : Int), (7 : Int), (7 : Int), (7 : Int), (7 : Int), (7 : Int), (7 : Int), (7 : Int), (7 : Int), (7 : Int), (7 : Int), (7 : Int), (7 : Int), (8 : Int), (8 : Int), (8 : Int), (8 : Int), (8 : Int), (8 : Int), (8 : Int), (8 : Int), (8 : Int), (8 : Int), (8 : Int), (8 : Int), (8 : Int), (8 : Int), (8 : Int), (8 : Int), (8 : Int), (8 : Int), (8 : Int), (8 : Int), (8 : Int), (8 : Int), (8 : Int), (8 : Int), (8 : Int), (8 : Int), (8 : Int), (8 : Int), (8 : Int), (8 : Int), (8 : Int), (8 : Int), (8 : Int), (8 : Int), (8 : Int), (8 : Int), (8 : Int), (8 : Int), (8 : Int), (8 : Int), (8 : Int), (8 : Int), (8 : Int), (8 : Int), (8 : Int), (8 : Int), (8 : Int), (8 : Int), (8 : Int), (8 : Int), (8 : Int), (8 : Int), (8 : Int), (8 : Int), (8 : Int), (8 : Int), (8 : Int), (8 : Int), (8 : Int), (8 : Int), (8 : Int), (8 : Int), (8 : Int), (8 : Int), (8 : Int), (8 : Int), (8 : Int), (8 : Int), (8 : Int), (8 : Int), (8 : Int), (8 : Int), (8 : Int), (8 : Int), (8 : Int), (8 : Int), (8 : Int), (8 : Int), (8 : Int), (8 : Int), (8 : Int), (8 : Int), (8 : Int), (8 : Int), (8 : Int), (8 : Int), (8 : Int), (8 : Int), (8 : Int), (8 : Int), (8 : Int), (8 : Int), (8 : Int), (8 : Int), (8 : Int), (8 : Int), (8 : Int), (8 : Int), (8 : Int), (8 : Int), (8 : Int), (8 : Int), (8 : Int), (8 : Int), (8 : Int), (8 : Int), (8 : Int), (8 : Int), (8 : Int), (8 : Int), (8 : Int), (8 : Int), (8 : Int), (8 : Int), (8 : Int), (8 : Int), (8 : Int), (8 : Int), (8 : Int), (8 : Int), (8 : Int), (8 : Int), (8 : Int), (8 : Int), (8 : Int), (8 : Int), (8 : Int), (8 : Int)] (Int.toNat (Go.IntKind.wrap (Go.IntKind.u8) (Int.fdiv (Int.fdiv x_ (4294967296 : Int)) (256 : Int)))) (0 : Int))))), ()), ((), ())))
      none)
     (brR (Go.Pon.inR (Go.IntKind.wrap (Go.IntKind.u8) (Int.fdiv x_ (4294967296 : Int))) (256 : Nat))
      (some (((Go.IntKind.wrap (Go.IntKind.i64) ((32 : Int) + (Go.IntKind.wrap (Go.IntKind.i64) (List.getD [(0 : Int), (1 : Int), (2 : Int), (2 : Int), (3 : Int), (3 : Int), (3 : Int), (3 : Int), (4 : Int), (4 : Int), (4 : Int), (4 : Int), (4 : Int), (4 : Int), (4 : Int), (4 : Int), (5 : Int), (5 : Int), (5 : Int), (5 : Int), (5 : Int), (5 : Int), (5 : Int), (5 : Int), (5 : Int), (5 : Int), (5 : Int), (5 : Int), (5 : Int), (5 : Int), (5 : Int), (5 : Int), (6 : Int), (6 : Int), (6 : Int), (6 : Int), (6 : Int), (6 : Int), (6 : Int), (6 : Int), (6 : Int), (6 : Int), (6 : Int), (6 : Int), (6 : Int), (6 : Int), (6 : Int), (6 : Int), (6 : Int), (6 : Int), (6 : Int), (6 : Int), (6 : Int), (6 : Int), (6 : Int), (6 : Int), (6 : Int), (6 : Int), (6 : Int), (6 : Int), (6 : Int), (6 : Int), (6 : Int), (6 : Int), (7 : Int), (7 : Int), (7 : Int), (7 : Int), (7 : Int), (7 : Int), (7 : Int), (7 : Int), (7 : Int), (7 : Int), (7 : Int), (7 : Int), (7 : Int), (7 : Int), (7 : Int), (7 : Int), (7 : Int), (7 : Int), (7 : Int), (7 : Int), (7 : Int), (7 : Int), (7 : Int), (7 : Int), (7 : Int), (7 : Int), (7 : Int), (7 : Int), (7 : Int), (7 : Int), (7 : Int), (7 : Int), (7 : Int), (7 : Int), (7 : Int), (7 : Int), (7 : Int), (7 : Int), (7 : Int), (7 : Int), (7 : Int), (7 : Int), (7 : Int), (7 : Int), (7 : Int), (7 : Int), (7 : Int), (7 : Int), (7 : Int), (7 : Int), (7 : Int), (7 : Int), (7 : Int), (7 : Int), (7 : Int), (7 : Int), (7 : Int), (7 : Int), (7 : Int), (7 : Int), (7 : Int), (7 : Int), (7 : Int), (7 : Int), (8 : Int), (8 : Int), (8 : Int), (8 : Int), (8 : Int), (8 : Int), (8 : Int), (8 : Int), (8 : Int), (8 : Int), (8 : Int), (8 : Int), (8 : Int), (8 : Int), (8 : Int), (8 : Int), (8 : Int), (8 : Int), (8 : Int), (8 : Int), (8 : Int), (8 : Int), (8 : Int), (8 : Int), (8 : Int), (8 : Int), (8 : Int), (8 : Int), (8 : Int), (8 : Int), (8 : Int), (8 : Int), (8 : Int), (8 : Int), (8 : Int), (8 : Int), (8 : Int), (8 : Int), (8 : Int), (8 : Int), (8 : Int), (8 : Int), (8 : Int), (8 : Int), (8 : Int), (8 : Int), (8 : Int), (8 : Int), (8 : Int), (8 : Int), (8 : Int), (8 : Int), (8 : Int), (8 : Int), (8 : Int), (8 : Int), (8 : Int), (8 : Int), (8 : Int), (8 : Int), (8 : Int), (8 : Int), (8 : Int), (8 : Int), (8 : Int), (8 : Int), (8 : Int), (8 : Int), (8 : Int), (8 : Int), (8 : Int), (8 : Int), (8 : Int), (8 : Int), (8 : Int), (8 : Int), (8 : Int), (8 : Int), (8 : Int), (8 : Int), (8 : Int), (8 : Int), (8 : Int), (8 : Int), (8 : Int), (8 : Int), (8 : Int), (8 : Int), (8 : Int), (8 : Int), (8 : Int), (8 : Int), (8 : Int), (8 : Int), (8 : Int), (8 : Int), (8 : Int), (8 : Int), (8 : Int), (8 : Int), (8 : Int), (8 : Int), (8 : Int), (8 : Int), (8 : Int), (8 : Int), (8 : Int), (8 : Int), (8 : Int), (8 : Int), (8 : Int), (8 : Int), (8 : Int), (8 : Int), (8 : Int), (8 : Int), (8 : Int), (8 : Int), (8 : Int), (8 : Int), (8 : Int), (8 : Int), (8 : Int), (8 : Int), (8 : Int), (8 : Int), (8 : Int), (8 : Int)] (Int.toNat (Go.IntKind.wrap (Go.IntKind.u8) (Int.fdiv x_ (4294967296 : Int)))) (0 : Int))))), ()), ((), ())))
      none)))
   (brR (decide (x_ ≥ (65536 : Int)))
    (brR (decide ((Int.fdiv x_ (65536 : Int)) ≥ (256 : Int)))
     (brR (Go.Pon.inR (Go.IntKind.wrap (Go.IntKind.u8) (Int.fdiv (Int.fdiv x_ (65536 : Int)) (256 : Int))) (256 : Nat))
      (some (((Go.IntKind.wrap (Go.IntKind.i64) ((24 : Int) + (Go.IntKind.wrap (Go.IntKind.i64) (List.getD [(0 : Int), (1 : Int), (2 : Int), (2 : Int), (3 : Int), (3 : Int), (3 : Int), (3 : Int), (4 : Int), (4 : Int), (4 : Int), (4 : Int), (4 : Int), (4 : Int), (4 : Int), (4 : Int), (5 : Int), (5 : Int), (5 : Int), (5 : Int), (5 : Int), (5 : Int), (5 : Int), (5 : Int), (5 : Int), (5 : Int), (5 : Int), (5 : Int), (5 : Int), (5 : Int), (5 : Int), (5 : Int), (6 : Int), (6 : Int), (6 : Int), (6 : Int), (6 : Int), (6 : Int), (6 : Int), (6 : Int), (6 : Int), (6 : Int), (6 : Int), (6 : Int), (6 : Int), (6 : Int), (6 : Int), (6 : Int), (6 : Int), (6 : Int), (6 : Int), (6 : Int), (6 : Int), (6 : Int), (6 : Int), (6 : Int), (6 : Int), (6 : Int), (6 : Int), (6 : Int), (6 : Int), (6 : Int), (6 : Int), (6 : Int), (7 : Int), (7 : Int), (7 : Int), (7 : Int), (7 : Int), (7 : Int), (7 : Int), (7 : Int), (7 : Int), (7 : Int), (7 : Int), (7 : Int), (7 : Int), (7 : Int), (7 : Int), (7 : Int), (7 : Int), (7 : Int), (7 : Int), (7 : Int), (7 : Int), (7 : Int), (7 : Int), (7 : Int), (7 : Int), (7 : Int), (7 : Int), (7 : Int), (7 : Int), (7 : Int), (7 : Int), (7 : Int), (7 : Int), (7 : Int), (7 : Int), (7 : Int), (7 : Int), (7 : Int), (7 : Int), (7 : Int), (7 : Int), (7 : Int), (7 : Int), (7 : Int), (7 : Int), (7 : Int), (7 : Int), (7 : Int), (7 : Int), (7 : Int), (7 : Int), (7 : Int), (7 : Int), (7 : Int), (7 : Int), (7 : Int), (7 : Int), (7 : Int), (7 : Int), (7 : Int), (7 : Int), (7 : Int), (7 : Int), (7 : Int), (8 : Int), (8 : Int), (8 : Int), (8 : Int), (8 : Int), (8 : Int), (8 : Int), (8 : Int), (8 : Int), (8 : Int), (8 : Int), (8 : Int), (8 : Int), (8 : Int), (8 : Int), (8 : Int), (8 : Int), (8 : Int), (8 : Int), (8 : Int), (8 : Int), (8 : Int), (8 : Int), (8 : Int), (8 : Int), (8 : Int), (8 : Int), (8 : Int), (8 : Int), (8 : Int), (8 : Int), (8 : Int), (8 : Int), (8 : Int), (8 : Int), (8 : Int), (8 : Int), (8 : Int), (8 : Int), (8 : Int), (8 : Int), (8 : Int), (8 : Int), (8 : Int), (8 : Int), (8 : Int), (8 : Int), (8 : Int), (8 : Int), (8 : Int), (8 : Int), (8 : Int), (8 : Int), (8 : Int), (8 : Int), (8 : Int), (8 : Int), (8 : Int), (8 : Int), (8 : Int), (8 : Int), (8 : Int), (8 : Int), (8 : Int), (8 : Int), (8 : Int), (8 : Int), (8 : Int), (8 : Int), (8 : Int), (8 : Int), (8 : Int), (8 : Int), (8 : Int), (8 : Int), (8 : Int), (8 : Int), (8 : Int), (8 : Int), (8 : Int), (8 : Int), (8 : Int), (8 : Int), (8 : Int), (8 : Int), (8 : Int), (8 : Int), (8 : Int), (8 : Int), (8 : Int), (8 : Int), (8 : Int), (8 : Int), (8 : Int), (8 : Int), (8 : Int), (8 : Int), (8 : Int), (8 : Int), (8 : Int), (8 : Int), (8 : Int), (8 : Int), (8 : Int), (8 : Int), (8 : Int), (8 : Int), (8 : Int), (8 : Int), (8 : Int), (8 : Int), (8 : Int), (8 : Int), (8 : Int), (8 : Int), (8 : Int), (8 : Int), (8 : Int), (8 : Int), (8 : Int), (8 : Int), (8 : Int), (8 : Int), (8 : Int), (8 : Int), (8 : Int), (8 : Int), (8 : Int)] (Int.toNat (Go.IntKind.wrap (Go.IntKind.u8) (Int.fdiv (Int.fdiv x_ (65536 : Int)) (256 : Int)))) (0 : Int))))), ()), ((), ())))
      none)
     (brR (Go.Pon.inR (Go.IntKind.wrap (Go.IntKind.u8) (Int.fdiv x_ (65536 : Int))) (256 : Nat))
      (some (((Go.IntKind.wrap (Go.IntKind.i64) ((16 : Int) + (Go.IntKind.wrap (Go.IntKind.i64) (List.getD [(0 : Int), (1 : Int), (2 : Int), (2 : Int), (3 : Int), (3 : Int), (3 : Int), (3 : Int), (4 : Int), (4 : Int), (4 : Int), (4 : Int), (4 : Int), (4 : Int), (4 : Int), (4 : Int), (5 : Int), (5 : Int), (5 : Int), (5 : Int), (5 : Int), (5 : Int), (5 : Int), (5 : Int), (5 : Int), (5 : Int), (5 : Int), (5 : Int), (5 : Int), (5 : Int), (5 : Int), (5 : Int), (6 : Int), (6 : Int), (6 : Int), (6 : Int), (6 : Int), (6 : Int), (6 : Int), (6 : Int), (6 : Int), (6 : Int), (6 : Int), (6 : Int), (6 : Int), (6 : Int), (6 : Int), (6 : Int), (6 : Int), (6 : Int), (6 : Int), (6 : Int), (6 : Int), (6 : Int), (6 : Int), (6 : Int), (6 : Int), (6 : Int), (6 : Int), (6 : Int), (6 : Int), (6 : Int), (6 : Int), (6 : Int), (7 : Int), (7 : Int), (7 : Int), (7 : Int), (7 : Int), (7 : Int), (7 : Int), (7 : Int), (7 : Int), (7 : Int), (7 : Int), (7 : Int), (7 : Int), (7 : Int), (7 : Int), (7 : Int), (7 : Int), (7 : Int), (7 : Int), (7 : Int), (7 : Int), (7 : Int), (7 : Int), (7 : Int), (7 : Int), (7 : Int), (7 : Int), (7 : Int), (7 : Int), (7 : Int), (7 : Int), (7 : Int), (7 : Int), (7 : Int), (7 : Int), (7 : Int), (7 : Int), (7 : Int), (7 : Int), (7 : Int), (7 : Int), (7 : Int), (7 : Int), (7 : Int), (7 : Int), (7 : Int), (7 : Int), (7 : Int), (7 : Int), (7 : Int), (7 : Int), (7 : Int), (7 : Int), (7 : Int), (7 : Int), (7 : Int), (7 : Int), (7 : Int), (7 : Int), (7 : Int), (7 : Int), (7 : Int), (7 : Int), (7 : Int), (8 : Int), (8 : Int), (8 : Int), (8 : Int), (8 : Int), (8 : Int), (8 : Int), (8 : Int), (8 : Int), (8 : Int), (8 : Int), (8 : Int), (8 : Int), (8 : Int), (8 : Int), (8 : Int), (8 : Int), (8 : Int), (8 : Int), (8 : Int), (8 : Int), (8 : Int), (8 : Int), (8 : Int), (8 : Int), (8 : Int), (8 : Int), (8 : Int), (8 : Int), (8 : Int), (8 : Int), (8 : Int), (8 : Int), (8 : Int), (8 : Int), (8 : Int), (8 : Int), (8 : Int), (8 : Int), (8 : Int), (8 : Int), (8 : Int), (8 : Int), (8 : Int), (8 : Int), (8 : Int), (8 : Int), (8 : Int), (8 : Int), (8 : Int), (8 : Int), (8 : Int), (8 : Int), (8 : Int), (8 : Int), (8 : Int), (8 : Int), (8 : Int), (8 : Int), (8 : Int), (8 : Int), (8 : Int), (8 : Int), (8 : Int), (8 : Int), (8 : Int), (8 : Int), (8 : Int), (8 : Int), (8 : Int), (8 : Int), (8 : Int), (8 : Int), (8 : Int), (8 : Int), (8 : Int), (8 : Int), (8 : Int), (8 : Int), (8 : Int), (8 : Int), (8 : Int), (8 : Int), (8 : Int), (8 : Int), (8 : Int), (8 : Int), (8 : Int), (8 : Int), (8 : Int), (8 : Int), (8 : Int), (8 : Int), (8 : Int), (8 : Int), (8 : Int), (8 : Int), (8 : Int), (8 : Int), (8 : Int), (8 : Int), (8 : Int), (8 : Int), (8 : Int), (8 : Int), (8 : Int), (8 : Int), (8 : Int), (8 : Int), (8 : Int), (8 : Int), (8 : Int), (8 : Int), (8 : Int), (8 : Int), (8 : Int), (8 : Int), (8 : Int), (8 : Int), (8 : Int), (8 : Int), (8 : Int), (8 : Int), (8 : Int), (8 : Int), (8 : Int), (8 : Int), (8 : Int)] (Int.toNat (Go.IntKind.wrap (Go.IntKind.u8) (Int.fdiv x_ (65536 : Int)))) (0 : Int))))), ()), ((), ())))
      none))
    (brR (decide (x_ ≥ (256 : Int)))
     (brR (Go.Pon.inR (Go.IntKind.wrap (Go.IntKind.u8) (Int.fdiv x_ (256 : Int))) (256 : Nat))
      (some (((Go.IntKind.wrap (Go.IntKind.i64) ((8 : Int) + (Go.IntKind.wrap (Go.IntKind.i64) (List.getD [(0 : Int), (1 : Int), (2 : Int), (2 : Int), (3 : Int), (3 : Int), (3 : Int), (3 : Int), (4 : Int), (4 : Int), (4 : Int), (4 : Int), (4 : Int), (4 : Int), (4 : Int), (4 : Int), (5 : Int), (5 : Int), (5 : Int), (5 : Int), (5 : Int), (5 : Int), (5 : Int), (5 : Int), (5 : Int), (5 : Int), (5 : Int), (5 : Int), (5 : Int), (5 : Int), (5 : Int), (5 : Int), (6 : Int), (6 : Int), (6 : Int), (6 : Int), (6 : Int), (6 : Int), (6 : Int), (6 : Int), (6 : Int), (6 : Int), (6 : Int), (6 : Int), (6 : Int), (6 : Int), (6 : Int), (6 : Int), (6 : Int), (6 : Int), (6 : Int), (6 : Int), (6 : Int), (6 : Int), (6 : Int), (6 : Int), (6 : Int), (6 : Int), (6 : Int), (6 : Int), (6 : Int), (6 : Int), (6 : Int), (6 : Int), (7 : Int), (7 : Int), (7 : Int), (7 : Int), (7 : Int), (7 : Int), (7 : Int), (7 : Int), (7 : Int), (7 : Int), (7 : Int), (7 : Int), (7 : Int), (7 : Int), (7 : Int), (7 : Int), (7 : Int), (7 : Int), (7 : Int), (7 : Int), (7 : Int), (7 : Int), (7 : Int), (7 : Int), (7 : Int), (7 : Int), (7 : Int), (7 : Int), (7 : Int), (7 : Int), (7 : Int), (7 : Int), (7 : Int), (7 : Int), (7 : Int), (7 : Int), (7 : Int), (7 : Int), (7 : Int), (7 : Int), (7 : Int), (7 : Int), (7 : Int), (7 : Int), (7 : Int), (7 : Int), (7 : Int), (7 : Int), (7 : Int), (7 : Int), (7 : Int), (7 : Int), (7 : Int), (7 : Int), (7 : Int), (7 : Int), (7 : Int), (7 : Int), (7 : Int), (7 : Int), (7 : Int), (7 : Int), (7 : Int), (7 : Int), (8 : Int), (8 : Int), (8 : Int), (8 : Int), (8 : Int), (8 : Int), (8 : Int), (8 : Int), (8 : Int), (8 : Int), (8 : Int), (8 : Int), (8 : Int), (8 : Int), (8 : Int), (8 : Int), (8 : Int), (8 : Int), (8 : Int), (8 : Int), (8 : Int), (8 : Int), (8 : Int), (8 : Int), (8 : Int), (8 : Int), (8 : Int), (8 : Int), (8 : Int), (8 : Int), (8 : Int), (8 : Int), (8 : Int), (8 : Int), (8 : Int), (8 : Int), (8 : Int), (8 : Int), (8 : Int), (8 : Int), (8 : Int), (8 : Int), (8 : Int), (8 : Int), (8 : Int), (8 : Int), (8 : Int), (8 : Int), (8 : Int), (8 : Int), (8 : Int), (8 : Int), (8 : Int), (8 : Int), (8 : Int), (8 : Int), (8 : Int), (8 : Int), (8 : Int), (8 : Int), (8 : Int), (8 : Int), (8 : Int), (8 : Int), (8 : Int), (8 : Int), (8 : Int), (8 : Int), (8 : Int), (8 : Int), (8 : Int), (8 : Int), (8 : Int), (8 : Int), (8 : Int), (8 : Int), (8 : Int), (8 : Int), (8 : Int), (8 : Int), (8 : Int), (8 : Int), (8 : Int), (8 : Int), (8 : Int), (8 : Int), (8 : Int), (8 : Int), (8 : Int), (8 : Int), (8 : Int), (8 : Int), (8 : Int), (8 : Int), (8 : Int), (8 : Int), (8 : Int), (8 : Int), (8 : Int), (8 : Int), (8 : Int), (8 : Int), (8 : Int), (8 : Int), (8 : Int), (8 : Int), (8 : Int), (8 : Int), (8 : Int), (8 : Int), (8 : Int), (8 : Int), (8 : Int), (8 : Int), (8 : Int), (8 : Int), (8 : Int), (8 : Int), (8 : Int), (8 : Int), (8 : Int), (8 : Int), (8 : Int), (8 : Int), (8 : Int), (8 : Int), (8 : Int), (8 : Int)] (Int.toNat (Go.IntKind.wrap (Go.IntKind.u8) (Int.fdiv x_ (256 : Int)))) (0 : Int))))), ()), ((), ())))
      none)
     (brR (Go.Pon.inR (Go.IntKind.wrap (Go.IntKind.u8) x_) (256 : Nat))
      (some (((Go.IntKind.wrap (Go.IntKind.i64) ((0 : Int) + (Go.IntKind.wrap (Go.IntKind.i64) (List.getD [(0 : Int), (1 : Int), (2 : Int), (2 : Int), (3 : Int), (3 : Int), (3 : Int), (3 : Int), (4 : Int), (4 : Int), (4 : Int), (4 : Int), (4 : Int), (4 : Int), (4 : Int), (4 : Int), (5 : Int), (5 : Int), (5 : Int), (5 : Int), (5 : Int), (5 : Int), (5 : Int), (5 : Int), (5 : Int), (5 : Int), (5 : Int), (5 : Int), (5 : Int), (5 : Int), (5 : Int), (5 : Int), (6 : Int), (6 : Int), (6 : Int), (6 : Int), (6 : Int), (6 : Int), (6 : Int), (6 : Int), (6 : Int), (6 : Int), (6 : Int), (6 : Int), (6 : Int), (6 : Int), (6 : Int), (6 : Int), (6 : Int), (6 : Int), (6 : Int), (6 : Int), (6 : Int), (6 : Int), (6 : Int), (6 : Int), (6 : Int), (6 : Int), (6 : Int), (6 : Int), (6 : Int), (6 : Int), (6 : Int), (6 : Int), (7 : Int), (7 : Int), (7 : Int), (7 : Int), (7 : Int), (7 : Int), (7 : Int), (7 : Int), (7 : Int), (7 : Int), (7 : Int), (7 : Int), (7 : Int), (7 : Int), (7 : Int), (7 : Int), (7 : Int), (7 : Int), (7 : Int), (7 : Int), (7 : Int), (7 : Int), (7 : Int), (7 : Int), (7 : Int), (7 : Int), (7 : Int), (7 : Int), (7 : Int), (7 : Int), (7 : Int), (7 : Int), (7 : Int), (7 : Int), (7 : Int), (7 : Int), (7 : Int), (7 : Int), (7 : Int), (7 : Int), (7 : Int), (7 : Int), (7 : Int), (7 : Int), (7 : Int), (7 : Int), (7 : Int), (7 : Int), (7 : Int), (7 : Int), (7 : Int), (7 : Int), (7 : Int), (7 : Int), (7 : Int), (7 : Int), (7 : Int), (7 : Int), (7 : Int), (7 : Int), (7 : Int), (7 : Int), (7 : Int), (7 : Int), (8 : Int), (8 : Int), (8 : Int), (8 : Int), (8 : Int), (8 : Int), (8 : Int), (8 : Int), (8 : Int), (8 : Int), (8 : Int), (8 : Int), (8 : Int), (8 : Int), (8 : Int), (8 : Int), (8 : Int), (8 : Int), (8 : Int), (8 : Int), (8 : Int), (8 : Int), (8 : Int), (8 : Int), (8 : Int), (8 : Int), (8 : Int), (8 : Int), (8 : Int), (8 : Int), (8 : Int), (8 : Int), (8 : Int), (8 : Int), (8 : Int), (8 : Int), (8 : Int), (8 : Int), (8 : Int), (8 : Int), (8 : Int), (8 : Int), (8 : Int), (8 : Int), (8 : Int), (8 : Int), (8 : Int), (8 : Int), (8 : Int), (8 : Int), (8 : Int), (8 : Int), (8 : Int), (8 : Int), (8 : Int), (8 : Int), (8 : Int), (8 : Int), (8 : Int), (8 : Int), (8 : Int), (8 : Int), (8 : Int), (8 : Int), (8 : Int), (8 : Int), (8 : Int), (8 : Int), (8 : Int), (8 : Int), (8 : Int), (8 : Int), (8 : Int), (8 : Int), (8 : Int), (8 : Int), (8 : Int), (8 : Int), (8 : Int), (8 : Int), (8 : Int), (8 : Int), (8 : Int), (8 : Int), (8 : Int), (8 : Int), (8 : Int), (8 : Int), (8 : Int), (8 : Int), (8 : Int), (8 : Int), (8 : Int), (8 : Int), (8 : Int), (8 : Int), (8 : Int), (8 : Int), (8 : Int), (8 : Int), (8 : Int), (8 : Int), (8 : Int), (8 : Int), (8 : Int), (8 : Int), (8 : Int), (8 : Int), (8 : Int), (8 : Int), (8 : Int), (8 : Int), (8 : Int), (8 : Int), (8 : Int), (8 : Int), (8 : Int), (8 : Int), (8 : Int), (8 : Int), (8 : Int), (8 : Int), (8 : Int), (8 : Int), (8 : Int), (8 : Int), (8 : Int), (8 : Int)] (Int.toNat (Go.IntKind.wrap (Go.IntKind.u8) x_)) (0 : Int))))), ()), ((), ())))
      none))))

noncomputable def sol_math_bits_Len64 : F_math_bits_Len64 := fun x => T_math_bits_Len64 bigLoop x.1

end Go.Pon
/-
  What the functions of package slices compute (printed by a program of this work).
-/
set_option autoImplicit false
set_option linter.unusedVariables false
set_option maxRecDepth 100000
namespace Go.Pon
open Go

/-- slices.Grow[[]byte,byte] -/
abbrev s_slices_Grow_byte_byte : Sig := ⟨[.nilm (.int .u8), .ro true (.int .i64)], [.own true (.int .u8)]⟩
abbrev F_slices_Grow_byte_byte := (Unit × (Int × Unit)) → Option (((List Int) × Unit) × (Unit × (Unit × Unit)))

noncomputable def T_slices_Grow_byte_byte (L : LoopD) (s_ : Unit) (n_ : Int) : Option (((List Int) × Unit) × (Unit × (Unit × Unit))) :=
  (brR (decide (n_ < (0 : Int)))
   none
   (brR (decide ((Go.IntKind.wrap (Go.IntKind.i64) (n_ - (0 : Int))) > (0 : Int)))
    (brR (((decide ((0 : Int) ≤ (Go.IntKind.wrap (Go.IntKind.i64) (n_ - (0 : Int))))) && (Go.Pon.roomy (Int.toNat (Go.IntKind.wrap (Go.IntKind.i64) (n_ - (0 : Int)))) (Go.Pon.Ty.int Go.IntKind.u8))) && true)
     (brR (decide ((0 : Int) ≤ (((List.length (List.replicate (Int.toNat (Go.IntKind.wrap (Go.IntKind.i64) (n_ - (0 : Int)))) (0 : Int))) : Nat) : Int)))
      (some (((List.take (0 : Nat) (List.replicate (Int.toNat (Go.IntKind.wrap (Go.IntKind.i64) (n_ - (0 : Int)))) (0 : Int))), ()), ((), ((), ()))))
      none)
     none)
    (some ((([] : List Int), ()), ((), ((), ()))))))

noncomputable def sol_slices_Grow_byte_byte : F_slices_Grow_byte_byte := fun x => T_slices_Grow_byte_byte bigLoop x.1 x.2.1

/-- slices.Concat[[]byte,byte] -/
abbrev s_slices_Concat_byte_byte : Sig := ⟨[(.ro false (.slice (.slice (.int .u8))))], [(.own true (.int .u8))]⟩
abbrev F_slices_Concat_byte_byte := ((List (List Int)) × Unit) → Option (((List Int) × Unit) × (Unit × Unit))

noncomputable def T_slices_Concat_byte_byte_loop1 (again_8 : ((List Int) × ((List (List Int)) × (Int × (Int × Unit)))) → Option (((List Int) × Unit) × (Unit × Unit))) (newslice_9 : (List Int)) (t25_10 : (List (List Int))) (t26_11 : Int) (t27_12 : Int) : Option (((List Int) × Unit) × (Unit × Unit)) :=
  (brR (decide (t27_12 < t26_11))
   (brR (Go.Pon.inR t27_12 (List.length t25_10))
    (brR (Go.Pon.roomy ((List.length newslice_9) + (List.length (List.getD t25_10 (Int.toNat t27_12) ([] : List Int)))) (Go.Pon.Ty.int Go.IntKind.u8))
     (again_8 ((List.append newslice_9 (List.getD t25_10 (Int.toNat t27_12) ([] : List Int))), (t25_10, (t26_11, ((Go.IntKind.wrap (Go.IntKind.i64) (t27_12 + (1 : Int))), ())))))
     none)
    none)
   (some ((newslice_9, ()), ((), ()))))

noncomputable def T_slices_Concat_byte_byte_loop0 (L : LoopD) (c_slices_Grow_byte_byte : F_slices_Grow_byte_byte) (again_0 : ((List (List Int)) × (Int × ((List (List Int)) × (Int × (Int × Unit))))) → Option (((List Int) × Unit) × (Unit × Unit))) (slices_1 : (List (List Int))) (size_2 : Int) (t9_3 : (List (List Int))) (t10_4 : Int) (t11_5 : Int) : Option (((List Int) × Unit) × (Unit × Unit)) :=
  (letR (Go.IntKind.wrap (Go.IntKind.i64) (size_2 + (((List.length (List.getD t9_3 (Int.toNat t11_5) ([] : List Int))) : Nat) : Int))) fun (v_6 : Int) =>
  (brR (decide (t11_5 < t10_4))
   (brR (Go.Pon.inR t11_5 (List.length t9_3))
    (brR (decide (v_6 < (0 : Int)))
     none
     (again_0 (slices_1, (v_6, (t9_3, (t10_4, ((Go.IntKind.wrap (Go.IntKind.i64) (t11_5 + (1 : Int))), ())))))))
    none)
   (Option.bind (c_slices_Grow_byte_byte ((), (size_2, ()))) (fun (y_7 : (((List Int) × Unit) × (Unit × (Unit × Unit)))) =>
    (L _ _ (fun again x => T_slices_Concat_byte_byte_loop1 again x.1 x.2.1 x.2.2.1 x.2.2.2.1) (y_7.1.1, (slices_1, ((((List.length slices_1) : Nat) : Int), ((0 : Int), ())))))))))

noncomputable def T_slices_Concat_byte_byte (L : LoopD) (c_slices_Grow_byte_byte : F_slices_Grow_byte_byte) (slices_ : (List (List Int))) : Option (((List Int) × Unit) × (Unit × Unit)) :=
  (L _ _ (fun again x => T_slices_Concat_byte_byte_loop0 L c_slices_Grow_byte_byte again x.1 x.2.1 x.2.2.1 x.2.2.2.1 x.2.2.2.2.1) (slices_, ((0 : Int), (slices_, ((((List.length slices_) : Nat) : Int), ((0 : Int), ()))))))

noncomputable def sol_slices_Concat_byte_byte : F_slices_Concat_byte_byte := fun x => T_slices_Concat_byte_byte bigLoop sol_slices_Grow_byte_byte x.1

/-- slices.Clone[[]byte,byte] -/
abbrev s_slices_Clone_byte_byte : Sig := ⟨[(.ro false (.slice (.int .u8)))], [(.own true (.int .u8))]⟩
abbrev F_slices_Clone_byte_byte := ((List Int) × Unit) → Option (((List Int) × Unit) × (Unit × Unit))

noncomputable def T_slices_Clone_byte_byte (L : LoopD) (s_ : (List Int)) : Option (((List Int) × Unit) × (Unit × Unit)) :=
  (brR (decide ((List.length s_) = (0 : Nat)))
   (bothR (some ((([] : List Int), ()), ((), ())))
    (brR (Go.Pon.roomy ((0 : Nat) + (List.length s_)) (Go.Pon.Ty.int Go.IntKind.u8))
     (some ((s_, ()), ((), ())))
     none))
   (brR (Go.Pon.roomy ((0 : Nat) + (List.length s_)) (Go.Pon.Ty.int Go.IntKind.u8))
    (some ((s_, ()), ((), ())))
    none))

noncomputable def sol_slices_Clone_byte_byte : F_slices_Clone_byte_byte := fun x => T_slices_Clone_byte_byte bigLoop x.1

/-- slices.Clip[[]pontage/api.Hash,pontage/api.Hash] -/
abbrev s_slices_Clip_api_Hash_api_Hash : Sig := ⟨[.own false (.arr 32 (.int .u8))], [.ro false (.slice (.arr 32 (.int .u8)))]⟩
abbrev F_slices_Clip_api_Hash_api_Hash := ((List (List Int)) × Unit) → Option (((List (List Int)) × Unit) × (Unit × Unit))

noncomputable def T_slices_Clip_api_Hash_api_Hash (L : LoopD) (s_ : (List (List Int))) : Option (((List (List Int)) × Unit) × (Unit × Unit)) :=
  (letR (((List.length s_) : Nat) : Int) fun (v_0 : Int) =>
  (brR (decide (v_0 = v_0))
   (brR ((decide ((0 : Int) ≤ v_0)) && (decide (v_0 ≤ v_0)))
    (some (((List.take ((Int.toNat v_0) - (0 : Nat)) (List.drop (0 : Nat) s_)), ()), ((), ())))
    none)
   none))

noncomputable def sol_slices_Clip_api_Hash_api_Hash : F_slices_Clip_api_Hash_api_Hash := fun x => T_slices_Clip_api_Hash_api_Hash bigLoop x.1

/-- slices.Clone[[]pontage/api.Message,pontage/api.Message] -/
abbrev s_slices_Clone_api_Message_api_Message : Sig := ⟨[(.ro false (.slice (.pair (.int .u64) (.pair (.int .u64) (.pair (.arr 4 (.int .u64)) .unit)))))], [(.own true (.pair (.int .u64) (.pair (.int .u64) (.pair (.arr 4 (.int .u64)) .unit))))]⟩
abbrev F_slices_Clone_api_Message_api_Message := ((List (Int × (Int × ((List Int) × Unit)))) × Unit) → Option (((List (Int × (Int × ((List Int) × Unit)))) × Unit) × (Unit × Unit))

noncomputable def T_slices_Clone_api_Message_api_Message (L : LoopD) (s_ : (List (Int × (Int × ((List Int) × Unit))))) : Option (((List (Int × (Int × ((List Int) × Unit)))) × Unit) × (Unit × Unit)) :=
  (letR (List.length s_) fun (v_0 : Nat) =>
  (brR (decide (v_0 = (0 : Nat)))
   (bothR (some ((([] : List (Int × (Int × ((List Int) × Unit)))), ()), ((), ())))
    (brR (Go.Pon.roomy ((0 : Nat) + v_0) ((Go.Pon.Ty.int Go.IntKind.u64).pair
  ((Go.Pon.Ty.int Go.IntKind.u64).pair ((Go.Pon.Ty.arr 4 (Go.Pon.Ty.int Go.IntKind.u64)).pair Go.Pon.Ty.unit))))
     (some ((s_, ()), ((), ())))
     none))
   (brR (Go.Pon.roomy ((0 : Nat) + v_0) ((Go.Pon.Ty.int Go.IntKind.u64).pair
  ((Go.Pon.Ty.int Go.IntKind.u64).pair ((Go.Pon.Ty.arr 4 (Go.Pon.Ty.int Go.IntKind.u64)).pair Go.Pon.Ty.unit))))
    (some ((s_, ()), ((), ())))
    none)))

noncomputable def sol_slices_Clone_api_Message_api_Message : F_slices_Clone_api_Message_api_Message := fun x => T_slices_Clone_api_Message_api_Message bigLoop x.1

end Go.Pon
/-
  What the functions of package hash compute (printed by a program of this work).
-/
set_option autoImplicit false
set_option linter.unusedVariables false
set_option maxRecDepth 100000
namespace Go.Pon
open Go

/-- pontage/hash.Format -/
abbrev s_hash_Format : Sig := ⟨[(.ro true (.arr 32 (.int .u8)))], [(.ro true .str)]⟩
abbrev F_hash_Format := ((List Int) × Unit) → Option (((List Int) × Unit) × (Unit × Unit))

noncomputable def T_hash_Format_loop0 (again_0 : ((List Int) × ((List Int) × (Int × Unit))) → Option (((List Int) × Unit) × (Unit × Unit))) (out_1 : (List Int)) (t6_2 : (List Int)) (t7_3 : Int) : Option (((List Int) × Unit) × (Unit × Unit)) :=
  (letR (Go.IntKind.wrap (Go.IntKind.u8) (((BitVec.toNat ((BitVec.ofInt (8 : Nat) (List.getD t6_2 (Int.toNat t7_3) (0 : Int))) &&& (BitVec.ofInt (8 : Nat) (15 : Int)))) : Nat) : Int)) fun (v_4 : Int) =>
  (brR (decide (t7_3 < (32 : Int)))
   (brR (Go.Pon.inR t7_3 (32 : Nat))
    (brR (Go.Pon.inR (Int.fdiv (List.getD t6_2 (Int.toNat t7_3) (0 : Int)) (16 : Int)) (16 : Nat))
     (brR (Go.Pon.inR v_4 (16 : Nat))
      (brR (Go.Pon.roomy ((List.length out_1) + (2 : Nat)) (Go.Pon.Ty.int Go.IntKind.u8))
       (again_0 ((List.append out_1 [(List.getD [(48 : Int), (49 : Int), (50 : Int), (51 : Int), (52 : Int), (53 : Int), (54 : Int), (55 : Int), (56 : Int), (57 : Int), (97 : Int), (98 : Int), (99 : Int), (100 : Int), (101 : Int), (102 : Int)] (Int.toNat (Int.fdiv (List.getD t6_2 (Int.toNat t7_3) (0 : Int)) (16 : Int))) (0 : Int)), (List.getD [(48 : Int), (49 : Int), (50 : Int), (51 : Int), (52 : Int), (53 : Int), (54 : Int), (55 : Int), (56 : Int), (57 : Int), (97 : Int), (98 : Int), (99 : Int), (100 : Int), (101 : Int), (102 : Int)] (Int.toNat v_4) (0 : Int))]), (t6_2, ((Go.IntKind.wrap (Go.IntKind.i64) (t7_3 + (1 : Int))), ()))))
       none)
      none)
     none)
    none)
   (some ((out_1, ()), ((), ())))))

noncomputable def T_hash_Format (L : LoopD) (h_ : (List Int)) : Option (((List Int) × Unit) × (Unit × Unit)) :=
  (L _ _ (fun again x => T_hash_Format_loop0 again x.1 x.2.1 x.2.2.1) (([] : List Int), (h_, ((0 : Int), ()))))

noncomputable def sol_hash_Format : F_hash_Format := fun x => T_hash_Format bigLoop x.1

/-- pontage/hash.roundConstants -/
abbrev s_hash_roundConstants : Sig := ⟨[], [(.ro true (.arr 64 (.int .u32)))]⟩
abbrev F_hash_roundConstants := Unit → Option (((List Int) × Unit) × Unit)

noncomputable def T_hash_roundConstants (L : LoopD) : Option (((List Int) × Unit) × Unit) :=
  (some (((List.set (List.set (List.set (List.set (List.set (List.set (List.set (List.set (List.set (List.set (List.set (List.set (List.set (List.set (List.set (List.set (List.set (List.set (List.set (List.set (List.set (List.set (List.set (List.set (List.set (List.set (List.set (List.set (List.set (List.set (List.set (List.set (List.set (List.set (List.set (List.set (List.set (List.set (List.set (List.set (List.set (List.set (List.set (List.set (List.set (List.set (List.set (List.set (List.set (List.set (List.set (List.set (List.set (List.set (List.set (List.set (List.set (List.set (List.set (List.set (List.set (List.set (List.set (List.set (List.replicate (64 : Nat) (0 : Int)) (0 : Nat) (1116352408 : Int)) (1 : Nat) (1899447441 : Int)) (2 : Nat) (3049323471 : Int)) (3 : Nat) (3921009573 : Int)) (4 : Nat) (961987163 : Int)) (5 : Nat) (1508970993 : Int)) (6 : Nat) (2453635748 : Int)) (7 : Nat) (2870763221 : Int)) (8 : Nat) (3624381080 : Int)) (9 : Nat) (310598401 : Int)) (10 : Nat) (607225278 : Int)) (11 : Nat) (1426881987 : Int)) (12 : Nat) (1925078388 : Int)) (13 : Nat) (2162078206 : Int)) (14 : Nat) (2614888103 : Int)) (15 : Nat) (3248222580 : Int)) (16 : Nat) (3835390401 : Int)) (17 : Nat) (4022224774 : Int)) (18 : Nat) (264347078 : Int)) (19 : Nat) (604807628 : Int)) (20 : Nat) (770255983 : Int)) (21 : Nat) (1249150122 : Int)) (22 : Nat) (1555081692 : Int)) (23 : Nat) (1996064986 : Int)) (24 : Nat) (2554220882 : Int)) (25 : Nat) (2821834349 : Int)) (26 : Nat) (2952996808 : Int)) (27 : Nat) (3210313671 : Int)) (28 : Nat) (3336571891 : Int)) (29 : Nat) (3584528711 : Int)) (30 : Nat) (113926993 : Int)) (31 : Nat) (338241895 : Int)) (32 : Nat) (666307205 : Int)) (33 : Nat) (773529912 : Int)) (34 : Nat) (1294757372 : Int)) (35 : Nat) (1396182291 : Int)) (36 : Nat) (1695183700 : Int)) (37 : Nat) (1986661051 : Int)) (38 : Nat) (2177026350 : Int)) (39 : Nat) (2456956037 : Int)) (40 : Nat) (2730485921 : Int)) (41 : Nat) (2820302411 : Int)) (42 : Nat) (3259730800 : Int)) (43 : Nat) (3345764771 : Int)) (44 : Nat) (3516065817 : Int)) (45 : Nat) (3600352804 : Int)) (46 : Nat) (4094571909 : Int)) (47 : Nat) (275423344 : Int)) (48 : Nat) (430227734 : Int)) (49 : Nat) (506948616 : Int)) (50 : Nat) (659060556 : Int)) (51 : Nat) (883997877 : Int)) (52 : Nat) (958139571 : Int)) (53 : Nat) (1322822218 : Int)) (54 : Nat) (1537002063 : Int)) (55 : Nat) (1747873779 : Int)) (56 : Nat) (1955562222 : Int)) (57 : Nat) (2024104815 : Int)) (58 : Nat) (2227730452 : Int)) (59 : Nat) (2361852424 : Int)) (60 : Nat) (2428436474 : Int)) (61 : Nat) (2756734187 : Int)) (62 : Nat) (3204031479 : Int)) (63 : Nat) (3329325298 : Int)), ()), ()))

noncomputable def sol_hash_roundConstants : F_hash_roundConstants := fun x => T_hash_roundConstants bigLoop

/-- pontage/hash.schedule -/
abbrev s_hash_schedule : Sig := ⟨[(.ro false (.slice (.int .u8)))], [(.ro true (.arr 64 (.int .u32)))]⟩
abbrev F_hash_schedule := ((List Int) × Unit) → Option (((List Int) × Unit) × (Unit × Unit))

noncomputable def T_hash_schedule_loop1 (c_math_bits_RotateLeft32 : F_math_bits_RotateLeft32) (again_9 : ((List Int) × ((List Int) × (Int × Unit))) → Option (((List Int) × Unit) × (Unit × Unit))) (t2_10 : (List Int)) (w_11 : (List Int)) (i_12 : Int) : Option (((List Int) × Unit) × (Unit × Unit)) :=
  (letR (Go.IntKind.wrap (Go.IntKind.i64) (i_12 - (15 : Int))) fun (v_13 : Int) =>
  (letR (Go.IntKind.wrap (Go.IntKind.i64) (i_12 - (2 : Int))) fun (v_14 : Int) =>
  (letR (Go.IntKind.wrap (Go.IntKind.i64) (i_12 - (16 : Int))) fun (v_15 : Int) =>
  (letR (Go.IntKind.wrap (Go.IntKind.i64) (i_12 - (7 : Int))) fun (v_16 : Int) =>
  (letR (List.getD w_11 (Int.toNat v_13) (0 : Int)) fun (v_17 : Int) =>
  (letR (List.getD w_11 (Int.toNat v_14) (0 : Int)) fun (v_18 : Int) =>
  (brR (decide (i_12 < (64 : Int)))
   (brR (Go.Pon.inR v_13 (64 : Nat))
    (brR (Go.Pon.inR v_14 (64 : Nat))
     (Option.bind (c_math_bits_RotateLeft32 (v_17, ((-7 : Int), ()))) (fun (y_19 : ((Int × Unit) × (Unit × (Unit × Unit)))) =>
      (Option.bind (c_math_bits_RotateLeft32 (v_17, ((-18 : Int), ()))) (fun (y_20 : ((Int × Unit) × (Unit × (Unit × Unit)))) =>
       (Option.bind (c_math_bits_RotateLeft32 (v_18, ((-17 : Int), ()))) (fun (y_21 : ((Int × Unit) × (Unit × (Unit × Unit)))) =>
        (Option.bind (c_math_bits_RotateLeft32 (v_18, ((-19 : Int), ()))) (fun (y_22 : ((Int × Unit) × (Unit × (Unit × Unit)))) =>
         (brR (Go.Pon.inR v_15 (64 : Nat))
          (brR (Go.Pon.inR v_16 (64 : Nat))
           (brR (Go.Pon.inR i_12 (64 : Nat))
            (again_9 (t2_10, ((List.set w_11 (Int.toNat i_12) (Go.IntKind.wrap (Go.IntKind.u32) ((Go.IntKind.wrap (Go.IntKind.u32) ((Go.IntKind.wrap (Go.IntKind.u32) ((List.getD w_11 (Int.toNat v_15) (0 : Int)) + (Go.IntKind.wrap (Go.IntKind.u32) (((BitVec.toNat ((BitVec.ofInt (32 : Nat) (Go.IntKind.wrap (Go.IntKind.u32) (((BitVec.toNat ((BitVec.ofInt (32 : Nat) y_19.1.1) ^^^ (BitVec.ofInt (32 : Nat) y_20.1.1))) : Nat) : Int))) ^^^ (BitVec.ofInt (32 : Nat) (Int.fdiv v_17 (8 : Int))))) : Nat) : Int)))) + (List.getD w_11 (Int.toNat v_16) (0 : Int)))) + (Go.IntKind.wrap (Go.IntKind.u32) (((BitVec.toNat ((BitVec.ofInt (32 : Nat) (Go.IntKind.wrap (Go.IntKind.u32) (((BitVec.toNat ((BitVec.ofInt (32 : Nat) y_21.1.1) ^^^ (BitVec.ofInt (32 : Nat) y_22.1.1))) : Nat) : Int))) ^^^ (BitVec.ofInt (32 : Nat) (Int.fdiv v_18 (1024 : Int))))) : Nat) : Int))))), ((Go.IntKind.wrap (Go.IntKind.i64) (i_12 + (1 : Int))), ()))))
            none)
           none)
          none)))))))))
     none)
    none)
   (some ((w_11, ()), ((), ()))))))))))

noncomputable def T_hash_schedule_loop0 (L : LoopD) (c_math_bits_RotateLeft32 : F_math_bits_RotateLeft32) (again_0 : ((List Int) × ((List Int) × ((List Int) × (Int × Unit)))) → Option (((List Int) × Unit) × (Unit × Unit))) (b_1 : (List Int)) (t2_2 : (List Int)) (w_3 : (List Int)) (t10_4 : Int) : Option (((List Int) × Unit) × (Unit × Unit)) :=
  (letR (Go.IntKind.wrap (Go.IntKind.i64) ((4 : Int) * t10_4)) fun (v_5 : Int) =>
  (letR (Go.IntKind.wrap (Go.IntKind.i64) (v_5 + (1 : Int))) fun (v_6 : Int) =>
  (letR (Go.IntKind.wrap (Go.IntKind.i64) (v_5 + (2 : Int))) fun (v_7 : Int) =>
  (letR (Go.IntKind.wrap (Go.IntKind.i64) (v_5 + (3 : Int))) fun (v_8 : Int) =>
  (brR (decide (t10_4 < (16 : Int)))
   (brR (Go.Pon.inR v_5 (List.length b_1))
    (brR (Go.Pon.inR v_6 (List.length b_1))
     (brR (Go.Pon.inR v_7 (List.length b_1))
      (brR (Go.Pon.inR v_8 (List.length b_1))
       (brR (Go.Pon.inR t10_4 (64 : Nat))
        (again_0 (b_1, (t2_2, ((List.set w_3 (Int.toNat t10_4) (Go.IntKind.wrap (Go.IntKind.u32) (((BitVec.toNat ((BitVec.ofInt (32 : Nat) (Go.IntKind.wrap (Go.IntKind.u32) (((BitVec.toNat ((BitVec.ofInt (32 : Nat) (Go.IntKind.wrap (Go.IntKind.u32) (((BitVec.toNat ((BitVec.ofInt (32 : Nat) (Go.IntKind.wrap (Go.IntKind.u32) ((Go.IntKind.wrap (Go.IntKind.u32) (List.getD b_1 (Int.toNat v_5) (0 : Int))) * (16777216 : Int)))) ||| (BitVec.ofInt (32 : Nat) (Go.IntKind.wrap (Go.IntKind.u32) ((Go.IntKind.wrap (Go.IntKind.u32) (List.getD b_1 (Int.toNat v_6) (0 : Int))) * (65536 : Int)))))) : Nat) : Int))) ||| (BitVec.ofInt (32 : Nat) (Go.IntKind.wrap (Go.IntKind.u32) ((Go.IntKind.wrap (Go.IntKind.u32) (List.getD b_1 (Int.toNat v_7) (0 : Int))) * (256 : Int)))))) : Nat) : Int))) ||| (BitVec.ofInt (32 : Nat) (Go.IntKind.wrap (Go.IntKind.u32) (List.getD b_1 (Int.toNat v_8) (0 : Int)))))) : Nat) : Int))), ((Go.IntKind.wrap (Go.IntKind.i64) (t10_4 + (1 : Int))), ())))))
        none)
       none)
      none)
     none)
    none)
   (L _ _ (fun again x => T_hash_schedule_loop1 c_math_bits_RotateLeft32 again x.1 x.2.1 x.2.2.1) (t2_2, (w_3, ((16 : Int), ())))))))))

noncomputable def T_hash_schedule (L : LoopD) (c_math_bits_RotateLeft32 : F_math_bits_RotateLeft32) (b_ : (List Int)) : Option (((List Int) × Unit) × (Unit × Unit)) :=
  (L _ _ (fun again x => T_hash_schedule_loop0 L c_math_bits_RotateLeft32 again x.1 x.2.1 x.2.2.1 x.2.2.2.1) (b_, ((List.replicate (64 : Nat) (0 : Int)), ((List.replicate (64 : Nat) (0 : Int)), ((0 : Int), ())))))

noncomputable def sol_hash_schedule : F_hash_schedule := fun x => T_hash_schedule bigLoop sol_math_bits_RotateLeft32 x.1

/-- pontage/hash.compress -/
abbrev s_hash_compress : Sig := ⟨[(.ro true (.arr 8 (.int .u32))), (.ro true (.arr 64 (.int .u32))), (.ro true (.arr 64 (.int .u32)))], [(.ro true (.arr 8 (.int .u32)))]⟩
abbrev F_hash_compress := ((List Int) × ((List Int) × ((List Int) × Unit))) → Option (((List Int) × Unit) × (Unit × (Unit × (Unit × Unit))))

noncomputable def T_hash_compress_loop1 (again_22 : ((List Int) × ((List Int) × ((List Int) × (Int × Unit)))) → Option (((List Int) × Unit) × (Unit × (Unit × (Unit × Unit))))) (s_23 : (List Int)) (t6_24 : (List Int)) (t_25 : (List Int)) (t103_26 : Int) : Option (((List Int) × Unit) × (Unit × (Unit × (Unit × Unit)))) :=
  (brR (decide (t103_26 < (8 : Int)))
   (brR (Go.Pon.inR t103_26 (8 : Nat))
    (brR (Go.Pon.inR t103_26 (8 : Nat))
     (brR (Go.Pon.inR t103_26 (8 : Nat))
      (again_22 (s_23, (t6_24, ((List.set t_25 (Int.toNat t103_26) (Go.IntKind.wrap (Go.IntKind.u32) ((List.getD t_25 (Int.toNat t103_26) (0 : Int)) + (List.getD s_23 (Int.toNat t103_26) (0 : Int))))), ((Go.IntKind.wrap (Go.IntKind.i64) (t103_26 + (1 : Int))), ())))))
      none)
     none)
    none)
   (some ((t_25, ()), ((), ((), ((), ()))))))

noncomputable def T_hash_compress_loop0 (L : LoopD) (c_math_bits_RotateLeft32 : F_math_bits_RotateLeft32) (again_0 : ((List Int) × ((List Int) × ((List Int) × ((List Int) × ((List Int) × (Int × Unit)))))) → Option (((List Int) × Unit) × (Unit × (Unit × (Unit × Unit))))) (s_1 : (List Int)) (w_2 : (List Int)) (k_3 : (List Int)) (t6_4 : (List Int)) (t_5 : (List Int)) (t18_6 : Int) : Option (((List Int) × Unit) × (Unit × (Unit × (Unit × Unit)))) :=
  (letR (List.getD t_5 (4 : Nat) (0 : Int)) fun (v_7 : Int) =>
  (letR (List.getD t_5 (0 : Nat) (0 : Int)) fun (v_8 : Int) =>
  (letR (List.getD t_5 (7 : Nat) (0 : Int)) fun (v_9 : Int) =>
  (letR (List.getD t_5 (5 : Nat) (0 : Int)) fun (v_10 : Int) =>
  (letR (List.getD t_5 (6 : Nat) (0 : Int)) fun (v_11 : Int) =>
  (letR (List.getD t_5 (1 : Nat) (0 : Int)) fun (v_12 : Int) =>
  (letR (List.getD t_5 (2 : Nat) (0 : Int)) fun (v_13 : Int) =>
  (letR (Go.IntKind.wrap (Go.IntKind.u32) (((BitVec.toNat ((BitVec.ofInt (32 : Nat) (Go.IntKind.wrap (Go.IntKind.u32) (((BitVec.toNat ((BitVec.ofInt (32 : Nat) v_7) &&& (BitVec.ofInt (32 : Nat) v_10))) : Nat) : Int))) ^^^ (BitVec.ofInt (32 : Nat) (Go.IntKind.wrap (Go.IntKind.u32) (((BitVec.toNat ((BitVec.ofInt (32 : Nat) (Go.IntKind.wrap (Go.IntKind.u32) (((BitVec.toNat ((BitVec.ofInt (32 : Nat) (4294967295 : Int)) ^^^ (BitVec.ofInt (32 : Nat) v_7))) : Nat) : Int))) &&& (BitVec.ofInt (32 : Nat) v_11))) : Nat) : Int))))) : Nat) : Int)) fun (v_14 : Int) =>
  (brR (decide (t18_6 < (64 : Int)))
   (Option.bind (c_math_bits_RotateLeft32 (v_7, ((-6 : Int), ()))) (fun (y_15 : ((Int × Unit) × (Unit × (Unit × Unit)))) =>
    (Option.bind (c_math_bits_RotateLeft32 (v_7, ((-11 : Int), ()))) (fun (y_16 : ((Int × Unit) × (Unit × (Unit × Unit)))) =>
     (Option.bind (c_math_bits_RotateLeft32 (v_7, ((-25 : Int), ()))) (fun (y_17 : ((Int × Unit) × (Unit × (Unit × Unit)))) =>
      (letR (Go.IntKind.wrap (Go.IntKind.u32) ((Go.IntKind.wrap (Go.IntKind.u32) ((Go.IntKind.wrap (Go.IntKind.u32) ((Go.IntKind.wrap (Go.IntKind.u32) (v_9 + (Go.IntKind.wrap (Go.IntKind.u32) (((BitVec.toNat ((BitVec.ofInt (32 : Nat) (Go.IntKind.wrap (Go.IntKind.u32) (((BitVec.toNat ((BitVec.ofInt (32 : Nat) y_15.1.1) ^^^ (BitVec.ofInt (32 : Nat) y_16.1.1))) : Nat) : Int))) ^^^ (BitVec.ofInt (32 : Nat) y_17.1.1))) : Nat) : Int)))) + v_14)) + (List.getD k_3 (Int.toNat t18_6) (0 : Int)))) + (List.getD w_2 (Int.toNat t18_6) (0 : Int)))) fun (v_18 : Int) =>
      (Option.bind (c_math_bits_RotateLeft32 (v_8, ((-2 : Int), ()))) (fun (y_19 : ((Int × Unit) × (Unit × (Unit × Unit)))) =>
       (Option.bind (c_math_bits_RotateLeft32 (v_8, ((-13 : Int), ()))) (fun (y_20 : ((Int × Unit) × (Unit × (Unit × Unit)))) =>
        (Option.bind (c_math_bits_RotateLeft32 (v_8, ((-22 : Int), ()))) (fun (y_21 : ((Int × Unit) × (Unit × (Unit × Unit)))) =>
         (brR (Go.Pon.inR t18_6 (64 : Nat))
          (brR (Go.Pon.inR t18_6 (64 : Nat))
           (again_0 (s_1, (w_2, (k_3, (t6_4, ([(Go.IntKind.wrap (Go.IntKind.u32) ((Go.IntKind.wrap (Go.IntKind.u32) (v_18 + (Go.IntKind.wrap (Go.IntKind.u32) (((BitVec.toNat ((BitVec.ofInt (32 : Nat) (Go.IntKind.wrap (Go.IntKind.u32) (((BitVec.toNat ((BitVec.ofInt (32 : Nat) y_19.1.1) ^^^ (BitVec.ofInt (32 : Nat) y_20.1.1))) : Nat) : Int))) ^^^ (BitVec.ofInt (32 : Nat) y_21.1.1))) : Nat) : Int)))) + (Go.IntKind.wrap (Go.IntKind.u32) (((BitVec.toNat ((BitVec.ofInt (32 : Nat) (Go.IntKind.wrap (Go.IntKind.u32) (((BitVec.toNat ((BitVec.ofInt (32 : Nat) (Go.IntKind.wrap (Go.IntKind.u32) (((BitVec.toNat ((BitVec.ofInt (32 : Nat) v_8) &&& (BitVec.ofInt (32 : Nat) v_12))) : Nat) : Int))) ^^^ (BitVec.ofInt (32 : Nat) (Go.IntKind.wrap (Go.IntKind.u32) (((BitVec.toNat ((BitVec.ofInt (32 : Nat) v_8) &&& (BitVec.ofInt (32 : Nat) v_13))) : Nat) : Int))))) : Nat) : Int))) ^^^ (BitVec.ofInt (32 : Nat) (Go.IntKind.wrap (Go.IntKind.u32) (((BitVec.toNat ((BitVec.ofInt (32 : Nat) v_12) &&& (BitVec.ofInt (32 : Nat) v_13))) : Nat) : Int))))) : Nat) : Int)))), v_8, v_12, v_13, (Go.IntKind.wrap (Go.IntKind.u32) ((List.getD t_5 (3 : Nat) (0 : Int)) + v_18)), v_7, v_10, v_11], ((Go.IntKind.wrap (Go.IntKind.i64) (t18_6 + (1 : Int))), ())))))))
           none)
          none))))))))))))))
   (L _ _ (fun again x => T_hash_compress_loop1 again x.1 x.2.1 x.2.2.1 x.2.2.2.1) (s_1, (t6_4, (t_5, ((0 : Int), ()))))))))))))))

noncomputable def T_hash_compress (L : LoopD) (c_math_bits_RotateLeft32 : F_math_bits_RotateLeft32) (s_ : (List Int)) (w_ : (List Int)) (k_ : (List Int)) : Option (((List Int) × Unit) × (Unit × (Unit × (Unit × Unit)))) :=
  (L _ _ (fun again x => T_hash_compress_loop0 L c_math_bits_RotateLeft32 again x.1 x.2.1 x.2.2.1 x.2.2.2.1 x.2.2.2.2.1 x.2.2.2.2.2.1) (s_, (w_, (k_, ([(0 : Int), (0 : Int), (0 : Int), (0 : Int), (0 : Int), (0 : Int), (0 : Int), (0 : Int)], (s_, ((0 : Int), ())))))))

noncomputable def sol_hash_compress : F_hash_compress := fun x => T_hash_compress bigLoop sol_math_bits_RotateLeft32 x.1 x.2.1 x.2.2.1

/-- pontage/hash.Sum -/
abbrev s_hash_Sum : Sig := ⟨[(.ro false (.slice (.int .u8)))], [(.ro true (.arr 32 (.int .u8)))]⟩
abbrev F_hash_Sum := ((List Int) × Unit) → Option (((List Int) × Unit) × (Unit × Unit))

noncomputable def T_hash_Sum_loop3 (again_21 : ((List Int) × ((List Int) × ((List Int) × (Int × Unit)))) → Option (((List Int) × Unit) × (Unit × Unit))) (t2_22 : (List Int)) (s_23 : (List Int)) (h_24 : (List Int)) (t55_25 : Int) : Option (((List Int) × Unit) × (Unit × Unit)) :=
  (letR (Go.IntKind.wrap (Go.IntKind.i64) ((24 : Int) - (Go.IntKind.wrap (Go.IntKind.i64) ((8 : Int) * (Int.tmod t55_25 (4 : Int)))))) fun (v_26 : Int) =>
  (brR (decide (t55_25 < (32 : Int)))
   (brR (Go.Pon.inR (Go.IntKind.wrap (Go.IntKind.i64) (Int.tdiv t55_25 (4 : Int))) (8 : Nat))
    (brR (decide ((0 : Int) ≤ v_26))
     (brR (Go.Pon.inR t55_25 (32 : Nat))
      (again_21 (t2_22, (s_23, ((List.set h_24 (Int.toNat t55_25) (Go.IntKind.wrap (Go.IntKind.u8) (Int.fdiv (List.getD s_23 (Int.toNat (Go.IntKind.wrap (Go.IntKind.i64) (Int.tdiv t55_25 (4 : Int)))) (0 : Int)) ((2 : Int) ^ (min (Int.toNat v_26) (32 : Nat)))))), ((Go.IntKind.wrap (Go.IntKind.i64) (t55_25 + (1 : Int))), ())))))
      none)
     none)
    none)
   (some ((h_24, ()), ((), ())))))

noncomputable def T_hash_Sum_loop2 (L : LoopD) (c_hash_schedule : F_hash_schedule) (c_hash_compress : F_hash_compress) (again_12 : ((List Int) × ((List Int) × ((List Int) × ((List Int) × (Int × Unit))))) → Option (((List Int) × Unit) × (Unit × Unit))) (t2_13 : (List Int)) (l_14 : (List Int)) (s_15 : (List Int)) (k_16 : (List Int)) (at_17 : Int) : Option (((List Int) × Unit) × (Unit × Unit)) :=
  (letR (Go.IntKind.wrap (Go.IntKind.i64) (at_17 + (64 : Int))) fun (v_18 : Int) =>
  (brR (decide (at_17 < (((List.length l_14) : Nat) : Int)))
   (brR (((decide ((0 : Int) ≤ at_17)) && (decide (at_17 ≤ v_18))) && (decide (v_18 ≤ (((List.length l_14) : Nat) : Int))))
    (Option.bind (c_hash_schedule ((List.take ((Int.toNat v_18) - (Int.toNat at_17)) (List.drop (Int.toNat at_17) l_14)), ())) (fun (y_19 : (((List Int) × Unit) × (Unit × Unit))) =>
     (Option.bind (c_hash_compress (s_15, (y_19.1.1, (k_16, ())))) (fun (y_20 : (((List Int) × Unit) × (Unit × (Unit × (Unit × Unit))))) =>
      (again_12 (t2_13, (l_14, (y_20.1.1, (k_16, (v_18, ()))))))))))
    none)
   (L _ _ (fun again x => T_hash_Sum_loop3 again x.1 x.2.1 x.2.2.1 x.2.2.2.1) (t2_13, (s_15, ((List.replicate (32 : Nat) (0 : Int)), ((0 : Int), ())))))))

noncomputable def T_hash_Sum_loop1 (L : LoopD) (c_hash_roundConstants : F_hash_roundConstants) (c_hash_schedule : F_hash_schedule) (c_hash_compress : F_hash_compress) (again_5 : ((List Int) × (Int × ((List Int) × (Int × Unit)))) → Option (((List Int) × Unit) × (Unit × Unit))) (t2_6 : (List Int)) (n_7 : Int) (l_8 : (List Int)) (i_9 : Int) : Option (((List Int) × Unit) × (Unit × Unit)) :=
  (letR (Go.IntKind.wrap (Go.IntKind.i64) ((8 : Int) * i_9)) fun (v_10 : Int) =>
  (brR (decide (i_9 ≥ (0 : Int)))
   (brR (decide ((0 : Int) ≤ v_10))
    (brR (Go.Pon.roomy ((List.length l_8) + (1 : Nat)) (Go.Pon.Ty.int Go.IntKind.u8))
     (again_5 (t2_6, (n_7, ((List.append l_8 [(Go.IntKind.wrap (Go.IntKind.u8) (Int.fdiv n_7 ((2 : Int) ^ (min (Int.toNat v_10) (64 : Nat)))))]), ((Go.IntKind.wrap (Go.IntKind.i64) (i_9 - (1 : Int))), ())))))
     none)
    none)
   (Option.bind (c_hash_roundConstants ()) (fun (y_11 : (((List Int) × Unit) × Unit)) =>
    (L _ _ (fun again x => T_hash_Sum_loop2 L c_hash_schedule c_hash_compress again x.1 x.2.1 x.2.2.1 x.2.2.2.1 x.2.2.2.2.1) (t2_6, (l_8, ([(1779033703 : Int), (3144134277 : Int), (1013904242 : Int), (2773480762 : Int), (1359893119 : Int), (2600822924 : Int), (528734635 : Int), (1541459225 : Int)], (y_11.1.1, ((0 : Int), ()))))))))))

noncomputable def T_hash_Sum_loop0 (L : LoopD) (c_hash_roundConstants : F_hash_roundConstants) (c_hash_schedule : F_hash_schedule) (c_hash_compress : F_hash_compress) (again_1 : ((List Int) × (Int × ((List Int) × Unit))) → Option (((List Int) × Unit) × (Unit × Unit))) (t2_2 : (List Int)) (n_3 : Int) (l_4 : (List Int)) : Option (((List Int) × Unit) × (Unit × Unit)) :=
  (brR (!(decide ((Int.tmod (((List.length l_4) : Nat) : Int) (64 : Int)) = (56 : Int))))
   (brR (Go.Pon.roomy ((List.length l_4) + (1 : Nat)) (Go.Pon.Ty.int Go.IntKind.u8))
    (again_1 (t2_2, (n_3, ((List.append l_4 [(0 : Int)]), ()))))
    none)
   (L _ _ (fun again x => T_hash_Sum_loop1 L c_hash_roundConstants c_hash_schedule c_hash_compress again x.1 x.2.1 x.2.2.1 x.2.2.2.1) (t2_2, (n_3, (l_4, ((7 : Int), ()))))))

noncomputable def T_hash_Sum (L : LoopD) (c_slices_Concat_byte_byte : F_slices_Concat_byte_byte) (c_hash_roundConstants : F_hash_roundConstants) (c_hash_schedule : F_hash_schedule) (c_hash_compress : F_hash_compress) (b_ : (List Int)) : Option (((List Int) × Unit) × (Unit × Unit)) :=
  (Option.bind (c_slices_Concat_byte_byte ([b_, [(128 : Int)]], ())) (fun (y_0 : (((List Int) × Unit) × (Unit × Unit))) =>
   (L _ _ (fun again x => T_hash_Sum_loop0 L c_hash_roundConstants c_hash_schedule c_hash_compress again x.1 x.2.1 x.2.2.1) ((List.replicate (32 : Nat) (0 : Int)), ((Go.IntKind.wrap (Go.IntKind.u64) ((Go.IntKind.wrap (Go.IntKind.u64) (((List.length b_) : Nat) : Int)) * (8 : Int))), (y_0.1.1, ()))))))

noncomputable def sol_hash_Sum : F_hash_Sum := fun x => T_hash_Sum bigLoop sol_slices_Concat_byte_byte sol_hash_roundConstants sol_hash_schedule sol_hash_compress x.1

/-- pontage/hash.Leaf -/
abbrev s_hash_Leaf : Sig := ⟨[(.ro false (.slice (.int .u8)))], [(.ro true (.arr 32 (.int .u8)))]⟩
abbrev F_hash_Leaf := ((List Int) × Unit) → Option (((List Int) × Unit) × (Unit × Unit))

noncomputable def T_hash_Leaf (L : LoopD) (c_slices_Concat_byte_byte : F_slices_Concat_byte_byte) (c_hash_Sum : F_hash_Sum) (b_ : (List Int)) : Option (((List Int) × Unit) × (Unit × Unit)) :=
  (Option.bind (c_slices_Concat_byte_byte ([[(0 : Int)], b_], ())) (fun (y_0 : (((List Int) × Unit) × (Unit × Unit))) =>
   (Option.bind (c_hash_Sum (y_0.1.1, ())) (fun (y_1 : (((List Int) × Unit) × (Unit × Unit))) =>
    (some ((y_1.1.1, ()), ((), ())))))))

noncomputable def sol_hash_Leaf : F_hash_Leaf := fun x => T_hash_Leaf bigLoop sol_slices_Concat_byte_byte sol_hash_Sum x.1

/-- pontage/hash.Node -/
abbrev s_hash_Node : Sig := ⟨[(.ro true (.arr 32 (.int .u8))), (.ro true (.arr 32 (.int .u8)))], [(.ro true (.arr 32 (.int .u8)))]⟩
abbrev F_hash_Node := ((List Int) × ((List Int) × Unit)) → Option (((List Int) × Unit) × (Unit × (Unit × Unit)))

noncomputable def T_hash_Node (L : LoopD) (c_slices_Concat_byte_byte : F_slices_Concat_byte_byte) (c_hash_Sum : F_hash_Sum) (x_ : (List Int)) (y_ : (List Int)) : Option (((List Int) × Unit) × (Unit × (Unit × Unit))) :=
  (Option.bind (c_slices_Concat_byte_byte ([[(1 : Int)], (List.take ((32 : Nat) - (0 : Nat)) (List.drop (0 : Nat) x_)), (List.take ((32 : Nat) - (0 : Nat)) (List.drop (0 : Nat) y_))], ())) (fun (y_0 : (((List Int) × Unit) × (Unit × Unit))) =>
   (Option.bind (c_hash_Sum (y_0.1.1, ())) (fun (y_1 : (((List Int) × Unit) × (Unit × Unit))) =>
    (some ((y_1.1.1, ()), ((), ((), ()))))))))

noncomputable def sol_hash_Node : F_hash_Node := fun x => T_hash_Node bigLoop sol_slices_Concat_byte_byte sol_hash_Sum x.1 x.2.1

/-- pontage/hash.digit -/
abbrev s_hash_digit : Sig := ⟨[(.ro true (.int .u8))], [(.ro true (.int .u8)), (.ro true .bool)]⟩
abbrev F_hash_digit := (Int × Unit) → Option ((Int × (Bool × Unit)) × (Unit × Unit))

noncomputable def T_hash_digit (L : LoopD) (c_ : Int) : Option ((Int × (Bool × Unit)) × (Unit × Unit)) :=
  (brR (decide (c_ ≥ (48 : Int)))
   (brR (decide (c_ ≤ (57 : Int)))
    (some (((Go.IntKind.wrap (Go.IntKind.u8) (c_ - (48 : Int))), (true, ())), ((), ())))
    (brR (decide (c_ ≥ (97 : Int)))
     (brR (decide (c_ ≤ (102 : Int)))
      (some (((Go.IntKind.wrap (Go.IntKind.u8) ((Go.IntKind.wrap (Go.IntKind.u8) (c_ - (97 : Int))) + (10 : Int))), (true, ())), ((), ())))
      (some (((0 : Int), (false, ())), ((), ()))))
     (some (((0 : Int), (false, ())), ((), ())))))
   (brR (decide (c_ ≥ (97 : Int)))
    (brR (decide (c_ ≤ (102 : Int)))
     (some (((Go.IntKind.wrap (Go.IntKind.u8) ((Go.IntKind.wrap (Go.IntKind.u8) (c_ - (97 : Int))) + (10 : Int))), (true, ())), ((), ())))
     (some (((0 : Int), (false, ())), ((), ()))))
    (some (((0 : Int), (false, ())), ((), ())))))

noncomputable def sol_hash_digit : F_hash_digit := fun x => T_hash_digit bigLoop x.1

/-- pontage/hash.Parse -/
abbrev s_hash_Parse : Sig := ⟨[(.ro true .str)], [(.ro true (.arr 32 (.int .u8))), (.ro true (.int .i64))]⟩
abbrev F_hash_Parse := ((List Int) × Unit) → Option (((List Int) × (Int × Unit)) × (Unit × Unit))

noncomputable def T_hash_Parse_loop0 (c_hash_digit : F_hash_digit) (again_0 : ((List Int) × ((List Int) × ((List Int) × (Int × Unit)))) → Option (((List Int) × (Int × Unit)) × (Unit × Unit))) (s_1 : (List Int)) (t2_2 : (List Int)) (h_3 : (List Int)) (t14_4 : Int) : Option (((List Int) × (Int × Unit)) × (Unit × Unit)) :=
  (letR (Go.IntKind.wrap (Go.IntKind.i64) ((2 : Int) * t14_4)) fun (v_5 : Int) =>
  (letR (Go.IntKind.wrap (Go.IntKind.i64) (v_5 + (1 : Int))) fun (v_6 : Int) =>
  (brR (decide (t14_4 < (32 : Int)))
   (brR (Go.Pon.inR v_5 (List.length s_1))
    (Option.bind (c_hash_digit ((List.getD s_1 (Int.toNat v_5) (0 : Int)), ())) (fun (y_7 : ((Int × (Bool × Unit)) × (Unit × Unit))) =>
     (brR (Go.Pon.inR v_6 (List.length s_1))
      (Option.bind (c_hash_digit ((List.getD s_1 (Int.toNat v_6) (0 : Int)), ())) (fun (y_8 : ((Int × (Bool × Unit)) × (Unit × Unit))) =>
       (brR (!y_7.1.2.1)
        (some (((List.replicate (32 : Nat) (0 : Int)), ((3 : Int), ())), ((), ())))
        (brR (!y_8.1.2.1)
         (some (((List.replicate (32 : Nat) (0 : Int)), ((3 : Int), ())), ((), ())))
         (brR (Go.Pon.inR t14_4 (32 : Nat))
          (again_0 (s_1, (t2_2, ((List.set h_3 (Int.toNat t14_4) (Go.IntKind.wrap (Go.IntKind.u8) (((BitVec.toNat ((BitVec.ofInt (8 : Nat) (Go.IntKind.wrap (Go.IntKind.u8) (y_7.1.1 * (16 : Int)))) ||| (BitVec.ofInt (8 : Nat) y_8.1.1))) : Nat) : Int))), ((Go.IntKind.wrap (Go.IntKind.i64) (t14_4 + (1 : Int))), ())))))
          none)))))
      none)))
    none)
   (some ((h_3, ((0 : Int), ())), ((), ()))))))

noncomputable def T_hash_Parse (L : LoopD) (c_hash_digit : F_hash_digit) (s_ : (List Int)) : Option (((List Int) × (Int × Unit)) × (Unit × Unit)) :=
  (brR (!(decide ((((List.length s_) : Nat) : Int) = (64 : Int))))
   (some (((List.replicate (32 : Nat) (0 : Int)), ((3 : Int), ())), ((), ())))
   (L _ _ (fun again x => T_hash_Parse_loop0 c_hash_digit again x.1 x.2.1 x.2.2.1 x.2.2.2.1) (s_, ((List.replicate (32 : Nat) (0 : Int)), ((List.replicate (32 : Nat) (0 : Int)), ((0 : Int), ()))))))

noncomputable def sol_hash_Parse : F_hash_Parse := fun x => T_hash_Parse bigLoop sol_hash_digit x.1

end Go.Pon
/-
  What the functions of package law0 compute (printed by a program of this work).
-/
set_option autoImplicit false
set_option linter.unusedVariables false
set_option maxRecDepth 100000
namespace Go.Pon
open Go

/-- pontage/pontagelaw0.Mod -/
abbrev s_law0_Mod : Sig := ⟨[(.ro true (.int .i64)), (.ro true (.int .i64))], [(.ro true (.int .i64))]⟩
abbrev F_law0_Mod := (Int × (Int × Unit)) → Option ((Int × Unit) × (Unit × (Unit × Unit)))

noncomputable def T_law0_Mod (L : LoopD) (x_ : Int) (n_ : Int) : Option ((Int × Unit) × (Unit × (Unit × Unit))) :=
  (brR (decide ((Go.IntKind.wrap (Go.IntKind.u64) n_) ≠ (0 : Int)))
   (some (((Go.IntKind.wrap (Go.IntKind.i64) (Int.tmod (Go.IntKind.wrap (Go.IntKind.u64) x_) (Go.IntKind.wrap (Go.IntKind.u64) n_))), ()), ((), ((), ()))))
   none)

noncomputable def sol_law0_Mod : F_law0_Mod := fun x => T_law0_Mod bigLoop x.1 x.2.1

/-- pontage/pontagelaw0.EdgeUint256 -/
abbrev s_law0_EdgeUint256 : Sig := ⟨[(.ro true (.int .u64)), (.ro true (.int .u64)), (.ro true (.int .i64))], [(.ro true (.arr 4 (.int .u64)))]⟩
abbrev F_law0_EdgeUint256 := (Int × (Int × (Int × Unit))) → Option (((List Int) × Unit) × (Unit × (Unit × (Unit × Unit))))

noncomputable def T_law0_EdgeUint256 (L : LoopD) (c_law0_Mod : F_law0_Mod) (a_ : Int) (b_ : Int) (shape_ : Int) : Option (((List Int) × Unit) × (Unit × (Unit × (Unit × Unit)))) :=
  (Option.bind (c_law0_Mod (shape_, ((9 : Int), ()))) (fun (y_0 : ((Int × Unit) × (Unit × (Unit × Unit)))) =>
   (brR (decide (y_0.1.1 = (0 : Int)))
    (some (([a_, (0 : Int), (0 : Int), (0 : Int)], ()), ((), ((), ((), ())))))
    (brR (decide (y_0.1.1 = (1 : Int)))
     (some (([a_, b_, (0 : Int), (0 : Int)], ()), ((), ((), ((), ())))))
     (brR (decide (y_0.1.1 = (2 : Int)))
      (some (([a_, b_, a_, b_], ()), ((), ((), ((), ())))))
      (brR (decide (y_0.1.1 = (3 : Int)))
       (some (([(Go.IntKind.wrap (Go.IntKind.u64) ((18446744073709551615 : Int) - (Int.tmod a_ (4 : Int)))), (18446744073709551615 : Int), (18446744073709551615 : Int), (18446744073709551615 : Int)], ()), ((), ((), ((), ())))))
       (brR (decide (y_0.1.1 = (4 : Int)))
        (some (([(Int.tmod a_ (4 : Int)), (0 : Int), (Go.IntKind.wrap (Go.IntKind.u64) ((1 : Int) + (Int.tmod b_ (4 : Int)))), (0 : Int)], ()), ((), ((), ((), ())))))
        (brR (decide (y_0.1.1 = (5 : Int)))
         (some (([(18446744073709551615 : Int), (18446744073709551615 : Int), (0 : Int), (0 : Int)], ()), ((), ((), ((), ())))))
         (brR (decide (y_0.1.1 = (6 : Int)))
          (brR (decide ((0 : Int) ≤ (Int.tmod b_ (64 : Int))))
           (some (([(0 : Int), (0 : Int), (0 : Int), (Go.IntKind.wrap (Go.IntKind.u64) ((1 : Int) * ((2 : Int) ^ (min (Int.toNat (Int.tmod b_ (64 : Int))) (64 : Nat)))))], ()), ((), ((), ((), ())))))
           none)
          (brR (decide (y_0.1.1 = (7 : Int)))
           (some (([(Int.tmod a_ (16 : Int)), (0 : Int), (0 : Int), (0 : Int)], ()), ((), ((), ((), ())))))
           (some (([b_, a_, b_, (0 : Int)], ()), ((), ((), ((), ())))))))))))))))

noncomputable def sol_law0_EdgeUint256 : F_law0_EdgeUint256 := fun x => T_law0_EdgeUint256 bigLoop sol_law0_Mod x.1 x.2.1 x.2.2.1

/-- pontage/pontagelaw0.EqualBytes -/
abbrev s_law0_EqualBytes : Sig := ⟨[(.ro false (.slice (.int .u8))), (.ro false (.slice (.int .u8)))], [(.ro true .bool)]⟩
abbrev F_law0_EqualBytes := ((List Int) × ((List Int) × Unit)) → Option ((Bool × Unit) × (Unit × (Unit × Unit)))

noncomputable def T_law0_EqualBytes (L : LoopD) (a_ : (List Int)) (b_ : (List Int)) : Option ((Bool × Unit) × (Unit × (Unit × Unit))) :=
  (some (((Go.Pon.eqD (Go.Pon.Ty.str) a_ b_), ()), ((), ((), ()))))

noncomputable def sol_law0_EqualBytes : F_law0_EqualBytes := fun x => T_law0_EqualBytes bigLoop x.1 x.2.1

/-- pontage/pontagelaw0.EqualHashes -/
abbrev s_law0_EqualHashes : Sig := ⟨[(.ro false (.slice (.arr 32 (.int .u8)))), (.ro false (.slice (.arr 32 (.int .u8))))], [(.ro true .bool)]⟩
abbrev F_law0_EqualHashes := ((List (List Int)) × ((List (List Int)) × Unit)) → Option ((Bool × Unit) × (Unit × (Unit × Unit)))

noncomputable def T_law0_EqualHashes_loop0 (again_0 : ((List (List Int)) × ((List (List Int)) × (Int × Unit))) → Option ((Bool × Unit) × (Unit × (Unit × Unit)))) (a_1 : (List (List Int))) (b_2 : (List (List Int))) (i_3 : Int) : Option ((Bool × Unit) × (Unit × (Unit × Unit))) :=
  (brR (decide (i_3 < (((List.length a_1) : Nat) : Int)))
   (brR (Go.Pon.inR i_3 (List.length a_1))
    (brR (Go.Pon.inR i_3 (List.length b_2))
     (brR (!(Go.Pon.eqD (Go.Pon.Ty.arr 32 (Go.Pon.Ty.int Go.IntKind.u8)) (List.getD a_1 (Int.toNat i_3) (List.replicate (32 : Nat) (0 : Int))) (List.getD b_2 (Int.toNat i_3) (List.replicate (32 : Nat) (0 : Int)))))
      (some ((false, ()), ((), ((), ()))))
      (again_0 (a_1, (b_2, ((Go.IntKind.wrap (Go.IntKind.i64) (i_3 + (1 : Int))), ())))))
     none)
    none)
   (some ((true, ()), ((), ((), ())))))

noncomputable def T_law0_EqualHashes (L : LoopD) (a_ : (List (List Int))) (b_ : (List (List Int))) : Option ((Bool × Unit) × (Unit × (Unit × Unit))) :=
  (brR (!(decide ((((List.length a_) : Nat) : Int) = (((List.length b_) : Nat) : Int))))
   (some ((false, ()), ((), ((), ()))))
   (L _ _ (fun again x => T_law0_EqualHashes_loop0 again x.1 x.2.1 x.2.2.1) (a_, (b_, ((0 : Int), ())))))

noncomputable def sol_law0_EqualHashes : F_law0_EqualHashes := fun x => T_law0_EqualHashes bigLoop x.1 x.2.1

/-- pontage/pontagelaw0.EqualMessages -/
abbrev s_law0_EqualMessages : Sig := ⟨[(.ro false (.slice (.pair (.int .u64) (.pair (.int .u64) (.pair (.arr 4 (.int .u64)) .unit))))), (.ro false (.slice (.pair (.int .u64) (.pair (.int .u64) (.pair (.arr 4 (.int .u64)) .unit)))))], [(.ro true .bool)]⟩
abbrev F_law0_EqualMessages := ((List (Int × (Int × ((List Int) × Unit)))) × ((List (Int × (Int × ((List Int) × Unit)))) × Unit)) → Option ((Bool × Unit) × (Unit × (Unit × Unit)))

noncomputable def T_law0_EqualMessages_loop0 (again_0 : ((List (Int × (Int × ((List Int) × Unit)))) × ((List (Int × (Int × ((List Int) × Unit)))) × (Int × Unit))) → Option ((Bool × Unit) × (Unit × (Unit × Unit)))) (a_1 : (List (Int × (Int × ((List Int) × Unit))))) (b_2 : (List (Int × (Int × ((List Int) × Unit))))) (i_3 : Int) : Option ((Bool × Unit) × (Unit × (Unit × Unit))) :=
  (letR (List.length a_1) fun (v_4 : Nat) =>
  (brR (decide (i_3 < ((v_4 : Nat) : Int)))
   (brR (Go.Pon.inR i_3 v_4)
    (brR (Go.Pon.inR i_3 (List.length b_2))
     (brR (!(Go.Pon.eqD ((Go.Pon.Ty.int Go.IntKind.u64).pair
  ((Go.Pon.Ty.int Go.IntKind.u64).pair ((Go.Pon.Ty.arr 4 (Go.Pon.Ty.int Go.IntKind.u64)).pair Go.Pon.Ty.unit))) (List.getD a_1 (Int.toNat i_3) ((0 : Int), ((0 : Int), ([(0 : Int), (0 : Int), (0 : Int), (0 : Int)], ())))) (List.getD b_2 (Int.toNat i_3) ((0 : Int), ((0 : Int), ([(0 : Int), (0 : Int), (0 : Int), (0 : Int)], ()))))))
      (some ((false, ()), ((), ((), ()))))
      (again_0 (a_1, (b_2, ((Go.IntKind.wrap (Go.IntKind.i64) (i_3 + (1 : Int))), ())))))
     none)
    none)
   (some ((true, ()), ((), ((), ()))))))

noncomputable def T_law0_EqualMessages (L : LoopD) (a_ : (List (Int × (Int × ((List Int) × Unit))))) (b_ : (List (Int × (Int × ((List Int) × Unit))))) : Option ((Bool × Unit) × (Unit × (Unit × Unit))) :=
  (brR (!(decide ((((List.length a_) : Nat) : Int) = (((List.length b_) : Nat) : Int))))
   (some ((false, ()), ((), ((), ()))))
   (L _ _ (fun again x => T_law0_EqualMessages_loop0 again x.1 x.2.1 x.2.2.1) (a_, (b_, ((0 : Int), ())))))

noncomputable def sol_law0_EqualMessages : F_law0_EqualMessages := fun x => T_law0_EqualMessages bigLoop x.1 x.2.1

/-- pontage/pontagelaw0.HashOf -/
abbrev s_law0_HashOf : Sig := ⟨[(.ro true (.int .i64))], [(.ro true (.arr 32 (.int .u8)))]⟩
abbrev F_law0_HashOf := (Int × Unit) → Option (((List Int) × Unit) × (Unit × Unit))

noncomputable def T_law0_HashOf_loop0 (again_0 : (Int × ((List Int) × ((List Int) × (Int × Unit)))) → Option (((List Int) × Unit) × (Unit × Unit))) (n_1 : Int) (t2_2 : (List Int)) (h_3 : (List Int)) (i_4 : Int) : Option (((List Int) × Unit) × (Unit × Unit)) :=
  (letR (Go.IntKind.wrap (Go.IntKind.u64) (Go.IntKind.wrap (Go.IntKind.i64) ((8 : Int) * i_4))) fun (v_5 : Int) =>
  (brR (decide (i_4 < (8 : Int)))
   (brR (decide ((0 : Int) ≤ v_5))
    (brR (Go.Pon.inR i_4 (32 : Nat))
     (again_0 (n_1, (t2_2, ((List.set h_3 (Int.toNat i_4) (Go.IntKind.wrap (Go.IntKind.u8) (Int.fdiv (Go.IntKind.wrap (Go.IntKind.u64) n_1) ((2 : Int) ^ (min (Int.toNat v_5) (64 : Nat)))))), ((Go.IntKind.wrap (Go.IntKind.i64) (i_4 + (1 : Int))), ())))))
     none)
    none)
   (some ((h_3, ()), ((), ())))))

noncomputable def T_law0_HashOf (L : LoopD) (n_ : Int) : Option (((List Int) × Unit) × (Unit × Unit)) :=
  (L _ _ (fun again x => T_law0_HashOf_loop0 again x.1 x.2.1 x.2.2.1 x.2.2.2.1) (n_, ((List.replicate (32 : Nat) (0 : Int)), ((List.replicate (32 : Nat) (0 : Int)), ((0 : Int), ())))))

noncomputable def sol_law0_HashOf : F_law0_HashOf := fun x => T_law0_HashOf bigLoop x.1

end Go.Pon
/-
  What the functions of package merkle compute (printed by a program of this work).
-/
set_option autoImplicit false
set_option linter.unusedVariables false
set_option maxRecDepth 100000
namespace Go.Pon
open Go

/-- pontage/merkle.New -/
abbrev s_merkle_New : Sig := ⟨[], [(.ptr (.pair (.own false (.arr 32 (.int .u8))) (.ro true .unit)))]⟩
abbrev F_merkle_New := Unit → Option ((((List (List Int)) × Unit) × Unit) × Unit)

noncomputable def T_merkle_New (L : LoopD) : Option ((((List (List Int)) × Unit) × Unit) × Unit) :=
  (some (((([] : List (List Int)), ()), ()), ()))

noncomputable def sol_merkle_New : F_merkle_New := fun x => T_merkle_New bigLoop

/-- (*pontage/merkle.Tree).Append -/
abbrev s_merkle_Tree_Append : Sig := ⟨[(.ptr (.pair (.own false (.arr 32 (.int .u8))) (.ro true .unit))), (.ro true (.arr 32 (.int .u8)))], [(.ro true (.int .i64))]⟩
abbrev F_merkle_Tree_Append := (((List (List Int)) × Unit) × ((List Int) × Unit)) → Option ((Int × Unit) × (((List (List Int)) × Unit) × (Unit × Unit)))

noncomputable def T_merkle_Tree_Append (L : LoopD) (t_ : ((List (List Int)) × Unit)) (h_ : (List Int)) : Option ((Int × Unit) × (((List (List Int)) × Unit) × (Unit × Unit))) :=
  (letR (List.append t_.1 [h_]) fun (v_0 : (List (List Int))) =>
  (brR (Go.Pon.roomy ((List.length t_.1) + (1 : Nat)) (Go.Pon.Ty.arr 32 (Go.Pon.Ty.int Go.IntKind.u8)))
   (some (((Go.IntKind.wrap (Go.IntKind.i64) ((((List.length v_0) : Nat) : Int) - (1 : Int))), ()), ((v_0, t_.2), ((), ()))))
   none))

noncomputable def sol_merkle_Tree_Append : F_merkle_Tree_Append := fun x => T_merkle_Tree_Append bigLoop x.1 x.2.1

/-- pontage/merkle.splitPoint -/
abbrev s_merkle_splitPoint : Sig := ⟨[(.ro true (.int .i64))], [(.ro true (.int .i64))]⟩
abbrev F_merkle_splitPoint := (Int × Unit) → Option ((Int × Unit) × (Unit × Unit))

noncomputable def T_merkle_splitPoint_loop0 (again_0 : (Int × (Int × Unit)) → Option ((Int × Unit) × (Unit × Unit))) (n_1 : Int) (k_2 : Int) : Option ((Int × Unit) × (Unit × Unit)) :=
  (brR (decide (k_2 < (Go.IntKind.wrap (Go.IntKind.i64) (n_1 - k_2))))
   (again_0 (n_1, ((Go.IntKind.wrap (Go.IntKind.i64) (k_2 * (2 : Int))), ())))
   (some ((k_2, ()), ((), ()))))

noncomputable def T_merkle_splitPoint (L : LoopD) (n_ : Int) : Option ((Int × Unit) × (Unit × Unit)) :=
  (L _ _ (fun again x => T_merkle_splitPoint_loop0 again x.1 x.2.1) (n_, ((1 : Int), ())))

noncomputable def sol_merkle_splitPoint : F_merkle_splitPoint := fun x => T_merkle_splitPoint bigLoop x.1

/-- pontage/merkle.RootOf -/
abbrev s_merkle_RootOf : Sig := ⟨[(.ro false (.slice (.arr 32 (.int .u8))))], [(.ro true (.arr 32 (.int .u8)))]⟩
abbrev F_merkle_RootOf := ((List (List Int)) × Unit) → Option (((List Int) × Unit) × (Unit × Unit))

noncomputable def T_merkle_RootOf (L : LoopD) (c_hash_Sum : F_hash_Sum) (c_merkle_splitPoint : F_merkle_splitPoint) (c_merkle_RootOf : F_merkle_RootOf) (c_hash_Node : F_hash_Node) (l_ : (List (List Int))) : Option (((List Int) × Unit) × (Unit × Unit)) :=
  (letR (((List.length l_) : Nat) : Int) fun (v_0 : Int) =>
  (brR (decide (v_0 = (0 : Int)))
   (Option.bind (c_hash_Sum (([] : List Int), ())) (fun (y_1 : (((List Int) × Unit) × (Unit × Unit))) =>
    (some ((y_1.1.1, ()), ((), ())))))
   (brR (decide (v_0 = (1 : Int)))
    (brR (Go.Pon.inR (0 : Int) (List.length l_))
     (some (((List.getD l_ (0 : Nat) (List.replicate (32 : Nat) (0 : Int))), ()), ((), ())))
     none)
    (Option.bind (c_merkle_splitPoint (v_0, ())) (fun (y_2 : ((Int × Unit) × (Unit × Unit))) =>
     (brR ((decide ((0 : Int) ≤ y_2.1.1)) && (decide (y_2.1.1 ≤ v_0)))
      (Option.bind (c_merkle_RootOf ((List.take ((Int.toNat y_2.1.1) - (0 : Nat)) (List.drop (0 : Nat) l_)), ())) (fun (y_3 : (((List Int) × Unit) × (Unit × Unit))) =>
       (brR ((decide ((0 : Int) ≤ y_2.1.1)) && (decide (y_2.1.1 ≤ v_0)))
        (Option.bind (c_merkle_RootOf ((List.take ((List.length l_) - (Int.toNat y_2.1.1)) (List.drop (Int.toNat y_2.1.1) l_)), ())) (fun (y_4 : (((List Int) × Unit) × (Unit × Unit))) =>
         (Option.bind (c_hash_Node (y_3.1.1, (y_4.1.1, ()))) (fun (y_5 : (((List Int) × Unit) × (Unit × (Unit × Unit)))) =>
          (some ((y_5.1.1, ()), ((), ())))))))
        none)))
      none))))))

noncomputable def solN_merkle_RootOf : Nat → F_merkle_RootOf
  | 0 => fun _ => none
  | n + 1 => fun x => T_merkle_RootOf bigLoop sol_hash_Sum sol_merkle_splitPoint (solN_merkle_RootOf n) sol_hash_Node x.1
noncomputable def sol_merkle_RootOf : F_merkle_RootOf := solN_merkle_RootOf bigF

/-- (*pontage/merkle.Tree).Root -/
abbrev s_merkle_Tree_Root : Sig := ⟨[(.ptr (.pair (.own false (.arr 32 (.int .u8))) (.ro true .unit))), (.ro true (.int .i64))], [(.ro true (.arr 32 (.int .u8))), (.ro true .bool)]⟩
abbrev F_merkle_Tree_Root := (((List (List Int)) × Unit) × (Int × Unit)) → Option (((List Int) × (Bool × Unit)) × (((List (List Int)) × Unit) × (Unit × Unit)))

noncomputable def T_merkle_Tree_Root (L : LoopD) (c_merkle_RootOf : F_merkle_RootOf) (t_ : ((List (List Int)) × Unit)) (n_ : Int) : Option (((List Int) × (Bool × Unit)) × (((List (List Int)) × Unit) × (Unit × Unit))) :=
  (letR (((List.length t_.1) : Nat) : Int) fun (v_0 : Int) =>
  (brR (decide (n_ < (0 : Int)))
   (some (((List.replicate (32 : Nat) (0 : Int)), (false, ())), ((t_.1, t_.2), ((), ()))))
   (brR (decide (n_ > v_0))
    (some (((List.replicate (32 : Nat) (0 : Int)), (false, ())), ((t_.1, t_.2), ((), ()))))
    (brR ((decide ((0 : Int) ≤ n_)) && (decide (n_ ≤ v_0)))
     (Option.bind (c_merkle_RootOf ((List.take ((Int.toNat n_) - (0 : Nat)) (List.drop (0 : Nat) t_.1)), ())) (fun (y_1 : (((List Int) × Unit) × (Unit × Unit))) =>
      (some ((y_1.1.1, (true, ())), ((t_.1, t_.2), ((), ()))))))
     none))))

noncomputable def sol_merkle_Tree_Root : F_merkle_Tree_Root := fun x => T_merkle_Tree_Root bigLoop sol_merkle_RootOf x.1 x.2.1

/-- pontage/merkle.proof -/
abbrev s_merkle_proof : Sig := ⟨[(.ro false (.slice (.arr 32 (.int .u8)))), (.ro true (.int .i64))], [(.own true (.arr 32 (.int .u8)))]⟩
abbrev F_merkle_proof := ((List (List Int)) × (Int × Unit)) → Option (((List (List Int)) × Unit) × (Unit × (Unit × Unit)))

noncomputable def T_merkle_proof (L : LoopD) (c_merkle_splitPoint : F_merkle_splitPoint) (c_merkle_proof : F_merkle_proof) (c_merkle_RootOf : F_merkle_RootOf) (l_ : (List (List Int))) (i_ : Int) : Option (((List (List Int)) × Unit) × (Unit × (Unit × Unit))) :=
  (letR (((List.length l_) : Nat) : Int) fun (v_0 : Int) =>
  (letR (List.drop (0 : Nat) l_) fun (v_1 : (List (List Int))) =>
  (brR (decide (v_0 = (1 : Int)))
   (some ((([] : List (List Int)), ()), ((), ((), ()))))
   (Option.bind (c_merkle_splitPoint (v_0, ())) (fun (y_2 : ((Int × Unit) × (Unit × Unit))) =>
    (letR (List.take ((Int.toNat y_2.1.1) - (0 : Nat)) v_1) fun (v_3 : (List (List Int))) =>
    (letR (List.take ((List.length l_) - (Int.toNat y_2.1.1)) (List.drop (Int.toNat y_2.1.1) l_)) fun (v_4 : (List (List Int))) =>
    (brR (decide (i_ < y_2.1.1))
     (brR ((decide ((0 : Int) ≤ y_2.1.1)) && (decide (y_2.1.1 ≤ v_0)))
      (Option.bind (c_merkle_proof (v_3, (i_, ()))) (fun (y_5 : (((List (List Int)) × Unit) × (Unit × (Unit × Unit)))) =>
       (brR ((decide ((0 : Int) ≤ y_2.1.1)) && (decide (y_2.1.1 ≤ v_0)))
        (Option.bind (c_merkle_RootOf (v_4, ())) (fun (y_6 : (((List Int) × Unit) × (Unit × Unit))) =>
         (brR (Go.Pon.roomy ((List.length y_5.1.1) + (1 : Nat)) (Go.Pon.Ty.arr 32 (Go.Pon.Ty.int Go.IntKind.u8)))
          (some (((List.append y_5.1.1 [y_6.1.1]), ()), ((), ((), ()))))
          none)))
        none)))
      none)
     (brR ((decide ((0 : Int) ≤ y_2.1.1)) && (decide (y_2.1.1 ≤ v_0)))
      (Option.bind (c_merkle_proof (v_4, ((Go.IntKind.wrap (Go.IntKind.i64) (i_ - y_2.1.1)), ()))) (fun (y_7 : (((List (List Int)) × Unit) × (Unit × (Unit × Unit)))) =>
       (brR ((decide ((0 : Int) ≤ y_2.1.1)) && (decide (y_2.1.1 ≤ v_0)))
        (Option.bind (c_merkle_RootOf (v_3, ())) (fun (y_8 : (((List Int) × Unit) × (Unit × Unit))) =>
         (brR (Go.Pon.roomy ((List.length y_7.1.1) + (1 : Nat)) (Go.Pon.Ty.arr 32 (Go.Pon.Ty.int Go.IntKind.u8)))
          (some (((List.append y_7.1.1 [y_8.1.1]), ()), ((), ((), ()))))
          none)))
        none)))
      none)))))))))

noncomputable def solN_merkle_proof : Nat → F_merkle_proof
  | 0 => fun _ => none
  | n + 1 => fun x => T_merkle_proof bigLoop sol_merkle_splitPoint (solN_merkle_proof n) sol_merkle_RootOf x.1 x.2.1
noncomputable def sol_merkle_proof : F_merkle_proof := solN_merkle_proof bigF

/-- (*pontage/merkle.Tree).Proof -/
abbrev s_merkle_Tree_Proof : Sig := ⟨[(.ptr (.pair (.own false (.arr 32 (.int .u8))) (.ro true .unit))), (.ro true (.int .i64)), (.ro true (.int .i64))], [(.ro false (.slice (.arr 32 (.int .u8)))), (.ro true .bool)]⟩
abbrev F_merkle_Tree_Proof := (((List (List Int)) × Unit) × (Int × (Int × Unit))) → Option (((List (List Int)) × (Bool × Unit)) × (((List (List Int)) × Unit) × (Unit × (Unit × Unit))))

noncomputable def T_merkle_Tree_Proof (L : LoopD) (c_merkle_proof : F_merkle_proof) (c_slices_Clip_api_Hash_api_Hash : F_slices_Clip_api_Hash_api_Hash) (t_ : ((List (List Int)) × Unit)) (i_ : Int) (n_ : Int) : Option (((List (List Int)) × (Bool × Unit)) × (((List (List Int)) × Unit) × (Unit × (Unit × Unit)))) :=
  (letR (((List.length t_.1) : Nat) : Int) fun (v_0 : Int) =>
  (brR (decide (i_ < (0 : Int)))
   (some ((([] : List (List Int)), (false, ())), ((t_.1, t_.2), ((), ((), ())))))
   (brR (decide (i_ ≥ n_))
    (some ((([] : List (List Int)), (false, ())), ((t_.1, t_.2), ((), ((), ())))))
    (brR (decide (n_ > v_0))
     (some ((([] : List (List Int)), (false, ())), ((t_.1, t_.2), ((), ((), ())))))
     (brR ((decide ((0 : Int) ≤ n_)) && (decide (n_ ≤ v_0)))
      (Option.bind (c_merkle_proof ((List.take ((Int.toNat n_) - (0 : Nat)) (List.drop (0 : Nat) t_.1)), (i_, ()))) (fun (y_1 : (((List (List Int)) × Unit) × (Unit × (Unit × Unit)))) =>
       (Option.bind (c_slices_Clip_api_Hash_api_Hash (y_1.1.1, ())) (fun (y_2 : (((List (List Int)) × Unit) × (Unit × Unit))) =>
        (some ((y_2.1.1, (true, ())), ((t_.1, t_.2), ((), ((), ())))))))))
      none)))))

noncomputable def sol_merkle_Tree_Proof : F_merkle_Tree_Proof := fun x => T_merkle_Tree_Proof bigLoop sol_merkle_proof sol_slices_Clip_api_Hash_api_Hash x.1 x.2.1 x.2.2.1

/-- pontage/merkle.rootFrom -/
abbrev s_merkle_rootFrom : Sig := ⟨[(.ro true (.int .i64)), (.ro true (.int .i64)), (.ro true (.arr 32 (.int .u8))), (.ro false (.slice (.arr 32 (.int .u8))))], [(.ro true (.arr 32 (.int .u8))), (.ro true .bool)]⟩
abbrev F_merkle_rootFrom := (Int × (Int × ((List Int) × ((List (List Int)) × Unit)))) → Option (((List Int) × (Bool × Unit)) × (Unit × (Unit × (Unit × (Unit × Unit)))))

noncomputable def T_merkle_rootFrom (L : LoopD) (c_merkle_splitPoint : F_merkle_splitPoint) (c_merkle_rootFrom : F_merkle_rootFrom) (c_hash_Node : F_hash_Node) (n_ : Int) (i_ : Int) (leaf_ : (List Int)) (l_ : (List (List Int))) : Option (((List Int) × (Bool × Unit)) × (Unit × (Unit × (Unit × (Unit × Unit))))) :=
  (letR (((List.length l_) : Nat) : Int) fun (v_0 : Int) =>
  (letR (Go.IntKind.wrap (Go.IntKind.i64) (v_0 - (1 : Int))) fun (v_1 : Int) =>
  (letR (List.getD l_ (Int.toNat v_1) (List.replicate (32 : Nat) (0 : Int))) fun (v_2 : (List Int)) =>
  (brR (decide (n_ = (1 : Int)))
   (some ((leaf_, ((decide (v_0 = (0 : Int))), ())), ((), ((), ((), ((), ()))))))
   (brR (decide (v_0 = (0 : Int)))
    (some (((List.replicate (32 : Nat) (0 : Int)), (false, ())), ((), ((), ((), ((), ()))))))
    (Option.bind (c_merkle_splitPoint (n_, ())) (fun (y_3 : ((Int × Unit) × (Unit × Unit))) =>
     (brR (Go.Pon.inR v_1 (List.length l_))
      (brR ((decide ((0 : Int) ≤ v_1)) && (decide (v_1 ≤ v_0)))
       (brR (decide (i_ < y_3.1.1))
        (Option.bind (c_merkle_rootFrom (y_3.1.1, (i_, (leaf_, ((List.take ((Int.toNat v_1) - (0 : Nat)) (List.drop (0 : Nat) l_)), ()))))) (fun (y_4 : (((List Int) × (Bool × Unit)) × (Unit × (Unit × (Unit × (Unit × Unit)))))) =>
         (Option.bind (c_hash_Node (y_4.1.1, (v_2, ()))) (fun (y_5 : (((List Int) × Unit) × (Unit × (Unit × Unit)))) =>
          (some ((y_5.1.1, (y_4.1.2.1, ())), ((), ((), ((), ((), ()))))))))))
        (Option.bind (c_merkle_rootFrom ((Go.IntKind.wrap (Go.IntKind.i64) (n_ - y_3.1.1)), ((Go.IntKind.wrap (Go.IntKind.i64) (i_ - y_3.1.1)), (leaf_, ((List.take ((Int.toNat v_1) - (0 : Nat)) (List.drop (0 : Nat) l_)), ()))))) (fun (y_6 : (((List Int) × (Bool × Unit)) × (Unit × (Unit × (Unit × (Unit × Unit)))))) =>
         (Option.bind (c_hash_Node (v_2, (y_6.1.1, ()))) (fun (y_7 : (((List Int) × Unit) × (Unit × (Unit × Unit)))) =>
          (some ((y_7.1.1, (y_6.1.2.1, ())), ((), ((), ((), ((), ())))))))))))
       none)
      none))))))))

noncomputable def solN_merkle_rootFrom : Nat → F_merkle_rootFrom
  | 0 => fun _ => none
  | n + 1 => fun x => T_merkle_rootFrom bigLoop sol_merkle_splitPoint (solN_merkle_rootFrom n) sol_hash_Node x.1 x.2.1 x.2.2.1 x.2.2.2.1
noncomputable def sol_merkle_rootFrom : F_merkle_rootFrom := solN_merkle_rootFrom bigF

/-- pontage/merkle.Verify -/
abbrev s_merkle_Verify : Sig := ⟨[(.ro true (.arr 32 (.int .u8))), (.ro true (.int .i64)), (.ro true (.int .i64)), (.ro true (.arr 32 (.int .u8))), (.ro false (.slice (.arr 32 (.int .u8))))], [(.ro true .bool)]⟩
abbrev F_merkle_Verify := ((List Int) × (Int × (Int × ((List Int) × ((List (List Int)) × Unit))))) → Option ((Bool × Unit) × (Unit × (Unit × (Unit × (Unit × (Unit × Unit))))))

noncomputable def T_merkle_Verify (L : LoopD) (c_merkle_rootFrom : F_merkle_rootFrom) (root_ : (List Int)) (n_ : Int) (i_ : Int) (leaf_ : (List Int)) (proof_ : (List (List Int))) : Option ((Bool × Unit) × (Unit × (Unit × (Unit × (Unit × (Unit × Unit)))))) :=
  (brR (decide (i_ < (0 : Int)))
   (some ((false, ()), ((), ((), ((), ((), ((), ())))))))
   (brR (decide (i_ ≥ n_))
    (some ((false, ()), ((), ((), ((), ((), ((), ())))))))
    (Option.bind (c_merkle_rootFrom (n_, (i_, (leaf_, (proof_, ()))))) (fun (y_0 : (((List Int) × (Bool × Unit)) × (Unit × (Unit × (Unit × (Unit × Unit)))))) =>
     (brR y_0.1.2.1
      (some (((Go.Pon.eqD (Go.Pon.Ty.arr 32 (Go.Pon.Ty.int Go.IntKind.u8)) y_0.1.1 root_), ()), ((), ((), ((), ((), ((), ())))))))
      (some ((false, ()), ((), ((), ((), ((), ((), ()))))))))))))

noncomputable def sol_merkle_Verify : F_merkle_Verify := fun x => T_merkle_Verify bigLoop sol_merkle_rootFrom x.1 x.2.1 x.2.2.1 x.2.2.2.1 x.2.2.2.2.1

/-- (*pontage/merkle.Tree).Len -/
abbrev s_merkle_Tree_Len : Sig := ⟨[(.ptr (.pair (.own false (.arr 32 (.int .u8))) (.ro true .unit)))], [(.ro true (.int .i64))]⟩
abbrev F_merkle_Tree_Len := (((List (List Int)) × Unit) × Unit) → Option ((Int × Unit) × (((List (List Int)) × Unit) × Unit))

noncomputable def T_merkle_Tree_Len (L : LoopD) (t_ : ((List (List Int)) × Unit)) : Option ((Int × Unit) × (((List (List Int)) × Unit) × Unit)) :=
  (some (((((List.length t_.1) : Nat) : Int), ()), ((t_.1, t_.2), ())))

noncomputable def sol_merkle_Tree_Len : F_merkle_Tree_Len := fun x => T_merkle_Tree_Len bigLoop x.1

end Go.Pon
/-
  What the functions of package int256 compute (printed by a program of this work).
-/
set_option autoImplicit false
set_option linter.unusedVariables false
set_option maxRecDepth 100000
namespace Go.Pon
open Go

/-- pontage/int256.Valid -/
abbrev s_int256_Valid : Sig := ⟨[(.ro true (.pair .bool (.pair (.arr 4 (.int .u64)) .unit)))], [(.ro true .bool)]⟩
abbrev F_int256_Valid := ((Bool × ((List Int) × Unit)) × Unit) → Option ((Bool × Unit) × (Unit × Unit))

noncomputable def T_int256_Valid (L : LoopD) (a_ : (Bool × ((List Int) × Unit))) : Option ((Bool × Unit) × (Unit × Unit)) :=
  (brR (!a_.1)
   (some ((true, ()), ((), ())))
   (some (((!(Go.Pon.eqD (Go.Pon.Ty.arr 4 (Go.Pon.Ty.int Go.IntKind.u64)) a_.2.1 [(0 : Int), (0 : Int), (0 : Int), (0 : Int)])), ()), ((), ()))))

noncomputable def sol_int256_Valid : F_int256_Valid := fun x => T_int256_Valid bigLoop x.1

end Go.Pon
/-
  What the functions of package uint256 compute (printed by a program of this work).
-/
set_option autoImplicit false
set_option linter.unusedVariables false
set_option maxRecDepth 100000
namespace Go.Pon
open Go

/-- pontage/uint256.FromUint64 -/
abbrev s_uint256_FromUint64 : Sig := ⟨[(.ro true (.int .u64))], [(.ro true (.arr 4 (.int .u64)))]⟩
abbrev F_uint256_FromUint64 := (Int × Unit) → Option (((List Int) × Unit) × (Unit × Unit))

noncomputable def T_uint256_FromUint64 (L : LoopD) (n_ : Int) : Option (((List Int) × Unit) × (Unit × Unit)) :=
  (some (([n_, (0 : Int), (0 : Int), (0 : Int)], ()), ((), ())))

noncomputable def sol_uint256_FromUint64 : F_uint256_FromUint64 := fun x => T_uint256_FromUint64 bigLoop x.1

/-- pontage/uint256.BitLen -/
abbrev s_uint256_BitLen : Sig := ⟨[(.ro true (.arr 4 (.int .u64)))], [(.ro true (.int .i64))]⟩
abbrev F_uint256_BitLen := ((List Int) × Unit) → Option ((Int × Unit) × (Unit × Unit))

noncomputable def T_uint256_BitLen_loop0 (c_math_bits_Len64 : F_math_bits_Len64) (again_0 : ((List Int) × (Int × Unit)) → Option ((Int × Unit) × (Unit × Unit))) (a_1 : (List Int)) (i_2 : Int) : Option ((Int × Unit) × (Unit × Unit)) :=
  (brR (decide (i_2 ≥ (0 : Int)))
   (brR (Go.Pon.inR i_2 (4 : Nat))
    (brR (!(decide ((List.getD a_1 (Int.toNat i_2) (0 : Int)) = (0 : Int))))
     (brR (Go.Pon.inR i_2 (4 : Nat))
      (Option.bind (c_math_bits_Len64 ((List.getD a_1 (Int.toNat i_2) (0 : Int)), ())) (fun (y_3 : ((Int × Unit) × (Unit × Unit))) =>
       (some (((Go.IntKind.wrap (Go.IntKind.i64) ((Go.IntKind.wrap (Go.IntKind.i64) ((64 : Int) * i_2)) + y_3.1.1)), ()), ((), ())))))
      none)
     (again_0 (a_1, ((Go.IntKind.wrap (Go.IntKind.i64) (i_2 - (1 : Int))), ()))))
    none)
   (some (((0 : Int), ()), ((), ()))))

noncomputable def T_uint256_BitLen (L : LoopD) (c_math_bits_Len64 : F_math_bits_Len64) (a_ : (List Int)) : Option ((Int × Unit) × (Unit × Unit)) :=
  (L _ _ (fun again x => T_uint256_BitLen_loop0 c_math_bits_Len64 again x.1 x.2.1) (a_, ((3 : Int), ())))

noncomputable def sol_uint256_BitLen : F_uint256_BitLen := fun x => T_uint256_BitLen bigLoop sol_math_bits_Len64 x.1

end Go.Pon
/-
  What the functions of package wire compute (printed by a program of this work).
-/
set_option autoImplicit false
set_option linter.unusedVariables false
set_option maxRecDepth 100000
namespace Go.Pon
open Go

/-- pontage/wire.encode -/
abbrev s_wire_encode : Sig := ⟨[(.ro true (.arr 4 (.int .u64)))], [(.own true (.int .u8))]⟩
abbrev F_wire_encode := ((List Int) × Unit) → Option (((List Int) × Unit) × (Unit × Unit))

noncomputable def T_wire_encode_loop0 (again_2 : ((List Int) × ((List Int) × (Int × Unit))) → Option (((List Int) × Unit) × (Unit × Unit))) (n_3 : (List Int)) (out_4 : (List Int)) (i_5 : Int) : Option (((List Int) × Unit) × (Unit × Unit)) :=
  (letR (Go.IntKind.wrap (Go.IntKind.i64) ((8 : Int) * (Int.tmod i_5 (8 : Int)))) fun (v_6 : Int) =>
  (brR (decide (i_5 ≥ (0 : Int)))
   (brR (Go.Pon.inR (Go.IntKind.wrap (Go.IntKind.i64) (Int.tdiv i_5 (8 : Int))) (4 : Nat))
    (brR (decide ((0 : Int) ≤ v_6))
     (brR (Go.Pon.roomy ((List.length out_4) + (1 : Nat)) (Go.Pon.Ty.int Go.IntKind.u8))
      (again_2 (n_3, ((List.append out_4 [(Go.IntKind.wrap (Go.IntKind.u8) (Int.fdiv (List.getD n_3 (Int.toNat (Go.IntKind.wrap (Go.IntKind.i64) (Int.tdiv i_5 (8 : Int)))) (0 : Int)) ((2 : Int) ^ (min (Int.toNat v_6) (64 : Nat)))))]), ((Go.IntKind.wrap (Go.IntKind.i64) (i_5 - (1 : Int))), ()))))
      none)
     none)
    none)
   (some ((out_4, ()), ((), ())))))

noncomputable def T_wire_encode (L : LoopD) (c_uint256_BitLen : F_uint256_BitLen) (n_ : (List Int)) : Option (((List Int) × Unit) × (Unit × Unit)) :=
  (Option.bind (c_uint256_BitLen (n_, ())) (fun (y_0 : ((Int × Unit) × (Unit × Unit))) =>
   (letR (Go.IntKind.wrap (Go.IntKind.i64) (Int.tdiv (Go.IntKind.wrap (Go.IntKind.i64) (y_0.1.1 + (7 : Int))) (8 : Int))) fun (v_1 : Int) =>
   (L _ _ (fun again x => T_wire_encode_loop0 again x.1 x.2.1 x.2.2.1) (n_, ([(Go.IntKind.wrap (Go.IntKind.u8) v_1)], ((Go.IntKind.wrap (Go.IntKind.i64) (v_1 - (1 : Int))), ())))))))

noncomputable def sol_wire_encode : F_wire_encode := fun x => T_wire_encode bigLoop sol_uint256_BitLen x.1

/-- pontage/wire.AppendUint256 -/
abbrev s_wire_AppendUint256 : Sig := ⟨[(.ro false (.slice (.int .u8))), (.ro true (.arr 4 (.int .u64)))], [(.own true (.int .u8))]⟩
abbrev F_wire_AppendUint256 := ((List Int) × ((List Int) × Unit)) → Option (((List Int) × Unit) × (Unit × (Unit × Unit)))

noncomputable def T_wire_AppendUint256 (L : LoopD) (c_wire_encode : F_wire_encode) (c_slices_Concat_byte_byte : F_slices_Concat_byte_byte) (b_ : (List Int)) (n_ : (List Int)) : Option (((List Int) × Unit) × (Unit × (Unit × Unit))) :=
  (Option.bind (c_wire_encode (n_, ())) (fun (y_0 : (((List Int) × Unit) × (Unit × Unit))) =>
   (Option.bind (c_slices_Concat_byte_byte ([b_, y_0.1.1], ())) (fun (y_1 : (((List Int) × Unit) × (Unit × Unit))) =>
    (some ((y_1.1.1, ()), ((), ((), ()))))))))

noncomputable def sol_wire_AppendUint256 : F_wire_AppendUint256 := fun x => T_wire_AppendUint256 bigLoop sol_wire_encode sol_slices_Concat_byte_byte x.1 x.2.1

/-- pontage/wire.AppendUint64 -/
abbrev s_wire_AppendUint64 : Sig := ⟨[(.ro false (.slice (.int .u8))), (.ro true (.int .u64))], [(.own true (.int .u8))]⟩
abbrev F_wire_AppendUint64 := ((List Int) × (Int × Unit)) → Option (((List Int) × Unit) × (Unit × (Unit × Unit)))

noncomputable def T_wire_AppendUint64 (L : LoopD) (c_uint256_FromUint64 : F_uint256_FromUint64) (c_wire_AppendUint256 : F_wire_AppendUint256) (b_ : (List Int)) (n_ : Int) : Option (((List Int) × Unit) × (Unit × (Unit × Unit))) :=
  (Option.bind (c_uint256_FromUint64 (n_, ())) (fun (y_0 : (((List Int) × Unit) × (Unit × Unit))) =>
   (Option.bind (c_wire_AppendUint256 (b_, (y_0.1.1, ()))) (fun (y_1 : (((List Int) × Unit) × (Unit × (Unit × Unit)))) =>
    (some ((y_1.1.1, ()), ((), ((), ()))))))))

noncomputable def sol_wire_AppendUint64 : F_wire_AppendUint64 := fun x => T_wire_AppendUint64 bigLoop sol_uint256_FromUint64 sol_wire_AppendUint256 x.1 x.2.1

/-- pontage/wire.AppendBytes -/
abbrev s_wire_AppendBytes : Sig := ⟨[(.ro false (.slice (.int .u8))), (.ro false (.slice (.int .u8)))], [(.own true (.int .u8))]⟩
abbrev F_wire_AppendBytes := ((List Int) × ((List Int) × Unit)) → Option (((List Int) × Unit) × (Unit × (Unit × Unit)))

noncomputable def T_wire_AppendBytes (L : LoopD) (c_uint256_FromUint64 : F_uint256_FromUint64) (c_wire_encode : F_wire_encode) (c_slices_Concat_byte_byte : F_slices_Concat_byte_byte) (b_ : (List Int)) (x_ : (List Int)) : Option (((List Int) × Unit) × (Unit × (Unit × Unit))) :=
  (Option.bind (c_uint256_FromUint64 ((Go.IntKind.wrap (Go.IntKind.u64) (((List.length x_) : Nat) : Int)), ())) (fun (y_0 : (((List Int) × Unit) × (Unit × Unit))) =>
   (Option.bind (c_wire_encode (y_0.1.1, ())) (fun (y_1 : (((List Int) × Unit) × (Unit × Unit))) =>
    (Option.bind (c_slices_Concat_byte_byte ([b_, y_1.1.1, x_], ())) (fun (y_2 : (((List Int) × Unit) × (Unit × Unit))) =>
     (some ((y_2.1.1, ()), ((), ((), ()))))))))))

noncomputable def sol_wire_AppendBytes : F_wire_AppendBytes := fun x => T_wire_AppendBytes bigLoop sol_uint256_FromUint64 sol_wire_encode sol_slices_Concat_byte_byte x.1 x.2.1

/-- pontage/wire.readUint -/
abbrev s_wire_readUint : Sig := ⟨[(.ro false (.slice (.int .u8))), (.ro true (.int .i64)), (.ro true (.int .i64))], [(.ro true (.arr 4 (.int .u64))), (.ro true (.int .i64)), (.ro true (.int .i64))]⟩
abbrev F_wire_readUint := ((List Int) × (Int × (Int × Unit))) → Option (((List Int) × (Int × (Int × Unit))) × (Unit × (Unit × (Unit × Unit))))

noncomputable def T_wire_readUint_loop0 (again_6 : (Int × ((List Int) × ((List Int) × (Int × ((List Int) × (Int × (Int × Unit))))))) → Option (((List Int) × (Int × (Int × Unit))) × (Unit × (Unit × (Unit × Unit))))) (at_7 : Int) (t6_8 : (List Int)) (rest_9 : (List Int)) (k_10 : Int) (n_11 : (List Int)) (t56_12 : Int) (t57_13 : Int) : Option (((List Int) × (Int × (Int × Unit))) × (Unit × (Unit × (Unit × Unit)))) :=
  (letR (Go.IntKind.wrap (Go.IntKind.i64) ((Go.IntKind.wrap (Go.IntKind.i64) (k_10 - (1 : Int))) - t57_13)) fun (v_14 : Int) =>
  (letR (Go.IntKind.wrap (Go.IntKind.i64) (Int.tdiv v_14 (8 : Int))) fun (v_15 : Int) =>
  (letR (Go.IntKind.wrap (Go.IntKind.i64) ((8 : Int) * (Int.tmod v_14 (8 : Int)))) fun (v_16 : Int) =>
  (brR (decide (t57_13 < t56_12))
   (brR (Go.Pon.inR v_15 (4 : Nat))
    (brR (Go.Pon.inR t57_13 (List.length rest_9))
     (brR (decide ((0 : Int) ≤ v_16))
      (brR (Go.Pon.inR v_15 (4 : Nat))
       (again_6 (at_7, (t6_8, (rest_9, (k_10, ((List.set n_11 (Int.toNat v_15) (Go.IntKind.wrap (Go.IntKind.u64) (((BitVec.toNat ((BitVec.ofInt (64 : Nat) (List.getD n_11 (Int.toNat v_15) (0 : Int))) ||| (BitVec.ofInt (64 : Nat) (Go.IntKind.wrap (Go.IntKind.u64) ((Go.IntKind.wrap (Go.IntKind.u64) (List.getD rest_9 (Int.toNat t57_13) (0 : Int))) * ((2 : Int) ^ (min (Int.toNat v_16) (64 : Nat)))))))) : Nat) : Int))), (t56_12, ((Go.IntKind.wrap (Go.IntKind.i64) (t57_13 + (1 : Int))), ()))))))))
       none)
      none)
     none)
    none)
   (some ((n_11, ((Go.IntKind.wrap (Go.IntKind.i64) ((Go.IntKind.wrap (Go.IntKind.i64) (at_7 + (1 : Int))) + k_10)), ((0 : Int), ()))), ((), ((), ((), ())))))))))

noncomputable def T_wire_readUint (L : LoopD) (b_ : (List Int)) (at_ : Int) (most_ : Int) : Option (((List Int) × (Int × (Int × Unit))) × (Unit × (Unit × (Unit × Unit)))) :=
  (letR (List.take ((List.length b_) - (Int.toNat at_)) (List.drop (Int.toNat at_) b_)) fun (v_0 : (List Int)) =>
  (letR (List.length v_0) fun (v_1 : Nat) =>
  (letR ((v_1 : Nat) : Int) fun (v_2 : Int) =>
  (letR (Go.IntKind.wrap (Go.IntKind.i64) (List.getD v_0 (0 : Nat) (0 : Int))) fun (v_3 : Int) =>
  (letR (List.take (v_1 - (1 : Nat)) (List.drop (1 : Nat) v_0)) fun (v_4 : (List Int)) =>
  (letR (List.length v_4) fun (v_5 : Nat) =>
  (brR (decide (at_ < (0 : Int)))
   (some (([(0 : Int), (0 : Int), (0 : Int), (0 : Int)], ((0 : Int), ((2 : Int), ()))), ((), ((), ((), ())))))
   (brR (decide (at_ > (((List.length b_) : Nat) : Int)))
    (some (([(0 : Int), (0 : Int), (0 : Int), (0 : Int)], ((0 : Int), ((2 : Int), ()))), ((), ((), ((), ())))))
    (brR ((decide ((0 : Int) ≤ at_)) && (decide (at_ ≤ (((List.length b_) : Nat) : Int))))
     (brR (decide (v_2 = (0 : Int)))
      (some (([(0 : Int), (0 : Int), (0 : Int), (0 : Int)], ((0 : Int), ((3 : Int), ()))), ((), ((), ((), ())))))
      (brR (Go.Pon.inR (0 : Int) v_1)
       (brR (decide ((1 : Int) ≤ v_2))
        (brR (decide (v_3 > most_))
         (some (([(0 : Int), (0 : Int), (0 : Int), (0 : Int)], ((0 : Int), ((3 : Int), ()))), ((), ((), ((), ())))))
         (brR (decide (v_3 > ((v_5 : Nat) : Int)))
          (some (([(0 : Int), (0 : Int), (0 : Int), (0 : Int)], ((0 : Int), ((3 : Int), ()))), ((), ((), ((), ())))))
          (brR (decide (v_3 > (0 : Int)))
           (brR (Go.Pon.inR (0 : Int) v_5)
            (brR (decide ((List.getD v_4 (0 : Nat) (0 : Int)) = (0 : Int)))
             (some (([(0 : Int), (0 : Int), (0 : Int), (0 : Int)], ((0 : Int), ((3 : Int), ()))), ((), ((), ((), ())))))
             (L _ _ (fun again x => T_wire_readUint_loop0 again x.1 x.2.1 x.2.2.1 x.2.2.2.1 x.2.2.2.2.1 x.2.2.2.2.2.1 x.2.2.2.2.2.2.1) (at_, ([(0 : Int), (0 : Int), (0 : Int), (0 : Int)], (v_4, (v_3, ([(0 : Int), (0 : Int), (0 : Int), (0 : Int)], (v_3, ((0 : Int), ())))))))))
            none)
           (L _ _ (fun again x => T_wire_readUint_loop0 again x.1 x.2.1 x.2.2.1 x.2.2.2.1 x.2.2.2.2.1 x.2.2.2.2.2.1 x.2.2.2.2.2.2.1) (at_, ([(0 : Int), (0 : Int), (0 : Int), (0 : Int)], (v_4, (v_3, ([(0 : Int), (0 : Int), (0 : Int), (0 : Int)], (v_3, ((0 : Int), ())))))))))))
        none)
       none))
     none)))))))))

noncomputable def sol_wire_readUint : F_wire_readUint := fun x => T_wire_readUint bigLoop x.1 x.2.1 x.2.2.1

/-- pontage/wire.ReadUint64 -/
abbrev s_wire_ReadUint64 : Sig := ⟨[(.ro false (.slice (.int .u8))), (.ro true (.int .i64))], [(.ro true (.int .u64)), (.ro true (.int .i64)), (.ro true (.int .i64))]⟩
abbrev F_wire_ReadUint64 := ((List Int) × (Int × Unit)) → Option ((Int × (Int × (Int × Unit))) × (Unit × (Unit × Unit)))

noncomputable def T_wire_ReadUint64 (L : LoopD) (c_wire_readUint : F_wire_readUint) (b_ : (List Int)) (at_ : Int) : Option ((Int × (Int × (Int × Unit))) × (Unit × (Unit × Unit))) :=
  (Option.bind (c_wire_readUint (b_, (at_, ((8 : Int), ())))) (fun (y_0 : (((List Int) × (Int × (Int × Unit))) × (Unit × (Unit × (Unit × Unit))))) =>
   (some (((List.getD y_0.1.1 (0 : Nat) (0 : Int)), (y_0.1.2.1, (y_0.1.2.2.1, ()))), ((), ((), ()))))))

noncomputable def sol_wire_ReadUint64 : F_wire_ReadUint64 := fun x => T_wire_ReadUint64 bigLoop sol_wire_readUint x.1 x.2.1

/-- pontage/wire.ReadUint256 -/
abbrev s_wire_ReadUint256 : Sig := ⟨[(.ro false (.slice (.int .u8))), (.ro true (.int .i64))], [(.ro true (.arr 4 (.int .u64))), (.ro true (.int .i64)), (.ro true (.int .i64))]⟩
abbrev F_wire_ReadUint256 := ((List Int) × (Int × Unit)) → Option (((List Int) × (Int × (Int × Unit))) × (Unit × (Unit × Unit)))

noncomputable def T_wire_ReadUint256 (L : LoopD) (c_wire_readUint : F_wire_readUint) (b_ : (List Int)) (at_ : Int) : Option (((List Int) × (Int × (Int × Unit))) × (Unit × (Unit × Unit))) :=
  (Option.bind (c_wire_readUint (b_, (at_, ((32 : Int), ())))) (fun (y_0 : (((List Int) × (Int × (Int × Unit))) × (Unit × (Unit × (Unit × Unit))))) =>
   (some ((y_0.1.1, (y_0.1.2.1, (y_0.1.2.2.1, ()))), ((), ((), ()))))))

noncomputable def sol_wire_ReadUint256 : F_wire_ReadUint256 := fun x => T_wire_ReadUint256 bigLoop sol_wire_readUint x.1 x.2.1

/-- pontage/wire.ReadBytes -/
abbrev s_wire_ReadBytes : Sig := ⟨[(.ro false (.slice (.int .u8))), (.ro true (.int .i64))], [(.own true (.int .u8)), (.ro true (.int .i64)), (.ro true (.int .i64))]⟩
abbrev F_wire_ReadBytes := ((List Int) × (Int × Unit)) → Option (((List Int) × (Int × (Int × Unit))) × (Unit × (Unit × Unit)))

noncomputable def T_wire_ReadBytes (L : LoopD) (c_wire_ReadUint64 : F_wire_ReadUint64) (c_slices_Clone_byte_byte : F_slices_Clone_byte_byte) (b_ : (List Int)) (at_ : Int) : Option (((List Int) × (Int × (Int × Unit))) × (Unit × (Unit × Unit))) :=
  (Option.bind (c_wire_ReadUint64 (b_, (at_, ()))) (fun (y_0 : ((Int × (Int × (Int × Unit))) × (Unit × (Unit × Unit)))) =>
   (letR (Go.IntKind.wrap (Go.IntKind.i64) (y_0.1.2.1 + (Go.IntKind.wrap (Go.IntKind.i64) y_0.1.1))) fun (v_1 : Int) =>
   (brR (!(decide (y_0.1.2.2.1 = (0 : Int))))
    (some ((([] : List Int), ((0 : Int), (y_0.1.2.2.1, ()))), ((), ((), ()))))
    (brR (decide (y_0.1.1 > (Go.IntKind.wrap (Go.IntKind.u64) (Go.IntKind.wrap (Go.IntKind.i64) ((((List.length b_) : Nat) : Int) - y_0.1.2.1)))))
     (some ((([] : List Int), ((0 : Int), ((3 : Int), ()))), ((), ((), ()))))
     (brR (((decide ((0 : Int) ≤ y_0.1.2.1)) && (decide (y_0.1.2.1 ≤ v_1))) && (decide (v_1 ≤ (((List.length b_) : Nat) : Int))))
      (Option.bind (c_slices_Clone_byte_byte ((List.take ((Int.toNat v_1) - (Int.toNat y_0.1.2.1)) (List.drop (Int.toNat y_0.1.2.1) b_)), ())) (fun (y_2 : (((List Int) × Unit) × (Unit × Unit))) =>
       (some ((y_2.1.1, (v_1, ((0 : Int), ()))), ((), ((), ()))))))
      none))))))

noncomputable def sol_wire_ReadBytes : F_wire_ReadBytes := fun x => T_wire_ReadBytes bigLoop sol_wire_ReadUint64 sol_slices_Clone_byte_byte x.1 x.2.1

/-- pontage/wire.AppendInt256 -/
abbrev s_wire_AppendInt256 : Sig := ⟨[(.ro false (.slice (.int .u8))), (.ro true (.pair .bool (.pair (.arr 4 (.int .u64)) .unit)))], [(.own true (.int .u8))]⟩
abbrev F_wire_AppendInt256 := ((List Int) × ((Bool × ((List Int) × Unit)) × Unit)) → Option (((List Int) × Unit) × (Unit × (Unit × Unit)))

noncomputable def T_wire_AppendInt256 (L : LoopD) (c_int256_Valid : F_int256_Valid) (c_slices_Clone_byte_byte : F_slices_Clone_byte_byte) (c_wire_encode : F_wire_encode) (c_slices_Concat_byte_byte : F_slices_Concat_byte_byte) (b_ : (List Int)) (a_ : (Bool × ((List Int) × Unit))) : Option (((List Int) × Unit) × (Unit × (Unit × Unit))) :=
  (Option.bind (c_int256_Valid (a_, ())) (fun (y_0 : ((Bool × Unit) × (Unit × Unit))) =>
   (brR (!y_0.1.1)
    (Option.bind (c_slices_Clone_byte_byte (b_, ())) (fun (y_1 : (((List Int) × Unit) × (Unit × Unit))) =>
     (some ((y_1.1.1, ()), ((), ((), ()))))))
    (brR a_.1
     (Option.bind (c_wire_encode (a_.2.1, ())) (fun (y_2 : (((List Int) × Unit) × (Unit × Unit))) =>
      (Option.bind (c_slices_Concat_byte_byte ([b_, [(1 : Int)], y_2.1.1], ())) (fun (y_3 : (((List Int) × Unit) × (Unit × Unit))) =>
       (some ((y_3.1.1, ()), ((), ((), ()))))))))
     (Option.bind (c_wire_encode (a_.2.1, ())) (fun (y_4 : (((List Int) × Unit) × (Unit × Unit))) =>
      (Option.bind (c_slices_Concat_byte_byte ([b_, [(0 : Int)], y_4.1.1], ())) (fun (y_5 : (((List Int) × Unit) × (Unit × Unit))) =>
       (some ((y_5.1.1, ()), ((), ((), ()))))))))))))

noncomputable def sol_wire_AppendInt256 : F_wire_AppendInt256 := fun x => T_wire_AppendInt256 bigLoop sol_int256_Valid sol_slices_Clone_byte_byte sol_wire_encode sol_slices_Concat_byte_byte x.1 x.2.1

/-- pontage/wire.ReadInt256 -/
abbrev s_wire_ReadInt256 : Sig := ⟨[(.ro false (.slice (.int .u8))), (.ro true (.int .i64))], [(.ro true (.pair .bool (.pair (.arr 4 (.int .u64)) .unit))), (.ro true (.int .i64)), (.ro true (.int .i64))]⟩
abbrev F_wire_ReadInt256 := ((List Int) × (Int × Unit)) → Option (((Bool × ((List Int) × Unit)) × (Int × (Int × Unit))) × (Unit × (Unit × Unit)))

noncomputable def T_wire_ReadInt256 (L : LoopD) (c_wire_ReadUint256 : F_wire_ReadUint256) (c_int256_Valid : F_int256_Valid) (b_ : (List Int)) (at_ : Int) : Option (((Bool × ((List Int) × Unit)) × (Int × (Int × Unit))) × (Unit × (Unit × Unit))) :=
  (brR (decide (at_ < (0 : Int)))
   (some (((false, ([(0 : Int), (0 : Int), (0 : Int), (0 : Int)], ())), ((0 : Int), ((2 : Int), ()))), ((), ((), ()))))
   (brR (decide (at_ > (((List.length b_) : Nat) : Int)))
    (some (((false, ([(0 : Int), (0 : Int), (0 : Int), (0 : Int)], ())), ((0 : Int), ((2 : Int), ()))), ((), ((), ()))))
    (brR (decide (at_ = (((List.length b_) : Nat) : Int)))
     (some (((false, ([(0 : Int), (0 : Int), (0 : Int), (0 : Int)], ())), ((0 : Int), ((3 : Int), ()))), ((), ((), ()))))
     (brR (Go.Pon.inR at_ (List.length b_))
      (brR (decide ((List.getD b_ (Int.toNat at_) (0 : Int)) > (1 : Int)))
       (some (((false, ([(0 : Int), (0 : Int), (0 : Int), (0 : Int)], ())), ((0 : Int), ((3 : Int), ()))), ((), ((), ()))))
       (Option.bind (c_wire_ReadUint256 (b_, ((Go.IntKind.wrap (Go.IntKind.i64) (at_ + (1 : Int))), ()))) (fun (y_0 : (((List Int) × (Int × (Int × Unit))) × (Unit × (Unit × Unit)))) =>
        (brR (Go.Pon.inR at_ (List.length b_))
         (brR (!(decide (y_0.1.2.2.1 = (0 : Int))))
          (some (((false, ([(0 : Int), (0 : Int), (0 : Int), (0 : Int)], ())), ((0 : Int), ((3 : Int), ()))), ((), ((), ()))))
          (Option.bind (c_int256_Valid (((decide ((List.getD b_ (Int.toNat at_) (0 : Int)) = (1 : Int))), (y_0.1.1, ())), ())) (fun (y_1 : ((Bool × Unit) × (Unit × Unit))) =>
           (brR (!y_1.1.1)
            (some (((false, ([(0 : Int), (0 : Int), (0 : Int), (0 : Int)], ())), ((0 : Int), ((3 : Int), ()))), ((), ((), ()))))
            (some ((((decide ((List.getD b_ (Int.toNat at_) (0 : Int)) = (1 : Int))), (y_0.1.1, ())), (y_0.1.2.1, ((0 : Int), ()))), ((), ((), ()))))))))
         none))))
      none))))

noncomputable def sol_wire_ReadInt256 : F_wire_ReadInt256 := fun x => T_wire_ReadInt256 bigLoop sol_wire_ReadUint256 sol_int256_Valid x.1 x.2.1

end Go.Pon
/-
  What the functions of package outbox compute (printed by a program of this work).
-/
set_option autoImplicit false
set_option linter.unusedVariables false
set_option maxRecDepth 100000
namespace Go.Pon
open Go

/-- pontage/outbox.New -/
abbrev s_outbox_New : Sig := ⟨[], [(.ptr (.pair (.own false (.pair (.int .u64) (.pair (.int .u64) (.pair (.arr 4 (.int .u64)) .unit)))) (.pair (.ptr (.pair (.own false (.arr 32 (.int .u8))) (.ro true .unit))) (.ro true .unit))))]⟩
abbrev F_outbox_New := Unit → Option ((((List (Int × (Int × ((List Int) × Unit)))) × (((List (List Int)) × Unit) × Unit)) × Unit) × Unit)

noncomputable def T_outbox_New (L : LoopD) (c_merkle_New : F_merkle_New) : Option ((((List (Int × (Int × ((List Int) × Unit)))) × (((List (List Int)) × Unit) × Unit)) × Unit) × Unit) :=
  (Option.bind (c_merkle_New ()) (fun (y_0 : ((((List (List Int)) × Unit) × Unit) × Unit)) =>
   (some (((([] : List (Int × (Int × ((List Int) × Unit)))), ((y_0.1.1.1, y_0.1.1.2), ())), ()), ()))))

noncomputable def sol_outbox_New : F_outbox_New := fun x => T_outbox_New bigLoop sol_merkle_New

/-- pontage/outbox.Encode -/
abbrev s_outbox_Encode : Sig := ⟨[(.ro true (.pair (.int .u64) (.pair (.int .u64) (.pair (.arr 4 (.int .u64)) .unit))))], [(.own true (.int .u8))]⟩
abbrev F_outbox_Encode := ((Int × (Int × ((List Int) × Unit))) × Unit) → Option (((List Int) × Unit) × (Unit × Unit))

noncomputable def T_outbox_Encode (L : LoopD) (c_wire_AppendUint64 : F_wire_AppendUint64) (c_wire_AppendUint256 : F_wire_AppendUint256) (m_ : (Int × (Int × ((List Int) × Unit)))) : Option (((List Int) × Unit) × (Unit × Unit)) :=
  (Option.bind (c_wire_AppendUint64 (([] : List Int), (m_.1, ()))) (fun (y_0 : (((List Int) × Unit) × (Unit × (Unit × Unit)))) =>
   (Option.bind (c_wire_AppendUint64 (y_0.1.1, (m_.2.1, ()))) (fun (y_1 : (((List Int) × Unit) × (Unit × (Unit × Unit)))) =>
    (Option.bind (c_wire_AppendUint256 (y_1.1.1, (m_.2.2.1, ()))) (fun (y_2 : (((List Int) × Unit) × (Unit × (Unit × Unit)))) =>
     (some ((y_2.1.1, ()), ((), ())))))))))

noncomputable def sol_outbox_Encode : F_outbox_Encode := fun x => T_outbox_Encode bigLoop sol_wire_AppendUint64 sol_wire_AppendUint256 x.1

/-- pontage/outbox.Leaf -/
abbrev s_outbox_Leaf : Sig := ⟨[(.ro true (.pair (.int .u64) (.pair (.int .u64) (.pair (.arr 4 (.int .u64)) .unit))))], [(.ro true (.arr 32 (.int .u8)))]⟩
abbrev F_outbox_Leaf := ((Int × (Int × ((List Int) × Unit))) × Unit) → Option (((List Int) × Unit) × (Unit × Unit))

noncomputable def T_outbox_Leaf (L : LoopD) (c_outbox_Encode : F_outbox_Encode) (c_hash_Leaf : F_hash_Leaf) (m_ : (Int × (Int × ((List Int) × Unit)))) : Option (((List Int) × Unit) × (Unit × Unit)) :=
  (Option.bind (c_outbox_Encode (m_, ())) (fun (y_0 : (((List Int) × Unit) × (Unit × Unit))) =>
   (Option.bind (c_hash_Leaf (y_0.1.1, ())) (fun (y_1 : (((List Int) × Unit) × (Unit × Unit))) =>
    (some ((y_1.1.1, ()), ((), ())))))))

noncomputable def sol_outbox_Leaf : F_outbox_Leaf := fun x => T_outbox_Leaf bigLoop sol_outbox_Encode sol_hash_Leaf x.1

/-- (*pontage/outbox.Outbox).push -/
abbrev s_outbox_Outbox_push : Sig := ⟨[(.ptr (.pair (.own false (.pair (.int .u64) (.pair (.int .u64) (.pair (.arr 4 (.int .u64)) .unit)))) (.pair (.ptr (.pair (.own false (.arr 32 (.int .u8))) (.ro true .unit))) (.ro true .unit)))), (.ro true (.pair (.int .u64) (.pair (.int .u64) (.pair (.arr 4 (.int .u64)) .unit))))], []⟩
abbrev F_outbox_Outbox_push := (((List (Int × (Int × ((List Int) × Unit)))) × (((List (List Int)) × Unit) × Unit)) × ((Int × (Int × ((List Int) × Unit))) × Unit)) → Option (Unit × (((List (Int × (Int × ((List Int) × Unit)))) × (((List (List Int)) × Unit) × Unit)) × (Unit × Unit)))

noncomputable def T_outbox_Outbox_push (L : LoopD) (c_outbox_Leaf : F_outbox_Leaf) (c_merkle_Tree_Append : F_merkle_Tree_Append) (o_ : ((List (Int × (Int × ((List Int) × Unit)))) × (((List (List Int)) × Unit) × Unit))) (m_ : (Int × (Int × ((List Int) × Unit)))) : Option (Unit × (((List (Int × (Int × ((List Int) × Unit)))) × (((List (List Int)) × Unit) × Unit)) × (Unit × Unit))) :=
  (brR (Go.Pon.roomy ((List.length o_.1) + (1 : Nat)) ((Go.Pon.Ty.int Go.IntKind.u64).pair
  ((Go.Pon.Ty.int Go.IntKind.u64).pair ((Go.Pon.Ty.arr 4 (Go.Pon.Ty.int Go.IntKind.u64)).pair Go.Pon.Ty.unit))))
   (Option.bind (c_outbox_Leaf (m_, ())) (fun (y_0 : (((List Int) × Unit) × (Unit × Unit))) =>
    (Option.bind (c_merkle_Tree_Append ((o_.2.1.1, o_.2.1.2), (y_0.1.1, ()))) (fun (y_1 : ((Int × Unit) × (((List (List Int)) × Unit) × (Unit × Unit)))) =>
     (some ((), (((List.append o_.1 [m_]), ((y_1.2.1.1, y_1.2.1.2), o_.2.2)), ((), ()))))))))
   none)

noncomputable def sol_outbox_Outbox_push : F_outbox_Outbox_push := fun x => T_outbox_Outbox_push bigLoop sol_outbox_Leaf sol_merkle_Tree_Append x.1 x.2.1

/-- (*pontage/outbox.Outbox).Send -/
abbrev s_outbox_Outbox_Send : Sig := ⟨[(.optr (.pair (.own false (.pair (.int .u64) (.pair (.int .u64) (.pair (.arr 4 (.int .u64)) .unit)))) (.pair (.ptr (.pair (.own false (.arr 32 (.int .u8))) (.ro true .unit))) (.ro true .unit)))), (.ro true (.int .u64)), (.ro true (.arr 4 (.int .u64)))], [(.ro true (.pair (.int .u64) (.pair (.int .u64) (.pair (.arr 4 (.int .u64)) .unit)))), (.ro true (.int .i64))]⟩
abbrev F_outbox_Outbox_Send := ((Option ((List (Int × (Int × ((List Int) × Unit)))) × (((List (List Int)) × Unit) × Unit))) × (Int × ((List Int) × Unit))) → Option (((Int × (Int × ((List Int) × Unit))) × (Int × Unit)) × ((Option ((List (Int × (Int × ((List Int) × Unit)))) × (((List (List Int)) × Unit) × Unit))) × (Unit × (Unit × Unit))))

noncomputable def T_outbox_Outbox_Send (L : LoopD) (c_outbox_Outbox_push : F_outbox_Outbox_push) (o_ : (Option ((List (Int × (Int × ((List Int) × Unit)))) × (((List (List Int)) × Unit) × Unit)))) (to_ : Int) (n_ : (List Int)) : Option (((Int × (Int × ((List Int) × Unit))) × (Int × Unit)) × ((Option ((List (Int × (Int × ((List Int) × Unit)))) × (((List (List Int)) × Unit) × Unit))) × (Unit × (Unit × Unit)))) :=
  (optR o_
   (some ((((0 : Int), ((0 : Int), ([(0 : Int), (0 : Int), (0 : Int), (0 : Int)], ()))), ((1 : Int), ())), (none, ((), ((), ())))))
   (fun (y_0 : ((List (Int × (Int × ((List Int) × Unit)))) × (((List (List Int)) × Unit) × Unit))) =>
   (brR (decide (to_ = (0 : Int)))
    (some ((((0 : Int), ((0 : Int), ([(0 : Int), (0 : Int), (0 : Int), (0 : Int)], ()))), ((2 : Int), ())), ((some (y_0.1, ((y_0.2.1.1, y_0.2.1.2), y_0.2.2))), ((), ((), ())))))
    (brR (Go.Pon.eqD (Go.Pon.Ty.arr 4 (Go.Pon.Ty.int Go.IntKind.u64)) n_ [(0 : Int), (0 : Int), (0 : Int), (0 : Int)])
     (some ((((0 : Int), ((0 : Int), ([(0 : Int), (0 : Int), (0 : Int), (0 : Int)], ()))), ((2 : Int), ())), ((some (y_0.1, ((y_0.2.1.1, y_0.2.1.2), y_0.2.2))), ((), ((), ())))))
     (Option.bind (c_outbox_Outbox_push ((y_0.1, ((y_0.2.1.1, y_0.2.1.2), y_0.2.2)), (((Go.IntKind.wrap (Go.IntKind.u64) (((List.length y_0.1) : Nat) : Int)), (to_, (n_, ()))), ()))) (fun (y_1 : (Unit × (((List (Int × (Int × ((List Int) × Unit)))) × (((List (List Int)) × Unit) × Unit)) × (Unit × Unit)))) =>
      (some ((((Go.IntKind.wrap (Go.IntKind.u64) (((List.length y_0.1) : Nat) : Int)), (to_, (n_, ()))), ((0 : Int), ())), ((some (y_1.2.1.1, ((y_1.2.1.2.1.1, y_1.2.1.2.1.2), y_1.2.1.2.2))), ((), ((), ())))))))))))

noncomputable def sol_outbox_Outbox_Send : F_outbox_Outbox_Send := fun x => T_outbox_Outbox_Send bigLoop sol_outbox_Outbox_push x.1 x.2.1 x.2.2.1

/-- (*pontage/outbox.Outbox).Len -/
abbrev s_outbox_Outbox_Len : Sig := ⟨[(.optr (.pair (.own false (.pair (.int .u64) (.pair (.int .u64) (.pair (.arr 4 (.int .u64)) .unit)))) (.pair (.ptr (.pair (.own false (.arr 32 (.int .u8))) (.ro true .unit))) (.ro true .unit))))], [(.ro true (.int .i64))]⟩
abbrev F_outbox_Outbox_Len := ((Option ((List (Int × (Int × ((List Int) × Unit)))) × (((List (List Int)) × Unit) × Unit))) × Unit) → Option ((Int × Unit) × ((Option ((List (Int × (Int × ((List Int) × Unit)))) × (((List (List Int)) × Unit) × Unit))) × Unit))

noncomputable def T_outbox_Outbox_Len (L : LoopD) (o_ : (Option ((List (Int × (Int × ((List Int) × Unit)))) × (((List (List Int)) × Unit) × Unit)))) : Option ((Int × Unit) × ((Option ((List (Int × (Int × ((List Int) × Unit)))) × (((List (List Int)) × Unit) × Unit))) × Unit)) :=
  (optR o_
   (some (((0 : Int), ()), (none, ())))
   (fun (y_0 : ((List (Int × (Int × ((List Int) × Unit)))) × (((List (List Int)) × Unit) × Unit))) =>
   (some (((((List.length y_0.1) : Nat) : Int), ()), ((some (y_0.1, ((y_0.2.1.1, y_0.2.1.2), y_0.2.2))), ())))))

noncomputable def sol_outbox_Outbox_Len : F_outbox_Outbox_Len := fun x => T_outbox_Outbox_Len bigLoop x.1

/-- (*pontage/outbox.Outbox).Get -/
abbrev s_outbox_Outbox_Get : Sig := ⟨[(.optr (.pair (.own false (.pair (.int .u64) (.pair (.int .u64) (.pair (.arr 4 (.int .u64)) .unit)))) (.pair (.ptr (.pair (.own false (.arr 32 (.int .u8))) (.ro true .unit))) (.ro true .unit)))), (.ro true (.int .i64))], [(.ro true (.pair (.int .u64) (.pair (.int .u64) (.pair (.arr 4 (.int .u64)) .unit)))), (.ro true .bool)]⟩
abbrev F_outbox_Outbox_Get := ((Option ((List (Int × (Int × ((List Int) × Unit)))) × (((List (List Int)) × Unit) × Unit))) × (Int × Unit)) → Option (((Int × (Int × ((List Int) × Unit))) × (Bool × Unit)) × ((Option ((List (Int × (Int × ((List Int) × Unit)))) × (((List (List Int)) × Unit) × Unit))) × (Unit × Unit)))

noncomputable def T_outbox_Outbox_Get (L : LoopD) (c_outbox_Outbox_Len : F_outbox_Outbox_Len) (o_ : (Option ((List (Int × (Int × ((List Int) × Unit)))) × (((List (List Int)) × Unit) × Unit)))) (i_ : Int) : Option (((Int × (Int × ((List Int) × Unit))) × (Bool × Unit)) × ((Option ((List (Int × (Int × ((List Int) × Unit)))) × (((List (List Int)) × Unit) × Unit))) × (Unit × Unit))) :=
  (optR o_
   (brR (decide (i_ < (0 : Int)))
    (some ((((0 : Int), ((0 : Int), ([(0 : Int), (0 : Int), (0 : Int), (0 : Int)], ()))), (false, ())), (none, ((), ()))))
    (Option.bind (c_outbox_Outbox_Len (none, ())) (fun (y_0 : ((Int × Unit) × ((Option ((List (Int × (Int × ((List Int) × Unit)))) × (((List (List Int)) × Unit) × Unit))) × Unit))) =>
     (optR y_0.2.1
      (brR (decide (i_ ≥ y_0.1.1))
       (some ((((0 : Int), ((0 : Int), ([(0 : Int), (0 : Int), (0 : Int), (0 : Int)], ()))), (false, ())), (none, ((), ()))))
       none)
      (fun (y_1 : ((List (Int × (Int × ((List Int) × Unit)))) × (((List (List Int)) × Unit) × Unit))) =>
      none)))))
   (fun (y_2 : ((List (Int × (Int × ((List Int) × Unit)))) × (((List (List Int)) × Unit) × Unit))) =>
   (brR (decide (i_ < (0 : Int)))
    (some ((((0 : Int), ((0 : Int), ([(0 : Int), (0 : Int), (0 : Int), (0 : Int)], ()))), (false, ())), ((some (y_2.1, ((y_2.2.1.1, y_2.2.1.2), y_2.2.2))), ((), ()))))
    (Option.bind (c_outbox_Outbox_Len ((some (y_2.1, ((y_2.2.1.1, y_2.2.1.2), y_2.2.2))), ())) (fun (y_3 : ((Int × Unit) × ((Option ((List (Int × (Int × ((List Int) × Unit)))) × (((List (List Int)) × Unit) × Unit))) × Unit))) =>
     (optR y_3.2.1
      none
      (fun (y_4 : ((List (Int × (Int × ((List Int) × Unit)))) × (((List (List Int)) × Unit) × Unit))) =>
      (brR (decide (i_ ≥ y_3.1.1))
       (some ((((0 : Int), ((0 : Int), ([(0 : Int), (0 : Int), (0 : Int), (0 : Int)], ()))), (false, ())), ((some (y_4.1, ((y_4.2.1.1, y_4.2.1.2), y_4.2.2))), ((), ()))))
       (brR (Go.Pon.inR i_ (List.length y_4.1))
        (some (((List.getD y_4.1 (Int.toNat i_) ((0 : Int), ((0 : Int), ([(0 : Int), (0 : Int), (0 : Int), (0 : Int)], ())))), (true, ())), ((some (y_4.1, ((y_4.2.1.1, y_4.2.1.2), y_4.2.2))), ((), ()))))
        none)))))))))

noncomputable def sol_outbox_Outbox_Get : F_outbox_Outbox_Get := fun x => T_outbox_Outbox_Get bigLoop sol_outbox_Outbox_Len x.1 x.2.1

/-- (*pontage/outbox.Outbox).Root -/
abbrev s_outbox_Outbox_Root : Sig := ⟨[(.optr (.pair (.own false (.pair (.int .u64) (.pair (.int .u64) (.pair (.arr 4 (.int .u64)) .unit)))) (.pair (.ptr (.pair (.own false (.arr 32 (.int .u8))) (.ro true .unit))) (.ro true .unit)))), (.ro true (.int .i64))], [(.ro true (.arr 32 (.int .u8))), (.ro true .bool)]⟩
abbrev F_outbox_Outbox_Root := ((Option ((List (Int × (Int × ((List Int) × Unit)))) × (((List (List Int)) × Unit) × Unit))) × (Int × Unit)) → Option (((List Int) × (Bool × Unit)) × ((Option ((List (Int × (Int × ((List Int) × Unit)))) × (((List (List Int)) × Unit) × Unit))) × (Unit × Unit)))

noncomputable def T_outbox_Outbox_Root (L : LoopD) (c_merkle_Tree_Root : F_merkle_Tree_Root) (o_ : (Option ((List (Int × (Int × ((List Int) × Unit)))) × (((List (List Int)) × Unit) × Unit)))) (n_ : Int) : Option (((List Int) × (Bool × Unit)) × ((Option ((List (Int × (Int × ((List Int) × Unit)))) × (((List (List Int)) × Unit) × Unit))) × (Unit × Unit))) :=
  (optR o_
   (some (((List.replicate (32 : Nat) (0 : Int)), (false, ())), (none, ((), ()))))
   (fun (y_0 : ((List (Int × (Int × ((List Int) × Unit)))) × (((List (List Int)) × Unit) × Unit))) =>
   (Option.bind (c_merkle_Tree_Root ((y_0.2.1.1, y_0.2.1.2), (n_, ()))) (fun (y_1 : (((List Int) × (Bool × Unit)) × (((List (List Int)) × Unit) × (Unit × Unit)))) =>
    (some ((y_1.1.1, (y_1.1.2.1, ())), ((some (y_0.1, ((y_1.2.1.1, y_1.2.1.2), y_0.2.2))), ((), ()))))))))

noncomputable def sol_outbox_Outbox_Root : F_outbox_Outbox_Root := fun x => T_outbox_Outbox_Root bigLoop sol_merkle_Tree_Root x.1 x.2.1

/-- (*pontage/outbox.Outbox).Proof -/
abbrev s_outbox_Outbox_Proof : Sig := ⟨[(.optr (.pair (.own false (.pair (.int .u64) (.pair (.int .u64) (.pair (.arr 4 (.int .u64)) .unit)))) (.pair (.ptr (.pair (.own false (.arr 32 (.int .u8))) (.ro true .unit))) (.ro true .unit)))), (.ro true (.int .i64)), (.ro true (.int .i64))], [(.ro false (.slice (.arr 32 (.int .u8)))), (.ro true .bool)]⟩
abbrev F_outbox_Outbox_Proof := ((Option ((List (Int × (Int × ((List Int) × Unit)))) × (((List (List Int)) × Unit) × Unit))) × (Int × (Int × Unit))) → Option (((List (List Int)) × (Bool × Unit)) × ((Option ((List (Int × (Int × ((List Int) × Unit)))) × (((List (List Int)) × Unit) × Unit))) × (Unit × (Unit × Unit))))

noncomputable def T_outbox_Outbox_Proof (L : LoopD) (c_merkle_Tree_Proof : F_merkle_Tree_Proof) (o_ : (Option ((List (Int × (Int × ((List Int) × Unit)))) × (((List (List Int)) × Unit) × Unit)))) (i_ : Int) (n_ : Int) : Option (((List (List Int)) × (Bool × Unit)) × ((Option ((List (Int × (Int × ((List Int) × Unit)))) × (((List (List Int)) × Unit) × Unit))) × (Unit × (Unit × Unit)))) :=
  (optR o_
   (some ((([] : List (List Int)), (false, ())), (none, ((), ((), ())))))
   (fun (y_0 : ((List (Int × (Int × ((List Int) × Unit)))) × (((List (List Int)) × Unit) × Unit))) =>
   (Option.bind (c_merkle_Tree_Proof ((y_0.2.1.1, y_0.2.1.2), (i_, (n_, ())))) (fun (y_1 : (((List (List Int)) × (Bool × Unit)) × (((List (List Int)) × Unit) × (Unit × (Unit × Unit))))) =>
    (some ((y_1.1.1, (y_1.1.2.1, ())), ((some (y_0.1, ((y_1.2.1.1, y_1.2.1.2), y_0.2.2))), ((), ((), ())))))))))

noncomputable def sol_outbox_Outbox_Proof : F_outbox_Outbox_Proof := fun x => T_outbox_Outbox_Proof bigLoop sol_merkle_Tree_Proof x.1 x.2.1 x.2.2.1

/-- (*pontage/outbox.Outbox).All -/
abbrev s_outbox_Outbox_All : Sig := ⟨[(.optr (.pair (.own false (.pair (.int .u64) (.pair (.int .u64) (.pair (.arr 4 (.int .u64)) .unit)))) (.pair (.ptr (.pair (.own false (.arr 32 (.int .u8))) (.ro true .unit))) (.ro true .unit))))], [(.own true (.pair (.int .u64) (.pair (.int .u64) (.pair (.arr 4 (.int .u64)) .unit))))]⟩
abbrev F_outbox_Outbox_All := ((Option ((List (Int × (Int × ((List Int) × Unit)))) × (((List (List Int)) × Unit) × Unit))) × Unit) → Option (((List (Int × (Int × ((List Int) × Unit)))) × Unit) × ((Option ((List (Int × (Int × ((List Int) × Unit)))) × (((List (List Int)) × Unit) × Unit))) × Unit))

noncomputable def T_outbox_Outbox_All (L : LoopD) (c_slices_Clone_api_Message_api_Message : F_slices_Clone_api_Message_api_Message) (o_ : (Option ((List (Int × (Int × ((List Int) × Unit)))) × (((List (List Int)) × Unit) × Unit)))) : Option (((List (Int × (Int × ((List Int) × Unit)))) × Unit) × ((Option ((List (Int × (Int × ((List Int) × Unit)))) × (((List (List Int)) × Unit) × Unit))) × Unit)) :=
  (optR o_
   (some ((([] : List (Int × (Int × ((List Int) × Unit)))), ()), (none, ())))
   (fun (y_0 : ((List (Int × (Int × ((List Int) × Unit)))) × (((List (List Int)) × Unit) × Unit))) =>
   (Option.bind (c_slices_Clone_api_Message_api_Message (y_0.1, ())) (fun (y_1 : (((List (Int × (Int × ((List Int) × Unit)))) × Unit) × (Unit × Unit))) =>
    (some ((y_1.1.1, ()), ((some (y_0.1, ((y_0.2.1.1, y_0.2.1.2), y_0.2.2))), ())))))))

noncomputable def sol_outbox_Outbox_All : F_outbox_Outbox_All := fun x => T_outbox_Outbox_All bigLoop sol_slices_Clone_api_Message_api_Message x.1

/-- pontage/outbox.isValid -/
abbrev s_outbox_isValid : Sig := ⟨[(.ro true (.pair (.int .u64) (.pair (.int .u64) (.pair (.arr 4 (.int .u64)) .unit)))), (.ro true (.int .i64))], [(.ro true .bool)]⟩
abbrev F_outbox_isValid := ((Int × (Int × ((List Int) × Unit))) × (Int × Unit)) → Option ((Bool × Unit) × (Unit × (Unit × Unit)))

noncomputable def T_outbox_isValid (L : LoopD) (m_ : (Int × (Int × ((List Int) × Unit)))) (at_ : Int) : Option ((Bool × Unit) × (Unit × (Unit × Unit))) :=
  (brR (decide (m_.1 = (Go.IntKind.wrap (Go.IntKind.u64) at_)))
   (brR (!(decide (m_.2.1 = (0 : Int))))
    (some (((!(Go.Pon.eqD (Go.Pon.Ty.arr 4 (Go.Pon.Ty.int Go.IntKind.u64)) m_.2.2.1 [(0 : Int), (0 : Int), (0 : Int), (0 : Int)])), ()), ((), ((), ()))))
    (some ((false, ()), ((), ((), ())))))
   (some ((false, ()), ((), ((), ())))))

noncomputable def sol_outbox_isValid : F_outbox_isValid := fun x => T_outbox_isValid bigLoop x.1 x.2.1

/-- pontage/outbox.Load -/
abbrev s_outbox_Load : Sig := ⟨[(.ro false (.slice (.pair (.int .u64) (.pair (.int .u64) (.pair (.arr 4 (.int .u64)) .unit)))))], [(.optr (.pair (.own false (.pair (.int .u64) (.pair (.int .u64) (.pair (.arr 4 (.int .u64)) .unit)))) (.pair (.ptr (.pair (.own false (.arr 32 (.int .u8))) (.ro true .unit))) (.ro true .unit)))), (.ro true (.int .i64))]⟩
abbrev F_outbox_Load := ((List (Int × (Int × ((List Int) × Unit)))) × Unit) → Option (((Option ((List (Int × (Int × ((List Int) × Unit)))) × (((List (List Int)) × Unit) × Unit))) × (Int × Unit)) × (Unit × Unit))

noncomputable def T_outbox_Load_loop0 (c_outbox_isValid : F_outbox_isValid) (c_outbox_Outbox_push : F_outbox_Outbox_push) (again_1 : (((List (Int × (Int × ((List Int) × Unit)))) × (((List (List Int)) × Unit) × Unit)) × ((List (Int × (Int × ((List Int) × Unit)))) × (Int × (Int × Unit)))) → Option (((Option ((List (Int × (Int × ((List Int) × Unit)))) × (((List (List Int)) × Unit) × Unit))) × (Int × Unit)) × (Unit × Unit))) (o_2 : ((List (Int × (Int × ((List Int) × Unit)))) × (((List (List Int)) × Unit) × Unit))) (t8_3 : (List (Int × (Int × ((List Int) × Unit))))) (t9_4 : Int) (t10_5 : Int) : Option (((Option ((List (Int × (Int × ((List Int) × Unit)))) × (((List (List Int)) × Unit) × Unit))) × (Int × Unit)) × (Unit × Unit)) :=
  (brR (decide (t10_5 < t9_4))
   (brR (Go.Pon.inR t10_5 (List.length t8_3))
    (Option.bind (c_outbox_isValid ((List.getD t8_3 (Int.toNat t10_5) ((0 : Int), ((0 : Int), ([(0 : Int), (0 : Int), (0 : Int), (0 : Int)], ())))), (t10_5, ()))) (fun (y_6 : ((Bool × Unit) × (Unit × (Unit × Unit)))) =>
     (brR (!y_6.1.1)
      (some ((none, ((2 : Int), ())), ((), ())))
      (Option.bind (c_outbox_Outbox_push ((o_2.1, ((o_2.2.1.1, o_2.2.1.2), o_2.2.2)), ((List.getD t8_3 (Int.toNat t10_5) ((0 : Int), ((0 : Int), ([(0 : Int), (0 : Int), (0 : Int), (0 : Int)], ())))), ()))) (fun (y_7 : (Unit × (((List (Int × (Int × ((List Int) × Unit)))) × (((List (List Int)) × Unit) × Unit)) × (Unit × Unit)))) =>
       (again_1 ((y_7.2.1.1, ((y_7.2.1.2.1.1, y_7.2.1.2.1.2), y_7.2.1.2.2)), (t8_3, (t9_4, ((Go.IntKind.wrap (Go.IntKind.i64) (t10_5 + (1 : Int))), ()))))))))))
    none)
   (some (((some (o_2.1, ((o_2.2.1.1, o_2.2.1.2), o_2.2.2))), ((0 : Int), ())), ((), ()))))

noncomputable def T_outbox_Load (L : LoopD) (c_outbox_New : F_outbox_New) (c_outbox_isValid : F_outbox_isValid) (c_outbox_Outbox_push : F_outbox_Outbox_push) (l_ : (List (Int × (Int × ((List Int) × Unit))))) : Option (((Option ((List (Int × (Int × ((List Int) × Unit)))) × (((List (List Int)) × Unit) × Unit))) × (Int × Unit)) × (Unit × Unit)) :=
  (Option.bind (c_outbox_New ()) (fun (y_0 : ((((List (Int × (Int × ((List Int) × Unit)))) × (((List (List Int)) × Unit) × Unit)) × Unit) × Unit)) =>
   (L _ _ (fun again x => T_outbox_Load_loop0 c_outbox_isValid c_outbox_Outbox_push again x.1 x.2.1 x.2.2.1 x.2.2.2.1) ((y_0.1.1.1, ((y_0.1.1.2.1.1, y_0.1.1.2.1.2), y_0.1.1.2.2)), (l_, ((((List.length l_) : Nat) : Int), ((0 : Int), ())))))))

noncomputable def sol_outbox_Load : F_outbox_Load := fun x => T_outbox_Load bigLoop sol_outbox_New sol_outbox_isValid sol_outbox_Outbox_push x.1

/-- (*pontage/outbox.Outbox).Copy -/
abbrev s_outbox_Outbox_Copy : Sig := ⟨[(.optr (.pair (.own false (.pair (.int .u64) (.pair (.int .u64) (.pair (.arr 4 (.int .u64)) .unit)))) (.pair (.ptr (.pair (.own false (.arr 32 (.int .u8))) (.ro true .unit))) (.ro true .unit))))], [(.optr (.pair (.own false (.pair (.int .u64) (.pair (.int .u64) (.pair (.arr 4 (.int .u64)) .unit)))) (.pair (.ptr (.pair (.own false (.arr 32 (.int .u8))) (.ro true .unit))) (.ro true .unit))))]⟩
abbrev F_outbox_Outbox_Copy := ((Option ((List (Int × (Int × ((List Int) × Unit)))) × (((List (List Int)) × Unit) × Unit))) × Unit) → Option (((Option ((List (Int × (Int × ((List Int) × Unit)))) × (((List (List Int)) × Unit) × Unit))) × Unit) × ((Option ((List (Int × (Int × ((List Int) × Unit)))) × (((List (List Int)) × Unit) × Unit))) × Unit))

noncomputable def T_outbox_Outbox_Copy_loop0 (c_outbox_Outbox_push : F_outbox_Outbox_push) (again_2 : (((List (Int × (Int × ((List Int) × Unit)))) × (((List (List Int)) × Unit) × Unit)) × (Int × (Int × (((List (Int × (Int × ((List Int) × Unit)))) × (((List (List Int)) × Unit) × Unit)) × Unit)))) → Option (((Option ((List (Int × (Int × ((List Int) × Unit)))) × (((List (List Int)) × Unit) × Unit))) × Unit) × ((Option ((List (Int × (Int × ((List Int) × Unit)))) × (((List (List Int)) × Unit) × Unit))) × Unit))) (c_3 : ((List (Int × (Int × ((List Int) × Unit)))) × (((List (List Int)) × Unit) × Unit))) (t13_4 : Int) (t14_5 : Int) (o_6 : ((List (Int × (Int × ((List Int) × Unit)))) × (((List (List Int)) × Unit) × Unit))) : Option (((Option ((List (Int × (Int × ((List Int) × Unit)))) × (((List (List Int)) × Unit) × Unit))) × Unit) × ((Option ((List (Int × (Int × ((List Int) × Unit)))) × (((List (List Int)) × Unit) × Unit))) × Unit)) :=
  (brR (decide (t14_5 < t13_4))
   (brR (Go.Pon.inR t14_5 (List.length o_6.1))
    (Option.bind (c_outbox_Outbox_push ((c_3.1, ((c_3.2.1.1, c_3.2.1.2), c_3.2.2)), ((List.getD o_6.1 (Int.toNat t14_5) ((0 : Int), ((0 : Int), ([(0 : Int), (0 : Int), (0 : Int), (0 : Int)], ())))), ()))) (fun (y_7 : (Unit × (((List (Int × (Int × ((List Int) × Unit)))) × (((List (List Int)) × Unit) × Unit)) × (Unit × Unit)))) =>
     (again_2 ((y_7.2.1.1, ((y_7.2.1.2.1.1, y_7.2.1.2.1.2), y_7.2.1.2.2)), (t13_4, ((Go.IntKind.wrap (Go.IntKind.i64) (t14_5 + (1 : Int))), ((o_6.1, ((o_6.2.1.1, o_6.2.1.2), o_6.2.2)), ())))))))
    none)
   (some (((some (c_3.1, ((c_3.2.1.1, c_3.2.1.2), c_3.2.2))), ()), ((some (o_6.1, ((o_6.2.1.1, o_6.2.1.2), o_6.2.2))), ()))))

noncomputable def T_outbox_Outbox_Copy (L : LoopD) (c_outbox_New : F_outbox_New) (c_outbox_Outbox_push : F_outbox_Outbox_push) (o_ : (Option ((List (Int × (Int × ((List Int) × Unit)))) × (((List (List Int)) × Unit) × Unit)))) : Option (((Option ((List (Int × (Int × ((List Int) × Unit)))) × (((List (List Int)) × Unit) × Unit))) × Unit) × ((Option ((List (Int × (Int × ((List Int) × Unit)))) × (((List (List Int)) × Unit) × Unit))) × Unit)) :=
  (optR o_
   (some ((none, ()), (none, ())))
   (fun (y_0 : ((List (Int × (Int × ((List Int) × Unit)))) × (((List (List Int)) × Unit) × Unit))) =>
   (Option.bind (c_outbox_New ()) (fun (y_1 : ((((List (Int × (Int × ((List Int) × Unit)))) × (((List (List Int)) × Unit) × Unit)) × Unit) × Unit)) =>
    (L _ _ (fun again x => T_outbox_Outbox_Copy_loop0 c_outbox_Outbox_push again x.1 x.2.1 x.2.2.1 x.2.2.2.1) ((y_1.1.1.1, ((y_1.1.1.2.1.1, y_1.1.1.2.1.2), y_1.1.1.2.2)), ((((List.length y_0.1) : Nat) : Int), ((0 : Int), ((y_0.1, ((y_0.2.1.1, y_0.2.1.2), y_0.2.2)), ())))))))))

noncomputable def sol_outbox_Outbox_Copy : F_outbox_Outbox_Copy := fun x => T_outbox_Outbox_Copy bigLoop sol_outbox_New sol_outbox_Outbox_push x.1

end Go.Pon
/-
  What the functions of package ref6 compute (printed by a program of this work).
-/
set_option autoImplicit false
set_option linter.unusedVariables false
set_option maxRecDepth 100000
namespace Go.Pon
open Go

/-- pontage/pontageref6.digits -/
abbrev s_ref6_digits : Sig := ⟨[(.ro true (.arr 4 (.int .u64)))], [(.own true (.int .u8))]⟩
abbrev F_ref6_digits := ((List Int) × Unit) → Option (((List Int) × Unit) × (Unit × Unit))

noncomputable def T_ref6_digits_loop0 (again_0 : ((List Int) × ((List Int) × (Int × Unit))) → Option (((List Int) × Unit) × (Unit × Unit))) (n_1 : (List Int)) (out_2 : (List Int)) (i_3 : Int) : Option (((List Int) × Unit) × (Unit × Unit)) :=
  (letR (Go.IntKind.wrap (Go.IntKind.u64) (Go.IntKind.wrap (Go.IntKind.i64) ((8 : Int) * (Int.tmod i_3 (8 : Int))))) fun (v_4 : Int) =>
  (letR (Go.IntKind.wrap (Go.IntKind.u8) (Int.fdiv (List.getD n_1 (Int.toNat (Go.IntKind.wrap (Go.IntKind.i64) (Int.tdiv i_3 (8 : Int)))) (0 : Int)) ((2 : Int) ^ (min (Int.toNat v_4) (64 : Nat))))) fun (v_5 : Int) =>
  (brR (decide (i_3 ≥ (0 : Int)))
   (brR (Go.Pon.inR (Go.IntKind.wrap (Go.IntKind.i64) (Int.tdiv i_3 (8 : Int))) (4 : Nat))
    (brR (decide ((0 : Int) ≤ v_4))
     (brR (decide ((((List.length out_2) : Nat) : Int) > (0 : Int)))
      (brR (Go.Pon.roomy ((List.length out_2) + (1 : Nat)) (Go.Pon.Ty.int Go.IntKind.u8))
       (again_0 (n_1, ((List.append out_2 [v_5]), ((Go.IntKind.wrap (Go.IntKind.i64) (i_3 - (1 : Int))), ()))))
       none)
      (brR (decide (v_5 > (0 : Int)))
       (brR (Go.Pon.roomy ((List.length out_2) + (1 : Nat)) (Go.Pon.Ty.int Go.IntKind.u8))
        (again_0 (n_1, ((List.append out_2 [v_5]), ((Go.IntKind.wrap (Go.IntKind.i64) (i_3 - (1 : Int))), ()))))
        none)
       (again_0 (n_1, (out_2, ((Go.IntKind.wrap (Go.IntKind.i64) (i_3 - (1 : Int))), ()))))))
     none)
    none)
   (some ((out_2, ()), ((), ()))))))

noncomputable def T_ref6_digits (L : LoopD) (n_ : (List Int)) : Option (((List Int) × Unit) × (Unit × Unit)) :=
  (L _ _ (fun again x => T_ref6_digits_loop0 again x.1 x.2.1 x.2.2.1) (n_, (([] : List Int), ((31 : Int), ()))))

noncomputable def sol_ref6_digits : F_ref6_digits := fun x => T_ref6_digits bigLoop x.1

/-- pontage/pontageref6.AppendUint256 -/
abbrev s_ref6_AppendUint256 : Sig := ⟨[(.ro false (.slice (.int .u8))), (.ro true (.arr 4 (.int .u64)))], [(.own true (.int .u8))]⟩
abbrev F_ref6_AppendUint256 := ((List Int) × ((List Int) × Unit)) → Option (((List Int) × Unit) × (Unit × (Unit × Unit)))

noncomputable def T_ref6_AppendUint256 (L : LoopD) (c_ref6_digits : F_ref6_digits) (b_ : (List Int)) (n_ : (List Int)) : Option (((List Int) × Unit) × (Unit × (Unit × Unit))) :=
  (Option.bind (c_ref6_digits (n_, ())) (fun (y_0 : (((List Int) × Unit) × (Unit × Unit))) =>
   (letR (List.length y_0.1.1) fun (v_1 : Nat) =>
   (letR (List.append b_ [(Go.IntKind.wrap (Go.IntKind.u8) ((v_1 : Nat) : Int))]) fun (v_2 : (List Int)) =>
   (brR (Go.Pon.roomy ((0 : Nat) + (List.length b_)) (Go.Pon.Ty.int Go.IntKind.u8))
    (brR (Go.Pon.roomy ((List.length b_) + (1 : Nat)) (Go.Pon.Ty.int Go.IntKind.u8))
     (brR (Go.Pon.roomy ((List.length v_2) + v_1) (Go.Pon.Ty.int Go.IntKind.u8))
      (some (((List.append v_2 y_0.1.1), ()), ((), ((), ()))))
      none)
     none)
    none)))))

noncomputable def sol_ref6_AppendUint256 : F_ref6_AppendUint256 := fun x => T_ref6_AppendUint256 bigLoop sol_ref6_digits x.1 x.2.1

/-- pontage/pontageref6.AppendUint64 -/
abbrev s_ref6_AppendUint64 : Sig := ⟨[(.ro false (.slice (.int .u8))), (.ro true (.int .u64))], [(.own true (.int .u8))]⟩
abbrev F_ref6_AppendUint64 := ((List Int) × (Int × Unit)) → Option (((List Int) × Unit) × (Unit × (Unit × Unit)))

noncomputable def T_ref6_AppendUint64 (L : LoopD) (c_ref6_AppendUint256 : F_ref6_AppendUint256) (b_ : (List Int)) (n_ : Int) : Option (((List Int) × Unit) × (Unit × (Unit × Unit))) :=
  (Option.bind (c_ref6_AppendUint256 (b_, ([n_, (0 : Int), (0 : Int), (0 : Int)], ()))) (fun (y_0 : (((List Int) × Unit) × (Unit × (Unit × Unit)))) =>
   (some ((y_0.1.1, ()), ((), ((), ()))))))

noncomputable def sol_ref6_AppendUint64 : F_ref6_AppendUint64 := fun x => T_ref6_AppendUint64 bigLoop sol_ref6_AppendUint256 x.1 x.2.1

/-- pontage/pontageref6.AppendBytes -/
abbrev s_ref6_AppendBytes : Sig := ⟨[(.ro false (.slice (.int .u8))), (.ro false (.slice (.int .u8)))], [(.own true (.int .u8))]⟩
abbrev F_ref6_AppendBytes := ((List Int) × ((List Int) × Unit)) → Option (((List Int) × Unit) × (Unit × (Unit × Unit)))

noncomputable def T_ref6_AppendBytes (L : LoopD) (c_ref6_AppendUint64 : F_ref6_AppendUint64) (b_ : (List Int)) (x_ : (List Int)) : Option (((List Int) × Unit) × (Unit × (Unit × Unit))) :=
  (Option.bind (c_ref6_AppendUint64 (b_, ((Go.IntKind.wrap (Go.IntKind.u64) (((List.length x_) : Nat) : Int)), ()))) (fun (y_0 : (((List Int) × Unit) × (Unit × (Unit × Unit)))) =>
   (brR (Go.Pon.roomy ((List.length y_0.1.1) + (List.length x_)) (Go.Pon.Ty.int Go.IntKind.u8))
    (some (((List.append y_0.1.1 x_), ()), ((), ((), ()))))
    none)))

noncomputable def sol_ref6_AppendBytes : F_ref6_AppendBytes := fun x => T_ref6_AppendBytes bigLoop sol_ref6_AppendUint64 x.1 x.2.1

/-- pontage/pontageref6.take -/
abbrev s_ref6_take : Sig := ⟨[(.ro false (.slice (.int .u8))), (.ro true (.int .i64)), (.ro true (.int .i64))], [(.ro true (.arr 4 (.int .u64))), (.ro true (.int .i64)), (.ro true (.int .i64))]⟩
abbrev F_ref6_take := ((List Int) × (Int × (Int × Unit))) → Option (((List Int) × (Int × (Int × Unit))) × (Unit × (Unit × (Unit × Unit))))

noncomputable def T_ref6_take_loop0 (again_1 : ((List Int) × (Int × ((List Int) × ((List Int) × (Int × (Int × Unit)))))) → Option (((List Int) × (Int × (Int × Unit))) × (Unit × (Unit × (Unit × Unit))))) (b_2 : (List Int)) (at_3 : Int) (t6_4 : (List Int)) (n_5 : (List Int)) (k_6 : Int) (i_7 : Int) : Option (((List Int) × (Int × (Int × Unit))) × (Unit × (Unit × (Unit × Unit)))) :=
  (letR (Go.IntKind.wrap (Go.IntKind.i64) (at_3 + (1 : Int))) fun (v_8 : Int) =>
  (letR (Go.IntKind.wrap (Go.IntKind.i64) ((Go.IntKind.wrap (Go.IntKind.i64) (k_6 - (1 : Int))) - i_7)) fun (v_9 : Int) =>
  (letR (Go.IntKind.wrap (Go.IntKind.i64) (v_8 + i_7)) fun (v_10 : Int) =>
  (letR (Go.IntKind.wrap (Go.IntKind.i64) (Int.tdiv v_9 (8 : Int))) fun (v_11 : Int) =>
  (letR (Go.IntKind.wrap (Go.IntKind.u64) (Go.IntKind.wrap (Go.IntKind.i64) ((8 : Int) * (Int.tmod v_9 (8 : Int))))) fun (v_12 : Int) =>
  (brR (decide (i_7 < k_6))
   (brR (Go.Pon.inR v_11 (4 : Nat))
    (brR (Go.Pon.inR v_10 (List.length b_2))
     (brR (decide ((0 : Int) ≤ v_12))
      (brR (Go.Pon.inR v_11 (4 : Nat))
       (again_1 (b_2, (at_3, (t6_4, ((List.set n_5 (Int.toNat v_11) (Go.IntKind.wrap (Go.IntKind.u64) ((List.getD n_5 (Int.toNat v_11) (0 : Int)) + (Go.IntKind.wrap (Go.IntKind.u64) ((Go.IntKind.wrap (Go.IntKind.u64) (List.getD b_2 (Int.toNat v_10) (0 : Int))) * ((2 : Int) ^ (min (Int.toNat v_12) (64 : Nat)))))))), (k_6, ((Go.IntKind.wrap (Go.IntKind.i64) (i_7 + (1 : Int))), ())))))))
       none)
      none)
     none)
    none)
   (some ((n_5, ((Go.IntKind.wrap (Go.IntKind.i64) (v_8 + k_6)), ((0 : Int), ()))), ((), ((), ((), ())))))))))))

noncomputable def T_ref6_take (L : LoopD) (b_ : (List Int)) (at_ : Int) (most_ : Int) : Option (((List Int) × (Int × (Int × Unit))) × (Unit × (Unit × (Unit × Unit)))) :=
  (letR (Go.IntKind.wrap (Go.IntKind.i64) (at_ + (1 : Int))) fun (v_0 : Int) =>
  (brR (decide (at_ < (0 : Int)))
   (some (([(0 : Int), (0 : Int), (0 : Int), (0 : Int)], ((0 : Int), ((2 : Int), ()))), ((), ((), ((), ())))))
   (brR (decide (at_ > (((List.length b_) : Nat) : Int)))
    (some (([(0 : Int), (0 : Int), (0 : Int), (0 : Int)], ((0 : Int), ((2 : Int), ()))), ((), ((), ((), ())))))
    (brR (decide (at_ = (((List.length b_) : Nat) : Int)))
     (some (([(0 : Int), (0 : Int), (0 : Int), (0 : Int)], ((0 : Int), ((3 : Int), ()))), ((), ((), ((), ())))))
     (brR (Go.Pon.inR at_ (List.length b_))
      (brR (decide ((Go.IntKind.wrap (Go.IntKind.i64) (List.getD b_ (Int.toNat at_) (0 : Int))) > most_))
       (some (([(0 : Int), (0 : Int), (0 : Int), (0 : Int)], ((0 : Int), ((3 : Int), ()))), ((), ((), ((), ())))))
       (brR (Go.Pon.inR at_ (List.length b_))
        (brR (decide ((Go.IntKind.wrap (Go.IntKind.i64) (List.getD b_ (Int.toNat at_) (0 : Int))) > (Go.IntKind.wrap (Go.IntKind.i64) ((Go.IntKind.wrap (Go.IntKind.i64) ((((List.length b_) : Nat) : Int) - at_)) - (1 : Int)))))
         (some (([(0 : Int), (0 : Int), (0 : Int), (0 : Int)], ((0 : Int), ((3 : Int), ()))), ((), ((), ((), ())))))
         (brR (Go.Pon.inR at_ (List.length b_))
          (brR (decide ((List.getD b_ (Int.toNat at_) (0 : Int)) > (0 : Int)))
           (brR (Go.Pon.inR v_0 (List.length b_))
            (brR (decide ((List.getD b_ (Int.toNat v_0) (0 : Int)) = (0 : Int)))
             (some (([(0 : Int), (0 : Int), (0 : Int), (0 : Int)], ((0 : Int), ((3 : Int), ()))), ((), ((), ((), ())))))
             (brR (Go.Pon.inR at_ (List.length b_))
              (L _ _ (fun again x => T_ref6_take_loop0 again x.1 x.2.1 x.2.2.1 x.2.2.2.1 x.2.2.2.2.1 x.2.2.2.2.2.1) (b_, (at_, ([(0 : Int), (0 : Int), (0 : Int), (0 : Int)], ([(0 : Int), (0 : Int), (0 : Int), (0 : Int)], ((Go.IntKind.wrap (Go.IntKind.i64) (List.getD b_ (Int.toNat at_) (0 : Int))), ((0 : Int), ())))))))
              none))
            none)
           (brR (Go.Pon.inR at_ (List.length b_))
            (L _ _ (fun again x => T_ref6_take_loop0 again x.1 x.2.1 x.2.2.1 x.2.2.2.1 x.2.2.2.2.1 x.2.2.2.2.2.1) (b_, (at_, ([(0 : Int), (0 : Int), (0 : Int), (0 : Int)], ([(0 : Int), (0 : Int), (0 : Int), (0 : Int)], ((Go.IntKind.wrap (Go.IntKind.i64) (List.getD b_ (Int.toNat at_) (0 : Int))), ((0 : Int), ())))))))
            none))
          none))
        none))
      none)))))

noncomputable def sol_ref6_take : F_ref6_take := fun x => T_ref6_take bigLoop x.1 x.2.1 x.2.2.1

/-- pontage/pontageref6.ReadUint64 -/
abbrev s_ref6_ReadUint64 : Sig := ⟨[(.ro false (.slice (.int .u8))), (.ro true (.int .i64))], [(.ro true (.int .u64)), (.ro true (.int .i64)), (.ro true (.int .i64))]⟩
abbrev F_ref6_ReadUint64 := ((List Int) × (Int × Unit)) → Option ((Int × (Int × (Int × Unit))) × (Unit × (Unit × Unit)))

noncomputable def T_ref6_ReadUint64 (L : LoopD) (c_ref6_take : F_ref6_take) (b_ : (List Int)) (at_ : Int) : Option ((Int × (Int × (Int × Unit))) × (Unit × (Unit × Unit))) :=
  (Option.bind (c_ref6_take (b_, (at_, ((8 : Int), ())))) (fun (y_0 : (((List Int) × (Int × (Int × Unit))) × (Unit × (Unit × (Unit × Unit))))) =>
   (some (((List.getD y_0.1.1 (0 : Nat) (0 : Int)), (y_0.1.2.1, (y_0.1.2.2.1, ()))), ((), ((), ()))))))

noncomputable def sol_ref6_ReadUint64 : F_ref6_ReadUint64 := fun x => T_ref6_ReadUint64 bigLoop sol_ref6_take x.1 x.2.1

/-- pontage/pontageref6.ReadUint256 -/
abbrev s_ref6_ReadUint256 : Sig := ⟨[(.ro false (.slice (.int .u8))), (.ro true (.int .i64))], [(.ro true (.arr 4 (.int .u64))), (.ro true (.int .i64)), (.ro true (.int .i64))]⟩
abbrev F_ref6_ReadUint256 := ((List Int) × (Int × Unit)) → Option (((List Int) × (Int × (Int × Unit))) × (Unit × (Unit × Unit)))

noncomputable def T_ref6_ReadUint256 (L : LoopD) (c_ref6_take : F_ref6_take) (b_ : (List Int)) (at_ : Int) : Option (((List Int) × (Int × (Int × Unit))) × (Unit × (Unit × Unit))) :=
  (Option.bind (c_ref6_take (b_, (at_, ((32 : Int), ())))) (fun (y_0 : (((List Int) × (Int × (Int × Unit))) × (Unit × (Unit × (Unit × Unit))))) =>
   (some ((y_0.1.1, (y_0.1.2.1, (y_0.1.2.2.1, ()))), ((), ((), ()))))))

noncomputable def sol_ref6_ReadUint256 : F_ref6_ReadUint256 := fun x => T_ref6_ReadUint256 bigLoop sol_ref6_take x.1 x.2.1

/-- pontage/pontageref6.ReadBytes -/
abbrev s_ref6_ReadBytes : Sig := ⟨[(.ro false (.slice (.int .u8))), (.ro true (.int .i64))], [(.own true (.int .u8)), (.ro true (.int .i64)), (.ro true (.int .i64))]⟩
abbrev F_ref6_ReadBytes := ((List Int) × (Int × Unit)) → Option (((List Int) × (Int × (Int × Unit))) × (Unit × (Unit × Unit)))

noncomputable def T_ref6_ReadBytes (L : LoopD) (c_ref6_ReadUint64 : F_ref6_ReadUint64) (b_ : (List Int)) (at_ : Int) : Option (((List Int) × (Int × (Int × Unit))) × (Unit × (Unit × Unit))) :=
  (Option.bind (c_ref6_ReadUint64 (b_, (at_, ()))) (fun (y_0 : ((Int × (Int × (Int × Unit))) × (Unit × (Unit × Unit)))) =>
   (letR (Go.IntKind.wrap (Go.IntKind.i64) (y_0.1.2.1 + (Go.IntKind.wrap (Go.IntKind.i64) y_0.1.1))) fun (v_1 : Int) =>
   (letR (List.take ((Int.toNat v_1) - (Int.toNat y_0.1.2.1)) (List.drop (Int.toNat y_0.1.2.1) b_)) fun (v_2 : (List Int)) =>
   (brR (!(decide (y_0.1.2.2.1 = (0 : Int))))
    (some ((([] : List Int), ((0 : Int), (y_0.1.2.2.1, ()))), ((), ((), ()))))
    (brR (decide (y_0.1.1 > (Go.IntKind.wrap (Go.IntKind.u64) (Go.IntKind.wrap (Go.IntKind.i64) ((((List.length b_) : Nat) : Int) - y_0.1.2.1)))))
     (some ((([] : List Int), ((0 : Int), ((3 : Int), ()))), ((), ((), ()))))
     (brR (((decide ((0 : Int) ≤ y_0.1.2.1)) && (decide (y_0.1.2.1 ≤ v_1))) && (decide (v_1 ≤ (((List.length b_) : Nat) : Int))))
      (brR (Go.Pon.roomy ((0 : Nat) + (List.length v_2)) (Go.Pon.Ty.int Go.IntKind.u8))
       (some ((v_2, (v_1, ((0 : Int), ()))), ((), ((), ()))))
       none)
      none)))))))

noncomputable def sol_ref6_ReadBytes : F_ref6_ReadBytes := fun x => T_ref6_ReadBytes bigLoop sol_ref6_ReadUint64 x.1 x.2.1

/-- pontage/pontageref6.AppendInt256 -/
abbrev s_ref6_AppendInt256 : Sig := ⟨[(.ro false (.slice (.int .u8))), (.ro true (.pair .bool (.pair (.arr 4 (.int .u64)) .unit)))], [(.own true (.int .u8))]⟩
abbrev F_ref6_AppendInt256 := ((List Int) × ((Bool × ((List Int) × Unit)) × Unit)) → Option (((List Int) × Unit) × (Unit × (Unit × Unit)))

noncomputable def T_ref6_AppendInt256 (L : LoopD) (c_ref6_AppendUint256 : F_ref6_AppendUint256) (b_ : (List Int)) (a_ : (Bool × ((List Int) × Unit))) : Option (((List Int) × Unit) × (Unit × (Unit × Unit))) :=
  (brR a_.1
   (brR (Go.Pon.eqD (Go.Pon.Ty.arr 4 (Go.Pon.Ty.int Go.IntKind.u64)) a_.2.1 [(0 : Int), (0 : Int), (0 : Int), (0 : Int)])
    (brR (Go.Pon.roomy ((0 : Nat) + (List.length b_)) (Go.Pon.Ty.int Go.IntKind.u8))
     (some ((b_, ()), ((), ((), ()))))
     none)
    (brR a_.1
     (brR (Go.Pon.roomy ((0 : Nat) + (List.length b_)) (Go.Pon.Ty.int Go.IntKind.u8))
      (brR (Go.Pon.roomy ((List.length b_) + (1 : Nat)) (Go.Pon.Ty.int Go.IntKind.u8))
       (Option.bind (c_ref6_AppendUint256 ((List.append b_ [(1 : Int)]), (a_.2.1, ()))) (fun (y_0 : (((List Int) × Unit) × (Unit × (Unit × Unit)))) =>
        (some ((y_0.1.1, ()), ((), ((), ()))))))
       none)
      none)
     (brR (Go.Pon.roomy ((0 : Nat) + (List.length b_)) (Go.Pon.Ty.int Go.IntKind.u8))
      (brR (Go.Pon.roomy ((List.length b_) + (1 : Nat)) (Go.Pon.Ty.int Go.IntKind.u8))
       (Option.bind (c_ref6_AppendUint256 ((List.append b_ [(0 : Int)]), (a_.2.1, ()))) (fun (y_1 : (((List Int) × Unit) × (Unit × (Unit × Unit)))) =>
        (some ((y_1.1.1, ()), ((), ((), ()))))))
       none)
      none)))
   (brR a_.1
    (brR (Go.Pon.roomy ((0 : Nat) + (List.length b_)) (Go.Pon.Ty.int Go.IntKind.u8))
     (brR (Go.Pon.roomy ((List.length b_) + (1 : Nat)) (Go.Pon.Ty.int Go.IntKind.u8))
      (Option.bind (c_ref6_AppendUint256 ((List.append b_ [(1 : Int)]), (a_.2.1, ()))) (fun (y_2 : (((List Int) × Unit) × (Unit × (Unit × Unit)))) =>
       (some ((y_2.1.1, ()), ((), ((), ()))))))
      none)
     none)
    (brR (Go.Pon.roomy ((0 : Nat) + (List.length b_)) (Go.Pon.Ty.int Go.IntKind.u8))
     (brR (Go.Pon.roomy ((List.length b_) + (1 : Nat)) (Go.Pon.Ty.int Go.IntKind.u8))
      (Option.bind (c_ref6_AppendUint256 ((List.append b_ [(0 : Int)]), (a_.2.1, ()))) (fun (y_3 : (((List Int) × Unit) × (Unit × (Unit × Unit)))) =>
       (some ((y_3.1.1, ()), ((), ((), ()))))))
      none)
     none)))

noncomputable def sol_ref6_AppendInt256 : F_ref6_AppendInt256 := fun x => T_ref6_AppendInt256 bigLoop sol_ref6_AppendUint256 x.1 x.2.1

/-- pontage/pontageref6.ReadInt256 -/
abbrev s_ref6_ReadInt256 : Sig := ⟨[(.ro false (.slice (.int .u8))), (.ro true (.int .i64))], [(.ro true (.pair .bool (.pair (.arr 4 (.int .u64)) .unit))), (.ro true (.int .i64)), (.ro true (.int .i64))]⟩
abbrev F_ref6_ReadInt256 := ((List Int) × (Int × Unit)) → Option (((Bool × ((List Int) × Unit)) × (Int × (Int × Unit))) × (Unit × (Unit × Unit)))

noncomputable def T_ref6_ReadInt256 (L : LoopD) (c_ref6_ReadUint256 : F_ref6_ReadUint256) (b_ : (List Int)) (at_ : Int) : Option (((Bool × ((List Int) × Unit)) × (Int × (Int × Unit))) × (Unit × (Unit × Unit))) :=
  (brR (decide (at_ < (0 : Int)))
   (some (((false, ([(0 : Int), (0 : Int), (0 : Int), (0 : Int)], ())), ((0 : Int), ((2 : Int), ()))), ((), ((), ()))))
   (brR (decide (at_ > (((List.length b_) : Nat) : Int)))
    (some (((false, ([(0 : Int), (0 : Int), (0 : Int), (0 : Int)], ())), ((0 : Int), ((2 : Int), ()))), ((), ((), ()))))
    (brR (decide (at_ = (((List.length b_) : Nat) : Int)))
     (some (((false, ([(0 : Int), (0 : Int), (0 : Int), (0 : Int)], ())), ((0 : Int), ((3 : Int), ()))), ((), ((), ()))))
     (brR (Go.Pon.inR at_ (List.length b_))
      (brR (decide ((List.getD b_ (Int.toNat at_) (0 : Int)) > (1 : Int)))
       (some (((false, ([(0 : Int), (0 : Int), (0 : Int), (0 : Int)], ())), ((0 : Int), ((3 : Int), ()))), ((), ((), ()))))
       (Option.bind (c_ref6_ReadUint256 (b_, ((Go.IntKind.wrap (Go.IntKind.i64) (at_ + (1 : Int))), ()))) (fun (y_0 : (((List Int) × (Int × (Int × Unit))) × (Unit × (Unit × Unit)))) =>
        (brR (!(decide (y_0.1.2.2.1 = (0 : Int))))
         (some (((false, ([(0 : Int), (0 : Int), (0 : Int), (0 : Int)], ())), ((0 : Int), ((3 : Int), ()))), ((), ((), ()))))
         (brR (Go.Pon.inR at_ (List.length b_))
          (brR (decide ((List.getD b_ (Int.toNat at_) (0 : Int)) = (1 : Int)))
           (brR (Go.Pon.eqD (Go.Pon.Ty.arr 4 (Go.Pon.Ty.int Go.IntKind.u64)) y_0.1.1 [(0 : Int), (0 : Int), (0 : Int), (0 : Int)])
            (some (((false, ([(0 : Int), (0 : Int), (0 : Int), (0 : Int)], ())), ((0 : Int), ((3 : Int), ()))), ((), ((), ()))))
            (brR (Go.Pon.inR at_ (List.length b_))
             (some ((((decide ((List.getD b_ (Int.toNat at_) (0 : Int)) = (1 : Int))), (y_0.1.1, ())), (y_0.1.2.1, ((0 : Int), ()))), ((), ((), ()))))
             none))
           (brR (Go.Pon.inR at_ (List.length b_))
            (some ((((decide ((List.getD b_ (Int.toNat at_) (0 : Int)) = (1 : Int))), (y_0.1.1, ())), (y_0.1.2.1, ((0 : Int), ()))), ((), ((), ()))))
            none))
          none)))))
      none))))

noncomputable def sol_ref6_ReadInt256 : F_ref6_ReadInt256 := fun x => T_ref6_ReadInt256 bigLoop sol_ref6_ReadUint256 x.1 x.2.1

end Go.Pon
/-
  What the functions of package ref7 compute (printed by a program of this work).
-/
set_option autoImplicit false
set_option linter.unusedVariables false
set_option maxRecDepth 100000
namespace Go.Pon
open Go

/-- pontage/pontageref7.words -/
abbrev s_ref7_words : Sig := ⟨[], [(.ro true (.arr 64 (.int .u32)))]⟩
abbrev F_ref7_words := Unit → Option (((List Int) × Unit) × Unit)

noncomputable def T_ref7_words (L : LoopD) : Option (((List Int) × Unit) × Unit) :=
  (some (((List.set (List.set (List.set (List.set (List.set (List.set (List.set (List.set (List.set (List.set (List.set (List.set (List.set (List.set (List.set (List.set (List.set (List.set (List.set (List.set (List.set (List.set (List.set (List.set (List.set (List.set (List.set (List.set (List.set (List.set (List.set (List.set (List.set (List.set (List.set (List.set (List.set (List.set (List.set (List.set (List.set (List.set (List.set (List.set (List.set (List.set (List.set (List.set (List.set (List.set (List.set (List.set (List.set (List.set (List.set (List.set (List.set (List.set (List.set (List.set (List.set (List.set (List.set (List.set (List.replicate (64 : Nat) (0 : Int)) (0 : Nat) (1116352408 : Int)) (1 : Nat) (1899447441 : Int)) (2 : Nat) (3049323471 : Int)) (3 : Nat) (3921009573 : Int)) (4 : Nat) (961987163 : Int)) (5 : Nat) (1508970993 : Int)) (6 : Nat) (2453635748 : Int)) (7 : Nat) (2870763221 : Int)) (8 : Nat) (3624381080 : Int)) (9 : Nat) (310598401 : Int)) (10 : Nat) (607225278 : Int)) (11 : Nat) (1426881987 : Int)) (12 : Nat) (1925078388 : Int)) (13 : Nat) (2162078206 : Int)) (14 : Nat) (2614888103 : Int)) (15 : Nat) (3248222580 : Int)) (16 : Nat) (3835390401 : Int)) (17 : Nat) (4022224774 : Int)) (18 : Nat) (264347078 : Int)) (19 : Nat) (604807628 : Int)) (20 : Nat) (770255983 : Int)) (21 : Nat) (1249150122 : Int)) (22 : Nat) (1555081692 : Int)) (23 : Nat) (1996064986 : Int)) (24 : Nat) (2554220882 : Int)) (25 : Nat) (2821834349 : Int)) (26 : Nat) (2952996808 : Int)) (27 : Nat) (3210313671 : Int)) (28 : Nat) (3336571891 : Int)) (29 : Nat) (3584528711 : Int)) (30 : Nat) (113926993 : Int)) (31 : Nat) (338241895 : Int)) (32 : Nat) (666307205 : Int)) (33 : Nat) (773529912 : Int)) (34 : Nat) (1294757372 : Int)) (35 : Nat) (1396182291 : Int)) (36 : Nat) (1695183700 : Int)) (37 : Nat) (1986661051 : Int)) (38 : Nat) (2177026350 : Int)) (39 : Nat) (2456956037 : Int)) (40 : Nat) (2730485921 : Int)) (41 : Nat) (2820302411 : Int)) (42 : Nat) (3259730800 : Int)) (43 : Nat) (3345764771 : Int)) (44 : Nat) (3516065817 : Int)) (45 : Nat) (3600352804 : Int)) (46 : Nat) (4094571909 : Int)) (47 : Nat) (275423344 : Int)) (48 : Nat) (430227734 : Int)) (49 : Nat) (506948616 : Int)) (50 : Nat) (659060556 : Int)) (51 : Nat) (883997877 : Int)) (52 : Nat) (958139571 : Int)) (53 : Nat) (1322822218 : Int)) (54 : Nat) (1537002063 : Int)) (55 : Nat) (1747873779 : Int)) (56 : Nat) (1955562222 : Int)) (57 : Nat) (2024104815 : Int)) (58 : Nat) (2227730452 : Int)) (59 : Nat) (2361852424 : Int)) (60 : Nat) (2428436474 : Int)) (61 : Nat) (2756734187 : Int)) (62 : Nat) (3204031479 : Int)) (63 : Nat) (3329325298 : Int)), ()), ()))

noncomputable def sol_ref7_words : F_ref7_words := fun x => T_ref7_words bigLoop

/-- pontage/pontageref7.right -/
abbrev s_ref7_right : Sig := ⟨[(.ro true (.int .u32)), (.ro true (.int .u64))], [(.ro true (.int .u32))]⟩
abbrev F_ref7_right := (Int × (Int × Unit)) → Option ((Int × Unit) × (Unit × (Unit × Unit)))

noncomputable def T_ref7_right (L : LoopD) (x_ : Int) (n_ : Int) : Option ((Int × Unit) × (Unit × (Unit × Unit))) :=
  (letR (Go.IntKind.wrap (Go.IntKind.u64) ((32 : Int) - n_)) fun (v_0 : Int) =>
  (brR (decide ((0 : Int) ≤ n_))
   (brR (decide ((0 : Int) ≤ v_0))
    (some (((Go.IntKind.wrap (Go.IntKind.u32) (((BitVec.toNat ((BitVec.ofInt (32 : Nat) (Int.fdiv x_ ((2 : Int) ^ (min (Int.toNat n_) (32 : Nat))))) ||| (BitVec.ofInt (32 : Nat) (Go.IntKind.wrap (Go.IntKind.u32) (x_ * ((2 : Int) ^ (min (Int.toNat v_0) (32 : Nat)))))))) : Nat) : Int)), ()), ((), ((), ()))))
    none)
   none))

noncomputable def sol_ref7_right : F_ref7_right := fun x => T_ref7_right bigLoop x.1 x.2.1

/-- pontage/pontageref7.block -/
abbrev s_ref7_block : Sig := ⟨[(.ro true (.arr 8 (.int .u32))), (.ro false (.slice (.int .u8)))], [(.ro true (.arr 8 (.int .u32)))]⟩
abbrev F_ref7_block := ((List Int) × ((List Int) × Unit)) → Option (((List Int) × Unit) × (Unit × (Unit × Unit)))

noncomputable def T_ref7_block_loop2 (again_44 : ((List Int) × ((List Int) × ((List Int) × (Int × Unit)))) → Option (((List Int) × Unit) × (Unit × (Unit × Unit)))) (h_45 : (List Int)) (t4_46 : (List Int)) (s_47 : (List Int)) (i_48 : Int) : Option (((List Int) × Unit) × (Unit × (Unit × Unit))) :=
  (brR (decide (i_48 < (8 : Int)))
   (brR (Go.Pon.inR i_48 (8 : Nat))
    (brR (Go.Pon.inR i_48 (8 : Nat))
     (brR (Go.Pon.inR i_48 (8 : Nat))
      (again_44 (h_45, (t4_46, ((List.set s_47 (Int.toNat i_48) (Go.IntKind.wrap (Go.IntKind.u32) ((List.getD s_47 (Int.toNat i_48) (0 : Int)) + (List.getD h_45 (Int.toNat i_48) (0 : Int))))), ((Go.IntKind.wrap (Go.IntKind.i64) (i_48 + (1 : Int))), ())))))
      none)
     none)
    none)
   (some ((s_47, ()), ((), ((), ())))))

noncomputable def T_ref7_block_loop1 (L : LoopD) (c_ref7_right : F_ref7_right) (again_22 : ((List Int) × ((List Int) × ((List Int) × ((List Int) × ((List Int) × (Int × Unit)))))) → Option (((List Int) × Unit) × (Unit × (Unit × Unit)))) (h_23 : (List Int)) (t4_24 : (List Int)) (k_25 : (List Int)) (w_26 : (List Int)) (s_27 : (List Int)) (i_28 : Int) : Option (((List Int) × Unit) × (Unit × (Unit × Unit))) :=
  (letR (List.getD s_27 (4 : Nat) (0 : Int)) fun (v_29 : Int) =>
  (letR (List.getD s_27 (0 : Nat) (0 : Int)) fun (v_30 : Int) =>
  (letR (List.getD s_27 (7 : Nat) (0 : Int)) fun (v_31 : Int) =>
  (letR (List.getD s_27 (5 : Nat) (0 : Int)) fun (v_32 : Int) =>
  (letR (List.getD s_27 (6 : Nat) (0 : Int)) fun (v_33 : Int) =>
  (letR (List.getD s_27 (1 : Nat) (0 : Int)) fun (v_34 : Int) =>
  (letR (List.getD s_27 (2 : Nat) (0 : Int)) fun (v_35 : Int) =>
  (letR (Go.IntKind.wrap (Go.IntKind.u32) (((BitVec.toNat ((BitVec.ofInt (32 : Nat) (Go.IntKind.wrap (Go.IntKind.u32) (((BitVec.toNat ((BitVec.ofInt (32 : Nat) v_29) &&& (BitVec.ofInt (32 : Nat) v_32))) : Nat) : Int))) ^^^ (BitVec.ofInt (32 : Nat) (Go.IntKind.wrap (Go.IntKind.u32) (((BitVec.toNat ((BitVec.ofInt (32 : Nat) (Go.IntKind.wrap (Go.IntKind.u32) (((BitVec.toNat ((BitVec.ofInt (32 : Nat) (4294967295 : Int)) ^^^ (BitVec.ofInt (32 : Nat) v_29))) : Nat) : Int))) &&& (BitVec.ofInt (32 : Nat) v_33))) : Nat) : Int))))) : Nat) : Int)) fun (v_36 : Int) =>
  (brR (decide (i_28 < (64 : Int)))
   (Option.bind (c_ref7_right (v_29, ((6 : Int), ()))) (fun (y_37 : ((Int × Unit) × (Unit × (Unit × Unit)))) =>
    (Option.bind (c_ref7_right (v_29, ((11 : Int), ()))) (fun (y_38 : ((Int × Unit) × (Unit × (Unit × Unit)))) =>
     (Option.bind (c_ref7_right (v_29, ((25 : Int), ()))) (fun (y_39 : ((Int × Unit) × (Unit × (Unit × Unit)))) =>
      (letR (Go.IntKind.wrap (Go.IntKind.u32) ((Go.IntKind.wrap (Go.IntKind.u32) ((Go.IntKind.wrap (Go.IntKind.u32) ((Go.IntKind.wrap (Go.IntKind.u32) (v_31 + (Go.IntKind.wrap (Go.IntKind.u32) (((BitVec.toNat ((BitVec.ofInt (32 : Nat) (Go.IntKind.wrap (Go.IntKind.u32) (((BitVec.toNat ((BitVec.ofInt (32 : Nat) y_37.1.1) ^^^ (BitVec.ofInt (32 : Nat) y_38.1.1))) : Nat) : Int))) ^^^ (BitVec.ofInt (32 : Nat) y_39.1.1))) : Nat) : Int)))) + v_36)) + (List.getD k_25 (Int.toNat i_28) (0 : Int)))) + (List.getD w_26 (Int.toNat i_28) (0 : Int)))) fun (v_40 : Int) =>
      (brR (Go.Pon.inR i_28 (64 : Nat))
       (brR (Go.Pon.inR i_28 (64 : Nat))
        (Option.bind (c_ref7_right (v_30, ((2 : Int), ()))) (fun (y_41 : ((Int × Unit) × (Unit × (Unit × Unit)))) =>
         (Option.bind (c_ref7_right (v_30, ((13 : Int), ()))) (fun (y_42 : ((Int × Unit) × (Unit × (Unit × Unit)))) =>
          (Option.bind (c_ref7_right (v_30, ((22 : Int), ()))) (fun (y_43 : ((Int × Unit) × (Unit × (Unit × Unit)))) =>
           (again_22 (h_23, (t4_24, (k_25, (w_26, ([(Go.IntKind.wrap (Go.IntKind.u32) (v_40 + (Go.IntKind.wrap (Go.IntKind.u32) ((Go.IntKind.wrap (Go.IntKind.u32) (((BitVec.toNat ((BitVec.ofInt (32 : Nat) (Go.IntKind.wrap (Go.IntKind.u32) (((BitVec.toNat ((BitVec.ofInt (32 : Nat) y_41.1.1) ^^^ (BitVec.ofInt (32 : Nat) y_42.1.1))) : Nat) : Int))) ^^^ (BitVec.ofInt (32 : Nat) y_43.1.1))) : Nat) : Int)) + (Go.IntKind.wrap (Go.IntKind.u32) (((BitVec.toNat ((BitVec.ofInt (32 : Nat) (Go.IntKind.wrap (Go.IntKind.u32) (((BitVec.toNat ((BitVec.ofInt (32 : Nat) (Go.IntKind.wrap (Go.IntKind.u32) (((BitVec.toNat ((BitVec.ofInt (32 : Nat) v_30) &&& (BitVec.ofInt (32 : Nat) v_34))) : Nat) : Int))) ^^^ (BitVec.ofInt (32 : Nat) (Go.IntKind.wrap (Go.IntKind.u32) (((BitVec.toNat ((BitVec.ofInt (32 : Nat) v_30) &&& (BitVec.ofInt (32 : Nat) v_35))) : Nat) : Int))))) : Nat) : Int))) ^^^ (BitVec.ofInt (32 : Nat) (Go.IntKind.wrap (Go.IntKind.u32) (((BitVec.toNat ((BitVec.ofInt (32 : Nat) v_34) &&& (BitVec.ofInt (32 : Nat) v_35))) : Nat) : Int))))) : Nat) : Int)))))), v_30, v_34, v_35, (Go.IntKind.wrap (Go.IntKind.u32) ((List.getD s_27 (3 : Nat) (0 : Int)) + v_40)), v_29, v_32, v_33], ((Go.IntKind.wrap (Go.IntKind.i64) (i_28 + (1 : Int))), ())))))))))))))
        none)
       none))))))))
   (L _ _ (fun again x => T_ref7_block_loop2 again x.1 x.2.1 x.2.2.1 x.2.2.2.1) (h_23, (t4_24, (s_27, ((0 : Int), ()))))))))))))))

noncomputable def T_ref7_block_loop0 (L : LoopD) (c_ref7_right : F_ref7_right) (again_1 : ((List Int) × ((List Int) × ((List Int) × ((List Int) × ((List Int) × (Int × Unit)))))) → Option (((List Int) × Unit) × (Unit × (Unit × Unit)))) (b_2 : (List Int)) (h_3 : (List Int)) (t4_4 : (List Int)) (k_5 : (List Int)) (w_6 : (List Int)) (i_7 : Int) : Option (((List Int) × Unit) × (Unit × (Unit × Unit))) :=
  (letR (Go.IntKind.wrap (Go.IntKind.i64) ((4 : Int) * i_7)) fun (v_8 : Int) =>
  (letR (Go.IntKind.wrap (Go.IntKind.i64) (i_7 - (15 : Int))) fun (v_9 : Int) =>
  (letR (Go.IntKind.wrap (Go.IntKind.i64) (i_7 - (2 : Int))) fun (v_10 : Int) =>
  (letR (Go.IntKind.wrap (Go.IntKind.i64) (i_7 - (16 : Int))) fun (v_11 : Int) =>
  (letR (Go.IntKind.wrap (Go.IntKind.i64) (i_7 - (7 : Int))) fun (v_12 : Int) =>
  (letR (List.getD w_6 (Int.toNat v_9) (0 : Int)) fun (v_13 : Int) =>
  (letR (List.getD w_6 (Int.toNat v_10) (0 : Int)) fun (v_14 : Int) =>
  (letR (Go.IntKind.wrap (Go.IntKind.i64) (v_8 + (1 : Int))) fun (v_15 : Int) =>
  (letR (Go.IntKind.wrap (Go.IntKind.i64) (v_8 + (2 : Int))) fun (v_16 : Int) =>
  (letR (Go.IntKind.wrap (Go.IntKind.i64) (v_8 + (3 : Int))) fun (v_17 : Int) =>
  (brR (decide (i_7 < (64 : Int)))
   (brR (decide (i_7 < (16 : Int)))
    (brR (Go.Pon.inR v_8 (List.length b_2))
     (brR (Go.Pon.inR v_15 (List.length b_2))
      (brR (Go.Pon.inR v_16 (List.length b_2))
       (brR (Go.Pon.inR v_17 (List.length b_2))
        (brR (Go.Pon.inR i_7 (64 : Nat))
         (again_1 (b_2, (h_3, (t4_4, (k_5, ((List.set w_6 (Int.toNat i_7) (Go.IntKind.wrap (Go.IntKind.u32) ((Go.IntKind.wrap (Go.IntKind.u32) ((Go.IntKind.wrap (Go.IntKind.u32) ((Go.IntKind.wrap (Go.IntKind.u32) ((Go.IntKind.wrap (Go.IntKind.u32) (List.getD b_2 (Int.toNat v_8) (0 : Int))) * (16777216 : Int))) + (Go.IntKind.wrap (Go.IntKind.u32) ((Go.IntKind.wrap (Go.IntKind.u32) (List.getD b_2 (Int.toNat v_15) (0 : Int))) * (65536 : Int))))) + (Go.IntKind.wrap (Go.IntKind.u32) ((Go.IntKind.wrap (Go.IntKind.u32) (List.getD b_2 (Int.toNat v_16) (0 : Int))) * (256 : Int))))) + (Go.IntKind.wrap (Go.IntKind.u32) (List.getD b_2 (Int.toNat v_17) (0 : Int)))))), ((Go.IntKind.wrap (Go.IntKind.i64) (i_7 + (1 : Int))), ())))))))
         none)
        none)
       none)
      none)
     none)
    (brR (Go.Pon.inR v_9 (64 : Nat))
     (brR (Go.Pon.inR v_10 (64 : Nat))
      (brR (Go.Pon.inR v_11 (64 : Nat))
       (Option.bind (c_ref7_right (v_13, ((7 : Int), ()))) (fun (y_18 : ((Int × Unit) × (Unit × (Unit × Unit)))) =>
        (Option.bind (c_ref7_right (v_13, ((18 : Int), ()))) (fun (y_19 : ((Int × Unit) × (Unit × (Unit × Unit)))) =>
         (brR (Go.Pon.inR v_12 (64 : Nat))
          (Option.bind (c_ref7_right (v_14, ((17 : Int), ()))) (fun (y_20 : ((Int × Unit) × (Unit × (Unit × Unit)))) =>
           (Option.bind (c_ref7_right (v_14, ((19 : Int), ()))) (fun (y_21 : ((Int × Unit) × (Unit × (Unit × Unit)))) =>
            (brR (Go.Pon.inR i_7 (64 : Nat))
             (again_1 (b_2, (h_3, (t4_4, (k_5, ((List.set w_6 (Int.toNat i_7) (Go.IntKind.wrap (Go.IntKind.u32) ((Go.IntKind.wrap (Go.IntKind.u32) ((Go.IntKind.wrap (Go.IntKind.u32) ((List.getD w_6 (Int.toNat v_11) (0 : Int)) + (Go.IntKind.wrap (Go.IntKind.u32) (((BitVec.toNat ((BitVec.ofInt (32 : Nat) (Go.IntKind.wrap (Go.IntKind.u32) (((BitVec.toNat ((BitVec.ofInt (32 : Nat) y_18.1.1) ^^^ (BitVec.ofInt (32 : Nat) y_19.1.1))) : Nat) : Int))) ^^^ (BitVec.ofInt (32 : Nat) (Int.fdiv v_13 (8 : Int))))) : Nat) : Int)))) + (List.getD w_6 (Int.toNat v_12) (0 : Int)))) + (Go.IntKind.wrap (Go.IntKind.u32) (((BitVec.toNat ((BitVec.ofInt (32 : Nat) (Go.IntKind.wrap (Go.IntKind.u32) (((BitVec.toNat ((BitVec.ofInt (32 : Nat) y_20.1.1) ^^^ (BitVec.ofInt (32 : Nat) y_21.1.1))) : Nat) : Int))) ^^^ (BitVec.ofInt (32 : Nat) (Int.fdiv v_14 (1024 : Int))))) : Nat) : Int))))), ((Go.IntKind.wrap (Go.IntKind.i64) (i_7 + (1 : Int))), ())))))))
             none)))))
          none)))))
       none)
      none)
     none))
   (L _ _ (fun again x => T_ref7_block_loop1 L c_ref7_right again x.1 x.2.1 x.2.2.1 x.2.2.2.1 x.2.2.2.2.1 x.2.2.2.2.2.1) (h_3, (t4_4, (k_5, (w_6, (h_3, ((0 : Int), ()))))))))))))))))))

noncomputable def T_ref7_block (L : LoopD) (c_ref7_words : F_ref7_words) (c_ref7_right : F_ref7_right) (h_ : (List Int)) (b_ : (List Int)) : Option (((List Int) × Unit) × (Unit × (Unit × Unit))) :=
  (Option.bind (c_ref7_words ()) (fun (y_0 : (((List Int) × Unit) × Unit)) =>
   (L _ _ (fun again x => T_ref7_block_loop0 L c_ref7_right again x.1 x.2.1 x.2.2.1 x.2.2.2.1 x.2.2.2.2.1 x.2.2.2.2.2.1) (b_, (h_, ([(0 : Int), (0 : Int), (0 : Int), (0 : Int), (0 : Int), (0 : Int), (0 : Int), (0 : Int)], (y_0.1.1, ((List.replicate (64 : Nat) (0 : Int)), ((0 : Int), ())))))))))

noncomputable def sol_ref7_block : F_ref7_block := fun x => T_ref7_block bigLoop sol_ref7_words sol_ref7_right x.1 x.2.1

/-- pontage/pontageref7.Sum -/
abbrev s_ref7_Sum : Sig := ⟨[(.ro false (.slice (.int .u8)))], [(.ro true (.arr 32 (.int .u8)))]⟩
abbrev F_ref7_Sum := ((List Int) × Unit) → Option (((List Int) × Unit) × (Unit × Unit))

noncomputable def T_ref7_Sum_loop3 (again_17 : ((List Int) × ((List Int) × ((List Int) × (Int × Unit)))) → Option (((List Int) × Unit) × (Unit × Unit))) (t2_18 : (List Int)) (h_19 : (List Int)) (out_20 : (List Int)) (i_21 : Int) : Option (((List Int) × Unit) × (Unit × Unit)) :=
  (letR (Go.IntKind.wrap (Go.IntKind.u64) (Go.IntKind.wrap (Go.IntKind.i64) ((24 : Int) - (Go.IntKind.wrap (Go.IntKind.i64) ((8 : Int) * (Int.tmod i_21 (4 : Int))))))) fun (v_22 : Int) =>
  (brR (decide (i_21 < (32 : Int)))
   (brR (Go.Pon.inR (Go.IntKind.wrap (Go.IntKind.i64) (Int.tdiv i_21 (4 : Int))) (8 : Nat))
    (brR (decide ((0 : Int) ≤ v_22))
     (brR (Go.Pon.inR i_21 (32 : Nat))
      (again_17 (t2_18, (h_19, ((List.set out_20 (Int.toNat i_21) (Go.IntKind.wrap (Go.IntKind.u8) (Int.fdiv (List.getD h_19 (Int.toNat (Go.IntKind.wrap (Go.IntKind.i64) (Int.tdiv i_21 (4 : Int)))) (0 : Int)) ((2 : Int) ^ (min (Int.toNat v_22) (32 : Nat)))))), ((Go.IntKind.wrap (Go.IntKind.i64) (i_21 + (1 : Int))), ())))))
      none)
     none)
    none)
   (some ((out_20, ()), ((), ())))))

noncomputable def T_ref7_Sum_loop2 (L : LoopD) (c_ref7_block : F_ref7_block) (again_10 : ((List Int) × ((List Int) × ((List Int) × (Int × Unit)))) → Option (((List Int) × Unit) × (Unit × Unit))) (t2_11 : (List Int)) (m_12 : (List Int)) (h_13 : (List Int)) (i_14 : Int) : Option (((List Int) × Unit) × (Unit × Unit)) :=
  (letR (Go.IntKind.wrap (Go.IntKind.i64) (i_14 + (64 : Int))) fun (v_15 : Int) =>
  (brR (decide (i_14 < (((List.length m_12) : Nat) : Int)))
   (brR (((decide ((0 : Int) ≤ i_14)) && (decide (i_14 ≤ v_15))) && (decide (v_15 ≤ (((List.length m_12) : Nat) : Int))))
    (Option.bind (c_ref7_block (h_13, ((List.take ((Int.toNat v_15) - (Int.toNat i_14)) (List.drop (Int.toNat i_14) m_12)), ()))) (fun (y_16 : (((List Int) × Unit) × (Unit × (Unit × Unit)))) =>
     (again_10 (t2_11, (m_12, (y_16.1.1, (v_15, ())))))))
    none)
   (L _ _ (fun again x => T_ref7_Sum_loop3 again x.1 x.2.1 x.2.2.1 x.2.2.2.1) (t2_11, (h_13, ((List.replicate (32 : Nat) (0 : Int)), ((0 : Int), ())))))))

noncomputable def T_ref7_Sum_loop1 (L : LoopD) (c_ref7_block : F_ref7_block) (again_4 : ((List Int) × ((List Int) × (Int × (Int × Unit)))) → Option (((List Int) × Unit) × (Unit × Unit))) (t2_5 : (List Int)) (m_6 : (List Int)) (n_7 : Int) (i_8 : Int) : Option (((List Int) × Unit) × (Unit × Unit)) :=
  (letR (Go.IntKind.wrap (Go.IntKind.u64) (Go.IntKind.wrap (Go.IntKind.i64) ((8 : Int) * i_8))) fun (v_9 : Int) =>
  (brR (decide (i_8 ≥ (0 : Int)))
   (brR (decide ((0 : Int) ≤ v_9))
    (brR (Go.Pon.roomy ((List.length m_6) + (1 : Nat)) (Go.Pon.Ty.int Go.IntKind.u8))
     (again_4 (t2_5, ((List.append m_6 [(Go.IntKind.wrap (Go.IntKind.u8) (Int.fdiv n_7 ((2 : Int) ^ (min (Int.toNat v_9) (64 : Nat)))))]), (n_7, ((Go.IntKind.wrap (Go.IntKind.i64) (i_8 - (1 : Int))), ())))))
     none)
    none)
   (L _ _ (fun again x => T_ref7_Sum_loop2 L c_ref7_block again x.1 x.2.1 x.2.2.1 x.2.2.2.1) (t2_5, (m_6, ([(1779033703 : Int), (3144134277 : Int), (1013904242 : Int), (2773480762 : Int), (1359893119 : Int), (2600822924 : Int), (528734635 : Int), (1541459225 : Int)], ((0 : Int), ())))))))

noncomputable def T_ref7_Sum_loop0 (L : LoopD) (c_ref7_block : F_ref7_block) (again_0 : ((List Int) × ((List Int) × ((List Int) × Unit))) → Option (((List Int) × Unit) × (Unit × Unit))) (b_1 : (List Int)) (t2_2 : (List Int)) (m_3 : (List Int)) : Option (((List Int) × Unit) × (Unit × Unit)) :=
  (brR (!(decide ((Int.tmod (((List.length m_3) : Nat) : Int) (64 : Int)) = (56 : Int))))
   (brR (Go.Pon.roomy ((List.length m_3) + (1 : Nat)) (Go.Pon.Ty.int Go.IntKind.u8))
    (again_0 (b_1, (t2_2, ((List.append m_3 [(0 : Int)]), ()))))
    none)
   (L _ _ (fun again x => T_ref7_Sum_loop1 L c_ref7_block again x.1 x.2.1 x.2.2.1 x.2.2.2.1) (t2_2, (m_3, ((Go.IntKind.wrap (Go.IntKind.u64) ((Go.IntKind.wrap (Go.IntKind.u64) (((List.length b_1) : Nat) : Int)) * (8 : Int))), ((7 : Int), ()))))))

noncomputable def T_ref7_Sum (L : LoopD) (c_ref7_block : F_ref7_block) (b_ : (List Int)) : Option (((List Int) × Unit) × (Unit × Unit)) :=
  (brR (Go.Pon.roomy ((0 : Nat) + (List.length b_)) (Go.Pon.Ty.int Go.IntKind.u8))
   (brR (Go.Pon.roomy ((List.length b_) + (1 : Nat)) (Go.Pon.Ty.int Go.IntKind.u8))
    (L _ _ (fun again x => T_ref7_Sum_loop0 L c_ref7_block again x.1 x.2.1 x.2.2.1) (b_, ((List.replicate (32 : Nat) (0 : Int)), ((List.append b_ [(128 : Int)]), ()))))
    none)
   none)

noncomputable def sol_ref7_Sum : F_ref7_Sum := fun x => T_ref7_Sum bigLoop sol_ref7_block x.1

/-- pontage/pontageref7.Leaf -/
abbrev s_ref7_Leaf : Sig := ⟨[(.ro false (.slice (.int .u8)))], [(.ro true (.arr 32 (.int .u8)))]⟩
abbrev F_ref7_Leaf := ((List Int) × Unit) → Option (((List Int) × Unit) × (Unit × Unit))

noncomputable def T_ref7_Leaf (L : LoopD) (c_ref7_Sum : F_ref7_Sum) (b_ : (List Int)) : Option (((List Int) × Unit) × (Unit × Unit)) :=
  (brR (Go.Pon.roomy ((1 : Nat) + (List.length b_)) (Go.Pon.Ty.int Go.IntKind.u8))
   (Option.bind (c_ref7_Sum ((List.append [(0 : Int)] b_), ())) (fun (y_0 : (((List Int) × Unit) × (Unit × Unit))) =>
    (some ((y_0.1.1, ()), ((), ())))))
   none)

noncomputable def sol_ref7_Leaf : F_ref7_Leaf := fun x => T_ref7_Leaf bigLoop sol_ref7_Sum x.1

/-- pontage/pontageref7.Node -/
abbrev s_ref7_Node : Sig := ⟨[(.ro true (.arr 32 (.int .u8))), (.ro true (.arr 32 (.int .u8)))], [(.ro true (.arr 32 (.int .u8)))]⟩
abbrev F_ref7_Node := ((List Int) × ((List Int) × Unit)) → Option (((List Int) × Unit) × (Unit × (Unit × Unit)))

noncomputable def T_ref7_Node (L : LoopD) (c_ref7_Sum : F_ref7_Sum) (x_ : (List Int)) (y_ : (List Int)) : Option (((List Int) × Unit) × (Unit × (Unit × Unit))) :=
  (letR (List.take ((32 : Nat) - (0 : Nat)) (List.drop (0 : Nat) x_)) fun (v_0 : (List Int)) =>
  (letR (List.take ((32 : Nat) - (0 : Nat)) (List.drop (0 : Nat) y_)) fun (v_1 : (List Int)) =>
  (letR (List.append [(1 : Int)] v_0) fun (v_2 : (List Int)) =>
  (brR (Go.Pon.roomy ((1 : Nat) + (List.length v_0)) (Go.Pon.Ty.int Go.IntKind.u8))
   (brR (Go.Pon.roomy ((List.length v_2) + (List.length v_1)) (Go.Pon.Ty.int Go.IntKind.u8))
    (Option.bind (c_ref7_Sum ((List.append v_2 v_1), ())) (fun (y_3 : (((List Int) × Unit) × (Unit × Unit))) =>
     (some ((y_3.1.1, ()), ((), ((), ()))))))
    none)
   none))))

noncomputable def sol_ref7_Node : F_ref7_Node := fun x => T_ref7_Node bigLoop sol_ref7_Sum x.1 x.2.1

/-- pontage/pontageref7.Format -/
abbrev s_ref7_Format : Sig := ⟨[(.ro true (.arr 32 (.int .u8)))], [(.ro true .str)]⟩
abbrev F_ref7_Format := ((List Int) × Unit) → Option (((List Int) × Unit) × (Unit × Unit))

noncomputable def T_ref7_Format_loop0 (again_0 : ((List Int) × ((List Int) × (Int × Unit))) → Option (((List Int) × Unit) × (Unit × Unit))) (h_1 : (List Int)) (s_2 : (List Int)) (i_3 : Int) : Option (((List Int) × Unit) × (Unit × Unit)) :=
  (letR (Int.tmod (List.getD h_1 (Int.toNat i_3) (0 : Int)) (16 : Int)) fun (v_4 : Int) =>
  (letR (Go.IntKind.wrap (Go.IntKind.u8) (Int.tdiv (List.getD h_1 (Int.toNat i_3) (0 : Int)) (16 : Int))) fun (v_5 : Int) =>
  (letR (Go.IntKind.wrap (Go.IntKind.u8) (v_4 + (1 : Int))) fun (v_6 : Int) =>
  (letR (Go.IntKind.wrap (Go.IntKind.u8) (v_5 + (1 : Int))) fun (v_7 : Int) =>
  (letR (List.take ((Int.toNat v_6) - (Int.toNat v_4)) (List.drop (Int.toNat v_4) [(48 : Int), (49 : Int), (50 : Int), (51 : Int), (52 : Int), (53 : Int), (54 : Int), (55 : Int), (56 : Int), (57 : Int), (97 : Int), (98 : Int), (99 : Int), (100 : Int), (101 : Int), (102 : Int)])) fun (v_8 : (List Int)) =>
  (letR (List.take ((Int.toNat v_7) - (Int.toNat v_5)) (List.drop (Int.toNat v_5) [(48 : Int), (49 : Int), (50 : Int), (51 : Int), (52 : Int), (53 : Int), (54 : Int), (55 : Int), (56 : Int), (57 : Int), (97 : Int), (98 : Int), (99 : Int), (100 : Int), (101 : Int), (102 : Int)])) fun (v_9 : (List Int)) =>
  (letR (List.append s_2 v_9) fun (v_10 : (List Int)) =>
  (brR (decide (i_3 < (32 : Int)))
   (brR (Go.Pon.inR i_3 (32 : Nat))
    (brR (Go.Pon.inR i_3 (32 : Nat))
     (brR (((decide ((0 : Int) ≤ v_5)) && (decide (v_5 ≤ v_7))) && (decide (v_7 ≤ (16 : Int))))
      (brR (decide (((List.length s_2) + (List.length v_9)) ≤ (9223372036854775807 : Nat)))
       (brR (((decide ((0 : Int) ≤ v_4)) && (decide (v_4 ≤ v_6))) && (decide (v_6 ≤ (16 : Int))))
        (brR (decide (((List.length v_10) + (List.length v_8)) ≤ (9223372036854775807 : Nat)))
         (again_0 (h_1, ((List.append v_10 v_8), ((Go.IntKind.wrap (Go.IntKind.i64) (i_3 + (1 : Int))), ()))))
         none)
        none)
       none)
      none)
     none)
    none)
   (some ((s_2, ()), ((), ())))))))))))

noncomputable def T_ref7_Format (L : LoopD) (h_ : (List Int)) : Option (((List Int) × Unit) × (Unit × Unit)) :=
  (L _ _ (fun again x => T_ref7_Format_loop0 again x.1 x.2.1 x.2.2.1) (h_, (([] : List Int), ((0 : Int), ()))))

noncomputable def sol_ref7_Format : F_ref7_Format := fun x => T_ref7_Format bigLoop x.1

/-- pontage/pontageref7.HexDigit -/
abbrev s_ref7_HexDigit : Sig := ⟨[(.ro true (.int .u8))], [(.ro true (.int .i64))]⟩
abbrev F_ref7_HexDigit := (Int × Unit) → Option ((Int × Unit) × (Unit × Unit))

noncomputable def T_ref7_HexDigit (L : LoopD) (x_ : Int) : Option ((Int × Unit) × (Unit × Unit)) :=
  (brR (decide (x_ ≥ (48 : Int)))
   (brR (decide (x_ ≤ (57 : Int)))
    (some (((Go.IntKind.wrap (Go.IntKind.i64) (Go.IntKind.wrap (Go.IntKind.u8) (x_ - (48 : Int)))), ()), ((), ())))
    (brR (decide (x_ ≥ (97 : Int)))
     (brR (decide (x_ ≤ (102 : Int)))
      (some (((Go.IntKind.wrap (Go.IntKind.i64) ((Go.IntKind.wrap (Go.IntKind.i64) (Go.IntKind.wrap (Go.IntKind.u8) (x_ - (97 : Int)))) + (10 : Int))), ()), ((), ())))
      (some (((-1 : Int), ()), ((), ()))))
     (some (((-1 : Int), ()), ((), ())))))
   (brR (decide (x_ ≥ (97 : Int)))
    (brR (decide (x_ ≤ (102 : Int)))
     (some (((Go.IntKind.wrap (Go.IntKind.i64) ((Go.IntKind.wrap (Go.IntKind.i64) (Go.IntKind.wrap (Go.IntKind.u8) (x_ - (97 : Int)))) + (10 : Int))), ()), ((), ())))
     (some (((-1 : Int), ()), ((), ()))))
    (some (((-1 : Int), ()), ((), ())))))

noncomputable def sol_ref7_HexDigit : F_ref7_HexDigit := fun x => T_ref7_HexDigit bigLoop x.1

/-- pontage/pontageref7.Parse -/
abbrev s_ref7_Parse : Sig := ⟨[(.ro true .str)], [(.ro true (.arr 32 (.int .u8))), (.ro true (.int .i64))]⟩
abbrev F_ref7_Parse := ((List Int) × Unit) → Option (((List Int) × (Int × Unit)) × (Unit × Unit))

noncomputable def T_ref7_Parse_loop0 (c_ref7_HexDigit : F_ref7_HexDigit) (again_0 : ((List Int) × ((List Int) × ((List Int) × (Int × Unit)))) → Option (((List Int) × (Int × Unit)) × (Unit × Unit))) (s_1 : (List Int)) (t2_2 : (List Int)) (h_3 : (List Int)) (i_4 : Int) : Option (((List Int) × (Int × Unit)) × (Unit × Unit)) :=
  (brR (decide (i_4 < (64 : Int)))
   (brR (Go.Pon.inR i_4 (List.length s_1))
    (Option.bind (c_ref7_HexDigit ((List.getD s_1 (Int.toNat i_4) (0 : Int)), ())) (fun (y_5 : ((Int × Unit) × (Unit × Unit))) =>
     (brR (decide (y_5.1.1 < (0 : Int)))
      (some (((List.replicate (32 : Nat) (0 : Int)), ((3 : Int), ())), ((), ())))
      (brR (Go.Pon.inR (Go.IntKind.wrap (Go.IntKind.i64) (Int.tdiv i_4 (2 : Int))) (32 : Nat))
       (brR (Go.Pon.inR i_4 (List.length s_1))
        (Option.bind (c_ref7_HexDigit ((List.getD s_1 (Int.toNat i_4) (0 : Int)), ())) (fun (y_6 : ((Int × Unit) × (Unit × Unit))) =>
         (brR (Go.Pon.inR (Go.IntKind.wrap (Go.IntKind.i64) (Int.tdiv i_4 (2 : Int))) (32 : Nat))
          (again_0 (s_1, (t2_2, ((List.set h_3 (Int.toNat (Go.IntKind.wrap (Go.IntKind.i64) (Int.tdiv i_4 (2 : Int)))) (Go.IntKind.wrap (Go.IntKind.u8) ((Go.IntKind.wrap (Go.IntKind.u8) ((List.getD h_3 (Int.toNat (Go.IntKind.wrap (Go.IntKind.i64) (Int.tdiv i_4 (2 : Int)))) (0 : Int)) * (16 : Int))) + (Go.IntKind.wrap (Go.IntKind.u8) y_6.1.1)))), ((Go.IntKind.wrap (Go.IntKind.i64) (i_4 + (1 : Int))), ())))))
          none)))
        none)
       none))))
    none)
   (some ((h_3, ((0 : Int), ())), ((), ()))))

noncomputable def T_ref7_Parse (L : LoopD) (c_ref7_HexDigit : F_ref7_HexDigit) (s_ : (List Int)) : Option (((List Int) × (Int × Unit)) × (Unit × Unit)) :=
  (brR (!(decide ((((List.length s_) : Nat) : Int) = (64 : Int))))
   (some (((List.replicate (32 : Nat) (0 : Int)), ((3 : Int), ())), ((), ())))
   (L _ _ (fun again x => T_ref7_Parse_loop0 c_ref7_HexDigit again x.1 x.2.1 x.2.2.1 x.2.2.2.1) (s_, ((List.replicate (32 : Nat) (0 : Int)), ((List.replicate (32 : Nat) (0 : Int)), ((0 : Int), ()))))))

noncomputable def sol_ref7_Parse : F_ref7_Parse := fun x => T_ref7_Parse bigLoop sol_ref7_HexDigit x.1

end Go.Pon
/-
  What the functions of package ref8 compute (printed by a program of this work).
-/
set_option autoImplicit false
set_option linter.unusedVariables false
set_option maxRecDepth 100000
namespace Go.Pon
open Go

/-- pontage/pontageref8.SplitPoint -/
abbrev s_ref8_SplitPoint : Sig := ⟨[(.ro true (.int .i64))], [(.ro true (.int .i64))]⟩
abbrev F_ref8_SplitPoint := (Int × Unit) → Option ((Int × Unit) × (Unit × Unit))

noncomputable def T_ref8_SplitPoint_loop0 (again_0 : (Int × (Int × Unit)) → Option ((Int × Unit) × (Unit × Unit))) (n_1 : Int) (k_2 : Int) : Option ((Int × Unit) × (Unit × Unit)) :=
  (brR (decide (k_2 < (Go.IntKind.wrap (Go.IntKind.i64) (n_1 - k_2))))
   (again_0 (n_1, ((Go.IntKind.wrap (Go.IntKind.i64) ((2 : Int) * k_2)), ())))
   (some ((k_2, ()), ((), ()))))

noncomputable def T_ref8_SplitPoint (L : LoopD) (n_ : Int) : Option ((Int × Unit) × (Unit × Unit)) :=
  (L _ _ (fun again x => T_ref8_SplitPoint_loop0 again x.1 x.2.1) (n_, ((1 : Int), ())))

noncomputable def sol_ref8_SplitPoint : F_ref8_SplitPoint := fun x => T_ref8_SplitPoint bigLoop x.1

/-- pontage/pontageref8.RootOf -/
abbrev s_ref8_RootOf : Sig := ⟨[(.ro false (.slice (.arr 32 (.int .u8))))], [(.ro true (.arr 32 (.int .u8)))]⟩
abbrev F_ref8_RootOf := ((List (List Int)) × Unit) → Option (((List Int) × Unit) × (Unit × Unit))

noncomputable def T_ref8_RootOf (L : LoopD) (c_ref7_Sum : F_ref7_Sum) (c_ref8_SplitPoint : F_ref8_SplitPoint) (c_ref8_RootOf : F_ref8_RootOf) (c_ref7_Node : F_ref7_Node) (l_ : (List (List Int))) : Option (((List Int) × Unit) × (Unit × Unit)) :=
  (letR (((List.length l_) : Nat) : Int) fun (v_0 : Int) =>
  (brR (decide (v_0 = (0 : Int)))
   (Option.bind (c_ref7_Sum (([] : List Int), ())) (fun (y_1 : (((List Int) × Unit) × (Unit × Unit))) =>
    (some ((y_1.1.1, ()), ((), ())))))
   (brR (decide (v_0 = (1 : Int)))
    (brR (Go.Pon.inR (0 : Int) (List.length l_))
     (some (((List.getD l_ (0 : Nat) (List.replicate (32 : Nat) (0 : Int))), ()), ((), ())))
     none)
    (Option.bind (c_ref8_SplitPoint (v_0, ())) (fun (y_2 : ((Int × Unit) × (Unit × Unit))) =>
     (brR ((decide ((0 : Int) ≤ y_2.1.1)) && (decide (y_2.1.1 ≤ v_0)))
      (Option.bind (c_ref8_RootOf ((List.take ((Int.toNat y_2.1.1) - (0 : Nat)) (List.drop (0 : Nat) l_)), ())) (fun (y_3 : (((List Int) × Unit) × (Unit × Unit))) =>
       (brR ((decide ((0 : Int) ≤ y_2.1.1)) && (decide (y_2.1.1 ≤ v_0)))
        (Option.bind (c_ref8_RootOf ((List.take ((List.length l_) - (Int.toNat y_2.1.1)) (List.drop (Int.toNat y_2.1.1) l_)), ())) (fun (y_4 : (((List Int) × Unit) × (Unit × Unit))) =>
         (Option.bind (c_ref7_Node (y_3.1.1, (y_4.1.1, ()))) (fun (y_5 : (((List Int) × Unit) × (Unit × (Unit × Unit)))) =>
          (some ((y_5.1.1, ()), ((), ())))))))
        none)))
      none))))))

noncomputable def solN_ref8_RootOf : Nat → F_ref8_RootOf
  | 0 => fun _ => none
  | n + 1 => fun x => T_ref8_RootOf bigLoop sol_ref7_Sum sol_ref8_SplitPoint (solN_ref8_RootOf n) sol_ref7_Node x.1
noncomputable def sol_ref8_RootOf : F_ref8_RootOf := solN_ref8_RootOf bigF

/-- pontage/pontageref8.Proof -/
abbrev s_ref8_Proof : Sig := ⟨[(.ro false (.slice (.arr 32 (.int .u8)))), (.ro true (.int .i64))], [(.own true (.arr 32 (.int .u8)))]⟩
abbrev F_ref8_Proof := ((List (List Int)) × (Int × Unit)) → Option (((List (List Int)) × Unit) × (Unit × (Unit × Unit)))

noncomputable def T_ref8_Proof (L : LoopD) (c_ref8_SplitPoint : F_ref8_SplitPoint) (c_ref8_Proof : F_ref8_Proof) (c_ref8_RootOf : F_ref8_RootOf) (l_ : (List (List Int))) (i_ : Int) : Option (((List (List Int)) × Unit) × (Unit × (Unit × Unit))) :=
  (letR (((List.length l_) : Nat) : Int) fun (v_0 : Int) =>
  (letR (List.drop (0 : Nat) l_) fun (v_1 : (List (List Int))) =>
  (brR (decide (v_0 < (2 : Int)))
   (some ((([] : List (List Int)), ()), ((), ((), ()))))
   (Option.bind (c_ref8_SplitPoint (v_0, ())) (fun (y_2 : ((Int × Unit) × (Unit × Unit))) =>
    (letR (List.take ((Int.toNat y_2.1.1) - (0 : Nat)) v_1) fun (v_3 : (List (List Int))) =>
    (letR (List.take ((List.length l_) - (Int.toNat y_2.1.1)) (List.drop (Int.toNat y_2.1.1) l_)) fun (v_4 : (List (List Int))) =>
    (brR (decide (i_ < y_2.1.1))
     (brR ((decide ((0 : Int) ≤ y_2.1.1)) && (decide (y_2.1.1 ≤ v_0)))
      (Option.bind (c_ref8_Proof (v_3, (i_, ()))) (fun (y_5 : (((List (List Int)) × Unit) × (Unit × (Unit × Unit)))) =>
       (brR ((decide ((0 : Int) ≤ y_2.1.1)) && (decide (y_2.1.1 ≤ v_0)))
        (Option.bind (c_ref8_RootOf (v_4, ())) (fun (y_6 : (((List Int) × Unit) × (Unit × Unit))) =>
         (brR (Go.Pon.roomy ((List.length y_5.1.1) + (1 : Nat)) (Go.Pon.Ty.arr 32 (Go.Pon.Ty.int Go.IntKind.u8)))
          (some (((List.append y_5.1.1 [y_6.1.1]), ()), ((), ((), ()))))
          none)))
        none)))
      none)
     (brR ((decide ((0 : Int) ≤ y_2.1.1)) && (decide (y_2.1.1 ≤ v_0)))
      (Option.bind (c_ref8_Proof (v_4, ((Go.IntKind.wrap (Go.IntKind.i64) (i_ - y_2.1.1)), ()))) (fun (y_7 : (((List (List Int)) × Unit) × (Unit × (Unit × Unit)))) =>
       (brR ((decide ((0 : Int) ≤ y_2.1.1)) && (decide (y_2.1.1 ≤ v_0)))
        (Option.bind (c_ref8_RootOf (v_3, ())) (fun (y_8 : (((List Int) × Unit) × (Unit × Unit))) =>
         (brR (Go.Pon.roomy ((List.length y_7.1.1) + (1 : Nat)) (Go.Pon.Ty.arr 32 (Go.Pon.Ty.int Go.IntKind.u8)))
          (some (((List.append y_7.1.1 [y_8.1.1]), ()), ((), ((), ()))))
          none)))
        none)))
      none)))))))))

noncomputable def solN_ref8_Proof : Nat → F_ref8_Proof
  | 0 => fun _ => none
  | n + 1 => fun x => T_ref8_Proof bigLoop sol_ref8_SplitPoint (solN_ref8_Proof n) sol_ref8_RootOf x.1 x.2.1
noncomputable def sol_ref8_Proof : F_ref8_Proof := solN_ref8_Proof bigF

/-- pontage/pontageref8.up -/
abbrev s_ref8_up : Sig := ⟨[(.ro true (.int .i64)), (.ro true (.int .i64)), (.ro true (.arr 32 (.int .u8))), (.ro false (.slice (.arr 32 (.int .u8))))], [(.ro true (.arr 32 (.int .u8))), (.ro true .bool)]⟩
abbrev F_ref8_up := (Int × (Int × ((List Int) × ((List (List Int)) × Unit)))) → Option (((List Int) × (Bool × Unit)) × (Unit × (Unit × (Unit × (Unit × Unit)))))

noncomputable def T_ref8_up (L : LoopD) (c_ref8_SplitPoint : F_ref8_SplitPoint) (c_ref8_up : F_ref8_up) (c_ref7_Node : F_ref7_Node) (n_ : Int) (i_ : Int) (leaf_ : (List Int)) (proof_ : (List (List Int))) : Option (((List Int) × (Bool × Unit)) × (Unit × (Unit × (Unit × (Unit × Unit))))) :=
  (letR (((List.length proof_) : Nat) : Int) fun (v_0 : Int) =>
  (letR (Go.IntKind.wrap (Go.IntKind.i64) (v_0 - (1 : Int))) fun (v_1 : Int) =>
  (letR (List.getD proof_ (Int.toNat v_1) (List.replicate (32 : Nat) (0 : Int))) fun (v_2 : (List Int)) =>
  (brR (decide (n_ = (1 : Int)))
   (some ((leaf_, ((decide (v_0 = (0 : Int))), ())), ((), ((), ((), ((), ()))))))
   (brR (decide (v_0 = (0 : Int)))
    (some ((leaf_, (false, ())), ((), ((), ((), ((), ()))))))
    (brR (Go.Pon.inR v_1 (List.length proof_))
     (Option.bind (c_ref8_SplitPoint (n_, ())) (fun (y_3 : ((Int × Unit) × (Unit × Unit))) =>
      (brR (decide (i_ < y_3.1.1))
       (brR ((decide ((0 : Int) ≤ v_1)) && (decide (v_1 ≤ v_0)))
        (Option.bind (c_ref8_up (y_3.1.1, (i_, (leaf_, ((List.take ((Int.toNat v_1) - (0 : Nat)) (List.drop (0 : Nat) proof_)), ()))))) (fun (y_4 : (((List Int) × (Bool × Unit)) × (Unit × (Unit × (Unit × (Unit × Unit)))))) =>
         (Option.bind (c_ref7_Node (y_4.1.1, (v_2, ()))) (fun (y_5 : (((List Int) × Unit) × (Unit × (Unit × Unit)))) =>
          (some ((y_5.1.1, (y_4.1.2.1, ())), ((), ((), ((), ((), ()))))))))))
        none)
       (brR ((decide ((0 : Int) ≤ v_1)) && (decide (v_1 ≤ v_0)))
        (Option.bind (c_ref8_up ((Go.IntKind.wrap (Go.IntKind.i64) (n_ - y_3.1.1)), ((Go.IntKind.wrap (Go.IntKind.i64) (i_ - y_3.1.1)), (leaf_, ((List.take ((Int.toNat v_1) - (0 : Nat)) (List.drop (0 : Nat) proof_)), ()))))) (fun (y_6 : (((List Int) × (Bool × Unit)) × (Unit × (Unit × (Unit × (Unit × Unit)))))) =>
         (Option.bind (c_ref7_Node (v_2, (y_6.1.1, ()))) (fun (y_7 : (((List Int) × Unit) × (Unit × (Unit × Unit)))) =>
          (some ((y_7.1.1, (y_6.1.2.1, ())), ((), ((), ((), ((), ()))))))))))
        none))))
     none))))))

noncomputable def solN_ref8_up : Nat → F_ref8_up
  | 0 => fun _ => none
  | n + 1 => fun x => T_ref8_up bigLoop sol_ref8_SplitPoint (solN_ref8_up n) sol_ref7_Node x.1 x.2.1 x.2.2.1 x.2.2.2.1
noncomputable def sol_ref8_up : F_ref8_up := solN_ref8_up bigF

/-- pontage/pontageref8.Verify -/
abbrev s_ref8_Verify : Sig := ⟨[(.ro true (.arr 32 (.int .u8))), (.ro true (.int .i64)), (.ro true (.int .i64)), (.ro true (.arr 32 (.int .u8))), (.ro false (.slice (.arr 32 (.int .u8))))], [(.ro true .bool)]⟩
abbrev F_ref8_Verify := ((List Int) × (Int × (Int × ((List Int) × ((List (List Int)) × Unit))))) → Option ((Bool × Unit) × (Unit × (Unit × (Unit × (Unit × (Unit × Unit))))))

noncomputable def T_ref8_Verify (L : LoopD) (c_ref8_up : F_ref8_up) (root_ : (List Int)) (n_ : Int) (i_ : Int) (leaf_ : (List Int)) (proof_ : (List (List Int))) : Option ((Bool × Unit) × (Unit × (Unit × (Unit × (Unit × (Unit × Unit)))))) :=
  (brR (decide (i_ < (0 : Int)))
   (some ((false, ()), ((), ((), ((), ((), ((), ())))))))
   (brR (decide (i_ ≥ n_))
    (some ((false, ()), ((), ((), ((), ((), ((), ())))))))
    (brR (decide ((((List.length proof_) : Nat) : Int) > (64 : Int)))
     (some ((false, ()), ((), ((), ((), ((), ((), ())))))))
     (Option.bind (c_ref8_up (n_, (i_, (leaf_, (proof_, ()))))) (fun (y_0 : (((List Int) × (Bool × Unit)) × (Unit × (Unit × (Unit × (Unit × Unit)))))) =>
      (brR y_0.1.2.1
       (some (((Go.Pon.eqD (Go.Pon.Ty.arr 32 (Go.Pon.Ty.int Go.IntKind.u8)) y_0.1.1 root_), ()), ((), ((), ((), ((), ((), ())))))))
       (some ((false, ()), ((), ((), ((), ((), ((), ())))))))))))))

noncomputable def sol_ref8_Verify : F_ref8_Verify := fun x => T_ref8_Verify bigLoop sol_ref8_up x.1 x.2.1 x.2.2.1 x.2.2.2.1 x.2.2.2.2.1

end Go.Pon
/-
  What the functions of package ref24 compute (printed by a program of this work).
-/
set_option autoImplicit false
set_option linter.unusedVariables false
set_option maxRecDepth 100000
namespace Go.Pon
open Go

/-- pontage/pontageref24.Encode -/
abbrev s_ref24_Encode : Sig := ⟨[(.ro true (.pair (.int .u64) (.pair (.int .u64) (.pair (.arr 4 (.int .u64)) .unit))))], [(.own true (.int .u8))]⟩
abbrev F_ref24_Encode := ((Int × (Int × ((List Int) × Unit))) × Unit) → Option (((List Int) × Unit) × (Unit × Unit))

noncomputable def T_ref24_Encode (L : LoopD) (c_ref6_AppendUint64 : F_ref6_AppendUint64) (c_ref6_AppendUint256 : F_ref6_AppendUint256) (m_ : (Int × (Int × ((List Int) × Unit)))) : Option (((List Int) × Unit) × (Unit × Unit)) :=
  (Option.bind (c_ref6_AppendUint64 (([] : List Int), (m_.1, ()))) (fun (y_0 : (((List Int) × Unit) × (Unit × (Unit × Unit)))) =>
   (Option.bind (c_ref6_AppendUint64 (y_0.1.1, (m_.2.1, ()))) (fun (y_1 : (((List Int) × Unit) × (Unit × (Unit × Unit)))) =>
    (Option.bind (c_ref6_AppendUint256 (y_1.1.1, (m_.2.2.1, ()))) (fun (y_2 : (((List Int) × Unit) × (Unit × (Unit × Unit)))) =>
     (some ((y_2.1.1, ()), ((), ())))))))))

noncomputable def sol_ref24_Encode : F_ref24_Encode := fun x => T_ref24_Encode bigLoop sol_ref6_AppendUint64 sol_ref6_AppendUint256 x.1

/-- pontage/pontageref24.Leaf -/
abbrev s_ref24_Leaf : Sig := ⟨[(.ro true (.pair (.int .u64) (.pair (.int .u64) (.pair (.arr 4 (.int .u64)) .unit))))], [(.ro true (.arr 32 (.int .u8)))]⟩
abbrev F_ref24_Leaf := ((Int × (Int × ((List Int) × Unit))) × Unit) → Option (((List Int) × Unit) × (Unit × Unit))

noncomputable def T_ref24_Leaf (L : LoopD) (c_ref24_Encode : F_ref24_Encode) (c_ref7_Leaf : F_ref7_Leaf) (m_ : (Int × (Int × ((List Int) × Unit)))) : Option (((List Int) × Unit) × (Unit × Unit)) :=
  (Option.bind (c_ref24_Encode (m_, ())) (fun (y_0 : (((List Int) × Unit) × (Unit × Unit))) =>
   (Option.bind (c_ref7_Leaf (y_0.1.1, ())) (fun (y_1 : (((List Int) × Unit) × (Unit × Unit))) =>
    (some ((y_1.1.1, ()), ((), ())))))))

noncomputable def sol_ref24_Leaf : F_ref24_Leaf := fun x => T_ref24_Leaf bigLoop sol_ref24_Encode sol_ref7_Leaf x.1

/-- pontage/pontageref24.Leaves -/
abbrev s_ref24_Leaves : Sig := ⟨[(.ro false (.slice (.pair (.int .u64) (.pair (.int .u64) (.pair (.arr 4 (.int .u64)) .unit))))), (.ro true (.int .i64))], [(.own true (.arr 32 (.int .u8)))]⟩
abbrev F_ref24_Leaves := ((List (Int × (Int × ((List Int) × Unit)))) × (Int × Unit)) → Option (((List (List Int)) × Unit) × (Unit × (Unit × Unit)))

noncomputable def T_ref24_Leaves_loop0 (c_ref24_Leaf : F_ref24_Leaf) (again_0 : ((List (Int × (Int × ((List Int) × Unit)))) × (Int × ((List (List Int)) × (Int × Unit)))) → Option (((List (List Int)) × Unit) × (Unit × (Unit × Unit)))) (l_1 : (List (Int × (Int × ((List Int) × Unit))))) (n_2 : Int) (out_3 : (List (List Int))) (i_4 : Int) : Option (((List (List Int)) × Unit) × (Unit × (Unit × Unit))) :=
  (brR (decide (i_4 < n_2))
   (brR (Go.Pon.inR i_4 (List.length l_1))
    (Option.bind (c_ref24_Leaf ((List.getD l_1 (Int.toNat i_4) ((0 : Int), ((0 : Int), ([(0 : Int), (0 : Int), (0 : Int), (0 : Int)], ())))), ())) (fun (y_5 : (((List Int) × Unit) × (Unit × Unit))) =>
     (brR (Go.Pon.roomy ((List.length out_3) + (1 : Nat)) (Go.Pon.Ty.arr 32 (Go.Pon.Ty.int Go.IntKind.u8)))
      (again_0 (l_1, (n_2, ((List.append out_3 [y_5.1.1]), ((Go.IntKind.wrap (Go.IntKind.i64) (i_4 + (1 : Int))), ())))))
      none)))
    none)
   (some ((out_3, ()), ((), ((), ())))))

noncomputable def T_ref24_Leaves (L : LoopD) (c_ref24_Leaf : F_ref24_Leaf) (l_ : (List (Int × (Int × ((List Int) × Unit))))) (n_ : Int) : Option (((List (List Int)) × Unit) × (Unit × (Unit × Unit))) :=
  (L _ _ (fun again x => T_ref24_Leaves_loop0 c_ref24_Leaf again x.1 x.2.1 x.2.2.1 x.2.2.2.1) (l_, (n_, (([] : List (List Int)), ((0 : Int), ())))))

noncomputable def sol_ref24_Leaves : F_ref24_Leaves := fun x => T_ref24_Leaves bigLoop sol_ref24_Leaf x.1 x.2.1

/-- pontage/pontageref24.Root -/
abbrev s_ref24_Root : Sig := ⟨[(.ro false (.slice (.pair (.int .u64) (.pair (.int .u64) (.pair (.arr 4 (.int .u64)) .unit))))), (.ro true (.int .i64))], [(.ro true (.arr 32 (.int .u8))), (.ro true .bool)]⟩
abbrev F_ref24_Root := ((List (Int × (Int × ((List Int) × Unit)))) × (Int × Unit)) → Option (((List Int) × (Bool × Unit)) × (Unit × (Unit × Unit)))

noncomputable def T_ref24_Root (L : LoopD) (c_ref24_Leaves : F_ref24_Leaves) (c_ref8_RootOf : F_ref8_RootOf) (l_ : (List (Int × (Int × ((List Int) × Unit))))) (n_ : Int) : Option (((List Int) × (Bool × Unit)) × (Unit × (Unit × Unit))) :=
  (brR (decide (n_ < (0 : Int)))
   (some (((List.replicate (32 : Nat) (0 : Int)), (false, ())), ((), ((), ()))))
   (brR (decide (n_ > (((List.length l_) : Nat) : Int)))
    (some (((List.replicate (32 : Nat) (0 : Int)), (false, ())), ((), ((), ()))))
    (Option.bind (c_ref24_Leaves (l_, (n_, ()))) (fun (y_0 : (((List (List Int)) × Unit) × (Unit × (Unit × Unit)))) =>
     (Option.bind (c_ref8_RootOf (y_0.1.1, ())) (fun (y_1 : (((List Int) × Unit) × (Unit × Unit))) =>
      (some ((y_1.1.1, (true, ())), ((), ((), ()))))))))))

noncomputable def sol_ref24_Root : F_ref24_Root := fun x => T_ref24_Root bigLoop sol_ref24_Leaves sol_ref8_RootOf x.1 x.2.1

/-- pontage/pontageref24.Proof -/
abbrev s_ref24_Proof : Sig := ⟨[(.ro false (.slice (.pair (.int .u64) (.pair (.int .u64) (.pair (.arr 4 (.int .u64)) .unit))))), (.ro true (.int .i64)), (.ro true (.int .i64))], [(.own true (.arr 32 (.int .u8))), (.ro true .bool)]⟩
abbrev F_ref24_Proof := ((List (Int × (Int × ((List Int) × Unit)))) × (Int × (Int × Unit))) → Option (((List (List Int)) × (Bool × Unit)) × (Unit × (Unit × (Unit × Unit))))

noncomputable def T_ref24_Proof (L : LoopD) (c_ref24_Leaves : F_ref24_Leaves) (c_ref8_Proof : F_ref8_Proof) (l_ : (List (Int × (Int × ((List Int) × Unit))))) (i_ : Int) (n_ : Int) : Option (((List (List Int)) × (Bool × Unit)) × (Unit × (Unit × (Unit × Unit)))) :=
  (brR (decide (i_ < (0 : Int)))
   (some ((([] : List (List Int)), (false, ())), ((), ((), ((), ())))))
   (brR (decide (i_ ≥ n_))
    (some ((([] : List (List Int)), (false, ())), ((), ((), ((), ())))))
    (brR (decide (n_ > (((List.length l_) : Nat) : Int)))
     (some ((([] : List (List Int)), (false, ())), ((), ((), ((), ())))))
     (Option.bind (c_ref24_Leaves (l_, (n_, ()))) (fun (y_0 : (((List (List Int)) × Unit) × (Unit × (Unit × Unit)))) =>
      (Option.bind (c_ref8_Proof (y_0.1.1, (i_, ()))) (fun (y_1 : (((List (List Int)) × Unit) × (Unit × (Unit × Unit)))) =>
       (some ((y_1.1.1, (true, ())), ((), ((), ((), ()))))))))))))

noncomputable def sol_ref24_Proof : F_ref24_Proof := fun x => T_ref24_Proof bigLoop sol_ref24_Leaves sol_ref8_Proof x.1 x.2.1 x.2.2.1

/-- pontage/pontageref24.ValidMessages -/
abbrev s_ref24_ValidMessages : Sig := ⟨[(.ro false (.slice (.pair (.int .u64) (.pair (.int .u64) (.pair (.arr 4 (.int .u64)) .unit)))))], [(.ro true .bool)]⟩
abbrev F_ref24_ValidMessages := ((List (Int × (Int × ((List Int) × Unit)))) × Unit) → Option ((Bool × Unit) × (Unit × Unit))

noncomputable def T_ref24_ValidMessages_loop0 (again_0 : ((List (Int × (Int × ((List Int) × Unit)))) × (Int × Unit)) → Option ((Bool × Unit) × (Unit × Unit))) (l_1 : (List (Int × (Int × ((List Int) × Unit))))) (i_2 : Int) : Option ((Bool × Unit) × (Unit × Unit)) :=
  (letR (List.length l_1) fun (v_3 : Nat) =>
  (brR (decide (i_2 < ((v_3 : Nat) : Int)))
   (brR (Go.Pon.inR i_2 v_3)
    (brR (!(decide ((List.getD l_1 (Int.toNat i_2) (Go.Pon.Ty.zero ((Go.Pon.Ty.int Go.IntKind.u64).pair
  ((Go.Pon.Ty.int Go.IntKind.u64).pair ((Go.Pon.Ty.arr 4 (Go.Pon.Ty.int Go.IntKind.u64)).pair Go.Pon.Ty.unit))))).1 = (Go.IntKind.wrap (Go.IntKind.u64) i_2))))
     (some ((false, ()), ((), ())))
     (brR (Go.Pon.inR i_2 v_3)
      (brR (decide ((List.getD l_1 (Int.toNat i_2) (Go.Pon.Ty.zero ((Go.Pon.Ty.int Go.IntKind.u64).pair
  ((Go.Pon.Ty.int Go.IntKind.u64).pair ((Go.Pon.Ty.arr 4 (Go.Pon.Ty.int Go.IntKind.u64)).pair Go.Pon.Ty.unit))))).2.1 = (0 : Int)))
       (some ((false, ()), ((), ())))
       (brR (Go.Pon.inR i_2 v_3)
        (brR (Go.Pon.eqD (Go.Pon.Ty.arr 4 (Go.Pon.Ty.int Go.IntKind.u64)) (List.getD l_1 (Int.toNat i_2) (Go.Pon.Ty.zero ((Go.Pon.Ty.int Go.IntKind.u64).pair
  ((Go.Pon.Ty.int Go.IntKind.u64).pair ((Go.Pon.Ty.arr 4 (Go.Pon.Ty.int Go.IntKind.u64)).pair Go.Pon.Ty.unit))))).2.2.1 [(0 : Int), (0 : Int), (0 : Int), (0 : Int)])
         (some ((false, ()), ((), ())))
         (again_0 (l_1, ((Go.IntKind.wrap (Go.IntKind.i64) (i_2 + (1 : Int))), ()))))
        none))
      none))
    none)
   (some ((true, ()), ((), ())))))

noncomputable def T_ref24_ValidMessages (L : LoopD) (l_ : (List (Int × (Int × ((List Int) × Unit))))) : Option ((Bool × Unit) × (Unit × Unit)) :=
  (L _ _ (fun again x => T_ref24_ValidMessages_loop0 again x.1 x.2.1) (l_, ((0 : Int), ())))

noncomputable def sol_ref24_ValidMessages : F_ref24_ValidMessages := fun x => T_ref24_ValidMessages bigLoop x.1

end Go.Pon
