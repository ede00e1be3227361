/-
  Part of a proof: general lemmas, merged by a program of this work.
-/
import Derived.Test.YtbbebhmmlfjchaaF3
/-
  What the functions of package int256 compute (printed by a program of this work).
-/
set_option autoImplicit false
set_option linter.unusedVariables false
set_option maxRecDepth 100000
namespace Go.Pon
open Go

/-- pontage/int256.Valid -/
abbrev s_int256_Valid : Sig := ⟨[(.ro true (.pair .bool (.pair (.arr 4 (.int .u64)) .unit)))], [(.ro true .bool)]⟩
abbrev F_int256_Valid := ((Bool × ((List Int) × Unit)) × Unit) → Option ((Bool × Unit) × (Unit × Unit))

noncomputable def T_int256_Valid (L : LoopD) (a_ : (Bool × ((List Int) × Unit))) : Option ((Bool × Unit) × (Unit × Unit)) :=
  (brR (!a_.1)
   (some ((true, ()), ((), ())))
   (some (((!(Go.Pon.eqD (Go.Pon.Ty.arr 4 (Go.Pon.Ty.int Go.IntKind.u64)) a_.2.1 [(0 : Int), (0 : Int), (0 : Int), (0 : Int)])), ()), ((), ()))))

noncomputable def sol_int256_Valid : F_int256_Valid := fun x => T_int256_Valid bigLoop x.1

end Go.Pon
/-
  What the functions of package law0 compute (printed by a program of this work).
-/
set_option autoImplicit false
set_option linter.unusedVariables false
set_option maxRecDepth 100000
namespace Go.Pon
open Go

/-- pontage/pontagelaw0.Mod -/
abbrev s_law0_Mod : Sig := ⟨[(.ro true (.int .i64)), (.ro true (.int .i64))], [(.ro true (.int .i64))]⟩
abbrev F_law0_Mod := (Int × (Int × Unit)) → Option ((Int × Unit) × (Unit × (Unit × Unit)))

noncomputable def T_law0_Mod (L : LoopD) (x_ : Int) (n_ : Int) : Option ((Int × Unit) × (Unit × (Unit × Unit))) :=
  (brR (decide ((Go.IntKind.wrap (Go.IntKind.u64) n_) ≠ (0 : Int)))
   (some (((Go.IntKind.wrap (Go.IntKind.i64) (Int.tmod (Go.IntKind.wrap (Go.IntKind.u64) x_) (Go.IntKind.wrap (Go.IntKind.u64) n_))), ()), ((), ((), ()))))
   none)

noncomputable def sol_law0_Mod : F_law0_Mod := fun x => T_law0_Mod bigLoop x.1 x.2.1

/-- pontage/pontagelaw0.EdgeUint256 -/
abbrev s_law0_EdgeUint256 : Sig := ⟨[(.ro true (.int .u64)), (.ro true (.int .u64)), (.ro true (.int .i64))], [(.ro true (.arr 4 (.int .u64)))]⟩
abbrev F_law0_EdgeUint256 := (Int × (Int × (Int × Unit))) → Option (((List Int) × Unit) × (Unit × (Unit × (Unit × Unit))))

noncomputable def T_law0_EdgeUint256 (L : LoopD) (c_law0_Mod : F_law0_Mod) (a_ : Int) (b_ : Int) (shape_ : Int) : Option (((List Int) × Unit) × (Unit × (Unit × (Unit × Unit)))) :=
  (Option.bind (c_law0_Mod (shape_, ((9 : Int), ()))) (fun (y_0 : ((Int × Unit) × (Unit × (Unit × Unit)))) =>
   (brR (decide (y_0.1.1 = (0 : Int)))
    (some (([a_, (0 : Int), (0 : Int), (0 : Int)], ()), ((), ((), ((), ())))))
    (brR (decide (y_0.1.1 = (1 : Int)))
     (some (([a_, b_, (0 : Int), (0 : Int)], ()), ((), ((), ((), ())))))
     (brR (decide (y_0.1.1 = (2 : Int)))
      (some (([a_, b_, a_, b_], ()), ((), ((), ((), ())))))
      (brR (decide (y_0.1.1 = (3 : Int)))
       (some (([(Go.IntKind.wrap (Go.IntKind.u64) ((18446744073709551615 : Int) - (Int.tmod a_ (4 : Int)))), (18446744073709551615 : Int), (18446744073709551615 : Int), (18446744073709551615 : Int)], ()), ((), ((), ((), ())))))
       (brR (decide (y_0.1.1 = (4 : Int)))
        (some (([(Int.tmod a_ (4 : Int)), (0 : Int), (Go.IntKind.wrap (Go.IntKind.u64) ((1 : Int) + (Int.tmod b_ (4 : Int)))), (0 : Int)], ()), ((), ((), ((), ())))))
        (brR (decide (y_0.1.1 = (5 : Int)))
         (some (([(18446744073709551615 : Int), (18446744073709551615 : Int), (0 : Int), (0 : Int)], ()), ((), ((), ((), ())))))
         (brR (decide (y_0.1.1 = (6 : Int)))
          (brR (decide ((0 : Int) ≤ (Int.tmod b_ (64 : Int))))
           (some (([(0 : Int), (0 : Int), (0 : Int), (Go.IntKind.wrap (Go.IntKind.u64) ((1 : Int) * ((2 : Int) ^ (min (Int.toNat (Int.tmod b_ (64 : Int))) (64 : Nat)))))], ()), ((), ((), ((), ())))))
           none)
          (brR (decide (y_0.1.1 = (7 : Int)))
           (some (([(Int.tmod a_ (16 : Int)), (0 : Int), (0 : Int), (0 : Int)], ()), ((), ((), ((), ())))))
           (some (([b_, a_, b_, (0 : Int)], ()), ((), ((), ((), ())))))))))))))))

noncomputable def sol_law0_EdgeUint256 : F_law0_EdgeUint256 := fun x => T_law0_EdgeUint256 bigLoop sol_law0_Mod x.1 x.2.1 x.2.2.1

/-- pontage/pontagelaw0.EqualBytes -/
abbrev s_law0_EqualBytes : Sig := ⟨[(.ro false (.slice (.int .u8))), (.ro false (.slice (.int .u8)))], [(.ro true .bool)]⟩
abbrev F_law0_EqualBytes := ((List Int) × ((List Int) × Unit)) → Option ((Bool × Unit) × (Unit × (Unit × Unit)))

noncomputable def T_law0_EqualBytes (L : LoopD) (a_ : (List Int)) (b_ : (List Int)) : Option ((Bool × Unit) × (Unit × (Unit × Unit))) :=
  (some (((Go.Pon.eqD (Go.Pon.Ty.str) a_ b_), ()), ((), ((), ()))))

noncomputable def sol_law0_EqualBytes : F_law0_EqualBytes := fun x => T_law0_EqualBytes bigLoop x.1 x.2.1

end Go.Pon
/-
  What the functions of package ref6 compute (printed by a program of this work).
-/
set_option autoImplicit false
set_option linter.unusedVariables false
set_option maxRecDepth 100000
namespace Go.Pon
open Go

/-- pontage/pontageref6.digits -/
abbrev s_ref6_digits : Sig := ⟨[(.ro true (.arr 4 (.int .u64)))], [(.own true (.int .u8))]⟩
abbrev F_ref6_digits := ((List Int) × Unit) → Option (((List Int) × Unit) × (Unit × Unit))

noncomputable def T_ref6_digits_loop0 (again_0 : ((List Int) × ((List Int) × (Int × Unit))) → Option (((List Int) × Unit) × (Unit × Unit))) (n_1 : (List Int)) (out_2 : (List Int)) (i_3 : Int) : Option (((List Int) × Unit) × (Unit × Unit)) :=
  (letR (Go.IntKind.wrap (Go.IntKind.u64) (Go.IntKind.wrap (Go.IntKind.i64) ((8 : Int) * (Int.tmod i_3 (8 : Int))))) fun (v_4 : Int) =>
  (letR (Go.IntKind.wrap (Go.IntKind.u8) (Int.fdiv (List.getD n_1 (Int.toNat (Go.IntKind.wrap (Go.IntKind.i64) (Int.tdiv i_3 (8 : Int)))) (0 : Int)) ((2 : Int) ^ (min (Int.toNat v_4) (64 : Nat))))) fun (v_5 : Int) =>
  (brR (decide (i_3 ≥ (0 : Int)))
   (brR (Go.Pon.inR (Go.IntKind.wrap (Go.IntKind.i64) (Int.tdiv i_3 (8 : Int))) (4 : Nat))
    (brR (decide ((0 : Int) ≤ v_4))
     (brR (decide ((((List.length out_2) : Nat) : Int) > (0 : Int)))
      (brR (Go.Pon.roomy ((List.length out_2) + (1 : Nat)) (Go.Pon.Ty.int Go.IntKind.u8))
       (again_0 (n_1, ((List.append out_2 [v_5]), ((Go.IntKind.wrap (Go.IntKind.i64) (i_3 - (1 : Int))), ()))))
       none)
      (brR (decide (v_5 > (0 : Int)))
       (brR (Go.Pon.roomy ((List.length out_2) + (1 : Nat)) (Go.Pon.Ty.int Go.IntKind.u8))
        (again_0 (n_1, ((List.append out_2 [v_5]), ((Go.IntKind.wrap (Go.IntKind.i64) (i_3 - (1 : Int))), ()))))
        none)
       (again_0 (n_1, (out_2, ((Go.IntKind.wrap (Go.IntKind.i64) (i_3 - (1 : Int))), ()))))))
     none)
    none)
   (some ((out_2, ()), ((), ()))))))

noncomputable def T_ref6_digits (L : LoopD) (n_ : (List Int)) : Option (((List Int) × Unit) × (Unit × Unit)) :=
  (L _ _ (fun again x => T_ref6_digits_loop0 again x.1 x.2.1 x.2.2.1) (n_, (([] : List Int), ((31 : Int), ()))))

noncomputable def sol_ref6_digits : F_ref6_digits := fun x => T_ref6_digits bigLoop x.1

/-- pontage/pontageref6.AppendUint256 -/
abbrev s_ref6_AppendUint256 : Sig := ⟨[(.ro false (.slice (.int .u8))), (.ro true (.arr 4 (.int .u64)))], [(.own true (.int .u8))]⟩
abbrev F_ref6_AppendUint256 := ((List Int) × ((List Int) × Unit)) → Option (((List Int) × Unit) × (Unit × (Unit × Unit)))

noncomputable def T_ref6_AppendUint256 (L : LoopD) (c_ref6_digits : F_ref6_digits) (b_ : (List Int)) (n_ : (List Int)) : Option (((List Int) × Unit) × (Unit × (Unit × Unit))) :=
  (Option.bind (c_ref6_digits (n_, ())) (fun (y_0 : (((List Int) × Unit) × (Unit × Unit))) =>
   (letR (List.length y_0.1.1) fun (v_1 : Nat) =>
   (letR (List.append b_ [(Go.IntKind.wrap (Go.IntKind.u8) ((v_1 : Nat) : Int))]) fun (v_2 : (List Int)) =>
   (brR (Go.Pon.roomy ((0 : Nat) + (List.length b_)) (Go.Pon.Ty.int Go.IntKind.u8))
    (brR (Go.Pon.roomy ((List.length b_) + (1 : Nat)) (Go.Pon.Ty.int Go.IntKind.u8))
     (brR (Go.Pon.roomy ((List.length v_2) + v_1) (Go.Pon.Ty.int Go.IntKind.u8))
      (some (((List.append v_2 y_0.1.1), ()), ((), ((), ()))))
      none)
     none)
    none)))))

noncomputable def sol_ref6_AppendUint256 : F_ref6_AppendUint256 := fun x => T_ref6_AppendUint256 bigLoop sol_ref6_digits x.1 x.2.1

/-- pontage/pontageref6.AppendUint64 -/
abbrev s_ref6_AppendUint64 : Sig := ⟨[(.ro false (.slice (.int .u8))), (.ro true (.int .u64))], [(.own true (.int .u8))]⟩
abbrev F_ref6_AppendUint64 := ((List Int) × (Int × Unit)) → Option (((List Int) × Unit) × (Unit × (Unit × Unit)))

noncomputable def T_ref6_AppendUint64 (L : LoopD) (c_ref6_AppendUint256 : F_ref6_AppendUint256) (b_ : (List Int)) (n_ : Int) : Option (((List Int) × Unit) × (Unit × (Unit × Unit))) :=
  (Option.bind (c_ref6_AppendUint256 (b_, ([n_, (0 : Int), (0 : Int), (0 : Int)], ()))) (fun (y_0 : (((List Int) × Unit) × (Unit × (Unit × Unit)))) =>
   (some ((y_0.1.1, ()), ((), ((), ()))))))

noncomputable def sol_ref6_AppendUint64 : F_ref6_AppendUint64 := fun x => T_ref6_AppendUint64 bigLoop sol_ref6_AppendUint256 x.1 x.2.1

/-- pontage/pontageref6.AppendBytes -/
abbrev s_ref6_AppendBytes : Sig := ⟨[(.ro false (.slice (.int .u8))), (.ro false (.slice (.int .u8)))], [(.own true (.int .u8))]⟩
abbrev F_ref6_AppendBytes := ((List Int) × ((List Int) × Unit)) → Option (((List Int) × Unit) × (Unit × (Unit × Unit)))

noncomputable def T_ref6_AppendBytes (L : LoopD) (c_ref6_AppendUint64 : F_ref6_AppendUint64) (b_ : (List Int)) (x_ : (List Int)) : Option (((List Int) × Unit) × (Unit × (Unit × Unit))) :=
  (Option.bind (c_ref6_AppendUint64 (b_, ((Go.IntKind.wrap (Go.IntKind.u64) (((List.length x_) : Nat) : Int)), ()))) (fun (y_0 : (((List Int) × Unit) × (Unit × (Unit × Unit)))) =>
   (brR (Go.Pon.roomy ((List.length y_0.1.1) + (List.length x_)) (Go.Pon.Ty.int Go.IntKind.u8))
    (some (((List.append y_0.1.1 x_), ()), ((), ((), ()))))
    none)))

noncomputable def sol_ref6_AppendBytes : F_ref6_AppendBytes := fun x => T_ref6_AppendBytes bigLoop sol_ref6_AppendUint64 x.1 x.2.1

/-- pontage/pontageref6.AppendInt256 -/
abbrev s_ref6_AppendInt256 : Sig := ⟨[(.ro false (.slice (.int .u8))), (.ro true (.pair .bool (.pair (.arr 4 (.int .u64)) .unit)))], [(.own true (.int .u8))]⟩
abbrev F_ref6_AppendInt256 := ((List Int) × ((Bool × ((List Int) × Unit)) × Unit)) → Option (((List Int) × Unit) × (Unit × (Unit × Unit)))

noncomputable def T_ref6_AppendInt256 (L : LoopD) (c_ref6_AppendUint256 : F_ref6_AppendUint256) (b_ : (List Int)) (a_ : (Bool × ((List Int) × Unit))) : Option (((List Int) × Unit) × (Unit × (Unit × Unit))) :=
  (brR a_.1
   (brR (Go.Pon.eqD (Go.Pon.Ty.arr 4 (Go.Pon.Ty.int Go.IntKind.u64)) a_.2.1 [(0 : Int), (0 : Int), (0 : Int), (0 : Int)])
    (brR (Go.Pon.roomy ((0 : Nat) + (List.length b_)) (Go.Pon.Ty.int Go.IntKind.u8))
     (some ((b_, ()), ((), ((), ()))))
     none)
    (brR a_.1
     (brR (Go.Pon.roomy ((0 : Nat) + (List.length b_)) (Go.Pon.Ty.int Go.IntKind.u8))
      (brR (Go.Pon.roomy ((List.length b_) + (1 : Nat)) (Go.Pon.Ty.int Go.IntKind.u8))
       (Option.bind (c_ref6_AppendUint256 ((List.append b_ [(1 : Int)]), (a_.2.1, ()))) (fun (y_0 : (((List Int) × Unit) × (Unit × (Unit × Unit)))) =>
        (some ((y_0.1.1, ()), ((), ((), ()))))))
       none)
      none)
     (brR (Go.Pon.roomy ((0 : Nat) + (List.length b_)) (Go.Pon.Ty.int Go.IntKind.u8))
      (brR (Go.Pon.roomy ((List.length b_) + (1 : Nat)) (Go.Pon.Ty.int Go.IntKind.u8))
       (Option.bind (c_ref6_AppendUint256 ((List.append b_ [(0 : Int)]), (a_.2.1, ()))) (fun (y_1 : (((List Int) × Unit) × (Unit × (Unit × Unit)))) =>
        (some ((y_1.1.1, ()), ((), ((), ()))))))
       none)
      none)))
   (brR a_.1
    (brR (Go.Pon.roomy ((0 : Nat) + (List.length b_)) (Go.Pon.Ty.int Go.IntKind.u8))
     (brR (Go.Pon.roomy ((List.length b_) + (1 : Nat)) (Go.Pon.Ty.int Go.IntKind.u8))
      (Option.bind (c_ref6_AppendUint256 ((List.append b_ [(1 : Int)]), (a_.2.1, ()))) (fun (y_2 : (((List Int) × Unit) × (Unit × (Unit × Unit)))) =>
       (some ((y_2.1.1, ()), ((), ((), ()))))))
      none)
     none)
    (brR (Go.Pon.roomy ((0 : Nat) + (List.length b_)) (Go.Pon.Ty.int Go.IntKind.u8))
     (brR (Go.Pon.roomy ((List.length b_) + (1 : Nat)) (Go.Pon.Ty.int Go.IntKind.u8))
      (Option.bind (c_ref6_AppendUint256 ((List.append b_ [(0 : Int)]), (a_.2.1, ()))) (fun (y_3 : (((List Int) × Unit) × (Unit × (Unit × Unit)))) =>
       (some ((y_3.1.1, ()), ((), ((), ()))))))
      none)
     none)))

noncomputable def sol_ref6_AppendInt256 : F_ref6_AppendInt256 := fun x => T_ref6_AppendInt256 bigLoop sol_ref6_AppendUint256 x.1 x.2.1

/-- pontage/pontageref6.take -/
abbrev s_ref6_take : Sig := ⟨[(.ro false (.slice (.int .u8))), (.ro true (.int .i64)), (.ro true (.int .i64))], [(.ro true (.arr 4 (.int .u64))), (.ro true (.int .i64)), (.ro true (.int .i64))]⟩
abbrev F_ref6_take := ((List Int) × (Int × (Int × Unit))) → Option (((List Int) × (Int × (Int × Unit))) × (Unit × (Unit × (Unit × Unit))))

noncomputable def T_ref6_take_loop0 (again_2 : ((List Int) × (Int × ((List Int) × ((List Int) × (Int × (Int × Unit)))))) → Option (((List Int) × (Int × (Int × Unit))) × (Unit × (Unit × (Unit × Unit))))) (b_3 : (List Int)) (at_4 : Int) (t6_5 : (List Int)) (n_6 : (List Int)) (k_7 : Int) (i_8 : Int) : Option (((List Int) × (Int × (Int × Unit))) × (Unit × (Unit × (Unit × Unit)))) :=
  (letR (Go.IntKind.wrap (Go.IntKind.i64) (at_4 + (1 : Int))) fun (v_9 : Int) =>
  (letR (Go.IntKind.wrap (Go.IntKind.i64) ((Go.IntKind.wrap (Go.IntKind.i64) (k_7 - (1 : Int))) - i_8)) fun (v_10 : Int) =>
  (letR (Go.IntKind.wrap (Go.IntKind.i64) (v_9 + i_8)) fun (v_11 : Int) =>
  (letR (Go.IntKind.wrap (Go.IntKind.i64) (Int.tdiv v_10 (8 : Int))) fun (v_12 : Int) =>
  (letR (Go.IntKind.wrap (Go.IntKind.u64) (Go.IntKind.wrap (Go.IntKind.i64) ((8 : Int) * (Int.tmod v_10 (8 : Int))))) fun (v_13 : Int) =>
  (brR (decide (i_8 < k_7))
   (brR (Go.Pon.inR v_12 (4 : Nat))
    (brR (Go.Pon.inR v_11 (List.length b_3))
     (brR (decide ((0 : Int) ≤ v_13))
      (brR (Go.Pon.inR v_12 (4 : Nat))
       (again_2 (b_3, (at_4, (t6_5, ((List.set n_6 (Int.toNat v_12) (Go.IntKind.wrap (Go.IntKind.u64) ((List.getD n_6 (Int.toNat v_12) (0 : Int)) + (Go.IntKind.wrap (Go.IntKind.u64) ((Go.IntKind.wrap (Go.IntKind.u64) (List.getD b_3 (Int.toNat v_11) (0 : Int))) * ((2 : Int) ^ (min (Int.toNat v_13) (64 : Nat)))))))), (k_7, ((Go.IntKind.wrap (Go.IntKind.i64) (i_8 + (1 : Int))), ())))))))
       none)
      none)
     none)
    none)
   (some ((n_6, ((Go.IntKind.wrap (Go.IntKind.i64) (v_9 + k_7)), ((0 : Int), ()))), ((), ((), ((), ())))))))))))

noncomputable def T_ref6_take (L : LoopD) (b_ : (List Int)) (at_ : Int) (most_ : Int) : Option (((List Int) × (Int × (Int × Unit))) × (Unit × (Unit × (Unit × Unit)))) :=
  (letR (Go.IntKind.wrap (Go.IntKind.i64) (at_ + (1 : Int))) fun (v_0 : Int) =>
  (letR (Go.IntKind.wrap (Go.IntKind.i64) ((Go.IntKind.wrap (Go.IntKind.i64) ((((List.length b_) : Nat) : Int) - at_)) - (1 : Int))) fun (v_1 : Int) =>
  (brR (decide (at_ < (0 : Int)))
   (some (([(0 : Int), (0 : Int), (0 : Int), (0 : Int)], ((0 : Int), ((2 : Int), ()))), ((), ((), ((), ())))))
   (brR (decide (at_ > (((List.length b_) : Nat) : Int)))
    (some (([(0 : Int), (0 : Int), (0 : Int), (0 : Int)], ((0 : Int), ((2 : Int), ()))), ((), ((), ((), ())))))
    (brR (decide (at_ = (((List.length b_) : Nat) : Int)))
     (some (([(0 : Int), (0 : Int), (0 : Int), (0 : Int)], ((0 : Int), ((3 : Int), ()))), ((), ((), ((), ())))))
     (brR (Go.Pon.inR at_ (List.length b_))
      (brR (decide ((Go.IntKind.wrap (Go.IntKind.i64) (List.getD b_ (Int.toNat at_) (0 : Int))) > most_))
       (some (([(0 : Int), (0 : Int), (0 : Int), (0 : Int)], ((0 : Int), ((3 : Int), ()))), ((), ((), ((), ())))))
       (brR (Go.Pon.inR at_ (List.length b_))
        (brR (decide ((Go.IntKind.wrap (Go.IntKind.i64) (List.getD b_ (Int.toNat at_) (0 : Int))) > v_1))
         (some (([(0 : Int), (0 : Int), (0 : Int), (0 : Int)], ((0 : Int), ((3 : Int), ()))), ((), ((), ((), ())))))
         (brR (Go.Pon.inR at_ (List.length b_))
          (brR (decide ((List.getD b_ (Int.toNat at_) (0 : Int)) > (0 : Int)))
           (brR (Go.Pon.inR v_0 (List.length b_))
            (brR (decide ((List.getD b_ (Int.toNat v_0) (0 : Int)) = (0 : Int)))
             (some (([(0 : Int), (0 : Int), (0 : Int), (0 : Int)], ((0 : Int), ((3 : Int), ()))), ((), ((), ((), ())))))
             (brR (Go.Pon.inR at_ (List.length b_))
              (L _ _ (fun again x => T_ref6_take_loop0 again x.1 x.2.1 x.2.2.1 x.2.2.2.1 x.2.2.2.2.1 x.2.2.2.2.2.1) (b_, (at_, ([(0 : Int), (0 : Int), (0 : Int), (0 : Int)], ([(0 : Int), (0 : Int), (0 : Int), (0 : Int)], ((Go.IntKind.wrap (Go.IntKind.i64) (List.getD b_ (Int.toNat at_) (0 : Int))), ((0 : Int), ())))))))
              none))
            none)
           (brR (Go.Pon.inR at_ (List.length b_))
            (L _ _ (fun again x => T_ref6_take_loop0 again x.1 x.2.1 x.2.2.1 x.2.2.2.1 x.2.2.2.2.1 x.2.2.2.2.2.1) (b_, (at_, ([(0 : Int), (0 : Int), (0 : Int), (0 : Int)], ([(0 : Int), (0 : Int), (0 : Int), (0 : Int)], ((Go.IntKind.wrap (Go.IntKind.i64) (List.getD b_ (Int.toNat at_) (0 : Int))), ((0 : Int), ())))))))
            none))
          none))
        none))
      none))))))

noncomputable def sol_ref6_take : F_ref6_take := fun x => T_ref6_take bigLoop x.1 x.2.1 x.2.2.1

/-- pontage/pontageref6.ReadUint256 -/
abbrev s_ref6_ReadUint256 : Sig := ⟨[(.ro false (.slice (.int .u8))), (.ro true (.int .i64))], [(.ro true (.arr 4 (.int .u64))), (.ro true (.int .i64)), (.ro true (.int .i64))]⟩
abbrev F_ref6_ReadUint256 := ((List Int) × (Int × Unit)) → Option (((List Int) × (Int × (Int × Unit))) × (Unit × (Unit × Unit)))

noncomputable def T_ref6_ReadUint256 (L : LoopD) (c_ref6_take : F_ref6_take) (b_ : (List Int)) (at_ : Int) : Option (((List Int) × (Int × (Int × Unit))) × (Unit × (Unit × Unit))) :=
  (Option.bind (c_ref6_take (b_, (at_, ((32 : Int), ())))) (fun (y_0 : (((List Int) × (Int × (Int × Unit))) × (Unit × (Unit × (Unit × Unit))))) =>
   (some ((y_0.1.1, (y_0.1.2.1, (y_0.1.2.2.1, ()))), ((), ((), ()))))))

noncomputable def sol_ref6_ReadUint256 : F_ref6_ReadUint256 := fun x => T_ref6_ReadUint256 bigLoop sol_ref6_take x.1 x.2.1

/-- pontage/pontageref6.ReadUint64 -/
abbrev s_ref6_ReadUint64 : Sig := ⟨[(.ro false (.slice (.int .u8))), (.ro true (.int .i64))], [(.ro true (.int .u64)), (.ro true (.int .i64)), (.ro true (.int .i64))]⟩
abbrev F_ref6_ReadUint64 := ((List Int) × (Int × Unit)) → Option ((Int × (Int × (Int × Unit))) × (Unit × (Unit × Unit)))

noncomputable def T_ref6_ReadUint64 (L : LoopD) (c_ref6_take : F_ref6_take) (b_ : (List Int)) (at_ : Int) : Option ((Int × (Int × (Int × Unit))) × (Unit × (Unit × Unit))) :=
  (Option.bind (c_ref6_take (b_, (at_, ((8 : Int), ())))) (fun (y_0 : (((List Int) × (Int × (Int × Unit))) × (Unit × (Unit × (Unit × Unit))))) =>
   (some (((List.getD y_0.1.1 (0 : Nat) (0 : Int)), (y_0.1.2.1, (y_0.1.2.2.1, ()))), ((), ((), ()))))))

noncomputable def sol_ref6_ReadUint64 : F_ref6_ReadUint64 := fun x => T_ref6_ReadUint64 bigLoop sol_ref6_take x.1 x.2.1

/-- pontage/pontageref6.ReadBytes -/
abbrev s_ref6_ReadBytes : Sig := ⟨[(.ro false (.slice (.int .u8))), (.ro true (.int .i64))], [(.own true (.int .u8)), (.ro true (.int .i64)), (.ro true (.int .i64))]⟩
abbrev F_ref6_ReadBytes := ((List Int) × (Int × Unit)) → Option (((List Int) × (Int × (Int × Unit))) × (Unit × (Unit × Unit)))

noncomputable def T_ref6_ReadBytes (L : LoopD) (c_ref6_ReadUint64 : F_ref6_ReadUint64) (b_ : (List Int)) (at_ : Int) : Option (((List Int) × (Int × (Int × Unit))) × (Unit × (Unit × Unit))) :=
  (Option.bind (c_ref6_ReadUint64 (b_, (at_, ()))) (fun (y_0 : ((Int × (Int × (Int × Unit))) × (Unit × (Unit × Unit)))) =>
   (letR (Go.IntKind.wrap (Go.IntKind.i64) (y_0.1.2.1 + (Go.IntKind.wrap (Go.IntKind.i64) y_0.1.1))) fun (v_1 : Int) =>
   (letR (Go.IntKind.wrap (Go.IntKind.i64) (y_0.1.2.1 + (Go.IntKind.wrap (Go.IntKind.i64) y_0.1.1))) fun (v_2 : Int) =>
   (letR (List.take ((Int.toNat v_1) - (Int.toNat y_0.1.2.1)) (List.drop (Int.toNat y_0.1.2.1) b_)) fun (v_3 : (List Int)) =>
   (brR (!(decide (y_0.1.2.2.1 = (0 : Int))))
    (some ((([] : List Int), ((0 : Int), (y_0.1.2.2.1, ()))), ((), ((), ()))))
    (brR (decide (y_0.1.1 > (Go.IntKind.wrap (Go.IntKind.u64) (Go.IntKind.wrap (Go.IntKind.i64) ((((List.length b_) : Nat) : Int) - y_0.1.2.1)))))
     (some ((([] : List Int), ((0 : Int), ((3 : Int), ()))), ((), ((), ()))))
     (brR (((decide ((0 : Int) ≤ y_0.1.2.1)) && (decide (y_0.1.2.1 ≤ v_1))) && (decide (v_1 ≤ (((List.length b_) : Nat) : Int))))
      (brR (Go.Pon.roomy ((0 : Nat) + (List.length v_3)) (Go.Pon.Ty.int Go.IntKind.u8))
       (some ((v_3, (v_1, ((0 : Int), ()))), ((), ((), ()))))
       none)
      none))))))))

noncomputable def sol_ref6_ReadBytes : F_ref6_ReadBytes := fun x => T_ref6_ReadBytes bigLoop sol_ref6_ReadUint64 x.1 x.2.1

/-- pontage/pontageref6.ReadInt256 -/
abbrev s_ref6_ReadInt256 : Sig := ⟨[(.ro false (.slice (.int .u8))), (.ro true (.int .i64))], [(.ro true (.pair .bool (.pair (.arr 4 (.int .u64)) .unit))), (.ro true (.int .i64)), (.ro true (.int .i64))]⟩
abbrev F_ref6_ReadInt256 := ((List Int) × (Int × Unit)) → Option (((Bool × ((List Int) × Unit)) × (Int × (Int × Unit))) × (Unit × (Unit × Unit)))

noncomputable def T_ref6_ReadInt256 (L : LoopD) (c_ref6_ReadUint256 : F_ref6_ReadUint256) (b_ : (List Int)) (at_ : Int) : Option (((Bool × ((List Int) × Unit)) × (Int × (Int × Unit))) × (Unit × (Unit × Unit))) :=
  (brR (decide (at_ < (0 : Int)))
   (some (((false, ([(0 : Int), (0 : Int), (0 : Int), (0 : Int)], ())), ((0 : Int), ((2 : Int), ()))), ((), ((), ()))))
   (brR (decide (at_ > (((List.length b_) : Nat) : Int)))
    (some (((false, ([(0 : Int), (0 : Int), (0 : Int), (0 : Int)], ())), ((0 : Int), ((2 : Int), ()))), ((), ((), ()))))
    (brR (decide (at_ = (((List.length b_) : Nat) : Int)))
     (some (((false, ([(0 : Int), (0 : Int), (0 : Int), (0 : Int)], ())), ((0 : Int), ((3 : Int), ()))), ((), ((), ()))))
     (brR (Go.Pon.inR at_ (List.length b_))
      (brR (decide ((List.getD b_ (Int.toNat at_) (0 : Int)) > (1 : Int)))
       (some (((false, ([(0 : Int), (0 : Int), (0 : Int), (0 : Int)], ())), ((0 : Int), ((3 : Int), ()))), ((), ((), ()))))
       (Option.bind (c_ref6_ReadUint256 (b_, ((Go.IntKind.wrap (Go.IntKind.i64) (at_ + (1 : Int))), ()))) (fun (y_0 : (((List Int) × (Int × (Int × Unit))) × (Unit × (Unit × Unit)))) =>
        (brR (!(decide (y_0.1.2.2.1 = (0 : Int))))
         (some (((false, ([(0 : Int), (0 : Int), (0 : Int), (0 : Int)], ())), ((0 : Int), ((3 : Int), ()))), ((), ((), ()))))
         (brR (Go.Pon.inR at_ (List.length b_))
          (brR (decide ((List.getD b_ (Int.toNat at_) (0 : Int)) = (1 : Int)))
           (brR (Go.Pon.eqD (Go.Pon.Ty.arr 4 (Go.Pon.Ty.int Go.IntKind.u64)) y_0.1.1 [(0 : Int), (0 : Int), (0 : Int), (0 : Int)])
            (some (((false, ([(0 : Int), (0 : Int), (0 : Int), (0 : Int)], ())), ((0 : Int), ((3 : Int), ()))), ((), ((), ()))))
            (brR (Go.Pon.inR at_ (List.length b_))
             (some ((((decide ((List.getD b_ (Int.toNat at_) (0 : Int)) = (1 : Int))), (y_0.1.1, ())), (y_0.1.2.1, ((0 : Int), ()))), ((), ((), ()))))
             none))
           (brR (Go.Pon.inR at_ (List.length b_))
            (some ((((decide ((List.getD b_ (Int.toNat at_) (0 : Int)) = (1 : Int))), (y_0.1.1, ())), (y_0.1.2.1, ((0 : Int), ()))), ((), ((), ()))))
            none))
          none)))))
      none))))

noncomputable def sol_ref6_ReadInt256 : F_ref6_ReadInt256 := fun x => T_ref6_ReadInt256 bigLoop sol_ref6_ReadUint256 x.1 x.2.1

end Go.Pon
/-
  What the functions of package math_bits compute (printed by a program of this work).
-/
set_option autoImplicit false
set_option linter.unusedVariables false
set_option maxRecDepth 100000
namespace Go.Pon
open Go

/-- math/bits.Len64 -/
abbrev s_math_bits_Len64 : Sig := ⟨[(.ro true (.int .u64))], [(.ro true (.int .i64))]⟩
abbrev F_math_bits_Len64 := (Int × Unit) → Option ((Int × Unit) × (Unit × Unit))

noncomputable def T_math_bits_Len64 (L : LoopD) (x_ : Int) : Option ((Int × Unit) × (Unit × Unit)) :=
  (letR (Int.fdiv x_ ((2 : Int) ^ (min (32 : Nat) (64 : Nat)))) fun (v_0 : Int) =>
  (brR (decide (x_ ≥ (4294967296 : Int)))
   (brR (decide ((Int.fdiv x_ (4294967296 : Int)) ≥ (65536 : Int)))
    (brR (decide ((Int.fdiv (Int.fdiv x_ (4294967296 : Int)) (65536 : Int)) ≥ (256 : Int)))
     (brR (Go.Pon.inR (Go.IntKind.wrap (Go.IntKind.u8) (Int.fdiv (Int.fdiv (Int.fdiv x_ (4294967296 : Int)) (65536 : Int)) (256 : Int))) (256 : Nat))
      (some (((Go.IntKind.wrap (Go.IntKind.i64) ((56 : Int) + (Go.IntKind.wrap (Go.IntKind.i64) (List.getD [(0 : Int), (1 : Int), (2 : Int), (2 : Int), (3 : Int), (3 : Int), (3 : Int), (3 : Int), (4 : Int), (4 : Int), (4 : Int), (4 : Int), (4 : Int), (4 : Int), (4 : Int), (4 : Int), (5 : Int), (5 : Int), (5 : Int), (5 : Int), (5 : Int), (5 : Int), (5 : Int), (5 : Int), (5 : Int), (5 : Int), (5 : Int), (5 : Int), (5 : Int), (5 : Int), (5 : Int), (5 : Int), (6 : Int), (6 : Int), (6 : Int), (6 : Int), (6 : Int), (6 : Int), (6 : Int), (6 : Int), (6 : Int), (6 : Int), (6 : Int), (6 : Int), (6 : Int), (6 : Int), (6 : Int), (6 : Int), (6 : Int), (6 : Int), (6 : Int), (6 : Int), (6 : Int), (6 : Int), (6 : Int), (6 : Int), (6 : Int), (6 : Int), (6 : Int), (6 : Int), (6 : Int), (6 : Int), (6 : Int), (6 : Int), (7 : Int), (7 : Int), (7 : Int), (7 : Int), (7 : Int), (7 : Int), (7 : Int), (7 : Int), (7 : Int), (7 : Int), (7 : Int), (7 : Int), (7 : Int), (7 : Int), (7 : Int), (7 : Int), (7 : Int), (7 : Int), (7 : Int), (7 : Int), (7 : Int), (7 : Int), (7 : Int), (7 : Int), (7 : Int), (7 : Int), (7 : Int), (7 : Int), (7 : Int), (7 : Int), (7 : Int), (7 : Int), (7 : Int), (7 : Int), (7 : Int), (7 : Int), (7 : Int), (7 : Int), (7 : Int), (7 : Int), (7 : Int), (7 : Int), (7 : Int), (7 : Int), (7 : Int), (7 : Int), (7 : Int), (7 : Int), (7 : Int), (7 : Int), (7 : Int), (7 : Int), (7 : Int), (7 : Int), (7 : Int), (7 : Int), (7 : Int), (7 : Int), (7 : Int), (7 : Int), (7 : Int), (7 : Int), (7 : Int), (7 : Int), (8 : Int), (8 : Int), (8 : Int), (8 : Int), (8 : Int), (8 : Int), (8 : Int), (8 : Int), (8 : Int), (8 : Int), (8 : Int), (8 : Int), (8 : Int), (8 : Int), (8 : Int), (8 : Int), (8 : Int), (8 : Int), (8 : Int), (8 : Int), (8 : Int), (8 : Int), (8 : Int), (8 : Int), (8 : Int), (8 : Int), (8 : Int), (8 : Int), (8 : Int), (8 : Int), (8 : Int), (8 : Int), (8 : Int), (8 : Int), (8 : Int), (8 : Int), (8 : Int), (8 : Int), (8 : Int), (8 : Int), (8 : Int), (8 : Int), (8 : Int), (8 : Int), (8 : Int), (8 : Int), (8 : Int), (8 : Int), (8 : Int), (8 : Int), (8 : Int), (8 : Int), (8 : Int), (8 : Int), (8 : Int), (8 : Int), (8 : Int), (8 : Int), (8 : Int), (8 : Int), (8 : Int), (8 : Int), (8 : Int), (8 : Int), (8 : Int), (8 : Int), (8 : Int), (8 : Int), (8 : Int), (8 : Int), (8 : Int), (8 : Int), (8 : Int), (8 : Int), (8 : Int), (8 : Int), (8 : Int), (8 : Int), (8 : Int), (8 : Int), (8 : Int), (8 : Int), (8 : Int), (8 : Int), (8 : Int), (8 : Int), (8 : Int), (8 : Int), (8 : Int), (8 : Int), (8 : Int), (8 : Int), (8 : Int), (8 : Int), (8 : Int), (8 : Int), (8 : Int), (8 : Int), (8 : Int), (8 : Int), (8 : Int), (8 : Int), (8 : Int), (8 : Int), (8 : Int), (8 : Int), (8 : Int), (8 : Int), (8 : Int), (8 : Int), (8 : Int), (8 : Int), (8 : Int), (8 : Int), (8 : Int), (8 : Int), (8 : Int), (8 : Int), (8 : Int), (8 : Int), (8 : Int), (8 : Int), (8 : Int), (8 : Int), (8 : Int), (8 : Int), (8 : Int), (8 : Int)] (Int.toNat (Go.IntKind.wrap (Go.IntKind.u8) (Int.fdiv (Int.fdiv (Int.fdiv x_ (4294967296 : Int)) (65536 : Int)) (256 : Int)))) (0 : Int))))), ()), ((), ())))
      none)
     (brR (Go.Pon.inR (Go.IntKind.wrap (Go.IntKind.u8) (Int.fdiv (Int.fdiv x_ (4294967296 : Int)) (65536 : Int))) (256 : Nat))
      (some (((Go.IntKind.wrap (Go.IntKind.i64) ((48 : Int) + (Go.IntKind.wrap (Go.IntKind.i64) (List.getD [(0 : Int), (1 : Int), (2 : Int), (2 : Int), (3 : Int), (3 : Int), (3 : Int), (3 : Int), (4 : Int), (4 : Int), (4 : Int), (4 : Int), (4 : Int), (4 : Int), (4 : Int), (4 : Int), (5 : Int), (5 : Int), (5 : Int), (5 : Int), (5 : Int), (5 : Int), (5 : Int), (5 : Int), (5 : Int), (5 : Int), (5 : Int), (5 : Int), (5 : Int), (5 : Int), (5 : Int), (5 : Int), (6 : Int), (6 : Int), (6 : Int), (6 : Int), (6 : Int), (6 : Int), (6 : Int), (6 : Int), (6 : Int), (6 : Int), (6 : Int), (6 : Int), (6 : Int), (6 : Int), (6 : Int), (6 : Int), (6 : Int), (6 : Int), (6 : Int), (6 : Int), (6 : Int), (6 : Int), (6 : Int), (6 : Int), (6 : Int), (6 : Int), (6 : Int), (6 : Int), (6 : Int), (6 : Int), (6 : Int), (6 : Int), (7 : Int), (7 : Int), (7 : Int), (7 : Int), (7 : Int), (7 : Int), (7 : Int), (7 : Int), (7 : Int), (7 : Int), (7 : Int), (7 : Int), (7 : Int), (7 : Int), (7 : Int), (7 : Int), (7 : Int), (7 : Int), (7 : Int), (7 : Int), (7 : Int), (7 : Int), (7 : Int), (7 : Int), (7 : Int), (7 : Int), (7 : Int), (7 : Int), (7 : Int), (7 : Int), (7 : Int), (7 : Int), (7 : Int), (7 : Int), (7 : Int), (7 : Int), (7 : Int), (7 : Int), (7 : Int), (7 : Int), (7 : Int), (7 : Int), (7 : Int), (7 : Int), (7 : Int), (7 : Int), (7 : Int), (7 : Int), (7 : Int), (7 : Int), (7 : Int), (7 : Int), (7 : Int), (7 : Int), (7 : Int), (7 : Int), (7 : Int), (7 : Int), (7 : Int), (7 : Int), (7 : Int), (7 : Int), (7 : Int), (7 : Int), (8 : Int), (8 : Int), (8 : Int), (8 : Int), (8 : Int), (8 : Int), (8 : Int), (8 : Int), (8 : Int), (8 : Int), (8 : Int), (8 : Int), (8 : Int), (8 : Int), (8 : Int), (8 : Int), (8 : Int), (8 : Int), (8 : Int), (8 : Int), (8 : Int), (8 : Int), (8 : Int), (8 : Int), (8 : Int), (8 : Int), (8 : Int), (8 : Int), (8 : Int), (8 : Int), (8 : Int), (8 : Int), (8 : Int), (8 : Int), (8 : Int), (8 : Int), (8 : Int), (8 : Int), (8 : Int), (8 : Int), (8 : Int), (8 : Int), (8 : Int), (8 : Int), (8 : Int), (8 : Int), (8 : Int), (8 : Int), (8 : Int), (8 : Int), (8 : Int), (8 : Int), (8 : Int), (8 : Int), (8 : Int), (8 : Int), (8 : Int), (8 : Int), (8 : Int), (8 : Int), (8 : Int), (8 : Int), (8 : Int), (8 : Int), (8 : Int), (8 : Int), (8 : Int), (8 : Int), (8 : Int), (8 : Int), (8 : Int), (8 : Int), (8 : Int), (8 : Int), (8 : Int), (8 : Int), (8 : Int), (8 : Int), (8 : Int), (8 : Int), (8 : Int), (8 : Int), (8 : Int), (8 : Int), (8 : Int), (8 : Int), (8 : Int), (8 : Int), (8 : Int), (8 : Int), (8 : Int), (8 : Int), (8 : Int), (8 : Int), (8 : Int), (8 : Int), (8 : Int), (8 : Int), (8 : Int), (8 : Int), (8 : Int), (8 : Int), (8 : Int), (8 : Int), (8 : Int), (8 : Int), (8 : Int), (8 : Int), (8 : Int), (8 : Int), (8 : Int), (8 : Int), (8 : Int), (8 : Int), (8 : Int), (8 : Int), (8 : Int), (8 : Int), (8 : Int), (8 : Int), (8 : Int), (8 : Int), (8 : Int), (8 : Int), (8 : Int), (8 : Int), (8 : Int), (8 : Int)] (Int.toNat (Go.IntKind.wrap (Go.IntKind.u8) (Int.fdiv (Int.fdiv x_ (4294967296 : Int)) (65536 : Int)))) (0 : Int))))), ()), ((), ())))
      none))
    (brR (decide ((Int.fdiv x_ (4294967296 : Int)) ≥ (256 : Int)))
     (brR (Go.Pon.inR (Go.IntKind.wrap (Go.IntKind.u8) (Int.fdiv (Int.fdiv x_ (4294967296 : Int)) (256 : Int))) (256 : Nat))
      (some (((Go.IntKind.wrap (Go.IntKind.i64) ((40 : Int) + (Go.IntKind.wrap (Go.IntKind.i64) (List.getD [(0 : Int), (1 : Int), (2 : Int), (2 : Int), (3 : Int), (3 : Int), (3 : Int), (3 : Int), (4 : Int), (4 : Int), (4 : Int), (4 : Int), (4 : Int), (4 : Int), (4 : Int), (4 : Int), (5 : Int), (5 : Int), (5 : Int), (5 : Int), (5 : Int), (5 : Int), (5 : Int), (5 : Int), (5 : Int), (5 : Int), (5 : Int), (5 : Int), (5 : Int), (5 : Int), (5 : Int), (5 : Int), (6 : Int), (6 : Int), (6 : Int), (6 : Int), (6 : Int), (6 : Int), (6 : Int), (6 : Int), (6 : Int), (6 : Int), (6 : Int), (6 : Int), (6 : Int), (6 : Int), (6 : Int), (6 : Int), (6 : Int), (6 : Int), (6 : Int), (6 : Int), (6 : Int), (6 : Int), (6 : Int), (6 : Int), (6 : Int), (6 : Int), (6 : Int), (6 : Int), (6 : Int), (6 : Int), (6 : Int), (6 : Int), (7 : Int), (7 : Int), (7 : Int), (7 : Int), (7 : Int), (7 : Int), (7 : Int), (7 : Int), (7 : Int), (7 : Int), (7 : Int), (7 : Int), (7 : Int), (7 : Int), (7 : Int), (7 : Int), (7 : Int), (7 : Int), (7 : Int), (7 : Int), (7 : Int), (7 : Int), (7 : Int), (7 : Int), (7 : Int), (7 : Int), (7 : Int), (7 : Int), (7 : Int), (7 : Int), (7 : Int), (7 : Int), (7 : Int), (7 : Int), (7 : Int), (7 : Int), (7 : Int), (7 : Int), (7 : Int), (7 : Int), (7 : Int), (7 : Int), (7 : Int), (7 : Int), (7 : Int), (7 : Int), (7 : Int), (7 : Int), (7 : Int), (7 : Int), (7 : Int), (7 : Int), (7 : Int), (7 : Int), (7 : Int), (7 : Int), (7 : Int), (7 : Int), (7 : Int), (7 : Int), (7 : Int), (7 : Int), (7 : Int), (7 : Int), (8 : Int), (8 : Int), (8 : Int), (8 : Int), (8 : Int), (8 : Int), (8 : Int), (8 : Int), (8 : Int), (8 : Int), (8 : Int), (8 : Int), (8 : Int), (8 : Int), (8 : Int), (8 : Int), (8 : Int), (8 : Int), (8 : Int), (8 : Int), (8 : Int), (8 : Int), (8 : Int), (8 : Int), (8 : Int), (8 : Int), (8 : Int), (8 : Int), (8 : Int), (8 : Int), (8 : Int), (8 : Int), (8 : Int), (8 : Int), (8 : Int), (8 : Int), (8 : Int), (8 : Int), (8 : Int), (8 : Int), (8 : Int), (8 : Int), (8 : Int), (8 : Int), (8 : Int), (8 : Int), (8 : Int), (8 : Int), (8 : Int), (8 : Int), (8 : Int), (8 : Int), (8 : Int), (8 : Int), (8 : Int), (8 : Int), (8 : Int), (8 : Int), (8 : Int), (8 : Int), (8 : Int), (8 : Int), (8 : Int), (8 : Int), (8 : Int), (8 : Int), (8 : Int), (8 : Int), (8 : Int), (8 : Int), (8 : Int), (8 : Int), (8 : Int), (8 : Int), (8 : Int), (8 : Int), (8 : Int), (8 : Int), (8 : Int), (8 : Int), (8 : Int), (8 : Int), (8 : Int), (8 : Int), (8 : Int), (8 : Int), (8 : Int), (8 : Int), (8 : Int), (8 : Int), (8 : Int), (8 : Int), (8 : Int), (8 : Int), (8 : Int), (8 : Int), (8 : Int), (8 : Int), (8 : Int), (8 : Int), (8 : Int), (8 : Int), (8 : Int), (8 : Int), (8 : Int), (8 : Int), (8 : Int), (8 : Int), (8 : Int), (8 : Int), (8 : Int), (8 : Int), (8 : Int), (8 : Int), (8 : Int), (8 : Int), (8 : Int), (8 : Int), (8 : Int), (8 : Int), (8 : Int), (8 : Int), (8 : Int), (8 : Int), (8 : Int), (8 : Int), (8 : Int), (8 : Int)] (Int.toNat (Go.IntKind.wrap (Go.IntKind.u8) (Int.fdiv (Int.fdiv x_ (4294967296 : Int)) (256 : Int)))) (0 : Int))))), ()), ((), ())))
      none)
     (brR (Go.Pon.inR (Go.IntKind.wrap (Go.IntKind.u8) (Int.fdiv x_ (4294967296 : Int))) (256 : Nat))
      (some (((Go.IntKind.wrap (Go.IntKind.i64) ((32 : Int) + (Go.IntKind.wrap (Go.IntKind.i64) (List.getD [(0 : Int), (1 : Int), (2 : Int), (2 : Int), (3 : Int), (3 : Int), (3 : Int), (3 : Int), (4 : Int), (4 : Int), (4 : Int), (4 : Int), (4 : Int), (4 : Int), (4 : Int), (4 : Int), (5 : Int), (5 : Int), (5 : Int), (5 : Int), (5 : Int), (5 : Int), (5 : Int), (5 : Int), (5 : Int), (5 : Int), (5 : Int), (5 : Int), (5 : Int), (5 : Int), (5 : Int), (5 : Int), (6 : Int), (6 : Int), (6 : Int), (6 : Int), (6 : Int), (6 : Int), (6 : Int), (6 : Int), (6 : Int), (6 : Int), (6 : Int), (6 : Int), (6 : Int), (6 : Int), (6 : Int), (6 : Int), (6 : Int), (6 : Int), (6 : Int), (6 : Int), (6 : Int), (6 : Int), (6 : Int), (6 : Int), (6 : Int), (6 : Int), (6 : Int), (6 : Int), (6 : Int), (6 : Int), (6 : Int), (6 : Int), (7 : Int), (7 : Int), (7 : Int), (7 : Int), (7 : Int), (7 : Int), (7 : Int), (7 : Int), (7 : Int), (7 : Int), (7 : Int), (7 : Int), (7 : Int), (7 : Int), (7 : Int), (7 : Int), (7 : Int), (7 : Int), (7 : Int), (7 : Int), (7 : Int), (7 : Int), (7 : Int), (7 : Int), (7 : Int), (7 : Int), (7 : Int), (7 : Int), (7 : Int), (7 : Int), (7 : Int), (7 : Int), (7 : Int), (7 : Int), (7 : Int), (7 : Int), (7 : Int), (7 : Int), (7 : Int), (7 : Int), (7 : Int), (7 : Int), (7 : Int), (7 : Int), (7 : Int), (7 : Int), (7 : Int), (7 : Int), (7 : Int), (7 : Int), (7 : Int), (7 : Int), (7 : Int), (7 : Int), (7 : Int), (7 : Int), (7 : Int), (7 : Int), (7 : Int), (7 : Int), (7 : Int), (7 : Int), (7 : Int), (7 : Int), (8 : Int), (8 : Int), (8 : Int), (8 : Int), (8 : Int), (8 : Int), (8 : Int), (8 : Int), (8 : Int), (8 : Int), (8 : Int), (8 : Int), (8 : Int), (8 : Int), (8 : Int), (8 : Int), (8 : Int), (8 : Int), (8 : Int), (8 : Int), (8 : Int), (8 : Int), (8 : Int), (8 : Int), (8 : Int), (8 : Int), (8 : Int), (8 : Int), (8 : Int), (8 : Int), (8 : Int), (8 : Int), (8 : Int), (8 : Int), (8 : Int), (8 : Int), (8 : Int), (8 : Int), (8 : Int), (8 : Int), (8 : Int), (8 : Int), (8 : Int), (8 : Int), (8 : Int), (8 : Int), (8 : Int), (8 : Int), (8 : Int), (8 : Int), (8 : Int), (8 : Int), (8 : Int), (8 : Int), (8 : Int), (8 : Int), (8 : Int), (8 : Int), (8 : Int), (8 : Int), (8 : Int), (8 : Int), (8 : Int), (8 : Int), (8 : Int), (8 : Int), (8 : Int), (8 : Int), (8 : Int), (8 : Int), (8 : Int), (8 : Int), (8 : Int), (8 : Int), (8 : Int), (8 : Int), (8 : Int), (8 : Int), (8 : Int), (8 : Int), (8 : Int), (8 : Int), (8 : Int), (8 : Int), (8 : Int), (8 : Int), (8 : Int), (8 : Int), (8 : Int), (8 : Int), (8 : Int), (8 : Int), (8 : Int), (8 : Int), (8 : Int), (8 : Int), (8 : Int), (8 : Int), (8 : Int), (8 : Int), (8 : Int), (8 : Int), (8 : Int), (8 : Int), (8 : Int), (8 : Int), (8 : Int), (8 : Int), (8 : Int), (8 : Int), (8 : Int), (8 : Int), (8 : Int), (8 : Int), (8 : Int), (8 : Int), (8 : Int), (8 : Int), (8 : Int), (8 : Int), (8 : Int), (8 : Int), (8 : Int), (8 : Int), (8 : Int), (8 : Int), (8 : Int), (8 : Int)] (Int.toNat (Go.IntKind.wrap (Go.IntKind.u8) (Int.fdiv x_ (4294967296 : Int)))) (0 : Int))))), ()), ((), ())))
      none)))
   (brR (decide (x_ ≥ (65536 : Int)))
    (brR (decide ((Int.fdiv x_ (65536 : Int)) ≥ (256 : Int)))
     (brR (Go.Pon.inR (Go.IntKind.wrap (Go.IntKind.u8) (Int.fdiv (Int.fdiv x_ (65536 : Int)) (256 : Int))) (256 : Nat))
      (some (((Go.IntKind.wrap (Go.IntKind.i64) ((24 : Int) + (Go.IntKind.wrap (Go.IntKind.i64) (List.getD [(0 : Int), (1 : Int), (2 : Int), (2 : Int), (3 : Int), (3 : Int), (3 : Int), (3 : Int), (4 : Int), (4 : Int), (4 : Int), (4 : Int), (4 : Int), (4 : Int), (4 : Int), (4 : Int), (5 : Int), (5 : Int), (5 : Int), (5 : Int), (5 : Int), (5 : Int), (5 : Int), (5 : Int), (5 : Int), (5 : Int), (5 : Int), (5 : Int), (5 : Int), (5 : Int), (5 : Int), (5 : Int), (6 : Int), (6 : Int), (6 : Int), (6 : Int), (6 : Int), (6 : Int), (6 : Int), (6 : Int), (6 : Int), (6 : Int), (6 : Int), (6 : Int), (6 : Int), (6 : Int), (6 : Int), (6 : Int), (6 : Int), (6 : Int), (6 : Int), (6 : Int), (6 : Int), (6 : Int), (6 : Int), (6 : Int), (6 : Int), (6 : Int), (6 : Int), (6 : Int), (6 : Int), (6 : Int), (6 : Int), (6 : Int), (7 : Int), (7 : Int), (7 : Int), (7 : Int), (7 : Int), (7 : Int), (7 : Int), (7 : Int), (7 : Int), (7 : Int), (7 : Int), (7 : Int), (7 : Int), (7 : Int), (7 : Int), (7 : Int), (7 : Int), (7 : Int), (7 : Int), (7 : Int), (7 : Int), (7 : Int), (7 : Int), (7 : Int), (7 : Int), (7 : Int), (7 : Int), (7 : Int), (7 : Int), (7 : Int), (7 : Int), (7 : Int), (7 : Int), (7 : Int), (7 : Int), (7 : Int), (7 : Int), (7 : Int), (7 : Int), (7 : Int), (7 : Int), (7 : Int), (7 : Int), (7 : Int), (7 : Int), (7 : Int), (7 : Int), (7 : Int), (7 : Int), (7 : Int), (7 : Int), (7 : Int), (7 : Int), (7 : Int), (7 : Int), (7 : Int), (7 : Int), (7 : Int), (7 : Int), (7 : Int), (7 : Int), (7 : Int), (7 : Int), (7 : Int), (8 : Int), (8 : Int), (8 : Int), (8 : Int), (8 : Int), (8 : Int), (8 : Int), (8 : Int), (8 : Int), (8 : Int), (8 : Int), (8 : Int), (8 : Int), (8 : Int), (8 : Int), (8 : Int), (8 : Int), (8 : Int), (8 : Int), (8 : Int), (8 : Int), (8 : Int), (8 : Int), (8 : Int), (8 : Int), (8 : Int), (8 : Int), (8 : Int), (8 : Int), (8 : Int), (8 : Int), (8 : Int), (8 : Int), (8 : Int), (8 : Int), (8 : Int), (8 : Int), (8 : Int), (8 : Int), (8 : Int), (8 : Int), (8 : Int), (8 : Int), (8 : Int), (8 : Int), (8 : Int), (8 : Int), (8 : Int), (8 : Int), (8 : Int), (8 : Int), (8 : Int), (8 : Int), (8 : Int), (8 : Int), (8 : Int), (8 : Int), (8 : Int), (8 : Int), (8 : Int), (8 : Int), (8 : Int), (8 : Int), (8 : Int), (8 : Int), (8 : Int), (8 : Int), (8 : Int), (8 : Int), (8 : Int), (8 : Int), (8 : Int), (8 : Int), (8 : Int), (8 : Int), (8 : Int), (8 : Int), (8 : Int), (8 : Int), (8 : Int), (8 : Int), (8 : Int), (8 : Int), (8 : Int), (8 : Int), (8 : Int), (8 : Int), (8 : Int), (8 : Int), (8 : Int), (8 : Int), (8 : Int), (8 : Int), (8 : Int), (8 : Int), (8 : Int), (8 : Int), (8 : Int), (8 : Int), (8 : Int), (8 : Int), (8 : Int), (8 : Int), (8 : Int), (8 : Int), (8 : Int), (8 : Int), (8 : Int), (8 : Int), (8 : Int), (8 : Int), (8 : Int), (8 : Int), (8 : Int), (8 : Int), (8 : Int), (8 : Int), (8 : Int), (8 : Int), (8 : Int), (8 : Int), (8 : Int), (8 : Int), (8 : Int), (8 : Int), (8 : Int), (8 : Int), (8 : Int)] (Int.toNat (Go.IntKind.wrap (Go.IntKind.u8) (Int.fdiv (Int.fdiv x_ (65536 : Int)) (256 : Int)))) (0 : Int))))), ()), ((), ())))
      none)
     (brR (Go.Pon.inR (Go.IntKind.wrap (Go.IntKind.u8) (Int.fdiv x_ (65536 : Int))) (256 : Nat))
      (some (((Go.IntKind.wrap (Go.IntKind.i64) ((16 : Int) + (Go.IntKind.wrap (Go.IntKind.i64) (List.getD [(0 : Int), (1 : Int), (2 : Int), (2 : Int), (3 : Int), (3 : Int), (3 : Int), (3 : Int), (4 : Int), (4 : Int), (4 : Int), (4 : Int), (4 : Int), (4 : Int), (4 : Int), (4 : Int), (5 : Int), (5 : Int), (5 : Int), (5 : Int), (5 : Int), (5 : Int), (5 : Int), (5 : Int), (5 : Int), (5 : Int), (5 : Int), (5 : Int), (5 : Int), (5 : Int), (5 : Int), (5 : Int), (6 : Int), (6 : Int), (6 : Int), (6 : Int), (6 : Int), (6 : Int), (6 : Int), (6 : Int), (6 : Int), (6 : Int), (6 : Int), (6 : Int), (6 : Int), (6 : Int), (6 : Int), (6 : Int), (6 : Int), (6 : Int), (6 : Int), (6 : Int), (6 : Int), (6 : Int), (6 : Int), (6 : Int), (6 : Int), (6 : Int), (6 : Int), (6 : Int), (6 : Int), (6 : Int), (6 : Int), (6 : Int), (7 : Int), (7 : Int), (7 : Int), (7 : Int), (7 : Int), (7 : Int), (7 : Int), (7 : Int), (7 : Int), (7 : Int), (7 : Int), (7 : Int), (7 : Int), (7 : Int), (7 : Int), (7 : Int), (7 : Int), (7 : Int), (7 : Int), (7 : Int), (7 : Int), (7 : Int), (7 : Int), (7 : Int), (7 : Int), (7 : Int), (7 : Int), (7 : Int), (7 : Int), (7 : Int), (7 : Int), (7 : Int), (7 : Int), (7 : Int), (7 : Int), (7 : Int), (7 : Int), (7 : Int), (7 : Int), (7 : Int), (7 : Int), (7 : Int), (7 : Int), (7 : Int), (7 : Int), (7 : Int), (7 : Int), (7 : Int), (7 : Int), (7 : Int), (7 : Int), (7 : Int), (7 : Int), (7 : Int), (7 : Int), (7 : Int), (7 : Int), (7 : Int), (7 : Int), (7 : Int), (7 : Int), (7 : Int), (7 : Int), (7 : Int), (8 : Int), (8 : Int), (8 : Int), (8 : Int), (8 : Int), (8 : Int), (8 : Int), (8 : Int), (8 : Int), (8 : Int), (8 : Int), (8 : Int), (8 : Int), (8 : Int), (8 : Int), (8 : Int), (8 : Int), (8 : Int), (8 : Int), (8 : Int), (8 : Int), (8 : Int), (8 : Int), (8 : Int), (8 : Int), (8 : Int), (8 : Int), (8 : Int), (8 : Int), (8 : Int), (8 : Int), (8 : Int), (8 : Int), (8 : Int), (8 : Int), (8 : Int), (8 : Int), (8 : Int), (8 : Int), (8 : Int), (8 : Int), (8 : Int), (8 : Int), (8 : Int), (8 : Int), (8 : Int), (8 : Int), (8 : Int), (8 : Int), (8 : Int), (8 : Int), (8 : Int), (8 : Int), (8 : Int), (8 : Int), (8 : Int), (8 : Int), (8 : Int), (8 : Int), (8 : Int), (8 : Int), (8 : Int), (8 : Int), (8 : Int), (8 : Int), (8 : Int), (8 : Int), (8 : Int), (8 : Int), (8 : Int), (8 : Int), (8 : Int), (8 : Int), (8 : Int), (8 : Int), (8 : Int), (8 : Int), (8 : Int), (8 : Int), (8 : Int), (8 : Int), (8 : Int), (8 : Int), (8 : Int), (8 : Int), (8 : Int), (8 : Int), (8 : Int), (8 : Int), (8 : Int), (8 : Int), (8 : Int), (8 : Int), (8 : Int), (8 : Int), (8 : Int), (8 : Int), (8 : Int), (8 : Int), (8 : Int), (8 : Int), (8 : Int), (8 : Int), (8 : Int), (8 : Int), (8 : Int), (8 : Int), (8 : Int), (8 : Int), (8 : Int), (8 : Int), (8 : Int), (8 : Int), (8 : Int), (8 : Int), (8 : Int), (8 : Int), (8 : Int), (8 : Int), (8 : Int), (8 : Int), (8 : Int), (8 : Int), (8 : Int), (8 : Int), (8 : Int), (8 : Int), (8 : Int)] (Int.toNat (Go.IntKind.wrap (Go.IntKind.u8) (Int.fdiv x_ (65536 : Int)))) (0 : Int))))), ()), ((), ())))
      none))
    (brR (decide (x_ ≥ (256 : Int)))
     (brR (Go.Pon.inR (Go.IntKind.wrap (Go.IntKind.u8) (Int.fdiv x_ (256 : Int))) (256 : Nat))
      (some (((Go.IntKind.wrap (Go.IntKind.i64) ((8 : Int) + (Go.IntKind.wrap (Go.IntKind.i64) (List.getD [(0 : Int), (1 : Int), (2 : Int), (2 : Int), (3 : Int), (3 : Int), (3 : Int), (3 : Int), (4 : Int), (4 : Int), (4 : Int), (4 : Int), (4 : Int), (4 : Int), (4 : Int), (4 : Int), (5 : Int), (5 : Int), (5 : Int), (5 : Int), (5 : Int), (5 : Int), (5 : Int), (5 : Int), (5 : Int), (5 : Int), (5 : Int), (5 : Int), (5 : Int), (5 : Int), (5 : Int), (5 : Int), (6 : Int), (6 : Int), (6 : Int), (6 : Int), (6 : Int), (6 : Int), (6 : Int), (6 : Int), (6 : Int), (6 : Int), (6 : Int), (6 : Int), (6 : Int), (6 : Int), (6 : Int), (6 : Int), (6 : Int), (6 : Int), (6 : Int), (6 : Int), (6 : Int), (6 : Int), (6 : Int), (6 : Int), (6 : Int), (6 : Int), (6 : Int), (6 : Int), (6 : Int), (6 : Int), (6 : Int), (6 : Int), (7 : Int), (7 : Int), (7 : Int), (7 : Int), (7 : Int), (7 : Int), (7 : Int), (7 : Int), (7 : Int), (7 : Int), (7 : Int), (7 : Int), (7 : Int), (7 : Int), (7 : Int), (7 : Int), (7 : Int), (7 : Int), (7 : Int), (7 : Int), (7 : Int), (7 : Int), (7 : Int), (7 : Int), (7 : Int), (7 : Int), (7 : Int), (7 : Int), (7 : Int), (7 : Int), (7 : Int), (7 : Int), (7 : Int), (7 : Int), (7 : Int), (7 : Int), (7 : Int), (7 : Int), (7 : Int), (7 : Int), (7 : Int), (7 : Int), (7 : Int), (7 : Int), (7 : Int), (7 : Int), (7 : Int), (7 : Int), (7 : Int), (7 : Int), (7 : Int), (7 : Int), (7 : Int), (7 : Int), (7 : Int), (7 : Int), (7 : Int), (7 : Int), (7 : Int), (7 : Int), (7 : Int), (7 : Int), (7 : Int), (7 : Int), (8 : Int), (8 : Int), (8 : Int), (8 : Int), (8 : Int), (8 : Int), (8 : Int), (8 : Int), (8 : Int), (8 : Int), (8 : Int), (8 : Int), (8 : Int), (8 : Int), (8 : Int), (8 : Int), (8 : Int), (8 : Int), (8 : Int), (8 : Int), (8 : Int), (8 : Int), (8 : Int), (8 : Int), (8 : Int), (8 : Int), (8 : Int), (8 : Int), (8 : Int), (8 : Int), (8 : Int), (8 : Int), (8 : Int), (8 : Int), (8 : Int), (8 : Int), (8 : Int), (8 : Int), (8 : Int), (8 : Int), (8 : Int), (8 : Int), (8 : Int), (8 : Int), (8 : Int), (8 : Int), (8 : Int), (8 : Int), (8 : Int), (8 : Int), (8 : Int), (8 : Int), (8 : Int), (8 : Int), (8 : Int), (8 : Int), (8 : Int), (8 : Int), (8 : Int), (8 : Int), (8 : Int), (8 : Int), (8 : Int), (8 : Int), (8 : Int), (8 : Int), (8 : Int), (8 : Int), (8 : Int), (8 : Int), (8 : Int), (8 : Int), (8 : Int), (8 : Int), (8 : Int), (8 : Int), (8 : Int), (8 : Int), (8 : Int), (8 : Int), (8 : Int), (8 : Int), (8 : Int), (8 : Int), (8 : Int), (8 : Int), (8 : Int), (8 : Int), (8 : Int), (8 : Int), (8 : Int), (8 : Int), (8 : Int), (8 : Int), (8 : Int), (8 : Int), (8 : Int), (8 : Int), (8 : Int), (8 : Int), (8 : Int), (8 : Int), (8 : Int), (8 : Int), (8 : Int), (8 : Int), (8 : Int), (8 : Int), (8 : Int), (8 : Int), (8 : Int), (8 : Int), (8 : Int), (8 : Int), (8 : Int), (8 : Int), (8 : Int), (8 : Int), (8 : Int), (8 : Int), (8 : Int), (8 : Int), (8 : Int), (8 : Int), (8 : Int), (8 : Int), (8 : Int), (8 : Int)] (Int.toNat (Go.IntKind.wrap (Go.IntKind.u8) (Int.fdiv x_ (256 : Int)))) (0 : Int))))), ()), ((), ())))
      none)
     (brR (Go.Pon.inR (Go.IntKind.wrap (Go.IntKind.u8) x_) (256 : Nat))
      (some (((Go.IntKind.wrap (Go.IntKind.i64) ((0 : Int) + (Go.IntKind.wrap (Go.IntKind.i64) (List.getD [(0 : Int), (1 : Int), (2 : Int), (2 : Int), (3 : Int), (3 : Int), (3 : Int), (3 : Int), (4 : Int), (4 : Int), (4 : Int), (4 : Int), (4 : Int), (4 : Int), (4 : Int), (4 : Int), (5 : Int), (5 : Int), (5 : Int), (5 : Int), (5 : Int), (5 : Int), (5 : Int), (5 : Int), (5 : Int), (5 : Int), (5 : Int), (5 : Int), (5 : Int), (5 : Int), (5 : Int), (5 : Int), (6 : Int), (6 : Int), (6 : Int), (6 : Int), (6 : Int), (6 : Int), (6 : Int), (6 : Int), (6 : Int), (6 : Int), (6 : Int), (6 : Int), (6 : Int), (6 : Int), (6 : Int), (6 : Int), (6 : Int), (6 : Int), (6 : Int), (6 : Int), (6 : Int), (6 : Int), (6 : Int), (6 : Int), (6 : Int), (6 : Int), (6 : Int), (6 : Int), (6 : Int), (6 : Int), (6 : Int), (6 : Int), (7 : Int), (7 : Int), (7 : Int), (7 : Int), (7 : Int), (7 : Int), (7 : Int), (7 : Int), (7 : Int), (7 : Int), (7 : Int), (7 : Int), (7 : Int), (7 : Int), (7 : Int), (7 : Int), (7 : Int), (7 : Int), (7 : Int), (7 : Int), (7 : Int), (7 : Int), (7 : Int), (7 : Int), (7 : Int), (7 : Int), (7 : Int), (7 : Int), (7 : Int), (7 : Int), (7 : Int), (7 : Int), (7 : Int), (7 : Int), (7 : Int), (7 : Int), (7 : Int), (7 : Int), (7 : Int), (7 : Int), (7 : Int), (7 : Int), (7 : Int), (7 : Int), (7 : Int), (7 : Int), (7 : Int), (7 : Int), (7 : Int), (7 : Int), (7 : Int), (7 : Int), (7 : Int), (7 : Int), (7 : Int), (7 : Int), (7 : Int), (7 : Int), (7 : Int), (7 : Int), (7 : Int), (7 : Int), (7 : Int), (7 : Int), (8 : Int), (8 : Int), (8 : Int), (8 : Int), (8 : Int), (8 : Int), (8 : Int), (8 : Int), (8 : Int), (8 : Int), (8 : Int), (8 : Int), (8 : Int), (8 : Int), (8 : Int), (8 : Int), (8 : Int), (8 : Int), (8 : Int), (8 : Int), (8 : Int), (8 : Int), (8 : Int), (8 : Int), (8 : Int), (8 : Int), (8 : Int), (8 : Int), (8 : Int), (8 : Int), (8 : Int), (8 : Int), (8 : Int), (8 : Int), (8 : Int), (8 : Int), (8 : Int), (8 : Int), (8 : Int), (8 : Int), (8 : Int), (8 : Int), (8 : Int), (8 : Int), (8 : Int), (8 : Int), (8 : Int), (8 : Int), (8 : Int), (8 : Int), (8 : Int), (8 : Int), (8 : Int), (8 : Int), (8 : Int), (8 : Int), (8 : Int), (8 : Int), (8 : Int), (8 : Int), (8 : Int), (8 : Int), (8 : Int), (8 : Int), (8 : Int), (8 : Int), (8 : Int), (8 : Int), (8 : Int), (8 : Int), (8 : Int), (8 : Int), (8 : Int), (8 : Int), (8 : Int), (8 : Int), (8 : Int), (8 : Int), (8 : Int), (8 : Int), (8 : Int), (8 : Int), (8 : Int), (8 : Int), (8 : Int), (8 : Int), (8 : Int), (8 : Int), (8 : Int), (8 : Int), (8 : Int), (8 : Int), (8 : Int), (8 : Int), (8 : Int), (8 : Int), (8 : Int), (8 : Int), (8 : Int), (8 : Int), (8 : Int), (8 : Int), (8 : Int), (8 : Int), (8 : Int), (8 : Int), (8 : Int), (8 : Int), (8 : Int), (8 : Int), (8 : Int), (8 : Int), (8 : Int), (8 : Int), (8 : Int), (8 : Int), (8 : Int), (8 : Int), (8 : Int), (8 : Int), (8 : Int), (8 : Int), (8 : Int), (8 : Int), (8 : Int), (8 : Int), (8 : Int), (8 : Int)] (Int.toNat (Go.IntKind.wrap (Go.IntKind.u8) x_)) (0 : Int))))), ()), ((), ())))
      none)))))

noncomputable def sol_math_bits_Len64 : F_math_bits_Len64 := fun x => T_math_bits_Len64 bigLoop x.1

end Go.Pon
/-
  What the functions of package uint256 compute (printed by a program of this work).
-/
set_option autoImplicit false
set_option linter.unusedVariables false
set_option maxRecDepth 100000
namespace Go.Pon
open Go

/-- pontage/uint256.BitLen -/
abbrev s_uint256_BitLen : Sig := ⟨[(.ro true (.arr 4 (.int .u64)))], [(.ro true (.int .i64))]⟩
abbrev F_uint256_BitLen := ((List Int) × Unit) → Option ((Int × Unit) × (Unit × Unit))

noncomputable def T_uint256_BitLen_loop0 (c_math_bits_Len64 : F_math_bits_Len64) (again_0 : ((List Int) × (Int × Unit)) → Option ((Int × Unit) × (Unit × Unit))) (a_1 : (List Int)) (i_2 : Int) : Option ((Int × Unit) × (Unit × Unit)) :=
  (brR (decide (i_2 ≥ (0 : Int)))
   (brR (Go.Pon.inR i_2 (4 : Nat))
    (brR (!(decide ((List.getD a_1 (Int.toNat i_2) (0 : Int)) = (0 : Int))))
     (brR (Go.Pon.inR i_2 (4 : Nat))
      (Option.bind (c_math_bits_Len64 ((List.getD a_1 (Int.toNat i_2) (0 : Int)), ())) (fun (y_3 : ((Int × Unit) × (Unit × Unit))) =>
       (some (((Go.IntKind.wrap (Go.IntKind.i64) ((Go.IntKind.wrap (Go.IntKind.i64) ((64 : Int) * i_2)) + y_3.1.1)), ()), ((), ())))))
      none)
     (again_0 (a_1, ((Go.IntKind.wrap (Go.IntKind.i64) (i_2 - (1 : Int))), ()))))
    none)
   (some (((0 : Int), ()), ((), ()))))

noncomputable def T_uint256_BitLen (L : LoopD) (c_math_bits_Len64 : F_math_bits_Len64) (a_ : (List Int)) : Option ((Int × Unit) × (Unit × Unit)) :=
  (L _ _ (fun again x => T_uint256_BitLen_loop0 c_math_bits_Len64 again x.1 x.2.1) (a_, ((3 : Int), ())))

noncomputable def sol_uint256_BitLen : F_uint256_BitLen := fun x => T_uint256_BitLen bigLoop sol_math_bits_Len64 x.1

/-- pontage/uint256.FromUint64 -/
abbrev s_uint256_FromUint64 : Sig := ⟨[(.ro true (.int .u64))], [(.ro true (.arr 4 (.int .u64)))]⟩
abbrev F_uint256_FromUint64 := (Int × Unit) → Option (((List Int) × Unit) × (Unit × Unit))

noncomputable def T_uint256_FromUint64 (L : LoopD) (n_ : Int) : Option (((List Int) × Unit) × (Unit × Unit)) :=
  (some (([n_, (0 : Int), (0 : Int), (0 : Int)], ()), ((), ())))

noncomputable def sol_uint256_FromUint64 : F_uint256_FromUint64 := fun x => T_uint256_FromUint64 bigLoop x.1

end Go.Pon
/-
  What the functions of package slices compute (printed by a program of this work).
-/
set_option autoImplicit false
set_option linter.unusedVariables false
set_option maxRecDepth 100000
namespace Go.Pon
open Go

/-- slices.Grow[[]byte,byte] -/
abbrev s_slices_Grow_byte_byte : Sig := ⟨[.nilm (.int .u8), .ro true (.int .i64)], [.own true (.int .u8)]⟩
abbrev F_slices_Grow_byte_byte := (Unit × (Int × Unit)) → Option (((List Int) × Unit) × (Unit × (Unit × Unit)))

noncomputable def T_slices_Grow_byte_byte (L : LoopD) (s_ : Unit) (n_ : Int) : Option (((List Int) × Unit) × (Unit × (Unit × Unit))) :=
  (letR (Go.IntKind.wrap (Go.IntKind.i64) (n_ - (Go.IntKind.wrap (Go.IntKind.i64) ((0 : Int) - (((0 : Nat) : Nat) : Int))))) fun (v_0 : Int) =>
  (brR (decide (n_ < (0 : Int)))
   none
   (brR (decide ((Go.IntKind.wrap (Go.IntKind.i64) (n_ - (0 : Int))) > (0 : Int)))
    (brR (((decide ((0 : Int) ≤ (Go.IntKind.wrap (Go.IntKind.i64) (n_ - (0 : Int))))) && (Go.Pon.roomy (Int.toNat (Go.IntKind.wrap (Go.IntKind.i64) (n_ - (0 : Int)))) (Go.Pon.Ty.int Go.IntKind.u8))) && true)
     (brR (decide ((0 : Int) ≤ (((List.length (List.replicate (Int.toNat (Go.IntKind.wrap (Go.IntKind.i64) (n_ - (0 : Int)))) (0 : Int))) : Nat) : Int)))
      (some (((List.take (0 : Nat) (List.replicate (Int.toNat (Go.IntKind.wrap (Go.IntKind.i64) (n_ - (0 : Int)))) (0 : Int))), ()), ((), ((), ()))))
      none)
     none)
    (some ((([] : List Int), ()), ((), ((), ())))))))

noncomputable def sol_slices_Grow_byte_byte : F_slices_Grow_byte_byte := fun x => T_slices_Grow_byte_byte bigLoop x.1 x.2.1

/-- slices.Concat[[]byte,byte] -/
abbrev s_slices_Concat_byte_byte : Sig := ⟨[(.ro false (.slice (.slice (.int .u8))))], [(.own true (.int .u8))]⟩
abbrev F_slices_Concat_byte_byte := ((List (List Int)) × Unit) → Option (((List Int) × Unit) × (Unit × Unit))

noncomputable def T_slices_Concat_byte_byte_loop1 (again_8 : ((List Int) × ((List (List Int)) × (Int × (Int × Unit)))) → Option (((List Int) × Unit) × (Unit × Unit))) (newslice_9 : (List Int)) (t25_10 : (List (List Int))) (t26_11 : Int) (t27_12 : Int) : Option (((List Int) × Unit) × (Unit × Unit)) :=
  (brR (decide (t27_12 < t26_11))
   (brR (Go.Pon.inR t27_12 (List.length t25_10))
    (brR (Go.Pon.roomy ((List.length newslice_9) + (List.length (List.getD t25_10 (Int.toNat t27_12) ([] : List Int)))) (Go.Pon.Ty.int Go.IntKind.u8))
     (again_8 ((List.append newslice_9 (List.getD t25_10 (Int.toNat t27_12) ([] : List Int))), (t25_10, (t26_11, ((Go.IntKind.wrap (Go.IntKind.i64) (t27_12 + (1 : Int))), ())))))
     none)
    none)
   (some ((newslice_9, ()), ((), ()))))

noncomputable def T_slices_Concat_byte_byte_loop0 (L : LoopD) (c_slices_Grow_byte_byte : F_slices_Grow_byte_byte) (again_0 : ((List (List Int)) × (Int × ((List (List Int)) × (Int × (Int × Unit))))) → Option (((List Int) × Unit) × (Unit × Unit))) (slices_1 : (List (List Int))) (size_2 : Int) (t9_3 : (List (List Int))) (t10_4 : Int) (t11_5 : Int) : Option (((List Int) × Unit) × (Unit × Unit)) :=
  (letR (Go.IntKind.wrap (Go.IntKind.i64) (size_2 + (((List.length (List.getD t9_3 (Int.toNat t11_5) ([] : List Int))) : Nat) : Int))) fun (v_6 : Int) =>
  (brR (decide (t11_5 < t10_4))
   (brR (Go.Pon.inR t11_5 (List.length t9_3))
    (brR (decide (v_6 < (0 : Int)))
     none
     (again_0 (slices_1, (v_6, (t9_3, (t10_4, ((Go.IntKind.wrap (Go.IntKind.i64) (t11_5 + (1 : Int))), ())))))))
    none)
   (Option.bind (c_slices_Grow_byte_byte ((), (size_2, ()))) (fun (y_7 : (((List Int) × Unit) × (Unit × (Unit × Unit)))) =>
    (L _ _ (fun again x => T_slices_Concat_byte_byte_loop1 again x.1 x.2.1 x.2.2.1 x.2.2.2.1) (y_7.1.1, (slices_1, ((((List.length slices_1) : Nat) : Int), ((0 : Int), ())))))))))

noncomputable def T_slices_Concat_byte_byte (L : LoopD) (c_slices_Grow_byte_byte : F_slices_Grow_byte_byte) (slices_ : (List (List Int))) : Option (((List Int) × Unit) × (Unit × Unit)) :=
  (L _ _ (fun again x => T_slices_Concat_byte_byte_loop0 L c_slices_Grow_byte_byte again x.1 x.2.1 x.2.2.1 x.2.2.2.1 x.2.2.2.2.1) (slices_, ((0 : Int), (slices_, ((((List.length slices_) : Nat) : Int), ((0 : Int), ()))))))

noncomputable def sol_slices_Concat_byte_byte : F_slices_Concat_byte_byte := fun x => T_slices_Concat_byte_byte bigLoop sol_slices_Grow_byte_byte x.1

/-- slices.Clone[[]byte,byte] -/
abbrev s_slices_Clone_byte_byte : Sig := ⟨[(.ro false (.slice (.int .u8)))], [(.own true (.int .u8))]⟩
abbrev F_slices_Clone_byte_byte := ((List Int) × Unit) → Option (((List Int) × Unit) × (Unit × Unit))

noncomputable def T_slices_Clone_byte_byte (L : LoopD) (s_ : (List Int)) : Option (((List Int) × Unit) × (Unit × Unit)) :=
  (brR (decide ((List.length s_) = (0 : Nat)))
   (bothR (some ((([] : List Int), ()), ((), ())))
    (brR (Go.Pon.roomy ((0 : Nat) + (List.length s_)) (Go.Pon.Ty.int Go.IntKind.u8))
     (some ((s_, ()), ((), ())))
     none))
   (brR (Go.Pon.roomy ((0 : Nat) + (List.length s_)) (Go.Pon.Ty.int Go.IntKind.u8))
    (some ((s_, ()), ((), ())))
    none))

noncomputable def sol_slices_Clone_byte_byte : F_slices_Clone_byte_byte := fun x => T_slices_Clone_byte_byte bigLoop x.1

end Go.Pon
/-
  What the functions of package wire compute (printed by a program of this work).
-/
set_option autoImplicit false
set_option linter.unusedVariables false
set_option maxRecDepth 100000
namespace Go.Pon
open Go

/-- pontage/wire.encode -/
abbrev s_wire_encode : Sig := ⟨[(.ro true (.arr 4 (.int .u64)))], [(.own true (.int .u8))]⟩
abbrev F_wire_encode := ((List Int) × Unit) → Option (((List Int) × Unit) × (Unit × Unit))

noncomputable def T_wire_encode_loop0 (again_2 : ((List Int) × ((List Int) × (Int × Unit))) → Option (((List Int) × Unit) × (Unit × Unit))) (n_3 : (List Int)) (out_4 : (List Int)) (i_5 : Int) : Option (((List Int) × Unit) × (Unit × Unit)) :=
  (letR (Go.IntKind.wrap (Go.IntKind.i64) ((8 : Int) * (Int.tmod i_5 (8 : Int)))) fun (v_6 : Int) =>
  (brR (decide (i_5 ≥ (0 : Int)))
   (brR (Go.Pon.inR (Go.IntKind.wrap (Go.IntKind.i64) (Int.tdiv i_5 (8 : Int))) (4 : Nat))
    (brR (decide ((0 : Int) ≤ v_6))
     (brR (Go.Pon.roomy ((List.length out_4) + (1 : Nat)) (Go.Pon.Ty.int Go.IntKind.u8))
      (again_2 (n_3, ((List.append out_4 [(Go.IntKind.wrap (Go.IntKind.u8) (Int.fdiv (List.getD n_3 (Int.toNat (Go.IntKind.wrap (Go.IntKind.i64) (Int.tdiv i_5 (8 : Int)))) (0 : Int)) ((2 : Int) ^ (min (Int.toNat v_6) (64 : Nat)))))]), ((Go.IntKind.wrap (Go.IntKind.i64) (i_5 - (1 : Int))), ()))))
      none)
     none)
    none)
   (some ((out_4, ()), ((), ())))))

noncomputable def T_wire_encode (L : LoopD) (c_uint256_BitLen : F_uint256_BitLen) (n_ : (List Int)) : Option (((List Int) × Unit) × (Unit × Unit)) :=
  (Option.bind (c_uint256_BitLen (n_, ())) (fun (y_0 : ((Int × Unit) × (Unit × Unit))) =>
   (letR (Go.IntKind.wrap (Go.IntKind.i64) (Int.tdiv (Go.IntKind.wrap (Go.IntKind.i64) (y_0.1.1 + (7 : Int))) (8 : Int))) fun (v_1 : Int) =>
   (L _ _ (fun again x => T_wire_encode_loop0 again x.1 x.2.1 x.2.2.1) (n_, ([(Go.IntKind.wrap (Go.IntKind.u8) v_1)], ((Go.IntKind.wrap (Go.IntKind.i64) (v_1 - (1 : Int))), ())))))))

noncomputable def sol_wire_encode : F_wire_encode := fun x => T_wire_encode bigLoop sol_uint256_BitLen x.1

/-- pontage/wire.AppendUint256 -/
abbrev s_wire_AppendUint256 : Sig := ⟨[(.ro false (.slice (.int .u8))), (.ro true (.arr 4 (.int .u64)))], [(.own true (.int .u8))]⟩
abbrev F_wire_AppendUint256 := ((List Int) × ((List Int) × Unit)) → Option (((List Int) × Unit) × (Unit × (Unit × Unit)))

noncomputable def T_wire_AppendUint256 (L : LoopD) (c_wire_encode : F_wire_encode) (c_slices_Concat_byte_byte : F_slices_Concat_byte_byte) (b_ : (List Int)) (n_ : (List Int)) : Option (((List Int) × Unit) × (Unit × (Unit × Unit))) :=
  (Option.bind (c_wire_encode (n_, ())) (fun (y_0 : (((List Int) × Unit) × (Unit × Unit))) =>
   (Option.bind (c_slices_Concat_byte_byte ([b_, y_0.1.1], ())) (fun (y_1 : (((List Int) × Unit) × (Unit × Unit))) =>
    (some ((y_1.1.1, ()), ((), ((), ()))))))))

noncomputable def sol_wire_AppendUint256 : F_wire_AppendUint256 := fun x => T_wire_AppendUint256 bigLoop sol_wire_encode sol_slices_Concat_byte_byte x.1 x.2.1

/-- pontage/wire.readUint -/
abbrev s_wire_readUint : Sig := ⟨[(.ro false (.slice (.int .u8))), (.ro true (.int .i64)), (.ro true (.int .i64))], [(.ro true (.arr 4 (.int .u64))), (.ro true (.int .i64)), (.ro true (.int .i64))]⟩
abbrev F_wire_readUint := ((List Int) × (Int × (Int × Unit))) → Option (((List Int) × (Int × (Int × Unit))) × (Unit × (Unit × (Unit × Unit))))

noncomputable def T_wire_readUint_loop0 (again_8 : (Int × ((List Int) × ((List Int) × (Int × ((List Int) × (Int × (Int × Unit))))))) → Option (((List Int) × (Int × (Int × Unit))) × (Unit × (Unit × (Unit × Unit))))) (at_9 : Int) (t6_10 : (List Int)) (rest_11 : (List Int)) (k_12 : Int) (n_13 : (List Int)) (t56_14 : Int) (t57_15 : Int) : Option (((List Int) × (Int × (Int × Unit))) × (Unit × (Unit × (Unit × Unit)))) :=
  (letR (Go.IntKind.wrap (Go.IntKind.i64) ((Go.IntKind.wrap (Go.IntKind.i64) (k_12 - (1 : Int))) - t57_15)) fun (v_16 : Int) =>
  (letR (Go.IntKind.wrap (Go.IntKind.i64) (Int.tdiv v_16 (8 : Int))) fun (v_17 : Int) =>
  (letR (Go.IntKind.wrap (Go.IntKind.i64) ((8 : Int) * (Int.tmod v_16 (8 : Int)))) fun (v_18 : Int) =>
  (brR (decide (t57_15 < t56_14))
   (brR (Go.Pon.inR v_17 (4 : Nat))
    (brR (Go.Pon.inR t57_15 (List.length rest_11))
     (brR (decide ((0 : Int) ≤ v_18))
      (brR (Go.Pon.inR v_17 (4 : Nat))
       (again_8 (at_9, (t6_10, (rest_11, (k_12, ((List.set n_13 (Int.toNat v_17) (Go.IntKind.wrap (Go.IntKind.u64) (((BitVec.toNat ((BitVec.ofInt (64 : Nat) (List.getD n_13 (Int.toNat v_17) (0 : Int))) ||| (BitVec.ofInt (64 : Nat) (Go.IntKind.wrap (Go.IntKind.u64) ((Go.IntKind.wrap (Go.IntKind.u64) (List.getD rest_11 (Int.toNat t57_15) (0 : Int))) * ((2 : Int) ^ (min (Int.toNat v_18) (64 : Nat)))))))) : Nat) : Int))), (t56_14, ((Go.IntKind.wrap (Go.IntKind.i64) (t57_15 + (1 : Int))), ()))))))))
       none)
      none)
     none)
    none)
   (some ((n_13, ((Go.IntKind.wrap (Go.IntKind.i64) ((Go.IntKind.wrap (Go.IntKind.i64) (at_9 + (1 : Int))) + k_12)), ((0 : Int), ()))), ((), ((), ((), ())))))))))

noncomputable def T_wire_readUint (L : LoopD) (b_ : (List Int)) (at_ : Int) (most_ : Int) : Option (((List Int) × (Int × (Int × Unit))) × (Unit × (Unit × (Unit × Unit)))) :=
  (letR (List.take ((List.length b_) - (Int.toNat at_)) (List.drop (Int.toNat at_) b_)) fun (v_0 : (List Int)) =>
  (letR (List.length v_0) fun (v_1 : Nat) =>
  (letR ((v_1 : Nat) : Int) fun (v_2 : Int) =>
  (letR (Go.IntKind.wrap (Go.IntKind.i64) (List.getD v_0 (0 : Nat) (0 : Int))) fun (v_3 : Int) =>
  (letR (Go.IntKind.wrap (Go.IntKind.i64) (List.getD v_0 (0 : Nat) (Go.Pon.Ty.zero (Go.Pon.Ty.int Go.IntKind.u8)))) fun (v_4 : Int) =>
  (letR (List.take (v_1 - (1 : Nat)) (List.drop (1 : Nat) v_0)) fun (v_5 : (List Int)) =>
  (letR (List.length v_5) fun (v_6 : Nat) =>
  (letR ((v_6 : Nat) : Int) fun (v_7 : Int) =>
  (brR (decide (at_ < (0 : Int)))
   (some (([(0 : Int), (0 : Int), (0 : Int), (0 : Int)], ((0 : Int), ((2 : Int), ()))), ((), ((), ((), ())))))
   (brR (decide (at_ > (((List.length b_) : Nat) : Int)))
    (some (([(0 : Int), (0 : Int), (0 : Int), (0 : Int)], ((0 : Int), ((2 : Int), ()))), ((), ((), ((), ())))))
    (brR ((decide ((0 : Int) ≤ at_)) && (decide (at_ ≤ (((List.length b_) : Nat) : Int))))
     (brR (decide (v_2 = (0 : Int)))
      (some (([(0 : Int), (0 : Int), (0 : Int), (0 : Int)], ((0 : Int), ((3 : Int), ()))), ((), ((), ((), ())))))
      (brR (Go.Pon.inR (0 : Int) v_1)
       (brR (decide ((1 : Int) ≤ v_2))
        (brR (decide (v_3 > most_))
         (some (([(0 : Int), (0 : Int), (0 : Int), (0 : Int)], ((0 : Int), ((3 : Int), ()))), ((), ((), ((), ())))))
         (brR (decide (v_3 > v_7))
          (some (([(0 : Int), (0 : Int), (0 : Int), (0 : Int)], ((0 : Int), ((3 : Int), ()))), ((), ((), ((), ())))))
          (brR (decide (v_3 > (0 : Int)))
           (brR (Go.Pon.inR (0 : Int) v_6)
            (brR (decide ((List.getD v_5 (0 : Nat) (0 : Int)) = (0 : Int)))
             (some (([(0 : Int), (0 : Int), (0 : Int), (0 : Int)], ((0 : Int), ((3 : Int), ()))), ((), ((), ((), ())))))
             (L _ _ (fun again x => T_wire_readUint_loop0 again x.1 x.2.1 x.2.2.1 x.2.2.2.1 x.2.2.2.2.1 x.2.2.2.2.2.1 x.2.2.2.2.2.2.1) (at_, ([(0 : Int), (0 : Int), (0 : Int), (0 : Int)], (v_5, (v_3, ([(0 : Int), (0 : Int), (0 : Int), (0 : Int)], (v_3, ((0 : Int), ())))))))))
            none)
           (L _ _ (fun again x => T_wire_readUint_loop0 again x.1 x.2.1 x.2.2.1 x.2.2.2.1 x.2.2.2.2.1 x.2.2.2.2.2.1 x.2.2.2.2.2.2.1) (at_, ([(0 : Int), (0 : Int), (0 : Int), (0 : Int)], (v_5, (v_3, ([(0 : Int), (0 : Int), (0 : Int), (0 : Int)], (v_3, ((0 : Int), ())))))))))))
        none)
       none))
     none)))))))))))

noncomputable def sol_wire_readUint : F_wire_readUint := fun x => T_wire_readUint bigLoop x.1 x.2.1 x.2.2.1

/-- pontage/wire.ReadUint256 -/
abbrev s_wire_ReadUint256 : Sig := ⟨[(.ro false (.slice (.int .u8))), (.ro true (.int .i64))], [(.ro true (.arr 4 (.int .u64))), (.ro true (.int .i64)), (.ro true (.int .i64))]⟩
abbrev F_wire_ReadUint256 := ((List Int) × (Int × Unit)) → Option (((List Int) × (Int × (Int × Unit))) × (Unit × (Unit × Unit)))

noncomputable def T_wire_ReadUint256 (L : LoopD) (c_wire_readUint : F_wire_readUint) (b_ : (List Int)) (at_ : Int) : Option (((List Int) × (Int × (Int × Unit))) × (Unit × (Unit × Unit))) :=
  (Option.bind (c_wire_readUint (b_, (at_, ((32 : Int), ())))) (fun (y_0 : (((List Int) × (Int × (Int × Unit))) × (Unit × (Unit × (Unit × Unit))))) =>
   (some ((y_0.1.1, (y_0.1.2.1, (y_0.1.2.2.1, ()))), ((), ((), ()))))))

noncomputable def sol_wire_ReadUint256 : F_wire_ReadUint256 := fun x => T_wire_ReadUint256 bigLoop sol_wire_readUint x.1 x.2.1

/-- pontage/wire.AppendUint64 -/
abbrev s_wire_AppendUint64 : Sig := ⟨[(.ro false (.slice (.int .u8))), (.ro true (.int .u64))], [(.own true (.int .u8))]⟩
abbrev F_wire_AppendUint64 := ((List Int) × (Int × Unit)) → Option (((List Int) × Unit) × (Unit × (Unit × Unit)))

noncomputable def T_wire_AppendUint64 (L : LoopD) (c_uint256_FromUint64 : F_uint256_FromUint64) (c_wire_AppendUint256 : F_wire_AppendUint256) (b_ : (List Int)) (n_ : Int) : Option (((List Int) × Unit) × (Unit × (Unit × Unit))) :=
  (Option.bind (c_uint256_FromUint64 (n_, ())) (fun (y_0 : (((List Int) × Unit) × (Unit × Unit))) =>
   (Option.bind (c_wire_AppendUint256 (b_, (y_0.1.1, ()))) (fun (y_1 : (((List Int) × Unit) × (Unit × (Unit × Unit)))) =>
    (some ((y_1.1.1, ()), ((), ((), ()))))))))

noncomputable def sol_wire_AppendUint64 : F_wire_AppendUint64 := fun x => T_wire_AppendUint64 bigLoop sol_uint256_FromUint64 sol_wire_AppendUint256 x.1 x.2.1

/-- pontage/wire.AppendBytes -/
abbrev s_wire_AppendBytes : Sig := ⟨[(.ro false (.slice (.int .u8))), (.ro false (.slice (.int .u8)))], [(.own true (.int .u8))]⟩
abbrev F_wire_AppendBytes := ((List Int) × ((List Int) × Unit)) → Option (((List Int) × Unit) × (Unit × (Unit × Unit)))

noncomputable def T_wire_AppendBytes (L : LoopD) (c_uint256_FromUint64 : F_uint256_FromUint64) (c_wire_encode : F_wire_encode) (c_slices_Concat_byte_byte : F_slices_Concat_byte_byte) (b_ : (List Int)) (x_ : (List Int)) : Option (((List Int) × Unit) × (Unit × (Unit × Unit))) :=
  (Option.bind (c_uint256_FromUint64 ((Go.IntKind.wrap (Go.IntKind.u64) (((List.length x_) : Nat) : Int)), ())) (fun (y_0 : (((List Int) × Unit) × (Unit × Unit))) =>
   (Option.bind (c_wire_encode (y_0.1.1, ())) (fun (y_1 : (((List Int) × Unit) × (Unit × Unit))) =>
    (Option.bind (c_slices_Concat_byte_byte ([b_, y_1.1.1, x_], ())) (fun (y_2 : (((List Int) × Unit) × (Unit × Unit))) =>
     (some ((y_2.1.1, ()), ((), ((), ()))))))))))

noncomputable def sol_wire_AppendBytes : F_wire_AppendBytes := fun x => T_wire_AppendBytes bigLoop sol_uint256_FromUint64 sol_wire_encode sol_slices_Concat_byte_byte x.1 x.2.1

/-- pontage/wire.AppendInt256 -/
abbrev s_wire_AppendInt256 : Sig := ⟨[(.ro false (.slice (.int .u8))), (.ro true (.pair .bool (.pair (.arr 4 (.int .u64)) .unit)))], [(.own true (.int .u8))]⟩
abbrev F_wire_AppendInt256 := ((List Int) × ((Bool × ((List Int) × Unit)) × Unit)) → Option (((List Int) × Unit) × (Unit × (Unit × Unit)))

noncomputable def T_wire_AppendInt256 (L : LoopD) (c_int256_Valid : F_int256_Valid) (c_slices_Clone_byte_byte : F_slices_Clone_byte_byte) (c_wire_encode : F_wire_encode) (c_slices_Concat_byte_byte : F_slices_Concat_byte_byte) (b_ : (List Int)) (a_ : (Bool × ((List Int) × Unit))) : Option (((List Int) × Unit) × (Unit × (Unit × Unit))) :=
  (Option.bind (c_int256_Valid (a_, ())) (fun (y_0 : ((Bool × Unit) × (Unit × Unit))) =>
   (brR (!y_0.1.1)
    (Option.bind (c_slices_Clone_byte_byte (b_, ())) (fun (y_1 : (((List Int) × Unit) × (Unit × Unit))) =>
     (some ((y_1.1.1, ()), ((), ((), ()))))))
    (brR a_.1
     (Option.bind (c_wire_encode (a_.2.1, ())) (fun (y_2 : (((List Int) × Unit) × (Unit × Unit))) =>
      (Option.bind (c_slices_Concat_byte_byte ([b_, [(1 : Int)], y_2.1.1], ())) (fun (y_3 : (((List Int) × Unit) × (Unit × Unit))) =>
       (some ((y_3.1.1, ()), ((), ((), ()))))))))
     (Option.bind (c_wire_encode (a_.2.1, ())) (fun (y_4 : (((List Int) × Unit) × (Unit × Unit))) =>
      (Option.bind (c_slices_Concat_byte_byte ([b_, [(0 : Int)], y_4.1.1], ())) (fun (y_5 : (((List Int) × Unit) × (Unit × Unit))) =>
       (some ((y_5.1.1, ()), ((), ((), ()))))))))))))

noncomputable def sol_wire_AppendInt256 : F_wire_AppendInt256 := fun x => T_wire_AppendInt256 bigLoop sol_int256_Valid sol_slices_Clone_byte_byte sol_wire_encode sol_slices_Concat_byte_byte x.1 x.2.1

/-- pontage/wire.ReadUint64 -/
abbrev s_wire_ReadUint64 : Sig := ⟨[(.ro false (.slice (.int .u8))), (.ro true (.int .i64))], [(.ro true (.int .u64)), (.ro true (.int .i64)), (.ro true (.int .i64))]⟩
abbrev F_wire_ReadUint64 := ((List Int) × (Int × Unit)) → Option ((Int × (Int × (Int × Unit))) × (Unit × (Unit × Unit)))

noncomputable def T_wire_ReadUint64 (L : LoopD) (c_wire_readUint : F_wire_readUint) (b_ : (List Int)) (at_ : Int) : Option ((Int × (Int × (Int × Unit))) × (Unit × (Unit × Unit))) :=
  (Option.bind (c_wire_readUint (b_, (at_, ((8 : Int), ())))) (fun (y_0 : (((List Int) × (Int × (Int × Unit))) × (Unit × (Unit × (Unit × Unit))))) =>
   (some (((List.getD y_0.1.1 (0 : Nat) (0 : Int)), (y_0.1.2.1, (y_0.1.2.2.1, ()))), ((), ((), ()))))))

noncomputable def sol_wire_ReadUint64 : F_wire_ReadUint64 := fun x => T_wire_ReadUint64 bigLoop sol_wire_readUint x.1 x.2.1

/-- pontage/wire.ReadBytes -/
abbrev s_wire_ReadBytes : Sig := ⟨[(.ro false (.slice (.int .u8))), (.ro true (.int .i64))], [(.own true (.int .u8)), (.ro true (.int .i64)), (.ro true (.int .i64))]⟩
abbrev F_wire_ReadBytes := ((List Int) × (Int × Unit)) → Option (((List Int) × (Int × (Int × Unit))) × (Unit × (Unit × Unit)))

noncomputable def T_wire_ReadBytes (L : LoopD) (c_wire_ReadUint64 : F_wire_ReadUint64) (c_slices_Clone_byte_byte : F_slices_Clone_byte_byte) (b_ : (List Int)) (at_ : Int) : Option (((List Int) × (Int × (Int × Unit))) × (Unit × (Unit × Unit))) :=
  (Option.bind (c_wire_ReadUint64 (b_, (at_, ()))) (fun (y_0 : ((Int × (Int × (Int × Unit))) × (Unit × (Unit × Unit)))) =>
   (letR (Go.IntKind.wrap (Go.IntKind.i64) (y_0.1.2.1 + (Go.IntKind.wrap (Go.IntKind.i64) y_0.1.1))) fun (v_1 : Int) =>
   (letR (Go.IntKind.wrap (Go.IntKind.i64) (y_0.1.2.1 + (Go.IntKind.wrap (Go.IntKind.i64) y_0.1.1))) fun (v_2 : Int) =>
   (brR (!(decide (y_0.1.2.2.1 = (0 : Int))))
    (some ((([] : List Int), ((0 : Int), (y_0.1.2.2.1, ()))), ((), ((), ()))))
    (brR (decide (y_0.1.1 > (Go.IntKind.wrap (Go.IntKind.u64) (Go.IntKind.wrap (Go.IntKind.i64) ((((List.length b_) : Nat) : Int) - y_0.1.2.1)))))
     (some ((([] : List Int), ((0 : Int), ((3 : Int), ()))), ((), ((), ()))))
     (brR (((decide ((0 : Int) ≤ y_0.1.2.1)) && (decide (y_0.1.2.1 ≤ v_1))) && (decide (v_1 ≤ (((List.length b_) : Nat) : Int))))
      (Option.bind (c_slices_Clone_byte_byte ((List.take ((Int.toNat v_1) - (Int.toNat y_0.1.2.1)) (List.drop (Int.toNat y_0.1.2.1) b_)), ())) (fun (y_3 : (((List Int) × Unit) × (Unit × Unit))) =>
       (some ((y_3.1.1, (v_1, ((0 : Int), ()))), ((), ((), ()))))))
      none)))))))

noncomputable def sol_wire_ReadBytes : F_wire_ReadBytes := fun x => T_wire_ReadBytes bigLoop sol_wire_ReadUint64 sol_slices_Clone_byte_byte x.1 x.2.1

/-- pontage/wire.ReadInt256 -/
abbrev s_wire_ReadInt256 : Sig := ⟨[(.ro false (.slice (.int .u8))), (.ro true (.int .i64))], [(.ro true (.pair .bool (.pair (.arr 4 (.int .u64)) .unit))), (.ro true (.int .i64)), (.ro true (.int .i64))]⟩
abbrev F_wire_ReadInt256 := ((List Int) × (Int × Unit)) → Option (((Bool × ((List Int) × Unit)) × (Int × (Int × Unit))) × (Unit × (Unit × Unit)))

noncomputable def T_wire_ReadInt256 (L : LoopD) (c_wire_ReadUint256 : F_wire_ReadUint256) (c_int256_Valid : F_int256_Valid) (b_ : (List Int)) (at_ : Int) : Option (((Bool × ((List Int) × Unit)) × (Int × (Int × Unit))) × (Unit × (Unit × Unit))) :=
  (brR (decide (at_ < (0 : Int)))
   (some (((false, ([(0 : Int), (0 : Int), (0 : Int), (0 : Int)], ())), ((0 : Int), ((2 : Int), ()))), ((), ((), ()))))
   (brR (decide (at_ > (((List.length b_) : Nat) : Int)))
    (some (((false, ([(0 : Int), (0 : Int), (0 : Int), (0 : Int)], ())), ((0 : Int), ((2 : Int), ()))), ((), ((), ()))))
    (brR (decide (at_ = (((List.length b_) : Nat) : Int)))
     (some (((false, ([(0 : Int), (0 : Int), (0 : Int), (0 : Int)], ())), ((0 : Int), ((3 : Int), ()))), ((), ((), ()))))
     (brR (Go.Pon.inR at_ (List.length b_))
      (brR (decide ((List.getD b_ (Int.toNat at_) (0 : Int)) > (1 : Int)))
       (some (((false, ([(0 : Int), (0 : Int), (0 : Int), (0 : Int)], ())), ((0 : Int), ((3 : Int), ()))), ((), ((), ()))))
       (Option.bind (c_wire_ReadUint256 (b_, ((Go.IntKind.wrap (Go.IntKind.i64) (at_ + (1 : Int))), ()))) (fun (y_0 : (((List Int) × (Int × (Int × Unit))) × (Unit × (Unit × Unit)))) =>
        (brR (Go.Pon.inR at_ (List.length b_))
         (brR (!(decide (y_0.1.2.2.1 = (0 : Int))))
          (some (((false, ([(0 : Int), (0 : Int), (0 : Int), (0 : Int)], ())), ((0 : Int), ((3 : Int), ()))), ((), ((), ()))))
          (Option.bind (c_int256_Valid (((decide ((List.getD b_ (Int.toNat at_) (0 : Int)) = (1 : Int))), (y_0.1.1, ())), ())) (fun (y_1 : ((Bool × Unit) × (Unit × Unit))) =>
           (brR (!y_1.1.1)
            (some (((false, ([(0 : Int), (0 : Int), (0 : Int), (0 : Int)], ())), ((0 : Int), ((3 : Int), ()))), ((), ((), ()))))
            (some ((((decide ((List.getD b_ (Int.toNat at_) (0 : Int)) = (1 : Int))), (y_0.1.1, ())), (y_0.1.2.1, ((0 : Int), ()))), ((), ((), ()))))))))
         none))))
      none))))

noncomputable def sol_wire_ReadInt256 : F_wire_ReadInt256 := fun x => T_wire_ReadInt256 bigLoop sol_wire_ReadUint256 sol_int256_Valid x.1 x.2.1

end Go.Pon
/-
  What the functions of package law6 compute (printed by a program of this work).
-/
set_option autoImplicit false
set_option linter.unusedVariables false
set_option maxRecDepth 100000
namespace Go.Pon
open Go

/-- pontage/pontagelaw6.awake -/
abbrev s_law6_awake : Sig := ⟨[], [(.ro true .bool)]⟩
abbrev F_law6_awake := Unit → Option ((Bool × Unit) × Unit)

noncomputable def T_law6_awake (L : LoopD) (c_wire_AppendUint256 : F_wire_AppendUint256) (c_wire_ReadUint256 : F_wire_ReadUint256) : Option ((Bool × Unit) × Unit) :=
  (Option.bind (c_wire_AppendUint256 (([] : List Int), ([(258 : Int), (0 : Int), (0 : Int), (0 : Int)], ()))) (fun (y_0 : (((List Int) × Unit) × (Unit × (Unit × Unit)))) =>
   (letR (List.length y_0.1.1) fun (v_1 : Nat) =>
   (Option.bind (c_wire_ReadUint256 ([(1 : Int), (0 : Int)], ((0 : Int), ()))) (fun (y_2 : (((List Int) × (Int × (Int × Unit))) × (Unit × (Unit × Unit)))) =>
    (Option.bind (c_wire_AppendUint256 (([] : List Int), ([(0 : Int), (0 : Int), (0 : Int), (0 : Int)], ()))) (fun (y_3 : (((List Int) × Unit) × (Unit × (Unit × Unit)))) =>
     (letR (List.length y_3.1.1) fun (v_4 : Nat) =>
     (brR (decide (((v_1 : Nat) : Int) = (3 : Int)))
      (brR (Go.Pon.inR (0 : Int) v_1)
       (brR (decide ((List.getD y_0.1.1 (0 : Nat) (0 : Int)) = (2 : Int)))
        (brR (Go.Pon.inR (1 : Int) v_1)
         (brR (decide ((List.getD y_0.1.1 (1 : Nat) (0 : Int)) = (1 : Int)))
          (brR (Go.Pon.inR (2 : Int) v_1)
           (brR (decide ((List.getD y_0.1.1 (2 : Nat) (0 : Int)) = (2 : Int)))
            (brR (decide (y_2.1.2.2.1 = (3 : Int)))
             (brR (decide (((v_4 : Nat) : Int) = (1 : Int)))
              (brR (Go.Pon.inR (0 : Int) v_4)
               (some (((decide ((List.getD y_3.1.1 (0 : Nat) (0 : Int)) = (0 : Int))), ()), ()))
               none)
              (some ((false, ()), ())))
             (some ((false, ()), ())))
            (some ((false, ()), ())))
           none)
          (some ((false, ()), ())))
         none)
        (some ((false, ()), ())))
       none)
      (some ((false, ()), ())))))))))))

noncomputable def sol_law6_awake : F_law6_awake := fun x => T_law6_awake bigLoop sol_wire_AppendUint256 sol_wire_ReadUint256

/-- pontage/pontagelaw6.WireAppend -/
abbrev s_law6_WireAppend : Sig := ⟨[(.ro false (.slice (.int .u8))), (.ro true (.arr 4 (.int .u64))), (.ro true (.int .u64)), (.ro false (.slice (.int .u8))), (.ro true (.pair .bool (.pair (.arr 4 (.int .u64)) .unit)))], [(.ro true .bool)]⟩
abbrev F_law6_WireAppend := ((List Int) × ((List Int) × (Int × ((List Int) × ((Bool × ((List Int) × Unit)) × Unit))))) → Option ((Bool × Unit) × (Unit × (Unit × (Unit × (Unit × (Unit × Unit))))))

noncomputable def T_law6_WireAppend (L : LoopD) (c_law6_awake : F_law6_awake) (c_wire_AppendUint256 : F_wire_AppendUint256) (c_ref6_AppendUint256 : F_ref6_AppendUint256) (c_law0_EqualBytes : F_law0_EqualBytes) (c_wire_AppendUint64 : F_wire_AppendUint64) (c_ref6_AppendUint64 : F_ref6_AppendUint64) (c_wire_AppendBytes : F_wire_AppendBytes) (c_ref6_AppendBytes : F_ref6_AppendBytes) (c_wire_AppendInt256 : F_wire_AppendInt256) (c_ref6_AppendInt256 : F_ref6_AppendInt256) (b_ : (List Int)) (n_ : (List Int)) (m_ : Int) (x_ : (List Int)) (a_ : (Bool × ((List Int) × Unit))) : Option ((Bool × Unit) × (Unit × (Unit × (Unit × (Unit × (Unit × Unit)))))) :=
  (brR (decide ((((List.length b_) : Nat) : Int) > (300 : Int)))
   (Option.bind (c_law6_awake ()) (fun (y_0 : ((Bool × Unit) × Unit)) =>
    (some ((y_0.1.1, ()), ((), ((), ((), ((), ((), ())))))))))
   (brR (decide ((((List.length x_) : Nat) : Int) > (300 : Int)))
    (Option.bind (c_law6_awake ()) (fun (y_1 : ((Bool × Unit) × Unit)) =>
     (some ((y_1.1.1, ()), ((), ((), ((), ((), ((), ())))))))))
    (Option.bind (c_wire_AppendUint256 (b_, (n_, ()))) (fun (y_2 : (((List Int) × Unit) × (Unit × (Unit × Unit)))) =>
     (Option.bind (c_ref6_AppendUint256 (b_, (n_, ()))) (fun (y_3 : (((List Int) × Unit) × (Unit × (Unit × Unit)))) =>
      (Option.bind (c_law0_EqualBytes (y_2.1.1, (y_3.1.1, ()))) (fun (y_4 : ((Bool × Unit) × (Unit × (Unit × Unit)))) =>
       (brR y_4.1.1
        (Option.bind (c_wire_AppendUint64 (b_, (m_, ()))) (fun (y_5 : (((List Int) × Unit) × (Unit × (Unit × Unit)))) =>
         (Option.bind (c_ref6_AppendUint64 (b_, (m_, ()))) (fun (y_6 : (((List Int) × Unit) × (Unit × (Unit × Unit)))) =>
          (Option.bind (c_law0_EqualBytes (y_5.1.1, (y_6.1.1, ()))) (fun (y_7 : ((Bool × Unit) × (Unit × (Unit × Unit)))) =>
           (brR y_7.1.1
            (Option.bind (c_wire_AppendBytes (b_, (x_, ()))) (fun (y_8 : (((List Int) × Unit) × (Unit × (Unit × Unit)))) =>
             (Option.bind (c_ref6_AppendBytes (b_, (x_, ()))) (fun (y_9 : (((List Int) × Unit) × (Unit × (Unit × Unit)))) =>
              (Option.bind (c_law0_EqualBytes (y_8.1.1, (y_9.1.1, ()))) (fun (y_10 : ((Bool × Unit) × (Unit × (Unit × Unit)))) =>
               (brR y_10.1.1
                (Option.bind (c_wire_AppendInt256 (b_, (a_, ()))) (fun (y_11 : (((List Int) × Unit) × (Unit × (Unit × Unit)))) =>
                 (Option.bind (c_ref6_AppendInt256 (b_, (a_, ()))) (fun (y_12 : (((List Int) × Unit) × (Unit × (Unit × Unit)))) =>
                  (Option.bind (c_law0_EqualBytes (y_11.1.1, (y_12.1.1, ()))) (fun (y_13 : ((Bool × Unit) × (Unit × (Unit × Unit)))) =>
                   (brR y_13.1.1
                    (Option.bind (c_wire_AppendUint64 (([] : List Int), ((Int.tmod m_ (300 : Int)), ()))) (fun (y_14 : (((List Int) × Unit) × (Unit × (Unit × Unit)))) =>
                     (Option.bind (c_ref6_AppendUint64 (([] : List Int), ((Int.tmod m_ (300 : Int)), ()))) (fun (y_15 : (((List Int) × Unit) × (Unit × (Unit × Unit)))) =>
                      (Option.bind (c_law0_EqualBytes (y_14.1.1, (y_15.1.1, ()))) (fun (y_16 : ((Bool × Unit) × (Unit × (Unit × Unit)))) =>
                       (brR y_16.1.1
                        (Option.bind (c_law6_awake ()) (fun (y_17 : ((Bool × Unit) × Unit)) =>
                         (some ((y_17.1.1, ()), ((), ((), ((), ((), ((), ())))))))))
                        (some ((false, ()), ((), ((), ((), ((), ((), ()))))))))))))))
                    (some ((false, ()), ((), ((), ((), ((), ((), ()))))))))))))))
                (some ((false, ()), ((), ((), ((), ((), ((), ()))))))))))))))
            (some ((false, ()), ((), ((), ((), ((), ((), ()))))))))))))))
        (some ((false, ()), ((), ((), ((), ((), ((), ()))))))))))))))))

noncomputable def sol_law6_WireAppend : F_law6_WireAppend := fun x => T_law6_WireAppend bigLoop sol_law6_awake sol_wire_AppendUint256 sol_ref6_AppendUint256 sol_law0_EqualBytes sol_wire_AppendUint64 sol_ref6_AppendUint64 sol_wire_AppendBytes sol_ref6_AppendBytes sol_wire_AppendInt256 sol_ref6_AppendInt256 x.1 x.2.1 x.2.2.1 x.2.2.2.1 x.2.2.2.2.1

/-- pontage/pontagelaw6.WireCanonical -/
abbrev s_law6_WireCanonical : Sig := ⟨[(.ro false (.slice (.int .u8))), (.ro true (.int .i64))], [(.ro true .bool)]⟩
abbrev F_law6_WireCanonical := ((List Int) × (Int × Unit)) → Option ((Bool × Unit) × (Unit × (Unit × Unit)))

noncomputable def T_law6_WireCanonical (L : LoopD) (c_law6_awake : F_law6_awake) (c_law0_Mod : F_law0_Mod) (c_wire_ReadUint256 : F_wire_ReadUint256) (c_wire_AppendUint256 : F_wire_AppendUint256) (c_law0_EqualBytes : F_law0_EqualBytes) (c_wire_ReadBytes : F_wire_ReadBytes) (c_wire_AppendBytes : F_wire_AppendBytes) (c_wire_ReadInt256 : F_wire_ReadInt256) (c_wire_AppendInt256 : F_wire_AppendInt256) (b_ : (List Int)) (at_ : Int) : Option ((Bool × Unit) × (Unit × (Unit × Unit))) :=
  (brR (decide ((((List.length b_) : Nat) : Int) > (300 : Int)))
   (Option.bind (c_law6_awake ()) (fun (y_0 : ((Bool × Unit) × Unit)) =>
    (some ((y_0.1.1, ()), ((), ((), ()))))))
   (Option.bind (c_law0_Mod (at_, ((Go.IntKind.wrap (Go.IntKind.i64) ((((List.length b_) : Nat) : Int) + (1 : Int))), ()))) (fun (y_1 : ((Int × Unit) × (Unit × (Unit × Unit)))) =>
    (letR (List.drop (Int.toNat y_1.1.1) b_) fun (v_2 : (List Int)) =>
    (Option.bind (c_wire_ReadUint256 (b_, (y_1.1.1, ()))) (fun (y_3 : (((List Int) × (Int × (Int × Unit))) × (Unit × (Unit × Unit)))) =>
     (brR (decide (y_3.1.2.2.1 = (0 : Int)))
      (brR (decide (y_3.1.2.1 < y_1.1.1))
       (some ((false, ()), ((), ((), ()))))
       (brR (decide (y_3.1.2.1 > (((List.length b_) : Nat) : Int)))
        (some ((false, ()), ((), ((), ()))))
        (Option.bind (c_wire_AppendUint256 (([] : List Int), (y_3.1.1, ()))) (fun (y_4 : (((List Int) × Unit) × (Unit × (Unit × Unit)))) =>
         (brR (((decide ((0 : Int) ≤ y_1.1.1)) && (decide (y_1.1.1 ≤ y_3.1.2.1))) && (decide (y_3.1.2.1 ≤ (((List.length b_) : Nat) : Int))))
          (Option.bind (c_law0_EqualBytes (y_4.1.1, ((List.take ((Int.toNat y_3.1.2.1) - (Int.toNat y_1.1.1)) v_2), ()))) (fun (y_5 : ((Bool × Unit) × (Unit × (Unit × Unit)))) =>
           (brR (!y_5.1.1)
            (some ((false, ()), ((), ((), ()))))
            (Option.bind (c_wire_ReadBytes (b_, (y_1.1.1, ()))) (fun (y_6 : (((List Int) × (Int × (Int × Unit))) × (Unit × (Unit × Unit)))) =>
             (brR (decide (y_6.1.2.2.1 = (0 : Int)))
              (brR (decide (y_6.1.2.1 < y_1.1.1))
               (some ((false, ()), ((), ((), ()))))
               (brR (decide (y_6.1.2.1 > (((List.length b_) : Nat) : Int)))
                (some ((false, ()), ((), ((), ()))))
                (Option.bind (c_wire_AppendBytes (([] : List Int), (y_6.1.1, ()))) (fun (y_7 : (((List Int) × Unit) × (Unit × (Unit × Unit)))) =>
                 (brR (((decide ((0 : Int) ≤ y_1.1.1)) && (decide (y_1.1.1 ≤ y_6.1.2.1))) && (decide (y_6.1.2.1 ≤ (((List.length b_) : Nat) : Int))))
                  (Option.bind (c_law0_EqualBytes (y_7.1.1, ((List.take ((Int.toNat y_6.1.2.1) - (Int.toNat y_1.1.1)) v_2), ()))) (fun (y_8 : ((Bool × Unit) × (Unit × (Unit × Unit)))) =>
                   (brR (!y_8.1.1)
                    (some ((false, ()), ((), ((), ()))))
                    (Option.bind (c_wire_ReadInt256 (b_, (y_1.1.1, ()))) (fun (y_9 : (((Bool × ((List Int) × Unit)) × (Int × (Int × Unit))) × (Unit × (Unit × Unit)))) =>
                     (brR (decide (y_9.1.2.2.1 = (0 : Int)))
                      (brR (decide (y_9.1.2.1 < y_1.1.1))
                       (some ((false, ()), ((), ((), ()))))
                       (brR (decide (y_9.1.2.1 > (((List.length b_) : Nat) : Int)))
                        (some ((false, ()), ((), ((), ()))))
                        (Option.bind (c_wire_AppendInt256 (([] : List Int), (y_9.1.1, ()))) (fun (y_10 : (((List Int) × Unit) × (Unit × (Unit × Unit)))) =>
                         (brR (((decide ((0 : Int) ≤ y_1.1.1)) && (decide (y_1.1.1 ≤ y_9.1.2.1))) && (decide (y_9.1.2.1 ≤ (((List.length b_) : Nat) : Int))))
                          (Option.bind (c_law0_EqualBytes (y_10.1.1, ((List.take ((Int.toNat y_9.1.2.1) - (Int.toNat y_1.1.1)) v_2), ()))) (fun (y_11 : ((Bool × Unit) × (Unit × (Unit × Unit)))) =>
                           (brR (!y_11.1.1)
                            (some ((false, ()), ((), ((), ()))))
                            (Option.bind (c_law6_awake ()) (fun (y_12 : ((Bool × Unit) × Unit)) =>
                             (some ((y_12.1.1, ()), ((), ((), ())))))))))
                          none)))))
                      (Option.bind (c_law6_awake ()) (fun (y_13 : ((Bool × Unit) × Unit)) =>
                       (some ((y_13.1.1, ()), ((), ((), ()))))))))))))
                  none)))))
              (Option.bind (c_wire_ReadInt256 (b_, (y_1.1.1, ()))) (fun (y_14 : (((Bool × ((List Int) × Unit)) × (Int × (Int × Unit))) × (Unit × (Unit × Unit)))) =>
               (brR (decide (y_14.1.2.2.1 = (0 : Int)))
                (brR (decide (y_14.1.2.1 < y_1.1.1))
                 (some ((false, ()), ((), ((), ()))))
                 (brR (decide (y_14.1.2.1 > (((List.length b_) : Nat) : Int)))
                  (some ((false, ()), ((), ((), ()))))
                  (Option.bind (c_wire_AppendInt256 (([] : List Int), (y_14.1.1, ()))) (fun (y_15 : (((List Int) × Unit) × (Unit × (Unit × Unit)))) =>
                   (brR (((decide ((0 : Int) ≤ y_1.1.1)) && (decide (y_1.1.1 ≤ y_14.1.2.1))) && (decide (y_14.1.2.1 ≤ (((List.length b_) : Nat) : Int))))
                    (Option.bind (c_law0_EqualBytes (y_15.1.1, ((List.take ((Int.toNat y_14.1.2.1) - (Int.toNat y_1.1.1)) v_2), ()))) (fun (y_16 : ((Bool × Unit) × (Unit × (Unit × Unit)))) =>
                     (brR (!y_16.1.1)
                      (some ((false, ()), ((), ((), ()))))
                      (Option.bind (c_law6_awake ()) (fun (y_17 : ((Bool × Unit) × Unit)) =>
                       (some ((y_17.1.1, ()), ((), ((), ())))))))))
                    none)))))
                (Option.bind (c_law6_awake ()) (fun (y_18 : ((Bool × Unit) × Unit)) =>
                 (some ((y_18.1.1, ()), ((), ((), ())))))))))))))))
          none)))))
      (Option.bind (c_wire_ReadBytes (b_, (y_1.1.1, ()))) (fun (y_19 : (((List Int) × (Int × (Int × Unit))) × (Unit × (Unit × Unit)))) =>
       (brR (decide (y_19.1.2.2.1 = (0 : Int)))
        (brR (decide (y_19.1.2.1 < y_1.1.1))
         (some ((false, ()), ((), ((), ()))))
         (brR (decide (y_19.1.2.1 > (((List.length b_) : Nat) : Int)))
          (some ((false, ()), ((), ((), ()))))
          (Option.bind (c_wire_AppendBytes (([] : List Int), (y_19.1.1, ()))) (fun (y_20 : (((List Int) × Unit) × (Unit × (Unit × Unit)))) =>
           (brR (((decide ((0 : Int) ≤ y_1.1.1)) && (decide (y_1.1.1 ≤ y_19.1.2.1))) && (decide (y_19.1.2.1 ≤ (((List.length b_) : Nat) : Int))))
            (Option.bind (c_law0_EqualBytes (y_20.1.1, ((List.take ((Int.toNat y_19.1.2.1) - (Int.toNat y_1.1.1)) v_2), ()))) (fun (y_21 : ((Bool × Unit) × (Unit × (Unit × Unit)))) =>
             (brR (!y_21.1.1)
              (some ((false, ()), ((), ((), ()))))
              (Option.bind (c_wire_ReadInt256 (b_, (y_1.1.1, ()))) (fun (y_22 : (((Bool × ((List Int) × Unit)) × (Int × (Int × Unit))) × (Unit × (Unit × Unit)))) =>
               (brR (decide (y_22.1.2.2.1 = (0 : Int)))
                (brR (decide (y_22.1.2.1 < y_1.1.1))
                 (some ((false, ()), ((), ((), ()))))
                 (brR (decide (y_22.1.2.1 > (((List.length b_) : Nat) : Int)))
                  (some ((false, ()), ((), ((), ()))))
                  (Option.bind (c_wire_AppendInt256 (([] : List Int), (y_22.1.1, ()))) (fun (y_23 : (((List Int) × Unit) × (Unit × (Unit × Unit)))) =>
                   (brR (((decide ((0 : Int) ≤ y_1.1.1)) && (decide (y_1.1.1 ≤ y_22.1.2.1))) && (decide (y_22.1.2.1 ≤ (((List.length b_) : Nat) : Int))))
                    (Option.bind (c_law0_EqualBytes (y_23.1.1, ((List.take ((Int.toNat y_22.1.2.1) - (Int.toNat y_1.1.1)) v_2), ()))) (fun (y_24 : ((Bool × Unit) × (Unit × (Unit × Unit)))) =>
                     (brR (!y_24.1.1)
                      (some ((false, ()), ((), ((), ()))))
                      (Option.bind (c_law6_awake ()) (fun (y_25 : ((Bool × Unit) × Unit)) =>
                       (some ((y_25.1.1, ()), ((), ((), ())))))))))
                    none)))))
                (Option.bind (c_law6_awake ()) (fun (y_26 : ((Bool × Unit) × Unit)) =>
                 (some ((y_26.1.1, ()), ((), ((), ()))))))))))))
            none)))))
        (Option.bind (c_wire_ReadInt256 (b_, (y_1.1.1, ()))) (fun (y_27 : (((Bool × ((List Int) × Unit)) × (Int × (Int × Unit))) × (Unit × (Unit × Unit)))) =>
         (brR (decide (y_27.1.2.2.1 = (0 : Int)))
          (brR (decide (y_27.1.2.1 < y_1.1.1))
           (some ((false, ()), ((), ((), ()))))
           (brR (decide (y_27.1.2.1 > (((List.length b_) : Nat) : Int)))
            (some ((false, ()), ((), ((), ()))))
            (Option.bind (c_wire_AppendInt256 (([] : List Int), (y_27.1.1, ()))) (fun (y_28 : (((List Int) × Unit) × (Unit × (Unit × Unit)))) =>
             (brR (((decide ((0 : Int) ≤ y_1.1.1)) && (decide (y_1.1.1 ≤ y_27.1.2.1))) && (decide (y_27.1.2.1 ≤ (((List.length b_) : Nat) : Int))))
              (Option.bind (c_law0_EqualBytes (y_28.1.1, ((List.take ((Int.toNat y_27.1.2.1) - (Int.toNat y_1.1.1)) v_2), ()))) (fun (y_29 : ((Bool × Unit) × (Unit × (Unit × Unit)))) =>
               (brR (!y_29.1.1)
                (some ((false, ()), ((), ((), ()))))
                (Option.bind (c_law6_awake ()) (fun (y_30 : ((Bool × Unit) × Unit)) =>
                 (some ((y_30.1.1, ()), ((), ((), ())))))))))
              none)))))
          (Option.bind (c_law6_awake ()) (fun (y_31 : ((Bool × Unit) × Unit)) =>
           (some ((y_31.1.1, ()), ((), ((), ())))))))))))))))))))

noncomputable def sol_law6_WireCanonical : F_law6_WireCanonical := fun x => T_law6_WireCanonical bigLoop sol_law6_awake sol_law0_Mod sol_wire_ReadUint256 sol_wire_AppendUint256 sol_law0_EqualBytes sol_wire_ReadBytes sol_wire_AppendBytes sol_wire_ReadInt256 sol_wire_AppendInt256 x.1 x.2.1

/-- pontage/pontagelaw6.WireMalformed -/
abbrev s_law6_WireMalformed : Sig := ⟨[(.ro true (.int .u64)), (.ro true (.int .u64)), (.ro true (.int .i64)), (.ro true (.int .i64)), (.ro true (.int .u8))], [(.ro true .bool)]⟩
abbrev F_law6_WireMalformed := (Int × (Int × (Int × (Int × (Int × Unit))))) → Option ((Bool × Unit) × (Unit × (Unit × (Unit × (Unit × (Unit × Unit))))))

noncomputable def T_law6_WireMalformed (L : LoopD) (c_law0_EdgeUint256 : F_law0_EdgeUint256) (c_wire_AppendUint256 : F_wire_AppendUint256) (c_law0_Mod : F_law0_Mod) (c_wire_ReadUint256 : F_wire_ReadUint256) (c_wire_ReadUint64 : F_wire_ReadUint64) (c_law6_awake : F_law6_awake) (a_ : Int) (b_ : Int) (shape_ : Int) (cut_ : Int) (count_ : Int) : Option ((Bool × Unit) × (Unit × (Unit × (Unit × (Unit × (Unit × Unit)))))) :=
  (Option.bind (c_law0_EdgeUint256 (a_, (b_, (shape_, ())))) (fun (y_0 : (((List Int) × Unit) × (Unit × (Unit × (Unit × Unit))))) =>
   (Option.bind (c_wire_AppendUint256 (([] : List Int), (y_0.1.1, ()))) (fun (y_1 : (((List Int) × Unit) × (Unit × (Unit × Unit)))) =>
    (letR (List.length y_1.1.1) fun (v_2 : Nat) =>
    (letR ((v_2 : Nat) : Int) fun (v_3 : Int) =>
    (letR (((List.length y_1.1.1) : Nat) : Int) fun (v_4 : Int) =>
    (letR (List.take (v_2 - (1 : Nat)) (List.drop (1 : Nat) y_1.1.1)) fun (v_5 : (List Int)) =>
    (brR (decide (v_3 = (0 : Int)))
     (some ((false, ()), ((), ((), ((), ((), ((), ())))))))
     (Option.bind (c_law0_Mod (cut_, (v_3, ()))) (fun (y_6 : ((Int × Unit) × (Unit × (Unit × Unit)))) =>
      (brR ((decide ((0 : Int) ≤ y_6.1.1)) && (decide (y_6.1.1 ≤ v_3)))
       (Option.bind (c_wire_ReadUint256 ((List.take ((Int.toNat y_6.1.1) - (0 : Nat)) (List.drop (0 : Nat) y_1.1.1)), ((0 : Int), ()))) (fun (y_7 : (((List Int) × (Int × (Int × Unit))) × (Unit × (Unit × Unit)))) =>
        (brR (Go.Pon.inR (0 : Int) v_2)
         (brR (decide ((1 : Int) ≤ v_3))
          (brR (Go.Pon.roomy ((2 : Nat) + (List.length v_5)) (Go.Pon.Ty.int Go.IntKind.u8))
           (Option.bind (c_wire_ReadUint256 ((List.append [(Go.IntKind.wrap (Go.IntKind.u8) ((List.getD y_1.1.1 (0 : Nat) (0 : Int)) + (1 : Int))), (0 : Int)] v_5), ((0 : Int), ()))) (fun (y_8 : (((List Int) × (Int × (Int × Unit))) × (Unit × (Unit × Unit)))) =>
            (Option.bind (c_wire_ReadUint256 ((List.append [(Go.IntKind.wrap (Go.IntKind.u8) ((33 : Int) + (Int.tmod count_ (223 : Int)))), (1 : Int)] (List.replicate (260 : Nat) (0 : Int))), ((0 : Int), ()))) (fun (y_9 : (((List Int) × (Int × (Int × Unit))) × (Unit × (Unit × Unit)))) =>
             (Option.bind (c_wire_ReadUint64 ((List.append [(Go.IntKind.wrap (Go.IntKind.u8) ((9 : Int) + (Int.tmod count_ (24 : Int)))), (1 : Int)] (List.replicate (40 : Nat) (0 : Int))), ((0 : Int), ()))) (fun (y_10 : ((Int × (Int × (Int × Unit))) × (Unit × (Unit × Unit)))) =>
              (brR (decide (y_7.1.2.2.1 = (3 : Int)))
               (brR (decide (y_8.1.2.2.1 = (3 : Int)))
                (brR (decide (y_9.1.2.2.1 = (3 : Int)))
                 (brR (decide (y_10.1.2.2.1 = (3 : Int)))
                  (Option.bind (c_law6_awake ()) (fun (y_11 : ((Bool × Unit) × Unit)) =>
                   (some ((y_11.1.1, ()), ((), ((), ((), ((), ((), ())))))))))
                  (some ((false, ()), ((), ((), ((), ((), ((), ()))))))))
                 (some ((false, ()), ((), ((), ((), ((), ((), ()))))))))
                (some ((false, ()), ((), ((), ((), ((), ((), ()))))))))
               (some ((false, ()), ((), ((), ((), ((), ((), ()))))))))))))))
           none)
          none)
         none)))
       none))))))))))))

noncomputable def sol_law6_WireMalformed : F_law6_WireMalformed := fun x => T_law6_WireMalformed bigLoop sol_law0_EdgeUint256 sol_wire_AppendUint256 sol_law0_Mod sol_wire_ReadUint256 sol_wire_ReadUint64 sol_law6_awake x.1 x.2.1 x.2.2.1 x.2.2.2.1 x.2.2.2.2.1

/-- pontage/pontagelaw6.bytesAndIntsAgree -/
abbrev s_law6_bytesAndIntsAgree : Sig := ⟨[(.ro false (.slice (.int .u8))), (.ro true (.int .i64))], [(.ro true .bool)]⟩
abbrev F_law6_bytesAndIntsAgree := ((List Int) × (Int × Unit)) → Option ((Bool × Unit) × (Unit × (Unit × Unit)))

noncomputable def T_law6_bytesAndIntsAgree (L : LoopD) (c_wire_ReadBytes : F_wire_ReadBytes) (c_ref6_ReadBytes : F_ref6_ReadBytes) (c_wire_ReadInt256 : F_wire_ReadInt256) (c_ref6_ReadInt256 : F_ref6_ReadInt256) (c_law0_EqualBytes : F_law0_EqualBytes) (b_ : (List Int)) (k_ : Int) : Option ((Bool × Unit) × (Unit × (Unit × Unit))) :=
  (Option.bind (c_wire_ReadBytes (b_, (k_, ()))) (fun (y_0 : (((List Int) × (Int × (Int × Unit))) × (Unit × (Unit × Unit)))) =>
   (Option.bind (c_ref6_ReadBytes (b_, (k_, ()))) (fun (y_1 : (((List Int) × (Int × (Int × Unit))) × (Unit × (Unit × Unit)))) =>
    (Option.bind (c_wire_ReadInt256 (b_, (k_, ()))) (fun (y_2 : (((Bool × ((List Int) × Unit)) × (Int × (Int × Unit))) × (Unit × (Unit × Unit)))) =>
     (Option.bind (c_ref6_ReadInt256 (b_, (k_, ()))) (fun (y_3 : (((Bool × ((List Int) × Unit)) × (Int × (Int × Unit))) × (Unit × (Unit × Unit)))) =>
      (Option.bind (c_law0_EqualBytes (y_0.1.1, (y_1.1.1, ()))) (fun (y_4 : ((Bool × Unit) × (Unit × (Unit × Unit)))) =>
       (brR y_4.1.1
        (brR (decide (y_0.1.2.1 = y_1.1.2.1))
         (brR (decide (y_0.1.2.2.1 = y_1.1.2.2.1))
          (brR (Go.Pon.eqD (Go.Pon.Ty.bool.pair ((Go.Pon.Ty.arr 4 (Go.Pon.Ty.int Go.IntKind.u64)).pair Go.Pon.Ty.unit)) y_2.1.1 y_3.1.1)
           (brR (decide (y_2.1.2.1 = y_3.1.2.1))
            (some (((decide (y_2.1.2.2.1 = y_3.1.2.2.1)), ()), ((), ((), ()))))
            (some ((false, ()), ((), ((), ())))))
           (some ((false, ()), ((), ((), ())))))
          (some ((false, ()), ((), ((), ())))))
         (some ((false, ()), ((), ((), ())))))
        (some ((false, ()), ((), ((), ())))))))))))))))

noncomputable def sol_law6_bytesAndIntsAgree : F_law6_bytesAndIntsAgree := fun x => T_law6_bytesAndIntsAgree bigLoop sol_wire_ReadBytes sol_ref6_ReadBytes sol_wire_ReadInt256 sol_ref6_ReadInt256 sol_law0_EqualBytes x.1 x.2.1

/-- pontage/pontagelaw6.WireRead -/
abbrev s_law6_WireRead : Sig := ⟨[(.ro false (.slice (.int .u8))), (.ro true (.int .i64))], [(.ro true .bool)]⟩
abbrev F_law6_WireRead := ((List Int) × (Int × Unit)) → Option ((Bool × Unit) × (Unit × (Unit × Unit)))

noncomputable def T_law6_WireRead_loop0 (c_wire_ReadUint256 : F_wire_ReadUint256) (c_ref6_ReadUint256 : F_ref6_ReadUint256) (c_wire_ReadUint64 : F_wire_ReadUint64) (c_ref6_ReadUint64 : F_ref6_ReadUint64) (c_law6_bytesAndIntsAgree : F_law6_bytesAndIntsAgree) (c_law6_awake : F_law6_awake) (again_2 : ((List Int) × ((List Int) × (Int × Unit))) → Option ((Bool × Unit) × (Unit × (Unit × Unit)))) (b_3 : (List Int)) (t29_4 : (List Int)) (t30_5 : Int) : Option ((Bool × Unit) × (Unit × (Unit × Unit))) :=
  (brR (decide (t30_5 < (2 : Int)))
   (brR (Go.Pon.inR t30_5 (2 : Nat))
    (Option.bind (c_wire_ReadUint256 (b_3, ((List.getD t29_4 (Int.toNat t30_5) (0 : Int)), ()))) (fun (y_6 : (((List Int) × (Int × (Int × Unit))) × (Unit × (Unit × Unit)))) =>
     (Option.bind (c_ref6_ReadUint256 (b_3, ((List.getD t29_4 (Int.toNat t30_5) (0 : Int)), ()))) (fun (y_7 : (((List Int) × (Int × (Int × Unit))) × (Unit × (Unit × Unit)))) =>
      (Option.bind (c_wire_ReadUint64 (b_3, ((List.getD t29_4 (Int.toNat t30_5) (0 : Int)), ()))) (fun (y_8 : ((Int × (Int × (Int × Unit))) × (Unit × (Unit × Unit)))) =>
       (Option.bind (c_ref6_ReadUint64 (b_3, ((List.getD t29_4 (Int.toNat t30_5) (0 : Int)), ()))) (fun (y_9 : ((Int × (Int × (Int × Unit))) × (Unit × (Unit × Unit)))) =>
        (brR (!(Go.Pon.eqD (Go.Pon.Ty.arr 4 (Go.Pon.Ty.int Go.IntKind.u64)) y_6.1.1 y_7.1.1))
         (some ((false, ()), ((), ((), ()))))
         (brR (!(decide (y_6.1.2.1 = y_7.1.2.1)))
          (some ((false, ()), ((), ((), ()))))
          (brR (!(decide (y_6.1.2.2.1 = y_7.1.2.2.1)))
           (some ((false, ()), ((), ((), ()))))
           (brR (!(decide (y_8.1.1 = y_9.1.1)))
            (some ((false, ()), ((), ((), ()))))
            (brR (!(decide (y_8.1.2.1 = y_9.1.2.1)))
             (some ((false, ()), ((), ((), ()))))
             (brR (!(decide (y_8.1.2.2.1 = y_9.1.2.2.1)))
              (some ((false, ()), ((), ((), ()))))
              (Option.bind (c_law6_bytesAndIntsAgree (b_3, ((List.getD t29_4 (Int.toNat t30_5) (0 : Int)), ()))) (fun (y_10 : ((Bool × Unit) × (Unit × (Unit × Unit)))) =>
               (brR (!y_10.1.1)
                (some ((false, ()), ((), ((), ()))))
                (again_2 (b_3, (t29_4, ((Go.IntKind.wrap (Go.IntKind.i64) (t30_5 + (1 : Int))), ())))))))))))))))))))))
    none)
   (Option.bind (c_law6_awake ()) (fun (y_11 : ((Bool × Unit) × Unit)) =>
    (some ((y_11.1.1, ()), ((), ((), ())))))))

noncomputable def T_law6_WireRead (L : LoopD) (c_law6_awake : F_law6_awake) (c_law0_Mod : F_law0_Mod) (c_wire_ReadUint256 : F_wire_ReadUint256) (c_ref6_ReadUint256 : F_ref6_ReadUint256) (c_wire_ReadUint64 : F_wire_ReadUint64) (c_ref6_ReadUint64 : F_ref6_ReadUint64) (c_law6_bytesAndIntsAgree : F_law6_bytesAndIntsAgree) (b_ : (List Int)) (at_ : Int) : Option ((Bool × Unit) × (Unit × (Unit × Unit))) :=
  (brR (decide ((((List.length b_) : Nat) : Int) > (600 : Int)))
   (Option.bind (c_law6_awake ()) (fun (y_0 : ((Bool × Unit) × Unit)) =>
    (some ((y_0.1.1, ()), ((), ((), ()))))))
   (Option.bind (c_law0_Mod (at_, ((Go.IntKind.wrap (Go.IntKind.i64) ((((List.length b_) : Nat) : Int) + (1 : Int))), ()))) (fun (y_1 : ((Int × Unit) × (Unit × (Unit × Unit)))) =>
    (L _ _ (fun again x => T_law6_WireRead_loop0 c_wire_ReadUint256 c_ref6_ReadUint256 c_wire_ReadUint64 c_ref6_ReadUint64 c_law6_bytesAndIntsAgree c_law6_awake again x.1 x.2.1 x.2.2.1) (b_, ([at_, y_1.1.1], ((0 : Int), ())))))))

noncomputable def sol_law6_WireRead : F_law6_WireRead := fun x => T_law6_WireRead bigLoop sol_law6_awake sol_law0_Mod sol_wire_ReadUint256 sol_ref6_ReadUint256 sol_wire_ReadUint64 sol_ref6_ReadUint64 sol_law6_bytesAndIntsAgree x.1 x.2.1

/-- pontage/pontagelaw6.WireRoundTrip -/
abbrev s_law6_WireRoundTrip : Sig := ⟨[(.ro false (.slice (.int .u8))), (.ro false (.slice (.int .u8))), (.ro false (.slice (.int .u8))), (.ro true (.arr 4 (.int .u64))), (.ro true (.int .u64)), (.ro true (.pair .bool (.pair (.arr 4 (.int .u64)) .unit)))], [(.ro true .bool)]⟩
abbrev F_law6_WireRoundTrip := ((List Int) × ((List Int) × ((List Int) × ((List Int) × (Int × ((Bool × ((List Int) × Unit)) × Unit)))))) → Option ((Bool × Unit) × (Unit × (Unit × (Unit × (Unit × (Unit × (Unit × Unit)))))))

noncomputable def T_law6_WireRoundTrip (L : LoopD) (c_law6_awake : F_law6_awake) (c_wire_AppendUint256 : F_wire_AppendUint256) (c_wire_AppendUint64 : F_wire_AppendUint64) (c_wire_AppendBytes : F_wire_AppendBytes) (c_wire_AppendInt256 : F_wire_AppendInt256) (c_wire_ReadUint256 : F_wire_ReadUint256) (c_wire_ReadUint64 : F_wire_ReadUint64) (c_wire_ReadBytes : F_wire_ReadBytes) (c_law0_EqualBytes : F_law0_EqualBytes) (c_wire_ReadInt256 : F_wire_ReadInt256) (ahead_ : (List Int)) (x_ : (List Int)) (behind_ : (List Int)) (n_ : (List Int)) (m_ : Int) (a_ : (Bool × ((List Int) × Unit))) : Option ((Bool × Unit) × (Unit × (Unit × (Unit × (Unit × (Unit × (Unit × Unit))))))) :=
  (brR (decide ((((List.length ahead_) : Nat) : Int) > (200 : Int)))
   (Option.bind (c_law6_awake ()) (fun (y_0 : ((Bool × Unit) × Unit)) =>
    (some ((y_0.1.1, ()), ((), ((), ((), ((), ((), ((), ()))))))))))
   (brR (decide ((((List.length x_) : Nat) : Int) > (200 : Int)))
    (Option.bind (c_law6_awake ()) (fun (y_1 : ((Bool × Unit) × Unit)) =>
     (some ((y_1.1.1, ()), ((), ((), ((), ((), ((), ((), ()))))))))))
    (brR (decide ((((List.length behind_) : Nat) : Int) > (200 : Int)))
     (Option.bind (c_law6_awake ()) (fun (y_2 : ((Bool × Unit) × Unit)) =>
      (some ((y_2.1.1, ()), ((), ((), ((), ((), ((), ((), ()))))))))))
     (Option.bind (c_wire_AppendUint256 (ahead_, (n_, ()))) (fun (y_3 : (((List Int) × Unit) × (Unit × (Unit × Unit)))) =>
      (letR (((List.length y_3.1.1) : Nat) : Int) fun (v_4 : Int) =>
      (Option.bind (c_wire_AppendUint64 (y_3.1.1, (m_, ()))) (fun (y_5 : (((List Int) × Unit) × (Unit × (Unit × Unit)))) =>
       (letR (((List.length y_5.1.1) : Nat) : Int) fun (v_6 : Int) =>
       (Option.bind (c_wire_AppendBytes (y_5.1.1, (x_, ()))) (fun (y_7 : (((List Int) × Unit) × (Unit × (Unit × Unit)))) =>
        (letR (((List.length y_7.1.1) : Nat) : Int) fun (v_8 : Int) =>
        (letR (((List.length y_7.1.1) : Nat) : Int) fun (v_9 : Int) =>
        (Option.bind (c_wire_AppendInt256 (y_7.1.1, (a_, ()))) (fun (y_10 : (((List Int) × Unit) × (Unit × (Unit × Unit)))) =>
         (letR (List.length y_10.1.1) fun (v_11 : Nat) =>
         (letR (List.append y_10.1.1 behind_) fun (v_12 : (List Int)) =>
         (letR ((v_11 : Nat) : Int) fun (v_13 : Int) =>
         (letR (((List.length y_10.1.1) : Nat) : Int) fun (v_14 : Int) =>
         (brR (Go.Pon.roomy (v_11 + (List.length behind_)) (Go.Pon.Ty.int Go.IntKind.u8))
          (Option.bind (c_wire_ReadUint256 (v_12, ((((List.length ahead_) : Nat) : Int), ()))) (fun (y_15 : (((List Int) × (Int × (Int × Unit))) × (Unit × (Unit × Unit)))) =>
           (Option.bind (c_wire_ReadUint64 (v_12, (v_4, ()))) (fun (y_16 : ((Int × (Int × (Int × Unit))) × (Unit × (Unit × Unit)))) =>
            (Option.bind (c_wire_ReadBytes (v_12, (v_6, ()))) (fun (y_17 : (((List Int) × (Int × (Int × Unit))) × (Unit × (Unit × Unit)))) =>
             (brR (!(Go.Pon.eqD (Go.Pon.Ty.arr 4 (Go.Pon.Ty.int Go.IntKind.u64)) y_15.1.1 n_))
              (some ((false, ()), ((), ((), ((), ((), ((), ((), ()))))))))
              (brR (!(decide (y_15.1.2.1 = v_4)))
               (some ((false, ()), ((), ((), ((), ((), ((), ((), ()))))))))
               (brR (!(decide (y_15.1.2.2.1 = (0 : Int))))
                (some ((false, ()), ((), ((), ((), ((), ((), ((), ()))))))))
                (brR (!(decide (y_16.1.1 = m_)))
                 (some ((false, ()), ((), ((), ((), ((), ((), ((), ()))))))))
                 (brR (!(decide (y_16.1.2.1 = v_6)))
                  (some ((false, ()), ((), ((), ((), ((), ((), ((), ()))))))))
                  (brR (!(decide (y_16.1.2.2.1 = (0 : Int))))
                   (some ((false, ()), ((), ((), ((), ((), ((), ((), ()))))))))
                   (Option.bind (c_law0_EqualBytes (y_17.1.1, (x_, ()))) (fun (y_18 : ((Bool × Unit) × (Unit × (Unit × Unit)))) =>
                    (brR (!y_18.1.1)
                     (some ((false, ()), ((), ((), ((), ((), ((), ((), ()))))))))
                     (brR (!(decide (y_17.1.2.1 = v_8)))
                      (some ((false, ()), ((), ((), ((), ((), ((), ((), ()))))))))
                      (brR (!(decide (y_17.1.2.2.1 = (0 : Int))))
                       (some ((false, ()), ((), ((), ((), ((), ((), ((), ()))))))))
                       (brR a_.1
                        (brR (Go.Pon.eqD (Go.Pon.Ty.arr 4 (Go.Pon.Ty.int Go.IntKind.u64)) a_.2.1 [(0 : Int), (0 : Int), (0 : Int), (0 : Int)])
                         (brR (decide (v_13 = v_8))
                          (Option.bind (c_law6_awake ()) (fun (y_19 : ((Bool × Unit) × Unit)) =>
                           (some ((y_19.1.1, ()), ((), ((), ((), ((), ((), ((), ()))))))))))
                          (some ((false, ()), ((), ((), ((), ((), ((), ((), ())))))))))
                         (Option.bind (c_wire_ReadInt256 (v_12, (v_8, ()))) (fun (y_20 : (((Bool × ((List Int) × Unit)) × (Int × (Int × Unit))) × (Unit × (Unit × Unit)))) =>
                          (brR (Go.Pon.eqD (Go.Pon.Ty.bool.pair ((Go.Pon.Ty.arr 4 (Go.Pon.Ty.int Go.IntKind.u64)).pair Go.Pon.Ty.unit)) y_20.1.1 a_)
                           (brR (decide (y_20.1.2.1 = v_13))
                            (brR (decide (y_20.1.2.2.1 = (0 : Int)))
                             (Option.bind (c_law6_awake ()) (fun (y_21 : ((Bool × Unit) × Unit)) =>
                              (some ((y_21.1.1, ()), ((), ((), ((), ((), ((), ((), ()))))))))))
                             (some ((false, ()), ((), ((), ((), ((), ((), ((), ())))))))))
                            (some ((false, ()), ((), ((), ((), ((), ((), ((), ())))))))))
                           (some ((false, ()), ((), ((), ((), ((), ((), ((), ()))))))))))))
                        (Option.bind (c_wire_ReadInt256 (v_12, (v_8, ()))) (fun (y_22 : (((Bool × ((List Int) × Unit)) × (Int × (Int × Unit))) × (Unit × (Unit × Unit)))) =>
                         (brR (Go.Pon.eqD (Go.Pon.Ty.bool.pair ((Go.Pon.Ty.arr 4 (Go.Pon.Ty.int Go.IntKind.u64)).pair Go.Pon.Ty.unit)) y_22.1.1 a_)
                          (brR (decide (y_22.1.2.1 = v_13))
                           (brR (decide (y_22.1.2.2.1 = (0 : Int)))
                            (Option.bind (c_law6_awake ()) (fun (y_23 : ((Bool × Unit) × Unit)) =>
                             (some ((y_23.1.1, ()), ((), ((), ((), ((), ((), ((), ()))))))))))
                            (some ((false, ()), ((), ((), ((), ((), ((), ((), ())))))))))
                           (some ((false, ()), ((), ((), ((), ((), ((), ((), ())))))))))
                          (some ((false, ()), ((), ((), ((), ((), ((), ((), ())))))))))))))))))))))))))))))
          none))))))))))))))))))))

noncomputable def sol_law6_WireRoundTrip : F_law6_WireRoundTrip := fun x => T_law6_WireRoundTrip bigLoop sol_law6_awake sol_wire_AppendUint256 sol_wire_AppendUint64 sol_wire_AppendBytes sol_wire_AppendInt256 sol_wire_ReadUint256 sol_wire_ReadUint64 sol_wire_ReadBytes sol_law0_EqualBytes sol_wire_ReadInt256 x.1 x.2.1 x.2.2.1 x.2.2.2.1 x.2.2.2.2.1 x.2.2.2.2.2.1

/-- pontage/pontagelaw6.WireSequences -/
abbrev s_law6_WireSequences : Sig := ⟨[(.ro false (.slice (.arr 4 (.int .u64)))), (.ro false (.slice (.int .u8)))], [(.ro true .bool)]⟩
abbrev F_law6_WireSequences := ((List (List Int)) × ((List Int) × Unit)) → Option ((Bool × Unit) × (Unit × (Unit × Unit)))

noncomputable def T_law6_WireSequences_loop1 (c_wire_ReadUint256 : F_wire_ReadUint256) (c_law6_awake : F_law6_awake) (again_16 : ((List (List Int)) × ((List Int) × (Int × (Int × Unit)))) → Option ((Bool × Unit) × (Unit × (Unit × Unit)))) (l_17 : (List (List Int))) (b_18 : (List Int)) (at_19 : Int) (i_20 : Int) : Option ((Bool × Unit) × (Unit × (Unit × Unit))) :=
  (letR (((List.length l_17) : Nat) : Int) fun (v_21 : Int) =>
  (brR (decide (i_20 < v_21))
   (Option.bind (c_wire_ReadUint256 (b_18, (at_19, ()))) (fun (y_22 : (((List Int) × (Int × (Int × Unit))) × (Unit × (Unit × Unit)))) =>
    (brR (Go.Pon.inR i_20 (List.length l_17))
     (brR (!(Go.Pon.eqD (Go.Pon.Ty.arr 4 (Go.Pon.Ty.int Go.IntKind.u64)) y_22.1.1 (List.getD l_17 (Int.toNat i_20) [(0 : Int), (0 : Int), (0 : Int), (0 : Int)])))
      (some ((false, ()), ((), ((), ()))))
      (brR (!(decide (y_22.1.2.2.1 = (0 : Int))))
       (some ((false, ()), ((), ((), ()))))
       (brR (decide (y_22.1.2.1 ≤ at_19))
        (some ((false, ()), ((), ((), ()))))
        (again_16 (l_17, (b_18, (y_22.1.2.1, ((Go.IntKind.wrap (Go.IntKind.i64) (i_20 + (1 : Int))), ()))))))))
     none)))
   (brR (decide (at_19 = (((List.length b_18) : Nat) : Int)))
    (Option.bind (c_law6_awake ()) (fun (y_23 : ((Bool × Unit) × Unit)) =>
     (some ((y_23.1.1, ()), ((), ((), ()))))))
    (some ((false, ()), ((), ((), ())))))))

noncomputable def T_law6_WireSequences_loop0 (L : LoopD) (c_wire_AppendUint256 : F_wire_AppendUint256) (c_uint256_BitLen : F_uint256_BitLen) (c_wire_ReadUint256 : F_wire_ReadUint256) (c_law6_awake : F_law6_awake) (again_5 : ((List (List Int)) × ((List Int) × (Int × (Int × (Int × Unit))))) → Option ((Bool × Unit) × (Unit × (Unit × Unit)))) (l_6 : (List (List Int))) (b_7 : (List Int)) (at_8 : Int) (size_9 : Int) (i_10 : Int) : Option ((Bool × Unit) × (Unit × (Unit × Unit))) :=
  (letR (((List.length l_6) : Nat) : Int) fun (v_11 : Int) =>
  (letR (Go.IntKind.wrap (Go.IntKind.i64) (size_9 + (1 : Int))) fun (v_12 : Int) =>
  (brR (decide (i_10 < v_11))
   (brR (Go.Pon.inR i_10 (List.length l_6))
    (Option.bind (c_wire_AppendUint256 (b_7, ((List.getD l_6 (Int.toNat i_10) [(0 : Int), (0 : Int), (0 : Int), (0 : Int)]), ()))) (fun (y_13 : (((List Int) × Unit) × (Unit × (Unit × Unit)))) =>
     (brR (Go.Pon.inR i_10 (List.length l_6))
      (Option.bind (c_uint256_BitLen ((List.getD l_6 (Int.toNat i_10) [(0 : Int), (0 : Int), (0 : Int), (0 : Int)]), ())) (fun (y_14 : ((Int × Unit) × (Unit × Unit))) =>
       (letR (Go.IntKind.wrap (Go.IntKind.i64) (v_12 + (Go.IntKind.wrap (Go.IntKind.i64) (Int.tdiv (Go.IntKind.wrap (Go.IntKind.i64) (y_14.1.1 + (7 : Int))) (8 : Int))))) fun (v_15 : Int) =>
       (brR (!(decide ((((List.length y_13.1.1) : Nat) : Int) = v_15)))
        (some ((false, ()), ((), ((), ()))))
        (again_5 (l_6, (y_13.1.1, (at_8, (v_15, ((Go.IntKind.wrap (Go.IntKind.i64) (i_10 + (1 : Int))), ()))))))))))
      none)))
    none)
   (L _ _ (fun again x => T_law6_WireSequences_loop1 c_wire_ReadUint256 c_law6_awake again x.1 x.2.1 x.2.2.1 x.2.2.2.1) (l_6, (b_7, (at_8, ((0 : Int), ()))))))))

noncomputable def T_law6_WireSequences (L : LoopD) (c_law6_awake : F_law6_awake) (c_wire_AppendBytes : F_wire_AppendBytes) (c_wire_AppendUint256 : F_wire_AppendUint256) (c_uint256_BitLen : F_uint256_BitLen) (c_wire_ReadUint256 : F_wire_ReadUint256) (l_ : (List (List Int))) (ahead_ : (List Int)) : Option ((Bool × Unit) × (Unit × (Unit × Unit))) :=
  (letR (((List.length l_) : Nat) : Int) fun (v_0 : Int) =>
  (brR (decide (v_0 > (40 : Int)))
   (Option.bind (c_law6_awake ()) (fun (y_1 : ((Bool × Unit) × Unit)) =>
    (some ((y_1.1.1, ()), ((), ((), ()))))))
   (brR (decide ((((List.length ahead_) : Nat) : Int) > (100 : Int)))
    (Option.bind (c_law6_awake ()) (fun (y_2 : ((Bool × Unit) × Unit)) =>
     (some ((y_2.1.1, ()), ((), ((), ()))))))
    (Option.bind (c_wire_AppendBytes (([] : List Int), (ahead_, ()))) (fun (y_3 : (((List Int) × Unit) × (Unit × (Unit × Unit)))) =>
     (letR (((List.length y_3.1.1) : Nat) : Int) fun (v_4 : Int) =>
     (L _ _ (fun again x => T_law6_WireSequences_loop0 L c_wire_AppendUint256 c_uint256_BitLen c_wire_ReadUint256 c_law6_awake again x.1 x.2.1 x.2.2.1 x.2.2.2.1 x.2.2.2.2.1) (l_, (y_3.1.1, (v_4, (v_4, ((0 : Int), ()))))))))))))

noncomputable def sol_law6_WireSequences : F_law6_WireSequences := fun x => T_law6_WireSequences bigLoop sol_law6_awake sol_wire_AppendBytes sol_wire_AppendUint256 sol_uint256_BitLen sol_wire_ReadUint256 x.1 x.2.1

end Go.Pon
/-
  Plain lemmas: branches, loops, numbers of a kind, lists.
-/
set_option autoImplicit false
set_option linter.unusedVariables false
namespace Go.Pon
open Go

/-! ### Branches -/

theorem brR_ite {α : Type} (c : Bool) (t e : Option α) : brR c t e = if c = true then t else e := by cases c <;> rfl
theorem brR_dec {α : Type} (p : Prop) [Decidable p] (t e : Option α) : brR (decide p) t e = if p then t else e := by
  rw [brR_ite]; by_cases h : p <;> simp [h]
theorem brR_not {α : Type} (c : Bool) (t e : Option α) : brR (!c) t e = brR c e t := by cases c <;> rfl
theorem brR_and {α : Type} (a b : Bool) (t e : Option α) : brR (a && b) t e = brR a (brR b t e) e := by cases a <;> rfl
theorem brR_or {α : Type} (a b : Bool) (t e : Option α) : brR (a || b) t e = brR a t (brR b t e) := by cases a <;> rfl
theorem brR_inR {α : Type} (i : Int) (n : Nat) (t e : Option α) : brR (inR i n) t e = if 0 ≤ i ∧ i < n then t else e := by
  unfold inR; rw [brR_and, brR_dec, brR_dec]; by_cases h1 : 0 ≤ i <;> by_cases h2 : i < n <;> simp [h1, h2]

theorem bind_some' {α β : Type} (a : α) (f : α → Option β) : Option.bind (some a) f = f a := rfl

/-- Room for so many elements. -/
theorem roomy_dec {n : Nat} {t : Ty} : roomy n t = decide (0 < t.size ∧ n * (24 * t.size) ≤ 140737488355328) := by
  unfold roomy
  by_cases h : 0 < t.size
  · simp [h]
  · simp [h]

theorem brR_roomy {α : Type} (n : Nat) (t : Ty) (a b : Option α) : brR (roomy n t) a b = if 0 < t.size ∧ n * (24 * t.size) ≤ 140737488355328 then a else b := by
  rw [roomy_dec, brR_dec]

/-! ### Loops -/

/-- A loop's result, by an invariant, a measure and a guess that each round keeps. -/
theorem bigLoop_rule {ω δ : Type} {round : (δ → Option ω) → δ → Option ω} (I : δ → Prop) (m : δ → Nat) (g : δ → Option ω)
    (h : ∀ x (again : δ → Option ω), I x → (∀ y, I y → m y < m x → again y = g y) → round again x = g x) {x : δ} (hx : I x) (hm : m x < bigN) : bigLoop ω δ round x = g x := by
  have key : ∀ n x, I x → m x < n → loopN round n x = g x := by
    intro n
    induction n with
    | zero => intro x _ hm; omega
    | succ n ih =>
      intro x hx hm
      rw [loopN_succ]
      exact h x _ hx fun y hy hlt => ih y hy (by omega)
  rw [bigLoop_def]
  exact key bigN x hx hm

theorem bigN_eq : bigN = 18446744073709551616 := rfl

/-- So many rounds, one by one. -/
theorem bigLoop_add {ω δ : Type} {round : (δ → Option ω) → δ → Option ω} (k : Nat) (hk : k ≤ bigN) (x : δ) : ∃ n, bigLoop ω δ round x = loopN round (n + k) x :=
  ⟨bigN - k, by rw [Nat.sub_add_cancel hk, bigLoop_def]⟩

/-! ### Numbers of a kind -/

theorem w_i64 {n : Int} (h1 : -9223372036854775808 ≤ n) (h2 : n ≤ 9223372036854775807) : IntKind.i64.wrap n = n := by rw [IntKind.wrap_i64]; omega
theorem w_u64 {n : Int} (h1 : 0 ≤ n) (h2 : n ≤ 18446744073709551615) : IntKind.u64.wrap n = n := by rw [IntKind.wrap_u64]; omega
theorem w_u32 {n : Int} (h1 : 0 ≤ n) (h2 : n ≤ 4294967295) : IntKind.u32.wrap n = n := by rw [IntKind.wrap_u32]; omega
theorem w_u16 {n : Int} (h1 : 0 ≤ n) (h2 : n ≤ 65535) : IntKind.u16.wrap n = n := by rw [IntKind.wrap_u16]; omega
theorem w_u8 {n : Int} (h1 : 0 ≤ n) (h2 : n ≤ 255) : IntKind.u8.wrap n = n := by rw [IntKind.wrap_u8]; omega

theorem tdiv_pos {a b : Int} (h : 0 ≤ a) : Int.tdiv a b = a / b := Int.tdiv_eq_ediv_of_nonneg h
theorem tmod_pos {a b : Int} (h : 0 ≤ a) : Int.tmod a b = a % b := Int.tmod_eq_emod_of_nonneg h

theorem inK_u64 {n : Int} : inK .u64 n ↔ 0 ≤ n ∧ n ≤ 18446744073709551615 := by simp [inK, IntKind.min, IntKind.max, IntKind.signed, IntKind.bits]
theorem inK_u8 {n : Int} : inK .u8 n ↔ 0 ≤ n ∧ n ≤ 255 := by simp [inK, IntKind.min, IntKind.max, IntKind.signed, IntKind.bits]
theorem inK_u16 {n : Int} : inK .u16 n ↔ 0 ≤ n ∧ n ≤ 65535 := by simp [inK, IntKind.min, IntKind.max, IntKind.signed, IntKind.bits]
theorem inK_u32 {n : Int} : inK .u32 n ↔ 0 ≤ n ∧ n ≤ 4294967295 := by simp [inK, IntKind.min, IntKind.max, IntKind.signed, IntKind.bits]
theorem inK_i64 {n : Int} : inK .i64 n ↔ -9223372036854775808 ≤ n ∧ n ≤ 9223372036854775807 := by simp [inK, IntKind.min, IntKind.max, IntKind.signed, IntKind.bits]

/-! ### Equality of data -/

theorem eqD_dec (t : Ty) (x y : t.den) [Decidable (x = y)] : eqD t x y = decide (x = y) := by
  rw [Bool.eq_iff_iff, eqD_iff]; simp

theorem brR_eqD {α : Type} (t : Ty) (x y : t.den) [Decidable (x = y)] (a b : Option α) : brR (eqD t x y) a b = if x = y then a else b := by rw [eqD_dec, brR_dec]

/-! ### Lists -/

theorem getD_mem {α : Type} {l : List α} {i : Nat} {d : α} (h : i < l.length) : List.getD l i d ∈ l := by
  rw [List.getD_eq_getElem?_getD, List.getElem?_eq_getElem h]; simp

theorem getD_all {p : Int → Prop} {l : List Int} (h : ∀ x ∈ l, p x) (h0 : p 0) (i : Nat) : p (List.getD l i 0) := by
  rcases Nat.lt_or_ge i l.length with hi | hi
  · exact h _ (getD_mem hi)
  · rw [List.getD_eq_getElem?_getD, List.getElem?_eq_none hi]; exact h0

theorem append_def {α : Type} (l m : List α) : List.append l m = l ++ m := rfl

end Go.Pon
/-
  Plain lemmas: numbers in four limbs, their bytes, their length in bits.
-/
set_option autoImplicit false
set_option linter.unusedVariables false
namespace Go.Pon
open Go

/-! ### The length in bits -/

def bitlen (n : Nat) : Nat := if n = 0 then 0 else Nat.log2 n + 1

theorem bitlen_zero : bitlen 0 = 0 := rfl

theorem lt_bitlen (n : Nat) : n < 2 ^ bitlen n := by
  unfold bitlen
  by_cases h : n = 0
  · subst h; simp
  · rw [if_neg h]; exact Nat.lt_log2_self

theorem bitlen_le {n b : Nat} : bitlen n ≤ b ↔ n < 2 ^ b := by
  unfold bitlen
  by_cases h : n = 0
  · subst h; simp [Nat.two_pow_pos]
  · rw [if_neg h, Nat.succ_le_iff, Nat.log2_lt h]

theorem bitlen_pos {n : Nat} : 0 < bitlen n ↔ n ≠ 0 := by
  unfold bitlen
  by_cases h : n = 0 <;> simp [h]

/-- The one length that fits. -/
theorem bitlen_eq {n b : Nat} (h1 : n < 2 ^ b) (h2 : ∀ c, c < b → 2 ^ c ≤ n) : bitlen n = b := by
  rcases Nat.lt_trichotomy (bitlen n) b with h | h | h
  · have := h2 _ h
    have := lt_bitlen n
    omega
  · exact h
  · have := bitlen_le.2 h1
    omega

theorem bitlen_div {n k : Nat} (h : 2 ^ k ≤ n) : bitlen n = k + bitlen (n / 2 ^ k) := by
  have hpos : 0 < 2 ^ k := Nat.two_pow_pos k
  have h1 : n / 2 ^ k ≠ 0 := by
    have : 1 ≤ n / 2 ^ k := (Nat.le_div_iff_mul_le hpos).2 (by omega)
    omega
  refine bitlen_eq ?_ fun c hc => ?_
  · have := lt_bitlen (n / 2 ^ k)
    rw [Nat.div_lt_iff_lt_mul hpos, ← Nat.pow_add] at this
    rwa [Nat.add_comm] at this
  · rcases Nat.lt_or_ge c k with hck | hck
    · exact Nat.le_trans (Nat.pow_le_pow_right (by omega) (by omega)) h
    · have h2 : ¬ (n / 2 ^ k) < 2 ^ (c - k) := fun hh => by
        have := bitlen_le.2 hh
        omega
      have h3 : 2 ^ (c - k) ≤ n / 2 ^ k := by omega
      rw [Nat.le_div_iff_mul_le hpos, ← Nat.pow_add] at h3
      rwa [Nat.sub_add_cancel hck] at h3

/-! ### Four limbs -/

def lim (n : Nat) : List Int := [((n % 18446744073709551616 : Nat) : Int), ((n / 18446744073709551616 % 18446744073709551616 : Nat) : Int), ((n / 340282366920938463463374607431768211456 % 18446744073709551616 : Nat) : Int), ((n / 6277101735386680763835789423207666416102355444464034512896 : Nat) : Int)]

/-- The number that four limbs hold. -/
def val4 (l : List Int) : Nat := (l.getD 0 0).toNat + (l.getD 1 0).toNat * 18446744073709551616 + (l.getD 2 0).toNat * 340282366920938463463374607431768211456 + (l.getD 3 0).toNat * 6277101735386680763835789423207666416102355444464034512896

theorem val4_lim {n : Nat} : val4 (lim n) = n := by
  simp only [val4, lim, List.getD_cons_zero, List.getD_cons_succ, Int.toNat_natCast]
  omega

theorem lim_inj {n m : Nat} : lim n = lim m ↔ n = m := ⟨fun h => by rw [← val4_lim (n := n), h, val4_lim], fun h => by rw [h]⟩

theorem len_lim {n : Nat} : (lim n).length = 4 := rfl

theorem list4 {α : Type} {l : List α} (h : l.length = 4) : ∃ a b c d, l = [a, b, c, d] := by
  match l, h with
  | [a, b, c, d], _ => exact ⟨a, b, c, d, rfl⟩

/-- Whatever four limbs hold is a number. -/
theorem u256_wf {l : List Int} (h : (Ty.arr 4 (.int .u64)).wf l) : ∃ n, n < 115792089237316195423570985008687907853269984665640564039457584007913129639936 ∧ l = lim n := by
  obtain ⟨h1, h2⟩ := h
  obtain ⟨a, b, c, d, rfl⟩ := list4 (α := Int) h1
  have ha := inK_u64.1 (h2 a (by simp))
  have hb := inK_u64.1 (h2 b (by simp))
  have hc := inK_u64.1 (h2 c (by simp))
  have hd := inK_u64.1 (h2 d (by simp))
  refine ⟨a.toNat + b.toNat * 18446744073709551616 + c.toNat * 340282366920938463463374607431768211456 + d.toNat * 6277101735386680763835789423207666416102355444464034512896, by omega, ?_⟩
  simp only [lim, List.cons.injEq, and_true]
  refine ⟨?_, ?_, ?_, ?_⟩ <;> omega

theorem lim_small {x : Int} (h1 : 0 ≤ x) (h2 : x ≤ 18446744073709551615) : ([x, 0, 0, 0] : List Int) = lim x.toNat := by
  simp only [lim, List.cons.injEq, and_true]
  refine ⟨?_, ?_, ?_, ?_⟩ <;> omega

theorem lim_zero : lim 0 = [0, 0, 0, 0] := rfl

/-- Limb i. -/
theorem lim_getD {n i : Nat} (hn : n < 115792089237316195423570985008687907853269984665640564039457584007913129639936) (hi : i < 4) : (lim n).getD i 0 = ((n / 18446744073709551616 ^ i % 18446744073709551616 : Nat) : Int) := by
  match i, hi with
  | 0, _ => simp [lim]
  | 1, _ => simp [lim]
  | 2, _ => simp [lim]
  | 3, _ =>
    simp only [lim, List.getD_cons_zero, List.getD_cons_succ]
    have : n / 6277101735386680763835789423207666416102355444464034512896 % 18446744073709551616 = n / 6277101735386680763835789423207666416102355444464034512896 := Nat.mod_eq_of_lt (by omega)
    rw [show (18446744073709551616 : Nat) ^ 3 = 6277101735386680763835789423207666416102355444464034512896 from rfl, this]

/-! ### Bytes -/

/-- k bytes, the greatest first. -/
def beB : Nat → Nat → List Int
  | 0, _ => []
  | k + 1, n => ((n / 256 ^ k % 256 : Nat) : Int) :: beB k n

theorem len_beB : ∀ {k n : Nat}, (beB k n).length = k
  | 0, _ => rfl
  | k + 1, n => by simp [beB, len_beB]

theorem beB_byte : ∀ {k n : Nat}, ∀ x ∈ beB k n, 0 ≤ x ∧ x ≤ 255
  | 0, _, x, h => by simp [beB] at h
  | k + 1, n, x, h => by
    rcases List.mem_cons.1 h with rfl | h
    · have := Nat.mod_lt (n / 256 ^ k) (show 0 < 256 by omega)
      omega
    · exact beB_byte x h

/-- How many bytes count. -/
def bylen (n : Nat) : Nat := (bitlen n + 7) / 8

theorem pow256 (k : Nat) : 256 ^ k = 2 ^ (8 * k) := by rw [show (256 : Nat) = 2 ^ 8 from rfl, ← Nat.pow_mul]

theorem bylen_le {n k : Nat} : bylen n ≤ k ↔ n < 256 ^ k := by
  rw [pow256, ← bitlen_le]; unfold bylen; omega

theorem bylen_256 {n : Nat} (h : n < 115792089237316195423570985008687907853269984665640564039457584007913129639936) : bylen n ≤ 32 := bylen_le.2 h
theorem bylen_64 {n : Nat} (h : n < 18446744073709551616) : bylen n ≤ 8 := bylen_le.2 h

theorem bylen_pos {n : Nat} : 0 < bylen n ↔ n ≠ 0 := by
  have := @bitlen_pos n
  unfold bylen; omega

theorem bylen_zero : bylen 0 = 0 := rfl

/-- The number of bytes. -/
def beV (l : List Int) : Nat := l.foldl (fun v x => v * 256 + x.toNat) 0

theorem beV_append (l : List Int) (x : Int) : beV (l ++ [x]) = beV l * 256 + x.toNat := by simp [beV]
theorem beV_nil : beV [] = 0 := rfl

theorem snoc_ind {α : Type} {motive : List α → Prop} (l : List α) (nil : motive []) (append : ∀ l x, motive l → motive (l ++ [x])) : motive l := by
  have : motive l.reverse.reverse := by
    induction l.reverse with
    | nil => exact nil
    | cons a m ih => rw [List.reverse_cons]; exact append _ _ ih
  simpa using this

theorem beV_lt (l : List Int) : (∀ x ∈ l, 0 ≤ x ∧ x ≤ 255) → beV l < 256 ^ l.length := by
  refine snoc_ind (motive := fun l => (∀ x ∈ l, 0 ≤ x ∧ x ≤ 255) → beV l < 256 ^ l.length) l ?_ ?_
  · intro _; simp [beV]
  · intro l x ih h
    have h1 := ih fun y hy => h y (by simp [hy])
    have h2 := h x (by simp)
    rw [beV_append, List.length_append, List.length_singleton, Nat.pow_succ]
    omega

/-! ### Setting a byte -/

theorem or_bits {x y : Nat} (hx : x < 18446744073709551616) (hy : y < 18446744073709551616) : (((BitVec.ofInt 64 ((x : Nat) : Int) ||| BitVec.ofInt 64 ((y : Nat) : Int)).toNat : Nat) : Int) = ((x ||| y : Nat) : Int) := by
  rw [BitVec.toNat_or, BitVec.ofInt_natCast, BitVec.ofInt_natCast, BitVec.toNat_ofNat, BitVec.toNat_ofNat, Nat.mod_eq_of_lt hx, Nat.mod_eq_of_lt hy]

theorem byte_bits {b i : Nat} (hb : b < 256) (hi : 8 ≤ i) : b.testBit i = false :=
  Nat.testBit_lt_two_pow (Nat.lt_of_lt_of_le hb (by rw [show (256 : Nat) = 2 ^ 8 from rfl]; exact Nat.pow_le_pow_right (by omega) hi))

theorem limb_or {a b j q : Nat} (hb : b < 256) :
    (a * 256 ^ (j + 1) + b * 256 ^ j) / 18446744073709551616 ^ q % 18446744073709551616 =
      (a * 256 ^ (j + 1) / 18446744073709551616 ^ q % 18446744073709551616) ||| (if q = j / 8 then b * 2 ^ (8 * (j % 8)) else 0) := by
  have h1 : a * 256 ^ (j + 1) + b * 256 ^ j = (a * 256 ^ (j + 1)) ||| (b <<< (8 * j)) := by
    rw [Nat.shiftLeft_eq, pow256, pow256, Nat.mul_comm a, Nat.mul_comm b, ← Nat.two_pow_add_eq_or_of_lt]
    rw [show 8 * (j + 1) = 8 * j + 8 by omega, Nat.pow_add, Nat.mul_comm (2 ^ (8 * j)) b, Nat.mul_comm (2 ^ (8 * j)) (2 ^ 8)]
    exact Nat.mul_lt_mul_of_pos_right hb (Nat.two_pow_pos _)
  rw [h1, show (18446744073709551616 : Nat) ^ q = 2 ^ (64 * q) by rw [show (18446744073709551616 : Nat) = 2 ^ 64 from rfl, ← Nat.pow_mul], show (18446744073709551616 : Nat) = 2 ^ 64 from rfl]
  generalize a * 256 ^ (j + 1) = m
  apply Nat.eq_of_testBit_eq
  intro t
  simp only [Nat.testBit_mod_two_pow, Nat.testBit_div_two_pow, Nat.testBit_or, Nat.testBit_shiftLeft]
  by_cases hq : q = j / 8
  · subst hq
    rw [if_pos rfl, ← Nat.shiftLeft_eq, Nat.testBit_shiftLeft]
    by_cases ht : t < 64
    · rw [show t + 64 * (j / 8) - 8 * j = t - 8 * (j % 8) by omega, show decide (t + 64 * (j / 8) ≥ 8 * j) = decide (t ≥ 8 * (j % 8)) by simp; omega]
      simp [ht]
    · rw [byte_bits hb (i := t - 8 * (j % 8)) (by omega)]; simp [ht]
  · rw [if_neg hq, Nat.zero_testBit, Bool.or_false]
    by_cases ht : t < 64
    · by_cases h : 8 * j ≤ t + 64 * q
      · rw [byte_bits hb (i := t + 64 * q - 8 * j) (by omega)]; simp [ht]
      · simp [ht, h]
    · simp [ht]

theorem limb_sum {a b j : Nat} (hb : b < 256) :
    (a * 256 ^ (j + 1) / 18446744073709551616 ^ (j / 8) % 18446744073709551616) ||| (b * 2 ^ (8 * (j % 8))) = a * 256 ^ (j + 1) / 18446744073709551616 ^ (j / 8) % 18446744073709551616 + b * 2 ^ (8 * (j % 8)) := by
  have h1 : a * 256 ^ (j + 1) / 18446744073709551616 ^ (j / 8) % 18446744073709551616 = 2 ^ (8 * (j % 8) + 8) * (a % 2 ^ (56 - 8 * (j % 8))) := by
    rw [show (18446744073709551616 : Nat) ^ (j / 8) = 2 ^ (64 * (j / 8)) by rw [show (18446744073709551616 : Nat) = 2 ^ 64 from rfl, ← Nat.pow_mul], pow256,
      show 8 * (j + 1) = (8 * (j % 8) + 8) + 64 * (j / 8) by omega, Nat.pow_add 2 _ (64 * (j / 8)), ← Nat.mul_assoc, Nat.mul_div_cancel _ (Nat.two_pow_pos _),
      show (18446744073709551616 : Nat) = 2 ^ (8 * (j % 8) + 8) * 2 ^ (56 - 8 * (j % 8)) by rw [← Nat.pow_add, show 8 * (j % 8) + 8 + (56 - 8 * (j % 8)) = 64 by omega], Nat.mul_comm a, Nat.mul_mod_mul_left]
  rw [h1, Nat.two_pow_add_eq_or_of_lt]
  rw [Nat.pow_add, Nat.mul_comm (2 ^ (8 * (j % 8)))]
  exact Nat.mul_lt_mul_of_pos_right hb (Nat.two_pow_pos _)

theorem lim_set {a b j : Nat} (hj : j < 32) (hb : b < 256) (h : a * 256 ^ (j + 1) + b * 256 ^ j < 115792089237316195423570985008687907853269984665640564039457584007913129639936) {y : Int}
    (hy : y = (((a * 256 ^ (j + 1) / 18446744073709551616 ^ (j / 8) % 18446744073709551616) ||| (b * 2 ^ (8 * (j % 8))) : Nat) : Int)) :
    (lim (a * 256 ^ (j + 1))).set (j / 8) y = lim (a * 256 ^ (j + 1) + b * 256 ^ j) := by
  apply List.ext_getElem
  · simp [len_lim]
  · intro q h1 h2
    have hq : q < 4 := h2
    have e : ∀ n, n < 115792089237316195423570985008687907853269984665640564039457584007913129639936 → (hh : q < (lim n).length) → (lim n)[q] = ((n / 18446744073709551616 ^ q % 18446744073709551616 : Nat) : Int) := fun n hn hh => by
      rw [← lim_getD hn hq, List.getD_eq_getElem?_getD, List.getElem?_eq_getElem hh]; rfl
    rw [e _ h, limb_or hb, List.getElem_set]
    by_cases hc : j / 8 = q
    · rw [if_pos hc, if_pos hc.symm, hy, hc]
    · rw [if_neg hc, if_neg (fun h => hc h.symm), e _ (by omega), Nat.or_zero]

end Go.Pon
/-
  What math/bits.Len64 and uint256.BitLen compute.
-/
set_option autoImplicit false
set_option linter.unusedVariables false
set_option maxRecDepth 10000
namespace Go.Pon
open Go

def len8 : List Int := [0, 1, 2, 2, 3, 3, 3, 3, 4, 4, 4, 4, 4, 4, 4, 4, 5, 5, 5, 5, 5, 5, 5, 5, 5, 5, 5, 5, 5, 5, 5, 5, 6, 6, 6, 6, 6, 6, 6, 6, 6, 6, 6, 6, 6, 6, 6, 6, 6, 6, 6, 6, 6, 6, 6, 6, 6, 6, 6, 6, 6, 6, 6, 6, 7, 7, 7, 7, 7, 7, 7, 7, 7, 7, 7, 7, 7, 7, 7, 7, 7, 7, 7, 7, 7, 7, 7, 7, 7, 7, 7, 7, 7, 7, 7, 7, 7, 7, 7, 7, 7, 7, 7, 7, 7, 7, 7, 7, 7, 7, 7, 7, 7, 7, 7, 7, 7, 7, 7, 7, 7, 7, 7, 7, 7, 7, 7, 7, 8, 8, 8, 8, 8, 8, 8, 8, 8, 8, 8, 8, 8, 8, 8, 8, 8, 8, 8, 8, 8, 8, 8, 8, 8, 8, 8, 8, 8, 8, 8, 8, 8, 8, 8, 8, 8, 8, 8, 8, 8, 8, 8, 8, 8, 8, 8, 8, 8, 8, 8, 8, 8, 8, 8, 8, 8, 8, 8, 8, 8, 8, 8, 8, 8, 8, 8, 8, 8, 8, 8, 8, 8, 8, 8, 8, 8, 8, 8, 8, 8, 8, 8, 8, 8, 8, 8, 8, 8, 8, 8, 8, 8, 8, 8, 8, 8, 8, 8, 8, 8, 8, 8, 8, 8, 8, 8, 8, 8, 8, 8, 8, 8, 8, 8, 8, 8, 8, 8, 8, 8, 8, 8, 8, 8, 8, 8, 8]

theorem len8_at : ∀ i, i < 256 → len8.getD i 0 = ((bitlen i : Nat) : Int) := by decide

theorem len8_int {x : Int} (h1 : 0 ≤ x) (h2 : x < 256) : len8.getD x.toNat 0 = ((bitlen x.toNat : Nat) : Int) := len8_at _ (by omega)

theorem bitlen_small {n : Nat} (h : n < 256) : bitlen n ≤ 8 := bitlen_le.2 (by omega)

theorem len64_case {x : Int} (k : Nat) (q : Int) (hk : k ≤ 56) (h0 : 0 ≤ x) (h1 : ((2 ^ k : Nat) : Int) ≤ x ∨ k = 0) (hq : q = x / ((2 ^ k : Nat) : Int)) (h2 : q < 256) :
    brR (inR (IntKind.wrap .u8 q) 256) (some ((IntKind.wrap .i64 ((k : Int) + IntKind.wrap .i64 (List.getD len8 (Int.toNat (IntKind.wrap .u8 q)) 0)), ()), ((), ()))) (none : Option ((Int × Unit) × (Unit × Unit))) = some ((((bitlen x.toNat : Nat) : Int), ()), ((), ())) := by
  obtain ⟨n, rfl⟩ := Int.eq_ofNat_of_zero_le h0
  have hq0 : 0 ≤ q := by rw [hq]; exact Int.ediv_nonneg h0 (Int.natCast_nonneg _)
  have hqn : q.toNat = n / 2 ^ k := by rw [hq, ← Int.natCast_ediv, Int.toNat_natCast]
  rw [w_u8 hq0 (by omega), brR_inR, if_pos ⟨hq0, h2⟩, len8_int hq0 h2, hqn]
  have hs : bitlen (n / 2 ^ k) ≤ 8 := bitlen_small (by omega)
  rw [w_i64 (n := ((bitlen (n / 2 ^ k) : Nat) : Int)) (by omega) (by omega), w_i64 (by omega) (by omega), Int.toNat_natCast]
  have : bitlen n = k + bitlen (n / 2 ^ k) := by
    rcases h1 with h1 | rfl
    · exact bitlen_div (by omega)
    · simp
  rw [this]; simp

theorem fdiv_pos {a b : Int} (h : 0 ≤ b) : Int.fdiv a b = a / b := Int.fdiv_eq_ediv_of_nonneg _ h

theorem len64_eq {x : Int} (h0 : 0 ≤ x) (h1 : x ≤ 18446744073709551615) : sol_math_bits_Len64 (x, ()) = some ((((bitlen x.toNat : Nat) : Int), ()), ((), ())) := by
  unfold sol_math_bits_Len64 T_math_bits_Len64
  simp only [letR_eq, brR_dec, ge_iff_le, fdiv_pos (show (0 : Int) ≤ 4294967296 by omega), fdiv_pos (show (0 : Int) ≤ 65536 by omega), fdiv_pos (show (0 : Int) ≤ 256 by omega)]
  repeat' split
  · exact len64_case 56 _ (by omega) h0 (.inl (by omega)) (by omega) (by omega)
  · exact len64_case 48 _ (by omega) h0 (.inl (by omega)) (by omega) (by omega)
  · exact len64_case 40 _ (by omega) h0 (.inl (by omega)) (by omega) (by omega)
  · exact len64_case 32 _ (by omega) h0 (.inl (by omega)) (by omega) (by omega)
  · exact len64_case 24 _ (by omega) h0 (.inl (by omega)) (by omega) (by omega)
  · exact len64_case 16 _ (by omega) h0 (.inl (by omega)) (by omega) (by omega)
  · exact len64_case 8 _ (by omega) h0 (.inl (by omega)) (by omega) (by omega)
  · exact len64_case 0 _ (by omega) h0 (.inr rfl) (by omega) (by omega)

theorem bitlen_256 {n : Nat} (h : n < 115792089237316195423570985008687907853269984665640564039457584007913129639936) : bitlen n ≤ 256 := bitlen_le.2 h

theorem pow64 (k : Nat) : 18446744073709551616 ^ k = 2 ^ (64 * k) := by rw [show (18446744073709551616 : Nat) = 2 ^ 64 from rfl, ← Nat.pow_mul]

theorem bitLen_eq {n : Nat} (hn : n < 115792089237316195423570985008687907853269984665640564039457584007913129639936) : sol_uint256_BitLen (lim n, ()) = some ((((bitlen n : Nat) : Int), ()), ((), ())) := by
  unfold sol_uint256_BitLen T_uint256_BitLen
  refine bigLoop_rule (I := fun x => x.1 = lim n ∧ -1 ≤ x.2.1 ∧ x.2.1 ≤ 3 ∧ n < 18446744073709551616 ^ (x.2.1 + 1).toNat) (m := fun x => (x.2.1 + 1).toNat) (g := fun _ => some ((((bitlen n : Nat) : Int), ()), ((), ()))) ?_ ⟨rfl, by simp only; omega, by simp only; omega, hn⟩ (by simp only [bigN_eq]; omega)
  rintro ⟨a, i, _⟩ again ⟨h1, h2, h3, h4⟩ hag
  simp only at h1 h2 h3 h4 hag ⊢
  subst h1
  simp only [T_uint256_BitLen_loop0, brR_dec, brR_not, brR_inR, ge_iff_le]
  by_cases hi : 0 ≤ i
  · obtain ⟨j, rfl⟩ := Int.eq_ofNat_of_zero_le hi
    have e1 : ((j : Int) + 1).toNat = j + 1 := by omega
    rw [e1] at h4
    rw [if_pos hi, if_pos ⟨hi, by omega⟩, Int.toNat_natCast, lim_getD hn (by omega)]
    have hp : 0 < 18446744073709551616 ^ j := Nat.pow_pos (by omega)
    have hlt : n / 18446744073709551616 ^ j < 18446744073709551616 := by
      rw [Nat.div_lt_iff_lt_mul hp, Nat.mul_comm, ← Nat.pow_succ]; exact h4
    rw [Nat.mod_eq_of_lt hlt]
    by_cases hz : n / 18446744073709551616 ^ j = 0
    · rw [if_pos (by omega), w_i64 (by omega) (by omega)]
      refine hag _ ⟨rfl, by simp only; omega, by simp only; omega, ?_⟩ (by simp only; omega)
      simp only
      rw [show ((j : Int) - 1 + 1).toNat = j by omega]
      exact (Nat.div_eq_zero_iff.1 hz).resolve_left (by omega)
    · have hge : 2 ^ (64 * j) ≤ n := by
        rw [← pow64]
        rcases Nat.lt_or_ge n (18446744073709551616 ^ j) with h | h
        · exact absurd (Nat.div_eq_of_lt h) hz
        · exact h
      have hb := bitlen_div hge
      have := bitlen_256 hn
      rw [← pow64] at hb
      generalize n / 18446744073709551616 ^ j = q at *
      rw [if_neg (by omega), if_pos ⟨hi, by omega⟩, len64_eq (by omega) (by omega)]
      simp only [bind_some']
      rw [Int.toNat_natCast, w_i64 (n := 64 * (j : Int)) (by omega) (by omega), w_i64 (by omega) (by omega), hb]
      simp
  · have hz : i = -1 := by omega
    subst hz
    have : n = 0 := by simpa using h4
    subst this
    simp [bitlen_zero]

theorem fromUint64_eq {x : Int} (h0 : 0 ≤ x) (h1 : x ≤ 18446744073709551615) : sol_uint256_FromUint64 (x, ()) = some ((lim x.toNat, ()), ((), ())) := by
  unfold sol_uint256_FromUint64 T_uint256_FromUint64
  rw [lim_small h0 h1]

end Go.Pon
/-
  What slices.Concat, slices.Grow and slices.Clone of bytes compute.
-/
set_option autoImplicit false
set_option linter.unusedVariables false
namespace Go.Pon
open Go

theorem u8_size : (Ty.int IntKind.u8).size = 1 := rfl

theorem brR_room8 {α : Type} {n : Nat} (h : n ≤ 1099511627776) (a b : Option α) : brR (roomy n (.int .u8)) a b = a := by
  rw [brR_roomy, u8_size, if_pos ⟨by omega, by omega⟩]

theorem grow_eq {n : Int} (h0 : 0 ≤ n) (h1 : n ≤ 1099511627776) : sol_slices_Grow_byte_byte ((), (n, ())) = some (([], ()), ((), ((), ()))) := by
  unfold sol_slices_Grow_byte_byte T_slices_Grow_byte_byte
  simp only [letR_eq, brR_dec, brR_and, Int.sub_zero]
  rw [if_neg (by omega), w_i64 (n := n) (by omega) (by omega)]
  split
  · rw [brR_room8 (by omega), brR_true, if_pos (by omega)]; rfl
  · rfl

theorem take_succ_flatten {ls : List (List Int)} {i : Nat} (h : i < ls.length) : (ls.take (i + 1)).flatten = (ls.take i).flatten ++ ls.getD i [] := by
  rw [List.take_succ_eq_append_getElem h, List.flatten_append, List.getD_eq_getElem?_getD, List.getElem?_eq_getElem h]; simp

theorem take_flatten_le (ls : List (List Int)) (i : Nat) : (ls.take i).flatten.length ≤ ls.flatten.length := by
  have : (ls.take i ++ ls.drop i).flatten = ls.flatten := by rw [List.take_append_drop]
  rw [← this, List.flatten_append, List.length_append]; omega

theorem concat_loop {ls : List (List Int)} (h : ls.flatten.length ≤ 1099511627776) (hn : ls.length ≤ 1099511627776) :
    bigLoop _ _ (fun again x => T_slices_Concat_byte_byte_loop1 again x.1 x.2.1 x.2.2.1 x.2.2.2.1) (([] : List Int), (ls, (((ls.length : Nat) : Int), ((0 : Int), ())))) = some ((ls.flatten, ()), ((), ())) := by
  refine bigLoop_rule (I := fun x => x.2.1 = ls ∧ x.2.2.1 = ((ls.length : Nat) : Int) ∧ (0 : Int) ≤ x.2.2.2.1 ∧ x.2.2.2.1 ≤ ((ls.length : Nat) : Int) ∧ x.1 = (ls.take x.2.2.2.1.toNat).flatten) (m := fun x => ((ls.length : Int) - x.2.2.2.1).toNat) (g := fun _ => some ((ls.flatten, ()), ((), ()))) ?_ ⟨rfl, rfl, by simp only; omega, by simp only; omega, rfl⟩ (by simp only [bigN_eq]; omega)
  rintro ⟨new, l, n, i, _⟩ again ⟨h1, h2, h3, h4, h5⟩ hag
  simp only at h1 h2 h3 h4 h5 hag ⊢
  subst h1 h2 h5
  obtain ⟨j, rfl⟩ := Int.eq_ofNat_of_zero_le h3
  simp only [T_slices_Concat_byte_byte_loop1, brR_dec, brR_inR, Int.toNat_natCast, append_def]
  by_cases hi : j < l.length
  · have e := take_succ_flatten hi
    have hle := take_flatten_le l (j + 1)
    rw [e] at hle
    rw [if_pos (by omega), if_pos ⟨h3, by omega⟩, brR_room8 (by rw [← List.length_append]; omega), ← e, w_i64 (by omega) (by omega)]
    exact hag _ ⟨rfl, rfl, by simp only; omega, by simp only; omega, rfl⟩ (by simp only; omega)
  · rw [if_neg (by omega), List.take_of_length_le (by omega)]

theorem concat_eq {ls : List (List Int)} (h : ls.flatten.length ≤ 1099511627776) (hn : ls.length ≤ 1099511627776) : sol_slices_Concat_byte_byte (ls, ()) = some ((ls.flatten, ()), ((), ())) := by
  unfold sol_slices_Concat_byte_byte T_slices_Concat_byte_byte
  refine bigLoop_rule (I := fun x => x.1 = ls ∧ x.2.2.1 = ls ∧ x.2.2.2.1 = ((ls.length : Nat) : Int) ∧ (0 : Int) ≤ x.2.2.2.2.1 ∧ x.2.2.2.2.1 ≤ ((ls.length : Nat) : Int) ∧ x.2.1 = (((ls.take x.2.2.2.2.1.toNat).flatten.length : Nat) : Int)) (m := fun x => ((ls.length : Int) - x.2.2.2.2.1).toNat) (g := fun _ => some ((ls.flatten, ()), ((), ()))) ?_
    ⟨rfl, rfl, rfl, by simp only; omega, by simp only; omega, rfl⟩ (by simp only [bigN_eq]; omega)
  rintro ⟨l, size, l', n, i, _⟩ again ⟨h1, h2, h3, h4, h5, h6⟩ hag
  simp only at h1 h2 h3 h4 h5 h6 hag ⊢
  subst h2 h1 h3 h6
  obtain ⟨j, rfl⟩ := Int.eq_ofNat_of_zero_le h4
  simp only [T_slices_Concat_byte_byte_loop0, letR_eq, brR_dec, brR_inR, Int.toNat_natCast]
  by_cases hi : j < l.length
  · have e := take_succ_flatten hi
    have hle := take_flatten_le l (j + 1)
    rw [e, List.length_append] at hle
    rw [if_pos (by omega), if_pos ⟨h4, by omega⟩, w_i64 (by omega) (by omega), if_neg (by omega), w_i64 (by omega) (by omega)]
    refine hag _ ⟨rfl, rfl, rfl, by simp only; omega, by simp only; omega, ?_⟩ (by simp only; omega)
    simp only
    rw [show ((j : Int) + 1).toNat = j + 1 by omega, e, List.length_append]; omega
  · have hle := take_flatten_le l j
    rw [if_neg (by omega), grow_eq (by omega) (by omega)]
    simp only [bind_some']
    exact concat_loop h hn

theorem clone_eq {l : List Int} (h : l.length ≤ 1099511627776) : sol_slices_Clone_byte_byte (l, ()) = some ((l, ()), ((), ())) := by
  unfold sol_slices_Clone_byte_byte T_slices_Clone_byte_byte
  simp only
  rw [brR_room8 (by omega), brR_dec]
  split
  · rename_i h0
    have : l = [] := List.length_eq_zero_iff.1 h0
    subst this
    exact bothR_eq rfl rfl
  · rfl

end Go.Pon
/-
  What package wire computes.
-/
set_option autoImplicit false
set_option linter.unusedVariables false
set_option linter.unusedSimpArgs false
namespace Go.Pon
open Go

theorem limb_byte (n j : Nat) : (n / 18446744073709551616 ^ (j / 8) % 18446744073709551616) / 2 ^ (8 * (j % 8)) % 256 = n / 256 ^ j % 256 := by
  rw [pow64, pow256, show (18446744073709551616 : Nat) = 2 ^ 64 from rfl, show (256 : Nat) = 2 ^ 8 from rfl]
  apply Nat.eq_of_testBit_eq
  intro k
  simp only [Nat.testBit_mod_two_pow, Nat.testBit_div_two_pow]
  by_cases hk : k < 8
  · rw [show decide (k + 8 * (j % 8) < 64) = true by simp; omega, show k + 8 * (j % 8) + 64 * (j / 8) = k + 8 * j by omega]; simp
  · simp [hk]

/-- Byte j of a number, as both programs take it out of its limbs. -/
theorem byte_out {n j : Nat} (hn : n < 115792089237316195423570985008687907853269984665640564039457584007913129639936) (hj : j < 32) :
    IntKind.wrap .u8 (Int.fdiv ((lim n).getD (j / 8) 0) ((2 : Int) ^ (min (8 * (j % 8)) 64))) = ((n / 256 ^ j % 256 : Nat) : Int) := by
  rw [lim_getD hn (by omega), Nat.min_eq_left (by omega), IntKind.wrap_u8, Int.fdiv_eq_ediv_of_nonneg _ (Int.pow_nonneg (by omega)), ← limb_byte n j]
  rfl

theorem encode_loop {n : Nat} (hn : n < 115792089237316195423570985008687907853269984665640564039457584007913129639936) {k : Nat} (hk : k ≤ 32) {out : List Int} (ho : out.length ≤ 100) :
    bigLoop _ _ (fun again x => T_wire_encode_loop0 again x.1 x.2.1 x.2.2.1) (lim n, (out, (((k : Nat) : Int) - 1, ()))) = some ((out ++ beB k n, ()), ((), ())) := by
  refine Eq.trans (bigLoop_rule (I := fun x => x.1 = lim n ∧ (-1 : Int) ≤ x.2.2.1 ∧ x.2.2.1 ≤ (31 : Int) ∧ (x.2.1.length : Int) + x.2.2.1 ≤ (131 : Int)) (m := fun x => (x.2.2.1 + 1).toNat) (g := fun x => some ((x.2.1 ++ beB (x.2.2.1 + 1).toNat n, ()), ((), ()))) ?_
    ⟨rfl, by simp only; omega, by simp only; omega, by simp only; omega⟩ (by simp only [bigN_eq]; omega)) ?_
  · rintro ⟨l, o, i, _⟩ again ⟨h1, h2, h3, h4⟩ hag
    simp only at h1 h2 h3 h4 hag ⊢
    subst h1
    simp only [T_wire_encode_loop0, letR_eq, brR_dec, brR_inR, ge_iff_le, append_def]
    by_cases hi : 0 ≤ i
    · obtain ⟨j, rfl⟩ := Int.eq_ofNat_of_zero_le hi
      rw [if_pos hi, tdiv_pos hi, tmod_pos hi, w_i64 (n := (j : Int) / 8) (by omega) (by omega), w_i64 (n := 8 * ((j : Int) % 8)) (by omega) (by omega), if_pos (by omega), if_pos (by omega), brR_room8 (by omega), w_i64 (by omega) (by omega)]
      rw [show ((j : Int) / 8).toNat = j / 8 by omega, show (8 * ((j : Int) % 8)).toNat = 8 * (j % 8) by omega, byte_out hn (by omega)]
      rw [hag _ ⟨rfl, by simp only; omega, by simp only; omega, by simp only [List.length_append, List.length_singleton]; omega⟩ (by simp only; omega)]
      simp only
      rw [show ((j : Int) - 1 + 1).toNat = j by omega, show ((j : Int) + 1).toNat = j + 1 by omega, beB]; simp
    · have : i = -1 := by omega
      subst this
      simp [beB]
  · simp only
    rw [show ((k : Int) - 1 + 1).toNat = k by omega]

/-- A number's encoding. -/
def enc (n : Nat) : List Int := ((bylen n : Nat) : Int) :: beB (bylen n) n

theorem len_enc {n : Nat} : (enc n).length = 1 + bylen n := by simp [enc, len_beB]; omega

theorem encode_eq {n : Nat} (hn : n < 115792089237316195423570985008687907853269984665640564039457584007913129639936) : sol_wire_encode (lim n, ()) = some ((enc n, ()), ((), ())) := by
  unfold sol_wire_encode T_wire_encode
  have h1 := bitlen_256 hn
  have h2 := bylen_256 hn
  have h3 : ((bitlen n : Nat) : Int) + 7 = ((bitlen n + 7 : Nat) : Int) := by omega
  rw [bitLen_eq hn]
  simp only [bind_some', letR_eq]
  rw [w_i64 (n := ((bitlen n : Nat) : Int) + 7) (by omega) (by omega), tdiv_pos (by omega), w_i64 (n := (((bitlen n : Nat) : Int) + 7) / 8) (by omega) (by omega), w_i64 (by omega) (by omega), w_u8 (by omega) (by omega)]
  rw [show (((bitlen n : Nat) : Int) + 7) / 8 = ((bylen n : Nat) : Int) by unfold bylen; omega]
  exact encode_loop hn h2 (by simp)

theorem appendUint256_eq {b : List Int} (hb : b.length ≤ 1000000000) {n : Nat} (hn : n < 115792089237316195423570985008687907853269984665640564039457584007913129639936) :
    sol_wire_AppendUint256 (b, (lim n, ())) = some ((b ++ enc n, ()), ((), ((), ()))) := by
  unfold sol_wire_AppendUint256 T_wire_AppendUint256
  have h2 := bylen_256 hn
  rw [encode_eq hn]
  simp only [bind_some']
  rw [concat_eq (by simp [len_enc]; omega) (by simp)]
  simp [bind_some']

theorem appendUint64_eq {b : List Int} (hb : b.length ≤ 1000000000) {n : Int} (h0 : 0 ≤ n) (h1 : n ≤ 18446744073709551615) :
    sol_wire_AppendUint64 (b, (n, ())) = some ((b ++ enc n.toNat, ()), ((), ((), ()))) := by
  unfold sol_wire_AppendUint64 T_wire_AppendUint64
  rw [fromUint64_eq h0 h1]
  simp only [bind_some']
  rw [appendUint256_eq hb (by omega)]
  simp [bind_some']

theorem appendBytes_eq {b x : List Int} (hb : b.length ≤ 1000000000) (hx : x.length ≤ 1000000000) :
    sol_wire_AppendBytes (b, (x, ())) = some ((b ++ (enc x.length ++ x), ()), ((), ((), ()))) := by
  unfold sol_wire_AppendBytes T_wire_AppendBytes
  have h2 := @bylen_64 x.length (by omega)
  simp only [letR_eq]
  rw [w_u64 (by omega) (by omega), fromUint64_eq (by omega) (by omega)]
  simp only [bind_some', Int.toNat_natCast]
  rw [encode_eq (by omega)]
  simp only [bind_some']
  rw [concat_eq (by simp [len_enc]; omega) (by simp)]
  simp [bind_some']

/-! ### Reading -/

def Bytes (b : List Int) : Prop := ∀ x ∈ b, 0 ≤ x ∧ x ≤ 255

theorem Bytes.drop {b : List Int} (h : Bytes b) (i : Nat) : Bytes (b.drop i) := fun x hx => h x (List.mem_of_mem_drop hx)
theorem Bytes.take {b : List Int} (h : Bytes b) (i : Nat) : Bytes (b.take i) := fun x hx => h x (List.mem_of_mem_take hx)
theorem Bytes.at {b : List Int} (h : Bytes b) (i : Nat) : 0 ≤ b.getD i 0 ∧ b.getD i 0 ≤ 255 := getD_all (p := fun x => 0 ≤ x ∧ x ≤ 255) h (by omega) i
theorem Bytes.append {a b : List Int} (ha : Bytes a) (hb : Bytes b) : Bytes (a ++ b) := fun x hx => by
  rcases List.mem_append.1 hx with h | h
  · exact ha x h
  · exact hb x h
theorem bytes_beB {k n : Nat} : Bytes (beB k n) := fun x hx => beB_byte x hx

theorem beV_take_succ {r : List Int} {i : Nat} (h : i < r.length) : beV (r.take (i + 1)) = beV (r.take i) * 256 + (r.getD i 0).toNat := by
  rw [List.take_succ_eq_append_getElem h, beV_append, List.getD_eq_getElem?_getD, List.getElem?_eq_getElem h]; rfl

theorem beV_take_lt {r : List Int} (hr : Bytes r) {i : Nat} (h : i ≤ r.length) : beV (r.take i) < 256 ^ i := by
  have := beV_lt (r.take i) (hr.take i)
  rwa [List.length_take, Nat.min_eq_left h] at this

theorem readUint_loop {r : List Int} (hr : Bytes r) {k : Nat} (hk : k ≤ 32) (hkr : k ≤ r.length) {at_ : Int} (h0 : 0 ≤ at_) (h1 : at_ ≤ 1099511627776) (t6 : List Int) :
    bigLoop _ _ (fun again x => T_wire_readUint_loop0 again x.1 x.2.1 x.2.2.1 x.2.2.2.1 x.2.2.2.2.1 x.2.2.2.2.2.1 x.2.2.2.2.2.2.1) (at_, (t6, (r, (((k : Nat) : Int), (lim 0, (((k : Nat) : Int), ((0 : Int), ()))))))) =
      some ((lim (beV (r.take k)), (at_ + 1 + k, ((0 : Int), ()))), ((), ((), ((), ())))) := by
  refine bigLoop_rule (I := fun x => x.1 = at_ ∧ x.2.2.1 = r ∧ x.2.2.2.1 = ((k : Nat) : Int) ∧ x.2.2.2.2.2.1 = ((k : Nat) : Int) ∧ (0 : Int) ≤ x.2.2.2.2.2.2.1 ∧ x.2.2.2.2.2.2.1 ≤ ((k : Nat) : Int) ∧ x.2.2.2.2.1 = lim (beV (r.take x.2.2.2.2.2.2.1.toNat) * 256 ^ (k - x.2.2.2.2.2.2.1.toNat)))
    (m := fun x => (((k : Nat) : Int) - x.2.2.2.2.2.2.1).toNat) (g := fun _ => some ((lim (beV (r.take k)), (at_ + 1 + k, ((0 : Int), ()))), ((), ((), ((), ()))))) ?_
    ⟨rfl, rfl, rfl, rfl, by simp only; omega, by simp only; omega, by simp [beV_nil]⟩ (by simp only [bigN_eq]; omega)
  rintro ⟨a, t, r', k', l, k2, i, _⟩ again ⟨e1, e2, e3, e4, e5, e6, e7⟩ hag
  simp only at e1 e2 e3 e4 e5 e6 e7 hag ⊢
  subst e1 e2 e3 e4 e7
  obtain ⟨i, rfl⟩ := Int.eq_ofNat_of_zero_le e5
  simp only [T_wire_readUint_loop0, letR_eq, brR_dec, brR_inR, Int.toNat_natCast]
  by_cases hi : i < k
  · obtain ⟨j, hj⟩ : ∃ j, k = i + 1 + j := ⟨k - i - 1, by omega⟩
    have e : ((k : Nat) : Int) - 1 - i = (j : Int) := by omega
    have hb := hr.at i
    have hA := beV_take_lt hr (i := i + 1) (by omega)
    have hs := beV_take_succ (r := r') (i := i) (by omega)
    rw [hs] at hA
    rw [if_pos (by omega), w_i64 (n := ((k : Nat) : Int) - 1) (by omega) (by omega), e, w_i64 (n := (j : Int)) (by omega) (by omega), tdiv_pos (by omega), tmod_pos (by omega), w_i64 (n := (j : Int) / 8) (by omega) (by omega),
      w_i64 (n := 8 * ((j : Int) % 8)) (by omega) (by omega), if_pos (by omega), if_pos (by omega), if_pos (by omega), if_pos (by omega), w_i64 (by omega) (by omega)]
    rw [show ((j : Int) / 8).toNat = j / 8 by omega, show (8 * ((j : Int) % 8)).toNat = 8 * (j % 8) by omega, show k - i = j + 1 by omega, w_u64 (n := r'.getD i 0) (by omega) (by omega)]
    obtain ⟨c, hc⟩ := Int.eq_ofNat_of_zero_le hb.1
    rw [hc] at hb hs hA ⊢
    rw [Int.toNat_natCast] at hs hA
    generalize hv : beV (r'.take i) = v at *
    have hp : 0 < 256 ^ j := Nat.pow_pos (by omega)
    have h3 : (v * 256 + c) * 256 ^ j < 256 ^ (i + 1) * 256 ^ j := Nat.mul_lt_mul_of_pos_right hA hp
    rw [← Nat.pow_add] at h3
    have h4 : (256 : Nat) ^ (i + 1 + j) ≤ 256 ^ 32 := Nat.pow_le_pow_right (by omega) (by omega)
    have h5 : v * 256 ^ (j + 1) + c * 256 ^ j = (v * 256 + c) * 256 ^ j := by rw [Nat.add_mul, Nat.pow_succ, Nat.mul_assoc v, Nat.mul_comm 256]
    have h6 : v * 256 ^ (j + 1) + c * 256 ^ j < 115792089237316195423570985008687907853269984665640564039457584007913129639936 := by
      rw [h5]; exact Nat.lt_of_lt_of_le h3 h4
    rw [lim_getD (by omega) (by omega), Nat.min_eq_left (by omega)]
    have h7 : (2 : Nat) ^ (8 * (j % 8)) ≤ 72057594037927936 := Nat.pow_le_pow_right (n := 2) (j := 56) (by omega) (by omega)
    have h8 : ((c : Nat) : Int) * 2 ^ (8 * (j % 8)) = ((c * 2 ^ (8 * (j % 8)) : Nat) : Int) := by rw [Int.natCast_mul, Int.natCast_pow]; rfl
    have h9 : c * 2 ^ (8 * (j % 8)) ≤ 255 * 72057594037927936 := Nat.mul_le_mul (by omega) h7
    have h10 : v * 256 ^ (j + 1) / 18446744073709551616 ^ (j / 8) % 18446744073709551616 < 18446744073709551616 := Nat.mod_lt _ (by omega)
    have h11 : v * 256 ^ (j + 1) / 18446744073709551616 ^ (j / 8) % 18446744073709551616 ||| c * 2 ^ (8 * (j % 8)) < 18446744073709551616 := Nat.or_lt_two_pow (n := 64) h10 (by omega)
    rw [h8, w_u64 (n := ((c * 2 ^ (8 * (j % 8)) : Nat) : Int)) (by omega) (by omega), or_bits h10 (by omega), w_u64 (by omega) (by omega), lim_set (by omega) (by omega) h6 rfl, h5]
    refine hag _ ⟨rfl, rfl, rfl, rfl, by simp only; omega, by simp only; omega, ?_⟩ (by simp only; omega)
    simp only
    rw [show ((i : Int) + 1).toNat = i + 1 by omega, hs, show k - (i + 1) = j by omega]
  · have : i = k := by omega
    subst this
    rw [if_neg (by omega), Nat.sub_self, Nat.pow_zero, Nat.mul_one, w_i64 (n := a + 1) (by omega) (by omega), w_i64 (by omega) (by omega)]

/-- A number of at most so many bytes at an offset, and the offset behind it. -/
def rdU (b : List Int) (i : Nat) (most : Nat) : Option (Nat × Nat) :=
  match b.drop i with
  | [] => none
  | k :: r => if most < k.toNat ∨ r.length < k.toNat ∨ (0 < k.toNat ∧ r.getD 0 0 = 0) then none else some (beV (r.take k.toNat), i + 1 + k.toNat)

/-- What a reader gives. -/
def readR (b : List Int) (at_ : Int) (most : Nat) : List Int × (Int × (Int × Unit)) :=
  if at_ < 0 ∨ b.length < at_ then (lim 0, (0, (2, ()))) else
    match rdU b at_.toNat most with
    | none => (lim 0, (0, (3, ())))
    | some (v, j) => (lim v, (j, (0, ())))

theorem readUint_eq {b : List Int} (hb : Bytes b) (hl : b.length ≤ 1000000000) {at_ : Int} (h1 : -9223372036854775808 ≤ at_) (h2 : at_ ≤ 9223372036854775807) {most : Nat} (hm : most ≤ 32) :
    sol_wire_readUint (b, (at_, (((most : Nat) : Int), ()))) = some (readR b at_ most, ((), ((), ((), ())))) := by
  unfold sol_wire_readUint T_wire_readUint readR
  simp only [letR_eq, brR_dec, brR_and]
  by_cases c1 : at_ < 0
  · rw [if_pos c1, if_pos (.inl c1)]; rfl
  rw [if_neg c1]
  by_cases c2 : b.length < at_
  · rw [if_pos (by omega), if_pos (.inr c2)]; rfl
  rw [if_neg (show ¬ at_ > (b.length : Int) by omega), if_neg (show ¬ (at_ < 0 ∨ (b.length : Int) < at_) by omega), if_pos (by omega), if_pos (by omega)]
  obtain ⟨i, rfl⟩ := Int.eq_ofNat_of_zero_le (show 0 ≤ at_ by omega)
  have hd := hb.drop i
  have hlen : (b.drop i).length = b.length - i := List.length_drop
  rw [Int.toNat_natCast, List.take_of_length_le (by omega)]
  unfold rdU
  generalize b.drop i = rest at *
  cases rest with
  | nil => rw [if_pos (by simp)]; rfl
  | cons k r =>
    have hk := hd k (by simp)
    have hr : Bytes r := fun x hx => hd x (by simp [hx])
    obtain ⟨k, rfl⟩ := Int.eq_ofNat_of_zero_le hk.1
    simp only [List.length_cons] at hlen
    rw [if_neg (by simp; omega), brR_inR, if_pos ⟨by omega, by simp⟩, if_pos (by simp; omega)]
    simp only [List.getD_cons_zero, List.drop_succ_cons, List.drop_zero, List.length_cons, Nat.add_sub_cancel, List.take_length]
    rw [w_i64 (by omega) (by omega)]
    by_cases c3 : most < k
    · rw [if_pos (by omega), if_pos (by omega)]; rfl
    rw [if_neg (by omega)]
    by_cases c4 : r.length < k
    · rw [if_pos (by omega), if_pos (by omega)]; rfl
    rw [if_neg (by omega)]
    have loop := readUint_loop hr (k := k) (by omega) (by omega) (at_ := (i : Int)) (by omega) (by omega)
    by_cases c5 : 0 < k
    · rw [if_pos (by omega), brR_inR, if_pos (by omega)]
      by_cases c6 : r.getD 0 0 = 0
      · rw [if_pos c6, if_pos (by simp only [Int.toNat_natCast]; omega)]; rfl
      · rw [if_neg c6, if_neg (by simp only [Int.toNat_natCast]; omega)]
        refine (loop _).trans ?_
        simp only [Int.toNat_natCast]
        rw [show ((i + 1 + k : Nat) : Int) = (i : Int) + 1 + k by omega]
    · rw [if_neg (by omega), if_neg (by simp only [Int.toNat_natCast]; omega)]
      refine (loop _).trans ?_
      simp only [Int.toNat_natCast]
      rw [show ((i + 1 + k : Nat) : Int) = (i : Int) + 1 + k by omega]

theorem readUint256_eq {b : List Int} (hb : Bytes b) (hl : b.length ≤ 1000000000) {at_ : Int} (h1 : -9223372036854775808 ≤ at_) (h2 : at_ ≤ 9223372036854775807) :
    sol_wire_ReadUint256 (b, (at_, ())) = some (readR b at_ 32, ((), ((), ()))) := by
  unfold sol_wire_ReadUint256 T_wire_ReadUint256
  rw [show ((32 : Int)) = ((32 : Nat) : Int) from rfl, readUint_eq hb hl h1 h2 (by omega)]
  simp only [bind_some']

theorem readR_bounds {b : List Int} (hb : Bytes b) (at_ : Int) {most : Nat} (hm : most ≤ 32) : ∃ v, v < 256 ^ most ∧ (readR b at_ most).1 = lim v ∧ 0 ≤ (readR b at_ most).2.1 ∧ (readR b at_ most).2.1 ≤ b.length ∧
    ((readR b at_ most).2.2.1 = 0 ∨ (readR b at_ most).2.2.1 = 2 ∨ (readR b at_ most).2.2.1 = 3) := by
  unfold readR
  have h0 : 0 < 256 ^ most := Nat.pow_pos (by omega)
  split
  · exact ⟨0, h0, rfl, by simp, by simp only; omega, by simp⟩
  · split
    · exact ⟨0, h0, rfl, by simp, by simp only; omega, by simp⟩
    · rename_i hc _ v j hv
      unfold rdU at hv
      split at hv
      · cases hv
      · rename_i k r hr
        split at hv
        · cases hv
        · rename_i hk
          cases hv
          have hl := congrArg List.length hr
          simp only [List.length_drop, List.length_cons] at hl
          have hbr : Bytes r := fun x hx => (hb.drop at_.toNat) x (by rw [hr]; simp [hx])
          refine ⟨_, Nat.lt_of_lt_of_le (beV_take_lt hbr (by omega)) (Nat.pow_le_pow_right (by omega) (by omega)), rfl, by simp only; omega, by simp only; omega, by simp⟩

theorem readUint64_eq {b : List Int} (hb : Bytes b) (hl : b.length ≤ 1000000000) {at_ : Int} (h1 : -9223372036854775808 ≤ at_) (h2 : at_ ≤ 9223372036854775807) :
    sol_wire_ReadUint64 (b, (at_, ())) = some ((((val4 (readR b at_ 8).1 : Nat) : Int), (readR b at_ 8).2), ((), ((), ()))) := by
  unfold sol_wire_ReadUint64 T_wire_ReadUint64
  obtain ⟨v, v1, v2, _⟩ := readR_bounds hb at_ (most := 8) (by omega)
  rw [show ((8 : Int)) = ((8 : Nat) : Int) from rfl, readUint_eq hb hl h1 h2 (by omega)]
  simp only [bind_some']
  have : (readR b at_ 8).1.getD 0 0 = ((val4 (readR b at_ 8).1 : Nat) : Int) := by
    rw [v2, val4_lim]; simp only [lim, List.getD_cons_zero]; omega
  rw [this]

/-- What ReadBytes gives. -/
def readB (b : List Int) (at_ : Int) : List Int × (Int × (Int × Unit)) :=
  if at_ < 0 ∨ b.length < at_ then ([], (0, (2, ()))) else
    match rdU b at_.toNat 8 with
    | none => ([], (0, (3, ())))
    | some (n, j) => if b.length - j < n then ([], (0, (3, ()))) else ((b.drop j).take n, ((j + n : Nat), (0, ())))

theorem rdU_le {b : List Int} {i most v j : Nat} (h : rdU b i most = some (v, j)) (hb : Bytes b) : i < j ∧ j ≤ b.length ∧ v < 256 ^ most ∧ j ≤ i + 1 + most := by
  unfold rdU at h
  split at h
  · cases h
  · rename_i k r hr
    split at h
    · cases h
    · rename_i hk
      cases h
      have hl := congrArg List.length hr
      simp only [List.length_drop, List.length_cons] at hl
      have hbr : Bytes r := fun x hx => (hb.drop i) x (by rw [hr]; simp [hx])
      exact ⟨by omega, by omega, Nat.lt_of_lt_of_le (beV_take_lt hbr (by omega)) (Nat.pow_le_pow_right (by omega) (by omega)), by omega⟩

theorem readBytes_eq {b : List Int} (hb : Bytes b) (hl : b.length ≤ 1000000000) {at_ : Int} (h1 : -9223372036854775808 ≤ at_) (h2 : at_ ≤ 9223372036854775807) :
    sol_wire_ReadBytes (b, (at_, ())) = some (readB b at_, ((), ((), ()))) := by
  unfold sol_wire_ReadBytes T_wire_ReadBytes readB
  rw [readUint64_eq hb hl h1 h2]
  simp only [bind_some', letR_eq, brR_dec, brR_not, brR_and]
  unfold readR
  by_cases c1 : at_ < 0 ∨ (b.length : Int) < at_
  · rw [if_pos c1, if_pos c1]; rfl
  rw [if_neg c1, if_neg c1]
  cases h : rdU b at_.toNat 8 with
  | none => rfl
  | some p =>
    obtain ⟨n, j⟩ := p
    obtain ⟨r1, r2, r3, _⟩ := rdU_le h hb
    have r3 : n < 18446744073709551616 := r3
    simp only [val4_lim]
    rw [if_pos trivial, w_i64 (n := (b.length : Int) - (j : Int)) (by omega) (by omega), w_u64 (by omega) (by omega)]
    by_cases c2 : b.length - j < n
    · rw [if_pos (by omega), if_pos c2]
    · rw [if_neg (by omega), if_neg c2, w_i64 (n := (n : Int)) (by omega) (by omega), w_i64 (n := (j : Int) + (n : Int)) (by omega) (by omega), if_pos (by omega), if_pos (by omega), if_pos (by omega)]
      rw [show ((j : Int) + (n : Int)).toNat - (j : Int).toNat = n by omega, Int.toNat_natCast, clone_eq (by rw [List.length_take, List.length_drop]; omega)]
      simp only [bind_some']
      rw [show ((j : Int) + (n : Int)) = ((j + n : Nat) : Int) by omega]

abbrev I256 := Bool × (List Int × Unit)

theorem i256_wf {a : I256} (h : (Ty.pair .bool (.pair (.arr 4 (.int .u64)) .unit)).wf a) : ∃ s n, n < 115792089237316195423570985008687907853269984665640564039457584007913129639936 ∧ a = (s, (lim n, ())) := by
  obtain ⟨s, l, _⟩ := a
  obtain ⟨_, h2, _⟩ := h
  obtain ⟨n, h3, h4⟩ := u256_wf h2
  exact ⟨s, n, h3, by rw [show l = lim n from h4]⟩

theorem eqD_lim (n m : Nat) : eqD (.arr 4 (.int .u64)) (lim n) (lim m) = decide (n = m) := by
  rw [Bool.eq_iff_iff, eqD_iff]; exact lim_inj.trans (by simp)

theorem valid_eq (s : Bool) (n : Nat) : sol_int256_Valid ((s, (lim n, ())), ()) = some ((!s || !decide (n = 0), ()), ((), ())) := by
  unfold sol_int256_Valid T_int256_Valid
  simp only [brR_not]
  rw [← lim_zero, eqD_lim]
  cases s <;> rfl

/-- The encoding of a signed number. -/
def encI (s : Bool) (n : Nat) : List Int := if s = true ∧ n = 0 then [] else (if s then 1 else 0) :: enc n

theorem appendInt256_eq {b : List Int} (hb : b.length ≤ 1000000000) {s : Bool} {n : Nat} (hn : n < 115792089237316195423570985008687907853269984665640564039457584007913129639936) :
    sol_wire_AppendInt256 (b, ((s, (lim n, ())), ())) = some ((b ++ encI s n, ()), ((), ((), ()))) := by
  unfold sol_wire_AppendInt256 T_wire_AppendInt256 encI
  have h2 := bylen_256 hn
  rw [valid_eq]
  simp only [bind_some', brR_not]
  rw [encode_eq hn]
  simp only [bind_some']
  rw [concat_eq (by simp [len_enc]; omega) (by simp), concat_eq (by simp [len_enc]; omega) (by simp), clone_eq (by omega)]
  simp only [bind_some']
  cases s
  · simp [brR_true, brR_false]
  · by_cases h0 : n = 0
    · simp [h0, brR_false]
    · simp [h0, brR_true]

/-- What ReadInt256 gives. -/
def readI (b : List Int) (at_ : Int) : I256 × (Int × (Int × Unit)) :=
  if at_ < 0 ∨ b.length < at_ then ((false, (lim 0, ())), (0, (2, ()))) else
    if b.length = at_.toNat ∨ 1 < b.getD at_.toNat 0 then ((false, (lim 0, ())), (0, (3, ()))) else
      match rdU b (at_.toNat + 1) 32 with
      | none => ((false, (lim 0, ())), (0, (3, ())))
      | some (n, j) => if b.getD at_.toNat 0 = 1 ∧ n = 0 then ((false, (lim 0, ())), (0, (3, ()))) else ((decide (b.getD at_.toNat 0 = 1), (lim n, ())), (j, (0, ())))

theorem readInt256_eq {b : List Int} (hb : Bytes b) (hl : b.length ≤ 1000000000) {at_ : Int} (h1 : -9223372036854775808 ≤ at_) (h2 : at_ ≤ 9223372036854775807) :
    sol_wire_ReadInt256 (b, (at_, ())) = some (readI b at_, ((), ((), ()))) := by
  unfold sol_wire_ReadInt256 T_wire_ReadInt256 readI
  simp only [letR_eq, brR_dec, brR_inR, brR_not]
  by_cases c1 : at_ < 0
  · rw [if_pos c1, if_pos (.inl c1)]; rfl
  rw [if_neg c1]
  by_cases c2 : b.length < at_
  · rw [if_pos (by omega), if_pos (.inr c2)]; rfl
  obtain ⟨i, rfl⟩ := Int.eq_ofNat_of_zero_le (show 0 ≤ at_ by omega)
  rw [if_neg (show ¬ (i : Int) > (b.length : Int) by omega), if_neg (show ¬ ((i : Int) < 0 ∨ (b.length : Int) < (i : Int)) by omega)]
  simp only [Int.toNat_natCast]
  by_cases c3 : b.length = i
  · rw [if_pos (by omega), if_pos (.inl c3)]; rfl
  rw [if_neg (by omega), if_pos (by omega)]
  by_cases c4 : 1 < b.getD i 0
  · rw [if_pos (by omega), if_pos (.inr c4)]; rfl
  rw [if_neg (show ¬ b.getD i 0 > 1 by omega), if_neg (show ¬ (b.length = i ∨ 1 < b.getD i 0) by omega), w_i64 (by omega) (by omega), show ((i : Int) + 1) = ((i + 1 : Nat) : Int) by omega, readUint256_eq hb hl (by omega) (by omega)]
  simp only [bind_some']
  unfold readR
  rw [if_neg (show ¬ (((i + 1 : Nat) : Int) < 0 ∨ (b.length : Int) < ((i + 1 : Nat) : Int)) by omega), Int.toNat_natCast, if_pos (by omega)]
  cases h : rdU b (i + 1) 32 with
  | none =>
    rw [valid_eq]
    rfl
  | some p =>
    obtain ⟨n, j⟩ := p
    simp only
    rw [valid_eq]
    simp only [bind_some', if_pos]
    rw [brR_or, brR_not, brR_not, brR_dec, brR_dec]
    by_cases c5 : b.getD i 0 = 1 <;> by_cases c6 : n = 0 <;> simp [c5, c6, lim_zero, -List.getD_eq_getElem?_getD]

end Go.Pon
/-
  What the reference of chapter 6 computes.
-/
set_option autoImplicit false
set_option linter.unusedVariables false
set_option linter.unusedSimpArgs false
namespace Go.Pon
open Go

theorem bylen_eq {n i : Nat} (h1 : n < 256 ^ (i + 1)) (h2 : 256 ^ i ≤ n) : bylen n = i + 1 := by
  have a := bylen_le.2 h1
  rcases Nat.lt_or_ge i (bylen n) with h | h
  · omega
  · have := bylen_le.1 h; omega

theorem digits_eq {n : Nat} (hn : n < 115792089237316195423570985008687907853269984665640564039457584007913129639936) : sol_ref6_digits (lim n, ()) = some ((beB (bylen n) n, ()), ((), ())) := by
  unfold sol_ref6_digits T_ref6_digits
  refine Eq.trans (bigLoop_rule (I := fun x => x.1 = lim n ∧ (-1 : Int) ≤ x.2.2.1 ∧ x.2.2.1 ≤ (31 : Int) ∧ (x.2.1.length : Int) + x.2.2.1 ≤ (31 : Int) ∧ (x.2.1 = [] → n < 256 ^ (x.2.2.1 + 1).toNat)) (m := fun x => (x.2.2.1 + 1).toNat)
    (g := fun x => some ((x.2.1 ++ (if x.2.1 = [] then beB (bylen n) n else beB (x.2.2.1 + 1).toNat n), ()), ((), ()))) ?_
    ⟨rfl, by simp only; omega, by simp only; omega, by simp only [List.length_nil]; omega, fun _ => hn⟩ (by simp only [bigN_eq]; omega)) ?_
  · rintro ⟨l, o, i, _⟩ again ⟨h1, h2, h3, h4, h5⟩ hag
    simp only at h1 h2 h3 h4 h5 hag ⊢
    subst h1
    simp only [T_ref6_digits_loop0, letR_eq, brR_dec, brR_inR, ge_iff_le, append_def]
    by_cases hi : 0 ≤ i
    · obtain ⟨j, rfl⟩ := Int.eq_ofNat_of_zero_le hi
      have ej : ((j : Int) + 1).toNat = j + 1 := by omega
      rw [if_pos hi, tdiv_pos hi, tmod_pos hi, w_i64 (n := (j : Int) / 8) (by omega) (by omega), w_i64 (n := 8 * ((j : Int) % 8)) (by omega) (by omega), w_u64 (by omega) (by omega), if_pos (by omega), if_pos (by omega), brR_room8 (by omega), w_i64 (by omega) (by omega)]
      rw [show ((j : Int) / 8).toNat = j / 8 by omega, show (8 * ((j : Int) % 8)).toNat = 8 * (j % 8) by omega, byte_out hn (by omega)]
      have hb : beB (j + 1) n = ((n / 256 ^ j % 256 : Nat) : Int) :: beB j n := rfl
      rw [ej] at h5 ⊢
      have step : o.length > 0 ∨ n / 256 ^ j % 256 > 0 → again (lim n, (o ++ [((n / 256 ^ j % 256 : Nat) : Int)], ((j : Int) - 1, ()))) = some ((o ++ (if o = [] then beB (bylen n) n else beB (j + 1) n), ()), ((), ())) := by
        intro hc
        rw [hag _ ⟨rfl, by simp only; omega, by simp only; omega, by simp only [List.length_append, List.length_singleton]; omega, fun h => by simp at h⟩ (by simp only; omega)]
        simp only
        rw [if_neg (by simp), show ((j : Int) - 1 + 1).toNat = j by omega]
        by_cases ho : o = []
        · subst ho
          have h6 := h5 rfl
          have h7 : 256 ^ j ≤ n := by
            rcases Nat.lt_or_ge n (256 ^ j) with h | h
            · rw [Nat.div_eq_of_lt h] at hc; simp at hc
            · exact h
          rw [if_pos rfl, bylen_eq h6 h7, hb]; simp
        · rw [if_neg ho, hb]; simp
      by_cases c1 : (o.length : Int) > 0
      · rw [if_pos c1, step (.inl (by omega))]
      · rw [if_neg c1]
        have ho : o = [] := List.length_eq_zero_iff.1 (by omega)
        by_cases c2 : ((n / 256 ^ j % 256 : Nat) : Int) > 0
        · rw [if_pos c2, step (.inr (by omega))]
        · rw [if_neg c2]
          have h6 := h5 ho
          have hlt : n / 256 ^ j < 256 := by
            rw [Nat.div_lt_iff_lt_mul (Nat.pow_pos (by omega)), Nat.mul_comm, ← Nat.pow_succ]; exact h6
          have h7 : n < 256 ^ j := by
            rw [Nat.mod_eq_of_lt hlt] at c2
            have : n / 256 ^ j = 0 := by generalize n / 256 ^ j = q at *; omega
            exact (Nat.div_eq_zero_iff.1 this).resolve_left (by have := Nat.pow_pos (a := 256) (n := j) (by omega); omega)
          rw [hag _ ⟨rfl, by simp only; omega, by simp only; omega, by simp only; omega, fun _ => by simp only; rw [show ((j : Int) - 1 + 1).toNat = j by omega]; exact h7⟩ (by simp only; omega)]
          simp [ho]
    · have : i = -1 := by omega
      subst this
      rw [if_neg hi]
      by_cases ho : o = []
      · have h6 : n < 1 := h5 ho
        have : n = 0 := by omega
        subst this
        simp [bylen_zero, beB]
      · simp [ho, beB]
  · simp

theorem rAppendUint256_eq {b : List Int} (hb : b.length ≤ 1000000000) {n : Nat} (hn : n < 115792089237316195423570985008687907853269984665640564039457584007913129639936) :
    sol_ref6_AppendUint256 (b, (lim n, ())) = some ((b ++ enc n, ()), ((), ((), ()))) := by
  unfold sol_ref6_AppendUint256 T_ref6_AppendUint256 enc
  have h2 := bylen_256 hn
  rw [digits_eq hn]
  simp only [bind_some', letR_eq, append_def]
  rw [len_beB, w_u8 (by omega) (by omega), brR_room8 (by omega), brR_room8 (by omega), brR_room8 (by simp; omega)]
  simp

theorem rAppendUint64_eq {b : List Int} (hb : b.length ≤ 1000000000) {n : Int} (h0 : 0 ≤ n) (h1 : n ≤ 18446744073709551615) :
    sol_ref6_AppendUint64 (b, (n, ())) = some ((b ++ enc n.toNat, ()), ((), ((), ()))) := by
  unfold sol_ref6_AppendUint64 T_ref6_AppendUint64
  simp only
  rw [lim_small h0 h1, rAppendUint256_eq hb (by omega)]
  rfl

theorem rAppendBytes_eq {b x : List Int} (hb : b.length ≤ 100000000) (hx : x.length ≤ 100000000) :
    sol_ref6_AppendBytes (b, (x, ())) = some ((b ++ (enc x.length ++ x), ()), ((), ((), ()))) := by
  unfold sol_ref6_AppendBytes T_ref6_AppendBytes
  have h2 := @bylen_64 x.length (by omega)
  simp only [letR_eq]
  rw [w_u64 (n := ((x.length : Nat) : Int)) (by omega) (by omega), rAppendUint64_eq (by omega) (by omega) (by omega)]
  simp only [bind_some', Int.toNat_natCast]
  rw [brR_room8 (by simp [len_enc]; omega)]
  simp [append_def]

theorem rAppendInt256_eq {b : List Int} (hb : b.length ≤ 100000000) {s : Bool} {n : Nat} (hn : n < 115792089237316195423570985008687907853269984665640564039457584007913129639936) :
    sol_ref6_AppendInt256 (b, ((s, (lim n, ())), ())) = some ((b ++ encI s n, ()), ((), ((), ()))) := by
  unfold sol_ref6_AppendInt256 T_ref6_AppendInt256 encI
  simp only [append_def]
  rw [rAppendUint256_eq (by simp; omega) hn, rAppendUint256_eq (by simp; omega) hn, ← lim_zero, eqD_lim]
  simp only [bind_some', brR_dec, brR_room8 (show 0 + b.length ≤ 1099511627776 by omega), brR_room8 (show b.length + 1 ≤ 1099511627776 by omega)]
  cases s
  · simp [brR_true, brR_false]
  · by_cases h0 : n = 0
    · simp [h0, brR_true]
    · simp [h0, brR_true]

/-! ### Reading -/

theorem take_loop {b : List Int} (hb : Bytes b) (hl : b.length ≤ 1000000000) {at_ : Nat} (h1 : at_ < b.length) {k : Nat} (hk : k ≤ 32) (hkr : at_ + 1 + k ≤ b.length) (t6 : List Int) :
    bigLoop _ _ (fun again x => T_ref6_take_loop0 again x.1 x.2.1 x.2.2.1 x.2.2.2.1 x.2.2.2.2.1 x.2.2.2.2.2.1) (b, (((at_ : Nat) : Int), (t6, (lim 0, (((k : Nat) : Int), ((0 : Int), ())))))) =
      some ((lim (beV ((b.drop (at_ + 1)).take k)), (((at_ + 1 + k : Nat) : Int), ((0 : Int), ()))), ((), ((), ((), ())))) := by
  refine bigLoop_rule (I := fun x => x.1 = b ∧ x.2.1 = ((at_ : Nat) : Int) ∧ x.2.2.2.2.1 = ((k : Nat) : Int) ∧ (0 : Int) ≤ x.2.2.2.2.2.1 ∧ x.2.2.2.2.2.1 ≤ ((k : Nat) : Int) ∧ x.2.2.2.1 = lim (beV ((b.drop (at_ + 1)).take x.2.2.2.2.2.1.toNat) * 256 ^ (k - x.2.2.2.2.2.1.toNat)))
    (m := fun x => (((k : Nat) : Int) - x.2.2.2.2.2.1).toNat) (g := fun _ => some ((lim (beV ((b.drop (at_ + 1)).take k)), (((at_ + 1 + k : Nat) : Int), ((0 : Int), ()))), ((), ((), ((), ()))))) ?_
    ⟨rfl, rfl, rfl, by simp only; omega, by simp only; omega, by simp [beV_nil]⟩ (by simp only [bigN_eq]; omega)
  rintro ⟨b', a, t, l, k', i, _⟩ again ⟨e1, e2, e3, e4, e5, e6⟩ hag
  simp only at e1 e2 e3 e4 e5 e6 hag ⊢
  subst e1 e2 e3 e6
  obtain ⟨i, rfl⟩ := Int.eq_ofNat_of_zero_le e4
  simp only [T_ref6_take_loop0, letR_eq, brR_dec, brR_inR, Int.toNat_natCast]
  have hr := hb.drop (at_ + 1)
  have hrl : (b'.drop (at_ + 1)).length = b'.length - (at_ + 1) := List.length_drop
  by_cases hi : i < k
  · obtain ⟨j, hj⟩ : ∃ j, k = i + 1 + j := ⟨k - i - 1, by omega⟩
    have e : ((k : Nat) : Int) - 1 - i = (j : Int) := by omega
    have hby := hr.at i
    have hge : b'.getD (at_ + 1 + i) 0 = (b'.drop (at_ + 1)).getD i 0 := by
      rw [List.getD_eq_getElem?_getD, List.getD_eq_getElem?_getD, List.getElem?_drop]
    have hA := beV_take_lt hr (i := i + 1) (by omega)
    have hs := beV_take_succ (r := b'.drop (at_ + 1)) (i := i) (by omega)
    rw [hs] at hA
    rw [if_pos (by omega), w_i64 (n := ((k : Nat) : Int) - 1) (by omega) (by omega), e, w_i64 (n := (j : Int)) (by omega) (by omega), tdiv_pos (by omega), tmod_pos (by omega), w_i64 (n := (j : Int) / 8) (by omega) (by omega),
      w_i64 (n := 8 * ((j : Int) % 8)) (by omega) (by omega), w_u64 (n := 8 * ((j : Int) % 8)) (by omega) (by omega), w_i64 (n := (at_ : Int) + 1) (by omega) (by omega), w_i64 (n := (at_ : Int) + 1 + i) (by omega) (by omega), if_pos (by omega), if_pos (by omega), if_pos (by omega), if_pos (by omega), w_i64 (n := (i : Int) + 1) (by omega) (by omega)]
    rw [show ((j : Int) / 8).toNat = j / 8 by omega, show (8 * ((j : Int) % 8)).toNat = 8 * (j % 8) by omega, show ((at_ : Int) + 1 + i).toNat = at_ + 1 + i by omega, show k - i = j + 1 by omega, hge]
    generalize b'.drop (at_ + 1) = r' at *
    rw [w_u64 (n := r'.getD i 0) (by omega) (by omega)]
    obtain ⟨c, hc⟩ := Int.eq_ofNat_of_zero_le hby.1
    rw [hc] at hby hs hA ⊢
    rw [Int.toNat_natCast] at hs hA
    generalize hv : beV (r'.take i) = v at *
    have hp : 0 < 256 ^ j := Nat.pow_pos (by omega)
    have h3 : (v * 256 + c) * 256 ^ j < 256 ^ (i + 1) * 256 ^ j := Nat.mul_lt_mul_of_pos_right hA hp
    rw [← Nat.pow_add] at h3
    have h4 : (256 : Nat) ^ (i + 1 + j) ≤ 256 ^ 32 := Nat.pow_le_pow_right (by omega) (by omega)
    have h5 : v * 256 ^ (j + 1) + c * 256 ^ j = (v * 256 + c) * 256 ^ j := by rw [Nat.add_mul, Nat.pow_succ, Nat.mul_assoc v, Nat.mul_comm 256]
    have h6 : v * 256 ^ (j + 1) + c * 256 ^ j < 115792089237316195423570985008687907853269984665640564039457584007913129639936 := by
      rw [h5]; exact Nat.lt_of_lt_of_le h3 h4
    rw [lim_getD (by omega) (by omega), Nat.min_eq_left (by omega)]
    have h7 : (2 : Nat) ^ (8 * (j % 8)) ≤ 72057594037927936 := Nat.pow_le_pow_right (n := 2) (j := 56) (by omega) (by omega)
    have h8 : ((c : Nat) : Int) * 2 ^ (8 * (j % 8)) = ((c * 2 ^ (8 * (j % 8)) : Nat) : Int) := by rw [Int.natCast_mul, Int.natCast_pow]; rfl
    have h9 : c * 2 ^ (8 * (j % 8)) ≤ 255 * 72057594037927936 := Nat.mul_le_mul (by omega) h7
    have h10 : v * 256 ^ (j + 1) / 18446744073709551616 ^ (j / 8) % 18446744073709551616 < 18446744073709551616 := Nat.mod_lt _ (by omega)
    have h11 : v * 256 ^ (j + 1) / 18446744073709551616 ^ (j / 8) % 18446744073709551616 ||| c * 2 ^ (8 * (j % 8)) < 18446744073709551616 := Nat.or_lt_two_pow (n := 64) h10 (by omega)
    rw [h8, w_u64 (n := ((c * 2 ^ (8 * (j % 8)) : Nat) : Int)) (by omega) (by omega), ← Int.natCast_add, ← limb_sum (by omega), w_u64 (by omega) (by omega), lim_set (by omega) (by omega) h6 rfl, h5]
    refine hag _ ⟨rfl, rfl, rfl, by simp only; omega, by simp only; omega, ?_⟩ (by simp only; omega)
    simp only
    rw [show ((i : Int) + 1).toNat = i + 1 by omega, hs, show k - (i + 1) = j by omega]
  · have : i = k := by omega
    subst this
    rw [if_neg (by omega), Nat.sub_self, Nat.pow_zero, Nat.mul_one, w_i64 (n := (at_ : Int) + 1) (by omega) (by omega), w_i64 (by omega) (by omega), show (at_ : Int) + 1 + i = ((at_ + 1 + i : Nat) : Int) by omega]

theorem take_eq {b : List Int} (hb : Bytes b) (hl : b.length ≤ 1000000000) {at_ : Int} (h1 : -9223372036854775808 ≤ at_) (h2 : at_ ≤ 9223372036854775807) {most : Nat} (hm : most ≤ 32) :
    sol_ref6_take (b, (at_, (((most : Nat) : Int), ()))) = some (readR b at_ most, ((), ((), ((), ())))) := by
  unfold sol_ref6_take T_ref6_take readR
  simp only [letR_eq, brR_dec, brR_and, brR_inR]
  by_cases c1 : at_ < 0
  · rw [if_pos c1, if_pos (.inl c1)]; rfl
  rw [if_neg c1]
  by_cases c2 : b.length < at_
  · rw [if_pos (by omega), if_pos (.inr c2)]; rfl
  rw [if_neg (show ¬ at_ > (b.length : Int) by omega), if_neg (show ¬ (at_ < 0 ∨ (b.length : Int) < at_) by omega)]
  obtain ⟨i, rfl⟩ := Int.eq_ofNat_of_zero_le (show 0 ≤ at_ by omega)
  simp only [Int.toNat_natCast]
  by_cases c3 : i = b.length
  · rw [if_pos (by omega)]
    unfold rdU
    rw [c3, List.drop_length]; rfl
  have hin : 0 ≤ (i : Int) ∧ (i : Int) < (b.length : Int) := by omega
  simp only [if_pos hin]
  rw [if_neg (by omega)]
  obtain ⟨k, r, hkr⟩ : ∃ k r, b.drop i = k :: r := by
    cases h : b.drop i with
    | nil => have := List.drop_eq_nil_iff.1 h; omega
    | cons k r => exact ⟨k, r, rfl⟩
  have hd := hb.drop i
  have hlen : (b.drop i).length = b.length - i := List.length_drop
  have hr : b.drop (i + 1) = r := by rw [← List.drop_drop, hkr]; rfl
  have g1 : b.getD i 0 = k := by
    have : (b.drop i).getD 0 0 = b.getD i 0 := by rw [List.getD_eq_getElem?_getD, List.getD_eq_getElem?_getD, List.getElem?_drop]; rfl
    rw [← this, hkr]; rfl
  have g2 : b.getD (i + 1) 0 = r.getD 0 0 := by
    rw [← hr, List.getD_eq_getElem?_getD, List.getD_eq_getElem?_getD, List.getElem?_drop]
  unfold rdU
  rw [hkr] at hd hlen ⊢
  have hk := hd k (by simp)
  obtain ⟨k, rfl⟩ := Int.eq_ofNat_of_zero_le hk.1
  simp only [List.length_cons] at hlen
  rw [g1, w_i64 (n := (k : Int)) (by omega) (by omega), w_i64 (n := (b.length : Int) - (i : Int)) (by omega) (by omega), w_i64 (by omega) (by omega)]
  simp only [Int.toNat_natCast]
  by_cases c4 : most < k
  · rw [if_pos (by omega), if_pos (by omega)]; rfl
  rw [if_neg (by omega)]
  by_cases c5 : r.length < k
  · rw [if_pos (by omega), if_pos (by omega)]; rfl
  rw [if_neg (by omega)]
  have loop := take_loop hb hl (at_ := i) (by omega) (k := k) (by omega) (by omega)
  rw [hr] at loop
  by_cases c6 : 0 < k
  · rw [if_pos (by omega), w_i64 (by omega) (by omega), if_pos (by omega), show ((i : Int) + 1).toNat = i + 1 by omega, g2]
    by_cases c7 : r.getD 0 0 = 0
    · rw [if_pos c7, if_pos (by omega)]; rfl
    · rw [if_neg c7, if_neg (by omega)]
      exact loop _
  · rw [if_neg (by omega), if_neg (by omega)]
    exact loop _

theorem rReadUint256_eq {b : List Int} (hb : Bytes b) (hl : b.length ≤ 1000000000) {at_ : Int} (h1 : -9223372036854775808 ≤ at_) (h2 : at_ ≤ 9223372036854775807) :
    sol_ref6_ReadUint256 (b, (at_, ())) = some (readR b at_ 32, ((), ((), ()))) := by
  unfold sol_ref6_ReadUint256 T_ref6_ReadUint256
  rw [show ((32 : Int)) = ((32 : Nat) : Int) from rfl, take_eq hb hl h1 h2 (by omega)]
  simp only [bind_some']

theorem rReadUint64_eq {b : List Int} (hb : Bytes b) (hl : b.length ≤ 1000000000) {at_ : Int} (h1 : -9223372036854775808 ≤ at_) (h2 : at_ ≤ 9223372036854775807) :
    sol_ref6_ReadUint64 (b, (at_, ())) = some ((((val4 (readR b at_ 8).1 : Nat) : Int), (readR b at_ 8).2), ((), ((), ()))) := by
  unfold sol_ref6_ReadUint64 T_ref6_ReadUint64
  obtain ⟨v, v1, v2, _⟩ := readR_bounds hb at_ (most := 8) (by omega)
  rw [show ((8 : Int)) = ((8 : Nat) : Int) from rfl, take_eq hb hl h1 h2 (by omega)]
  simp only [bind_some']
  have : (readR b at_ 8).1.getD 0 0 = ((val4 (readR b at_ 8).1 : Nat) : Int) := by
    rw [v2, val4_lim]; simp only [lim, List.getD_cons_zero]; omega
  rw [this]

theorem rReadBytes_eq {b : List Int} (hb : Bytes b) (hl : b.length ≤ 1000000000) {at_ : Int} (h1 : -9223372036854775808 ≤ at_) (h2 : at_ ≤ 9223372036854775807) :
    sol_ref6_ReadBytes (b, (at_, ())) = some (readB b at_, ((), ((), ()))) := by
  unfold sol_ref6_ReadBytes T_ref6_ReadBytes readB
  rw [rReadUint64_eq hb hl h1 h2]
  simp only [bind_some', letR_eq, brR_dec, brR_not, brR_and]
  unfold readR
  by_cases c1 : at_ < 0 ∨ (b.length : Int) < at_
  · rw [if_pos c1, if_pos c1]; rfl
  rw [if_neg c1, if_neg c1]
  cases h : rdU b at_.toNat 8 with
  | none => rfl
  | some p =>
    obtain ⟨n, j⟩ := p
    obtain ⟨r1, r2, r3, _⟩ := rdU_le h hb
    have r3 : n < 18446744073709551616 := r3
    simp only [val4_lim]
    rw [if_pos trivial, w_i64 (n := (b.length : Int) - (j : Int)) (by omega) (by omega), w_u64 (by omega) (by omega)]
    by_cases c2 : b.length - j < n
    · rw [if_pos (by omega), if_pos c2]
    · rw [if_neg (by omega), if_neg c2, w_i64 (n := (n : Int)) (by omega) (by omega), w_i64 (n := (j : Int) + (n : Int)) (by omega) (by omega), if_pos (by omega), if_pos (by omega), if_pos (by omega)]
      rw [show ((j : Int) + (n : Int)).toNat - (j : Int).toNat = n by omega, Int.toNat_natCast, brR_room8 (by rw [List.length_take, List.length_drop]; omega)]
      rw [show ((j : Int) + (n : Int)) = ((j + n : Nat) : Int) by omega]

theorem rReadInt256_eq {b : List Int} (hb : Bytes b) (hl : b.length ≤ 1000000000) {at_ : Int} (h1 : -9223372036854775808 ≤ at_) (h2 : at_ ≤ 9223372036854775807) :
    sol_ref6_ReadInt256 (b, (at_, ())) = some (readI b at_, ((), ((), ()))) := by
  unfold sol_ref6_ReadInt256 T_ref6_ReadInt256 readI
  simp only [letR_eq, brR_dec, brR_inR, brR_not]
  by_cases c1 : at_ < 0
  · rw [if_pos c1, if_pos (.inl c1)]; rfl
  rw [if_neg c1]
  by_cases c2 : b.length < at_
  · rw [if_pos (by omega), if_pos (.inr c2)]; rfl
  obtain ⟨i, rfl⟩ := Int.eq_ofNat_of_zero_le (show 0 ≤ at_ by omega)
  rw [if_neg (show ¬ (i : Int) > (b.length : Int) by omega), if_neg (show ¬ ((i : Int) < 0 ∨ (b.length : Int) < (i : Int)) by omega)]
  simp only [Int.toNat_natCast]
  by_cases c3 : b.length = i
  · rw [if_pos (by omega), if_pos (.inl c3)]; rfl
  have hin : 0 ≤ (i : Int) ∧ (i : Int) < (b.length : Int) := by omega
  simp only [if_pos hin]
  rw [if_neg (by omega)]
  by_cases c4 : 1 < b.getD i 0
  · rw [if_pos (by omega), if_pos (.inr c4)]; rfl
  rw [if_neg (show ¬ b.getD i 0 > 1 by omega), if_neg (show ¬ (b.length = i ∨ 1 < b.getD i 0) by omega), w_i64 (by omega) (by omega), show ((i : Int) + 1) = ((i + 1 : Nat) : Int) by omega, rReadUint256_eq hb hl (by omega) (by omega)]
  simp only [bind_some']
  unfold readR
  rw [if_neg (show ¬ (((i + 1 : Nat) : Int) < 0 ∨ (b.length : Int) < ((i + 1 : Nat) : Int)) by omega), Int.toNat_natCast]
  cases h : rdU b (i + 1) 32 with
  | none => rfl
  | some p =>
    obtain ⟨n, j⟩ := p
    simp only
    rw [← lim_zero, eqD_lim, brR_dec]
    by_cases c5 : b.getD i 0 = 1 <;> by_cases c6 : n = 0 <;> simp [c5, c6, -List.getD_eq_getElem?_getD]

end Go.Pon
/-
  Encodings and readings are inverse.
-/
set_option autoImplicit false
set_option linter.unusedVariables false
set_option linter.unusedSimpArgs false
namespace Go.Pon
open Go

theorem foldl_beV (l : List Int) : ∀ v : Nat, l.foldl (fun v x => v * 256 + x.toNat) v = v * 256 ^ l.length + beV l := by
  refine snoc_ind (motive := fun l => ∀ v : Nat, l.foldl (fun v x => v * 256 + x.toNat) v = v * 256 ^ l.length + beV l) l ?_ ?_
  · intro v; simp [beV]
  · intro l x ih v
    rw [List.foldl_append, ih, beV_append]
    simp only [List.foldl_cons, List.foldl_nil, List.length_append, List.length_singleton, Nat.pow_succ]
    rw [Nat.add_mul, Nat.mul_assoc]; omega

theorem beV_cons (x : Int) (l : List Int) : beV (x :: l) = x.toNat * 256 ^ l.length + beV l := by
  rw [beV, List.foldl_cons, foldl_beV]; simp

theorem beV_beB : ∀ k n, beV (beB k n) = n % 256 ^ k
  | 0, n => by simp [beB, beV_nil, Nat.mod_one]
  | k + 1, n => by
    rw [beB, beV_cons, beV_beB k n, len_beB, Int.toNat_natCast, Nat.pow_succ, Nat.mod_mul, Nat.mul_comm]; omega

theorem beB_add {k n m : Nat} : beB k (m * 256 ^ k + n) = beB k n := by
  induction k generalizing m with
  | zero => rfl
  | succ k ih =>
    rw [beB, beB, Nat.pow_succ, Nat.mul_comm (256 ^ k), ← Nat.mul_assoc, ih]
    congr 2
    rw [Nat.mul_comm (m * 256), Nat.mul_add_div (Nat.pow_pos (by omega)), Nat.mul_comm m, Nat.mul_add_mod]

theorem beB_beV : ∀ {l : List Int}, Bytes l → beB l.length (beV l) = l
  | [], _ => rfl
  | x :: l, h => by
    have hx := h x (by simp)
    have hl : Bytes l := fun y hy => h y (by simp [hy])
    have hlt := beV_lt l hl
    have hp : 0 < 256 ^ l.length := Nat.pow_pos (by omega)
    rw [List.length_cons, beV_cons, beB, beB_add, beB_beV hl]
    congr 1
    rw [Nat.mul_comm, Nat.mul_add_div hp, Nat.div_eq_of_lt hlt]
    omega

theorem bylen_beV {l : List Int} (h : Bytes l) (h0 : l.getD 0 1 ≠ 0) : bylen (beV l) = l.length := by
  cases l with
  | nil => rfl
  | cons x l =>
    have hx := h x (by simp)
    have h0 : x ≠ 0 := h0
    have hlt := beV_lt (x :: l) h
    have hp : 0 < 256 ^ l.length := Nat.pow_pos (by omega)
    have hge : 256 ^ l.length ≤ beV (x :: l) := by
      rw [beV_cons]
      have : 1 * 256 ^ l.length ≤ x.toNat * 256 ^ l.length := Nat.mul_le_mul_right _ (by omega)
      omega
    have a := bylen_le.2 hlt
    simp only [List.length_cons] at a ⊢
    rcases Nat.lt_or_ge l.length (bylen (beV (x :: l))) with hh | hh
    · omega
    · have := bylen_le.1 hh; omega

theorem beB_head {n : Nat} (h : 0 < bylen n) : (beB (bylen n) n).getD 0 1 ≠ 0 := by
  obtain ⟨k, hk⟩ : ∃ k, bylen n = k + 1 := ⟨bylen n - 1, by omega⟩
  rw [hk, beB, List.getD_cons_zero]
  have h1 : n < 256 ^ (k + 1) := bylen_le.1 (by omega)
  have h2 : 256 ^ k ≤ n := by
    rcases Nat.lt_or_ge n (256 ^ k) with hh | hh
    · have := bylen_le.2 hh; omega
    · exact hh
  have hp : 0 < 256 ^ k := Nat.pow_pos (by omega)
  have h3 : n / 256 ^ k < 256 := by rw [Nat.div_lt_iff_lt_mul hp, Nat.mul_comm, ← Nat.pow_succ]; exact h1
  have h4 : 1 ≤ n / 256 ^ k := (Nat.le_div_iff_mul_le hp).2 (by omega)
  rw [Nat.mod_eq_of_lt h3]
  generalize n / 256 ^ k = q at *
  omega

theorem bytes_enc {n : Nat} (h : bylen n ≤ 255) : Bytes (enc n) := by
  intro x hx
  rcases List.mem_cons.1 hx with rfl | hx
  · omega
  · exact beB_byte x hx

/-- Reading what was encoded. -/
theorem rdU_enc {a z : List Int} {n most : Nat} (hn : n < 256 ^ most) (hm : most ≤ 32) : rdU (a ++ (enc n ++ z)) a.length most = some (n, a.length + 1 + bylen n) := by
  have hk := bylen_le.2 hn
  unfold rdU
  rw [List.drop_left' rfl, enc, List.cons_append]
  simp only [Int.toNat_natCast, List.length_append, len_beB]
  rw [if_neg, List.take_append_of_le_length (by rw [len_beB]; omega), List.take_of_length_le (by rw [len_beB]; omega), beV_beB, Nat.mod_eq_of_lt (bylen_le.1 (Nat.le_refl _))]
  rintro (h | h | ⟨h1, h2⟩)
  · omega
  · omega
  · have := beB_head h1
    rw [List.getD_eq_getElem?_getD, List.getElem?_append_left (by rw [len_beB]; omega), ← List.getD_eq_getElem?_getD] at h2
    have e : (beB (bylen n) n).getD 0 1 = (beB (bylen n) n).getD 0 0 := by
      have : 0 < (beB (bylen n) n).length := by rw [len_beB]; exact h1
      rw [List.getD_eq_getElem?_getD, List.getD_eq_getElem?_getD, List.getElem?_eq_getElem this]; rfl
    omega

/-- What was read is the encoding. -/
theorem enc_rdU {b : List Int} (hb : Bytes b) {i most v j : Nat} (h : rdU b i most = some (v, j)) : enc v = (b.drop i).take (j - i) := by
  unfold rdU at h
  split at h
  · cases h
  · rename_i k r hr
    split at h
    · cases h
    · rename_i hk
      cases h
      have hd : Bytes (k :: r) := hr ▸ hb.drop i
      have hk0 := hd k (by simp)
      have hrb : Bytes r := fun x hx => hd x (by simp [hx])
      have hl : (r.take k.toNat).length = k.toNat := by rw [List.length_take]; omega
      have hlen : bylen (beV (r.take k.toNat)) = k.toNat := by
        rw [bylen_beV (hrb.take _) ?_, hl]
        rw [List.getD_eq_getElem?_getD, List.getElem?_take]
        split
        · rename_i h0
          have h2 : r.getD 0 0 ≠ 0 := fun he => hk (.inr (.inr ⟨h0, he⟩))
          have h3 : 0 < r.length := by omega
          rw [List.getD_eq_getElem?_getD, List.getElem?_eq_getElem h3] at h2
          rw [List.getElem?_eq_getElem h3]; exact h2
        · simp
      have hB := beB_beV (hrb.take k.toNat)
      rw [hl] at hB
      rw [enc, hlen, hB, hr, show i + 1 + k.toNat - i = k.toNat + 1 by omega, List.take_succ_cons]
      congr 1
      omega

theorem readR_enc {a z : List Int} {n most : Nat} (hn : n < 256 ^ most) (hm : most ≤ 32) : readR (a ++ (enc n ++ z)) ((a.length : Nat) : Int) most = (lim n, ((((a ++ enc n).length : Nat) : Int), (0, ()))) := by
  unfold readR
  rw [if_neg (by simp only [List.length_append]; omega), Int.toNat_natCast, rdU_enc hn hm]
  simp [len_enc]; omega

theorem readB_enc {a x z : List Int} (hx : x.length ≤ 1000000000) : readB (a ++ (enc x.length ++ (x ++ z))) ((a.length : Nat) : Int) = (x, ((((a ++ (enc x.length ++ x)).length : Nat) : Int), (0, ()))) := by
  unfold readB
  rw [if_neg (by simp only [List.length_append]; omega), Int.toNat_natCast, rdU_enc (by omega) (by omega)]
  simp only [List.length_append, len_enc]
  rw [if_neg (by omega)]
  have e : a.length + 1 + bylen x.length = (a ++ enc x.length).length := by rw [List.length_append, len_enc]; omega
  rw [← List.append_assoc, ← List.append_assoc, e, List.append_assoc (a ++ enc x.length), List.drop_left' rfl, List.take_left' rfl]
  simp [len_enc]; omega

theorem readI_enc {a z : List Int} {s : Bool} {n : Nat} (hn : n < 115792089237316195423570985008687907853269984665640564039457584007913129639936) (h : ¬ (s = true ∧ n = 0)) :
    readI (a ++ (encI s n ++ z)) ((a.length : Nat) : Int) = ((s, (lim n, ())), ((((a ++ encI s n).length : Nat) : Int), (0, ()))) := by
  unfold readI encI
  rw [if_neg h, if_neg (by simp only [List.length_append]; omega), Int.toNat_natCast]
  have g : (a ++ ((if s = true then (1 : Int) else 0) :: enc n ++ z)).getD a.length 0 = if s = true then 1 else 0 := by
    rw [List.getD_eq_getElem?_getD, List.getElem?_append_right (by omega), Nat.sub_self]; rfl
  rw [g, if_neg (by
    rintro (hh | hh)
    · simp only [List.length_append, List.length_cons] at hh; omega
    · cases s <;> simp at hh)]
  have e : a ++ ((if s = true then (1 : Int) else 0) :: enc n ++ z) = (a ++ [if s = true then (1 : Int) else 0]) ++ (enc n ++ z) := by simp
  have l : a.length + 1 = (a ++ [if s = true then (1 : Int) else 0]).length := by simp
  rw [e, l, rdU_enc hn (by omega)]
  simp only
  rw [if_neg (by
    rintro ⟨h1, h2⟩
    cases s
    · simp at h1
    · exact h ⟨rfl, h2⟩)]
  cases s <;> simp [len_enc] <;> omega

theorem bytes_encI {s : Bool} {n : Nat} (h : bylen n ≤ 255) : Bytes (encI s n) := by
  unfold encI
  split
  · intro x hx; cases hx
  · intro x hx
    rcases List.mem_cons.1 hx with rfl | hx
    · cases s <;> simp
    · exact bytes_enc h x hx

end Go.Pon
/-
  The laws of chapter 6.
-/
set_option autoImplicit false
set_option linter.unusedVariables false
set_option linter.unusedSimpArgs false
namespace Go.Pon
open Go

theorem bytes_wf {b : List Int} (h : (Ty.slice (.int .u8)).wf b) : Bytes b := fun x hx => inK_u8.1 (h.2 x hx)

theorem equalBytes_eq (a b : List Int) : sol_law0_EqualBytes (a, (b, ())) = some ((decide (a = b), ()), ((), ((), ()))) := by
  unfold sol_law0_EqualBytes T_law0_EqualBytes
  rfl

theorem mod_eq {x n : Int} (h0 : -9223372036854775808 ≤ x) (h1 : x ≤ 9223372036854775807) (h2 : 1 ≤ n) (h3 : n ≤ 9223372036854775807) :
    sol_law0_Mod (x, (n, ())) = some ((((x % 18446744073709551616) % n, ()), ((), ((), ())))) := by
  unfold sol_law0_Mod T_law0_Mod
  simp only [letR_eq, brR_dec]
  rw [w_u64 (n := n) (by omega) (by omega), if_pos (by omega), IntKind.wrap_u64, tmod_pos (by omega), w_i64]
  · have := Int.emod_nonneg (x % 18446744073709551616) (b := n) (by omega); omega
  · have := Int.emod_lt_of_pos (x % 18446744073709551616) (b := n) (by omega); omega

theorem lim_258 : ([258, 0, 0, 0] : List Int) = lim 258 := rfl

theorem awake6 : sol_law6_awake () = some ((true, ()), ()) := by
  unfold sol_law6_awake T_law6_awake
  rw [lim_258, ← lim_zero, appendUint256_eq (by simp) (by omega), appendUint256_eq (by simp) (by omega), readUint256_eq (by intro x hx; simp at hx; omega) (by simp) (by omega) (by omega)]
  have e1 : enc 258 = [2, 1, 2] := by decide
  have e2 : enc 0 = [0] := by decide
  have e3 : (readR [1, 0] 0 32).2.2.1 = 3 := by decide
  simp only [bind_some', letR_eq, e1, e2, e3, List.nil_append]
  rfl

theorem law_WireAppend : ∀ x, wfL s_law6_WireAppend.ins x → ∃ y, sol_law6_WireAppend x = some y ∧ y.1.1 = true := by
  rintro ⟨b, n, m, x, a, _⟩ ⟨hb, hn0, hm, hx, ha, _⟩
  obtain ⟨n, hn, rfl⟩ := u256_wf hn0
  obtain ⟨s, k, hk, rfl⟩ := i256_wf ha
  have hm := inK_u64.1 hm
  unfold sol_law6_WireAppend T_law6_WireAppend
  simp only
  rw [awake6]
  simp only [brR_dec, bind_some']
  by_cases c1 : (List.length b : Int) > 300
  · rw [if_pos c1]; exact ⟨_, rfl, rfl⟩
  rw [if_neg c1]
  by_cases c2 : (List.length x : Int) > 300
  · rw [if_pos c2]; exact ⟨_, rfl, rfl⟩
  rw [if_neg c2, appendUint256_eq (by omega) hn, rAppendUint256_eq (by omega) hn, appendUint64_eq (by omega) hm.1 hm.2, rAppendUint64_eq (by omega) hm.1 hm.2, appendBytes_eq (by omega) (by omega), rAppendBytes_eq (by omega) (by omega),
    appendInt256_eq (by omega) hk, rAppendInt256_eq (by omega) hk]
  have hmm : 0 ≤ Int.tmod m 300 ∧ Int.tmod m 300 ≤ 300 := by rw [tmod_pos hm.1]; omega
  rw [appendUint64_eq (by simp) hmm.1 (by omega), rAppendUint64_eq (by simp) hmm.1 (by omega)]
  simp only [bind_some', equalBytes_eq, decide_true, brR_true]
  exact ⟨_, rfl, rfl⟩

/-- Both ways of two tests. -/
theorem law_WireRead_step {b : List Int} (hb : Bytes b) (hl : b.length ≤ 600) {k : Int} (h1 : -9223372036854775808 ≤ k) (h2 : k ≤ 9223372036854775807) :
    sol_law6_bytesAndIntsAgree (b, (k, ())) = some ((true, ()), ((), ((), ()))) := by
  unfold sol_law6_bytesAndIntsAgree T_law6_bytesAndIntsAgree
  simp only
  rw [readBytes_eq hb (by omega) h1 h2, rReadBytes_eq hb (by omega) h1 h2, readInt256_eq hb (by omega) h1 h2, rReadInt256_eq hb (by omega) h1 h2]
  simp only [bind_some', equalBytes_eq, decide_true, brR_true]
  have e : ∀ (t : Ty) (x : t.den), eqD t x x = true := fun t x => eqD_iff.2 rfl
  simp only [e, brR_true]

theorem law_WireRead_at (b : List Int) (at_ : Int) (hb : Bytes b) (ha : -9223372036854775808 ≤ at_ ∧ at_ ≤ 9223372036854775807) : ∃ y, sol_law6_WireRead (b, (at_, ())) = some y ∧ y.1.1 = true := by
  unfold sol_law6_WireRead T_law6_WireRead
  simp only
  rw [awake6]
  simp only [brR_dec, bind_some']
  by_cases c1 : (List.length b : Int) > 600
  · rw [if_pos c1]; exact ⟨_, rfl, rfl⟩
  rw [if_neg c1, w_i64 (n := (List.length b : Int) + 1) (by omega) (by omega), mod_eq ha.1 ha.2 (by omega) (by omega)]
  simp only [bind_some']
  have hm0 : 0 ≤ (at_ % 18446744073709551616) % ((List.length b : Int) + 1) := Int.emod_nonneg _ (by omega)
  have hm1 : (at_ % 18446744073709551616) % ((List.length b : Int) + 1) < (List.length b : Int) + 1 := Int.emod_lt_of_pos _ (by omega)
  generalize (at_ % 18446744073709551616) % ((List.length b : Int) + 1) = q at *
  refine ⟨_, bigLoop_rule (I := fun x => x.1 = b ∧ x.2.1 = [at_, q] ∧ (0 : Int) ≤ x.2.2.1 ∧ x.2.2.1 ≤ (2 : Int)) (m := fun x => ((2 : Int) - x.2.2.1).toNat) (g := fun _ => some ((true, ()), ((), ((), ())))) ?_
    ⟨rfl, rfl, by simp only; omega, by simp only; omega⟩ (by simp only [bigN_eq]; omega), rfl⟩
  rintro ⟨b', l, i, _⟩ again ⟨e1, e2, e3, e4⟩ hag
  simp only at e1 e2 e3 e4 hag ⊢
  subst e1 e2
  simp only [T_law6_WireRead_loop0, letR_eq, brR_dec, brR_inR]
  rw [awake6]
  by_cases hi : i < 2
  · rw [if_pos hi, if_pos (by omega)]
    have hk : -9223372036854775808 ≤ List.getD [at_, q] i.toNat 0 ∧ List.getD [at_, q] i.toNat 0 ≤ 9223372036854775807 := by
      have : i = 0 ∨ i = 1 := by omega
      rcases this with rfl | rfl
      · exact ha
      · exact ⟨by simp only [show (1 : Int).toNat = 1 from rfl, List.getD_cons_succ, List.getD_cons_zero]; omega, by simp only [show (1 : Int).toNat = 1 from rfl, List.getD_cons_succ, List.getD_cons_zero]; omega⟩
    generalize List.getD [at_, q] i.toNat 0 = k at *
    rw [readUint256_eq hb (by omega) hk.1 hk.2, rReadUint256_eq hb (by omega) hk.1 hk.2, readUint64_eq hb (by omega) hk.1 hk.2, rReadUint64_eq hb (by omega) hk.1 hk.2]
    have e : ∀ (t : Ty) (x : t.den), eqD t x x = true := fun t x => eqD_iff.2 rfl
    simp only [bind_some', e, brR_true, brR_not, brR_false, brR_dec, if_true]
    rw [law_WireRead_step hb (by omega) hk.1 hk.2]
    simp only [bind_some', brR_true, Bool.not_true, brR_false]
    rw [w_i64 (by omega) (by omega)]
    exact hag _ ⟨rfl, rfl, by simp only; omega, by simp only; omega⟩ (by simp only; omega)
  · rw [if_neg hi]
    simp only [bind_some']

theorem law_WireRead : ∀ x, wfL s_law6_WireRead.ins x → ∃ y, sol_law6_WireRead x = some y ∧ y.1.1 = true :=
  fun ⟨b, at_, _⟩ ⟨hb, ha, _⟩ => law_WireRead_at b at_ (bytes_wf hb) (inK_i64.1 ha)

/-! ### Canonical -/

theorem canonU {b : List Int} (hb : Bytes b) (hl : b.length ≤ 300) {q : Nat} (hq : q ≤ b.length) : sol_wire_ReadUint256 (b, (((q : Nat) : Int), ())) = some ((lim 0, (0, (3, ()))), ((), ((), ()))) ∨
    ∃ v j : Nat, sol_wire_ReadUint256 (b, (((q : Nat) : Int), ())) = some ((lim v, (((j : Nat) : Int), (0, ()))), ((), ((), ()))) ∧ (¬ ((j : Int) < (q : Int)) ∧ ¬ ((j : Int) > (b.length : Int)) ∧ (0 : Int) ≤ q ∧ (q : Int) ≤ j ∧ (j : Int) ≤ b.length) ∧ sol_wire_AppendUint256 ([], (lim v, ())) = some (((b.drop q).take (j - q), ()), ((), ((), ()))) := by
  rw [readUint256_eq hb (by omega) (by omega) (by omega)]
  unfold readR
  rw [if_neg (by omega), Int.toNat_natCast]
  cases h : rdU b q 32 with
  | none => exact .inl rfl
  | some p =>
    obtain ⟨v, j⟩ := p
    obtain ⟨r1, r2, r3, _⟩ := rdU_le h hb
    exact .inr ⟨v, j, rfl, by omega, by rw [appendUint256_eq (by simp) r3, enc_rdU hb h]; rfl⟩

theorem canonB {b : List Int} (hb : Bytes b) (hl : b.length ≤ 300) {q : Nat} (hq : q ≤ b.length) : sol_wire_ReadBytes (b, (((q : Nat) : Int), ())) = some (([], (0, (3, ()))), ((), ((), ()))) ∨
    ∃ (x : List Int) (j : Nat), sol_wire_ReadBytes (b, (((q : Nat) : Int), ())) = some ((x, (((j : Nat) : Int), (0, ()))), ((), ((), ()))) ∧ (¬ ((j : Int) < (q : Int)) ∧ ¬ ((j : Int) > (b.length : Int)) ∧ (0 : Int) ≤ q ∧ (q : Int) ≤ j ∧ (j : Int) ≤ b.length) ∧ sol_wire_AppendBytes ([], (x, ())) = some (((b.drop q).take (j - q), ()), ((), ((), ()))) := by
  rw [readBytes_eq hb (by omega) (by omega) (by omega)]
  unfold readB
  rw [if_neg (by omega), Int.toNat_natCast]
  cases h : rdU b q 8 with
  | none => exact .inl rfl
  | some p =>
    obtain ⟨n, j⟩ := p
    obtain ⟨r1, r2, r3, _⟩ := rdU_le h hb
    simp only
    by_cases c : b.length - j < n
    · rw [if_pos c]; exact .inl rfl
    · rw [if_neg c]
      have hx : ((b.drop j).take n).length = n := by rw [List.length_take, List.length_drop]; omega
      refine .inr ⟨_, j + n, rfl, by omega, ?_⟩
      rw [appendBytes_eq (by simp) (by omega), hx, enc_rdU hb h, List.nil_append]
      congr 3
      rw [show j + n - q = (j - q) + n by omega, List.take_add, List.drop_drop, show q + (j - q) = j by omega]

theorem canonI {b : List Int} (hb : Bytes b) (hl : b.length ≤ 300) {q : Nat} (hq : q ≤ b.length) : sol_wire_ReadInt256 (b, (((q : Nat) : Int), ())) = some (((false, (lim 0, ())), (0, (3, ()))), ((), ((), ()))) ∨
    ∃ (x : I256) (j : Nat), sol_wire_ReadInt256 (b, (((q : Nat) : Int), ())) = some ((x, (((j : Nat) : Int), (0, ()))), ((), ((), ()))) ∧ (¬ ((j : Int) < (q : Int)) ∧ ¬ ((j : Int) > (b.length : Int)) ∧ (0 : Int) ≤ q ∧ (q : Int) ≤ j ∧ (j : Int) ≤ b.length) ∧ sol_wire_AppendInt256 ([], (x, ())) = some (((b.drop q).take (j - q), ()), ((), ((), ()))) := by
  rw [readInt256_eq hb (by omega) (by omega) (by omega)]
  unfold readI
  rw [if_neg (by omega), Int.toNat_natCast]
  by_cases c1 : b.length = q ∨ 1 < b.getD q 0
  · rw [if_pos c1]; exact .inl rfl
  rw [if_neg c1]
  cases h : rdU b (q + 1) 32 with
  | none => exact .inl rfl
  | some p =>
    obtain ⟨n, j⟩ := p
    obtain ⟨r1, r2, r3, _⟩ := rdU_le h hb
    simp only
    by_cases c : b.getD q 0 = 1 ∧ n = 0
    · rw [if_pos c]; exact .inl rfl
    · rw [if_neg c]
      refine .inr ⟨_, j, rfl, by omega, ?_⟩
      have hby := hb.at q
      rw [appendInt256_eq (by simp) r3, encI, if_neg (by simpa using c), enc_rdU hb h, List.nil_append]
      congr 3
      have hd : b.drop q = b.getD q 0 :: b.drop (q + 1) := by
        rw [List.drop_eq_getElem_cons (by omega), List.getD_eq_getElem?_getD, List.getElem?_eq_getElem (by omega)]; rfl
      rw [hd, show j - q = (j - (q + 1)) + 1 by omega, List.take_succ_cons]
      congr 1
      by_cases c2 : b.getD q 0 = 1
      · rw [if_pos (by simpa using c2), c2]
      · rw [if_neg (by simpa using c2)]; omega

theorem law_WireCanonical_at (b : List Int) (at_ : Int) (hb : Bytes b) (ha : -9223372036854775808 ≤ at_ ∧ at_ ≤ 9223372036854775807) : ∃ y, sol_law6_WireCanonical (b, (at_, ())) = some y ∧ y.1.1 = true := by
  unfold sol_law6_WireCanonical T_law6_WireCanonical
  simp only
  rw [awake6]
  simp only [brR_dec, bind_some']
  by_cases c1 : (List.length b : Int) > 300
  · rw [if_pos c1]; exact ⟨_, rfl, rfl⟩
  rw [if_neg c1, w_i64 (n := (List.length b : Int) + 1) (by omega) (by omega), mod_eq ha.1 ha.2 (by omega) (by omega)]
  simp only [bind_some', letR_eq]
  have hm0 : 0 ≤ (at_ % 18446744073709551616) % ((List.length b : Int) + 1) := Int.emod_nonneg _ (by omega)
  have hm1 : (at_ % 18446744073709551616) % ((List.length b : Int) + 1) < (List.length b : Int) + 1 := Int.emod_lt_of_pos _ (by omega)
  generalize (at_ % 18446744073709551616) % ((List.length b : Int) + 1) = q at *
  obtain ⟨q, rfl⟩ := Int.eq_ofNat_of_zero_le hm0
  rcases canonU hb (by omega) (q := q) (by omega) with u1 | ⟨v, j1, u1, u2, u4⟩ <;>
    rcases canonB hb (by omega) (q := q) (by omega) with v1 | ⟨x, j2, v1, v2, v4⟩ <;>
    rcases canonI hb (by omega) (q := q) (by omega) with w1 | ⟨z, j3, w1, w2, w4⟩
  all_goals
    rw [u1, v1, w1]
    simp only [bind_some', Int.toNat_natCast]
    try rw [u4]
    try rw [v4]
    try rw [w4]
    simp [bind_some', equalBytes_eq, brR_and, brR_dec, brR_not, brR_true, brR_false, *]

theorem law_WireCanonical : ∀ x, wfL s_law6_WireCanonical.ins x → ∃ y, sol_law6_WireCanonical x = some y ∧ y.1.1 = true :=
  fun ⟨b, at_, _⟩ ⟨hb, ha, _⟩ => law_WireCanonical_at b at_ (bytes_wf hb) (inK_i64.1 ha)

/-! ### Round trip -/

theorem law_WireRoundTrip_at (a x z : List Int) (n : Nat) (m : Int) (s : Bool) (k : Nat) (ha : Bytes a) (hx : Bytes x) (hz : Bytes z) (hn : n < 115792089237316195423570985008687907853269984665640564039457584007913129639936)
    (hm : 0 ≤ m ∧ m ≤ 18446744073709551615) (hk : k < 115792089237316195423570985008687907853269984665640564039457584007913129639936) : ∃ y, sol_law6_WireRoundTrip (a, (x, (z, (lim n, (m, ((s, (lim k, ())), ())))))) = some y ∧ y.1.1 = true := by
  unfold sol_law6_WireRoundTrip T_law6_WireRoundTrip
  simp only
  rw [awake6]
  simp only [brR_dec, bind_some']
  by_cases c1 : (List.length a : Int) > 200
  · rw [if_pos c1]; exact ⟨_, rfl, rfl⟩
  rw [if_neg c1]
  by_cases c2 : (List.length x : Int) > 200
  · rw [if_pos c2]; exact ⟨_, rfl, rfl⟩
  rw [if_neg c2]
  by_cases c3 : (List.length z : Int) > 200
  · rw [if_pos c3]; exact ⟨_, rfl, rfl⟩
  obtain ⟨m, rfl⟩ := Int.eq_ofNat_of_zero_le hm.1
  have b1 := bylen_256 hn
  have b2 := bylen_64 (n := m) (by omega)
  have b3 := bylen_64 (n := x.length) (by omega)
  have b4 := bylen_256 hk
  have hI : (encI s k).length ≤ 34 := by unfold encI; split <;> simp [len_enc] <;> omega
  rw [if_neg c3, appendUint256_eq (by omega) hn]
  simp only [bind_some', letR_eq]
  rw [appendUint64_eq (by simp only [List.length_append, len_enc]; omega) hm.1 hm.2]
  simp only [bind_some', Int.toNat_natCast]
  rw [appendBytes_eq (by simp only [List.length_append, len_enc]; omega) (by omega)]
  simp only [bind_some']
  rw [appendInt256_eq (by simp only [List.length_append, len_enc]; omega) hk]
  simp only [bind_some']
  rw [brR_room8 (by simp only [List.length_append, len_enc]; omega)]
  have hv : Bytes (List.append (a ++ enc n ++ enc m ++ (enc x.length ++ x) ++ encI s k) z) := by
    refine Bytes.append (Bytes.append (Bytes.append (Bytes.append (ha.append (bytes_enc (by omega))) (bytes_enc (by omega))) (Bytes.append (bytes_enc (by omega)) hx)) (bytes_encI (by omega))) hz
  have hl : (List.append (a ++ enc n ++ enc m ++ (enc x.length ++ x) ++ encI s k) z).length ≤ 1000 := by simp only [append_def, List.length_append, len_enc]; omega
  rw [readUint256_eq hv (by omega) (by omega) (by omega), readUint64_eq hv (by omega) (by simp only [List.length_append, len_enc]; omega) (by simp only [List.length_append, len_enc]; omega),
    readBytes_eq hv (by omega) (by simp only [List.length_append, len_enc]; omega) (by simp only [List.length_append, len_enc]; omega),
    readInt256_eq hv (by omega) (by simp only [List.length_append, len_enc]; omega) (by simp only [List.length_append, len_enc]; omega)]
  have e1 : List.append (a ++ enc n ++ enc m ++ (enc x.length ++ x) ++ encI s k) z = a ++ (enc n ++ (enc m ++ (enc x.length ++ x) ++ encI s k ++ z)) := by simp [append_def]
  have e2 : List.append (a ++ enc n ++ enc m ++ (enc x.length ++ x) ++ encI s k) z = (a ++ enc n) ++ (enc m ++ ((enc x.length ++ x) ++ encI s k ++ z)) := by simp [append_def]
  have e3 : List.append (a ++ enc n ++ enc m ++ (enc x.length ++ x) ++ encI s k) z = (a ++ enc n ++ enc m) ++ (enc x.length ++ (x ++ (encI s k ++ z))) := by simp [append_def]
  have e4 : List.append (a ++ enc n ++ enc m ++ (enc x.length ++ x) ++ encI s k) z = (a ++ enc n ++ enc m ++ (enc x.length ++ x)) ++ (encI s k ++ z) := by simp [append_def]
  have r1 := readR_enc (a := a) (z := enc m ++ (enc x.length ++ x) ++ encI s k ++ z) (n := n) (most := 32) hn (by omega)
  rw [← e1] at r1
  have r2 := readR_enc (a := a ++ enc n) (z := (enc x.length ++ x) ++ encI s k ++ z) (n := m) (most := 8) (by omega) (by omega)
  rw [← e2] at r2
  have r3 := readB_enc (a := a ++ enc n ++ enc m) (x := x) (z := encI s k ++ z) (by omega)
  rw [← e3] at r3
  rw [r1, r2, r3]
  have e : ∀ (t : Ty) (x : t.den), eqD t x x = true := fun t x => eqD_iff.2 rfl
  simp only [bind_some', val4_lim, e, Bool.not_true, brR_false, brR_true, brR_not, brR_dec, equalBytes_eq, decide_true, if_true]
  rw [← lim_zero, eqD_lim]
  by_cases h0 : s = true ∧ k = 0
  · obtain ⟨rfl, rfl⟩ := h0
    rw [brR_true, brR_dec, if_pos rfl, if_pos (by simp [encI])]
    exact ⟨_, rfl, rfl⟩
  · have r4 := readI_enc (a := a ++ enc n ++ enc m ++ (enc x.length ++ x)) (z := z) hk h0
    rw [← e4] at r4
    rw [r4]
    cases s
    · simp only [brR_false, e, brR_true, if_true]
      exact ⟨_, rfl, rfl⟩
    · have : ¬ k = 0 := fun h => h0 ⟨rfl, h⟩
      rw [brR_true, brR_dec, if_neg this]
      simp only [brR_false, e, brR_true, if_true]
      exact ⟨_, rfl, rfl⟩

theorem law_WireRoundTrip : ∀ x, wfL s_law6_WireRoundTrip.ins x → ∃ y, sol_law6_WireRoundTrip x = some y ∧ y.1.1 = true := by
  rintro ⟨a, x, z, n, m, i, _⟩ ⟨ha, hx, hz, hn, hm, hi, _⟩
  obtain ⟨n', h1, h2⟩ := u256_wf hn
  obtain ⟨s, k, h3, h4⟩ := i256_wf hi
  have := law_WireRoundTrip_at a x z n' m s k (bytes_wf ha) (bytes_wf hx) (bytes_wf hz) h1 (inK_u64.1 hm) h3
  rw [← h2, ← h4] at this
  exact this

/-! ### Malformed -/

theorem lim_of {a b c d : Int} (ha : 0 ≤ a ∧ a ≤ 18446744073709551615) (hb : 0 ≤ b ∧ b ≤ 18446744073709551615) (hc : 0 ≤ c ∧ c ≤ 18446744073709551615) (hd : 0 ≤ d ∧ d ≤ 18446744073709551615) :
    ∃ n, n < 115792089237316195423570985008687907853269984665640564039457584007913129639936 ∧ [a, b, c, d] = lim n :=
  u256_wf (l := [a, b, c, d]) ⟨rfl, by
    intro y hy
    simp only [List.mem_cons, List.not_mem_nil, or_false] at hy
    rcases hy with rfl | rfl | rfl | rfl <;> exact inK_u64.2 (by assumption)⟩

theorem edge_ok {a b s : Int} (ha : 0 ≤ a ∧ a ≤ 18446744073709551615) (hb : 0 ≤ b ∧ b ≤ 18446744073709551615) (hs : -9223372036854775808 ≤ s ∧ s ≤ 9223372036854775807) :
    ∃ n, n < 115792089237316195423570985008687907853269984665640564039457584007913129639936 ∧ sol_law0_EdgeUint256 (a, (b, (s, ()))) = some ((lim n, ()), ((), ((), ((), ())))) := by
  have key : ∀ {p q r t : Int}, 0 ≤ p ∧ p ≤ 18446744073709551615 → 0 ≤ q ∧ q ≤ 18446744073709551615 → 0 ≤ r ∧ r ≤ 18446744073709551615 → 0 ≤ t ∧ t ≤ 18446744073709551615 →
      ∃ n, n < 115792089237316195423570985008687907853269984665640564039457584007913129639936 ∧ (some (([p, q, r, t], ()), ((), ((), ((), ())))) : Option ((List Int × Unit) × (Unit × (Unit × (Unit × Unit))))) = some ((lim n, ()), ((), ((), ((), ())))) := fun h1 h2 h3 h4 => by
    obtain ⟨n, k1, k2⟩ := lim_of h1 h2 h3 h4
    exact ⟨n, k1, by rw [k2]⟩
  unfold sol_law0_EdgeUint256 T_law0_EdgeUint256
  rw [mod_eq hs.1 hs.2 (by omega) (by omega)]
  simp only [bind_some', brR_dec, tmod_pos ha.1, tmod_pos hb.1]
  repeat' split
  all_goals try apply key
  all_goals try omega
  · rw [IntKind.wrap_u64]; omega
  · rw [IntKind.wrap_u64]; omega
  · rw [IntKind.wrap_u64]; omega

theorem readR_bad {b : List Int} {most : Nat} (h : rdU b 0 most = none) : readR b 0 most = (lim 0, (0, (3, ()))) := by
  unfold readR
  rw [if_neg (by omega), show (0 : Int).toNat = 0 from rfl, h]

theorem law_WireMalformed_at (a b s cut c : Int) (ha : 0 ≤ a ∧ a ≤ 18446744073709551615) (hb : 0 ≤ b ∧ b ≤ 18446744073709551615) (hs : -9223372036854775808 ≤ s ∧ s ≤ 9223372036854775807) (hcut : -9223372036854775808 ≤ cut ∧ cut ≤ 9223372036854775807) (hc : 0 ≤ c ∧ c ≤ 255) :
    ∃ y, sol_law6_WireMalformed (a, (b, (s, (cut, (c, ()))))) = some y ∧ y.1.1 = true := by
  unfold sol_law6_WireMalformed T_law6_WireMalformed
  simp only
  obtain ⟨n, hn, he⟩ := edge_ok ha hb hs
  have hk := bylen_256 hn
  rw [he]
  simp only [bind_some']
  rw [appendUint256_eq (by simp) hn]
  simp only [bind_some', letR_eq, List.nil_append, append_def, brR_dec]
  have hl := @len_enc n
  rw [if_neg (by omega), mod_eq hcut.1 hcut.2 (by omega) (by omega)]
  have hm0 : 0 ≤ (cut % 18446744073709551616) % ((enc n).length : Int) := Int.emod_nonneg _ (by omega)
  have hm1 : (cut % 18446744073709551616) % ((enc n).length : Int) < ((enc n).length : Int) := Int.emod_lt_of_pos _ (by omega)
  generalize (cut % 18446744073709551616) % ((enc n).length : Int) = q at *
  obtain ⟨q, rfl⟩ := Int.eq_ofNat_of_zero_le hm0
  have hby : Bytes (enc n) := bytes_enc (by omega)
  simp only [bind_some', brR_and, brR_dec, brR_inR, List.drop_zero, Nat.sub_zero, Int.toNat_natCast]
  have hA : (0 : Int) ≤ 0 ∧ (0 : Int) < ((enc n).length : Int) := by omega
  have hB : (1 : Int) ≤ ((enc n).length : Int) := by omega
  rw [if_pos (by omega), if_pos (by omega)]
  have hd : (enc n).drop 1 = beB (bylen n) n := rfl
  have h0 : (enc n).getD 0 0 = ((bylen n : Nat) : Int) := rfl
  simp only [if_pos hA, if_pos hB]
  have ht : (beB (bylen n) n).take ((enc n).length - 1) = beB (bylen n) n := List.take_of_length_le (by rw [len_beB]; omega)
  rw [hd, h0, ht]
  simp only [brR_room8 (show 2 + (beB (bylen n) n).length ≤ 1099511627776 by rw [len_beB]; omega)]
  rw [w_u8 (n := ((bylen n : Nat) : Int) + 1) (by omega) (by omega), tmod_pos hc.1, tmod_pos hc.1, w_u8 (n := 33 + c % 223) (by omega) (by omega), w_u8 (n := 9 + c % 24) (by omega) (by omega)]
  have z1 : Bytes (List.replicate 260 0) := fun x hx => by rw [List.eq_of_mem_replicate hx]; omega
  have z2 : Bytes (List.replicate 40 0) := fun x hx => by rw [List.eq_of_mem_replicate hx]; omega
  have l1 : (List.replicate 260 (0 : Int)).length = 260 := List.length_replicate
  have l2 : (List.replicate 40 (0 : Int)).length = 40 := List.length_replicate
  generalize List.replicate 260 (0 : Int) = Z1 at *
  generalize List.replicate 40 (0 : Int) = Z2 at *
  rw [readUint256_eq (hby.take q) (by rw [List.length_take]; omega) (by omega) (by omega),
    readUint256_eq (b := [((bylen n : Nat) : Int) + 1, 0] ++ beB (bylen n) n) (Bytes.append (by intro x hx; simp at hx; omega) bytes_beB) (by simp [len_beB]; omega) (by omega) (by omega),
    readUint256_eq (b := [33 + c % 223, 1] ++ Z1) (Bytes.append (by intro x hx; simp at hx; omega) z1) (by simp; omega) (by omega) (by omega),
    readUint64_eq (b := [9 + c % 24, 1] ++ Z2) (Bytes.append (by intro x hx; simp at hx; omega) z2) (by simp; omega) (by omega) (by omega)]
  rw [readR_bad (b := (enc n).take q), readR_bad (b := [((bylen n : Nat) : Int) + 1, 0] ++ beB (bylen n) n), readR_bad (b := [33 + c % 223, 1] ++ Z1), readR_bad (b := [9 + c % 24, 1] ++ Z2)]
  · rw [awake6]
    simp only [bind_some', if_true]
    exact ⟨_, rfl, rfl⟩
  · unfold rdU
    simp only [List.drop_zero, List.cons_append]
    rw [if_pos (.inl (by omega))]
  · unfold rdU
    simp only [List.drop_zero, List.cons_append]
    rw [if_pos (.inl (by omega))]
  · unfold rdU
    simp only [List.drop_zero, List.cons_append]
    rw [if_pos (.inr (.inr ⟨by omega, rfl⟩))]
  · unfold rdU
    rw [List.drop_zero]
    cases q with
    | zero => rfl
    | succ q =>
      rw [enc, List.take_succ_cons]
      simp only
      rw [if_pos (.inr (.inl (by rw [List.length_take, len_beB]; omega)))]

theorem law_WireMalformed : ∀ x, wfL s_law6_WireMalformed.ins x → ∃ y, sol_law6_WireMalformed x = some y ∧ y.1.1 = true :=
  fun ⟨a, b, s, cut, c, _⟩ ⟨h1, h2, h3, h4, h5, _⟩ => law_WireMalformed_at a b s cut c (inK_u64.1 h1) (inK_u64.1 h2) (inK_i64.1 h3) (inK_i64.1 h4) (inK_u8.1 h5)

/-! ### Sequences -/

theorem law_WireSequences_at (l : List (List Int)) (a : List Int) (hl : ∀ x ∈ l, ∃ n, n < 115792089237316195423570985008687907853269984665640564039457584007913129639936 ∧ x = lim n) (ha : Bytes a) : ∃ y, sol_law6_WireSequences (l, (a, ())) = some y ∧ y.1.1 = true := by
  unfold sol_law6_WireSequences T_law6_WireSequences
  simp only [letR_eq]
  rw [awake6]
  simp only [brR_dec, bind_some']
  by_cases c1 : (List.length l : Int) > 40
  · rw [if_pos c1]; exact ⟨_, rfl, rfl⟩
  rw [if_neg c1]
  by_cases c2 : (List.length a : Int) > 100
  · rw [if_pos c2]; exact ⟨_, rfl, rfl⟩
  rw [if_neg c2, appendBytes_eq (by simp) (by omega)]
  simp only [bind_some', List.nil_append]
  have hn : ∃ ns : List Nat, l = ns.map lim ∧ ∀ n ∈ ns, n < 115792089237316195423570985008687907853269984665640564039457584007913129639936 := by
    clear c1
    induction l with
    | nil => exact ⟨[], rfl, by simp⟩
    | cons x l ih =>
      obtain ⟨n, h1, rfl⟩ := hl x (by simp)
      obtain ⟨ns, rfl, h2⟩ := ih fun y hy => hl y (by simp [hy])
      refine ⟨n :: ns, rfl, fun m hm => ?_⟩
      rcases List.mem_cons.1 hm with rfl | hm
      · exact h1
      · exact h2 m hm
  obtain ⟨ns, rfl, hns⟩ := hn
  have h40 : ns.length ≤ 40 := by simp only [List.length_map] at c1; omega
  have hla : (enc a.length ++ a).length ≤ 110 := by
    have := bylen_64 (n := a.length) (by omega)
    simp only [List.length_append, len_enc]; omega
  have hba : Bytes (enc a.length ++ a) := Bytes.append (bytes_enc (by have := bylen_64 (n := a.length) (by omega); omega)) ha
  generalize enc a.length ++ a = p at *
  have getE : ∀ {i : Nat}, i < ns.length → (ns.map lim).getD i [0, 0, 0, 0] = lim (ns.getD i 0) := fun {i} hi => by
    rw [List.getD_eq_getElem?_getD, List.getElem?_map, List.getElem?_eq_getElem hi, List.getD_eq_getElem?_getD, List.getElem?_eq_getElem hi]; rfl
  have getLt : ∀ i, ns.getD i 0 < 115792089237316195423570985008687907853269984665640564039457584007913129639936 := fun i => by
    rcases Nat.lt_or_ge i ns.length with h | h
    · exact hns _ (getD_mem h)
    · rw [List.getD_eq_getElem?_getD, List.getElem?_eq_none h]; simp
  -- the bytes behind the first i numbers
  have takeS : ∀ {i : Nat}, i < ns.length → ((ns.take (i + 1)).map enc).flatten = ((ns.take i).map enc).flatten ++ enc (ns.getD i 0) := fun {i} hi => by
    rw [List.take_succ_eq_append_getElem hi, List.map_append, List.flatten_append, List.getD_eq_getElem?_getD, List.getElem?_eq_getElem hi]; simp
  have lenB : ∀ i, i ≤ ns.length → ((ns.take i).map enc).flatten.length ≤ 33 * i := by
    intro i
    induction i with
    | zero => intro _; simp
    | succ i ih =>
      intro hi
      have := ih (by omega)
      have b := bylen_256 (getLt i)
      rw [takeS (by omega), List.length_append, len_enc]; omega
  have bytesB : ∀ i, i ≤ ns.length → Bytes ((ns.take i).map enc).flatten := by
    intro i
    induction i with
    | zero => intro _ x hx; simp at hx
    | succ i ih =>
      intro hi
      have b := bylen_256 (getLt i)
      rw [takeS (by omega)]
      exact (ih (by omega)).append (bytes_enc (by omega))
  have lA := lenB ns.length (Nat.le_refl _)
  rw [List.take_length] at lA
  have bA := bytesB ns.length (Nat.le_refl _)
  rw [List.take_length] at bA
  have second : bigLoop _ _ (fun again x => T_law6_WireSequences_loop1 sol_wire_ReadUint256 sol_law6_awake again x.1 x.2.1 x.2.2.1 x.2.2.2.1) (ns.map lim, (p ++ (ns.map enc).flatten, (((p.length : Nat) : Int), ((0 : Int), ())))) = some ((true, ()), ((), ((), ()))) := by
    refine bigLoop_rule (I := fun x => x.1 = ns.map lim ∧ x.2.1 = p ++ (ns.map enc).flatten ∧ (0 : Int) ≤ x.2.2.2.1 ∧ x.2.2.2.1 ≤ ((ns.length : Nat) : Int) ∧ x.2.2.1 = (((p ++ ((ns.take x.2.2.2.1.toNat).map enc).flatten).length : Nat) : Int)) (m := fun x => (((ns.length : Nat) : Int) - x.2.2.2.1).toNat) (g := fun _ => some ((true, ()), ((), ((), ())))) ?_
      ⟨rfl, rfl, by simp only; omega, by simp only; omega, by simp⟩ (by simp only [bigN_eq]; omega)
    rintro ⟨l', b', at', i, _⟩ again ⟨e1, e2, e3, e4, e5⟩ hag
    simp only at e1 e2 e3 e4 e5 hag ⊢
    subst e1 e2 e5
    obtain ⟨i, rfl⟩ := Int.eq_ofNat_of_zero_le e3
    simp only [T_law6_WireSequences_loop1, letR_eq, brR_dec, brR_inR, brR_not, List.length_map, Int.toNat_natCast]
    by_cases hi : i < ns.length
    · have sp : p ++ (ns.map enc).flatten = (p ++ ((ns.take i).map enc).flatten) ++ (enc (ns.getD i 0) ++ ((ns.drop (i + 1)).map enc).flatten) := by
        have : ns = ns.take (i + 1) ++ ns.drop (i + 1) := (List.take_append_drop _ _).symm
        conv => lhs; rw [this]
        rw [List.map_append, List.flatten_append, takeS hi]
        simp
      have r := readR_enc (a := p ++ ((ns.take i).map enc).flatten) (z := ((ns.drop (i + 1)).map enc).flatten) (n := ns.getD i 0) (most := 32) (getLt i) (by omega)
      rw [← sp] at r
      have li := lenB i (by omega)
      rw [if_pos (by omega), readUint256_eq (hba.append bA) (by rw [List.length_append]; omega) (by omega) (by rw [List.length_append]; omega), r]
      simp only [bind_some']
      rw [if_pos (by omega), getE hi, eqD_lim, decide_eq_true rfl, brR_true, if_pos trivial, if_neg (by simp only [List.length_append, len_enc]; omega), w_i64 (by omega) (by omega)]
      refine hag _ ⟨rfl, rfl, by simp only; omega, by simp only; omega, ?_⟩ (by simp only; omega)
      simp only
      rw [show ((i : Int) + 1).toNat = i + 1 by omega, takeS hi, List.append_assoc]
    · have : i = ns.length := by omega
      subst this
      rw [if_neg (by omega), if_pos (by rw [List.take_length]), awake6]
      simp only [bind_some']
  refine ⟨_, bigLoop_rule (I := fun x => x.1 = ns.map lim ∧ (0 : Int) ≤ x.2.2.2.2.1 ∧ x.2.2.2.2.1 ≤ ((ns.length : Nat) : Int) ∧ x.2.1 = p ++ ((ns.take x.2.2.2.2.1.toNat).map enc).flatten ∧ x.2.2.1 = ((p.length : Nat) : Int) ∧ x.2.2.2.1 = (((p ++ ((ns.take x.2.2.2.2.1.toNat).map enc).flatten).length : Nat) : Int))
    (m := fun x => (((ns.length : Nat) : Int) - x.2.2.2.2.1).toNat) (g := fun _ => some ((true, ()), ((), ((), ())))) ?_
    ⟨rfl, by simp only; omega, by simp only; omega, by simp, rfl, by simp⟩ (by simp only [bigN_eq]; omega), rfl⟩
  rintro ⟨l', b', at', sz, i, _⟩ again ⟨e1, e2, e3, e4, e5, e6⟩ hag
  simp only at e1 e2 e3 e4 e5 e6 hag ⊢
  subst e1 e4 e5 e6
  obtain ⟨i, rfl⟩ := Int.eq_ofNat_of_zero_le e2
  simp only [T_law6_WireSequences_loop0, letR_eq, brR_dec, brR_inR, brR_not, List.length_map, Int.toNat_natCast]
  by_cases hi : i < ns.length
  · have li := lenB i (by omega)
    have b := bylen_256 (getLt i)
    have bl := bitlen_256 (getLt i)
    rw [if_pos (by omega), if_pos (by omega), getE hi, appendUint256_eq (by rw [List.length_append]; omega) (getLt i)]
    simp only [bind_some']
    rw [if_pos (by omega), bitLen_eq (getLt i)]
    simp only [bind_some']
    rw [w_i64 (n := ((bitlen (ns.getD i 0) : Nat) : Int) + 7) (by omega) (by omega), tdiv_pos (by omega), w_i64 (n := (((bitlen (ns.getD i 0) : Nat) : Int) + 7) / 8) (by omega) (by omega),
      w_i64 (n := (((p ++ ((ns.take i).map enc).flatten).length : Nat) : Int) + 1) (by rw [List.length_append]; omega) (by rw [List.length_append]; omega),
      w_i64 (n := (((p ++ ((ns.take i).map enc).flatten).length : Nat) : Int) + 1 + (((bitlen (ns.getD i 0) : Nat) : Int) + 7) / 8) (by rw [List.length_append]; omega) (by rw [List.length_append]; omega)]
    have es : (((p ++ ((ns.take i).map enc).flatten).length : Nat) : Int) + 1 + (((bitlen (ns.getD i 0) : Nat) : Int) + 7) / 8 = (((p ++ ((ns.take (i + 1)).map enc).flatten).length : Nat) : Int) := by
      rw [takeS hi]; simp only [List.length_append, len_enc, bylen]; omega
    have el : p ++ ((ns.take i).map enc).flatten ++ enc (ns.getD i 0) = p ++ ((ns.take (i + 1)).map enc).flatten := by rw [takeS hi, List.append_assoc]
    rw [es, el, if_pos rfl, w_i64 (by omega) (by omega)]
    refine hag _ ⟨rfl, by simp only; omega, by simp only; omega, ?_, rfl, ?_⟩ (by simp only; omega)
    · simp only; rw [show ((i : Int) + 1).toNat = i + 1 by omega]
    · simp only; rw [show ((i : Int) + 1).toNat = i + 1 by omega]
  · have : i = ns.length := by omega
    subst this
    rw [if_neg (by omega)]
    simp only [Int.toNat_natCast, List.take_length]
    exact second

theorem law_WireSequences : ∀ x, wfL s_law6_WireSequences.ins x → ∃ y, sol_law6_WireSequences x = some y ∧ y.1.1 = true :=
  fun ⟨l, a, _⟩ ⟨hl, ha, _⟩ => law_WireSequences_at l a (fun x hx => u256_wf (hl.2 x hx)) (bytes_wf ha)

end Go.Pon
