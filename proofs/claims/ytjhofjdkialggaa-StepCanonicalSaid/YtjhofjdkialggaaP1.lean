/-
  Part of a proof: general lemmas, merged by a program of this work.
-/
import Derived.Test.YtjhofjdkialggaaF3
/-
  What the functions of package law0 compute (printed by a program of this work).
-/
set_option autoImplicit false
set_option linter.unusedVariables false
set_option maxRecDepth 100000
namespace Go.Pon
open Go

/-- pontage/pontagelaw0.Mod -/
abbrev s_law0_Mod : Sig := ⟨[(.ro true (.int .i64)), (.ro true (.int .i64))], [(.ro true (.int .i64))]⟩
abbrev F_law0_Mod := (Int × (Int × Unit)) → Option ((Int × Unit) × (Unit × (Unit × Unit)))

noncomputable def T_law0_Mod (L : LoopD) (x_ : Int) (n_ : Int) : Option ((Int × Unit) × (Unit × (Unit × Unit))) :=
  (brR (decide ((Go.IntKind.wrap (Go.IntKind.u64) n_) ≠ (0 : Int)))
   (some (((Go.IntKind.wrap (Go.IntKind.i64) (Int.tmod (Go.IntKind.wrap (Go.IntKind.u64) x_) (Go.IntKind.wrap (Go.IntKind.u64) n_))), ()), ((), ((), ()))))
   none)

noncomputable def sol_law0_Mod : F_law0_Mod := fun x => T_law0_Mod bigLoop x.1 x.2.1

/-- pontage/pontagelaw0.EdgeUint256 -/
abbrev s_law0_EdgeUint256 : Sig := ⟨[(.ro true (.int .u64)), (.ro true (.int .u64)), (.ro true (.int .i64))], [(.ro true (.arr 4 (.int .u64)))]⟩
abbrev F_law0_EdgeUint256 := (Int × (Int × (Int × Unit))) → Option (((List Int) × Unit) × (Unit × (Unit × (Unit × Unit))))

noncomputable def T_law0_EdgeUint256 (L : LoopD) (c_law0_Mod : F_law0_Mod) (a_ : Int) (b_ : Int) (shape_ : Int) : Option (((List Int) × Unit) × (Unit × (Unit × (Unit × Unit)))) :=
  (Option.bind (c_law0_Mod (shape_, ((9 : Int), ()))) (fun (y_0 : ((Int × Unit) × (Unit × (Unit × Unit)))) =>
   (brR (decide (y_0.1.1 = (0 : Int)))
    (some (([a_, (0 : Int), (0 : Int), (0 : Int)], ()), ((), ((), ((), ())))))
    (brR (decide (y_0.1.1 = (1 : Int)))
     (some (([a_, b_, (0 : Int), (0 : Int)], ()), ((), ((), ((), ())))))
     (brR (decide (y_0.1.1 = (2 : Int)))
      (some (([a_, b_, a_, b_], ()), ((), ((), ((), ())))))
      (brR (decide (y_0.1.1 = (3 : Int)))
       (some (([(Go.IntKind.wrap (Go.IntKind.u64) ((18446744073709551615 : Int) - (Int.tmod a_ (4 : Int)))), (18446744073709551615 : Int), (18446744073709551615 : Int), (18446744073709551615 : Int)], ()), ((), ((), ((), ())))))
       (brR (decide (y_0.1.1 = (4 : Int)))
        (some (([(Int.tmod a_ (4 : Int)), (0 : Int), (Go.IntKind.wrap (Go.IntKind.u64) ((1 : Int) + (Int.tmod b_ (4 : Int)))), (0 : Int)], ()), ((), ((), ((), ())))))
        (brR (decide (y_0.1.1 = (5 : Int)))
         (some (([(18446744073709551615 : Int), (18446744073709551615 : Int), (0 : Int), (0 : Int)], ()), ((), ((), ((), ())))))
         (brR (decide (y_0.1.1 = (6 : Int)))
          (brR (decide ((0 : Int) ≤ (Int.tmod b_ (64 : Int))))
           (some (([(0 : Int), (0 : Int), (0 : Int), (Go.IntKind.wrap (Go.IntKind.u64) ((1 : Int) * ((2 : Int) ^ (min (Int.toNat (Int.tmod b_ (64 : Int))) (64 : Nat)))))], ()), ((), ((), ((), ())))))
           none)
          (brR (decide (y_0.1.1 = (7 : Int)))
           (some (([(Int.tmod a_ (16 : Int)), (0 : Int), (0 : Int), (0 : Int)], ()), ((), ((), ((), ())))))
           (some (([b_, a_, b_, (0 : Int)], ()), ((), ((), ((), ())))))))))))))))

noncomputable def sol_law0_EdgeUint256 : F_law0_EdgeUint256 := fun x => T_law0_EdgeUint256 bigLoop sol_law0_Mod x.1 x.2.1 x.2.2.1

/-- pontage/pontagelaw0.EqualBytes -/
abbrev s_law0_EqualBytes : Sig := ⟨[(.ro false (.slice (.int .u8))), (.ro false (.slice (.int .u8)))], [(.ro true .bool)]⟩
abbrev F_law0_EqualBytes := ((List Int) × ((List Int) × Unit)) → Option ((Bool × Unit) × (Unit × (Unit × Unit)))

noncomputable def T_law0_EqualBytes (L : LoopD) (a_ : (List Int)) (b_ : (List Int)) : Option ((Bool × Unit) × (Unit × (Unit × Unit))) :=
  (some (((Go.Pon.eqD (Go.Pon.Ty.str) a_ b_), ()), ((), ((), ()))))

noncomputable def sol_law0_EqualBytes : F_law0_EqualBytes := fun x => T_law0_EqualBytes bigLoop x.1 x.2.1

/-- pontage/pontagelaw0.EqualHashes -/
abbrev s_law0_EqualHashes : Sig := ⟨[(.ro false (.slice (.arr 32 (.int .u8)))), (.ro false (.slice (.arr 32 (.int .u8))))], [(.ro true .bool)]⟩
abbrev F_law0_EqualHashes := ((List (List Int)) × ((List (List Int)) × Unit)) → Option ((Bool × Unit) × (Unit × (Unit × Unit)))

noncomputable def T_law0_EqualHashes_loop0 (again_0 : ((List (List Int)) × ((List (List Int)) × (Int × Unit))) → Option ((Bool × Unit) × (Unit × (Unit × Unit)))) (a_1 : (List (List Int))) (b_2 : (List (List Int))) (i_3 : Int) : Option ((Bool × Unit) × (Unit × (Unit × Unit))) :=
  (brR (decide (i_3 < (((List.length a_1) : Nat) : Int)))
   (brR (Go.Pon.inR i_3 (List.length a_1))
    (brR (Go.Pon.inR i_3 (List.length b_2))
     (brR (!(Go.Pon.eqD (Go.Pon.Ty.arr 32 (Go.Pon.Ty.int Go.IntKind.u8)) (List.getD a_1 (Int.toNat i_3) (List.replicate (32 : Nat) (0 : Int))) (List.getD b_2 (Int.toNat i_3) (List.replicate (32 : Nat) (0 : Int)))))
      (some ((false, ()), ((), ((), ()))))
      (again_0 (a_1, (b_2, ((Go.IntKind.wrap (Go.IntKind.i64) (i_3 + (1 : Int))), ())))))
     none)
    none)
   (some ((true, ()), ((), ((), ())))))

noncomputable def T_law0_EqualHashes (L : LoopD) (a_ : (List (List Int))) (b_ : (List (List Int))) : Option ((Bool × Unit) × (Unit × (Unit × Unit))) :=
  (brR (!(decide ((((List.length a_) : Nat) : Int) = (((List.length b_) : Nat) : Int))))
   (some ((false, ()), ((), ((), ()))))
   (L _ _ (fun again x => T_law0_EqualHashes_loop0 again x.1 x.2.1 x.2.2.1) (a_, (b_, ((0 : Int), ())))))

noncomputable def sol_law0_EqualHashes : F_law0_EqualHashes := fun x => T_law0_EqualHashes bigLoop x.1 x.2.1

/-- pontage/pontagelaw0.EqualMessages -/
abbrev s_law0_EqualMessages : Sig := ⟨[(.ro false (.slice (.pair (.int .u64) (.pair (.int .u64) (.pair (.arr 4 (.int .u64)) .unit))))), (.ro false (.slice (.pair (.int .u64) (.pair (.int .u64) (.pair (.arr 4 (.int .u64)) .unit)))))], [(.ro true .bool)]⟩
abbrev F_law0_EqualMessages := ((List (Int × (Int × ((List Int) × Unit)))) × ((List (Int × (Int × ((List Int) × Unit)))) × Unit)) → Option ((Bool × Unit) × (Unit × (Unit × Unit)))

noncomputable def T_law0_EqualMessages_loop0 (again_0 : ((List (Int × (Int × ((List Int) × Unit)))) × ((List (Int × (Int × ((List Int) × Unit)))) × (Int × Unit))) → Option ((Bool × Unit) × (Unit × (Unit × Unit)))) (a_1 : (List (Int × (Int × ((List Int) × Unit))))) (b_2 : (List (Int × (Int × ((List Int) × Unit))))) (i_3 : Int) : Option ((Bool × Unit) × (Unit × (Unit × Unit))) :=
  (letR (List.length a_1) fun (v_4 : Nat) =>
  (brR (decide (i_3 < ((v_4 : Nat) : Int)))
   (brR (Go.Pon.inR i_3 v_4)
    (brR (Go.Pon.inR i_3 (List.length b_2))
     (brR (!(Go.Pon.eqD ((Go.Pon.Ty.int Go.IntKind.u64).pair
  ((Go.Pon.Ty.int Go.IntKind.u64).pair ((Go.Pon.Ty.arr 4 (Go.Pon.Ty.int Go.IntKind.u64)).pair Go.Pon.Ty.unit))) (List.getD a_1 (Int.toNat i_3) ((0 : Int), ((0 : Int), ([(0 : Int), (0 : Int), (0 : Int), (0 : Int)], ())))) (List.getD b_2 (Int.toNat i_3) ((0 : Int), ((0 : Int), ([(0 : Int), (0 : Int), (0 : Int), (0 : Int)], ()))))))
      (some ((false, ()), ((), ((), ()))))
      (again_0 (a_1, (b_2, ((Go.IntKind.wrap (Go.IntKind.i64) (i_3 + (1 : Int))), ())))))
     none)
    none)
   (some ((true, ()), ((), ((), ()))))))

noncomputable def T_law0_EqualMessages (L : LoopD) (a_ : (List (Int × (Int × ((List Int) × Unit))))) (b_ : (List (Int × (Int × ((List Int) × Unit))))) : Option ((Bool × Unit) × (Unit × (Unit × Unit))) :=
  (brR (!(decide ((((List.length a_) : Nat) : Int) = (((List.length b_) : Nat) : Int))))
   (some ((false, ()), ((), ((), ()))))
   (L _ _ (fun again x => T_law0_EqualMessages_loop0 again x.1 x.2.1 x.2.2.1) (a_, (b_, ((0 : Int), ())))))

noncomputable def sol_law0_EqualMessages : F_law0_EqualMessages := fun x => T_law0_EqualMessages bigLoop x.1 x.2.1

/-- pontage/pontagelaw0.HashOf -/
abbrev s_law0_HashOf : Sig := ⟨[(.ro true (.int .i64))], [(.ro true (.arr 32 (.int .u8)))]⟩
abbrev F_law0_HashOf := (Int × Unit) → Option (((List Int) × Unit) × (Unit × Unit))

noncomputable def T_law0_HashOf_loop0 (again_0 : (Int × ((List Int) × ((List Int) × (Int × Unit)))) → Option (((List Int) × Unit) × (Unit × Unit))) (n_1 : Int) (t2_2 : (List Int)) (h_3 : (List Int)) (i_4 : Int) : Option (((List Int) × Unit) × (Unit × Unit)) :=
  (letR (Go.IntKind.wrap (Go.IntKind.u64) (Go.IntKind.wrap (Go.IntKind.i64) ((8 : Int) * i_4))) fun (v_5 : Int) =>
  (brR (decide (i_4 < (8 : Int)))
   (brR (decide ((0 : Int) ≤ v_5))
    (brR (Go.Pon.inR i_4 (32 : Nat))
     (again_0 (n_1, (t2_2, ((List.set h_3 (Int.toNat i_4) (Go.IntKind.wrap (Go.IntKind.u8) (Int.fdiv (Go.IntKind.wrap (Go.IntKind.u64) n_1) ((2 : Int) ^ (min (Int.toNat v_5) (64 : Nat)))))), ((Go.IntKind.wrap (Go.IntKind.i64) (i_4 + (1 : Int))), ())))))
     none)
    none)
   (some ((h_3, ()), ((), ())))))

noncomputable def T_law0_HashOf (L : LoopD) (n_ : Int) : Option (((List Int) × Unit) × (Unit × Unit)) :=
  (L _ _ (fun again x => T_law0_HashOf_loop0 again x.1 x.2.1 x.2.2.1 x.2.2.2.1) (n_, ((List.replicate (32 : Nat) (0 : Int)), ((List.replicate (32 : Nat) (0 : Int)), ((0 : Int), ())))))

noncomputable def sol_law0_HashOf : F_law0_HashOf := fun x => T_law0_HashOf bigLoop x.1

end Go.Pon
/-
  What the functions of package ref6 compute (printed by a program of this work).
-/
set_option autoImplicit false
set_option linter.unusedVariables false
set_option maxRecDepth 100000
namespace Go.Pon
open Go

/-- pontage/pontageref6.digits -/
abbrev s_ref6_digits : Sig := ⟨[(.ro true (.arr 4 (.int .u64)))], [(.own true (.int .u8))]⟩
abbrev F_ref6_digits := ((List Int) × Unit) → Option (((List Int) × Unit) × (Unit × Unit))

noncomputable def T_ref6_digits_loop0 (again_0 : ((List Int) × ((List Int) × (Int × Unit))) → Option (((List Int) × Unit) × (Unit × Unit))) (n_1 : (List Int)) (out_2 : (List Int)) (i_3 : Int) : Option (((List Int) × Unit) × (Unit × Unit)) :=
  (letR (Go.IntKind.wrap (Go.IntKind.u64) (Go.IntKind.wrap (Go.IntKind.i64) ((8 : Int) * (Int.tmod i_3 (8 : Int))))) fun (v_4 : Int) =>
  (letR (Go.IntKind.wrap (Go.IntKind.u8) (Int.fdiv (List.getD n_1 (Int.toNat (Go.IntKind.wrap (Go.IntKind.i64) (Int.tdiv i_3 (8 : Int)))) (0 : Int)) ((2 : Int) ^ (min (Int.toNat v_4) (64 : Nat))))) fun (v_5 : Int) =>
  (brR (decide (i_3 ≥ (0 : Int)))
   (brR (Go.Pon.inR (Go.IntKind.wrap (Go.IntKind.i64) (Int.tdiv i_3 (8 : Int))) (4 : Nat))
    (brR (decide ((0 : Int) ≤ v_4))
     (brR (decide ((((List.length out_2) : Nat) : Int) > (0 : Int)))
      (brR (Go.Pon.roomy ((List.length out_2) + (1 : Nat)) (Go.Pon.Ty.int Go.IntKind.u8))
       (again_0 (n_1, ((List.append out_2 [v_5]), ((Go.IntKind.wrap (Go.IntKind.i64) (i_3 - (1 : Int))), ()))))
       none)
      (brR (decide (v_5 > (0 : Int)))
       (brR (Go.Pon.roomy ((List.length out_2) + (1 : Nat)) (Go.Pon.Ty.int Go.IntKind.u8))
        (again_0 (n_1, ((List.append out_2 [v_5]), ((Go.IntKind.wrap (Go.IntKind.i64) (i_3 - (1 : Int))), ()))))
        none)
       (again_0 (n_1, (out_2, ((Go.IntKind.wrap (Go.IntKind.i64) (i_3 - (1 : Int))), ()))))))
     none)
    none)
   (some ((out_2, ()), ((), ()))))))

noncomputable def T_ref6_digits (L : LoopD) (n_ : (List Int)) : Option (((List Int) × Unit) × (Unit × Unit)) :=
  (L _ _ (fun again x => T_ref6_digits_loop0 again x.1 x.2.1 x.2.2.1) (n_, (([] : List Int), ((31 : Int), ()))))

noncomputable def sol_ref6_digits : F_ref6_digits := fun x => T_ref6_digits bigLoop x.1

/-- pontage/pontageref6.AppendUint256 -/
abbrev s_ref6_AppendUint256 : Sig := ⟨[(.ro false (.slice (.int .u8))), (.ro true (.arr 4 (.int .u64)))], [(.own true (.int .u8))]⟩
abbrev F_ref6_AppendUint256 := ((List Int) × ((List Int) × Unit)) → Option (((List Int) × Unit) × (Unit × (Unit × Unit)))

noncomputable def T_ref6_AppendUint256 (L : LoopD) (c_ref6_digits : F_ref6_digits) (b_ : (List Int)) (n_ : (List Int)) : Option (((List Int) × Unit) × (Unit × (Unit × Unit))) :=
  (Option.bind (c_ref6_digits (n_, ())) (fun (y_0 : (((List Int) × Unit) × (Unit × Unit))) =>
   (letR (List.length y_0.1.1) fun (v_1 : Nat) =>
   (letR (List.append b_ [(Go.IntKind.wrap (Go.IntKind.u8) ((v_1 : Nat) : Int))]) fun (v_2 : (List Int)) =>
   (brR (Go.Pon.roomy ((0 : Nat) + (List.length b_)) (Go.Pon.Ty.int Go.IntKind.u8))
    (brR (Go.Pon.roomy ((List.length b_) + (1 : Nat)) (Go.Pon.Ty.int Go.IntKind.u8))
     (brR (Go.Pon.roomy ((List.length v_2) + v_1) (Go.Pon.Ty.int Go.IntKind.u8))
      (some (((List.append v_2 y_0.1.1), ()), ((), ((), ()))))
      none)
     none)
    none)))))

noncomputable def sol_ref6_AppendUint256 : F_ref6_AppendUint256 := fun x => T_ref6_AppendUint256 bigLoop sol_ref6_digits x.1 x.2.1

/-- pontage/pontageref6.AppendUint64 -/
abbrev s_ref6_AppendUint64 : Sig := ⟨[(.ro false (.slice (.int .u8))), (.ro true (.int .u64))], [(.own true (.int .u8))]⟩
abbrev F_ref6_AppendUint64 := ((List Int) × (Int × Unit)) → Option (((List Int) × Unit) × (Unit × (Unit × Unit)))

noncomputable def T_ref6_AppendUint64 (L : LoopD) (c_ref6_AppendUint256 : F_ref6_AppendUint256) (b_ : (List Int)) (n_ : Int) : Option (((List Int) × Unit) × (Unit × (Unit × Unit))) :=
  (Option.bind (c_ref6_AppendUint256 (b_, ([n_, (0 : Int), (0 : Int), (0 : Int)], ()))) (fun (y_0 : (((List Int) × Unit) × (Unit × (Unit × Unit)))) =>
   (some ((y_0.1.1, ()), ((), ((), ()))))))

noncomputable def sol_ref6_AppendUint64 : F_ref6_AppendUint64 := fun x => T_ref6_AppendUint64 bigLoop sol_ref6_AppendUint256 x.1 x.2.1

/-- pontage/pontageref6.AppendBytes -/
abbrev s_ref6_AppendBytes : Sig := ⟨[(.ro false (.slice (.int .u8))), (.ro false (.slice (.int .u8)))], [(.own true (.int .u8))]⟩
abbrev F_ref6_AppendBytes := ((List Int) × ((List Int) × Unit)) → Option (((List Int) × Unit) × (Unit × (Unit × Unit)))

noncomputable def T_ref6_AppendBytes (L : LoopD) (c_ref6_AppendUint64 : F_ref6_AppendUint64) (b_ : (List Int)) (x_ : (List Int)) : Option (((List Int) × Unit) × (Unit × (Unit × Unit))) :=
  (Option.bind (c_ref6_AppendUint64 (b_, ((Go.IntKind.wrap (Go.IntKind.u64) (((List.length x_) : Nat) : Int)), ()))) (fun (y_0 : (((List Int) × Unit) × (Unit × (Unit × Unit)))) =>
   (brR (Go.Pon.roomy ((List.length y_0.1.1) + (List.length x_)) (Go.Pon.Ty.int Go.IntKind.u8))
    (some (((List.append y_0.1.1 x_), ()), ((), ((), ()))))
    none)))

noncomputable def sol_ref6_AppendBytes : F_ref6_AppendBytes := fun x => T_ref6_AppendBytes bigLoop sol_ref6_AppendUint64 x.1 x.2.1

/-- pontage/pontageref6.take -/
abbrev s_ref6_take : Sig := ⟨[(.ro false (.slice (.int .u8))), (.ro true (.int .i64)), (.ro true (.int .i64))], [(.ro true (.arr 4 (.int .u64))), (.ro true (.int .i64)), (.ro true (.int .i64))]⟩
abbrev F_ref6_take := ((List Int) × (Int × (Int × Unit))) → Option (((List Int) × (Int × (Int × Unit))) × (Unit × (Unit × (Unit × Unit))))

noncomputable def T_ref6_take_loop0 (again_1 : ((List Int) × (Int × ((List Int) × ((List Int) × (Int × (Int × Unit)))))) → Option (((List Int) × (Int × (Int × Unit))) × (Unit × (Unit × (Unit × Unit))))) (b_2 : (List Int)) (at_3 : Int) (t6_4 : (List Int)) (n_5 : (List Int)) (k_6 : Int) (i_7 : Int) : Option (((List Int) × (Int × (Int × Unit))) × (Unit × (Unit × (Unit × Unit)))) :=
  (letR (Go.IntKind.wrap (Go.IntKind.i64) (at_3 + (1 : Int))) fun (v_8 : Int) =>
  (letR (Go.IntKind.wrap (Go.IntKind.i64) ((Go.IntKind.wrap (Go.IntKind.i64) (k_6 - (1 : Int))) - i_7)) fun (v_9 : Int) =>
  (letR (Go.IntKind.wrap (Go.IntKind.i64) (v_8 + i_7)) fun (v_10 : Int) =>
  (letR (Go.IntKind.wrap (Go.IntKind.i64) (Int.tdiv v_9 (8 : Int))) fun (v_11 : Int) =>
  (letR (Go.IntKind.wrap (Go.IntKind.u64) (Go.IntKind.wrap (Go.IntKind.i64) ((8 : Int) * (Int.tmod v_9 (8 : Int))))) fun (v_12 : Int) =>
  (brR (decide (i_7 < k_6))
   (brR (Go.Pon.inR v_11 (4 : Nat))
    (brR (Go.Pon.inR v_10 (List.length b_2))
     (brR (decide ((0 : Int) ≤ v_12))
      (brR (Go.Pon.inR v_11 (4 : Nat))
       (again_1 (b_2, (at_3, (t6_4, ((List.set n_5 (Int.toNat v_11) (Go.IntKind.wrap (Go.IntKind.u64) ((List.getD n_5 (Int.toNat v_11) (0 : Int)) + (Go.IntKind.wrap (Go.IntKind.u64) ((Go.IntKind.wrap (Go.IntKind.u64) (List.getD b_2 (Int.toNat v_10) (0 : Int))) * ((2 : Int) ^ (min (Int.toNat v_12) (64 : Nat)))))))), (k_6, ((Go.IntKind.wrap (Go.IntKind.i64) (i_7 + (1 : Int))), ())))))))
       none)
      none)
     none)
    none)
   (some ((n_5, ((Go.IntKind.wrap (Go.IntKind.i64) (v_8 + k_6)), ((0 : Int), ()))), ((), ((), ((), ())))))))))))

noncomputable def T_ref6_take (L : LoopD) (b_ : (List Int)) (at_ : Int) (most_ : Int) : Option (((List Int) × (Int × (Int × Unit))) × (Unit × (Unit × (Unit × Unit)))) :=
  (letR (Go.IntKind.wrap (Go.IntKind.i64) (at_ + (1 : Int))) fun (v_0 : Int) =>
  (brR (decide (at_ < (0 : Int)))
   (some (([(0 : Int), (0 : Int), (0 : Int), (0 : Int)], ((0 : Int), ((2 : Int), ()))), ((), ((), ((), ())))))
   (brR (decide (at_ > (((List.length b_) : Nat) : Int)))
    (some (([(0 : Int), (0 : Int), (0 : Int), (0 : Int)], ((0 : Int), ((2 : Int), ()))), ((), ((), ((), ())))))
    (brR (decide (at_ = (((List.length b_) : Nat) : Int)))
     (some (([(0 : Int), (0 : Int), (0 : Int), (0 : Int)], ((0 : Int), ((3 : Int), ()))), ((), ((), ((), ())))))
     (brR (Go.Pon.inR at_ (List.length b_))
      (brR (decide ((Go.IntKind.wrap (Go.IntKind.i64) (List.getD b_ (Int.toNat at_) (0 : Int))) > most_))
       (some (([(0 : Int), (0 : Int), (0 : Int), (0 : Int)], ((0 : Int), ((3 : Int), ()))), ((), ((), ((), ())))))
       (brR (Go.Pon.inR at_ (List.length b_))
        (brR (decide ((Go.IntKind.wrap (Go.IntKind.i64) (List.getD b_ (Int.toNat at_) (0 : Int))) > (Go.IntKind.wrap (Go.IntKind.i64) ((Go.IntKind.wrap (Go.IntKind.i64) ((((List.length b_) : Nat) : Int) - at_)) - (1 : Int)))))
         (some (([(0 : Int), (0 : Int), (0 : Int), (0 : Int)], ((0 : Int), ((3 : Int), ()))), ((), ((), ((), ())))))
         (brR (Go.Pon.inR at_ (List.length b_))
          (brR (decide ((List.getD b_ (Int.toNat at_) (0 : Int)) > (0 : Int)))
           (brR (Go.Pon.inR v_0 (List.length b_))
            (brR (decide ((List.getD b_ (Int.toNat v_0) (0 : Int)) = (0 : Int)))
             (some (([(0 : Int), (0 : Int), (0 : Int), (0 : Int)], ((0 : Int), ((3 : Int), ()))), ((), ((), ((), ())))))
             (brR (Go.Pon.inR at_ (List.length b_))
              (L _ _ (fun again x => T_ref6_take_loop0 again x.1 x.2.1 x.2.2.1 x.2.2.2.1 x.2.2.2.2.1 x.2.2.2.2.2.1) (b_, (at_, ([(0 : Int), (0 : Int), (0 : Int), (0 : Int)], ([(0 : Int), (0 : Int), (0 : Int), (0 : Int)], ((Go.IntKind.wrap (Go.IntKind.i64) (List.getD b_ (Int.toNat at_) (0 : Int))), ((0 : Int), ())))))))
              none))
            none)
           (brR (Go.Pon.inR at_ (List.length b_))
            (L _ _ (fun again x => T_ref6_take_loop0 again x.1 x.2.1 x.2.2.1 x.2.2.2.1 x.2.2.2.2.1 x.2.2.2.2.2.1) (b_, (at_, ([(0 : Int), (0 : Int), (0 : Int), (0 : Int)], ([(0 : Int), (0 : Int), (0 : Int), (0 : Int)], ((Go.IntKind.wrap (Go.IntKind.i64) (List.getD b_ (Int.toNat at_) (0 : Int))), ((0 : Int), ())))))))
            none))
          none))
        none))
      none)))))

noncomputable def sol_ref6_take : F_ref6_take := fun x => T_ref6_take bigLoop x.1 x.2.1 x.2.2.1

/-- pontage/pontageref6.ReadUint64 -/
abbrev s_ref6_ReadUint64 : Sig := ⟨[(.ro false (.slice (.int .u8))), (.ro true (.int .i64))], [(.ro true (.int .u64)), (.ro true (.int .i64)), (.ro true (.int .i64))]⟩
abbrev F_ref6_ReadUint64 := ((List Int) × (Int × Unit)) → Option ((Int × (Int × (Int × Unit))) × (Unit × (Unit × Unit)))

noncomputable def T_ref6_ReadUint64 (L : LoopD) (c_ref6_take : F_ref6_take) (b_ : (List Int)) (at_ : Int) : Option ((Int × (Int × (Int × Unit))) × (Unit × (Unit × Unit))) :=
  (Option.bind (c_ref6_take (b_, (at_, ((8 : Int), ())))) (fun (y_0 : (((List Int) × (Int × (Int × Unit))) × (Unit × (Unit × (Unit × Unit))))) =>
   (some (((List.getD y_0.1.1 (0 : Nat) (0 : Int)), (y_0.1.2.1, (y_0.1.2.2.1, ()))), ((), ((), ()))))))

noncomputable def sol_ref6_ReadUint64 : F_ref6_ReadUint64 := fun x => T_ref6_ReadUint64 bigLoop sol_ref6_take x.1 x.2.1

/-- pontage/pontageref6.ReadUint256 -/
abbrev s_ref6_ReadUint256 : Sig := ⟨[(.ro false (.slice (.int .u8))), (.ro true (.int .i64))], [(.ro true (.arr 4 (.int .u64))), (.ro true (.int .i64)), (.ro true (.int .i64))]⟩
abbrev F_ref6_ReadUint256 := ((List Int) × (Int × Unit)) → Option (((List Int) × (Int × (Int × Unit))) × (Unit × (Unit × Unit)))

noncomputable def T_ref6_ReadUint256 (L : LoopD) (c_ref6_take : F_ref6_take) (b_ : (List Int)) (at_ : Int) : Option (((List Int) × (Int × (Int × Unit))) × (Unit × (Unit × Unit))) :=
  (Option.bind (c_ref6_take (b_, (at_, ((32 : Int), ())))) (fun (y_0 : (((List Int) × (Int × (Int × Unit))) × (Unit × (Unit × (Unit × Unit))))) =>
   (some ((y_0.1.1, (y_0.1.2.1, (y_0.1.2.2.1, ()))), ((), ((), ()))))))

noncomputable def sol_ref6_ReadUint256 : F_ref6_ReadUint256 := fun x => T_ref6_ReadUint256 bigLoop sol_ref6_take x.1 x.2.1

/-- pontage/pontageref6.ReadBytes -/
abbrev s_ref6_ReadBytes : Sig := ⟨[(.ro false (.slice (.int .u8))), (.ro true (.int .i64))], [(.own true (.int .u8)), (.ro true (.int .i64)), (.ro true (.int .i64))]⟩
abbrev F_ref6_ReadBytes := ((List Int) × (Int × Unit)) → Option (((List Int) × (Int × (Int × Unit))) × (Unit × (Unit × Unit)))

noncomputable def T_ref6_ReadBytes (L : LoopD) (c_ref6_ReadUint64 : F_ref6_ReadUint64) (b_ : (List Int)) (at_ : Int) : Option (((List Int) × (Int × (Int × Unit))) × (Unit × (Unit × Unit))) :=
  (Option.bind (c_ref6_ReadUint64 (b_, (at_, ()))) (fun (y_0 : ((Int × (Int × (Int × Unit))) × (Unit × (Unit × Unit)))) =>
   (letR (Go.IntKind.wrap (Go.IntKind.i64) (y_0.1.2.1 + (Go.IntKind.wrap (Go.IntKind.i64) y_0.1.1))) fun (v_1 : Int) =>
   (letR (List.take ((Int.toNat v_1) - (Int.toNat y_0.1.2.1)) (List.drop (Int.toNat y_0.1.2.1) b_)) fun (v_2 : (List Int)) =>
   (brR (!(decide (y_0.1.2.2.1 = (0 : Int))))
    (some ((([] : List Int), ((0 : Int), (y_0.1.2.2.1, ()))), ((), ((), ()))))
    (brR (decide (y_0.1.1 > (Go.IntKind.wrap (Go.IntKind.u64) (Go.IntKind.wrap (Go.IntKind.i64) ((((List.length b_) : Nat) : Int) - y_0.1.2.1)))))
     (some ((([] : List Int), ((0 : Int), ((3 : Int), ()))), ((), ((), ()))))
     (brR (((decide ((0 : Int) ≤ y_0.1.2.1)) && (decide (y_0.1.2.1 ≤ v_1))) && (decide (v_1 ≤ (((List.length b_) : Nat) : Int))))
      (brR (Go.Pon.roomy ((0 : Nat) + (List.length v_2)) (Go.Pon.Ty.int Go.IntKind.u8))
       (some ((v_2, (v_1, ((0 : Int), ()))), ((), ((), ()))))
       none)
      none)))))))

noncomputable def sol_ref6_ReadBytes : F_ref6_ReadBytes := fun x => T_ref6_ReadBytes bigLoop sol_ref6_ReadUint64 x.1 x.2.1

/-- pontage/pontageref6.AppendInt256 -/
abbrev s_ref6_AppendInt256 : Sig := ⟨[(.ro false (.slice (.int .u8))), (.ro true (.pair .bool (.pair (.arr 4 (.int .u64)) .unit)))], [(.own true (.int .u8))]⟩
abbrev F_ref6_AppendInt256 := ((List Int) × ((Bool × ((List Int) × Unit)) × Unit)) → Option (((List Int) × Unit) × (Unit × (Unit × Unit)))

noncomputable def T_ref6_AppendInt256 (L : LoopD) (c_ref6_AppendUint256 : F_ref6_AppendUint256) (b_ : (List Int)) (a_ : (Bool × ((List Int) × Unit))) : Option (((List Int) × Unit) × (Unit × (Unit × Unit))) :=
  (brR a_.1
   (brR (Go.Pon.eqD (Go.Pon.Ty.arr 4 (Go.Pon.Ty.int Go.IntKind.u64)) a_.2.1 [(0 : Int), (0 : Int), (0 : Int), (0 : Int)])
    (brR (Go.Pon.roomy ((0 : Nat) + (List.length b_)) (Go.Pon.Ty.int Go.IntKind.u8))
     (some ((b_, ()), ((), ((), ()))))
     none)
    (brR a_.1
     (brR (Go.Pon.roomy ((0 : Nat) + (List.length b_)) (Go.Pon.Ty.int Go.IntKind.u8))
      (brR (Go.Pon.roomy ((List.length b_) + (1 : Nat)) (Go.Pon.Ty.int Go.IntKind.u8))
       (Option.bind (c_ref6_AppendUint256 ((List.append b_ [(1 : Int)]), (a_.2.1, ()))) (fun (y_0 : (((List Int) × Unit) × (Unit × (Unit × Unit)))) =>
        (some ((y_0.1.1, ()), ((), ((), ()))))))
       none)
      none)
     (brR (Go.Pon.roomy ((0 : Nat) + (List.length b_)) (Go.Pon.Ty.int Go.IntKind.u8))
      (brR (Go.Pon.roomy ((List.length b_) + (1 : Nat)) (Go.Pon.Ty.int Go.IntKind.u8))
       (Option.bind (c_ref6_AppendUint256 ((List.append b_ [(0 : Int)]), (a_.2.1, ()))) (fun (y_1 : (((List Int) × Unit) × (Unit × (Unit × Unit)))) =>
        (some ((y_1.1.1, ()), ((), ((), ()))))))
       none)
      none)))
   (brR a_.1
    (brR (Go.Pon.roomy ((0 : Nat) + (List.length b_)) (Go.Pon.Ty.int Go.IntKind.u8))
     (brR (Go.Pon.roomy ((List.length b_) + (1 : Nat)) (Go.Pon.Ty.int Go.IntKind.u8))
      (Option.bind (c_ref6_AppendUint256 ((List.append b_ [(1 : Int)]), (a_.2.1, ()))) (fun (y_2 : (((List Int) × Unit) × (Unit × (Unit × Unit)))) =>
       (some ((y_2.1.1, ()), ((), ((), ()))))))
      none)
     none)
    (brR (Go.Pon.roomy ((0 : Nat) + (List.length b_)) (Go.Pon.Ty.int Go.IntKind.u8))
     (brR (Go.Pon.roomy ((List.length b_) + (1 : Nat)) (Go.Pon.Ty.int Go.IntKind.u8))
      (Option.bind (c_ref6_AppendUint256 ((List.append b_ [(0 : Int)]), (a_.2.1, ()))) (fun (y_3 : (((List Int) × Unit) × (Unit × (Unit × Unit)))) =>
       (some ((y_3.1.1, ()), ((), ((), ()))))))
      none)
     none)))

noncomputable def sol_ref6_AppendInt256 : F_ref6_AppendInt256 := fun x => T_ref6_AppendInt256 bigLoop sol_ref6_AppendUint256 x.1 x.2.1

/-- pontage/pontageref6.ReadInt256 -/
abbrev s_ref6_ReadInt256 : Sig := ⟨[(.ro false (.slice (.int .u8))), (.ro true (.int .i64))], [(.ro true (.pair .bool (.pair (.arr 4 (.int .u64)) .unit))), (.ro true (.int .i64)), (.ro true (.int .i64))]⟩
abbrev F_ref6_ReadInt256 := ((List Int) × (Int × Unit)) → Option (((Bool × ((List Int) × Unit)) × (Int × (Int × Unit))) × (Unit × (Unit × Unit)))

noncomputable def T_ref6_ReadInt256 (L : LoopD) (c_ref6_ReadUint256 : F_ref6_ReadUint256) (b_ : (List Int)) (at_ : Int) : Option (((Bool × ((List Int) × Unit)) × (Int × (Int × Unit))) × (Unit × (Unit × Unit))) :=
  (brR (decide (at_ < (0 : Int)))
   (some (((false, ([(0 : Int), (0 : Int), (0 : Int), (0 : Int)], ())), ((0 : Int), ((2 : Int), ()))), ((), ((), ()))))
   (brR (decide (at_ > (((List.length b_) : Nat) : Int)))
    (some (((false, ([(0 : Int), (0 : Int), (0 : Int), (0 : Int)], ())), ((0 : Int), ((2 : Int), ()))), ((), ((), ()))))
    (brR (decide (at_ = (((List.length b_) : Nat) : Int)))
     (some (((false, ([(0 : Int), (0 : Int), (0 : Int), (0 : Int)], ())), ((0 : Int), ((3 : Int), ()))), ((), ((), ()))))
     (brR (Go.Pon.inR at_ (List.length b_))
      (brR (decide ((List.getD b_ (Int.toNat at_) (0 : Int)) > (1 : Int)))
       (some (((false, ([(0 : Int), (0 : Int), (0 : Int), (0 : Int)], ())), ((0 : Int), ((3 : Int), ()))), ((), ((), ()))))
       (Option.bind (c_ref6_ReadUint256 (b_, ((Go.IntKind.wrap (Go.IntKind.i64) (at_ + (1 : Int))), ()))) (fun (y_0 : (((List Int) × (Int × (Int × Unit))) × (Unit × (Unit × Unit)))) =>
        (brR (!(decide (y_0.1.2.2.1 = (0 : Int))))
         (some (((false, ([(0 : Int), (0 : Int), (0 : Int), (0 : Int)], ())), ((0 : Int), ((3 : Int), ()))), ((), ((), ()))))
         (brR (Go.Pon.inR at_ (List.length b_))
          (brR (decide ((List.getD b_ (Int.toNat at_) (0 : Int)) = (1 : Int)))
           (brR (Go.Pon.eqD (Go.Pon.Ty.arr 4 (Go.Pon.Ty.int Go.IntKind.u64)) y_0.1.1 [(0 : Int), (0 : Int), (0 : Int), (0 : Int)])
            (some (((false, ([(0 : Int), (0 : Int), (0 : Int), (0 : Int)], ())), ((0 : Int), ((3 : Int), ()))), ((), ((), ()))))
            (brR (Go.Pon.inR at_ (List.length b_))
             (some ((((decide ((List.getD b_ (Int.toNat at_) (0 : Int)) = (1 : Int))), (y_0.1.1, ())), (y_0.1.2.1, ((0 : Int), ()))), ((), ((), ()))))
             none))
           (brR (Go.Pon.inR at_ (List.length b_))
            (some ((((decide ((List.getD b_ (Int.toNat at_) (0 : Int)) = (1 : Int))), (y_0.1.1, ())), (y_0.1.2.1, ((0 : Int), ()))), ((), ((), ()))))
            none))
          none)))))
      none))))

noncomputable def sol_ref6_ReadInt256 : F_ref6_ReadInt256 := fun x => T_ref6_ReadInt256 bigLoop sol_ref6_ReadUint256 x.1 x.2.1

end Go.Pon
/-
  What the functions of package ref22 compute (printed by a program of this work).
-/
set_option autoImplicit false
set_option linter.unusedVariables false
set_option maxRecDepth 100000
namespace Go.Pon
open Go

/-- pontage/pontageref22.Equal -/
abbrev s_ref22_Equal : Sig := ⟨[(.ro false (.pair (.int .u64) (.pair (.int .u64) (.pair (.int .u64) (.pair (.arr 4 (.int .u64)) (.pair (.int .u64) (.pair (.arr 4 (.int .u64)) (.pair (.arr 4 (.int .u64)) (.pair (.int .u64) (.pair (.slice (.int .u8)) .unit)))))))))), (.ro false (.pair (.int .u64) (.pair (.int .u64) (.pair (.int .u64) (.pair (.arr 4 (.int .u64)) (.pair (.int .u64) (.pair (.arr 4 (.int .u64)) (.pair (.arr 4 (.int .u64)) (.pair (.int .u64) (.pair (.slice (.int .u8)) .unit))))))))))], [(.ro true .bool)]⟩
abbrev F_ref22_Equal := ((Int × (Int × (Int × ((List Int) × (Int × ((List Int) × ((List Int) × (Int × ((List Int) × Unit))))))))) × ((Int × (Int × (Int × ((List Int) × (Int × ((List Int) × ((List Int) × (Int × ((List Int) × Unit))))))))) × Unit)) → Option ((Bool × Unit) × (Unit × (Unit × Unit)))

noncomputable def T_ref22_Equal (L : LoopD) (a_ : (Int × (Int × (Int × ((List Int) × (Int × ((List Int) × ((List Int) × (Int × ((List Int) × Unit)))))))))) (b_ : (Int × (Int × (Int × ((List Int) × (Int × ((List Int) × ((List Int) × (Int × ((List Int) × Unit)))))))))) : Option ((Bool × Unit) × (Unit × (Unit × Unit))) :=
  (brR (decide (a_.1 = b_.1))
   (brR (decide (a_.2.1 = b_.2.1))
    (brR (decide (a_.2.2.1 = b_.2.2.1))
     (brR (Go.Pon.eqD (Go.Pon.Ty.arr 4 (Go.Pon.Ty.int Go.IntKind.u64)) a_.2.2.2.1 b_.2.2.2.1)
      (brR (decide (a_.2.2.2.2.1 = b_.2.2.2.2.1))
       (brR (Go.Pon.eqD (Go.Pon.Ty.arr 4 (Go.Pon.Ty.int Go.IntKind.u64)) a_.2.2.2.2.2.1 b_.2.2.2.2.2.1)
        (brR (Go.Pon.eqD (Go.Pon.Ty.arr 4 (Go.Pon.Ty.int Go.IntKind.u64)) a_.2.2.2.2.2.2.1 b_.2.2.2.2.2.2.1)
         (brR (decide (a_.2.2.2.2.2.2.2.1 = b_.2.2.2.2.2.2.2.1))
          (some (((Go.Pon.eqD (Go.Pon.Ty.str) a_.2.2.2.2.2.2.2.2.1 b_.2.2.2.2.2.2.2.2.1), ()), ((), ((), ()))))
          (some ((false, ()), ((), ((), ())))))
         (some ((false, ()), ((), ((), ())))))
        (some ((false, ()), ((), ((), ())))))
       (some ((false, ()), ((), ((), ())))))
      (some ((false, ()), ((), ((), ())))))
     (some ((false, ()), ((), ((), ())))))
    (some ((false, ()), ((), ((), ())))))
   (some ((false, ()), ((), ((), ())))))

noncomputable def sol_ref22_Equal : F_ref22_Equal := fun x => T_ref22_Equal bigLoop x.1 x.2.1

/-- pontage/pontageref22.Encode -/
abbrev s_ref22_Encode : Sig := ⟨[(.ro false (.pair (.int .u64) (.pair (.int .u64) (.pair (.int .u64) (.pair (.arr 4 (.int .u64)) (.pair (.int .u64) (.pair (.arr 4 (.int .u64)) (.pair (.arr 4 (.int .u64)) (.pair (.int .u64) (.pair (.slice (.int .u8)) .unit))))))))))], [(.own true (.int .u8)), (.ro true (.int .i64))]⟩
abbrev F_ref22_Encode := ((Int × (Int × (Int × ((List Int) × (Int × ((List Int) × ((List Int) × (Int × ((List Int) × Unit))))))))) × Unit) → Option (((List Int) × (Int × Unit)) × (Unit × Unit))

noncomputable def T_ref22_Encode (L : LoopD) (c_ref6_AppendUint64 : F_ref6_AppendUint64) (c_ref6_AppendUint256 : F_ref6_AppendUint256) (c_ref6_AppendBytes : F_ref6_AppendBytes) (t_ : (Int × (Int × (Int × ((List Int) × (Int × ((List Int) × ((List Int) × (Int × ((List Int) × Unit)))))))))) : Option (((List Int) × (Int × Unit)) × (Unit × Unit)) :=
  (brR (decide ((((List.length t_.2.2.2.2.2.2.2.2.1) : Nat) : Int) > (4096 : Int)))
   (some ((([] : List Int), ((6 : Int), ())), ((), ())))
   (Option.bind (c_ref6_AppendUint64 (([] : List Int), (t_.1, ()))) (fun (y_0 : (((List Int) × Unit) × (Unit × (Unit × Unit)))) =>
    (Option.bind (c_ref6_AppendUint64 (y_0.1.1, (t_.2.1, ()))) (fun (y_1 : (((List Int) × Unit) × (Unit × (Unit × Unit)))) =>
     (Option.bind (c_ref6_AppendUint64 (y_1.1.1, (t_.2.2.1, ()))) (fun (y_2 : (((List Int) × Unit) × (Unit × (Unit × Unit)))) =>
      (Option.bind (c_ref6_AppendUint256 (y_2.1.1, (t_.2.2.2.1, ()))) (fun (y_3 : (((List Int) × Unit) × (Unit × (Unit × Unit)))) =>
       (Option.bind (c_ref6_AppendUint64 (y_3.1.1, (t_.2.2.2.2.1, ()))) (fun (y_4 : (((List Int) × Unit) × (Unit × (Unit × Unit)))) =>
        (Option.bind (c_ref6_AppendUint256 (y_4.1.1, (t_.2.2.2.2.2.1, ()))) (fun (y_5 : (((List Int) × Unit) × (Unit × (Unit × Unit)))) =>
         (Option.bind (c_ref6_AppendUint256 (y_5.1.1, (t_.2.2.2.2.2.2.1, ()))) (fun (y_6 : (((List Int) × Unit) × (Unit × (Unit × Unit)))) =>
          (Option.bind (c_ref6_AppendUint64 (y_6.1.1, (t_.2.2.2.2.2.2.2.1, ()))) (fun (y_7 : (((List Int) × Unit) × (Unit × (Unit × Unit)))) =>
           (Option.bind (c_ref6_AppendBytes (y_7.1.1, (t_.2.2.2.2.2.2.2.2.1, ()))) (fun (y_8 : (((List Int) × Unit) × (Unit × (Unit × Unit)))) =>
            (some ((y_8.1.1, ((0 : Int), ())), ((), ()))))))))))))))))))))))

noncomputable def sol_ref22_Encode : F_ref22_Encode := fun x => T_ref22_Encode bigLoop sol_ref6_AppendUint64 sol_ref6_AppendUint256 sol_ref6_AppendBytes x.1

/-- (*pontage/pontageref22.Reader).Uint64 -/
abbrev s_ref22_Reader_Uint64 : Sig := ⟨[(.ptr (.pair (.ro false (.slice (.int .u8))) (.pair (.ro true (.int .i64)) (.pair (.ro true .bool) (.ro true .unit)))))], [(.ro true (.int .u64))]⟩
abbrev F_ref22_Reader_Uint64 := (((List Int) × (Int × (Bool × Unit))) × Unit) → Option ((Int × Unit) × (((List Int) × (Int × (Bool × Unit))) × Unit))

noncomputable def T_ref22_Reader_Uint64 (L : LoopD) (c_ref6_ReadUint64 : F_ref6_ReadUint64) (r_ : ((List Int) × (Int × (Bool × Unit)))) : Option ((Int × Unit) × (((List Int) × (Int × (Bool × Unit))) × Unit)) :=
  (brR r_.2.2.1
   (some (((0 : Int), ()), ((r_.1, (r_.2.1, (r_.2.2.1, r_.2.2.2))), ())))
   (Option.bind (c_ref6_ReadUint64 (r_.1, (r_.2.1, ()))) (fun (y_0 : ((Int × (Int × (Int × Unit))) × (Unit × (Unit × Unit)))) =>
    (some ((y_0.1.1, ()), ((r_.1, (y_0.1.2.1, ((!(decide (y_0.1.2.2.1 = (0 : Int)))), r_.2.2.2))), ()))))))

noncomputable def sol_ref22_Reader_Uint64 : F_ref22_Reader_Uint64 := fun x => T_ref22_Reader_Uint64 bigLoop sol_ref6_ReadUint64 x.1

/-- (*pontage/pontageref22.Reader).Uint256 -/
abbrev s_ref22_Reader_Uint256 : Sig := ⟨[(.ptr (.pair (.ro false (.slice (.int .u8))) (.pair (.ro true (.int .i64)) (.pair (.ro true .bool) (.ro true .unit)))))], [(.ro true (.arr 4 (.int .u64)))]⟩
abbrev F_ref22_Reader_Uint256 := (((List Int) × (Int × (Bool × Unit))) × Unit) → Option (((List Int) × Unit) × (((List Int) × (Int × (Bool × Unit))) × Unit))

noncomputable def T_ref22_Reader_Uint256 (L : LoopD) (c_ref6_ReadUint256 : F_ref6_ReadUint256) (r_ : ((List Int) × (Int × (Bool × Unit)))) : Option (((List Int) × Unit) × (((List Int) × (Int × (Bool × Unit))) × Unit)) :=
  (brR r_.2.2.1
   (some (([(0 : Int), (0 : Int), (0 : Int), (0 : Int)], ()), ((r_.1, (r_.2.1, (r_.2.2.1, r_.2.2.2))), ())))
   (Option.bind (c_ref6_ReadUint256 (r_.1, (r_.2.1, ()))) (fun (y_0 : (((List Int) × (Int × (Int × Unit))) × (Unit × (Unit × Unit)))) =>
    (some ((y_0.1.1, ()), ((r_.1, (y_0.1.2.1, ((!(decide (y_0.1.2.2.1 = (0 : Int)))), r_.2.2.2))), ()))))))

noncomputable def sol_ref22_Reader_Uint256 : F_ref22_Reader_Uint256 := fun x => T_ref22_Reader_Uint256 bigLoop sol_ref6_ReadUint256 x.1

/-- (*pontage/pontageref22.Reader).Bytes -/
abbrev s_ref22_Reader_Bytes : Sig := ⟨[(.ptr (.pair (.ro false (.slice (.int .u8))) (.pair (.ro true (.int .i64)) (.pair (.ro true .bool) (.ro true .unit)))))], [(.own true (.int .u8))]⟩
abbrev F_ref22_Reader_Bytes := (((List Int) × (Int × (Bool × Unit))) × Unit) → Option (((List Int) × Unit) × (((List Int) × (Int × (Bool × Unit))) × Unit))

noncomputable def T_ref22_Reader_Bytes (L : LoopD) (c_ref6_ReadBytes : F_ref6_ReadBytes) (r_ : ((List Int) × (Int × (Bool × Unit)))) : Option (((List Int) × Unit) × (((List Int) × (Int × (Bool × Unit))) × Unit)) :=
  (brR r_.2.2.1
   (some ((([] : List Int), ()), ((r_.1, (r_.2.1, (r_.2.2.1, r_.2.2.2))), ())))
   (Option.bind (c_ref6_ReadBytes (r_.1, (r_.2.1, ()))) (fun (y_0 : (((List Int) × (Int × (Int × Unit))) × (Unit × (Unit × Unit)))) =>
    (some ((y_0.1.1, ()), ((r_.1, (y_0.1.2.1, ((!(decide (y_0.1.2.2.1 = (0 : Int)))), r_.2.2.2))), ()))))))

noncomputable def sol_ref22_Reader_Bytes : F_ref22_Reader_Bytes := fun x => T_ref22_Reader_Bytes bigLoop sol_ref6_ReadBytes x.1

/-- (*pontage/pontageref22.Reader).Done -/
abbrev s_ref22_Reader_Done : Sig := ⟨[(.ptr (.pair (.ro false (.slice (.int .u8))) (.pair (.ro true (.int .i64)) (.pair (.ro true .bool) (.ro true .unit)))))], [(.ro true .bool)]⟩
abbrev F_ref22_Reader_Done := (((List Int) × (Int × (Bool × Unit))) × Unit) → Option ((Bool × Unit) × (((List Int) × (Int × (Bool × Unit))) × Unit))

noncomputable def T_ref22_Reader_Done (L : LoopD) (r_ : ((List Int) × (Int × (Bool × Unit)))) : Option ((Bool × Unit) × (((List Int) × (Int × (Bool × Unit))) × Unit)) :=
  (brR (!r_.2.2.1)
   (some (((decide (r_.2.1 = (((List.length r_.1) : Nat) : Int))), ()), ((r_.1, (r_.2.1, (r_.2.2.1, r_.2.2.2))), ())))
   (some ((false, ()), ((r_.1, (r_.2.1, (r_.2.2.1, r_.2.2.2))), ()))))

noncomputable def sol_ref22_Reader_Done : F_ref22_Reader_Done := fun x => T_ref22_Reader_Done bigLoop x.1

/-- pontage/pontageref22.Decode -/
abbrev s_ref22_Decode : Sig := ⟨[(.ro false (.slice (.int .u8)))], [(.ro true (.pair (.int .u64) (.pair (.int .u64) (.pair (.int .u64) (.pair (.arr 4 (.int .u64)) (.pair (.int .u64) (.pair (.arr 4 (.int .u64)) (.pair (.arr 4 (.int .u64)) (.pair (.int .u64) (.pair (.slice (.int .u8)) .unit)))))))))), (.ro true (.int .i64))]⟩
abbrev F_ref22_Decode := ((List Int) × Unit) → Option (((Int × (Int × (Int × ((List Int) × (Int × ((List Int) × ((List Int) × (Int × ((List Int) × Unit))))))))) × (Int × Unit)) × (Unit × Unit))

noncomputable def T_ref22_Decode (L : LoopD) (c_ref22_Reader_Uint64 : F_ref22_Reader_Uint64) (c_ref22_Reader_Uint256 : F_ref22_Reader_Uint256) (c_ref22_Reader_Bytes : F_ref22_Reader_Bytes) (c_ref22_Reader_Done : F_ref22_Reader_Done) (b_ : (List Int)) : Option (((Int × (Int × (Int × ((List Int) × (Int × ((List Int) × ((List Int) × (Int × ((List Int) × Unit))))))))) × (Int × Unit)) × (Unit × Unit)) :=
  (Option.bind (c_ref22_Reader_Uint64 ((b_, ((0 : Int), (false, ()))), ())) (fun (y_0 : ((Int × Unit) × (((List Int) × (Int × (Bool × Unit))) × Unit))) =>
   (Option.bind (c_ref22_Reader_Uint64 ((y_0.2.1.1, (y_0.2.1.2.1, (y_0.2.1.2.2.1, y_0.2.1.2.2.2))), ())) (fun (y_1 : ((Int × Unit) × (((List Int) × (Int × (Bool × Unit))) × Unit))) =>
    (Option.bind (c_ref22_Reader_Uint64 ((y_1.2.1.1, (y_1.2.1.2.1, (y_1.2.1.2.2.1, y_1.2.1.2.2.2))), ())) (fun (y_2 : ((Int × Unit) × (((List Int) × (Int × (Bool × Unit))) × Unit))) =>
     (Option.bind (c_ref22_Reader_Uint256 ((y_2.2.1.1, (y_2.2.1.2.1, (y_2.2.1.2.2.1, y_2.2.1.2.2.2))), ())) (fun (y_3 : (((List Int) × Unit) × (((List Int) × (Int × (Bool × Unit))) × Unit))) =>
      (Option.bind (c_ref22_Reader_Uint64 ((y_3.2.1.1, (y_3.2.1.2.1, (y_3.2.1.2.2.1, y_3.2.1.2.2.2))), ())) (fun (y_4 : ((Int × Unit) × (((List Int) × (Int × (Bool × Unit))) × Unit))) =>
       (Option.bind (c_ref22_Reader_Uint256 ((y_4.2.1.1, (y_4.2.1.2.1, (y_4.2.1.2.2.1, y_4.2.1.2.2.2))), ())) (fun (y_5 : (((List Int) × Unit) × (((List Int) × (Int × (Bool × Unit))) × Unit))) =>
        (Option.bind (c_ref22_Reader_Uint256 ((y_5.2.1.1, (y_5.2.1.2.1, (y_5.2.1.2.2.1, y_5.2.1.2.2.2))), ())) (fun (y_6 : (((List Int) × Unit) × (((List Int) × (Int × (Bool × Unit))) × Unit))) =>
         (Option.bind (c_ref22_Reader_Uint64 ((y_6.2.1.1, (y_6.2.1.2.1, (y_6.2.1.2.2.1, y_6.2.1.2.2.2))), ())) (fun (y_7 : ((Int × Unit) × (((List Int) × (Int × (Bool × Unit))) × Unit))) =>
          (Option.bind (c_ref22_Reader_Bytes ((y_7.2.1.1, (y_7.2.1.2.1, (y_7.2.1.2.2.1, y_7.2.1.2.2.2))), ())) (fun (y_8 : (((List Int) × Unit) × (((List Int) × (Int × (Bool × Unit))) × Unit))) =>
           (Option.bind (c_ref22_Reader_Done ((y_8.2.1.1, (y_8.2.1.2.1, (y_8.2.1.2.2.1, y_8.2.1.2.2.2))), ())) (fun (y_9 : ((Bool × Unit) × (((List Int) × (Int × (Bool × Unit))) × Unit))) =>
            (brR (!y_9.1.1)
             (some ((((0 : Int), ((0 : Int), ((0 : Int), ([(0 : Int), (0 : Int), (0 : Int), (0 : Int)], ((0 : Int), ([(0 : Int), (0 : Int), (0 : Int), (0 : Int)], ([(0 : Int), (0 : Int), (0 : Int), (0 : Int)], ((0 : Int), (([] : List Int), ()))))))))), ((3 : Int), ())), ((), ())))
             (brR (decide ((((List.length y_8.1.1) : Nat) : Int) > (4096 : Int)))
              (some ((((0 : Int), ((0 : Int), ((0 : Int), ([(0 : Int), (0 : Int), (0 : Int), (0 : Int)], ((0 : Int), ([(0 : Int), (0 : Int), (0 : Int), (0 : Int)], ([(0 : Int), (0 : Int), (0 : Int), (0 : Int)], ((0 : Int), (([] : List Int), ()))))))))), ((3 : Int), ())), ((), ())))
              (some (((y_0.1.1, (y_1.1.1, (y_2.1.1, (y_3.1.1, (y_4.1.1, (y_5.1.1, (y_6.1.1, (y_7.1.1, (y_8.1.1, ()))))))))), ((0 : Int), ())), ((), ())))))))))))))))))))))))))

noncomputable def sol_ref22_Decode : F_ref22_Decode := fun x => T_ref22_Decode bigLoop sol_ref22_Reader_Uint64 sol_ref22_Reader_Uint256 sol_ref22_Reader_Bytes sol_ref22_Reader_Done x.1

/-- (*pontage/pontageref22.Reader).Byte -/
abbrev s_ref22_Reader_Byte : Sig := ⟨[(.ptr (.pair (.ro false (.slice (.int .u8))) (.pair (.ro true (.int .i64)) (.pair (.ro true .bool) (.ro true .unit)))))], [(.ro true (.int .u8))]⟩
abbrev F_ref22_Reader_Byte := (((List Int) × (Int × (Bool × Unit))) × Unit) → Option ((Int × Unit) × (((List Int) × (Int × (Bool × Unit))) × Unit))

noncomputable def T_ref22_Reader_Byte (L : LoopD) (r_ : ((List Int) × (Int × (Bool × Unit)))) : Option ((Int × Unit) × (((List Int) × (Int × (Bool × Unit))) × Unit)) :=
  (letR (Go.IntKind.wrap (Go.IntKind.i64) (r_.2.1 + (1 : Int))) fun (v_0 : Int) =>
  (letR (Go.IntKind.wrap (Go.IntKind.i64) (v_0 - (1 : Int))) fun (v_1 : Int) =>
  (brR r_.2.2.1
   (some (((0 : Int), ()), ((r_.1, (r_.2.1, (true, r_.2.2.2))), ())))
   (brR (decide (r_.2.1 ≥ (((List.length r_.1) : Nat) : Int)))
    (some (((0 : Int), ()), ((r_.1, (r_.2.1, (true, r_.2.2.2))), ())))
    (brR (Go.Pon.inR v_1 (List.length r_.1))
     (some (((List.getD r_.1 (Int.toNat v_1) (0 : Int)), ()), ((r_.1, (v_0, (r_.2.2.1, r_.2.2.2))), ())))
     none)))))

noncomputable def sol_ref22_Reader_Byte : F_ref22_Reader_Byte := fun x => T_ref22_Reader_Byte bigLoop x.1

end Go.Pon
/-
  What the functions of package ref26 compute (printed by a program of this work).
-/
set_option autoImplicit false
set_option linter.unusedVariables false
set_option maxRecDepth 100000
namespace Go.Pon
open Go

/-- pontage/pontageref26.Equal -/
abbrev s_ref26_Equal : Sig := ⟨[(.ro false (.pair (.int .i64) (.pair (.pair (.int .u64) (.pair (.int .u64) (.pair (.int .u64) (.pair (.arr 4 (.int .u64)) (.pair (.int .u64) (.pair (.arr 4 (.int .u64)) (.pair (.arr 4 (.int .u64)) (.pair (.int .u64) (.pair (.slice (.int .u8)) .unit))))))))) (.pair (.pair (.int .u64) (.pair (.int .u64) (.pair (.arr 4 (.int .u64)) .unit))) (.pair (.int .u64) (.pair (.int .i64) (.pair (.arr 4 (.int .u64)) (.pair (.int .u64) (.pair (.pair (.int .u64) (.pair (.int .u64) (.pair (.int .u64) (.pair (.arr 4 (.int .u64)) (.pair (.slice (.arr 32 (.int .u8))) .unit))))) .unit))))))))), (.ro false (.pair (.int .i64) (.pair (.pair (.int .u64) (.pair (.int .u64) (.pair (.int .u64) (.pair (.arr 4 (.int .u64)) (.pair (.int .u64) (.pair (.arr 4 (.int .u64)) (.pair (.arr 4 (.int .u64)) (.pair (.int .u64) (.pair (.slice (.int .u8)) .unit))))))))) (.pair (.pair (.int .u64) (.pair (.int .u64) (.pair (.arr 4 (.int .u64)) .unit))) (.pair (.int .u64) (.pair (.int .i64) (.pair (.arr 4 (.int .u64)) (.pair (.int .u64) (.pair (.pair (.int .u64) (.pair (.int .u64) (.pair (.int .u64) (.pair (.arr 4 (.int .u64)) (.pair (.slice (.arr 32 (.int .u8))) .unit))))) .unit)))))))))], [(.ro true .bool)]⟩
abbrev F_ref26_Equal := ((Int × ((Int × (Int × (Int × ((List Int) × (Int × ((List Int) × ((List Int) × (Int × ((List Int) × Unit))))))))) × ((Int × (Int × ((List Int) × Unit))) × (Int × (Int × ((List Int) × (Int × ((Int × (Int × (Int × ((List Int) × ((List (List Int)) × Unit))))) × Unit)))))))) × ((Int × ((Int × (Int × (Int × ((List Int) × (Int × ((List Int) × ((List Int) × (Int × ((List Int) × Unit))))))))) × ((Int × (Int × ((List Int) × Unit))) × (Int × (Int × ((List Int) × (Int × ((Int × (Int × (Int × ((List Int) × ((List (List Int)) × Unit))))) × Unit)))))))) × Unit)) → Option ((Bool × Unit) × (Unit × (Unit × Unit)))

noncomputable def T_ref26_Equal_loop0 (again_0 : ((Int × ((Int × (Int × (Int × ((List Int) × (Int × ((List Int) × ((List Int) × (Int × ((List Int) × Unit))))))))) × ((Int × (Int × ((List Int) × Unit))) × (Int × (Int × ((List Int) × (Int × ((Int × (Int × (Int × ((List Int) × ((List (List Int)) × Unit))))) × Unit)))))))) × ((Int × ((Int × (Int × (Int × ((List Int) × (Int × ((List Int) × ((List Int) × (Int × ((List Int) × Unit))))))))) × ((Int × (Int × ((List Int) × Unit))) × (Int × (Int × ((List Int) × (Int × ((Int × (Int × (Int × ((List Int) × ((List (List Int)) × Unit))))) × Unit)))))))) × (Int × Unit))) → Option ((Bool × Unit) × (Unit × (Unit × Unit)))) (a_1 : (Int × ((Int × (Int × (Int × ((List Int) × (Int × ((List Int) × ((List Int) × (Int × ((List Int) × Unit))))))))) × ((Int × (Int × ((List Int) × Unit))) × (Int × (Int × ((List Int) × (Int × ((Int × (Int × (Int × ((List Int) × ((List (List Int)) × Unit))))) × Unit))))))))) (b_2 : (Int × ((Int × (Int × (Int × ((List Int) × (Int × ((List Int) × ((List Int) × (Int × ((List Int) × Unit))))))))) × ((Int × (Int × ((List Int) × Unit))) × (Int × (Int × ((List Int) × (Int × ((Int × (Int × (Int × ((List Int) × ((List (List Int)) × Unit))))) × Unit))))))))) (i_3 : Int) : Option ((Bool × Unit) × (Unit × (Unit × Unit))) :=
  (brR (decide (i_3 < ((List.length a_1.2.2.2.2.2.2.2.1.2.2.2.2.1 : Nat) : Int)))
   (brR (Go.Pon.inR i_3 (List.length a_1.2.2.2.2.2.2.2.1.2.2.2.2.1))
    (brR (Go.Pon.inR i_3 (List.length b_2.2.2.2.2.2.2.2.1.2.2.2.2.1))
     (brR (!(Go.Pon.eqD (Go.Pon.Ty.arr 32 (Go.Pon.Ty.int Go.IntKind.u8)) (List.getD a_1.2.2.2.2.2.2.2.1.2.2.2.2.1 (Int.toNat i_3) (Go.Pon.Ty.zero (Go.Pon.Ty.arr 32 (Go.Pon.Ty.int Go.IntKind.u8)))) (List.getD b_2.2.2.2.2.2.2.2.1.2.2.2.2.1 (Int.toNat i_3) (Go.Pon.Ty.zero (Go.Pon.Ty.arr 32 (Go.Pon.Ty.int Go.IntKind.u8))))))
      (some ((false, ()), ((), ((), ()))))
      (again_0 ((a_1.1, ((a_1.2.1.1, (a_1.2.1.2.1, (a_1.2.1.2.2.1, (a_1.2.1.2.2.2.1, (a_1.2.1.2.2.2.2.1, (a_1.2.1.2.2.2.2.2.1, (a_1.2.1.2.2.2.2.2.2.1, (a_1.2.1.2.2.2.2.2.2.2.1, (a_1.2.1.2.2.2.2.2.2.2.2.1, a_1.2.1.2.2.2.2.2.2.2.2.2))))))))), (a_1.2.2.1, (a_1.2.2.2.1, (a_1.2.2.2.2.1, (a_1.2.2.2.2.2.1, (a_1.2.2.2.2.2.2.1, ((a_1.2.2.2.2.2.2.2.1.1, (a_1.2.2.2.2.2.2.2.1.2.1, (a_1.2.2.2.2.2.2.2.1.2.2.1, (a_1.2.2.2.2.2.2.2.1.2.2.2.1, (a_1.2.2.2.2.2.2.2.1.2.2.2.2.1, a_1.2.2.2.2.2.2.2.1.2.2.2.2.2))))), a_1.2.2.2.2.2.2.2.2)))))))), ((b_2.1, ((b_2.2.1.1, (b_2.2.1.2.1, (b_2.2.1.2.2.1, (b_2.2.1.2.2.2.1, (b_2.2.1.2.2.2.2.1, (b_2.2.1.2.2.2.2.2.1, (b_2.2.1.2.2.2.2.2.2.1, (b_2.2.1.2.2.2.2.2.2.2.1, (b_2.2.1.2.2.2.2.2.2.2.2.1, b_2.2.1.2.2.2.2.2.2.2.2.2))))))))), (b_2.2.2.1, (b_2.2.2.2.1, (b_2.2.2.2.2.1, (b_2.2.2.2.2.2.1, (b_2.2.2.2.2.2.2.1, ((b_2.2.2.2.2.2.2.2.1.1, (b_2.2.2.2.2.2.2.2.1.2.1, (b_2.2.2.2.2.2.2.2.1.2.2.1, (b_2.2.2.2.2.2.2.2.1.2.2.2.1, (b_2.2.2.2.2.2.2.2.1.2.2.2.2.1, b_2.2.2.2.2.2.2.2.1.2.2.2.2.2))))), b_2.2.2.2.2.2.2.2.2)))))))), ((Go.IntKind.wrap (Go.IntKind.i64) (i_3 + (1 : Int))), ())))))
     none)
    none)
   (some ((true, ()), ((), ((), ())))))

noncomputable def T_ref26_Equal (L : LoopD) (c_ref22_Equal : F_ref22_Equal) (a_ : (Int × ((Int × (Int × (Int × ((List Int) × (Int × ((List Int) × ((List Int) × (Int × ((List Int) × Unit))))))))) × ((Int × (Int × ((List Int) × Unit))) × (Int × (Int × ((List Int) × (Int × ((Int × (Int × (Int × ((List Int) × ((List (List Int)) × Unit))))) × Unit))))))))) (b_ : (Int × ((Int × (Int × (Int × ((List Int) × (Int × ((List Int) × ((List Int) × (Int × ((List Int) × Unit))))))))) × ((Int × (Int × ((List Int) × Unit))) × (Int × (Int × ((List Int) × (Int × ((Int × (Int × (Int × ((List Int) × ((List (List Int)) × Unit))))) × Unit))))))))) : Option ((Bool × Unit) × (Unit × (Unit × Unit))) :=
  (brR (!(decide (a_.1 = b_.1)))
   (some ((false, ()), ((), ((), ()))))
   (Option.bind (c_ref22_Equal (a_.2.1, (b_.2.1, ()))) (fun (y : ((Bool × Unit) × (Unit × (Unit × Unit)))) =>
  (brR (!y.1.1)
   (some ((false, ()), ((), ((), ()))))
   (brR (!(Go.Pon.eqD (Go.Pon.Ty.pair (Go.Pon.Ty.int Go.IntKind.u64) (Go.Pon.Ty.pair (Go.Pon.Ty.int Go.IntKind.u64) (Go.Pon.Ty.pair (Go.Pon.Ty.arr 4 (Go.Pon.Ty.int Go.IntKind.u64)) Go.Pon.Ty.unit))) a_.2.2.1 b_.2.2.1))
   (some ((false, ()), ((), ((), ()))))
   (brR (!(decide (a_.2.2.2.1 = b_.2.2.2.1)))
   (some ((false, ()), ((), ((), ()))))
   (brR (!(decide (a_.2.2.2.2.1 = b_.2.2.2.2.1)))
   (some ((false, ()), ((), ((), ()))))
   (brR (!(Go.Pon.eqD (Go.Pon.Ty.arr 4 (Go.Pon.Ty.int Go.IntKind.u64)) a_.2.2.2.2.2.1 b_.2.2.2.2.2.1))
   (some ((false, ()), ((), ((), ()))))
   (brR (!(decide (a_.2.2.2.2.2.2.1 = b_.2.2.2.2.2.2.1)))
   (some ((false, ()), ((), ((), ()))))
   (brR (!(decide (a_.2.2.2.2.2.2.2.1.1 = b_.2.2.2.2.2.2.2.1.1)))
   (some ((false, ()), ((), ((), ()))))
   (brR (!(decide (a_.2.2.2.2.2.2.2.1.2.1 = b_.2.2.2.2.2.2.2.1.2.1)))
   (some ((false, ()), ((), ((), ()))))
   (brR (!(decide (a_.2.2.2.2.2.2.2.1.2.2.1 = b_.2.2.2.2.2.2.2.1.2.2.1)))
   (some ((false, ()), ((), ((), ()))))
   (brR (!(Go.Pon.eqD (Go.Pon.Ty.arr 4 (Go.Pon.Ty.int Go.IntKind.u64)) a_.2.2.2.2.2.2.2.1.2.2.2.1 b_.2.2.2.2.2.2.2.1.2.2.2.1))
   (some ((false, ()), ((), ((), ()))))
   (brR (!(decide (((List.length a_.2.2.2.2.2.2.2.1.2.2.2.2.1 : Nat) : Int) = ((List.length b_.2.2.2.2.2.2.2.1.2.2.2.2.1 : Nat) : Int))))
   (some ((false, ()), ((), ((), ()))))
   (L _ _ (fun again x => T_ref26_Equal_loop0 again x.1 x.2.1 x.2.2.1) ((a_.1, ((a_.2.1.1, (a_.2.1.2.1, (a_.2.1.2.2.1, (a_.2.1.2.2.2.1, (a_.2.1.2.2.2.2.1, (a_.2.1.2.2.2.2.2.1, (a_.2.1.2.2.2.2.2.2.1, (a_.2.1.2.2.2.2.2.2.2.1, (a_.2.1.2.2.2.2.2.2.2.2.1, a_.2.1.2.2.2.2.2.2.2.2.2))))))))), (a_.2.2.1, (a_.2.2.2.1, (a_.2.2.2.2.1, (a_.2.2.2.2.2.1, (a_.2.2.2.2.2.2.1, ((a_.2.2.2.2.2.2.2.1.1, (a_.2.2.2.2.2.2.2.1.2.1, (a_.2.2.2.2.2.2.2.1.2.2.1, (a_.2.2.2.2.2.2.2.1.2.2.2.1, (a_.2.2.2.2.2.2.2.1.2.2.2.2.1, a_.2.2.2.2.2.2.2.1.2.2.2.2.2))))), a_.2.2.2.2.2.2.2.2)))))))), ((b_.1, ((b_.2.1.1, (b_.2.1.2.1, (b_.2.1.2.2.1, (b_.2.1.2.2.2.1, (b_.2.1.2.2.2.2.1, (b_.2.1.2.2.2.2.2.1, (b_.2.1.2.2.2.2.2.2.1, (b_.2.1.2.2.2.2.2.2.2.1, (b_.2.1.2.2.2.2.2.2.2.2.1, b_.2.1.2.2.2.2.2.2.2.2.2))))))))), (b_.2.2.1, (b_.2.2.2.1, (b_.2.2.2.2.1, (b_.2.2.2.2.2.1, (b_.2.2.2.2.2.2.1, ((b_.2.2.2.2.2.2.2.1.1, (b_.2.2.2.2.2.2.2.1.2.1, (b_.2.2.2.2.2.2.2.1.2.2.1, (b_.2.2.2.2.2.2.2.1.2.2.2.1, (b_.2.2.2.2.2.2.2.1.2.2.2.2.1, b_.2.2.2.2.2.2.2.1.2.2.2.2.2))))), b_.2.2.2.2.2.2.2.2)))))))), ((0 : Int), ()))))))))))))))))))

noncomputable def sol_ref26_Equal : F_ref26_Equal := fun x => T_ref26_Equal bigLoop sol_ref22_Equal x.1 x.2.1

/-- pontage/pontageref26.ValidKind -/
abbrev s_ref26_ValidKind : Sig := ⟨[(.ro true (.int .i64))], [(.ro true .bool)]⟩
abbrev F_ref26_ValidKind := (Int × Unit) → Option ((Bool × Unit) × (Unit × Unit))

noncomputable def T_ref26_ValidKind (L : LoopD) (kind_ : Int) : Option ((Bool × Unit) × (Unit × Unit)) :=
  (brR (decide (kind_ ≥ (1 : Int)))
   (some (((decide (kind_ ≤ (7 : Int))), ()), ((), ())))
   (some ((false, ()), ((), ()))))

noncomputable def sol_ref26_ValidKind : F_ref26_ValidKind := fun x => T_ref26_ValidKind bigLoop x.1

/-- pontage/pontageref26.claim -/
abbrev s_ref26_claim : Sig := ⟨[(.ro false (.slice (.int .u8))), (.ro false (.pair (.int .u64) (.pair (.int .u64) (.pair (.int .u64) (.pair (.arr 4 (.int .u64)) (.pair (.slice (.arr 32 (.int .u8))) .unit))))))], [(.own true (.int .u8))]⟩
abbrev F_ref26_claim := ((List Int) × ((Int × (Int × (Int × ((List Int) × ((List (List Int)) × Unit))))) × Unit)) → Option (((List Int) × Unit) × (Unit × (Unit × Unit)))

noncomputable def T_ref26_claim_loop0 (again_5 : ((List Int) × ((Int × (Int × (Int × ((List Int) × ((List (List Int)) × Unit))))) × (Int × Unit))) → Option (((List Int) × Unit) × (Unit × (Unit × Unit)))) (b_6 : (List Int)) (c_7 : (Int × (Int × (Int × ((List Int) × ((List (List Int)) × Unit)))))) (i_8 : Int) : Option (((List Int) × Unit) × (Unit × (Unit × Unit))) :=
  (letR (List.length c_7.2.2.2.2.1) fun (v_9 : Nat) =>
  (letR (List.take ((32 : Nat) - (0 : Nat)) (List.drop (0 : Nat) (List.getD c_7.2.2.2.2.1 (Int.toNat i_8) (List.replicate (32 : Nat) (0 : Int))))) fun (v_10 : (List Int)) =>
  (brR (decide (i_8 < ((v_9 : Nat) : Int)))
   (brR (Go.Pon.inR i_8 v_9)
    (brR (Go.Pon.roomy ((List.length b_6) + (List.length v_10)) (Go.Pon.Ty.int Go.IntKind.u8))
     (again_5 ((List.append b_6 v_10), ((c_7.1, (c_7.2.1, (c_7.2.2.1, (c_7.2.2.2.1, (c_7.2.2.2.2.1, c_7.2.2.2.2.2))))), ((Go.IntKind.wrap (Go.IntKind.i64) (i_8 + (1 : Int))), ()))))
     none)
    none)
   (some ((b_6, ()), ((), ((), ())))))))

noncomputable def T_ref26_claim (L : LoopD) (c_ref6_AppendUint64 : F_ref6_AppendUint64) (c_ref6_AppendUint256 : F_ref6_AppendUint256) (b_ : (List Int)) (c_ : (Int × (Int × (Int × ((List Int) × ((List (List Int)) × Unit)))))) : Option (((List Int) × Unit) × (Unit × (Unit × Unit))) :=
  (Option.bind (c_ref6_AppendUint64 (b_, (c_.1, ()))) (fun (y_0 : (((List Int) × Unit) × (Unit × (Unit × Unit)))) =>
   (Option.bind (c_ref6_AppendUint64 (y_0.1.1, (c_.2.1, ()))) (fun (y_1 : (((List Int) × Unit) × (Unit × (Unit × Unit)))) =>
    (Option.bind (c_ref6_AppendUint64 (y_1.1.1, (c_.2.2.1, ()))) (fun (y_2 : (((List Int) × Unit) × (Unit × (Unit × Unit)))) =>
     (Option.bind (c_ref6_AppendUint256 (y_2.1.1, (c_.2.2.2.1, ()))) (fun (y_3 : (((List Int) × Unit) × (Unit × (Unit × Unit)))) =>
      (Option.bind (c_ref6_AppendUint64 (y_3.1.1, ((Go.IntKind.wrap (Go.IntKind.u64) (((List.length c_.2.2.2.2.1) : Nat) : Int)), ()))) (fun (y_4 : (((List Int) × Unit) × (Unit × (Unit × Unit)))) =>
       (L _ _ (fun again x => T_ref26_claim_loop0 again x.1 x.2.1 x.2.2.1) (y_4.1.1, ((c_.1, (c_.2.1, (c_.2.2.1, (c_.2.2.2.1, (c_.2.2.2.2.1, c_.2.2.2.2.2))))), ((0 : Int), ()))))))))))))))

noncomputable def sol_ref26_claim : F_ref26_claim := fun x => T_ref26_claim bigLoop sol_ref6_AppendUint64 sol_ref6_AppendUint256 x.1 x.2.1

/-- pontage/pontageref26.Encode -/
abbrev s_ref26_Encode : Sig := ⟨[(.ro false (.pair (.int .i64) (.pair (.pair (.int .u64) (.pair (.int .u64) (.pair (.int .u64) (.pair (.arr 4 (.int .u64)) (.pair (.int .u64) (.pair (.arr 4 (.int .u64)) (.pair (.arr 4 (.int .u64)) (.pair (.int .u64) (.pair (.slice (.int .u8)) .unit))))))))) (.pair (.pair (.int .u64) (.pair (.int .u64) (.pair (.arr 4 (.int .u64)) .unit))) (.pair (.int .u64) (.pair (.int .i64) (.pair (.arr 4 (.int .u64)) (.pair (.int .u64) (.pair (.pair (.int .u64) (.pair (.int .u64) (.pair (.int .u64) (.pair (.arr 4 (.int .u64)) (.pair (.slice (.arr 32 (.int .u8))) .unit))))) .unit)))))))))], [(.own true (.int .u8)), (.ro true (.int .i64))]⟩
abbrev F_ref26_Encode := ((Int × ((Int × (Int × (Int × ((List Int) × (Int × ((List Int) × ((List Int) × (Int × ((List Int) × Unit))))))))) × ((Int × (Int × ((List Int) × Unit))) × (Int × (Int × ((List Int) × (Int × ((Int × (Int × (Int × ((List Int) × ((List (List Int)) × Unit))))) × Unit)))))))) × Unit) → Option (((List Int) × (Int × Unit)) × (Unit × Unit))

noncomputable def T_ref26_Encode (L : LoopD) (c_ref26_ValidKind : F_ref26_ValidKind) (c_ref22_Encode : F_ref22_Encode) (c_ref6_AppendBytes : F_ref6_AppendBytes) (c_ref6_AppendUint64 : F_ref6_AppendUint64) (c_ref6_AppendUint256 : F_ref6_AppendUint256) (c_ref26_claim : F_ref26_claim) (s_ : (Int × ((Int × (Int × (Int × ((List Int) × (Int × ((List Int) × ((List Int) × (Int × ((List Int) × Unit))))))))) × ((Int × (Int × ((List Int) × Unit))) × (Int × (Int × ((List Int) × (Int × ((Int × (Int × (Int × ((List Int) × ((List (List Int)) × Unit))))) × Unit))))))))) : Option (((List Int) × (Int × Unit)) × (Unit × Unit)) :=
  (Option.bind (c_ref26_ValidKind (s_.1, ())) (fun (y_0 : ((Bool × Unit) × (Unit × Unit))) =>
   (brR (!y_0.1.1)
    (some ((([] : List Int), ((17 : Int), ())), ((), ())))
    (brR (decide (s_.1 = (1 : Int)))
     (Option.bind (c_ref22_Encode (s_.2.1, ())) (fun (y_1 : (((List Int) × (Int × Unit)) × (Unit × Unit))) =>
      (brR (!(decide (y_1.1.2.1 = (0 : Int))))
       (some ((([] : List Int), (y_1.1.2.1, ())), ((), ())))
       (Option.bind (c_ref6_AppendBytes ([(Go.IntKind.wrap (Go.IntKind.u8) s_.1)], (y_1.1.1, ()))) (fun (y_2 : (((List Int) × Unit) × (Unit × (Unit × Unit)))) =>
        (some ((y_2.1.1, ((0 : Int), ())), ((), ()))))))))
     (brR (decide (s_.1 = (2 : Int)))
      (Option.bind (c_ref6_AppendUint64 ([(Go.IntKind.wrap (Go.IntKind.u8) s_.1)], (s_.2.2.1.1, ()))) (fun (y_3 : (((List Int) × Unit) × (Unit × (Unit × Unit)))) =>
       (Option.bind (c_ref6_AppendUint64 (y_3.1.1, (s_.2.2.1.2.1, ()))) (fun (y_4 : (((List Int) × Unit) × (Unit × (Unit × Unit)))) =>
        (Option.bind (c_ref6_AppendUint256 (y_4.1.1, (s_.2.2.1.2.2.1, ()))) (fun (y_5 : (((List Int) × Unit) × (Unit × (Unit × Unit)))) =>
         (some ((y_5.1.1, ((0 : Int), ())), ((), ())))))))))
      (brR (decide (s_.1 = (3 : Int)))
       (Option.bind (c_ref6_AppendUint64 ([(Go.IntKind.wrap (Go.IntKind.u8) s_.1)], (s_.2.2.2.1, ()))) (fun (y_6 : (((List Int) × Unit) × (Unit × (Unit × Unit)))) =>
        (some ((y_6.1.1, ((0 : Int), ())), ((), ())))))
       (brR (decide (s_.1 = (4 : Int)))
        (brR (decide (s_.2.2.2.2.1 < (0 : Int)))
         (some ((([] : List Int), ((2 : Int), ())), ((), ())))
         (Option.bind (c_ref6_AppendUint64 ([(Go.IntKind.wrap (Go.IntKind.u8) s_.1)], ((Go.IntKind.wrap (Go.IntKind.u64) s_.2.2.2.2.1), ()))) (fun (y_7 : (((List Int) × Unit) × (Unit × (Unit × Unit)))) =>
          (Option.bind (c_ref6_AppendUint256 (y_7.1.1, (s_.2.2.2.2.2.1, ()))) (fun (y_8 : (((List Int) × Unit) × (Unit × (Unit × Unit)))) =>
           (some ((y_8.1.1, ((0 : Int), ())), ((), ()))))))))
        (brR (decide (s_.1 = (5 : Int)))
         (Option.bind (c_ref6_AppendUint64 ([(Go.IntKind.wrap (Go.IntKind.u8) s_.1)], (s_.2.2.2.2.2.2.1, ()))) (fun (y_9 : (((List Int) × Unit) × (Unit × (Unit × Unit)))) =>
          (some ((y_9.1.1, ((0 : Int), ())), ((), ())))))
         (brR (decide (s_.1 = (6 : Int)))
          (Option.bind (c_ref6_AppendUint64 ([(Go.IntKind.wrap (Go.IntKind.u8) s_.1)], (s_.2.2.2.2.2.2.1, ()))) (fun (y_10 : (((List Int) × Unit) × (Unit × (Unit × Unit)))) =>
           (Option.bind (c_ref6_AppendUint256 (y_10.1.1, (s_.2.2.2.2.2.1, ()))) (fun (y_11 : (((List Int) × Unit) × (Unit × (Unit × Unit)))) =>
            (some ((y_11.1.1, ((0 : Int), ())), ((), ())))))))
          (brR (decide ((((List.length s_.2.2.2.2.2.2.2.1.2.2.2.2.1) : Nat) : Int) > (64 : Int)))
           (some ((([] : List Int), ((6 : Int), ())), ((), ())))
           (Option.bind (c_ref26_claim ([(Go.IntKind.wrap (Go.IntKind.u8) s_.1)], (s_.2.2.2.2.2.2.2.1, ()))) (fun (y_12 : (((List Int) × Unit) × (Unit × (Unit × Unit)))) =>
            (some ((y_12.1.1, ((0 : Int), ())), ((), ())))))))))))))))

noncomputable def sol_ref26_Encode : F_ref26_Encode := fun x => T_ref26_Encode bigLoop sol_ref26_ValidKind sol_ref22_Encode sol_ref6_AppendBytes sol_ref6_AppendUint64 sol_ref6_AppendUint256 sol_ref26_claim x.1

/-- pontage/pontageref26.readClaim -/
abbrev s_ref26_readClaim : Sig := ⟨[(.ptr (.pair (.ro false (.slice (.int .u8))) (.pair (.ro true (.int .i64)) (.pair (.ro true .bool) (.ro true .unit)))))], [(.ro false (.pair (.int .u64) (.pair (.int .u64) (.pair (.int .u64) (.pair (.arr 4 (.int .u64)) (.pair (.slice (.arr 32 (.int .u8))) .unit))))))]⟩
abbrev F_ref26_readClaim := (((List Int) × (Int × (Bool × Unit))) × Unit) → Option (((Int × (Int × (Int × ((List Int) × ((List (List Int)) × Unit))))) × Unit) × (((List Int) × (Int × (Bool × Unit))) × Unit))

noncomputable def T_ref26_readClaim_loop1 (c_ref22_Reader_Byte : F_ref22_Reader_Byte) (again_5 : (((List Int) × (Int × (Bool × Unit))) × ((Int × (Int × (Int × ((List Int) × ((List (List Int)) × Unit))))) × ((Int × (Int × (Int × ((List Int) × ((List (List Int)) × Unit))))) × (Int × (Int × Unit))))) → Option (((Int × (Int × (Int × ((List Int) × ((List (List Int)) × Unit))))) × Unit) × (((List Int) × (Int × (Bool × Unit))) × Unit))) (again_11 : (((List Int) × (Int × (Bool × Unit))) × ((Int × (Int × (Int × ((List Int) × ((List (List Int)) × Unit))))) × ((Int × (Int × (Int × ((List Int) × ((List (List Int)) × Unit))))) × (Int × (Int × ((List Int) × (Int × Unit))))))) → Option (((Int × (Int × (Int × ((List Int) × ((List (List Int)) × Unit))))) × Unit) × (((List Int) × (Int × (Bool × Unit))) × Unit))) (r_12 : ((List Int) × (Int × (Bool × Unit)))) (t2_13 : (Int × (Int × (Int × ((List Int) × ((List (List Int)) × Unit)))))) (c_14 : (Int × (Int × (Int × ((List Int) × ((List (List Int)) × Unit)))))) (n_15 : Int) (i_16 : Int) (h_17 : (List Int)) (k_18 : Int) : Option (((Int × (Int × (Int × ((List Int) × ((List (List Int)) × Unit))))) × Unit) × (((List Int) × (Int × (Bool × Unit))) × Unit)) :=
  (brR (decide (k_18 < (32 : Int)))
   (Option.bind (c_ref22_Reader_Byte ((r_12.1, (r_12.2.1, (r_12.2.2.1, r_12.2.2.2))), ())) (fun (y_19 : ((Int × Unit) × (((List Int) × (Int × (Bool × Unit))) × Unit))) =>
    (brR (Go.Pon.inR k_18 (32 : Nat))
     (again_11 ((y_19.2.1.1, (y_19.2.1.2.1, (y_19.2.1.2.2.1, y_19.2.1.2.2.2))), ((t2_13.1, (t2_13.2.1, (t2_13.2.2.1, (t2_13.2.2.2.1, (t2_13.2.2.2.2.1, t2_13.2.2.2.2.2))))), ((c_14.1, (c_14.2.1, (c_14.2.2.1, (c_14.2.2.2.1, (c_14.2.2.2.2.1, c_14.2.2.2.2.2))))), (n_15, (i_16, ((List.set h_17 (Int.toNat k_18) y_19.1.1), ((Go.IntKind.wrap (Go.IntKind.i64) (k_18 + (1 : Int))), ()))))))))
     none)))
   (brR (Go.Pon.roomy ((List.length c_14.2.2.2.2.1) + (1 : Nat)) (Go.Pon.Ty.arr 32 (Go.Pon.Ty.int Go.IntKind.u8)))
    (again_5 ((r_12.1, (r_12.2.1, (r_12.2.2.1, r_12.2.2.2))), ((t2_13.1, (t2_13.2.1, (t2_13.2.2.1, (t2_13.2.2.2.1, (t2_13.2.2.2.2.1, t2_13.2.2.2.2.2))))), ((c_14.1, (c_14.2.1, (c_14.2.2.1, (c_14.2.2.2.1, ((List.append c_14.2.2.2.2.1 [h_17]), c_14.2.2.2.2.2))))), (n_15, ((Go.IntKind.wrap (Go.IntKind.i64) (i_16 + (1 : Int))), ()))))))
    none))

noncomputable def T_ref26_readClaim_loop0 (L : LoopD) (c_ref22_Reader_Byte : F_ref22_Reader_Byte) (again_5 : (((List Int) × (Int × (Bool × Unit))) × ((Int × (Int × (Int × ((List Int) × ((List (List Int)) × Unit))))) × ((Int × (Int × (Int × ((List Int) × ((List (List Int)) × Unit))))) × (Int × (Int × Unit))))) → Option (((Int × (Int × (Int × ((List Int) × ((List (List Int)) × Unit))))) × Unit) × (((List Int) × (Int × (Bool × Unit))) × Unit))) (r_6 : ((List Int) × (Int × (Bool × Unit)))) (t2_7 : (Int × (Int × (Int × ((List Int) × ((List (List Int)) × Unit)))))) (c_8 : (Int × (Int × (Int × ((List Int) × ((List (List Int)) × Unit)))))) (n_9 : Int) (i_10 : Int) : Option (((Int × (Int × (Int × ((List Int) × ((List (List Int)) × Unit))))) × Unit) × (((List Int) × (Int × (Bool × Unit))) × Unit)) :=
  (brR (decide (i_10 < (Go.IntKind.wrap (Go.IntKind.i64) n_9)))
   (L _ _ (fun again x => T_ref26_readClaim_loop1 c_ref22_Reader_Byte again_5 again x.1 x.2.1 x.2.2.1 x.2.2.2.1 x.2.2.2.2.1 x.2.2.2.2.2.1 x.2.2.2.2.2.2.1) ((r_6.1, (r_6.2.1, (r_6.2.2.1, r_6.2.2.2))), ((t2_7.1, (t2_7.2.1, (t2_7.2.2.1, (t2_7.2.2.2.1, (t2_7.2.2.2.2.1, t2_7.2.2.2.2.2))))), ((c_8.1, (c_8.2.1, (c_8.2.2.1, (c_8.2.2.2.1, (c_8.2.2.2.2.1, c_8.2.2.2.2.2))))), (n_9, (i_10, ((List.replicate (32 : Nat) (0 : Int)), ((0 : Int), ()))))))))
   (some (((c_8.1, (c_8.2.1, (c_8.2.2.1, (c_8.2.2.2.1, (c_8.2.2.2.2.1, c_8.2.2.2.2.2))))), ()), ((r_6.1, (r_6.2.1, (r_6.2.2.1, r_6.2.2.2))), ()))))

noncomputable def T_ref26_readClaim (L : LoopD) (c_ref22_Reader_Uint64 : F_ref22_Reader_Uint64) (c_ref22_Reader_Uint256 : F_ref22_Reader_Uint256) (c_ref22_Reader_Byte : F_ref22_Reader_Byte) (r_ : ((List Int) × (Int × (Bool × Unit)))) : Option (((Int × (Int × (Int × ((List Int) × ((List (List Int)) × Unit))))) × Unit) × (((List Int) × (Int × (Bool × Unit))) × Unit)) :=
  (Option.bind (c_ref22_Reader_Uint64 ((r_.1, (r_.2.1, (r_.2.2.1, r_.2.2.2))), ())) (fun (y_0 : ((Int × Unit) × (((List Int) × (Int × (Bool × Unit))) × Unit))) =>
   (Option.bind (c_ref22_Reader_Uint64 ((y_0.2.1.1, (y_0.2.1.2.1, (y_0.2.1.2.2.1, y_0.2.1.2.2.2))), ())) (fun (y_1 : ((Int × Unit) × (((List Int) × (Int × (Bool × Unit))) × Unit))) =>
    (Option.bind (c_ref22_Reader_Uint64 ((y_1.2.1.1, (y_1.2.1.2.1, (y_1.2.1.2.2.1, y_1.2.1.2.2.2))), ())) (fun (y_2 : ((Int × Unit) × (((List Int) × (Int × (Bool × Unit))) × Unit))) =>
     (Option.bind (c_ref22_Reader_Uint256 ((y_2.2.1.1, (y_2.2.1.2.1, (y_2.2.1.2.2.1, y_2.2.1.2.2.2))), ())) (fun (y_3 : (((List Int) × Unit) × (((List Int) × (Int × (Bool × Unit))) × Unit))) =>
      (Option.bind (c_ref22_Reader_Uint64 ((y_3.2.1.1, (y_3.2.1.2.1, (y_3.2.1.2.2.1, y_3.2.1.2.2.2))), ())) (fun (y_4 : ((Int × Unit) × (((List Int) × (Int × (Bool × Unit))) × Unit))) =>
       (brR (decide (y_4.1.1 > (64 : Int)))
        (some (((y_0.1.1, (y_1.1.1, (y_2.1.1, (y_3.1.1, (([] : List (List Int)), ()))))), ()), ((y_4.2.1.1, (y_4.2.1.2.1, (true, y_4.2.1.2.2.2))), ())))
        (L _ _ (fun again x => T_ref26_readClaim_loop0 L c_ref22_Reader_Byte again x.1 x.2.1 x.2.2.1 x.2.2.2.1 x.2.2.2.2.1) ((y_4.2.1.1, (y_4.2.1.2.1, (y_4.2.1.2.2.1, y_4.2.1.2.2.2))), (((0 : Int), ((0 : Int), ((0 : Int), ([(0 : Int), (0 : Int), (0 : Int), (0 : Int)], (([] : List (List Int)), ()))))), ((y_0.1.1, (y_1.1.1, (y_2.1.1, (y_3.1.1, (([] : List (List Int)), ()))))), (y_4.1.1, ((0 : Int), ())))))))))))))))))

noncomputable def sol_ref26_readClaim : F_ref26_readClaim := fun x => T_ref26_readClaim bigLoop sol_ref22_Reader_Uint64 sol_ref22_Reader_Uint256 sol_ref22_Reader_Byte x.1

/-- pontage/pontageref26.Decode -/
abbrev s_ref26_Decode : Sig := ⟨[(.ro false (.slice (.int .u8)))], [(.ro false (.pair (.int .i64) (.pair (.pair (.int .u64) (.pair (.int .u64) (.pair (.int .u64) (.pair (.arr 4 (.int .u64)) (.pair (.int .u64) (.pair (.arr 4 (.int .u64)) (.pair (.arr 4 (.int .u64)) (.pair (.int .u64) (.pair (.slice (.int .u8)) .unit))))))))) (.pair (.pair (.int .u64) (.pair (.int .u64) (.pair (.arr 4 (.int .u64)) .unit))) (.pair (.int .u64) (.pair (.int .i64) (.pair (.arr 4 (.int .u64)) (.pair (.int .u64) (.pair (.pair (.int .u64) (.pair (.int .u64) (.pair (.int .u64) (.pair (.arr 4 (.int .u64)) (.pair (.slice (.arr 32 (.int .u8))) .unit))))) .unit))))))))), (.ro true (.int .i64))]⟩
abbrev F_ref26_Decode := ((List Int) × Unit) → Option (((Int × ((Int × (Int × (Int × ((List Int) × (Int × ((List Int) × ((List Int) × (Int × ((List Int) × Unit))))))))) × ((Int × (Int × ((List Int) × Unit))) × (Int × (Int × ((List Int) × (Int × ((Int × (Int × (Int × ((List Int) × ((List (List Int)) × Unit))))) × Unit)))))))) × (Int × Unit)) × (Unit × Unit))

noncomputable def T_ref26_Decode (L : LoopD) (c_ref22_Reader_Byte : F_ref22_Reader_Byte) (c_ref22_Reader_Bytes : F_ref22_Reader_Bytes) (c_ref22_Decode : F_ref22_Decode) (c_ref22_Reader_Done : F_ref22_Reader_Done) (c_ref22_Reader_Uint64 : F_ref22_Reader_Uint64) (c_ref22_Reader_Uint256 : F_ref22_Reader_Uint256) (c_ref26_readClaim : F_ref26_readClaim) (b_ : (List Int)) : Option (((Int × ((Int × (Int × (Int × ((List Int) × (Int × ((List Int) × ((List Int) × (Int × ((List Int) × Unit))))))))) × ((Int × (Int × ((List Int) × Unit))) × (Int × (Int × ((List Int) × (Int × ((Int × (Int × (Int × ((List Int) × ((List (List Int)) × Unit))))) × Unit)))))))) × (Int × Unit)) × (Unit × Unit)) :=
  (brR (decide ((((List.length b_) : Nat) : Int) > (8192 : Int)))
   (some ((((0 : Int), (((0 : Int), ((0 : Int), ((0 : Int), ([(0 : Int), (0 : Int), (0 : Int), (0 : Int)], ((0 : Int), ([(0 : Int), (0 : Int), (0 : Int), (0 : Int)], ([(0 : Int), (0 : Int), (0 : Int), (0 : Int)], ((0 : Int), (([] : List Int), ()))))))))), (((0 : Int), ((0 : Int), ([(0 : Int), (0 : Int), (0 : Int), (0 : Int)], ()))), ((0 : Int), ((0 : Int), ([(0 : Int), (0 : Int), (0 : Int), (0 : Int)], ((0 : Int), (((0 : Int), ((0 : Int), ((0 : Int), ([(0 : Int), (0 : Int), (0 : Int), (0 : Int)], (([] : List (List Int)), ()))))), ())))))))), ((6 : Int), ())), ((), ())))
   (Option.bind (c_ref22_Reader_Byte ((b_, ((0 : Int), (false, ()))), ())) (fun (y_0 : ((Int × Unit) × (((List Int) × (Int × (Bool × Unit))) × Unit))) =>
    (brR (decide ((Go.IntKind.wrap (Go.IntKind.i64) y_0.1.1) = (1 : Int)))
     (Option.bind (c_ref22_Reader_Bytes ((y_0.2.1.1, (y_0.2.1.2.1, (y_0.2.1.2.2.1, y_0.2.1.2.2.2))), ())) (fun (y_1 : (((List Int) × Unit) × (((List Int) × (Int × (Bool × Unit))) × Unit))) =>
      (Option.bind (c_ref22_Decode (y_1.1.1, ())) (fun (y_2 : (((Int × (Int × (Int × ((List Int) × (Int × ((List Int) × ((List Int) × (Int × ((List Int) × Unit))))))))) × (Int × Unit)) × (Unit × Unit))) =>
       (brR (!(decide (y_2.1.2.1 = (0 : Int))))
        (some ((((0 : Int), (((0 : Int), ((0 : Int), ((0 : Int), ([(0 : Int), (0 : Int), (0 : Int), (0 : Int)], ((0 : Int), ([(0 : Int), (0 : Int), (0 : Int), (0 : Int)], ([(0 : Int), (0 : Int), (0 : Int), (0 : Int)], ((0 : Int), (([] : List Int), ()))))))))), (((0 : Int), ((0 : Int), ([(0 : Int), (0 : Int), (0 : Int), (0 : Int)], ()))), ((0 : Int), ((0 : Int), ([(0 : Int), (0 : Int), (0 : Int), (0 : Int)], ((0 : Int), (((0 : Int), ((0 : Int), ((0 : Int), ([(0 : Int), (0 : Int), (0 : Int), (0 : Int)], (([] : List (List Int)), ()))))), ())))))))), ((3 : Int), ())), ((), ())))
        (Option.bind (c_ref22_Reader_Done ((y_1.2.1.1, (y_1.2.1.2.1, (y_1.2.1.2.2.1, y_1.2.1.2.2.2))), ())) (fun (y_3 : ((Bool × Unit) × (((List Int) × (Int × (Bool × Unit))) × Unit))) =>
         (brR (!y_3.1.1)
          (some ((((0 : Int), (((0 : Int), ((0 : Int), ((0 : Int), ([(0 : Int), (0 : Int), (0 : Int), (0 : Int)], ((0 : Int), ([(0 : Int), (0 : Int), (0 : Int), (0 : Int)], ([(0 : Int), (0 : Int), (0 : Int), (0 : Int)], ((0 : Int), (([] : List Int), ()))))))))), (((0 : Int), ((0 : Int), ([(0 : Int), (0 : Int), (0 : Int), (0 : Int)], ()))), ((0 : Int), ((0 : Int), ([(0 : Int), (0 : Int), (0 : Int), (0 : Int)], ((0 : Int), (((0 : Int), ((0 : Int), ((0 : Int), ([(0 : Int), (0 : Int), (0 : Int), (0 : Int)], (([] : List (List Int)), ()))))), ())))))))), ((3 : Int), ())), ((), ())))
          (some ((((Go.IntKind.wrap (Go.IntKind.i64) y_0.1.1), (y_2.1.1, (((0 : Int), ((0 : Int), ([(0 : Int), (0 : Int), (0 : Int), (0 : Int)], ()))), ((0 : Int), ((0 : Int), ([(0 : Int), (0 : Int), (0 : Int), (0 : Int)], ((0 : Int), (((0 : Int), ((0 : Int), ((0 : Int), ([(0 : Int), (0 : Int), (0 : Int), (0 : Int)], (([] : List (List Int)), ()))))), ())))))))), ((0 : Int), ())), ((), ())))))))))))
     (brR (decide ((Go.IntKind.wrap (Go.IntKind.i64) y_0.1.1) = (2 : Int)))
      (Option.bind (c_ref22_Reader_Uint64 ((y_0.2.1.1, (y_0.2.1.2.1, (y_0.2.1.2.2.1, y_0.2.1.2.2.2))), ())) (fun (y_4 : ((Int × Unit) × (((List Int) × (Int × (Bool × Unit))) × Unit))) =>
       (Option.bind (c_ref22_Reader_Uint64 ((y_4.2.1.1, (y_4.2.1.2.1, (y_4.2.1.2.2.1, y_4.2.1.2.2.2))), ())) (fun (y_5 : ((Int × Unit) × (((List Int) × (Int × (Bool × Unit))) × Unit))) =>
        (Option.bind (c_ref22_Reader_Uint256 ((y_5.2.1.1, (y_5.2.1.2.1, (y_5.2.1.2.2.1, y_5.2.1.2.2.2))), ())) (fun (y_6 : (((List Int) × Unit) × (((List Int) × (Int × (Bool × Unit))) × Unit))) =>
         (Option.bind (c_ref22_Reader_Done ((y_6.2.1.1, (y_6.2.1.2.1, (y_6.2.1.2.2.1, y_6.2.1.2.2.2))), ())) (fun (y_7 : ((Bool × Unit) × (((List Int) × (Int × (Bool × Unit))) × Unit))) =>
          (brR (!y_7.1.1)
           (some ((((0 : Int), (((0 : Int), ((0 : Int), ((0 : Int), ([(0 : Int), (0 : Int), (0 : Int), (0 : Int)], ((0 : Int), ([(0 : Int), (0 : Int), (0 : Int), (0 : Int)], ([(0 : Int), (0 : Int), (0 : Int), (0 : Int)], ((0 : Int), (([] : List Int), ()))))))))), (((0 : Int), ((0 : Int), ([(0 : Int), (0 : Int), (0 : Int), (0 : Int)], ()))), ((0 : Int), ((0 : Int), ([(0 : Int), (0 : Int), (0 : Int), (0 : Int)], ((0 : Int), (((0 : Int), ((0 : Int), ((0 : Int), ([(0 : Int), (0 : Int), (0 : Int), (0 : Int)], (([] : List (List Int)), ()))))), ())))))))), ((3 : Int), ())), ((), ())))
           (some ((((Go.IntKind.wrap (Go.IntKind.i64) y_0.1.1), (((0 : Int), ((0 : Int), ((0 : Int), ([(0 : Int), (0 : Int), (0 : Int), (0 : Int)], ((0 : Int), ([(0 : Int), (0 : Int), (0 : Int), (0 : Int)], ([(0 : Int), (0 : Int), (0 : Int), (0 : Int)], ((0 : Int), (([] : List Int), ()))))))))), ((y_4.1.1, (y_5.1.1, (y_6.1.1, ()))), ((0 : Int), ((0 : Int), ([(0 : Int), (0 : Int), (0 : Int), (0 : Int)], ((0 : Int), (((0 : Int), ((0 : Int), ((0 : Int), ([(0 : Int), (0 : Int), (0 : Int), (0 : Int)], (([] : List (List Int)), ()))))), ())))))))), ((0 : Int), ())), ((), ()))))))))))))
      (brR (decide ((Go.IntKind.wrap (Go.IntKind.i64) y_0.1.1) = (3 : Int)))
       (Option.bind (c_ref22_Reader_Uint64 ((y_0.2.1.1, (y_0.2.1.2.1, (y_0.2.1.2.2.1, y_0.2.1.2.2.2))), ())) (fun (y_8 : ((Int × Unit) × (((List Int) × (Int × (Bool × Unit))) × Unit))) =>
        (Option.bind (c_ref22_Reader_Done ((y_8.2.1.1, (y_8.2.1.2.1, (y_8.2.1.2.2.1, y_8.2.1.2.2.2))), ())) (fun (y_9 : ((Bool × Unit) × (((List Int) × (Int × (Bool × Unit))) × Unit))) =>
         (brR (!y_9.1.1)
          (some ((((0 : Int), (((0 : Int), ((0 : Int), ((0 : Int), ([(0 : Int), (0 : Int), (0 : Int), (0 : Int)], ((0 : Int), ([(0 : Int), (0 : Int), (0 : Int), (0 : Int)], ([(0 : Int), (0 : Int), (0 : Int), (0 : Int)], ((0 : Int), (([] : List Int), ()))))))))), (((0 : Int), ((0 : Int), ([(0 : Int), (0 : Int), (0 : Int), (0 : Int)], ()))), ((0 : Int), ((0 : Int), ([(0 : Int), (0 : Int), (0 : Int), (0 : Int)], ((0 : Int), (((0 : Int), ((0 : Int), ((0 : Int), ([(0 : Int), (0 : Int), (0 : Int), (0 : Int)], (([] : List (List Int)), ()))))), ())))))))), ((3 : Int), ())), ((), ())))
          (some ((((Go.IntKind.wrap (Go.IntKind.i64) y_0.1.1), (((0 : Int), ((0 : Int), ((0 : Int), ([(0 : Int), (0 : Int), (0 : Int), (0 : Int)], ((0 : Int), ([(0 : Int), (0 : Int), (0 : Int), (0 : Int)], ([(0 : Int), (0 : Int), (0 : Int), (0 : Int)], ((0 : Int), (([] : List Int), ()))))))))), (((0 : Int), ((0 : Int), ([(0 : Int), (0 : Int), (0 : Int), (0 : Int)], ()))), (y_8.1.1, ((0 : Int), ([(0 : Int), (0 : Int), (0 : Int), (0 : Int)], ((0 : Int), (((0 : Int), ((0 : Int), ((0 : Int), ([(0 : Int), (0 : Int), (0 : Int), (0 : Int)], (([] : List (List Int)), ()))))), ())))))))), ((0 : Int), ())), ((), ()))))))))
       (brR (decide ((Go.IntKind.wrap (Go.IntKind.i64) y_0.1.1) = (4 : Int)))
        (Option.bind (c_ref22_Reader_Uint64 ((y_0.2.1.1, (y_0.2.1.2.1, (y_0.2.1.2.2.1, y_0.2.1.2.2.2))), ())) (fun (y_10 : ((Int × Unit) × (((List Int) × (Int × (Bool × Unit))) × Unit))) =>
         (brR y_10.2.1.2.2.1
          (Option.bind (c_ref22_Reader_Uint256 ((y_10.2.1.1, (y_10.2.1.2.1, (true, y_10.2.1.2.2.2))), ())) (fun (y_11 : (((List Int) × Unit) × (((List Int) × (Int × (Bool × Unit))) × Unit))) =>
           (Option.bind (c_ref22_Reader_Done ((y_11.2.1.1, (y_11.2.1.2.1, (y_11.2.1.2.2.1, y_11.2.1.2.2.2))), ())) (fun (y_12 : ((Bool × Unit) × (((List Int) × (Int × (Bool × Unit))) × Unit))) =>
            (brR (!y_12.1.1)
             (some ((((0 : Int), (((0 : Int), ((0 : Int), ((0 : Int), ([(0 : Int), (0 : Int), (0 : Int), (0 : Int)], ((0 : Int), ([(0 : Int), (0 : Int), (0 : Int), (0 : Int)], ([(0 : Int), (0 : Int), (0 : Int), (0 : Int)], ((0 : Int), (([] : List Int), ()))))))))), (((0 : Int), ((0 : Int), ([(0 : Int), (0 : Int), (0 : Int), (0 : Int)], ()))), ((0 : Int), ((0 : Int), ([(0 : Int), (0 : Int), (0 : Int), (0 : Int)], ((0 : Int), (((0 : Int), ((0 : Int), ((0 : Int), ([(0 : Int), (0 : Int), (0 : Int), (0 : Int)], (([] : List (List Int)), ()))))), ())))))))), ((3 : Int), ())), ((), ())))
             (some ((((Go.IntKind.wrap (Go.IntKind.i64) y_0.1.1), (((0 : Int), ((0 : Int), ((0 : Int), ([(0 : Int), (0 : Int), (0 : Int), (0 : Int)], ((0 : Int), ([(0 : Int), (0 : Int), (0 : Int), (0 : Int)], ([(0 : Int), (0 : Int), (0 : Int), (0 : Int)], ((0 : Int), (([] : List Int), ()))))))))), (((0 : Int), ((0 : Int), ([(0 : Int), (0 : Int), (0 : Int), (0 : Int)], ()))), ((0 : Int), ((Go.IntKind.wrap (Go.IntKind.i64) y_10.1.1), (y_11.1.1, ((0 : Int), (((0 : Int), ((0 : Int), ((0 : Int), ([(0 : Int), (0 : Int), (0 : Int), (0 : Int)], (([] : List (List Int)), ()))))), ())))))))), ((0 : Int), ())), ((), ()))))))))
          (Option.bind (c_ref22_Reader_Uint256 ((y_10.2.1.1, (y_10.2.1.2.1, ((decide (y_10.1.1 > (9223372036854775807 : Int))), y_10.2.1.2.2.2))), ())) (fun (y_13 : (((List Int) × Unit) × (((List Int) × (Int × (Bool × Unit))) × Unit))) =>
           (Option.bind (c_ref22_Reader_Done ((y_13.2.1.1, (y_13.2.1.2.1, (y_13.2.1.2.2.1, y_13.2.1.2.2.2))), ())) (fun (y_14 : ((Bool × Unit) × (((List Int) × (Int × (Bool × Unit))) × Unit))) =>
            (brR (!y_14.1.1)
             (some ((((0 : Int), (((0 : Int), ((0 : Int), ((0 : Int), ([(0 : Int), (0 : Int), (0 : Int), (0 : Int)], ((0 : Int), ([(0 : Int), (0 : Int), (0 : Int), (0 : Int)], ([(0 : Int), (0 : Int), (0 : Int), (0 : Int)], ((0 : Int), (([] : List Int), ()))))))))), (((0 : Int), ((0 : Int), ([(0 : Int), (0 : Int), (0 : Int), (0 : Int)], ()))), ((0 : Int), ((0 : Int), ([(0 : Int), (0 : Int), (0 : Int), (0 : Int)], ((0 : Int), (((0 : Int), ((0 : Int), ((0 : Int), ([(0 : Int), (0 : Int), (0 : Int), (0 : Int)], (([] : List (List Int)), ()))))), ())))))))), ((3 : Int), ())), ((), ())))
             (some ((((Go.IntKind.wrap (Go.IntKind.i64) y_0.1.1), (((0 : Int), ((0 : Int), ((0 : Int), ([(0 : Int), (0 : Int), (0 : Int), (0 : Int)], ((0 : Int), ([(0 : Int), (0 : Int), (0 : Int), (0 : Int)], ([(0 : Int), (0 : Int), (0 : Int), (0 : Int)], ((0 : Int), (([] : List Int), ()))))))))), (((0 : Int), ((0 : Int), ([(0 : Int), (0 : Int), (0 : Int), (0 : Int)], ()))), ((0 : Int), ((Go.IntKind.wrap (Go.IntKind.i64) y_10.1.1), (y_13.1.1, ((0 : Int), (((0 : Int), ((0 : Int), ((0 : Int), ([(0 : Int), (0 : Int), (0 : Int), (0 : Int)], (([] : List (List Int)), ()))))), ())))))))), ((0 : Int), ())), ((), ())))))))))))
        (brR (decide ((Go.IntKind.wrap (Go.IntKind.i64) y_0.1.1) = (5 : Int)))
         (Option.bind (c_ref22_Reader_Uint64 ((y_0.2.1.1, (y_0.2.1.2.1, (y_0.2.1.2.2.1, y_0.2.1.2.2.2))), ())) (fun (y_15 : ((Int × Unit) × (((List Int) × (Int × (Bool × Unit))) × Unit))) =>
          (Option.bind (c_ref22_Reader_Done ((y_15.2.1.1, (y_15.2.1.2.1, (y_15.2.1.2.2.1, y_15.2.1.2.2.2))), ())) (fun (y_16 : ((Bool × Unit) × (((List Int) × (Int × (Bool × Unit))) × Unit))) =>
           (brR (!y_16.1.1)
            (some ((((0 : Int), (((0 : Int), ((0 : Int), ((0 : Int), ([(0 : Int), (0 : Int), (0 : Int), (0 : Int)], ((0 : Int), ([(0 : Int), (0 : Int), (0 : Int), (0 : Int)], ([(0 : Int), (0 : Int), (0 : Int), (0 : Int)], ((0 : Int), (([] : List Int), ()))))))))), (((0 : Int), ((0 : Int), ([(0 : Int), (0 : Int), (0 : Int), (0 : Int)], ()))), ((0 : Int), ((0 : Int), ([(0 : Int), (0 : Int), (0 : Int), (0 : Int)], ((0 : Int), (((0 : Int), ((0 : Int), ((0 : Int), ([(0 : Int), (0 : Int), (0 : Int), (0 : Int)], (([] : List (List Int)), ()))))), ())))))))), ((3 : Int), ())), ((), ())))
            (some ((((Go.IntKind.wrap (Go.IntKind.i64) y_0.1.1), (((0 : Int), ((0 : Int), ((0 : Int), ([(0 : Int), (0 : Int), (0 : Int), (0 : Int)], ((0 : Int), ([(0 : Int), (0 : Int), (0 : Int), (0 : Int)], ([(0 : Int), (0 : Int), (0 : Int), (0 : Int)], ((0 : Int), (([] : List Int), ()))))))))), (((0 : Int), ((0 : Int), ([(0 : Int), (0 : Int), (0 : Int), (0 : Int)], ()))), ((0 : Int), ((0 : Int), ([(0 : Int), (0 : Int), (0 : Int), (0 : Int)], (y_15.1.1, (((0 : Int), ((0 : Int), ((0 : Int), ([(0 : Int), (0 : Int), (0 : Int), (0 : Int)], (([] : List (List Int)), ()))))), ())))))))), ((0 : Int), ())), ((), ()))))))))
         (brR (decide ((Go.IntKind.wrap (Go.IntKind.i64) y_0.1.1) = (6 : Int)))
          (Option.bind (c_ref22_Reader_Uint64 ((y_0.2.1.1, (y_0.2.1.2.1, (y_0.2.1.2.2.1, y_0.2.1.2.2.2))), ())) (fun (y_17 : ((Int × Unit) × (((List Int) × (Int × (Bool × Unit))) × Unit))) =>
           (Option.bind (c_ref22_Reader_Uint256 ((y_17.2.1.1, (y_17.2.1.2.1, (y_17.2.1.2.2.1, y_17.2.1.2.2.2))), ())) (fun (y_18 : (((List Int) × Unit) × (((List Int) × (Int × (Bool × Unit))) × Unit))) =>
            (Option.bind (c_ref22_Reader_Done ((y_18.2.1.1, (y_18.2.1.2.1, (y_18.2.1.2.2.1, y_18.2.1.2.2.2))), ())) (fun (y_19 : ((Bool × Unit) × (((List Int) × (Int × (Bool × Unit))) × Unit))) =>
             (brR (!y_19.1.1)
              (some ((((0 : Int), (((0 : Int), ((0 : Int), ((0 : Int), ([(0 : Int), (0 : Int), (0 : Int), (0 : Int)], ((0 : Int), ([(0 : Int), (0 : Int), (0 : Int), (0 : Int)], ([(0 : Int), (0 : Int), (0 : Int), (0 : Int)], ((0 : Int), (([] : List Int), ()))))))))), (((0 : Int), ((0 : Int), ([(0 : Int), (0 : Int), (0 : Int), (0 : Int)], ()))), ((0 : Int), ((0 : Int), ([(0 : Int), (0 : Int), (0 : Int), (0 : Int)], ((0 : Int), (((0 : Int), ((0 : Int), ((0 : Int), ([(0 : Int), (0 : Int), (0 : Int), (0 : Int)], (([] : List (List Int)), ()))))), ())))))))), ((3 : Int), ())), ((), ())))
              (some ((((Go.IntKind.wrap (Go.IntKind.i64) y_0.1.1), (((0 : Int), ((0 : Int), ((0 : Int), ([(0 : Int), (0 : Int), (0 : Int), (0 : Int)], ((0 : Int), ([(0 : Int), (0 : Int), (0 : Int), (0 : Int)], ([(0 : Int), (0 : Int), (0 : Int), (0 : Int)], ((0 : Int), (([] : List Int), ()))))))))), (((0 : Int), ((0 : Int), ([(0 : Int), (0 : Int), (0 : Int), (0 : Int)], ()))), ((0 : Int), ((0 : Int), (y_18.1.1, (y_17.1.1, (((0 : Int), ((0 : Int), ((0 : Int), ([(0 : Int), (0 : Int), (0 : Int), (0 : Int)], (([] : List (List Int)), ()))))), ())))))))), ((0 : Int), ())), ((), ()))))))))))
          (brR (decide ((Go.IntKind.wrap (Go.IntKind.i64) y_0.1.1) = (7 : Int)))
           (Option.bind (c_ref26_readClaim ((y_0.2.1.1, (y_0.2.1.2.1, (y_0.2.1.2.2.1, y_0.2.1.2.2.2))), ())) (fun (y_20 : (((Int × (Int × (Int × ((List Int) × ((List (List Int)) × Unit))))) × Unit) × (((List Int) × (Int × (Bool × Unit))) × Unit))) =>
            (Option.bind (c_ref22_Reader_Done ((y_20.2.1.1, (y_20.2.1.2.1, (y_20.2.1.2.2.1, y_20.2.1.2.2.2))), ())) (fun (y_21 : ((Bool × Unit) × (((List Int) × (Int × (Bool × Unit))) × Unit))) =>
             (brR (!y_21.1.1)
              (some ((((0 : Int), (((0 : Int), ((0 : Int), ((0 : Int), ([(0 : Int), (0 : Int), (0 : Int), (0 : Int)], ((0 : Int), ([(0 : Int), (0 : Int), (0 : Int), (0 : Int)], ([(0 : Int), (0 : Int), (0 : Int), (0 : Int)], ((0 : Int), (([] : List Int), ()))))))))), (((0 : Int), ((0 : Int), ([(0 : Int), (0 : Int), (0 : Int), (0 : Int)], ()))), ((0 : Int), ((0 : Int), ([(0 : Int), (0 : Int), (0 : Int), (0 : Int)], ((0 : Int), (((0 : Int), ((0 : Int), ((0 : Int), ([(0 : Int), (0 : Int), (0 : Int), (0 : Int)], (([] : List (List Int)), ()))))), ())))))))), ((3 : Int), ())), ((), ())))
              (some ((((Go.IntKind.wrap (Go.IntKind.i64) y_0.1.1), (((0 : Int), ((0 : Int), ((0 : Int), ([(0 : Int), (0 : Int), (0 : Int), (0 : Int)], ((0 : Int), ([(0 : Int), (0 : Int), (0 : Int), (0 : Int)], ([(0 : Int), (0 : Int), (0 : Int), (0 : Int)], ((0 : Int), (([] : List Int), ()))))))))), (((0 : Int), ((0 : Int), ([(0 : Int), (0 : Int), (0 : Int), (0 : Int)], ()))), ((0 : Int), ((0 : Int), ([(0 : Int), (0 : Int), (0 : Int), (0 : Int)], ((0 : Int), (y_20.1.1, ())))))))), ((0 : Int), ())), ((), ()))))))))
           (some ((((0 : Int), (((0 : Int), ((0 : Int), ((0 : Int), ([(0 : Int), (0 : Int), (0 : Int), (0 : Int)], ((0 : Int), ([(0 : Int), (0 : Int), (0 : Int), (0 : Int)], ([(0 : Int), (0 : Int), (0 : Int), (0 : Int)], ((0 : Int), (([] : List Int), ()))))))))), (((0 : Int), ((0 : Int), ([(0 : Int), (0 : Int), (0 : Int), (0 : Int)], ()))), ((0 : Int), ((0 : Int), ([(0 : Int), (0 : Int), (0 : Int), (0 : Int)], ((0 : Int), (((0 : Int), ((0 : Int), ((0 : Int), ([(0 : Int), (0 : Int), (0 : Int), (0 : Int)], (([] : List (List Int)), ()))))), ())))))))), ((3 : Int), ())), ((), ())))))))))))))

noncomputable def sol_ref26_Decode : F_ref26_Decode := fun x => T_ref26_Decode bigLoop sol_ref22_Reader_Byte sol_ref22_Reader_Bytes sol_ref22_Decode sol_ref22_Reader_Done sol_ref22_Reader_Uint64 sol_ref22_Reader_Uint256 sol_ref26_readClaim x.1

/-- pontage/pontageref26.Canonical -/
abbrev s_ref26_Canonical : Sig := ⟨[(.ro false (.pair (.int .i64) (.pair (.pair (.int .u64) (.pair (.int .u64) (.pair (.int .u64) (.pair (.arr 4 (.int .u64)) (.pair (.int .u64) (.pair (.arr 4 (.int .u64)) (.pair (.arr 4 (.int .u64)) (.pair (.int .u64) (.pair (.slice (.int .u8)) .unit))))))))) (.pair (.pair (.int .u64) (.pair (.int .u64) (.pair (.arr 4 (.int .u64)) .unit))) (.pair (.int .u64) (.pair (.int .i64) (.pair (.arr 4 (.int .u64)) (.pair (.int .u64) (.pair (.pair (.int .u64) (.pair (.int .u64) (.pair (.int .u64) (.pair (.arr 4 (.int .u64)) (.pair (.slice (.arr 32 (.int .u8))) .unit))))) .unit)))))))))], [(.ro false (.pair (.int .i64) (.pair (.pair (.int .u64) (.pair (.int .u64) (.pair (.int .u64) (.pair (.arr 4 (.int .u64)) (.pair (.int .u64) (.pair (.arr 4 (.int .u64)) (.pair (.arr 4 (.int .u64)) (.pair (.int .u64) (.pair (.slice (.int .u8)) .unit))))))))) (.pair (.pair (.int .u64) (.pair (.int .u64) (.pair (.arr 4 (.int .u64)) .unit))) (.pair (.int .u64) (.pair (.int .i64) (.pair (.arr 4 (.int .u64)) (.pair (.int .u64) (.pair (.pair (.int .u64) (.pair (.int .u64) (.pair (.int .u64) (.pair (.arr 4 (.int .u64)) (.pair (.slice (.arr 32 (.int .u8))) .unit))))) .unit)))))))))]⟩
abbrev F_ref26_Canonical := ((Int × ((Int × (Int × (Int × ((List Int) × (Int × ((List Int) × ((List Int) × (Int × ((List Int) × Unit))))))))) × ((Int × (Int × ((List Int) × Unit))) × (Int × (Int × ((List Int) × (Int × ((Int × (Int × (Int × ((List Int) × ((List (List Int)) × Unit))))) × Unit)))))))) × Unit) → Option (((Int × ((Int × (Int × (Int × ((List Int) × (Int × ((List Int) × ((List Int) × (Int × ((List Int) × Unit))))))))) × ((Int × (Int × ((List Int) × Unit))) × (Int × (Int × ((List Int) × (Int × ((Int × (Int × (Int × ((List Int) × ((List (List Int)) × Unit))))) × Unit)))))))) × Unit) × (Unit × Unit))

noncomputable def T_ref26_Canonical (L : LoopD) (s_ : (Int × ((Int × (Int × (Int × ((List Int) × (Int × ((List Int) × ((List Int) × (Int × ((List Int) × Unit))))))))) × ((Int × (Int × ((List Int) × Unit))) × (Int × (Int × ((List Int) × (Int × ((Int × (Int × (Int × ((List Int) × ((List (List Int)) × Unit))))) × Unit))))))))) : Option (((Int × ((Int × (Int × (Int × ((List Int) × (Int × ((List Int) × ((List Int) × (Int × ((List Int) × Unit))))))))) × ((Int × (Int × ((List Int) × Unit))) × (Int × (Int × ((List Int) × (Int × ((Int × (Int × (Int × ((List Int) × ((List (List Int)) × Unit))))) × Unit)))))))) × Unit) × (Unit × Unit)) :=
  (brR (decide (s_.1 = (1 : Int)))
   (brR (Go.Pon.roomy ((0 : Nat) + (List.length s_.2.1.2.2.2.2.2.2.2.2.1)) (Go.Pon.Ty.int Go.IntKind.u8))
    (some (((s_.1, ((s_.2.1.1, (s_.2.1.2.1, (s_.2.1.2.2.1, (s_.2.1.2.2.2.1, (s_.2.1.2.2.2.2.1, (s_.2.1.2.2.2.2.2.1, (s_.2.1.2.2.2.2.2.2.1, (s_.2.1.2.2.2.2.2.2.2.1, (s_.2.1.2.2.2.2.2.2.2.2.1, s_.2.1.2.2.2.2.2.2.2.2.2))))))))), (((0 : Int), ((0 : Int), ([(0 : Int), (0 : Int), (0 : Int), (0 : Int)], ()))), ((0 : Int), ((0 : Int), ([(0 : Int), (0 : Int), (0 : Int), (0 : Int)], ((0 : Int), (((0 : Int), ((0 : Int), ((0 : Int), ([(0 : Int), (0 : Int), (0 : Int), (0 : Int)], (([] : List (List Int)), ()))))), ())))))))), ()), ((), ())))
    none)
   (brR (decide (s_.1 = (2 : Int)))
    (some (((s_.1, (((0 : Int), ((0 : Int), ((0 : Int), ([(0 : Int), (0 : Int), (0 : Int), (0 : Int)], ((0 : Int), ([(0 : Int), (0 : Int), (0 : Int), (0 : Int)], ([(0 : Int), (0 : Int), (0 : Int), (0 : Int)], ((0 : Int), (([] : List Int), ()))))))))), (s_.2.2.1, ((0 : Int), ((0 : Int), ([(0 : Int), (0 : Int), (0 : Int), (0 : Int)], ((0 : Int), (((0 : Int), ((0 : Int), ((0 : Int), ([(0 : Int), (0 : Int), (0 : Int), (0 : Int)], (([] : List (List Int)), ()))))), ())))))))), ()), ((), ())))
    (brR (decide (s_.1 = (3 : Int)))
     (some (((s_.1, (((0 : Int), ((0 : Int), ((0 : Int), ([(0 : Int), (0 : Int), (0 : Int), (0 : Int)], ((0 : Int), ([(0 : Int), (0 : Int), (0 : Int), (0 : Int)], ([(0 : Int), (0 : Int), (0 : Int), (0 : Int)], ((0 : Int), (([] : List Int), ()))))))))), (((0 : Int), ((0 : Int), ([(0 : Int), (0 : Int), (0 : Int), (0 : Int)], ()))), (s_.2.2.2.1, ((0 : Int), ([(0 : Int), (0 : Int), (0 : Int), (0 : Int)], ((0 : Int), (((0 : Int), ((0 : Int), ((0 : Int), ([(0 : Int), (0 : Int), (0 : Int), (0 : Int)], (([] : List (List Int)), ()))))), ())))))))), ()), ((), ())))
     (brR (decide (s_.1 = (4 : Int)))
      (some (((s_.1, (((0 : Int), ((0 : Int), ((0 : Int), ([(0 : Int), (0 : Int), (0 : Int), (0 : Int)], ((0 : Int), ([(0 : Int), (0 : Int), (0 : Int), (0 : Int)], ([(0 : Int), (0 : Int), (0 : Int), (0 : Int)], ((0 : Int), (([] : List Int), ()))))))))), (((0 : Int), ((0 : Int), ([(0 : Int), (0 : Int), (0 : Int), (0 : Int)], ()))), ((0 : Int), (s_.2.2.2.2.1, (s_.2.2.2.2.2.1, ((0 : Int), (((0 : Int), ((0 : Int), ((0 : Int), ([(0 : Int), (0 : Int), (0 : Int), (0 : Int)], (([] : List (List Int)), ()))))), ())))))))), ()), ((), ())))
      (brR (decide (s_.1 = (5 : Int)))
       (some (((s_.1, (((0 : Int), ((0 : Int), ((0 : Int), ([(0 : Int), (0 : Int), (0 : Int), (0 : Int)], ((0 : Int), ([(0 : Int), (0 : Int), (0 : Int), (0 : Int)], ([(0 : Int), (0 : Int), (0 : Int), (0 : Int)], ((0 : Int), (([] : List Int), ()))))))))), (((0 : Int), ((0 : Int), ([(0 : Int), (0 : Int), (0 : Int), (0 : Int)], ()))), ((0 : Int), ((0 : Int), ([(0 : Int), (0 : Int), (0 : Int), (0 : Int)], (s_.2.2.2.2.2.2.1, (((0 : Int), ((0 : Int), ((0 : Int), ([(0 : Int), (0 : Int), (0 : Int), (0 : Int)], (([] : List (List Int)), ()))))), ())))))))), ()), ((), ())))
       (brR (decide (s_.1 = (6 : Int)))
        (some (((s_.1, (((0 : Int), ((0 : Int), ((0 : Int), ([(0 : Int), (0 : Int), (0 : Int), (0 : Int)], ((0 : Int), ([(0 : Int), (0 : Int), (0 : Int), (0 : Int)], ([(0 : Int), (0 : Int), (0 : Int), (0 : Int)], ((0 : Int), (([] : List Int), ()))))))))), (((0 : Int), ((0 : Int), ([(0 : Int), (0 : Int), (0 : Int), (0 : Int)], ()))), ((0 : Int), ((0 : Int), (s_.2.2.2.2.2.1, (s_.2.2.2.2.2.2.1, (((0 : Int), ((0 : Int), ((0 : Int), ([(0 : Int), (0 : Int), (0 : Int), (0 : Int)], (([] : List (List Int)), ()))))), ())))))))), ()), ((), ())))
        (brR (decide (s_.1 = (7 : Int)))
         (brR (Go.Pon.roomy ((0 : Nat) + (List.length s_.2.2.2.2.2.2.2.1.2.2.2.2.1)) (Go.Pon.Ty.arr 32 (Go.Pon.Ty.int Go.IntKind.u8)))
          (some (((s_.1, (((0 : Int), ((0 : Int), ((0 : Int), ([(0 : Int), (0 : Int), (0 : Int), (0 : Int)], ((0 : Int), ([(0 : Int), (0 : Int), (0 : Int), (0 : Int)], ([(0 : Int), (0 : Int), (0 : Int), (0 : Int)], ((0 : Int), (([] : List Int), ()))))))))), (((0 : Int), ((0 : Int), ([(0 : Int), (0 : Int), (0 : Int), (0 : Int)], ()))), ((0 : Int), ((0 : Int), ([(0 : Int), (0 : Int), (0 : Int), (0 : Int)], ((0 : Int), ((s_.2.2.2.2.2.2.2.1.1, (s_.2.2.2.2.2.2.2.1.2.1, (s_.2.2.2.2.2.2.2.1.2.2.1, (s_.2.2.2.2.2.2.2.1.2.2.2.1, (s_.2.2.2.2.2.2.2.1.2.2.2.2.1, s_.2.2.2.2.2.2.2.1.2.2.2.2.2))))), ())))))))), ()), ((), ())))
          none)
         (some ((((0 : Int), (((0 : Int), ((0 : Int), ((0 : Int), ([(0 : Int), (0 : Int), (0 : Int), (0 : Int)], ((0 : Int), ([(0 : Int), (0 : Int), (0 : Int), (0 : Int)], ([(0 : Int), (0 : Int), (0 : Int), (0 : Int)], ((0 : Int), (([] : List Int), ()))))))))), (((0 : Int), ((0 : Int), ([(0 : Int), (0 : Int), (0 : Int), (0 : Int)], ()))), ((0 : Int), ((0 : Int), ([(0 : Int), (0 : Int), (0 : Int), (0 : Int)], ((0 : Int), (((0 : Int), ((0 : Int), ((0 : Int), ([(0 : Int), (0 : Int), (0 : Int), (0 : Int)], (([] : List (List Int)), ()))))), ())))))))), ()), ((), ()))))))))))

noncomputable def sol_ref26_Canonical : F_ref26_Canonical := fun x => T_ref26_Canonical bigLoop x.1

end Go.Pon
/-
  What the functions of package slices compute (printed by a program of this work).
-/
set_option autoImplicit false
set_option linter.unusedVariables false
set_option maxRecDepth 100000
namespace Go.Pon
open Go

/-- slices.Grow[[]byte,byte] -/
abbrev s_slices_Grow_byte_byte : Sig := ⟨[.nilm (.int .u8), .ro true (.int .i64)], [.own true (.int .u8)]⟩
abbrev F_slices_Grow_byte_byte := (Unit × (Int × Unit)) → Option (((List Int) × Unit) × (Unit × (Unit × Unit)))

noncomputable def T_slices_Grow_byte_byte (L : LoopD) (s_ : Unit) (n_ : Int) : Option (((List Int) × Unit) × (Unit × (Unit × Unit))) :=
  (brR (decide (n_ < (0 : Int)))
   none
   (brR (decide ((Go.IntKind.wrap (Go.IntKind.i64) (n_ - (0 : Int))) > (0 : Int)))
    (brR (((decide ((0 : Int) ≤ (Go.IntKind.wrap (Go.IntKind.i64) (n_ - (0 : Int))))) && (Go.Pon.roomy (Int.toNat (Go.IntKind.wrap (Go.IntKind.i64) (n_ - (0 : Int)))) (Go.Pon.Ty.int Go.IntKind.u8))) && true)
     (brR (decide ((0 : Int) ≤ (((List.length (List.replicate (Int.toNat (Go.IntKind.wrap (Go.IntKind.i64) (n_ - (0 : Int)))) (0 : Int))) : Nat) : Int)))
      (some (((List.take (0 : Nat) (List.replicate (Int.toNat (Go.IntKind.wrap (Go.IntKind.i64) (n_ - (0 : Int)))) (0 : Int))), ()), ((), ((), ()))))
      none)
     none)
    (some ((([] : List Int), ()), ((), ((), ()))))))

noncomputable def sol_slices_Grow_byte_byte : F_slices_Grow_byte_byte := fun x => T_slices_Grow_byte_byte bigLoop x.1 x.2.1

/-- slices.Concat[[]byte,byte] -/
abbrev s_slices_Concat_byte_byte : Sig := ⟨[(.ro false (.slice (.slice (.int .u8))))], [(.own true (.int .u8))]⟩
abbrev F_slices_Concat_byte_byte := ((List (List Int)) × Unit) → Option (((List Int) × Unit) × (Unit × Unit))

noncomputable def T_slices_Concat_byte_byte_loop1 (again_8 : ((List Int) × ((List (List Int)) × (Int × (Int × Unit)))) → Option (((List Int) × Unit) × (Unit × Unit))) (newslice_9 : (List Int)) (t25_10 : (List (List Int))) (t26_11 : Int) (t27_12 : Int) : Option (((List Int) × Unit) × (Unit × Unit)) :=
  (brR (decide (t27_12 < t26_11))
   (brR (Go.Pon.inR t27_12 (List.length t25_10))
    (brR (Go.Pon.roomy ((List.length newslice_9) + (List.length (List.getD t25_10 (Int.toNat t27_12) ([] : List Int)))) (Go.Pon.Ty.int Go.IntKind.u8))
     (again_8 ((List.append newslice_9 (List.getD t25_10 (Int.toNat t27_12) ([] : List Int))), (t25_10, (t26_11, ((Go.IntKind.wrap (Go.IntKind.i64) (t27_12 + (1 : Int))), ())))))
     none)
    none)
   (some ((newslice_9, ()), ((), ()))))

noncomputable def T_slices_Concat_byte_byte_loop0 (L : LoopD) (c_slices_Grow_byte_byte : F_slices_Grow_byte_byte) (again_0 : ((List (List Int)) × (Int × ((List (List Int)) × (Int × (Int × Unit))))) → Option (((List Int) × Unit) × (Unit × Unit))) (slices_1 : (List (List Int))) (size_2 : Int) (t9_3 : (List (List Int))) (t10_4 : Int) (t11_5 : Int) : Option (((List Int) × Unit) × (Unit × Unit)) :=
  (letR (Go.IntKind.wrap (Go.IntKind.i64) (size_2 + (((List.length (List.getD t9_3 (Int.toNat t11_5) ([] : List Int))) : Nat) : Int))) fun (v_6 : Int) =>
  (brR (decide (t11_5 < t10_4))
   (brR (Go.Pon.inR t11_5 (List.length t9_3))
    (brR (decide (v_6 < (0 : Int)))
     none
     (again_0 (slices_1, (v_6, (t9_3, (t10_4, ((Go.IntKind.wrap (Go.IntKind.i64) (t11_5 + (1 : Int))), ())))))))
    none)
   (Option.bind (c_slices_Grow_byte_byte ((), (size_2, ()))) (fun (y_7 : (((List Int) × Unit) × (Unit × (Unit × Unit)))) =>
    (L _ _ (fun again x => T_slices_Concat_byte_byte_loop1 again x.1 x.2.1 x.2.2.1 x.2.2.2.1) (y_7.1.1, (slices_1, ((((List.length slices_1) : Nat) : Int), ((0 : Int), ())))))))))

noncomputable def T_slices_Concat_byte_byte (L : LoopD) (c_slices_Grow_byte_byte : F_slices_Grow_byte_byte) (slices_ : (List (List Int))) : Option (((List Int) × Unit) × (Unit × Unit)) :=
  (L _ _ (fun again x => T_slices_Concat_byte_byte_loop0 L c_slices_Grow_byte_byte again x.1 x.2.1 x.2.2.1 x.2.2.2.1 x.2.2.2.2.1) (slices_, ((0 : Int), (slices_, ((((List.length slices_) : Nat) : Int), ((0 : Int), ()))))))

noncomputable def sol_slices_Concat_byte_byte : F_slices_Concat_byte_byte := fun x => T_slices_Concat_byte_byte bigLoop sol_slices_Grow_byte_byte x.1

/-- slices.Clone[[]byte,byte] -/
abbrev s_slices_Clone_byte_byte : Sig := ⟨[(.ro false (.slice (.int .u8)))], [(.own true (.int .u8))]⟩
abbrev F_slices_Clone_byte_byte := ((List Int) × Unit) → Option (((List Int) × Unit) × (Unit × Unit))

noncomputable def T_slices_Clone_byte_byte (L : LoopD) (s_ : (List Int)) : Option (((List Int) × Unit) × (Unit × Unit)) :=
  (brR (decide ((List.length s_) = (0 : Nat)))
   (bothR (some ((([] : List Int), ()), ((), ())))
    (brR (Go.Pon.roomy ((0 : Nat) + (List.length s_)) (Go.Pon.Ty.int Go.IntKind.u8))
     (some ((s_, ()), ((), ())))
     none))
   (brR (Go.Pon.roomy ((0 : Nat) + (List.length s_)) (Go.Pon.Ty.int Go.IntKind.u8))
    (some ((s_, ()), ((), ())))
    none))

noncomputable def sol_slices_Clone_byte_byte : F_slices_Clone_byte_byte := fun x => T_slices_Clone_byte_byte bigLoop x.1

/-- slices.Clip[[]pontage/api.Hash,pontage/api.Hash] -/
abbrev s_slices_Clip_api_Hash_api_Hash : Sig := ⟨[.own false (.arr 32 (.int .u8))], [.ro false (.slice (.arr 32 (.int .u8)))]⟩
abbrev F_slices_Clip_api_Hash_api_Hash := ((List (List Int)) × Unit) → Option (((List (List Int)) × Unit) × (Unit × Unit))

noncomputable def T_slices_Clip_api_Hash_api_Hash (L : LoopD) (s_ : (List (List Int))) : Option (((List (List Int)) × Unit) × (Unit × Unit)) :=
  (letR (((List.length s_) : Nat) : Int) fun (v_0 : Int) =>
  (brR (decide (v_0 = v_0))
   (brR ((decide ((0 : Int) ≤ v_0)) && (decide (v_0 ≤ v_0)))
    (some (((List.take ((Int.toNat v_0) - (0 : Nat)) (List.drop (0 : Nat) s_)), ()), ((), ())))
    none)
   none))

noncomputable def sol_slices_Clip_api_Hash_api_Hash : F_slices_Clip_api_Hash_api_Hash := fun x => T_slices_Clip_api_Hash_api_Hash bigLoop x.1

/-- slices.Clone[[]pontage/api.Message,pontage/api.Message] -/
abbrev s_slices_Clone_api_Message_api_Message : Sig := ⟨[(.ro false (.slice (.pair (.int .u64) (.pair (.int .u64) (.pair (.arr 4 (.int .u64)) .unit)))))], [(.own true (.pair (.int .u64) (.pair (.int .u64) (.pair (.arr 4 (.int .u64)) .unit))))]⟩
abbrev F_slices_Clone_api_Message_api_Message := ((List (Int × (Int × ((List Int) × Unit)))) × Unit) → Option (((List (Int × (Int × ((List Int) × Unit)))) × Unit) × (Unit × Unit))

noncomputable def T_slices_Clone_api_Message_api_Message (L : LoopD) (s_ : (List (Int × (Int × ((List Int) × Unit))))) : Option (((List (Int × (Int × ((List Int) × Unit)))) × Unit) × (Unit × Unit)) :=
  (letR (List.length s_) fun (v_0 : Nat) =>
  (brR (decide (v_0 = (0 : Nat)))
   (bothR (some ((([] : List (Int × (Int × ((List Int) × Unit)))), ()), ((), ())))
    (brR (Go.Pon.roomy ((0 : Nat) + v_0) ((Go.Pon.Ty.int Go.IntKind.u64).pair
  ((Go.Pon.Ty.int Go.IntKind.u64).pair ((Go.Pon.Ty.arr 4 (Go.Pon.Ty.int Go.IntKind.u64)).pair Go.Pon.Ty.unit))))
     (some ((s_, ()), ((), ())))
     none))
   (brR (Go.Pon.roomy ((0 : Nat) + v_0) ((Go.Pon.Ty.int Go.IntKind.u64).pair
  ((Go.Pon.Ty.int Go.IntKind.u64).pair ((Go.Pon.Ty.arr 4 (Go.Pon.Ty.int Go.IntKind.u64)).pair Go.Pon.Ty.unit))))
    (some ((s_, ()), ((), ())))
    none)))

noncomputable def sol_slices_Clone_api_Message_api_Message : F_slices_Clone_api_Message_api_Message := fun x => T_slices_Clone_api_Message_api_Message bigLoop x.1

/-- slices.Clone[[]pontage/api.Hash,pontage/api.Hash] -/
abbrev s_slices_Clone_api_Hash_api_Hash : Sig := ⟨[(.ro false (.slice (.arr 32 (.int .u8))))], [(.own true (.arr 32 (.int .u8)))]⟩
abbrev F_slices_Clone_api_Hash_api_Hash := ((List (List Int)) × Unit) → Option (((List (List Int)) × Unit) × (Unit × Unit))

noncomputable def T_slices_Clone_api_Hash_api_Hash (L : LoopD) (s_ : (List (List Int))) : Option (((List (List Int)) × Unit) × (Unit × Unit)) :=
  (brR (decide ((List.length s_) = (0 : Nat)))
   (bothR (some ((([] : List (List Int)), ()), ((), ())))
    (brR (Go.Pon.roomy ((0 : Nat) + (List.length s_)) (Go.Pon.Ty.arr 32 (Go.Pon.Ty.int Go.IntKind.u8)))
     (some ((s_, ()), ((), ())))
     none))
   (brR (Go.Pon.roomy ((0 : Nat) + (List.length s_)) (Go.Pon.Ty.arr 32 (Go.Pon.Ty.int Go.IntKind.u8)))
    (some ((s_, ()), ((), ())))
    none))

noncomputable def sol_slices_Clone_api_Hash_api_Hash : F_slices_Clone_api_Hash_api_Hash := fun x => T_slices_Clone_api_Hash_api_Hash bigLoop x.1

end Go.Pon
/-
  What the functions of package int256 compute (printed by a program of this work).
-/
set_option autoImplicit false
set_option linter.unusedVariables false
set_option maxRecDepth 100000
namespace Go.Pon
open Go

/-- pontage/int256.Valid -/
abbrev s_int256_Valid : Sig := ⟨[(.ro true (.pair .bool (.pair (.arr 4 (.int .u64)) .unit)))], [(.ro true .bool)]⟩
abbrev F_int256_Valid := ((Bool × ((List Int) × Unit)) × Unit) → Option ((Bool × Unit) × (Unit × Unit))

noncomputable def T_int256_Valid (L : LoopD) (a_ : (Bool × ((List Int) × Unit))) : Option ((Bool × Unit) × (Unit × Unit)) :=
  (brR (!a_.1)
   (some ((true, ()), ((), ())))
   (some (((!(Go.Pon.eqD (Go.Pon.Ty.arr 4 (Go.Pon.Ty.int Go.IntKind.u64)) a_.2.1 [(0 : Int), (0 : Int), (0 : Int), (0 : Int)])), ()), ((), ()))))

noncomputable def sol_int256_Valid : F_int256_Valid := fun x => T_int256_Valid bigLoop x.1

end Go.Pon
/-
  What the functions of package math_bits compute (printed by a program of this work).
-/
set_option autoImplicit false
set_option linter.unusedVariables false
set_option maxRecDepth 100000
namespace Go.Pon
open Go

/-- math/bits.RotateLeft32 -/
abbrev s_math_bits_RotateLeft32 : Sig := ⟨[(.ro true (.int .u32)), (.ro true (.int .i64))], [(.ro true (.int .u32))]⟩
abbrev F_math_bits_RotateLeft32 := (Int × (Int × Unit)) → Option ((Int × Unit) × (Unit × (Unit × Unit)))

noncomputable def T_math_bits_RotateLeft32 (L : LoopD) (x_ : Int) (k_ : Int) : Option ((Int × Unit) × (Unit × (Unit × Unit))) :=
  (letR (Go.IntKind.wrap (Go.IntKind.u64) (((BitVec.toNat ((BitVec.ofInt (64 : Nat) (Go.IntKind.wrap (Go.IntKind.u64) k_)) &&& (BitVec.ofInt (64 : Nat) (31 : Int)))) : Nat) : Int)) fun (v_0 : Int) =>
  (letR (Go.IntKind.wrap (Go.IntKind.u64) ((32 : Int) - v_0)) fun (v_1 : Int) =>
  (brR (decide ((0 : Int) ≤ v_0))
   (brR (decide ((0 : Int) ≤ v_1))
    (some (((Go.IntKind.wrap (Go.IntKind.u32) (((BitVec.toNat ((BitVec.ofInt (32 : Nat) (Go.IntKind.wrap (Go.IntKind.u32) (x_ * ((2 : Int) ^ (min (Int.toNat v_0) (32 : Nat)))))) ||| (BitVec.ofInt (32 : Nat) (Int.fdiv x_ ((2 : Int) ^ (min (Int.toNat v_1) (32 : Nat))))))) : Nat) : Int)), ()), ((), ((), ()))))
    none)
   none)))

noncomputable def sol_math_bits_RotateLeft32 : F_math_bits_RotateLeft32 := fun x => T_math_bits_RotateLeft32 bigLoop x.1 x.2.1

/-- math/bits.Len64 -/
abbrev s_math_bits_Len64 : Sig := ⟨[(.ro true (.int .u64))], [(.ro true (.int .i64))]⟩
abbrev F_math_bits_Len64 := (Int × Unit) → Option ((Int × Unit) × (Unit × Unit))

noncomputable def T_math_bits_Len64 (L : LoopD) (x_ : Int) : Option ((Int × Unit) × (Unit × Unit)) :=
  (brR (decide (x_ ≥ (4294967296 : Int)))
   (brR (decide ((Int.fdiv x_ (4294967296 : Int)) ≥ (65536 : Int)))
    (brR (decide ((Int.fdiv (Int.fdiv x_ (4294967296 : Int)) (65536 : Int)) ≥ (256 : Int)))
     (brR (Go.Pon.inR (Go.IntKind.wrap (Go.IntKind.u8) (Int.fdiv (Int.fdiv (Int.fdiv x_ (4294967296 : Int)) (65536 : Int)) (256 : Int))) (256 : Nat))
      (some (((Go.IntKind.wrap (Go.IntKind.i64) ((56 : Int) + (Go.IntKind.wrap (Go.IntKind.i64) (List.getD [(0 : Int), (1 : Int), (2 : Int), (2 : Int), (3 : Int), (3 : Int), (3 : Int), (3 : Int), (4 : Int), (4 : Int), (4 : Int), (4 : Int), (4 : Int), (4 : Int), (4 : Int), (4 : Int), (5 : Int), (5 : Int), (5 : Int), (5 : Int), (5 : Int), (5 : Int), (5 : Int), (5 : Int), (5 : Int), (5 : Int), (5 : Int), (5 : Int), (5 : Int), (5 : Int), (5 : Int), (5 : Int), (6 : Int), (6 : Int), (6 : Int), (6 : Int), (6 : Int), (6 : Int), (6 : Int), (6 : Int), (6 : Int), (6 : Int), (6 : Int), (6 : Int), (6 : Int), (6 : Int), (6 : Int), (6 : Int), (6 : Int), (6 : Int), (6 : Int), (6 : Int), (6 : Int), (6 : Int), (6 : Int), (6 : Int), (6 : Int), (6 : Int), (6 : Int), (6 : Int), (6 : Int), (6 : Int), (6 : Int), (6 : Int), (7 : Int), (7 : Int), (7 : Int), (7 : Int), (7 : Int), (7 : Int), (7 : Int), (7 : Int), (7 : Int), (7 : Int), (7 : Int), (7 : Int), (7 : Int), (7 : Int), (7 : Int), (7 : Int), (7 : Int), (7 : Int), (7 : Int), (7 : Int), (7 : Int), (7 : Int), (7 : Int), (7 : Int), (7 : Int), (7 : Int), (7 : Int), (7 : Int), (7 : Int), (7 : Int), (7 : Int), (7 : Int), (7 : Int), (7 : Int), (7 : Int), (7 : Int), (7 : Int), (7 : Int), (7 : Int), (7 : Int), (7 : Int), (7 : Int), (7 : Int), (7 : Int), (7 : Int), (7 : Int), (7 : Int), (7 : Int), (7 : Int), (7 : Int), (7 : Int), (7 : Int), (7 : Int), (7 : Int), (7 : Int), (7 : Int), (7 : Int), (7 : Int), (7 : Int), (7 : Int), (7 : Int), (7 : Int), (7 : Int), (7 : Int), (8 : Int), (8 : Int), (8 : Int), (8 : Int), (8 : Int), (8 : Int), (8 : Int), (8 : Int), (8 : Int), (8 : Int), (8 : Int), (8 : Int), (8 : Int), (8 : Int), (8 : Int), (8 : Int), (8 : Int), (8 : Int), (8 : Int), (8 : Int), (8 : Int), (8 : Int), (8 : Int), (8 : Int), (8 : Int), (8 : Int), (8 : Int), (8 : Int), (8 : Int), (8 : Int), (8 : Int), (8 : Int), (8 : Int), (8 : Int), (8 : Int), (8 : Int), (8 : Int), (8 : Int), (8 : Int), (8 : Int), (8 : Int), (8 : Int), (8 : Int), (8 : Int), (8 : Int), (8 : Int), (8 : Int), (8 : Int), (8 : Int), (8 : Int), (8 : Int), (8 : Int), (8 : Int), (8 : Int), (8 : Int), (8 : Int), (8 : Int), (8 : Int), (8 : Int), (8 : Int), (8 : Int), (8 : Int), (8 : Int), (8 : Int), (8 : Int), (8 : Int), (8 : Int), (8 : Int), (8 : Int), (8 : Int), (8 : Int), (8 : Int), (8 : Int), (8 : Int), (8 : Int), (8 : Int), (8 : Int), (8 : Int), (8 : Int), (8 : Int), (8 : Int), (8 : Int), (8 : Int), (8 : Int), (8 : Int), (8 : Int), (8 : Int), (8 : Int), (8 : Int), (8 : Int), (8 : Int), (8 : Int), (8 : Int), (8 : Int), (8 : Int), (8 : Int), (8 : Int), (8 : Int), (8 : Int), (8 : Int), (8 : Int), (8 : Int), (8 : Int), (8 : Int), (8 : Int), (8 : Int), (8 : Int), (8 : Int), (8 : Int), (8 : Int), (8 : Int), (8 : Int), (8 : Int), (8 : Int), (8 : Int), (8 : Int), (8 : Int), (8 : Int), (8 : Int), (8 : Int), (8 : Int), (8 : Int), (8 : Int), (8 : Int), (8 : Int), (8 : Int), (8 : Int), (8 : Int)] (Int.toNat (Go.IntKind.wrap (Go.IntKind.u8) (Int.fdiv (Int.fdiv (Int.fdiv x_ (4294967296 : Int)) (65536 : Int)) (256 : Int)))) (0 : Int))))), ()), ((), ())))
      none)
     (brR (Go.Pon.inR (Go.IntKind.wrap (Go.IntKind.u8) (Int.fdiv (Int.fdiv x_ (4294967296 : Int)) (65536 : Int))) (256 : Nat))
      (some (((Go.IntKind.wrap (Go.IntKind.i64) ((48 : Int) + (Go.IntKind.wrap (Go.IntKind.i64) (List.getD [(0 : Int), (1 : Int), (2 : Int), (2 : Int), (3 : Int), (3 : Int), (3 : Int), (3 : Int), (4 : Int), (4 : Int), (4 : Int), (4 : Int), (4 : Int), (4 : Int), (4 : Int), (4 : Int), (5 : Int), (5 : Int), (5 : Int), (5 : Int), (5 : Int), (5 : Int), (5 : Int), (5 : Int), (5 : Int), (5 : Int), (5 : Int), (5 : Int), (5 : Int), (5 : Int), (5 : Int), (5 : Int), (6 : Int), (6 : Int), (6 : Int), (6 : Int), (6 : Int), (6 : Int), (6 : Int), (6 : Int), (6 : Int), (6 : Int), (6 : Int), (6 : Int), (6 : Int), (6 : Int), (6 : Int), (6 : Int), (6 : Int), (6 : Int), (6 : Int), (6 : Int), (6 : Int), (6 : Int), (6 : Int), (6 : Int), (6 : Int), (6 : Int), (6 : Int), (6 : Int), (6 : Int), (6 : Int), (6 : Int), (6 : Int), (7 : Int), (7 : Int), (7 : Int), (7 : Int), (7 : Int), (7 : Int), (7 : Int), (7 : Int), (7 : Int), (7 : Int), (7 : Int), (7 : Int), (7 : Int), (7 : Int), (7 : Int), (7 : Int), (7 : Int), (7 : Int), (7 : Int), (7 : Int), (7 : Int), (7 : Int), (7 : Int), (7 : Int), (7 : Int), (7 : Int), (7 : Int), (7 : Int), (7 : Int), (7 : Int), (7 : Int), (7 : Int), (7 : Int), (7 : Int), (7 : Int), (7 : Int), (7 : Int), (7 : Int), (7 : Int), (7 : Int), (7 : Int), (7 : Int), (7 : Int), (7 : Int), (7 : Int), (7 : Int), (7 : Int), (7 : Int), (7 : Int), (7 : Int), (7 : Int), (7 : Int), (7 : Int), (7 : Int), (7 : Int), (7 : Int), (7 : Int), (7 : Int), (7 : Int), (7 : Int), (7 : Int), (7 : Int), (7 : Int), (7 : Int), (8 : Int), (8 : Int), (8 : Int), (8 : Int), (8 : Int), (8 : Int), (8 : Int), (8 : Int), (8 : Int), (8 : Int), (8 : Int), (8 : Int), (8 : Int), (8 : Int), (8 : Int), (8 : Int), (8 : Int), (8 : Int), (8 : Int), (8 : Int), (8 : Int), (8 : Int), (8 : Int), (8 : Int), (8 : Int), (8 : Int), (8 : Int), (8 : Int), (8 : Int), (8 : Int), (8 : Int), (8 : Int), (8 : Int), (8 : Int), (8 : Int), (8 : Int), (8 : Int), (8 : Int), (8 : Int), (8 : Int), (8 : Int), (8 : Int), (8 : Int), (8 : Int), (8 : Int), (8 : Int), (8 : Int), (8 : Int), (8 : Int), (8 : Int), (8 : Int), (8 : Int), (8 : Int), (8 : Int), (8 : Int), (8 : Int), (8 : Int), (8 : Int), (8 : Int), (8 : Int), (8 : Int), (8 : Int), (8 : Int), (8 : Int), (8 : Int), (8 : Int), (8 : Int), (8 : Int), (8 : Int), (8 : Int), (8 : Int), (8 : Int), (8 : Int), (8 : Int), (8 : Int), (8 : Int), (8 : Int), (8 : Int), (8 : Int), (8 : Int), (8 : Int), (8 : Int), (8 : Int), (8 : Int), (8 : Int), (8 : Int), (8 : Int), (8 : Int), (8 : Int), (8 : Int), (8 : Int), (8 : Int), (8 : Int), (8 : Int), (8 : Int), (8 : Int), (8 : Int), (8 : Int), (8 : Int), (8 : Int), (8 : Int), (8 : Int), (8 : Int), (8 : Int), (8 : Int), (8 : Int), (8 : Int), (8 : Int), (8 : Int), (8 : Int), (8 : Int), (8 : Int), (8 : Int), (8 : Int), (8 : Int), (8 : Int), (8 : Int), (8 : Int), (8 : Int), (8 : Int), (8 : Int), (8 : Int), (8 : Int), (8 : Int), (8 : Int), (8 : Int), (8 : Int), (8 : Int)] (Int.toNat (Go.IntKind.wrap (Go.IntKind.u8) (Int.fdiv (Int.fdiv x_ (4294967296 : Int)) (65536 : Int)))) (0 : Int))))), ()), ((), ())))
      none))
    (brR (decide ((Int.fdiv x_ (4294967296 : Int)) ≥ (256 : Int)))
     (brR (Go.Pon.inR (Go.IntKind.wrap (Go.IntKind.u8) (Int.fdiv (Int.fdiv x_ (4294967296 : Int)) (256 : Int))) (256 : Nat))
      (some (((Go.IntKind.wrap (Go.IntKind.i64) ((40 : Int) + (Go.IntKind.wrap (Go.IntKind.i64) (List.getD [(0 : Int), (1 : Int), (2 : Int), (2 : Int), (3 : Int), (3 : Int), (3 : Int), (3 : Int), (4 : Int), (4 : Int), (4 : Int), (4 : Int), (4 : Int), (4 : Int), (4 : Int), (4 : Int), (5 : Int), (5 : Int), (5 : Int), (5 : Int), (5 : Int), (5 : Int), (5 : Int), (5 : Int), (5 : Int), (5 : Int), (5 : Int), (5 : Int), (5 : Int), (5 : Int), (5 : Int), (5 : Int), (6 : Int), (6 : Int), (6 : Int), (6 : Int), (6 : Int), (6 : Int), (6 : Int), (6 : Int), (6 : Int), (6 : Int), (6 : Int), (6 : Int), (6 : Int), (6 : Int), (6 : Int), (6 : Int), (6 : Int), (6 : Int), (6 : Int), (6 : Int), (6 : Int), (6 : Int), (6 : Int), (6 : Int), (6 : Int), (6 : Int), (6 : Int), (6 : Int), (6 : Int), (6 : Int), (6 : Int), (6 : Int), (7 : Int), (7 : Int), (7 : Int), (7 : Int), (7 : Int), (7 : Int), (7 : Int), (7 : Int), (7 : Int), (7 : Int), (7 : Int), (7 : Int), (7 : Int), (7 : Int), (7 : Int), (7 : Int), (7 : Int), (7 : Int), (7 : Int), (7 : Int), (7 : Int), (7 : Int), (7 : Int), (7 : Int), (7 : Int), (7 : Int), (7 : Int), (7 : Int), (7 : Int), (7 : Int), (7 : Int), (7 : Int), (7 : Int), (7 : Int), (7 : Int), (7 : Int), (7 : Int), (7 : Int), (7 : Int), (7 : Int), (7 : Int), (7 : Int), (7 : Int), (7 : Int), (7 : Int), (7 : Int), (7 : Int), (7 : Int), (7 : Int), (7 : Int), (7 : Int), (7 : Int), (7 : Int), (7 : Int), (7 : Int), (7 : Int), (7 : Int), (7 : Int), (7 : Int), (7 : Int), (7 : Int), (7 : Int), (7 : Int), (7 : Int), (8 : Int), (8 : Int), (8 : Int), (8 : Int), (8 : Int), (8 : Int), (8 : Int), (8 : Int), (8 : Int), (8 : Int), (8 : Int), (8 : Int), (8 : Int), (8 : Int), (8 : Int), (8 : Int), (8 : Int), (8 : Int), (8 : Int), (8 : Int), (8 : Int), (8 : Int), (8 : Int), (8 : Int), (8 : Int), (8 : Int), (8 : Int), (8 : Int), (8 : Int), (8 : Int), (8 : Int), (8 : Int), (8 : Int), (8 : Int), (8 : Int), (8 : Int), (8 : Int), (8 : Int), (8 : Int), (8 : Int), (8 : Int), (8 : Int), (8 : Int), (8 : Int), (8 : Int), (8 : Int), (8 : Int), (8 : Int), (8 : Int), (8 : Int), (8 : Int), (8 : Int), (8 : Int), (8 : Int), (8 : Int), (8 : Int), (8 : Int), (8 : Int), (8 : Int), (8 : Int), (8 : Int), (8 : Int), (8 : Int), (8 : Int), (8 : Int), (8 : Int), (8 : Int), (8 : Int), (8 : Int), (8 : Int), (8 : Int), (8 : Int), (8 : Int), (8 : Int), (8 : Int), (8 : Int), (8 : Int), (8 : Int), (8 : Int), (8 : Int), (8 : Int), (8 : Int), (8 : Int), (8 : Int), (8 : Int), (8 : Int), (8 : Int), (8 : Int), (8 : Int), (8 : Int), (8 : Int), (8 : Int), (8 : Int), (8 : Int), (8 : Int), (8 : Int), (8 : Int), (8 : Int), (8 : Int), (8 : Int), (8 : Int), (8 : Int), (8 : Int), (8 : Int), (8 : Int), (8 : Int), (8 : Int), (8 : Int), (8 : Int), (8 : Int), (8 : Int), (8 : Int), (8 : Int), (8 : Int), (8 : Int), (8 : Int), (8 : Int), (8 : Int), (8 : Int), (8 : Int), (8 : Int), (8 : Int), (8 : Int), (8 : Int), (8 : Int), (8 : Int), (8 : Int), (8 : Int)] (Int.toNat (Go.IntKind.wrap (Go.IntKind.u8) (Int.fdiv (Int.fdiv x_ (4294967296 : Int)) (256 : Int)))) (0 : Int))))), ()), ((), ())))
      none)
     (brR (Go.Pon.inR (Go.IntKind.wrap (Go.IntKind.u8) (Int.fdiv x_ (4294967296 : Int))) (256 : Nat))
      (some (((Go.IntKind.wrap (Go.IntKind.i64) ((32 : Int) + (Go.IntKind.wrap (Go.IntKind.i64) (List.getD [(0 : Int), (1 : Int), (2 : Int), (2 : Int), (3 : Int), (3 : Int), (3 : Int), (3 : Int), (4 : Int), (4 : Int), (4 : Int), (4 : Int), (4 : Int), (4 : Int), (4 : Int), (4 : Int), (5 : Int), (5 : Int), (5 : Int), (5 : Int), (5 : Int), (5 : Int), (5 : Int), (5 : Int), (5 : Int), (5 : Int), (5 : Int), (5 : Int), (5 : Int), (5 : Int), (5 : Int), (5 : Int), (6 : Int), (6 : Int), (6 : Int), (6 : Int), (6 : Int), (6 : Int), (6 : Int), (6 : Int), (6 : Int), (6 : Int), (6 : Int), (6 : Int), (6 : Int), (6 : Int), (6 : Int), (6 : Int), (6 : Int), (6 : Int), (6 : Int), (6 : Int), (6 : Int), (6 : Int), (6 : Int), (6 : Int), (6 : Int), (6 : Int), (6 : Int), (6 : Int), (6 : Int), (6 : Int), (6 : Int), (6 : Int), (7 : Int), (7 : Int), (7 : Int), (7 : Int), (7 : Int), (7 : Int), (7 : Int), (7 : Int), (7 : Int), (7 : Int), (7 : Int), (7 : Int), (7 : Int), (7 : Int), (7 : Int), (7 : Int), (7 : Int), (7 : Int), (7 : Int), (7 : Int), (7 : Int), (7 : Int), (7 : Int), (7 : Int), (7 : Int), (7 : Int), (7 : Int), (7 : Int), (7 : Int), (7 : Int), (7 : Int), (7 : Int), (7 : Int), (7 : Int), (7 : Int), (7 : Int), (7 : Int), (7 : Int), (7 : Int), (7 : Int), (7 : Int), (7 : Int), (7 : Int), (7 : Int), (7 : Int), (7 : Int), (7 : Int), (7 : Int), (7 : Int), (7 : Int), (7 : Int), (7 : Int), (7 : Int), (7 : Int), (7 : Int), (7 : Int), (7 : Int), (7 : Int), (7 : Int), (7 : Int), (7 : Int), (7 : Int), (7 : Int), (7 : Int), (8 : Int), (8 : Int), (8 : Int), (8 : Int), (8 : Int), (8 : Int), (8 : Int), (8 : Int), (8 : Int), (8 : Int), (8 : Int), (8 : Int), (8 : Int), (8 : Int), (8 : Int), (8 : Int), (8 : Int), (8 : Int), (8 : Int), (8 : Int), (8 : Int), (8 : Int), (8 : Int), (8 : Int), (8 : Int), (8 : Int), (8 : Int), (8 : Int), (8 : Int), (8 : Int), (8 : Int), (8 : Int), (8 : Int), (8 : Int), (8 : Int), (8 : Int), (8 : Int), (8 : Int), (8 : Int), (8 : Int), (8 : Int), (8 : Int), (8 : Int), (8 : Int), (8 : Int), (8 : Int), (8 : Int), (8 : Int), (8 : Int), (8 : Int), (8 : Int), (8 : Int), (8 : Int), (8 : Int), (8 : Int), (8 : Int), (8 : Int), (8 : Int), (8 : Int), (8 : Int), (8 : Int), (8 : Int), (8 : Int), (8 : Int), (8 : Int), (8 : Int), (8 : Int), (8 : Int), (8 : Int), (8 : Int), (8 : Int), (8 : Int), (8 : Int), (8 : Int), (8 : Int), (8 : Int), (8 : Int), (8 : Int), (8 : Int), (8 : Int), (8 : Int), (8 : Int), (8 : Int), (8 : Int), (8 : Int), (8 : Int), (8 : Int), (8 : Int), (8 : Int), (8 : Int), (8 : Int), (8 : Int), (8 : Int), (8 : Int), (8 : Int), (8 : Int), (8 : Int), (8 : Int), (8 : Int), (8 : Int), (8 : Int), (8 : Int), (8 : Int), (8 : Int), (8 : Int), (8 : Int), (8 : Int), (8 : Int), (8 : Int), (8 : Int), (8 : Int), (8 : Int), (8 : Int), (8 : Int), (8 : Int), (8 : Int), (8 : Int), (8 : Int), (8 : Int), (8 : Int), (8 : Int), (8 : Int), (8 : Int), (8 : Int), (8 : Int), (8 : Int), (8 : Int), (8 : Int)] (Int.toNat (Go.IntKind.wrap (Go.IntKind.u8) (Int.fdiv x_ (4294967296 : Int)))) (0 : Int))))), ()), ((), ())))
      none)))
   (brR (decide (x_ ≥ (65536 : Int)))
    (brR (decide ((Int.fdiv x_ (65536 : Int)) ≥ (256 : Int)))
     (brR (Go.Pon.inR (Go.IntKind.wrap (Go.IntKind.u8) (Int.fdiv (Int.fdiv x_ (65536 : Int)) (256 : Int))) (256 : Nat))
      (some (((Go.IntKind.wrap (Go.IntKind.i64) ((24 : Int) + (Go.IntKind.wrap (Go.IntKind.i64) (List.getD [(0 : Int), (1 : Int), (2 : Int), (2 : Int), (3 : Int), (3 : Int), (3 : Int), (3 : Int), (4 : Int), (4 : Int), (4 : Int), (4 : Int), (4 : Int), (4 : Int), (4 : Int), (4 : Int), (5 : Int), (5 : Int), (5 : Int), (5 : Int), (5 : Int), (5 : Int), (5 : Int), (5 : Int), (5 : Int), (5 : Int), (5 : Int), (5 : Int), (5 : Int), (5 : Int), (5 : Int), (5 : Int), (6 : Int), (6 : Int), (6 : Int), (6 : Int), (6 : Int), (6 : Int), (6 : Int), (6 : Int), (6 : Int), (6 : Int), (6 : Int), (6 : Int), (6 : Int), (6 : Int), (6 : Int), (6 : Int), (6 : Int), (6 : Int), (6 : Int), (6 : Int), (6 : Int), (6 : Int), (6 : Int), (6 : Int), (6 : Int), (6 : Int), (6 : Int), (6 : Int), (6 : Int), (6 : Int), (6 : Int), (6 : Int), (7 : Int), (7 : Int), (7 : Int), (7 : Int), (7 : Int), (7 : Int), (7 : Int), (7 : Int), (7 : Int), (7 : Int), (7 : Int), (7 : Int), (7 : Int), (7 : Int), (7 : Int), (7 : Int), (7 : Int), (7 : Int), (7 : Int), (7 : Int), (7 : Int), (7 : Int), (7 : Int), (7 : Int), (7 : Int), (7 : Int), (7 : Int), (7 : Int), (7 : Int), (7 : Int), (7 : Int), (7 : Int), (7 : Int), (7 : Int), (7 : Int), (7 : Int), (7 : Int), (7 : Int), (7 : Int), (7 : Int), (7 : Int), (7 : Int), (7 : Int), (7 : Int), (7 : Int), (7 : Int), (7 : Int), (7 : Int), (7 : Int), (7 : Int), (7 : Int), (7 : Int), (7 : Int), (7 : Int), (7 : Int), (7 : Int), (7 : Int), (7 : Int), (7 : Int), (7 : Int), (7 : Int), (7 : Int), (7 : Int), (7 : Int), (8 : Int), (8 : Int), (8 : Int), (8 : Int), (8 : Int), (8 : Int), (8 : Int), (8 : Int), (8 : Int), (8 : Int), (8 : Int), (8 : Int), (8 : Int), (8 : Int), (8 : Int), (8 : Int), (8 : Int), (8 : Int), (8 : Int), (8 : Int), (8 : Int), (8 : Int), (8 : Int), (8 : Int), (8 : Int), (8 : Int), (8 : Int), (8 : Int), (8 : Int), (8 : Int), (8 : Int), (8 : Int), (8 : Int), (8 : Int), (8 : Int), (8 : Int), (8 : Int), (8 : Int), (8 : Int), (8 : Int), (8 : Int), (8 : Int), (8 : Int), (8 : Int), (8 : Int), (8 : Int), (8 : Int), (8 : Int), (8 : Int), (8 : Int), (8 : Int), (8 : Int), (8 : Int), (8 : Int), (8 : Int), (8 : Int), (8 : Int), (8 : Int), (8 : Int), (8 : Int), (8 : Int), (8 : Int), (8 : Int), (8 : Int), (8 : Int), (8 : Int), (8 : Int), (8 : Int), (8 : Int), (8 : Int), (8 : Int), (8 : Int), (8 : Int), (8 : Int), (8 : Int), (8 : Int), (8 : Int), (8 : Int), (8 : Int), (8 : Int), (8 : Int), (8 : Int), (8 : Int), (8 : Int), (8 : Int), (8 : Int), (8 : Int), (8 : Int), (8 : Int), (8 : Int), (8 : Int), (8 : Int), (8 : Int), (8 : Int), (8 : Int), (8 : Int), (8 : Int), (8 : Int), (8 : Int), (8 : Int), (8 : Int), (8 : Int), (8 : Int), (8 : Int), (8 : Int), (8 : Int), (8 : Int), (8 : Int), (8 : Int), (8 : Int), (8 : Int), (8 : Int), (8 : Int), (8 : Int), (8 : Int), (8 : Int), (8 : Int), (8 : Int), (8 : Int), (8 : Int), (8 : Int), (8 : Int), (8 : Int), (8 : Int), (8 : Int), (8 : Int), (8 : Int), (8 : Int)] (Int.toNat (Go.IntKind.wrap (Go.IntKind.u8) (Int.fdiv (Int.fdiv x_ (65536 : Int)) (256 : Int)))) (0 : Int))))), ()), ((), ())))
      none)
     (brR (Go.Pon.inR (Go.IntKind.wrap (Go.IntKind.u8) (Int.fdiv x_ (65536 : Int))) (256 : Nat))
      (some (((Go.IntKind.wrap (Go.IntKind.i64) ((16 : Int) + (Go.IntKind.wrap (Go.IntKind.i64) (List.getD [(0 : Int), (1 : Int), (2 : Int), (2 : Int), (3 : Int), (3 : Int), (3 : Int), (3 : Int), (4 : Int), (4 : Int), (4 : Int), (4 : Int), (4 : Int), (4 : Int), (4 : Int), (4 : Int), (5 : Int), (5 : Int), (5 : Int), (5 : Int), (5 : Int), (5 : Int), (5 : Int), (5 : Int), (5 : Int), (5 : Int), (5 : Int), (5 : Int), (5 : Int), (5 : Int), (5 : Int), (5 : Int), (6 : Int), (6 : Int), (6 : Int), (6 : Int), (6 : Int), (6 : Int), (6 : Int), (6 : Int), (6 : Int), (6 : Int), (6 : Int), (6 : Int), (6 : Int), (6 : Int), (6 : Int), (6 : Int), (6 : Int), (6 : Int), (6 : Int), (6 : Int), (6 : Int), (6 : Int), (6 : Int), (6 : Int), (6 : Int), (6 : Int), (6 : Int), (6 : Int), (6 : Int), (6 : Int), (6 : Int), (6 : Int), (7 : Int), (7 : Int), (7 : Int), (7 : Int), (7 : Int), (7 : Int), (7 : Int), (7 : Int), (7 : Int), (7 : Int), (7 : Int), (7 : Int), (7 : Int), (7 : Int), (7 : Int), (7 : Int), (7 : Int), (7 : Int), (7 : Int), (7 : Int), (7 : Int), (7 : Int), (7 : Int), (7 : Int), (7 : Int), (7 : Int), (7 : Int), (7 : Int), (7 : Int), (7 : Int), (7 : Int), (7 : Int), (7 : Int), (7 : Int), (7 : Int), (7 : Int), (7 : Int), (7 : Int), (7 : Int), (7 : Int), (7 : Int), (7 : Int), (7 : Int), (7 : Int), (7 : Int), (7 : Int), (7 : Int), (7 : Int), (7 : Int), (7 : Int), (7 : Int), (7 : Int), (7 : Int), (7 : Int), (7 : Int), (7 : Int), (7 : Int), (7 : Int), (7 : Int), (7 : Int), (7 : Int), (7 : Int), (7 : Int), (7 : Int), (8 : Int), (8 : Int), (8 : Int), (8 : Int), (8 : Int), (8 : Int), (8 : Int), (8 : Int), (8 : Int), (8 : Int), (8 : Int), (8 : Int), (8 : Int), (8 : Int), (8 : Int), (8 : Int), (8 : Int), (8 : Int), (8 : Int), (8 : Int), (8 : Int), (8 : Int), (8 : Int), (8 : Int), (8 : Int), (8 : Int), (8 : Int), (8 : Int), (8 : Int), (8 : Int), (8 : Int), (8 : Int), (8 : Int), (8 : Int), (8 : Int), (8 : Int), (8 : Int), (8 : Int), (8 : Int), (8 : Int), (8 : Int), (8 : Int), (8 : Int), (8 : Int), (8 : Int), (8 : Int), (8 : Int), (8 : Int), (8 : Int), (8 : Int), (8 : Int), (8 : Int), (8 : Int), (8 : Int), (8 : Int), (8 : Int), (8 : Int), (8 : Int), (8 : Int), (8 : Int), (8 : Int), (8 : Int), (8 : Int), (8 : Int), (8 : Int), (8 : Int), (8 : Int), (8 : Int), (8 : Int), (8 : Int), (8 : Int), (8 : Int), (8 : Int), (8 : Int), (8 : Int), (8 : Int), (8 : Int), (8 : Int), (8 : Int), (8 : Int), (8 : Int), (8 : Int), (8 : Int), (8 : Int), (8 : Int), (8 : Int), (8 : Int), (8 : Int), (8 : Int), (8 : Int), (8 : Int), (8 : Int), (8 : Int), (8 : Int), (8 : Int), (8 : Int), (8 : Int), (8 : Int), (8 : Int), (8 : Int), (8 : Int), (8 : Int), (8 : Int), (8 : Int), (8 : Int), (8 : Int), (8 : Int), (8 : Int), (8 : Int), (8 : Int), (8 : Int), (8 : Int), (8 : Int), (8 : Int), (8 : Int), (8 : Int), (8 : Int), (8 : Int), (8 : Int), (8 : Int), (8 : Int), (8 : Int), (8 : Int), (8 : Int), (8 : Int), (8 : Int), (8 : Int), (8 : Int)] (Int.toNat (Go.IntKind.wrap (Go.IntKind.u8) (Int.fdiv x_ (65536 : Int)))) (0 : Int))))), ()), ((), ())))
      none))
    (brR (decide (x_ ≥ (256 : Int)))
     (brR (Go.Pon.inR (Go.IntKind.wrap (Go.IntKind.u8) (Int.fdiv x_ (256 : Int))) (256 : Nat))
      (some (((Go.IntKind.wrap (Go.IntKind.i64) ((8 : Int) + (Go.IntKind.wrap (Go.IntKind.i64) (List.getD [(0 : Int), (1 : Int), (2 : Int), (2 : Int), (3 : Int), (3 : Int), (3 : Int), (3 : Int), (4 : Int), (4 : Int), (4 : Int), (4 : Int), (4 : Int), (4 : Int), (4 : Int), (4 : Int), (5 : Int), (5 : Int), (5 : Int), (5 : Int), (5 : Int), (5 : Int), (5 : Int), (5 : Int), (5 : Int), (5 : Int), (5 : Int), (5 : Int), (5 : Int), (5 : Int), (5 : Int), (5 : Int), (6 : Int), (6 : Int), (6 : Int), (6 : Int), (6 : Int), (6 : Int), (6 : Int), (6 : Int), (6 : Int), (6 : Int), (6 : Int), (6 : Int), (6 : Int), (6 : Int), (6 : Int), (6 : Int), (6 : Int), (6 : Int), (6 : Int), (6 : Int), (6 : Int), (6 : Int), (6 : Int), (6 : Int), (6 : Int), (6 : Int), (6 : Int), (6 : Int), (6 : Int), (6 : Int), (6 : Int), (6 : Int), (7 : Int), (7 : Int), (7 : Int), (7 : Int), (7 : Int), (7 : Int), (7 : Int), (7 : Int), (7 : Int), (7 : Int), (7 : Int), (7 : Int), (7 : Int), (7 : Int), (7 : Int), (7 : Int), (7 : Int), (7 : Int), (7 : Int), (7 : Int), (7 : Int), (7 : Int), (7 : Int), (7 : Int), (7 : Int), (7 : Int), (7 : Int), (7 : Int), (7 : Int), (7 : Int), (7 : Int), (7 : Int), (7 : Int), (7 : Int), (7 : Int), (7 : Int), (7 : Int), (7 : Int), (7 : Int), (7 : Int), (7 : Int), (7 : Int), (7 : Int), (7 : Int), (7 : Int), (7 : Int), (7 : Int), (7 : Int), (7 : Int), (7 : Int), (7 : Int), (7 : Int), (7 : Int), (7 : Int), (7 : Int), (7 : Int), (7 : Int), (7 : Int), (7 : Int), (7 : Int), (7 : Int), (7 : Int), (7 : Int), (7 : Int), (8 : Int), (8 : Int), (8 : Int), (8 : Int), (8 : Int), (8 : Int), (8 : Int), (8 : Int), (8 : Int), (8 : Int), (8 : Int), (8 : Int), (8 : Int), (8 : Int), (8 : Int), (8 : Int), (8 : Int), (8 : Int), (8 : Int), (8 : Int), (8 : Int), (8 : Int), (8 : Int), (8 : Int), (8 : Int), (8 : Int), (8 : Int), (8 : Int), (8 : Int), (8 : Int), (8 : Int), (8 : Int), (8 : Int), (8 : Int), (8 : Int), (8 : Int), (8 : Int), (8 : Int), (8 : Int), (8 : Int), (8 : Int), (8 : Int), (8 : Int), (8 : Int), (8 : Int), (8 : Int), (8 : Int), (8 : Int), (8 : Int), (8 : Int), (8 : Int), (8 : Int), (8 : Int), (8 : Int), (8 : Int), (8 : Int), (8 : Int), (8 : Int), (8 : Int), (8 : Int), (8 : Int), (8 : Int), (8 : Int), (8 : Int), (8 : Int), (8 : Int), (8 : Int), (8 : Int), (8 : Int), (8 : Int), (8 : Int), (8 : Int), (8 : Int), (8 : Int), (8 : Int), (8 : Int), (8 : Int), (8 : Int), (8 : Int), (8 : Int), (8 : Int), (8 : Int), (8 : Int), (8 : Int), (8 : Int), (8 : Int), (8 : Int), (8 : Int), (8 : Int), (8 : Int), (8 : Int), (8 : Int), (8 : Int), (8 : Int), (8 : Int), (8 : Int), (8 : Int), (8 : Int), (8 : Int), (8 : Int), (8 : Int), (8 : Int), (8 : Int), (8 : Int), (8 : Int), (8 : Int), (8 : Int), (8 : Int), (8 : Int), (8 : Int), (8 : Int), (8 : Int), (8 : Int), (8 : Int), (8 : Int), (8 : Int), (8 : Int), (8 : Int), (8 : Int), (8 : Int), (8 : Int), (8 : Int), (8 : Int), (8 : Int), (8 : Int), (8 : Int), (8 : Int), (8 : Int)] (Int.toNat (Go.IntKind.wrap (Go.IntKind.u8) (Int.fdiv x_ (256 : Int)))) (0 : Int))))), ()), ((), ())))
      none)
     (brR (Go.Pon.inR (Go.IntKind.wrap (Go.IntKind.u8) x_) (256 : Nat))
      (some (((Go.IntKind.wrap (Go.IntKind.i64) ((0 : Int) + (Go.IntKind.wrap (Go.IntKind.i64) (List.getD [(0 : Int), (1 : Int), (2 : Int), (2 : Int), (3 : Int), (3 : Int), (3 : Int), (3 : Int), (4 : Int), (4 : Int), (4 : Int), (4 : Int), (4 : Int), (4 : Int), (4 : Int), (4 : Int), (5 : Int), (5 : Int), (5 : Int), (5 : Int), (5 : Int), (5 : Int), (5 : Int), (5 : Int), (5 : Int), (5 : Int), (5 : Int), (5 : Int), (5 : Int), (5 : Int), (5 : Int), (5 : Int), (6 : Int), (6 : Int), (6 : Int), (6 : Int), (6 : Int), (6 : Int), (6 : Int), (6 : Int), (6 : Int), (6 : Int), (6 : Int), (6 : Int), (6 : Int), (6 : Int), (6 : Int), (6 : Int), (6 : Int), (6 : Int), (6 : Int), (6 : Int), (6 : Int), (6 : Int), (6 : Int), (6 : Int), (6 : Int), (6 : Int), (6 : Int), (6 : Int), (6 : Int), (6 : Int), (6 : Int), (6 : Int), (7 : Int), (7 : Int), (7 : Int), (7 : Int), (7 : Int), (7 : Int), (7 : Int), (7 : Int), (7 : Int), (7 : Int), (7 : Int), (7 : Int), (7 : Int), (7 : Int), (7 : Int), (7 : Int), (7 : Int), (7 : Int), (7 : Int), (7 : Int), (7 : Int), (7 : Int), (7 : Int), (7 : Int), (7 : Int), (7 : Int), (7 : Int), (7 : Int), (7 : Int), (7 : Int), (7 : Int), (7 : Int), (7 : Int), (7 : Int), (7 : Int), (7 : Int), (7 : Int), (7 : Int), (7 : Int), (7 : Int), (7 : Int), (7 : Int), (7 : Int), (7 : Int), (7 : Int), (7 : Int), (7 : Int), (7 : Int), (7 : Int), (7 : Int), (7 : Int), (7 : Int), (7 : Int), (7 : Int), (7 : Int), (7 : Int), (7 : Int), (7 : Int), (7 : Int), (7 : Int), (7 : Int), (7 : Int), (7 : Int), (7 : Int), (8 : Int), (8 : Int), (8 : Int), (8 : Int), (8 : Int), (8 : Int), (8 : Int), (8 : Int), (8 : Int), (8 : Int), (8 : Int), (8 : Int), (8 : Int), (8 : Int), (8 : Int), (8 : Int), (8 : Int), (8 : Int), (8 : Int), (8 : Int), (8 : Int), (8 : Int), (8 : Int), (8 : Int), (8 : Int), (8 : Int), (8 : Int), (8 : Int), (8 : Int), (8 : Int), (8 : Int), (8 : Int), (8 : Int), (8 : Int), (8 : Int), (8 : Int), (8 : Int), (8 : Int), (8 : Int), (8 : Int), (8 : Int), (8 : Int), (8 : Int), (8 : Int), (8 : Int), (8 : Int), (8 : Int), (8 : Int), (8 : Int), (8 : Int), (8 : Int), (8 : Int), (8 : Int), (8 : Int), (8 : Int), (8 : Int), (8 : Int), (8 : Int), (8 : Int), (8 : Int), (8 : Int), (8 : Int), (8 : Int), (8 : Int), (8 : Int), (8 : Int), (8 : Int), (8 : Int), (8 : Int), (8 : Int), (8 : Int), (8 : Int), (8 : Int), (8 : Int), (8 : Int), (8 : Int), (8 : Int), (8 : Int), (8 : Int), (8 : Int), (8 : Int), (8 : Int), (8 : Int), (8 : Int), (8 : Int), (8 : Int), (8 : Int), (8 : Int), (8 : Int), (8 : Int), (8 : Int), (8 : Int), (8 : Int), (8 : Int), (8 : Int), (8 : Int), (8 : Int), (8 : Int), (8 : Int), (8 : Int), (8 : Int), (8 : Int), (8 : Int), (8 : Int), (8 : Int), (8 : Int), (8 : Int), (8 : Int), (8 : Int), (8 : Int), (8 : Int), (8 : Int), (8 : Int), (8 : Int), (8 : Int), (8 : Int), (8 : Int), (8 : Int), (8 : Int), (8 : Int), (8 : Int), (8 : Int), (8 : Int), (8 : Int), (8 : Int), (8 : Int), (8 : Int), (8 : Int)] (Int.toNat (Go.IntKind.wrap (Go.IntKind.u8) x_)) (0 : Int))))), ()), ((), ())))
      none))))

noncomputable def sol_math_bits_Len64 : F_math_bits_Len64 := fun x => T_math_bits_Len64 bigLoop x.1

end Go.Pon
/-
  What the functions of package uint256 compute (printed by a program of this work).
-/
set_option autoImplicit false
set_option linter.unusedVariables false
set_option maxRecDepth 100000
namespace Go.Pon
open Go

/-- pontage/uint256.FromUint64 -/
abbrev s_uint256_FromUint64 : Sig := ⟨[(.ro true (.int .u64))], [(.ro true (.arr 4 (.int .u64)))]⟩
abbrev F_uint256_FromUint64 := (Int × Unit) → Option (((List Int) × Unit) × (Unit × Unit))

noncomputable def T_uint256_FromUint64 (L : LoopD) (n_ : Int) : Option (((List Int) × Unit) × (Unit × Unit)) :=
  (some (([n_, (0 : Int), (0 : Int), (0 : Int)], ()), ((), ())))

noncomputable def sol_uint256_FromUint64 : F_uint256_FromUint64 := fun x => T_uint256_FromUint64 bigLoop x.1

/-- pontage/uint256.BitLen -/
abbrev s_uint256_BitLen : Sig := ⟨[(.ro true (.arr 4 (.int .u64)))], [(.ro true (.int .i64))]⟩
abbrev F_uint256_BitLen := ((List Int) × Unit) → Option ((Int × Unit) × (Unit × Unit))

noncomputable def T_uint256_BitLen_loop0 (c_math_bits_Len64 : F_math_bits_Len64) (again_0 : ((List Int) × (Int × Unit)) → Option ((Int × Unit) × (Unit × Unit))) (a_1 : (List Int)) (i_2 : Int) : Option ((Int × Unit) × (Unit × Unit)) :=
  (brR (decide (i_2 ≥ (0 : Int)))
   (brR (Go.Pon.inR i_2 (4 : Nat))
    (brR (!(decide ((List.getD a_1 (Int.toNat i_2) (0 : Int)) = (0 : Int))))
     (brR (Go.Pon.inR i_2 (4 : Nat))
      (Option.bind (c_math_bits_Len64 ((List.getD a_1 (Int.toNat i_2) (0 : Int)), ())) (fun (y_3 : ((Int × Unit) × (Unit × Unit))) =>
       (some (((Go.IntKind.wrap (Go.IntKind.i64) ((Go.IntKind.wrap (Go.IntKind.i64) ((64 : Int) * i_2)) + y_3.1.1)), ()), ((), ())))))
      none)
     (again_0 (a_1, ((Go.IntKind.wrap (Go.IntKind.i64) (i_2 - (1 : Int))), ()))))
    none)
   (some (((0 : Int), ()), ((), ()))))

noncomputable def T_uint256_BitLen (L : LoopD) (c_math_bits_Len64 : F_math_bits_Len64) (a_ : (List Int)) : Option ((Int × Unit) × (Unit × Unit)) :=
  (L _ _ (fun again x => T_uint256_BitLen_loop0 c_math_bits_Len64 again x.1 x.2.1) (a_, ((3 : Int), ())))

noncomputable def sol_uint256_BitLen : F_uint256_BitLen := fun x => T_uint256_BitLen bigLoop sol_math_bits_Len64 x.1

end Go.Pon
/-
  What the functions of package wire compute (printed by a program of this work).
-/
set_option autoImplicit false
set_option linter.unusedVariables false
set_option maxRecDepth 100000
namespace Go.Pon
open Go

/-- pontage/wire.encode -/
abbrev s_wire_encode : Sig := ⟨[(.ro true (.arr 4 (.int .u64)))], [(.own true (.int .u8))]⟩
abbrev F_wire_encode := ((List Int) × Unit) → Option (((List Int) × Unit) × (Unit × Unit))

noncomputable def T_wire_encode_loop0 (again_2 : ((List Int) × ((List Int) × (Int × Unit))) → Option (((List Int) × Unit) × (Unit × Unit))) (n_3 : (List Int)) (out_4 : (List Int)) (i_5 : Int) : Option (((List Int) × Unit) × (Unit × Unit)) :=
  (letR (Go.IntKind.wrap (Go.IntKind.i64) ((8 : Int) * (Int.tmod i_5 (8 : Int)))) fun (v_6 : Int) =>
  (brR (decide (i_5 ≥ (0 : Int)))
   (brR (Go.Pon.inR (Go.IntKind.wrap (Go.IntKind.i64) (Int.tdiv i_5 (8 : Int))) (4 : Nat))
    (brR (decide ((0 : Int) ≤ v_6))
     (brR (Go.Pon.roomy ((List.length out_4) + (1 : Nat)) (Go.Pon.Ty.int Go.IntKind.u8))
      (again_2 (n_3, ((List.append out_4 [(Go.IntKind.wrap (Go.IntKind.u8) (Int.fdiv (List.getD n_3 (Int.toNat (Go.IntKind.wrap (Go.IntKind.i64) (Int.tdiv i_5 (8 : Int)))) (0 : Int)) ((2 : Int) ^ (min (Int.toNat v_6) (64 : Nat)))))]), ((Go.IntKind.wrap (Go.IntKind.i64) (i_5 - (1 : Int))), ()))))
      none)
     none)
    none)
   (some ((out_4, ()), ((), ())))))

noncomputable def T_wire_encode (L : LoopD) (c_uint256_BitLen : F_uint256_BitLen) (n_ : (List Int)) : Option (((List Int) × Unit) × (Unit × Unit)) :=
  (Option.bind (c_uint256_BitLen (n_, ())) (fun (y_0 : ((Int × Unit) × (Unit × Unit))) =>
   (letR (Go.IntKind.wrap (Go.IntKind.i64) (Int.tdiv (Go.IntKind.wrap (Go.IntKind.i64) (y_0.1.1 + (7 : Int))) (8 : Int))) fun (v_1 : Int) =>
   (L _ _ (fun again x => T_wire_encode_loop0 again x.1 x.2.1 x.2.2.1) (n_, ([(Go.IntKind.wrap (Go.IntKind.u8) v_1)], ((Go.IntKind.wrap (Go.IntKind.i64) (v_1 - (1 : Int))), ())))))))

noncomputable def sol_wire_encode : F_wire_encode := fun x => T_wire_encode bigLoop sol_uint256_BitLen x.1

/-- pontage/wire.AppendUint256 -/
abbrev s_wire_AppendUint256 : Sig := ⟨[(.ro false (.slice (.int .u8))), (.ro true (.arr 4 (.int .u64)))], [(.own true (.int .u8))]⟩
abbrev F_wire_AppendUint256 := ((List Int) × ((List Int) × Unit)) → Option (((List Int) × Unit) × (Unit × (Unit × Unit)))

noncomputable def T_wire_AppendUint256 (L : LoopD) (c_wire_encode : F_wire_encode) (c_slices_Concat_byte_byte : F_slices_Concat_byte_byte) (b_ : (List Int)) (n_ : (List Int)) : Option (((List Int) × Unit) × (Unit × (Unit × Unit))) :=
  (Option.bind (c_wire_encode (n_, ())) (fun (y_0 : (((List Int) × Unit) × (Unit × Unit))) =>
   (Option.bind (c_slices_Concat_byte_byte ([b_, y_0.1.1], ())) (fun (y_1 : (((List Int) × Unit) × (Unit × Unit))) =>
    (some ((y_1.1.1, ()), ((), ((), ()))))))))

noncomputable def sol_wire_AppendUint256 : F_wire_AppendUint256 := fun x => T_wire_AppendUint256 bigLoop sol_wire_encode sol_slices_Concat_byte_byte x.1 x.2.1

/-- pontage/wire.AppendUint64 -/
abbrev s_wire_AppendUint64 : Sig := ⟨[(.ro false (.slice (.int .u8))), (.ro true (.int .u64))], [(.own true (.int .u8))]⟩
abbrev F_wire_AppendUint64 := ((List Int) × (Int × Unit)) → Option (((List Int) × Unit) × (Unit × (Unit × Unit)))

noncomputable def T_wire_AppendUint64 (L : LoopD) (c_uint256_FromUint64 : F_uint256_FromUint64) (c_wire_AppendUint256 : F_wire_AppendUint256) (b_ : (List Int)) (n_ : Int) : Option (((List Int) × Unit) × (Unit × (Unit × Unit))) :=
  (Option.bind (c_uint256_FromUint64 (n_, ())) (fun (y_0 : (((List Int) × Unit) × (Unit × Unit))) =>
   (Option.bind (c_wire_AppendUint256 (b_, (y_0.1.1, ()))) (fun (y_1 : (((List Int) × Unit) × (Unit × (Unit × Unit)))) =>
    (some ((y_1.1.1, ()), ((), ((), ()))))))))

noncomputable def sol_wire_AppendUint64 : F_wire_AppendUint64 := fun x => T_wire_AppendUint64 bigLoop sol_uint256_FromUint64 sol_wire_AppendUint256 x.1 x.2.1

/-- pontage/wire.AppendBytes -/
abbrev s_wire_AppendBytes : Sig := ⟨[(.ro false (.slice (.int .u8))), (.ro false (.slice (.int .u8)))], [(.own true (.int .u8))]⟩
abbrev F_wire_AppendBytes := ((List Int) × ((List Int) × Unit)) → Option (((List Int) × Unit) × (Unit × (Unit × Unit)))

noncomputable def T_wire_AppendBytes (L : LoopD) (c_uint256_FromUint64 : F_uint256_FromUint64) (c_wire_encode : F_wire_encode) (c_slices_Concat_byte_byte : F_slices_Concat_byte_byte) (b_ : (List Int)) (x_ : (List Int)) : Option (((List Int) × Unit) × (Unit × (Unit × Unit))) :=
  (Option.bind (c_uint256_FromUint64 ((Go.IntKind.wrap (Go.IntKind.u64) (((List.length x_) : Nat) : Int)), ())) (fun (y_0 : (((List Int) × Unit) × (Unit × Unit))) =>
   (Option.bind (c_wire_encode (y_0.1.1, ())) (fun (y_1 : (((List Int) × Unit) × (Unit × Unit))) =>
    (Option.bind (c_slices_Concat_byte_byte ([b_, y_1.1.1, x_], ())) (fun (y_2 : (((List Int) × Unit) × (Unit × Unit))) =>
     (some ((y_2.1.1, ()), ((), ((), ()))))))))))

noncomputable def sol_wire_AppendBytes : F_wire_AppendBytes := fun x => T_wire_AppendBytes bigLoop sol_uint256_FromUint64 sol_wire_encode sol_slices_Concat_byte_byte x.1 x.2.1

/-- pontage/wire.readUint -/
abbrev s_wire_readUint : Sig := ⟨[(.ro false (.slice (.int .u8))), (.ro true (.int .i64)), (.ro true (.int .i64))], [(.ro true (.arr 4 (.int .u64))), (.ro true (.int .i64)), (.ro true (.int .i64))]⟩
abbrev F_wire_readUint := ((List Int) × (Int × (Int × Unit))) → Option (((List Int) × (Int × (Int × Unit))) × (Unit × (Unit × (Unit × Unit))))

noncomputable def T_wire_readUint_loop0 (again_6 : (Int × ((List Int) × ((List Int) × (Int × ((List Int) × (Int × (Int × Unit))))))) → Option (((List Int) × (Int × (Int × Unit))) × (Unit × (Unit × (Unit × Unit))))) (at_7 : Int) (t6_8 : (List Int)) (rest_9 : (List Int)) (k_10 : Int) (n_11 : (List Int)) (t56_12 : Int) (t57_13 : Int) : Option (((List Int) × (Int × (Int × Unit))) × (Unit × (Unit × (Unit × Unit)))) :=
  (letR (Go.IntKind.wrap (Go.IntKind.i64) ((Go.IntKind.wrap (Go.IntKind.i64) (k_10 - (1 : Int))) - t57_13)) fun (v_14 : Int) =>
  (letR (Go.IntKind.wrap (Go.IntKind.i64) (Int.tdiv v_14 (8 : Int))) fun (v_15 : Int) =>
  (letR (Go.IntKind.wrap (Go.IntKind.i64) ((8 : Int) * (Int.tmod v_14 (8 : Int)))) fun (v_16 : Int) =>
  (brR (decide (t57_13 < t56_12))
   (brR (Go.Pon.inR v_15 (4 : Nat))
    (brR (Go.Pon.inR t57_13 (List.length rest_9))
     (brR (decide ((0 : Int) ≤ v_16))
      (brR (Go.Pon.inR v_15 (4 : Nat))
       (again_6 (at_7, (t6_8, (rest_9, (k_10, ((List.set n_11 (Int.toNat v_15) (Go.IntKind.wrap (Go.IntKind.u64) (((BitVec.toNat ((BitVec.ofInt (64 : Nat) (List.getD n_11 (Int.toNat v_15) (0 : Int))) ||| (BitVec.ofInt (64 : Nat) (Go.IntKind.wrap (Go.IntKind.u64) ((Go.IntKind.wrap (Go.IntKind.u64) (List.getD rest_9 (Int.toNat t57_13) (0 : Int))) * ((2 : Int) ^ (min (Int.toNat v_16) (64 : Nat)))))))) : Nat) : Int))), (t56_12, ((Go.IntKind.wrap (Go.IntKind.i64) (t57_13 + (1 : Int))), ()))))))))
       none)
      none)
     none)
    none)
   (some ((n_11, ((Go.IntKind.wrap (Go.IntKind.i64) ((Go.IntKind.wrap (Go.IntKind.i64) (at_7 + (1 : Int))) + k_10)), ((0 : Int), ()))), ((), ((), ((), ())))))))))

noncomputable def T_wire_readUint (L : LoopD) (b_ : (List Int)) (at_ : Int) (most_ : Int) : Option (((List Int) × (Int × (Int × Unit))) × (Unit × (Unit × (Unit × Unit)))) :=
  (letR (List.take ((List.length b_) - (Int.toNat at_)) (List.drop (Int.toNat at_) b_)) fun (v_0 : (List Int)) =>
  (letR (List.length v_0) fun (v_1 : Nat) =>
  (letR ((v_1 : Nat) : Int) fun (v_2 : Int) =>
  (letR (Go.IntKind.wrap (Go.IntKind.i64) (List.getD v_0 (0 : Nat) (0 : Int))) fun (v_3 : Int) =>
  (letR (List.take (v_1 - (1 : Nat)) (List.drop (1 : Nat) v_0)) fun (v_4 : (List Int)) =>
  (letR (List.length v_4) fun (v_5 : Nat) =>
  (brR (decide (at_ < (0 : Int)))
   (some (([(0 : Int), (0 : Int), (0 : Int), (0 : Int)], ((0 : Int), ((2 : Int), ()))), ((), ((), ((), ())))))
   (brR (decide (at_ > (((List.length b_) : Nat) : Int)))
    (some (([(0 : Int), (0 : Int), (0 : Int), (0 : Int)], ((0 : Int), ((2 : Int), ()))), ((), ((), ((), ())))))
    (brR ((decide ((0 : Int) ≤ at_)) && (decide (at_ ≤ (((List.length b_) : Nat) : Int))))
     (brR (decide (v_2 = (0 : Int)))
      (some (([(0 : Int), (0 : Int), (0 : Int), (0 : Int)], ((0 : Int), ((3 : Int), ()))), ((), ((), ((), ())))))
      (brR (Go.Pon.inR (0 : Int) v_1)
       (brR (decide ((1 : Int) ≤ v_2))
        (brR (decide (v_3 > most_))
         (some (([(0 : Int), (0 : Int), (0 : Int), (0 : Int)], ((0 : Int), ((3 : Int), ()))), ((), ((), ((), ())))))
         (brR (decide (v_3 > ((v_5 : Nat) : Int)))
          (some (([(0 : Int), (0 : Int), (0 : Int), (0 : Int)], ((0 : Int), ((3 : Int), ()))), ((), ((), ((), ())))))
          (brR (decide (v_3 > (0 : Int)))
           (brR (Go.Pon.inR (0 : Int) v_5)
            (brR (decide ((List.getD v_4 (0 : Nat) (0 : Int)) = (0 : Int)))
             (some (([(0 : Int), (0 : Int), (0 : Int), (0 : Int)], ((0 : Int), ((3 : Int), ()))), ((), ((), ((), ())))))
             (L _ _ (fun again x => T_wire_readUint_loop0 again x.1 x.2.1 x.2.2.1 x.2.2.2.1 x.2.2.2.2.1 x.2.2.2.2.2.1 x.2.2.2.2.2.2.1) (at_, ([(0 : Int), (0 : Int), (0 : Int), (0 : Int)], (v_4, (v_3, ([(0 : Int), (0 : Int), (0 : Int), (0 : Int)], (v_3, ((0 : Int), ())))))))))
            none)
           (L _ _ (fun again x => T_wire_readUint_loop0 again x.1 x.2.1 x.2.2.1 x.2.2.2.1 x.2.2.2.2.1 x.2.2.2.2.2.1 x.2.2.2.2.2.2.1) (at_, ([(0 : Int), (0 : Int), (0 : Int), (0 : Int)], (v_4, (v_3, ([(0 : Int), (0 : Int), (0 : Int), (0 : Int)], (v_3, ((0 : Int), ())))))))))))
        none)
       none))
     none)))))))))

noncomputable def sol_wire_readUint : F_wire_readUint := fun x => T_wire_readUint bigLoop x.1 x.2.1 x.2.2.1

/-- pontage/wire.ReadUint64 -/
abbrev s_wire_ReadUint64 : Sig := ⟨[(.ro false (.slice (.int .u8))), (.ro true (.int .i64))], [(.ro true (.int .u64)), (.ro true (.int .i64)), (.ro true (.int .i64))]⟩
abbrev F_wire_ReadUint64 := ((List Int) × (Int × Unit)) → Option ((Int × (Int × (Int × Unit))) × (Unit × (Unit × Unit)))

noncomputable def T_wire_ReadUint64 (L : LoopD) (c_wire_readUint : F_wire_readUint) (b_ : (List Int)) (at_ : Int) : Option ((Int × (Int × (Int × Unit))) × (Unit × (Unit × Unit))) :=
  (Option.bind (c_wire_readUint (b_, (at_, ((8 : Int), ())))) (fun (y_0 : (((List Int) × (Int × (Int × Unit))) × (Unit × (Unit × (Unit × Unit))))) =>
   (some (((List.getD y_0.1.1 (0 : Nat) (0 : Int)), (y_0.1.2.1, (y_0.1.2.2.1, ()))), ((), ((), ()))))))

noncomputable def sol_wire_ReadUint64 : F_wire_ReadUint64 := fun x => T_wire_ReadUint64 bigLoop sol_wire_readUint x.1 x.2.1

/-- pontage/wire.ReadUint256 -/
abbrev s_wire_ReadUint256 : Sig := ⟨[(.ro false (.slice (.int .u8))), (.ro true (.int .i64))], [(.ro true (.arr 4 (.int .u64))), (.ro true (.int .i64)), (.ro true (.int .i64))]⟩
abbrev F_wire_ReadUint256 := ((List Int) × (Int × Unit)) → Option (((List Int) × (Int × (Int × Unit))) × (Unit × (Unit × Unit)))

noncomputable def T_wire_ReadUint256 (L : LoopD) (c_wire_readUint : F_wire_readUint) (b_ : (List Int)) (at_ : Int) : Option (((List Int) × (Int × (Int × Unit))) × (Unit × (Unit × Unit))) :=
  (Option.bind (c_wire_readUint (b_, (at_, ((32 : Int), ())))) (fun (y_0 : (((List Int) × (Int × (Int × Unit))) × (Unit × (Unit × (Unit × Unit))))) =>
   (some ((y_0.1.1, (y_0.1.2.1, (y_0.1.2.2.1, ()))), ((), ((), ()))))))

noncomputable def sol_wire_ReadUint256 : F_wire_ReadUint256 := fun x => T_wire_ReadUint256 bigLoop sol_wire_readUint x.1 x.2.1

/-- pontage/wire.ReadBytes -/
abbrev s_wire_ReadBytes : Sig := ⟨[(.ro false (.slice (.int .u8))), (.ro true (.int .i64))], [(.own true (.int .u8)), (.ro true (.int .i64)), (.ro true (.int .i64))]⟩
abbrev F_wire_ReadBytes := ((List Int) × (Int × Unit)) → Option (((List Int) × (Int × (Int × Unit))) × (Unit × (Unit × Unit)))

noncomputable def T_wire_ReadBytes (L : LoopD) (c_wire_ReadUint64 : F_wire_ReadUint64) (c_slices_Clone_byte_byte : F_slices_Clone_byte_byte) (b_ : (List Int)) (at_ : Int) : Option (((List Int) × (Int × (Int × Unit))) × (Unit × (Unit × Unit))) :=
  (Option.bind (c_wire_ReadUint64 (b_, (at_, ()))) (fun (y_0 : ((Int × (Int × (Int × Unit))) × (Unit × (Unit × Unit)))) =>
   (letR (Go.IntKind.wrap (Go.IntKind.i64) (y_0.1.2.1 + (Go.IntKind.wrap (Go.IntKind.i64) y_0.1.1))) fun (v_1 : Int) =>
   (brR (!(decide (y_0.1.2.2.1 = (0 : Int))))
    (some ((([] : List Int), ((0 : Int), (y_0.1.2.2.1, ()))), ((), ((), ()))))
    (brR (decide (y_0.1.1 > (Go.IntKind.wrap (Go.IntKind.u64) (Go.IntKind.wrap (Go.IntKind.i64) ((((List.length b_) : Nat) : Int) - y_0.1.2.1)))))
     (some ((([] : List Int), ((0 : Int), ((3 : Int), ()))), ((), ((), ()))))
     (brR (((decide ((0 : Int) ≤ y_0.1.2.1)) && (decide (y_0.1.2.1 ≤ v_1))) && (decide (v_1 ≤ (((List.length b_) : Nat) : Int))))
      (Option.bind (c_slices_Clone_byte_byte ((List.take ((Int.toNat v_1) - (Int.toNat y_0.1.2.1)) (List.drop (Int.toNat y_0.1.2.1) b_)), ())) (fun (y_2 : (((List Int) × Unit) × (Unit × Unit))) =>
       (some ((y_2.1.1, (v_1, ((0 : Int), ()))), ((), ((), ()))))))
      none))))))

noncomputable def sol_wire_ReadBytes : F_wire_ReadBytes := fun x => T_wire_ReadBytes bigLoop sol_wire_ReadUint64 sol_slices_Clone_byte_byte x.1 x.2.1

/-- pontage/wire.AppendInt256 -/
abbrev s_wire_AppendInt256 : Sig := ⟨[(.ro false (.slice (.int .u8))), (.ro true (.pair .bool (.pair (.arr 4 (.int .u64)) .unit)))], [(.own true (.int .u8))]⟩
abbrev F_wire_AppendInt256 := ((List Int) × ((Bool × ((List Int) × Unit)) × Unit)) → Option (((List Int) × Unit) × (Unit × (Unit × Unit)))

noncomputable def T_wire_AppendInt256 (L : LoopD) (c_int256_Valid : F_int256_Valid) (c_slices_Clone_byte_byte : F_slices_Clone_byte_byte) (c_wire_encode : F_wire_encode) (c_slices_Concat_byte_byte : F_slices_Concat_byte_byte) (b_ : (List Int)) (a_ : (Bool × ((List Int) × Unit))) : Option (((List Int) × Unit) × (Unit × (Unit × Unit))) :=
  (Option.bind (c_int256_Valid (a_, ())) (fun (y_0 : ((Bool × Unit) × (Unit × Unit))) =>
   (brR (!y_0.1.1)
    (Option.bind (c_slices_Clone_byte_byte (b_, ())) (fun (y_1 : (((List Int) × Unit) × (Unit × Unit))) =>
     (some ((y_1.1.1, ()), ((), ((), ()))))))
    (brR a_.1
     (Option.bind (c_wire_encode (a_.2.1, ())) (fun (y_2 : (((List Int) × Unit) × (Unit × Unit))) =>
      (Option.bind (c_slices_Concat_byte_byte ([b_, [(1 : Int)], y_2.1.1], ())) (fun (y_3 : (((List Int) × Unit) × (Unit × Unit))) =>
       (some ((y_3.1.1, ()), ((), ((), ()))))))))
     (Option.bind (c_wire_encode (a_.2.1, ())) (fun (y_4 : (((List Int) × Unit) × (Unit × Unit))) =>
      (Option.bind (c_slices_Concat_byte_byte ([b_, [(0 : Int)], y_4.1.1], ())) (fun (y_5 : (((List Int) × Unit) × (Unit × Unit))) =>
       (some ((y_5.1.1, ()), ((), ((), ()))))))))))))

noncomputable def sol_wire_AppendInt256 : F_wire_AppendInt256 := fun x => T_wire_AppendInt256 bigLoop sol_int256_Valid sol_slices_Clone_byte_byte sol_wire_encode sol_slices_Concat_byte_byte x.1 x.2.1

/-- pontage/wire.ReadInt256 -/
abbrev s_wire_ReadInt256 : Sig := ⟨[(.ro false (.slice (.int .u8))), (.ro true (.int .i64))], [(.ro true (.pair .bool (.pair (.arr 4 (.int .u64)) .unit))), (.ro true (.int .i64)), (.ro true (.int .i64))]⟩
abbrev F_wire_ReadInt256 := ((List Int) × (Int × Unit)) → Option (((Bool × ((List Int) × Unit)) × (Int × (Int × Unit))) × (Unit × (Unit × Unit)))

noncomputable def T_wire_ReadInt256 (L : LoopD) (c_wire_ReadUint256 : F_wire_ReadUint256) (c_int256_Valid : F_int256_Valid) (b_ : (List Int)) (at_ : Int) : Option (((Bool × ((List Int) × Unit)) × (Int × (Int × Unit))) × (Unit × (Unit × Unit))) :=
  (brR (decide (at_ < (0 : Int)))
   (some (((false, ([(0 : Int), (0 : Int), (0 : Int), (0 : Int)], ())), ((0 : Int), ((2 : Int), ()))), ((), ((), ()))))
   (brR (decide (at_ > (((List.length b_) : Nat) : Int)))
    (some (((false, ([(0 : Int), (0 : Int), (0 : Int), (0 : Int)], ())), ((0 : Int), ((2 : Int), ()))), ((), ((), ()))))
    (brR (decide (at_ = (((List.length b_) : Nat) : Int)))
     (some (((false, ([(0 : Int), (0 : Int), (0 : Int), (0 : Int)], ())), ((0 : Int), ((3 : Int), ()))), ((), ((), ()))))
     (brR (Go.Pon.inR at_ (List.length b_))
      (brR (decide ((List.getD b_ (Int.toNat at_) (0 : Int)) > (1 : Int)))
       (some (((false, ([(0 : Int), (0 : Int), (0 : Int), (0 : Int)], ())), ((0 : Int), ((3 : Int), ()))), ((), ((), ()))))
       (Option.bind (c_wire_ReadUint256 (b_, ((Go.IntKind.wrap (Go.IntKind.i64) (at_ + (1 : Int))), ()))) (fun (y_0 : (((List Int) × (Int × (Int × Unit))) × (Unit × (Unit × Unit)))) =>
        (brR (Go.Pon.inR at_ (List.length b_))
         (brR (!(decide (y_0.1.2.2.1 = (0 : Int))))
          (some (((false, ([(0 : Int), (0 : Int), (0 : Int), (0 : Int)], ())), ((0 : Int), ((3 : Int), ()))), ((), ((), ()))))
          (Option.bind (c_int256_Valid (((decide ((List.getD b_ (Int.toNat at_) (0 : Int)) = (1 : Int))), (y_0.1.1, ())), ())) (fun (y_1 : ((Bool × Unit) × (Unit × Unit))) =>
           (brR (!y_1.1.1)
            (some (((false, ([(0 : Int), (0 : Int), (0 : Int), (0 : Int)], ())), ((0 : Int), ((3 : Int), ()))), ((), ((), ()))))
            (some ((((decide ((List.getD b_ (Int.toNat at_) (0 : Int)) = (1 : Int))), (y_0.1.1, ())), (y_0.1.2.1, ((0 : Int), ()))), ((), ((), ()))))))))
         none))))
      none))))

noncomputable def sol_wire_ReadInt256 : F_wire_ReadInt256 := fun x => T_wire_ReadInt256 bigLoop sol_wire_ReadUint256 sol_int256_Valid x.1 x.2.1

end Go.Pon
/-
  What the functions of package wirereader compute (printed by a program of this work).
-/
set_option autoImplicit false
set_option linter.unusedVariables false
set_option maxRecDepth 100000
namespace Go.Pon
open Go

/-- pontage/wirereader.New -/
abbrev s_wirereader_New : Sig := ⟨[(.ro false (.slice (.int .u8)))], [(.ptr (.pair (.ro false (.slice (.int .u8))) (.pair (.ro true (.int .i64)) (.pair (.ro true .bool) (.ro true .unit)))))]⟩
abbrev F_wirereader_New := ((List Int) × Unit) → Option ((((List Int) × (Int × (Bool × Unit))) × Unit) × (Unit × Unit))

noncomputable def T_wirereader_New (L : LoopD) (b_ : (List Int)) : Option ((((List Int) × (Int × (Bool × Unit))) × Unit) × (Unit × Unit)) :=
  (some (((b_, ((0 : Int), (false, ()))), ()), ((), ())))

noncomputable def sol_wirereader_New : F_wirereader_New := fun x => T_wirereader_New bigLoop x.1

/-- (*pontage/wirereader.Reader).advance -/
abbrev s_wirereader_Reader_advance : Sig := ⟨[(.ptr (.pair (.ro false (.slice (.int .u8))) (.pair (.ro true (.int .i64)) (.pair (.ro true .bool) (.ro true .unit))))), (.ro true (.int .i64)), (.ro true (.int .i64))], [(.ro true .bool)]⟩
abbrev F_wirereader_Reader_advance := (((List Int) × (Int × (Bool × Unit))) × (Int × (Int × Unit))) → Option ((Bool × Unit) × (((List Int) × (Int × (Bool × Unit))) × (Unit × (Unit × Unit))))

noncomputable def T_wirereader_Reader_advance (L : LoopD) (s_ : ((List Int) × (Int × (Bool × Unit)))) (to_ : Int) (e_ : Int) : Option ((Bool × Unit) × (((List Int) × (Int × (Bool × Unit))) × (Unit × (Unit × Unit)))) :=
  (brR s_.2.2.1
   (some ((false, ()), ((s_.1, (s_.2.1, (true, s_.2.2.2))), ((), ((), ())))))
   (brR (!(decide (e_ = (0 : Int))))
    (some ((false, ()), ((s_.1, (s_.2.1, (true, s_.2.2.2))), ((), ((), ())))))
    (some ((true, ()), ((s_.1, (to_, (s_.2.2.1, s_.2.2.2))), ((), ((), ())))))))

noncomputable def sol_wirereader_Reader_advance : F_wirereader_Reader_advance := fun x => T_wirereader_Reader_advance bigLoop x.1 x.2.1 x.2.2.1

/-- (*pontage/wirereader.Reader).Uint64 -/
abbrev s_wirereader_Reader_Uint64 : Sig := ⟨[(.ptr (.pair (.ro false (.slice (.int .u8))) (.pair (.ro true (.int .i64)) (.pair (.ro true .bool) (.ro true .unit)))))], [(.ro true (.int .u64))]⟩
abbrev F_wirereader_Reader_Uint64 := (((List Int) × (Int × (Bool × Unit))) × Unit) → Option ((Int × Unit) × (((List Int) × (Int × (Bool × Unit))) × Unit))

noncomputable def T_wirereader_Reader_Uint64 (L : LoopD) (c_wire_ReadUint64 : F_wire_ReadUint64) (c_wirereader_Reader_advance : F_wirereader_Reader_advance) (s_ : ((List Int) × (Int × (Bool × Unit)))) : Option ((Int × Unit) × (((List Int) × (Int × (Bool × Unit))) × Unit)) :=
  (Option.bind (c_wire_ReadUint64 (s_.1, (s_.2.1, ()))) (fun (y_0 : ((Int × (Int × (Int × Unit))) × (Unit × (Unit × Unit)))) =>
   (Option.bind (c_wirereader_Reader_advance ((s_.1, (s_.2.1, (s_.2.2.1, s_.2.2.2))), (y_0.1.2.1, (y_0.1.2.2.1, ())))) (fun (y_1 : ((Bool × Unit) × (((List Int) × (Int × (Bool × Unit))) × (Unit × (Unit × Unit))))) =>
    (brR (!y_1.1.1)
     (some (((0 : Int), ()), ((y_1.2.1.1, (y_1.2.1.2.1, (y_1.2.1.2.2.1, y_1.2.1.2.2.2))), ())))
     (some ((y_0.1.1, ()), ((y_1.2.1.1, (y_1.2.1.2.1, (y_1.2.1.2.2.1, y_1.2.1.2.2.2))), ()))))))))

noncomputable def sol_wirereader_Reader_Uint64 : F_wirereader_Reader_Uint64 := fun x => T_wirereader_Reader_Uint64 bigLoop sol_wire_ReadUint64 sol_wirereader_Reader_advance x.1

/-- (*pontage/wirereader.Reader).Uint256 -/
abbrev s_wirereader_Reader_Uint256 : Sig := ⟨[(.ptr (.pair (.ro false (.slice (.int .u8))) (.pair (.ro true (.int .i64)) (.pair (.ro true .bool) (.ro true .unit)))))], [(.ro true (.arr 4 (.int .u64)))]⟩
abbrev F_wirereader_Reader_Uint256 := (((List Int) × (Int × (Bool × Unit))) × Unit) → Option (((List Int) × Unit) × (((List Int) × (Int × (Bool × Unit))) × Unit))

noncomputable def T_wirereader_Reader_Uint256 (L : LoopD) (c_wire_ReadUint256 : F_wire_ReadUint256) (c_wirereader_Reader_advance : F_wirereader_Reader_advance) (s_ : ((List Int) × (Int × (Bool × Unit)))) : Option (((List Int) × Unit) × (((List Int) × (Int × (Bool × Unit))) × Unit)) :=
  (Option.bind (c_wire_ReadUint256 (s_.1, (s_.2.1, ()))) (fun (y_0 : (((List Int) × (Int × (Int × Unit))) × (Unit × (Unit × Unit)))) =>
   (Option.bind (c_wirereader_Reader_advance ((s_.1, (s_.2.1, (s_.2.2.1, s_.2.2.2))), (y_0.1.2.1, (y_0.1.2.2.1, ())))) (fun (y_1 : ((Bool × Unit) × (((List Int) × (Int × (Bool × Unit))) × (Unit × (Unit × Unit))))) =>
    (brR (!y_1.1.1)
     (some (([(0 : Int), (0 : Int), (0 : Int), (0 : Int)], ()), ((y_1.2.1.1, (y_1.2.1.2.1, (y_1.2.1.2.2.1, y_1.2.1.2.2.2))), ())))
     (some ((y_0.1.1, ()), ((y_1.2.1.1, (y_1.2.1.2.1, (y_1.2.1.2.2.1, y_1.2.1.2.2.2))), ()))))))))

noncomputable def sol_wirereader_Reader_Uint256 : F_wirereader_Reader_Uint256 := fun x => T_wirereader_Reader_Uint256 bigLoop sol_wire_ReadUint256 sol_wirereader_Reader_advance x.1

/-- (*pontage/wirereader.Reader).Bytes -/
abbrev s_wirereader_Reader_Bytes : Sig := ⟨[(.ptr (.pair (.ro false (.slice (.int .u8))) (.pair (.ro true (.int .i64)) (.pair (.ro true .bool) (.ro true .unit)))))], [(.own true (.int .u8))]⟩
abbrev F_wirereader_Reader_Bytes := (((List Int) × (Int × (Bool × Unit))) × Unit) → Option (((List Int) × Unit) × (((List Int) × (Int × (Bool × Unit))) × Unit))

noncomputable def T_wirereader_Reader_Bytes (L : LoopD) (c_wire_ReadBytes : F_wire_ReadBytes) (c_wirereader_Reader_advance : F_wirereader_Reader_advance) (s_ : ((List Int) × (Int × (Bool × Unit)))) : Option (((List Int) × Unit) × (((List Int) × (Int × (Bool × Unit))) × Unit)) :=
  (Option.bind (c_wire_ReadBytes (s_.1, (s_.2.1, ()))) (fun (y_0 : (((List Int) × (Int × (Int × Unit))) × (Unit × (Unit × Unit)))) =>
   (Option.bind (c_wirereader_Reader_advance ((s_.1, (s_.2.1, (s_.2.2.1, s_.2.2.2))), (y_0.1.2.1, (y_0.1.2.2.1, ())))) (fun (y_1 : ((Bool × Unit) × (((List Int) × (Int × (Bool × Unit))) × (Unit × (Unit × Unit))))) =>
    (brR (!y_1.1.1)
     (some ((([] : List Int), ()), ((y_1.2.1.1, (y_1.2.1.2.1, (y_1.2.1.2.2.1, y_1.2.1.2.2.2))), ())))
     (some ((y_0.1.1, ()), ((y_1.2.1.1, (y_1.2.1.2.1, (y_1.2.1.2.2.1, y_1.2.1.2.2.2))), ()))))))))

noncomputable def sol_wirereader_Reader_Bytes : F_wirereader_Reader_Bytes := fun x => T_wirereader_Reader_Bytes bigLoop sol_wire_ReadBytes sol_wirereader_Reader_advance x.1

/-- (*pontage/wirereader.Reader).Done -/
abbrev s_wirereader_Reader_Done : Sig := ⟨[(.ptr (.pair (.ro false (.slice (.int .u8))) (.pair (.ro true (.int .i64)) (.pair (.ro true .bool) (.ro true .unit)))))], [(.ro true .bool)]⟩
abbrev F_wirereader_Reader_Done := (((List Int) × (Int × (Bool × Unit))) × Unit) → Option ((Bool × Unit) × (((List Int) × (Int × (Bool × Unit))) × Unit))

noncomputable def T_wirereader_Reader_Done (L : LoopD) (s_ : ((List Int) × (Int × (Bool × Unit)))) : Option ((Bool × Unit) × (((List Int) × (Int × (Bool × Unit))) × Unit)) :=
  (brR (!s_.2.2.1)
   (some (((decide (s_.2.1 = (((List.length s_.1) : Nat) : Int))), ()), ((s_.1, (s_.2.1, (s_.2.2.1, s_.2.2.2))), ())))
   (some ((false, ()), ((s_.1, (s_.2.1, (s_.2.2.1, s_.2.2.2))), ()))))

noncomputable def sol_wirereader_Reader_Done : F_wirereader_Reader_Done := fun x => T_wirereader_Reader_Done bigLoop x.1

/-- (*pontage/wirereader.Reader).Byte -/
abbrev s_wirereader_Reader_Byte : Sig := ⟨[(.ptr (.pair (.ro false (.slice (.int .u8))) (.pair (.ro true (.int .i64)) (.pair (.ro true .bool) (.ro true .unit)))))], [(.ro true (.int .u8))]⟩
abbrev F_wirereader_Reader_Byte := (((List Int) × (Int × (Bool × Unit))) × Unit) → Option ((Int × Unit) × (((List Int) × (Int × (Bool × Unit))) × Unit))

noncomputable def T_wirereader_Reader_Byte (L : LoopD) (s_ : ((List Int) × (Int × (Bool × Unit)))) : Option ((Int × Unit) × (((List Int) × (Int × (Bool × Unit))) × Unit)) :=
  (letR (Go.IntKind.wrap (Go.IntKind.i64) (s_.2.1 + (1 : Int))) fun (v_0 : Int) =>
  (letR (Go.IntKind.wrap (Go.IntKind.i64) (v_0 - (1 : Int))) fun (v_1 : Int) =>
  (brR s_.2.2.1
   (some (((0 : Int), ()), ((s_.1, (s_.2.1, (true, s_.2.2.2))), ())))
   (brR (decide (s_.2.1 ≥ (((List.length s_.1) : Nat) : Int)))
    (some (((0 : Int), ()), ((s_.1, (s_.2.1, (true, s_.2.2.2))), ())))
    (brR (Go.Pon.inR v_1 (List.length s_.1))
     (some (((List.getD s_.1 (Int.toNat v_1) (0 : Int)), ()), ((s_.1, (v_0, (s_.2.2.1, s_.2.2.2))), ())))
     none)))))

noncomputable def sol_wirereader_Reader_Byte : F_wirereader_Reader_Byte := fun x => T_wirereader_Reader_Byte bigLoop x.1

/-- (*pontage/wirereader.Reader).Hash -/
abbrev s_wirereader_Reader_Hash : Sig := ⟨[(.ptr (.pair (.ro false (.slice (.int .u8))) (.pair (.ro true (.int .i64)) (.pair (.ro true .bool) (.ro true .unit)))))], [(.ro true (.arr 32 (.int .u8)))]⟩
abbrev F_wirereader_Reader_Hash := (((List Int) × (Int × (Bool × Unit))) × Unit) → Option (((List Int) × Unit) × (((List Int) × (Int × (Bool × Unit))) × Unit))

noncomputable def T_wirereader_Reader_Hash_loop0 (c_wirereader_Reader_Byte : F_wirereader_Reader_Byte) (again_0 : (((List Int) × (Int × (Bool × Unit))) × ((List Int) × ((List Int) × (Int × Unit)))) → Option (((List Int) × Unit) × (((List Int) × (Int × (Bool × Unit))) × Unit))) (s_1 : ((List Int) × (Int × (Bool × Unit)))) (t2_2 : (List Int)) (h_3 : (List Int)) (t5_4 : Int) : Option (((List Int) × Unit) × (((List Int) × (Int × (Bool × Unit))) × Unit)) :=
  (brR (decide (t5_4 < (32 : Int)))
   (Option.bind (c_wirereader_Reader_Byte ((s_1.1, (s_1.2.1, (s_1.2.2.1, s_1.2.2.2))), ())) (fun (y_5 : ((Int × Unit) × (((List Int) × (Int × (Bool × Unit))) × Unit))) =>
    (brR (Go.Pon.inR t5_4 (32 : Nat))
     (again_0 ((y_5.2.1.1, (y_5.2.1.2.1, (y_5.2.1.2.2.1, y_5.2.1.2.2.2))), (t2_2, ((List.set h_3 (Int.toNat t5_4) y_5.1.1), ((Go.IntKind.wrap (Go.IntKind.i64) (t5_4 + (1 : Int))), ())))))
     none)))
   (some ((h_3, ()), ((s_1.1, (s_1.2.1, (s_1.2.2.1, s_1.2.2.2))), ()))))

noncomputable def T_wirereader_Reader_Hash (L : LoopD) (c_wirereader_Reader_Byte : F_wirereader_Reader_Byte) (s_ : ((List Int) × (Int × (Bool × Unit)))) : Option (((List Int) × Unit) × (((List Int) × (Int × (Bool × Unit))) × Unit)) :=
  (L _ _ (fun again x => T_wirereader_Reader_Hash_loop0 c_wirereader_Reader_Byte again x.1 x.2.1 x.2.2.1 x.2.2.2.1) ((s_.1, (s_.2.1, (s_.2.2.1, s_.2.2.2))), ((List.replicate (32 : Nat) (0 : Int)), ((List.replicate (32 : Nat) (0 : Int)), ((0 : Int), ())))))

noncomputable def sol_wirereader_Reader_Hash : F_wirereader_Reader_Hash := fun x => T_wirereader_Reader_Hash bigLoop sol_wirereader_Reader_Byte x.1

end Go.Pon
/-
  What the functions of package tx compute (printed by a program of this work).
-/
set_option autoImplicit false
set_option linter.unusedVariables false
set_option maxRecDepth 100000
namespace Go.Pon
open Go

/-- pontage/tx.Encode -/
abbrev s_tx_Encode : Sig := ⟨[(.ro false (.pair (.int .u64) (.pair (.int .u64) (.pair (.int .u64) (.pair (.arr 4 (.int .u64)) (.pair (.int .u64) (.pair (.arr 4 (.int .u64)) (.pair (.arr 4 (.int .u64)) (.pair (.int .u64) (.pair (.slice (.int .u8)) .unit))))))))))], [(.own true (.int .u8)), (.ro true (.int .i64))]⟩
abbrev F_tx_Encode := ((Int × (Int × (Int × ((List Int) × (Int × ((List Int) × ((List Int) × (Int × ((List Int) × Unit))))))))) × Unit) → Option (((List Int) × (Int × Unit)) × (Unit × Unit))

noncomputable def T_tx_Encode (L : LoopD) (c_wire_AppendUint64 : F_wire_AppendUint64) (c_wire_AppendUint256 : F_wire_AppendUint256) (c_wire_AppendBytes : F_wire_AppendBytes) (t_ : (Int × (Int × (Int × ((List Int) × (Int × ((List Int) × ((List Int) × (Int × ((List Int) × Unit)))))))))) : Option (((List Int) × (Int × Unit)) × (Unit × Unit)) :=
  (brR (decide ((((List.length t_.2.2.2.2.2.2.2.2.1) : Nat) : Int) > (4096 : Int)))
   (some ((([] : List Int), ((6 : Int), ())), ((), ())))
   (Option.bind (c_wire_AppendUint64 (([] : List Int), (t_.1, ()))) (fun (y_0 : (((List Int) × Unit) × (Unit × (Unit × Unit)))) =>
    (Option.bind (c_wire_AppendUint64 (y_0.1.1, (t_.2.1, ()))) (fun (y_1 : (((List Int) × Unit) × (Unit × (Unit × Unit)))) =>
     (Option.bind (c_wire_AppendUint64 (y_1.1.1, (t_.2.2.1, ()))) (fun (y_2 : (((List Int) × Unit) × (Unit × (Unit × Unit)))) =>
      (Option.bind (c_wire_AppendUint256 (y_2.1.1, (t_.2.2.2.1, ()))) (fun (y_3 : (((List Int) × Unit) × (Unit × (Unit × Unit)))) =>
       (Option.bind (c_wire_AppendUint64 (y_3.1.1, (t_.2.2.2.2.1, ()))) (fun (y_4 : (((List Int) × Unit) × (Unit × (Unit × Unit)))) =>
        (Option.bind (c_wire_AppendUint256 (y_4.1.1, (t_.2.2.2.2.2.1, ()))) (fun (y_5 : (((List Int) × Unit) × (Unit × (Unit × Unit)))) =>
         (Option.bind (c_wire_AppendUint256 (y_5.1.1, (t_.2.2.2.2.2.2.1, ()))) (fun (y_6 : (((List Int) × Unit) × (Unit × (Unit × Unit)))) =>
          (Option.bind (c_wire_AppendUint64 (y_6.1.1, (t_.2.2.2.2.2.2.2.1, ()))) (fun (y_7 : (((List Int) × Unit) × (Unit × (Unit × Unit)))) =>
           (Option.bind (c_wire_AppendBytes (y_7.1.1, (t_.2.2.2.2.2.2.2.2.1, ()))) (fun (y_8 : (((List Int) × Unit) × (Unit × (Unit × Unit)))) =>
            (some ((y_8.1.1, ((0 : Int), ())), ((), ()))))))))))))))))))))))

noncomputable def sol_tx_Encode : F_tx_Encode := fun x => T_tx_Encode bigLoop sol_wire_AppendUint64 sol_wire_AppendUint256 sol_wire_AppendBytes x.1

/-- pontage/tx.Decode -/
abbrev s_tx_Decode : Sig := ⟨[(.ro false (.slice (.int .u8)))], [(.ro true (.pair (.int .u64) (.pair (.int .u64) (.pair (.int .u64) (.pair (.arr 4 (.int .u64)) (.pair (.int .u64) (.pair (.arr 4 (.int .u64)) (.pair (.arr 4 (.int .u64)) (.pair (.int .u64) (.pair (.slice (.int .u8)) .unit)))))))))), (.ro true (.int .i64))]⟩
abbrev F_tx_Decode := ((List Int) × Unit) → Option (((Int × (Int × (Int × ((List Int) × (Int × ((List Int) × ((List Int) × (Int × ((List Int) × Unit))))))))) × (Int × Unit)) × (Unit × Unit))

noncomputable def T_tx_Decode (L : LoopD) (c_wirereader_New : F_wirereader_New) (c_wirereader_Reader_Uint64 : F_wirereader_Reader_Uint64) (c_wirereader_Reader_Uint256 : F_wirereader_Reader_Uint256) (c_wirereader_Reader_Bytes : F_wirereader_Reader_Bytes) (c_wirereader_Reader_Done : F_wirereader_Reader_Done) (b_ : (List Int)) : Option (((Int × (Int × (Int × ((List Int) × (Int × ((List Int) × ((List Int) × (Int × ((List Int) × Unit))))))))) × (Int × Unit)) × (Unit × Unit)) :=
  (Option.bind (c_wirereader_New (b_, ())) (fun (y_0 : ((((List Int) × (Int × (Bool × Unit))) × Unit) × (Unit × Unit))) =>
   (Option.bind (c_wirereader_Reader_Uint64 ((y_0.1.1.1, (y_0.1.1.2.1, (y_0.1.1.2.2.1, y_0.1.1.2.2.2))), ())) (fun (y_1 : ((Int × Unit) × (((List Int) × (Int × (Bool × Unit))) × Unit))) =>
    (Option.bind (c_wirereader_Reader_Uint64 ((y_1.2.1.1, (y_1.2.1.2.1, (y_1.2.1.2.2.1, y_1.2.1.2.2.2))), ())) (fun (y_2 : ((Int × Unit) × (((List Int) × (Int × (Bool × Unit))) × Unit))) =>
     (Option.bind (c_wirereader_Reader_Uint64 ((y_2.2.1.1, (y_2.2.1.2.1, (y_2.2.1.2.2.1, y_2.2.1.2.2.2))), ())) (fun (y_3 : ((Int × Unit) × (((List Int) × (Int × (Bool × Unit))) × Unit))) =>
      (Option.bind (c_wirereader_Reader_Uint256 ((y_3.2.1.1, (y_3.2.1.2.1, (y_3.2.1.2.2.1, y_3.2.1.2.2.2))), ())) (fun (y_4 : (((List Int) × Unit) × (((List Int) × (Int × (Bool × Unit))) × Unit))) =>
       (Option.bind (c_wirereader_Reader_Uint64 ((y_4.2.1.1, (y_4.2.1.2.1, (y_4.2.1.2.2.1, y_4.2.1.2.2.2))), ())) (fun (y_5 : ((Int × Unit) × (((List Int) × (Int × (Bool × Unit))) × Unit))) =>
        (Option.bind (c_wirereader_Reader_Uint256 ((y_5.2.1.1, (y_5.2.1.2.1, (y_5.2.1.2.2.1, y_5.2.1.2.2.2))), ())) (fun (y_6 : (((List Int) × Unit) × (((List Int) × (Int × (Bool × Unit))) × Unit))) =>
         (Option.bind (c_wirereader_Reader_Uint256 ((y_6.2.1.1, (y_6.2.1.2.1, (y_6.2.1.2.2.1, y_6.2.1.2.2.2))), ())) (fun (y_7 : (((List Int) × Unit) × (((List Int) × (Int × (Bool × Unit))) × Unit))) =>
          (Option.bind (c_wirereader_Reader_Uint64 ((y_7.2.1.1, (y_7.2.1.2.1, (y_7.2.1.2.2.1, y_7.2.1.2.2.2))), ())) (fun (y_8 : ((Int × Unit) × (((List Int) × (Int × (Bool × Unit))) × Unit))) =>
           (Option.bind (c_wirereader_Reader_Bytes ((y_8.2.1.1, (y_8.2.1.2.1, (y_8.2.1.2.2.1, y_8.2.1.2.2.2))), ())) (fun (y_9 : (((List Int) × Unit) × (((List Int) × (Int × (Bool × Unit))) × Unit))) =>
            (Option.bind (c_wirereader_Reader_Done ((y_9.2.1.1, (y_9.2.1.2.1, (y_9.2.1.2.2.1, y_9.2.1.2.2.2))), ())) (fun (y_10 : ((Bool × Unit) × (((List Int) × (Int × (Bool × Unit))) × Unit))) =>
             (brR (!y_10.1.1)
              (some ((((0 : Int), ((0 : Int), ((0 : Int), ([(0 : Int), (0 : Int), (0 : Int), (0 : Int)], ((0 : Int), ([(0 : Int), (0 : Int), (0 : Int), (0 : Int)], ([(0 : Int), (0 : Int), (0 : Int), (0 : Int)], ((0 : Int), (([] : List Int), ()))))))))), ((3 : Int), ())), ((), ())))
              (brR (decide ((((List.length y_9.1.1) : Nat) : Int) > (4096 : Int)))
               (some ((((0 : Int), ((0 : Int), ((0 : Int), ([(0 : Int), (0 : Int), (0 : Int), (0 : Int)], ((0 : Int), ([(0 : Int), (0 : Int), (0 : Int), (0 : Int)], ([(0 : Int), (0 : Int), (0 : Int), (0 : Int)], ((0 : Int), (([] : List Int), ()))))))))), ((3 : Int), ())), ((), ())))
               (some (((y_1.1.1, (y_2.1.1, (y_3.1.1, (y_4.1.1, (y_5.1.1, (y_6.1.1, (y_7.1.1, (y_8.1.1, (y_9.1.1, ()))))))))), ((0 : Int), ())), ((), ())))))))))))))))))))))))))))

noncomputable def sol_tx_Decode : F_tx_Decode := fun x => T_tx_Decode bigLoop sol_wirereader_New sol_wirereader_Reader_Uint64 sol_wirereader_Reader_Uint256 sol_wirereader_Reader_Bytes sol_wirereader_Reader_Done x.1

end Go.Pon
/-
  What the functions of package step compute (printed by a program of this work).
-/
set_option autoImplicit false
set_option linter.unusedVariables false
set_option maxRecDepth 100000
namespace Go.Pon
open Go

/-- pontage/step.appendClaim -/
abbrev s_step_appendClaim : Sig := ⟨[(.ro false (.slice (.int .u8))), (.ro false (.pair (.int .u64) (.pair (.int .u64) (.pair (.int .u64) (.pair (.arr 4 (.int .u64)) (.pair (.slice (.arr 32 (.int .u8))) .unit))))))], [(.own true (.int .u8))]⟩
abbrev F_step_appendClaim := ((List Int) × ((Int × (Int × (Int × ((List Int) × ((List (List Int)) × Unit))))) × Unit)) → Option (((List Int) × Unit) × (Unit × (Unit × Unit)))

noncomputable def T_step_appendClaim_loop0 (again_6 : ((List Int) × ((List (List Int)) × (Int × (Int × Unit)))) → Option (((List Int) × Unit) × (Unit × (Unit × Unit)))) (b_7 : (List Int)) (t28_8 : (List (List Int))) (t29_9 : Int) (t30_10 : Int) : Option (((List Int) × Unit) × (Unit × (Unit × Unit))) :=
  (letR (List.take ((32 : Nat) - (0 : Nat)) (List.drop (0 : Nat) (List.getD t28_8 (Int.toNat t30_10) (List.replicate (32 : Nat) (0 : Int))))) fun (v_11 : (List Int)) =>
  (brR (decide (t30_10 < t29_9))
   (brR (Go.Pon.inR t30_10 (List.length t28_8))
    (brR (Go.Pon.roomy ((List.length b_7) + (List.length v_11)) (Go.Pon.Ty.int Go.IntKind.u8))
     (again_6 ((List.append b_7 v_11), (t28_8, (t29_9, ((Go.IntKind.wrap (Go.IntKind.i64) (t30_10 + (1 : Int))), ())))))
     none)
    none)
   (some ((b_7, ()), ((), ((), ()))))))

noncomputable def T_step_appendClaim (L : LoopD) (c_wire_AppendUint64 : F_wire_AppendUint64) (c_wire_AppendUint256 : F_wire_AppendUint256) (b_ : (List Int)) (c_ : (Int × (Int × (Int × ((List Int) × ((List (List Int)) × Unit)))))) : Option (((List Int) × Unit) × (Unit × (Unit × Unit))) :=
  (letR (((List.length c_.2.2.2.2.1) : Nat) : Int) fun (v_0 : Int) =>
  (Option.bind (c_wire_AppendUint64 (b_, (c_.1, ()))) (fun (y_1 : (((List Int) × Unit) × (Unit × (Unit × Unit)))) =>
   (Option.bind (c_wire_AppendUint64 (y_1.1.1, (c_.2.1, ()))) (fun (y_2 : (((List Int) × Unit) × (Unit × (Unit × Unit)))) =>
    (Option.bind (c_wire_AppendUint64 (y_2.1.1, (c_.2.2.1, ()))) (fun (y_3 : (((List Int) × Unit) × (Unit × (Unit × Unit)))) =>
     (Option.bind (c_wire_AppendUint256 (y_3.1.1, (c_.2.2.2.1, ()))) (fun (y_4 : (((List Int) × Unit) × (Unit × (Unit × Unit)))) =>
      (Option.bind (c_wire_AppendUint64 (y_4.1.1, ((Go.IntKind.wrap (Go.IntKind.u64) v_0), ()))) (fun (y_5 : (((List Int) × Unit) × (Unit × (Unit × Unit)))) =>
       (L _ _ (fun again x => T_step_appendClaim_loop0 again x.1 x.2.1 x.2.2.1 x.2.2.2.1) (y_5.1.1, (c_.2.2.2.2.1, (v_0, ((0 : Int), ()))))))))))))))))

noncomputable def sol_step_appendClaim : F_step_appendClaim := fun x => T_step_appendClaim bigLoop sol_wire_AppendUint64 sol_wire_AppendUint256 x.1 x.2.1

/-- pontage/step.Encode -/
abbrev s_step_Encode : Sig := ⟨[(.ro false (.pair (.int .i64) (.pair (.pair (.int .u64) (.pair (.int .u64) (.pair (.int .u64) (.pair (.arr 4 (.int .u64)) (.pair (.int .u64) (.pair (.arr 4 (.int .u64)) (.pair (.arr 4 (.int .u64)) (.pair (.int .u64) (.pair (.slice (.int .u8)) .unit))))))))) (.pair (.pair (.int .u64) (.pair (.int .u64) (.pair (.arr 4 (.int .u64)) .unit))) (.pair (.int .u64) (.pair (.int .i64) (.pair (.arr 4 (.int .u64)) (.pair (.int .u64) (.pair (.pair (.int .u64) (.pair (.int .u64) (.pair (.int .u64) (.pair (.arr 4 (.int .u64)) (.pair (.slice (.arr 32 (.int .u8))) .unit))))) .unit)))))))))], [(.own true (.int .u8)), (.ro true (.int .i64))]⟩
abbrev F_step_Encode := ((Int × ((Int × (Int × (Int × ((List Int) × (Int × ((List Int) × ((List Int) × (Int × ((List Int) × Unit))))))))) × ((Int × (Int × ((List Int) × Unit))) × (Int × (Int × ((List Int) × (Int × ((Int × (Int × (Int × ((List Int) × ((List (List Int)) × Unit))))) × Unit)))))))) × Unit) → Option (((List Int) × (Int × Unit)) × (Unit × Unit))

noncomputable def T_step_Encode (L : LoopD) (c_tx_Encode : F_tx_Encode) (c_wire_AppendBytes : F_wire_AppendBytes) (c_wire_AppendUint64 : F_wire_AppendUint64) (c_wire_AppendUint256 : F_wire_AppendUint256) (c_step_appendClaim : F_step_appendClaim) (s_ : (Int × ((Int × (Int × (Int × ((List Int) × (Int × ((List Int) × ((List Int) × (Int × ((List Int) × Unit))))))))) × ((Int × (Int × ((List Int) × Unit))) × (Int × (Int × ((List Int) × (Int × ((Int × (Int × (Int × ((List Int) × ((List (List Int)) × Unit))))) × Unit))))))))) : Option (((List Int) × (Int × Unit)) × (Unit × Unit)) :=
  (brR (decide (s_.1 < (1 : Int)))
   (some ((([] : List Int), ((17 : Int), ())), ((), ())))
   (brR (decide (s_.1 > (7 : Int)))
    (some ((([] : List Int), ((17 : Int), ())), ((), ())))
    (brR (decide (s_.1 = (4 : Int)))
     (brR (decide (s_.2.2.2.2.1 < (0 : Int)))
      (some ((([] : List Int), ((2 : Int), ())), ((), ())))
      (brR (decide (s_.1 = (7 : Int)))
       (brR (decide ((((List.length s_.2.2.2.2.2.2.2.1.2.2.2.2.1) : Nat) : Int) > (64 : Int)))
        (some ((([] : List Int), ((6 : Int), ())), ((), ())))
        (brR (decide (s_.1 = (1 : Int)))
         (Option.bind (c_tx_Encode (s_.2.1, ())) (fun (y_0 : (((List Int) × (Int × Unit)) × (Unit × Unit))) =>
          (brR (!(decide (y_0.1.2.1 = (0 : Int))))
           (some ((([] : List Int), (y_0.1.2.1, ())), ((), ())))
           (Option.bind (c_wire_AppendBytes ([(Go.IntKind.wrap (Go.IntKind.u8) s_.1)], (y_0.1.1, ()))) (fun (y_1 : (((List Int) × Unit) × (Unit × (Unit × Unit)))) =>
            (some ((y_1.1.1, ((0 : Int), ())), ((), ()))))))))
         (brR (decide (s_.1 = (2 : Int)))
          (Option.bind (c_wire_AppendUint64 ([(Go.IntKind.wrap (Go.IntKind.u8) s_.1)], (s_.2.2.1.1, ()))) (fun (y_2 : (((List Int) × Unit) × (Unit × (Unit × Unit)))) =>
           (Option.bind (c_wire_AppendUint64 (y_2.1.1, (s_.2.2.1.2.1, ()))) (fun (y_3 : (((List Int) × Unit) × (Unit × (Unit × Unit)))) =>
            (Option.bind (c_wire_AppendUint256 (y_3.1.1, (s_.2.2.1.2.2.1, ()))) (fun (y_4 : (((List Int) × Unit) × (Unit × (Unit × Unit)))) =>
             (some ((y_4.1.1, ((0 : Int), ())), ((), ())))))))))
          (brR (decide (s_.1 = (3 : Int)))
           (Option.bind (c_wire_AppendUint64 ([(Go.IntKind.wrap (Go.IntKind.u8) s_.1)], (s_.2.2.2.1, ()))) (fun (y_5 : (((List Int) × Unit) × (Unit × (Unit × Unit)))) =>
            (some ((y_5.1.1, ((0 : Int), ())), ((), ())))))
           (brR (decide (s_.1 = (4 : Int)))
            (Option.bind (c_wire_AppendUint64 ([(Go.IntKind.wrap (Go.IntKind.u8) s_.1)], ((Go.IntKind.wrap (Go.IntKind.u64) s_.2.2.2.2.1), ()))) (fun (y_6 : (((List Int) × Unit) × (Unit × (Unit × Unit)))) =>
             (Option.bind (c_wire_AppendUint256 (y_6.1.1, (s_.2.2.2.2.2.1, ()))) (fun (y_7 : (((List Int) × Unit) × (Unit × (Unit × Unit)))) =>
              (some ((y_7.1.1, ((0 : Int), ())), ((), ())))))))
            (brR (decide (s_.1 = (5 : Int)))
             (Option.bind (c_wire_AppendUint64 ([(Go.IntKind.wrap (Go.IntKind.u8) s_.1)], (s_.2.2.2.2.2.2.1, ()))) (fun (y_8 : (((List Int) × Unit) × (Unit × (Unit × Unit)))) =>
              (some ((y_8.1.1, ((0 : Int), ())), ((), ())))))
             (brR (decide (s_.1 = (6 : Int)))
              (Option.bind (c_wire_AppendUint64 ([(Go.IntKind.wrap (Go.IntKind.u8) s_.1)], (s_.2.2.2.2.2.2.1, ()))) (fun (y_9 : (((List Int) × Unit) × (Unit × (Unit × Unit)))) =>
               (Option.bind (c_wire_AppendUint256 (y_9.1.1, (s_.2.2.2.2.2.1, ()))) (fun (y_10 : (((List Int) × Unit) × (Unit × (Unit × Unit)))) =>
                (some ((y_10.1.1, ((0 : Int), ())), ((), ())))))))
              (brR (decide (s_.1 = (7 : Int)))
               (Option.bind (c_step_appendClaim ([(Go.IntKind.wrap (Go.IntKind.u8) s_.1)], (s_.2.2.2.2.2.2.2.1, ()))) (fun (y_11 : (((List Int) × Unit) × (Unit × (Unit × Unit)))) =>
                (some ((y_11.1.1, ((0 : Int), ())), ((), ())))))
               (some (([(Go.IntKind.wrap (Go.IntKind.u8) s_.1)], ((0 : Int), ())), ((), ())))))))))))
       (brR (decide (s_.1 = (1 : Int)))
        (Option.bind (c_tx_Encode (s_.2.1, ())) (fun (y_12 : (((List Int) × (Int × Unit)) × (Unit × Unit))) =>
         (brR (!(decide (y_12.1.2.1 = (0 : Int))))
          (some ((([] : List Int), (y_12.1.2.1, ())), ((), ())))
          (Option.bind (c_wire_AppendBytes ([(Go.IntKind.wrap (Go.IntKind.u8) s_.1)], (y_12.1.1, ()))) (fun (y_13 : (((List Int) × Unit) × (Unit × (Unit × Unit)))) =>
           (some ((y_13.1.1, ((0 : Int), ())), ((), ()))))))))
        (brR (decide (s_.1 = (2 : Int)))
         (Option.bind (c_wire_AppendUint64 ([(Go.IntKind.wrap (Go.IntKind.u8) s_.1)], (s_.2.2.1.1, ()))) (fun (y_14 : (((List Int) × Unit) × (Unit × (Unit × Unit)))) =>
          (Option.bind (c_wire_AppendUint64 (y_14.1.1, (s_.2.2.1.2.1, ()))) (fun (y_15 : (((List Int) × Unit) × (Unit × (Unit × Unit)))) =>
           (Option.bind (c_wire_AppendUint256 (y_15.1.1, (s_.2.2.1.2.2.1, ()))) (fun (y_16 : (((List Int) × Unit) × (Unit × (Unit × Unit)))) =>
            (some ((y_16.1.1, ((0 : Int), ())), ((), ())))))))))
         (brR (decide (s_.1 = (3 : Int)))
          (Option.bind (c_wire_AppendUint64 ([(Go.IntKind.wrap (Go.IntKind.u8) s_.1)], (s_.2.2.2.1, ()))) (fun (y_17 : (((List Int) × Unit) × (Unit × (Unit × Unit)))) =>
           (some ((y_17.1.1, ((0 : Int), ())), ((), ())))))
          (brR (decide (s_.1 = (4 : Int)))
           (Option.bind (c_wire_AppendUint64 ([(Go.IntKind.wrap (Go.IntKind.u8) s_.1)], ((Go.IntKind.wrap (Go.IntKind.u64) s_.2.2.2.2.1), ()))) (fun (y_18 : (((List Int) × Unit) × (Unit × (Unit × Unit)))) =>
            (Option.bind (c_wire_AppendUint256 (y_18.1.1, (s_.2.2.2.2.2.1, ()))) (fun (y_19 : (((List Int) × Unit) × (Unit × (Unit × Unit)))) =>
             (some ((y_19.1.1, ((0 : Int), ())), ((), ())))))))
           (brR (decide (s_.1 = (5 : Int)))
            (Option.bind (c_wire_AppendUint64 ([(Go.IntKind.wrap (Go.IntKind.u8) s_.1)], (s_.2.2.2.2.2.2.1, ()))) (fun (y_20 : (((List Int) × Unit) × (Unit × (Unit × Unit)))) =>
             (some ((y_20.1.1, ((0 : Int), ())), ((), ())))))
            (brR (decide (s_.1 = (6 : Int)))
             (Option.bind (c_wire_AppendUint64 ([(Go.IntKind.wrap (Go.IntKind.u8) s_.1)], (s_.2.2.2.2.2.2.1, ()))) (fun (y_21 : (((List Int) × Unit) × (Unit × (Unit × Unit)))) =>
              (Option.bind (c_wire_AppendUint256 (y_21.1.1, (s_.2.2.2.2.2.1, ()))) (fun (y_22 : (((List Int) × Unit) × (Unit × (Unit × Unit)))) =>
               (some ((y_22.1.1, ((0 : Int), ())), ((), ())))))))
             (brR (decide (s_.1 = (7 : Int)))
              (Option.bind (c_step_appendClaim ([(Go.IntKind.wrap (Go.IntKind.u8) s_.1)], (s_.2.2.2.2.2.2.2.1, ()))) (fun (y_23 : (((List Int) × Unit) × (Unit × (Unit × Unit)))) =>
               (some ((y_23.1.1, ((0 : Int), ())), ((), ())))))
              (some (([(Go.IntKind.wrap (Go.IntKind.u8) s_.1)], ((0 : Int), ())), ((), ()))))))))))))
     (brR (decide (s_.1 = (7 : Int)))
      (brR (decide ((((List.length s_.2.2.2.2.2.2.2.1.2.2.2.2.1) : Nat) : Int) > (64 : Int)))
       (some ((([] : List Int), ((6 : Int), ())), ((), ())))
       (brR (decide (s_.1 = (1 : Int)))
        (Option.bind (c_tx_Encode (s_.2.1, ())) (fun (y_24 : (((List Int) × (Int × Unit)) × (Unit × Unit))) =>
         (brR (!(decide (y_24.1.2.1 = (0 : Int))))
          (some ((([] : List Int), (y_24.1.2.1, ())), ((), ())))
          (Option.bind (c_wire_AppendBytes ([(Go.IntKind.wrap (Go.IntKind.u8) s_.1)], (y_24.1.1, ()))) (fun (y_25 : (((List Int) × Unit) × (Unit × (Unit × Unit)))) =>
           (some ((y_25.1.1, ((0 : Int), ())), ((), ()))))))))
        (brR (decide (s_.1 = (2 : Int)))
         (Option.bind (c_wire_AppendUint64 ([(Go.IntKind.wrap (Go.IntKind.u8) s_.1)], (s_.2.2.1.1, ()))) (fun (y_26 : (((List Int) × Unit) × (Unit × (Unit × Unit)))) =>
          (Option.bind (c_wire_AppendUint64 (y_26.1.1, (s_.2.2.1.2.1, ()))) (fun (y_27 : (((List Int) × Unit) × (Unit × (Unit × Unit)))) =>
           (Option.bind (c_wire_AppendUint256 (y_27.1.1, (s_.2.2.1.2.2.1, ()))) (fun (y_28 : (((List Int) × Unit) × (Unit × (Unit × Unit)))) =>
            (some ((y_28.1.1, ((0 : Int), ())), ((), ())))))))))
         (brR (decide (s_.1 = (3 : Int)))
          (Option.bind (c_wire_AppendUint64 ([(Go.IntKind.wrap (Go.IntKind.u8) s_.1)], (s_.2.2.2.1, ()))) (fun (y_29 : (((List Int) × Unit) × (Unit × (Unit × Unit)))) =>
           (some ((y_29.1.1, ((0 : Int), ())), ((), ())))))
          (brR (decide (s_.1 = (4 : Int)))
           (Option.bind (c_wire_AppendUint64 ([(Go.IntKind.wrap (Go.IntKind.u8) s_.1)], ((Go.IntKind.wrap (Go.IntKind.u64) s_.2.2.2.2.1), ()))) (fun (y_30 : (((List Int) × Unit) × (Unit × (Unit × Unit)))) =>
            (Option.bind (c_wire_AppendUint256 (y_30.1.1, (s_.2.2.2.2.2.1, ()))) (fun (y_31 : (((List Int) × Unit) × (Unit × (Unit × Unit)))) =>
             (some ((y_31.1.1, ((0 : Int), ())), ((), ())))))))
           (brR (decide (s_.1 = (5 : Int)))
            (Option.bind (c_wire_AppendUint64 ([(Go.IntKind.wrap (Go.IntKind.u8) s_.1)], (s_.2.2.2.2.2.2.1, ()))) (fun (y_32 : (((List Int) × Unit) × (Unit × (Unit × Unit)))) =>
             (some ((y_32.1.1, ((0 : Int), ())), ((), ())))))
            (brR (decide (s_.1 = (6 : Int)))
             (Option.bind (c_wire_AppendUint64 ([(Go.IntKind.wrap (Go.IntKind.u8) s_.1)], (s_.2.2.2.2.2.2.1, ()))) (fun (y_33 : (((List Int) × Unit) × (Unit × (Unit × Unit)))) =>
              (Option.bind (c_wire_AppendUint256 (y_33.1.1, (s_.2.2.2.2.2.1, ()))) (fun (y_34 : (((List Int) × Unit) × (Unit × (Unit × Unit)))) =>
               (some ((y_34.1.1, ((0 : Int), ())), ((), ())))))))
             (brR (decide (s_.1 = (7 : Int)))
              (Option.bind (c_step_appendClaim ([(Go.IntKind.wrap (Go.IntKind.u8) s_.1)], (s_.2.2.2.2.2.2.2.1, ()))) (fun (y_35 : (((List Int) × Unit) × (Unit × (Unit × Unit)))) =>
               (some ((y_35.1.1, ((0 : Int), ())), ((), ())))))
              (some (([(Go.IntKind.wrap (Go.IntKind.u8) s_.1)], ((0 : Int), ())), ((), ())))))))))))
      (brR (decide (s_.1 = (1 : Int)))
       (Option.bind (c_tx_Encode (s_.2.1, ())) (fun (y_36 : (((List Int) × (Int × Unit)) × (Unit × Unit))) =>
        (brR (!(decide (y_36.1.2.1 = (0 : Int))))
         (some ((([] : List Int), (y_36.1.2.1, ())), ((), ())))
         (Option.bind (c_wire_AppendBytes ([(Go.IntKind.wrap (Go.IntKind.u8) s_.1)], (y_36.1.1, ()))) (fun (y_37 : (((List Int) × Unit) × (Unit × (Unit × Unit)))) =>
          (some ((y_37.1.1, ((0 : Int), ())), ((), ()))))))))
       (brR (decide (s_.1 = (2 : Int)))
        (Option.bind (c_wire_AppendUint64 ([(Go.IntKind.wrap (Go.IntKind.u8) s_.1)], (s_.2.2.1.1, ()))) (fun (y_38 : (((List Int) × Unit) × (Unit × (Unit × Unit)))) =>
         (Option.bind (c_wire_AppendUint64 (y_38.1.1, (s_.2.2.1.2.1, ()))) (fun (y_39 : (((List Int) × Unit) × (Unit × (Unit × Unit)))) =>
          (Option.bind (c_wire_AppendUint256 (y_39.1.1, (s_.2.2.1.2.2.1, ()))) (fun (y_40 : (((List Int) × Unit) × (Unit × (Unit × Unit)))) =>
           (some ((y_40.1.1, ((0 : Int), ())), ((), ())))))))))
        (brR (decide (s_.1 = (3 : Int)))
         (Option.bind (c_wire_AppendUint64 ([(Go.IntKind.wrap (Go.IntKind.u8) s_.1)], (s_.2.2.2.1, ()))) (fun (y_41 : (((List Int) × Unit) × (Unit × (Unit × Unit)))) =>
          (some ((y_41.1.1, ((0 : Int), ())), ((), ())))))
         (brR (decide (s_.1 = (4 : Int)))
          (Option.bind (c_wire_AppendUint64 ([(Go.IntKind.wrap (Go.IntKind.u8) s_.1)], ((Go.IntKind.wrap (Go.IntKind.u64) s_.2.2.2.2.1), ()))) (fun (y_42 : (((List Int) × Unit) × (Unit × (Unit × Unit)))) =>
           (Option.bind (c_wire_AppendUint256 (y_42.1.1, (s_.2.2.2.2.2.1, ()))) (fun (y_43 : (((List Int) × Unit) × (Unit × (Unit × Unit)))) =>
            (some ((y_43.1.1, ((0 : Int), ())), ((), ())))))))
          (brR (decide (s_.1 = (5 : Int)))
           (Option.bind (c_wire_AppendUint64 ([(Go.IntKind.wrap (Go.IntKind.u8) s_.1)], (s_.2.2.2.2.2.2.1, ()))) (fun (y_44 : (((List Int) × Unit) × (Unit × (Unit × Unit)))) =>
            (some ((y_44.1.1, ((0 : Int), ())), ((), ())))))
           (brR (decide (s_.1 = (6 : Int)))
            (Option.bind (c_wire_AppendUint64 ([(Go.IntKind.wrap (Go.IntKind.u8) s_.1)], (s_.2.2.2.2.2.2.1, ()))) (fun (y_45 : (((List Int) × Unit) × (Unit × (Unit × Unit)))) =>
             (Option.bind (c_wire_AppendUint256 (y_45.1.1, (s_.2.2.2.2.2.1, ()))) (fun (y_46 : (((List Int) × Unit) × (Unit × (Unit × Unit)))) =>
              (some ((y_46.1.1, ((0 : Int), ())), ((), ())))))))
            (brR (decide (s_.1 = (7 : Int)))
             (Option.bind (c_step_appendClaim ([(Go.IntKind.wrap (Go.IntKind.u8) s_.1)], (s_.2.2.2.2.2.2.2.1, ()))) (fun (y_47 : (((List Int) × Unit) × (Unit × (Unit × Unit)))) =>
              (some ((y_47.1.1, ((0 : Int), ())), ((), ())))))
             (some (([(Go.IntKind.wrap (Go.IntKind.u8) s_.1)], ((0 : Int), ())), ((), ()))))))))))))))

noncomputable def sol_step_Encode : F_step_Encode := fun x => T_step_Encode bigLoop sol_tx_Encode sol_wire_AppendBytes sol_wire_AppendUint64 sol_wire_AppendUint256 sol_step_appendClaim x.1

/-- pontage/step.readProof -/
abbrev s_step_readProof : Sig := ⟨[(.ptr (.pair (.ro false (.slice (.int .u8))) (.pair (.ro true (.int .i64)) (.pair (.ro true .bool) (.ro true .unit)))))], [(.own true (.arr 32 (.int .u8))), (.ro true .bool)]⟩
abbrev F_step_readProof := (((List Int) × (Int × (Bool × Unit))) × Unit) → Option (((List (List Int)) × (Bool × Unit)) × (((List Int) × (Int × (Bool × Unit))) × Unit))

noncomputable def T_step_readProof_loop0 (c_wirereader_Reader_Hash : F_wirereader_Reader_Hash) (again_1 : (((List Int) × (Int × (Bool × Unit))) × ((List (List Int)) × (Int × (Int × Unit)))) → Option (((List (List Int)) × (Bool × Unit)) × (((List Int) × (Int × (Bool × Unit))) × Unit))) (in_2 : ((List Int) × (Int × (Bool × Unit)))) (l_3 : (List (List Int))) (t10_4 : Int) (t11_5 : Int) : Option (((List (List Int)) × (Bool × Unit)) × (((List Int) × (Int × (Bool × Unit))) × Unit)) :=
  (brR (decide (t11_5 < t10_4))
   (Option.bind (c_wirereader_Reader_Hash ((in_2.1, (in_2.2.1, (in_2.2.2.1, in_2.2.2.2))), ())) (fun (y_6 : (((List Int) × Unit) × (((List Int) × (Int × (Bool × Unit))) × Unit))) =>
    (brR (Go.Pon.roomy ((List.length l_3) + (1 : Nat)) (Go.Pon.Ty.arr 32 (Go.Pon.Ty.int Go.IntKind.u8)))
     (again_1 ((y_6.2.1.1, (y_6.2.1.2.1, (y_6.2.1.2.2.1, y_6.2.1.2.2.2))), ((List.append l_3 [y_6.1.1]), (t10_4, ((Go.IntKind.wrap (Go.IntKind.u64) (t11_5 + (1 : Int))), ())))))
     none)))
   (some ((l_3, (true, ())), ((in_2.1, (in_2.2.1, (in_2.2.2.1, in_2.2.2.2))), ()))))

noncomputable def T_step_readProof (L : LoopD) (c_wirereader_Reader_Uint64 : F_wirereader_Reader_Uint64) (c_wirereader_Reader_Hash : F_wirereader_Reader_Hash) (in_ : ((List Int) × (Int × (Bool × Unit)))) : Option (((List (List Int)) × (Bool × Unit)) × (((List Int) × (Int × (Bool × Unit))) × Unit)) :=
  (Option.bind (c_wirereader_Reader_Uint64 ((in_.1, (in_.2.1, (in_.2.2.1, in_.2.2.2))), ())) (fun (y_0 : ((Int × Unit) × (((List Int) × (Int × (Bool × Unit))) × Unit))) =>
   (brR (decide (y_0.1.1 > (64 : Int)))
    (some ((([] : List (List Int)), (false, ())), ((y_0.2.1.1, (y_0.2.1.2.1, (y_0.2.1.2.2.1, y_0.2.1.2.2.2))), ())))
    (L _ _ (fun again x => T_step_readProof_loop0 c_wirereader_Reader_Hash again x.1 x.2.1 x.2.2.1 x.2.2.2.1) ((y_0.2.1.1, (y_0.2.1.2.1, (y_0.2.1.2.2.1, y_0.2.1.2.2.2))), (([] : List (List Int)), (y_0.1.1, ((0 : Int), ()))))))))

noncomputable def sol_step_readProof : F_step_readProof := fun x => T_step_readProof bigLoop sol_wirereader_Reader_Uint64 sol_wirereader_Reader_Hash x.1

/-- pontage/step.decodeBody -/
abbrev s_step_decodeBody : Sig := ⟨[(.ptr (.pair (.ro true (.int .i64)) (.pair (.ro false (.pair (.int .u64) (.pair (.int .u64) (.pair (.int .u64) (.pair (.arr 4 (.int .u64)) (.pair (.int .u64) (.pair (.arr 4 (.int .u64)) (.pair (.arr 4 (.int .u64)) (.pair (.int .u64) (.pair (.slice (.int .u8)) .unit)))))))))) (.pair (.ro true (.pair (.int .u64) (.pair (.int .u64) (.pair (.arr 4 (.int .u64)) .unit)))) (.pair (.ro true (.int .u64)) (.pair (.ro true (.int .i64)) (.pair (.ro true (.arr 4 (.int .u64))) (.pair (.ro true (.int .u64)) (.pair (.ro false (.pair (.int .u64) (.pair (.int .u64) (.pair (.int .u64) (.pair (.arr 4 (.int .u64)) (.pair (.slice (.arr 32 (.int .u8))) .unit)))))) (.ro true .unit)))))))))), (.ptr (.pair (.ro false (.slice (.int .u8))) (.pair (.ro true (.int .i64)) (.pair (.ro true .bool) (.ro true .unit)))))], [(.ro true .bool)]⟩
abbrev F_step_decodeBody := ((Int × ((Int × (Int × (Int × ((List Int) × (Int × ((List Int) × ((List Int) × (Int × ((List Int) × Unit))))))))) × ((Int × (Int × ((List Int) × Unit))) × (Int × (Int × ((List Int) × (Int × ((Int × (Int × (Int × ((List Int) × ((List (List Int)) × Unit))))) × Unit)))))))) × (((List Int) × (Int × (Bool × Unit))) × Unit)) → Option ((Bool × Unit) × ((Int × ((Int × (Int × (Int × ((List Int) × (Int × ((List Int) × ((List Int) × (Int × ((List Int) × Unit))))))))) × ((Int × (Int × ((List Int) × Unit))) × (Int × (Int × ((List Int) × (Int × ((Int × (Int × (Int × ((List Int) × ((List (List Int)) × Unit))))) × Unit)))))))) × (((List Int) × (Int × (Bool × Unit))) × Unit)))

noncomputable def T_step_decodeBody (L : LoopD) (c_wirereader_Reader_Bytes : F_wirereader_Reader_Bytes) (c_tx_Decode : F_tx_Decode) (c_wirereader_Reader_Uint64 : F_wirereader_Reader_Uint64) (c_wirereader_Reader_Uint256 : F_wirereader_Reader_Uint256) (c_step_readProof : F_step_readProof) (s_ : (Int × ((Int × (Int × (Int × ((List Int) × (Int × ((List Int) × ((List Int) × (Int × ((List Int) × Unit))))))))) × ((Int × (Int × ((List Int) × Unit))) × (Int × (Int × ((List Int) × (Int × ((Int × (Int × (Int × ((List Int) × ((List (List Int)) × Unit))))) × Unit))))))))) (in_ : ((List Int) × (Int × (Bool × Unit)))) : Option ((Bool × Unit) × ((Int × ((Int × (Int × (Int × ((List Int) × (Int × ((List Int) × ((List Int) × (Int × ((List Int) × Unit))))))))) × ((Int × (Int × ((List Int) × Unit))) × (Int × (Int × ((List Int) × (Int × ((Int × (Int × (Int × ((List Int) × ((List (List Int)) × Unit))))) × Unit)))))))) × (((List Int) × (Int × (Bool × Unit))) × Unit))) :=
  (brR (decide (s_.1 = (1 : Int)))
   (Option.bind (c_wirereader_Reader_Bytes ((in_.1, (in_.2.1, (in_.2.2.1, in_.2.2.2))), ())) (fun (y_0 : (((List Int) × Unit) × (((List Int) × (Int × (Bool × Unit))) × Unit))) =>
    (Option.bind (c_tx_Decode (y_0.1.1, ())) (fun (y_1 : (((Int × (Int × (Int × ((List Int) × (Int × ((List Int) × ((List Int) × (Int × ((List Int) × Unit))))))))) × (Int × Unit)) × (Unit × Unit))) =>
     (some (((decide (y_1.1.2.1 = (0 : Int))), ()), ((s_.1, (y_1.1.1, (s_.2.2.1, (s_.2.2.2.1, (s_.2.2.2.2.1, (s_.2.2.2.2.2.1, (s_.2.2.2.2.2.2.1, (s_.2.2.2.2.2.2.2.1, s_.2.2.2.2.2.2.2.2)))))))), ((y_0.2.1.1, (y_0.2.1.2.1, (y_0.2.1.2.2.1, y_0.2.1.2.2.2))), ()))))))))
   (brR (decide (s_.1 = (2 : Int)))
    (Option.bind (c_wirereader_Reader_Uint64 ((in_.1, (in_.2.1, (in_.2.2.1, in_.2.2.2))), ())) (fun (y_2 : ((Int × Unit) × (((List Int) × (Int × (Bool × Unit))) × Unit))) =>
     (Option.bind (c_wirereader_Reader_Uint64 ((y_2.2.1.1, (y_2.2.1.2.1, (y_2.2.1.2.2.1, y_2.2.1.2.2.2))), ())) (fun (y_3 : ((Int × Unit) × (((List Int) × (Int × (Bool × Unit))) × Unit))) =>
      (Option.bind (c_wirereader_Reader_Uint256 ((y_3.2.1.1, (y_3.2.1.2.1, (y_3.2.1.2.2.1, y_3.2.1.2.2.2))), ())) (fun (y_4 : (((List Int) × Unit) × (((List Int) × (Int × (Bool × Unit))) × Unit))) =>
       (some ((true, ()), ((s_.1, (s_.2.1, ((y_2.1.1, (y_3.1.1, (y_4.1.1, ()))), (s_.2.2.2.1, (s_.2.2.2.2.1, (s_.2.2.2.2.2.1, (s_.2.2.2.2.2.2.1, (s_.2.2.2.2.2.2.2.1, s_.2.2.2.2.2.2.2.2)))))))), ((y_4.2.1.1, (y_4.2.1.2.1, (y_4.2.1.2.2.1, y_4.2.1.2.2.2))), ()))))))))))
    (brR (decide (s_.1 = (3 : Int)))
     (Option.bind (c_wirereader_Reader_Uint64 ((in_.1, (in_.2.1, (in_.2.2.1, in_.2.2.2))), ())) (fun (y_5 : ((Int × Unit) × (((List Int) × (Int × (Bool × Unit))) × Unit))) =>
      (some ((true, ()), ((s_.1, (s_.2.1, (s_.2.2.1, (y_5.1.1, (s_.2.2.2.2.1, (s_.2.2.2.2.2.1, (s_.2.2.2.2.2.2.1, (s_.2.2.2.2.2.2.2.1, s_.2.2.2.2.2.2.2.2)))))))), ((y_5.2.1.1, (y_5.2.1.2.1, (y_5.2.1.2.2.1, y_5.2.1.2.2.2))), ()))))))
     (brR (decide (s_.1 = (4 : Int)))
      (Option.bind (c_wirereader_Reader_Uint64 ((in_.1, (in_.2.1, (in_.2.2.1, in_.2.2.2))), ())) (fun (y_6 : ((Int × Unit) × (((List Int) × (Int × (Bool × Unit))) × Unit))) =>
       (Option.bind (c_wirereader_Reader_Uint256 ((y_6.2.1.1, (y_6.2.1.2.1, (y_6.2.1.2.2.1, y_6.2.1.2.2.2))), ())) (fun (y_7 : (((List Int) × Unit) × (((List Int) × (Int × (Bool × Unit))) × Unit))) =>
        (some (((decide (y_6.1.1 ≤ (9223372036854775807 : Int))), ()), ((s_.1, (s_.2.1, (s_.2.2.1, (s_.2.2.2.1, ((Go.IntKind.wrap (Go.IntKind.i64) (Go.IntKind.wrap (Go.IntKind.u64) (((BitVec.toNat ((BitVec.ofInt (64 : Nat) y_6.1.1) &&& (BitVec.ofInt (64 : Nat) (9223372036854775807 : Int)))) : Nat) : Int))), (y_7.1.1, (s_.2.2.2.2.2.2.1, (s_.2.2.2.2.2.2.2.1, s_.2.2.2.2.2.2.2.2)))))))), ((y_7.2.1.1, (y_7.2.1.2.1, (y_7.2.1.2.2.1, y_7.2.1.2.2.2))), ()))))))))
      (brR (decide (s_.1 = (5 : Int)))
       (Option.bind (c_wirereader_Reader_Uint64 ((in_.1, (in_.2.1, (in_.2.2.1, in_.2.2.2))), ())) (fun (y_8 : ((Int × Unit) × (((List Int) × (Int × (Bool × Unit))) × Unit))) =>
        (some ((true, ()), ((s_.1, (s_.2.1, (s_.2.2.1, (s_.2.2.2.1, (s_.2.2.2.2.1, (s_.2.2.2.2.2.1, (y_8.1.1, (s_.2.2.2.2.2.2.2.1, s_.2.2.2.2.2.2.2.2)))))))), ((y_8.2.1.1, (y_8.2.1.2.1, (y_8.2.1.2.2.1, y_8.2.1.2.2.2))), ()))))))
       (brR (decide (s_.1 = (6 : Int)))
        (Option.bind (c_wirereader_Reader_Uint64 ((in_.1, (in_.2.1, (in_.2.2.1, in_.2.2.2))), ())) (fun (y_9 : ((Int × Unit) × (((List Int) × (Int × (Bool × Unit))) × Unit))) =>
         (Option.bind (c_wirereader_Reader_Uint256 ((y_9.2.1.1, (y_9.2.1.2.1, (y_9.2.1.2.2.1, y_9.2.1.2.2.2))), ())) (fun (y_10 : (((List Int) × Unit) × (((List Int) × (Int × (Bool × Unit))) × Unit))) =>
          (some ((true, ()), ((s_.1, (s_.2.1, (s_.2.2.1, (s_.2.2.2.1, (s_.2.2.2.2.1, (y_10.1.1, (y_9.1.1, (s_.2.2.2.2.2.2.2.1, s_.2.2.2.2.2.2.2.2)))))))), ((y_10.2.1.1, (y_10.2.1.2.1, (y_10.2.1.2.2.1, y_10.2.1.2.2.2))), ()))))))))
        (brR (decide (s_.1 = (7 : Int)))
         (Option.bind (c_wirereader_Reader_Uint64 ((in_.1, (in_.2.1, (in_.2.2.1, in_.2.2.2))), ())) (fun (y_11 : ((Int × Unit) × (((List Int) × (Int × (Bool × Unit))) × Unit))) =>
          (Option.bind (c_wirereader_Reader_Uint64 ((y_11.2.1.1, (y_11.2.1.2.1, (y_11.2.1.2.2.1, y_11.2.1.2.2.2))), ())) (fun (y_12 : ((Int × Unit) × (((List Int) × (Int × (Bool × Unit))) × Unit))) =>
           (Option.bind (c_wirereader_Reader_Uint64 ((y_12.2.1.1, (y_12.2.1.2.1, (y_12.2.1.2.2.1, y_12.2.1.2.2.2))), ())) (fun (y_13 : ((Int × Unit) × (((List Int) × (Int × (Bool × Unit))) × Unit))) =>
            (Option.bind (c_wirereader_Reader_Uint256 ((y_13.2.1.1, (y_13.2.1.2.1, (y_13.2.1.2.2.1, y_13.2.1.2.2.2))), ())) (fun (y_14 : (((List Int) × Unit) × (((List Int) × (Int × (Bool × Unit))) × Unit))) =>
             (Option.bind (c_step_readProof ((y_14.2.1.1, (y_14.2.1.2.1, (y_14.2.1.2.2.1, y_14.2.1.2.2.2))), ())) (fun (y_15 : (((List (List Int)) × (Bool × Unit)) × (((List Int) × (Int × (Bool × Unit))) × Unit))) =>
              (some ((y_15.1.2.1, ()), ((s_.1, (s_.2.1, (s_.2.2.1, (s_.2.2.2.1, (s_.2.2.2.2.1, (s_.2.2.2.2.2.1, (s_.2.2.2.2.2.2.1, ((y_11.1.1, (y_12.1.1, (y_13.1.1, (y_14.1.1, (y_15.1.1, ()))))), s_.2.2.2.2.2.2.2.2)))))))), ((y_15.2.1.1, (y_15.2.1.2.1, (y_15.2.1.2.2.1, y_15.2.1.2.2.2))), ()))))))))))))))
         (some ((false, ()), ((s_.1, (s_.2.1, (s_.2.2.1, (s_.2.2.2.1, (s_.2.2.2.2.1, (s_.2.2.2.2.2.1, (s_.2.2.2.2.2.2.1, (s_.2.2.2.2.2.2.2.1, s_.2.2.2.2.2.2.2.2)))))))), ((in_.1, (in_.2.1, (in_.2.2.1, in_.2.2.2))), ())))))))))))

noncomputable def sol_step_decodeBody : F_step_decodeBody := fun x => T_step_decodeBody bigLoop sol_wirereader_Reader_Bytes sol_tx_Decode sol_wirereader_Reader_Uint64 sol_wirereader_Reader_Uint256 sol_step_readProof x.1 x.2.1

/-- pontage/step.Decode -/
abbrev s_step_Decode : Sig := ⟨[(.ro false (.slice (.int .u8)))], [(.ro false (.pair (.int .i64) (.pair (.pair (.int .u64) (.pair (.int .u64) (.pair (.int .u64) (.pair (.arr 4 (.int .u64)) (.pair (.int .u64) (.pair (.arr 4 (.int .u64)) (.pair (.arr 4 (.int .u64)) (.pair (.int .u64) (.pair (.slice (.int .u8)) .unit))))))))) (.pair (.pair (.int .u64) (.pair (.int .u64) (.pair (.arr 4 (.int .u64)) .unit))) (.pair (.int .u64) (.pair (.int .i64) (.pair (.arr 4 (.int .u64)) (.pair (.int .u64) (.pair (.pair (.int .u64) (.pair (.int .u64) (.pair (.int .u64) (.pair (.arr 4 (.int .u64)) (.pair (.slice (.arr 32 (.int .u8))) .unit))))) .unit))))))))), (.ro true (.int .i64))]⟩
abbrev F_step_Decode := ((List Int) × Unit) → Option (((Int × ((Int × (Int × (Int × ((List Int) × (Int × ((List Int) × ((List Int) × (Int × ((List Int) × Unit))))))))) × ((Int × (Int × ((List Int) × Unit))) × (Int × (Int × ((List Int) × (Int × ((Int × (Int × (Int × ((List Int) × ((List (List Int)) × Unit))))) × Unit)))))))) × (Int × Unit)) × (Unit × Unit))

noncomputable def T_step_Decode (L : LoopD) (c_wirereader_New : F_wirereader_New) (c_wirereader_Reader_Byte : F_wirereader_Reader_Byte) (c_step_decodeBody : F_step_decodeBody) (c_wirereader_Reader_Done : F_wirereader_Reader_Done) (b_ : (List Int)) : Option (((Int × ((Int × (Int × (Int × ((List Int) × (Int × ((List Int) × ((List Int) × (Int × ((List Int) × Unit))))))))) × ((Int × (Int × ((List Int) × Unit))) × (Int × (Int × ((List Int) × (Int × ((Int × (Int × (Int × ((List Int) × ((List (List Int)) × Unit))))) × Unit)))))))) × (Int × Unit)) × (Unit × Unit)) :=
  (brR (decide ((((List.length b_) : Nat) : Int) > (8192 : Int)))
   (some ((((0 : Int), (((0 : Int), ((0 : Int), ((0 : Int), ([(0 : Int), (0 : Int), (0 : Int), (0 : Int)], ((0 : Int), ([(0 : Int), (0 : Int), (0 : Int), (0 : Int)], ([(0 : Int), (0 : Int), (0 : Int), (0 : Int)], ((0 : Int), (([] : List Int), ()))))))))), (((0 : Int), ((0 : Int), ([(0 : Int), (0 : Int), (0 : Int), (0 : Int)], ()))), ((0 : Int), ((0 : Int), ([(0 : Int), (0 : Int), (0 : Int), (0 : Int)], ((0 : Int), (((0 : Int), ((0 : Int), ((0 : Int), ([(0 : Int), (0 : Int), (0 : Int), (0 : Int)], (([] : List (List Int)), ()))))), ())))))))), ((6 : Int), ())), ((), ())))
   (Option.bind (c_wirereader_New (b_, ())) (fun (y_0 : ((((List Int) × (Int × (Bool × Unit))) × Unit) × (Unit × Unit))) =>
    (Option.bind (c_wirereader_Reader_Byte ((y_0.1.1.1, (y_0.1.1.2.1, (y_0.1.1.2.2.1, y_0.1.1.2.2.2))), ())) (fun (y_1 : ((Int × Unit) × (((List Int) × (Int × (Bool × Unit))) × Unit))) =>
     (Option.bind (c_step_decodeBody (((Go.IntKind.wrap (Go.IntKind.i64) y_1.1.1), (((0 : Int), ((0 : Int), ((0 : Int), ([(0 : Int), (0 : Int), (0 : Int), (0 : Int)], ((0 : Int), ([(0 : Int), (0 : Int), (0 : Int), (0 : Int)], ([(0 : Int), (0 : Int), (0 : Int), (0 : Int)], ((0 : Int), (([] : List Int), ()))))))))), (((0 : Int), ((0 : Int), ([(0 : Int), (0 : Int), (0 : Int), (0 : Int)], ()))), ((0 : Int), ((0 : Int), ([(0 : Int), (0 : Int), (0 : Int), (0 : Int)], ((0 : Int), (((0 : Int), ((0 : Int), ((0 : Int), ([(0 : Int), (0 : Int), (0 : Int), (0 : Int)], (([] : List (List Int)), ()))))), ())))))))), ((y_1.2.1.1, (y_1.2.1.2.1, (y_1.2.1.2.2.1, y_1.2.1.2.2.2))), ()))) (fun (y_2 : ((Bool × Unit) × ((Int × ((Int × (Int × (Int × ((List Int) × (Int × ((List Int) × ((List Int) × (Int × ((List Int) × Unit))))))))) × ((Int × (Int × ((List Int) × Unit))) × (Int × (Int × ((List Int) × (Int × ((Int × (Int × (Int × ((List Int) × ((List (List Int)) × Unit))))) × Unit)))))))) × (((List Int) × (Int × (Bool × Unit))) × Unit)))) =>
      (brR (!y_2.1.1)
       (some ((((0 : Int), (((0 : Int), ((0 : Int), ((0 : Int), ([(0 : Int), (0 : Int), (0 : Int), (0 : Int)], ((0 : Int), ([(0 : Int), (0 : Int), (0 : Int), (0 : Int)], ([(0 : Int), (0 : Int), (0 : Int), (0 : Int)], ((0 : Int), (([] : List Int), ()))))))))), (((0 : Int), ((0 : Int), ([(0 : Int), (0 : Int), (0 : Int), (0 : Int)], ()))), ((0 : Int), ((0 : Int), ([(0 : Int), (0 : Int), (0 : Int), (0 : Int)], ((0 : Int), (((0 : Int), ((0 : Int), ((0 : Int), ([(0 : Int), (0 : Int), (0 : Int), (0 : Int)], (([] : List (List Int)), ()))))), ())))))))), ((3 : Int), ())), ((), ())))
       (Option.bind (c_wirereader_Reader_Done ((y_2.2.2.1.1, (y_2.2.2.1.2.1, (y_2.2.2.1.2.2.1, y_2.2.2.1.2.2.2))), ())) (fun (y_3 : ((Bool × Unit) × (((List Int) × (Int × (Bool × Unit))) × Unit))) =>
        (brR (!y_3.1.1)
         (some ((((0 : Int), (((0 : Int), ((0 : Int), ((0 : Int), ([(0 : Int), (0 : Int), (0 : Int), (0 : Int)], ((0 : Int), ([(0 : Int), (0 : Int), (0 : Int), (0 : Int)], ([(0 : Int), (0 : Int), (0 : Int), (0 : Int)], ((0 : Int), (([] : List Int), ()))))))))), (((0 : Int), ((0 : Int), ([(0 : Int), (0 : Int), (0 : Int), (0 : Int)], ()))), ((0 : Int), ((0 : Int), ([(0 : Int), (0 : Int), (0 : Int), (0 : Int)], ((0 : Int), (((0 : Int), ((0 : Int), ((0 : Int), ([(0 : Int), (0 : Int), (0 : Int), (0 : Int)], (([] : List (List Int)), ()))))), ())))))))), ((3 : Int), ())), ((), ())))
         (some (((y_2.2.1.1, (y_2.2.1.2.1, (y_2.2.1.2.2.1, (y_2.2.1.2.2.2.1, (y_2.2.1.2.2.2.2.1, (y_2.2.1.2.2.2.2.2.1, (y_2.2.1.2.2.2.2.2.2.1, (y_2.2.1.2.2.2.2.2.2.2.1, y_2.2.1.2.2.2.2.2.2.2.2)))))))), ((0 : Int), ())), ((), ()))))))))))))))

noncomputable def sol_step_Decode : F_step_Decode := fun x => T_step_Decode bigLoop sol_wirereader_New sol_wirereader_Reader_Byte sol_step_decodeBody sol_wirereader_Reader_Done x.1

/-- pontage/step.Canonical -/
abbrev s_step_Canonical : Sig := ⟨[(.ro false (.pair (.int .i64) (.pair (.pair (.int .u64) (.pair (.int .u64) (.pair (.int .u64) (.pair (.arr 4 (.int .u64)) (.pair (.int .u64) (.pair (.arr 4 (.int .u64)) (.pair (.arr 4 (.int .u64)) (.pair (.int .u64) (.pair (.slice (.int .u8)) .unit))))))))) (.pair (.pair (.int .u64) (.pair (.int .u64) (.pair (.arr 4 (.int .u64)) .unit))) (.pair (.int .u64) (.pair (.int .i64) (.pair (.arr 4 (.int .u64)) (.pair (.int .u64) (.pair (.pair (.int .u64) (.pair (.int .u64) (.pair (.int .u64) (.pair (.arr 4 (.int .u64)) (.pair (.slice (.arr 32 (.int .u8))) .unit))))) .unit)))))))))], [(.ro false (.pair (.int .i64) (.pair (.pair (.int .u64) (.pair (.int .u64) (.pair (.int .u64) (.pair (.arr 4 (.int .u64)) (.pair (.int .u64) (.pair (.arr 4 (.int .u64)) (.pair (.arr 4 (.int .u64)) (.pair (.int .u64) (.pair (.slice (.int .u8)) .unit))))))))) (.pair (.pair (.int .u64) (.pair (.int .u64) (.pair (.arr 4 (.int .u64)) .unit))) (.pair (.int .u64) (.pair (.int .i64) (.pair (.arr 4 (.int .u64)) (.pair (.int .u64) (.pair (.pair (.int .u64) (.pair (.int .u64) (.pair (.int .u64) (.pair (.arr 4 (.int .u64)) (.pair (.slice (.arr 32 (.int .u8))) .unit))))) .unit)))))))))]⟩
abbrev F_step_Canonical := ((Int × ((Int × (Int × (Int × ((List Int) × (Int × ((List Int) × ((List Int) × (Int × ((List Int) × Unit))))))))) × ((Int × (Int × ((List Int) × Unit))) × (Int × (Int × ((List Int) × (Int × ((Int × (Int × (Int × ((List Int) × ((List (List Int)) × Unit))))) × Unit)))))))) × Unit) → Option (((Int × ((Int × (Int × (Int × ((List Int) × (Int × ((List Int) × ((List Int) × (Int × ((List Int) × Unit))))))))) × ((Int × (Int × ((List Int) × Unit))) × (Int × (Int × ((List Int) × (Int × ((Int × (Int × (Int × ((List Int) × ((List (List Int)) × Unit))))) × Unit)))))))) × Unit) × (Unit × Unit))

noncomputable def T_step_Canonical (L : LoopD) (c_slices_Clone_byte_byte : F_slices_Clone_byte_byte) (c_slices_Clone_api_Hash_api_Hash : F_slices_Clone_api_Hash_api_Hash) (s_ : (Int × ((Int × (Int × (Int × ((List Int) × (Int × ((List Int) × ((List Int) × (Int × ((List Int) × Unit))))))))) × ((Int × (Int × ((List Int) × Unit))) × (Int × (Int × ((List Int) × (Int × ((Int × (Int × (Int × ((List Int) × ((List (List Int)) × Unit))))) × Unit))))))))) : Option (((Int × ((Int × (Int × (Int × ((List Int) × (Int × ((List Int) × ((List Int) × (Int × ((List Int) × Unit))))))))) × ((Int × (Int × ((List Int) × Unit))) × (Int × (Int × ((List Int) × (Int × ((Int × (Int × (Int × ((List Int) × ((List (List Int)) × Unit))))) × Unit)))))))) × Unit) × (Unit × Unit)) :=
  (brR (decide (s_.1 = (1 : Int)))
   (Option.bind (c_slices_Clone_byte_byte (s_.2.1.2.2.2.2.2.2.2.2.1, ())) (fun (y_0 : (((List Int) × Unit) × (Unit × Unit))) =>
    (some (((s_.1, ((s_.2.1.1, (s_.2.1.2.1, (s_.2.1.2.2.1, (s_.2.1.2.2.2.1, (s_.2.1.2.2.2.2.1, (s_.2.1.2.2.2.2.2.1, (s_.2.1.2.2.2.2.2.2.1, (s_.2.1.2.2.2.2.2.2.2.1, (y_0.1.1, s_.2.1.2.2.2.2.2.2.2.2.2))))))))), (((0 : Int), ((0 : Int), ([(0 : Int), (0 : Int), (0 : Int), (0 : Int)], ()))), ((0 : Int), ((0 : Int), ([(0 : Int), (0 : Int), (0 : Int), (0 : Int)], ((0 : Int), (((0 : Int), ((0 : Int), ((0 : Int), ([(0 : Int), (0 : Int), (0 : Int), (0 : Int)], (([] : List (List Int)), ()))))), ())))))))), ()), ((), ())))))
   (brR (decide (s_.1 = (2 : Int)))
    (some (((s_.1, (((0 : Int), ((0 : Int), ((0 : Int), ([(0 : Int), (0 : Int), (0 : Int), (0 : Int)], ((0 : Int), ([(0 : Int), (0 : Int), (0 : Int), (0 : Int)], ([(0 : Int), (0 : Int), (0 : Int), (0 : Int)], ((0 : Int), (([] : List Int), ()))))))))), (s_.2.2.1, ((0 : Int), ((0 : Int), ([(0 : Int), (0 : Int), (0 : Int), (0 : Int)], ((0 : Int), (((0 : Int), ((0 : Int), ((0 : Int), ([(0 : Int), (0 : Int), (0 : Int), (0 : Int)], (([] : List (List Int)), ()))))), ())))))))), ()), ((), ())))
    (brR (decide (s_.1 = (3 : Int)))
     (some (((s_.1, (((0 : Int), ((0 : Int), ((0 : Int), ([(0 : Int), (0 : Int), (0 : Int), (0 : Int)], ((0 : Int), ([(0 : Int), (0 : Int), (0 : Int), (0 : Int)], ([(0 : Int), (0 : Int), (0 : Int), (0 : Int)], ((0 : Int), (([] : List Int), ()))))))))), (((0 : Int), ((0 : Int), ([(0 : Int), (0 : Int), (0 : Int), (0 : Int)], ()))), (s_.2.2.2.1, ((0 : Int), ([(0 : Int), (0 : Int), (0 : Int), (0 : Int)], ((0 : Int), (((0 : Int), ((0 : Int), ((0 : Int), ([(0 : Int), (0 : Int), (0 : Int), (0 : Int)], (([] : List (List Int)), ()))))), ())))))))), ()), ((), ())))
     (brR (decide (s_.1 = (4 : Int)))
      (some (((s_.1, (((0 : Int), ((0 : Int), ((0 : Int), ([(0 : Int), (0 : Int), (0 : Int), (0 : Int)], ((0 : Int), ([(0 : Int), (0 : Int), (0 : Int), (0 : Int)], ([(0 : Int), (0 : Int), (0 : Int), (0 : Int)], ((0 : Int), (([] : List Int), ()))))))))), (((0 : Int), ((0 : Int), ([(0 : Int), (0 : Int), (0 : Int), (0 : Int)], ()))), ((0 : Int), (s_.2.2.2.2.1, (s_.2.2.2.2.2.1, ((0 : Int), (((0 : Int), ((0 : Int), ((0 : Int), ([(0 : Int), (0 : Int), (0 : Int), (0 : Int)], (([] : List (List Int)), ()))))), ())))))))), ()), ((), ())))
      (brR (decide (s_.1 = (5 : Int)))
       (some (((s_.1, (((0 : Int), ((0 : Int), ((0 : Int), ([(0 : Int), (0 : Int), (0 : Int), (0 : Int)], ((0 : Int), ([(0 : Int), (0 : Int), (0 : Int), (0 : Int)], ([(0 : Int), (0 : Int), (0 : Int), (0 : Int)], ((0 : Int), (([] : List Int), ()))))))))), (((0 : Int), ((0 : Int), ([(0 : Int), (0 : Int), (0 : Int), (0 : Int)], ()))), ((0 : Int), ((0 : Int), ([(0 : Int), (0 : Int), (0 : Int), (0 : Int)], (s_.2.2.2.2.2.2.1, (((0 : Int), ((0 : Int), ((0 : Int), ([(0 : Int), (0 : Int), (0 : Int), (0 : Int)], (([] : List (List Int)), ()))))), ())))))))), ()), ((), ())))
       (brR (decide (s_.1 = (6 : Int)))
        (some (((s_.1, (((0 : Int), ((0 : Int), ((0 : Int), ([(0 : Int), (0 : Int), (0 : Int), (0 : Int)], ((0 : Int), ([(0 : Int), (0 : Int), (0 : Int), (0 : Int)], ([(0 : Int), (0 : Int), (0 : Int), (0 : Int)], ((0 : Int), (([] : List Int), ()))))))))), (((0 : Int), ((0 : Int), ([(0 : Int), (0 : Int), (0 : Int), (0 : Int)], ()))), ((0 : Int), ((0 : Int), (s_.2.2.2.2.2.1, (s_.2.2.2.2.2.2.1, (((0 : Int), ((0 : Int), ((0 : Int), ([(0 : Int), (0 : Int), (0 : Int), (0 : Int)], (([] : List (List Int)), ()))))), ())))))))), ()), ((), ())))
        (brR (decide (s_.1 = (7 : Int)))
         (Option.bind (c_slices_Clone_api_Hash_api_Hash (s_.2.2.2.2.2.2.2.1.2.2.2.2.1, ())) (fun (y_1 : (((List (List Int)) × Unit) × (Unit × Unit))) =>
          (some (((s_.1, (((0 : Int), ((0 : Int), ((0 : Int), ([(0 : Int), (0 : Int), (0 : Int), (0 : Int)], ((0 : Int), ([(0 : Int), (0 : Int), (0 : Int), (0 : Int)], ([(0 : Int), (0 : Int), (0 : Int), (0 : Int)], ((0 : Int), (([] : List Int), ()))))))))), (((0 : Int), ((0 : Int), ([(0 : Int), (0 : Int), (0 : Int), (0 : Int)], ()))), ((0 : Int), ((0 : Int), ([(0 : Int), (0 : Int), (0 : Int), (0 : Int)], ((0 : Int), ((s_.2.2.2.2.2.2.2.1.1, (s_.2.2.2.2.2.2.2.1.2.1, (s_.2.2.2.2.2.2.2.1.2.2.1, (s_.2.2.2.2.2.2.2.1.2.2.2.1, (y_1.1.1, s_.2.2.2.2.2.2.2.1.2.2.2.2.2))))), ())))))))), ()), ((), ())))))
         (some ((((0 : Int), (((0 : Int), ((0 : Int), ((0 : Int), ([(0 : Int), (0 : Int), (0 : Int), (0 : Int)], ((0 : Int), ([(0 : Int), (0 : Int), (0 : Int), (0 : Int)], ([(0 : Int), (0 : Int), (0 : Int), (0 : Int)], ((0 : Int), (([] : List Int), ()))))))))), (((0 : Int), ((0 : Int), ([(0 : Int), (0 : Int), (0 : Int), (0 : Int)], ()))), ((0 : Int), ((0 : Int), ([(0 : Int), (0 : Int), (0 : Int), (0 : Int)], ((0 : Int), (((0 : Int), ((0 : Int), ((0 : Int), ([(0 : Int), (0 : Int), (0 : Int), (0 : Int)], (([] : List (List Int)), ()))))), ())))))))), ()), ((), ()))))))))))

noncomputable def sol_step_Canonical : F_step_Canonical := fun x => T_step_Canonical bigLoop sol_slices_Clone_byte_byte sol_slices_Clone_api_Hash_api_Hash x.1

end Go.Pon
/-
  What the functions of package law26 compute (printed by a program of this work).
-/
set_option autoImplicit false
set_option linter.unusedVariables false
set_option maxRecDepth 100000
namespace Go.Pon
open Go

/-- pontage/pontagelaw26.awake -/
abbrev s_law26_awake : Sig := ⟨[], [(.ro true .bool)]⟩
abbrev F_law26_awake := Unit → Option ((Bool × Unit) × Unit)

noncomputable def T_law26_awake (L : LoopD) (c_step_Encode : F_step_Encode) (c_step_Decode : F_step_Decode) (c_law0_EqualBytes : F_law0_EqualBytes) : Option ((Bool × Unit) × Unit) :=
  (Option.bind (c_step_Encode (((3 : Int), (((0 : Int), ((0 : Int), ((0 : Int), ([(0 : Int), (0 : Int), (0 : Int), (0 : Int)], ((0 : Int), ([(0 : Int), (0 : Int), (0 : Int), (0 : Int)], ([(0 : Int), (0 : Int), (0 : Int), (0 : Int)], ((0 : Int), (([] : List Int), ()))))))))), (((0 : Int), ((0 : Int), ([(0 : Int), (0 : Int), (0 : Int), (0 : Int)], ()))), ((7 : Int), ((0 : Int), ([(0 : Int), (0 : Int), (0 : Int), (0 : Int)], ((0 : Int), (((0 : Int), ((0 : Int), ((0 : Int), ([(0 : Int), (0 : Int), (0 : Int), (0 : Int)], (([] : List (List Int)), ()))))), ())))))))), ())) (fun (y_0 : (((List Int) × (Int × Unit)) × (Unit × Unit))) =>
   (Option.bind (c_step_Decode ([(3 : Int), (1 : Int), (7 : Int), (0 : Int)], ())) (fun (y_1 : (((Int × ((Int × (Int × (Int × ((List Int) × (Int × ((List Int) × ((List Int) × (Int × ((List Int) × Unit))))))))) × ((Int × (Int × ((List Int) × Unit))) × (Int × (Int × ((List Int) × (Int × ((Int × (Int × (Int × ((List Int) × ((List (List Int)) × Unit))))) × Unit)))))))) × (Int × Unit)) × (Unit × Unit))) =>
    (brR (decide (y_0.1.2.1 = (0 : Int)))
     (Option.bind (c_law0_EqualBytes (y_0.1.1, ([(3 : Int), (1 : Int), (7 : Int)], ()))) (fun (y_2 : ((Bool × Unit) × (Unit × (Unit × Unit)))) =>
      (brR y_2.1.1
       (some (((decide (y_1.1.2.1 = (3 : Int))), ()), ()))
       (some ((false, ()), ())))))
     (some ((false, ()), ())))))))

noncomputable def sol_law26_awake : F_law26_awake := fun x => T_law26_awake bigLoop sol_step_Encode sol_step_Decode sol_law0_EqualBytes

/-- pontage/pontagelaw26.tooLarge -/
abbrev s_law26_tooLarge : Sig := ⟨[(.ro false (.pair (.int .i64) (.pair (.pair (.int .u64) (.pair (.int .u64) (.pair (.int .u64) (.pair (.arr 4 (.int .u64)) (.pair (.int .u64) (.pair (.arr 4 (.int .u64)) (.pair (.arr 4 (.int .u64)) (.pair (.int .u64) (.pair (.slice (.int .u8)) .unit))))))))) (.pair (.pair (.int .u64) (.pair (.int .u64) (.pair (.arr 4 (.int .u64)) .unit))) (.pair (.int .u64) (.pair (.int .i64) (.pair (.arr 4 (.int .u64)) (.pair (.int .u64) (.pair (.pair (.int .u64) (.pair (.int .u64) (.pair (.int .u64) (.pair (.arr 4 (.int .u64)) (.pair (.slice (.arr 32 (.int .u8))) .unit))))) .unit)))))))))], [(.ro true .bool)]⟩
abbrev F_law26_tooLarge := ((Int × ((Int × (Int × (Int × ((List Int) × (Int × ((List Int) × ((List Int) × (Int × ((List Int) × Unit))))))))) × ((Int × (Int × ((List Int) × Unit))) × (Int × (Int × ((List Int) × (Int × ((Int × (Int × (Int × ((List Int) × ((List (List Int)) × Unit))))) × Unit)))))))) × Unit) → Option ((Bool × Unit) × (Unit × Unit))

noncomputable def T_law26_tooLarge (L : LoopD) (s_ : (Int × ((Int × (Int × (Int × ((List Int) × (Int × ((List Int) × ((List Int) × (Int × ((List Int) × Unit))))))))) × ((Int × (Int × ((List Int) × Unit))) × (Int × (Int × ((List Int) × (Int × ((Int × (Int × (Int × ((List Int) × ((List (List Int)) × Unit))))) × Unit))))))))) : Option ((Bool × Unit) × (Unit × Unit)) :=
  (brR (decide ((((List.length s_.2.1.2.2.2.2.2.2.2.2.1) : Nat) : Int) > (600 : Int)))
   (some ((true, ()), ((), ())))
   (some (((decide ((((List.length s_.2.2.2.2.2.2.2.1.2.2.2.2.1) : Nat) : Int) > (70 : Int))), ()), ((), ()))))

noncomputable def sol_law26_tooLarge : F_law26_tooLarge := fun x => T_law26_tooLarge bigLoop x.1

/-- pontage/pontagelaw26.normalize -/
abbrev s_law26_normalize : Sig := ⟨[(.ro false (.pair (.int .i64) (.pair (.pair (.int .u64) (.pair (.int .u64) (.pair (.int .u64) (.pair (.arr 4 (.int .u64)) (.pair (.int .u64) (.pair (.arr 4 (.int .u64)) (.pair (.arr 4 (.int .u64)) (.pair (.int .u64) (.pair (.slice (.int .u8)) .unit))))))))) (.pair (.pair (.int .u64) (.pair (.int .u64) (.pair (.arr 4 (.int .u64)) .unit))) (.pair (.int .u64) (.pair (.int .i64) (.pair (.arr 4 (.int .u64)) (.pair (.int .u64) (.pair (.pair (.int .u64) (.pair (.int .u64) (.pair (.int .u64) (.pair (.arr 4 (.int .u64)) (.pair (.slice (.arr 32 (.int .u8))) .unit))))) .unit))))))))), (.ro true (.int .i64))], [(.ro false (.pair (.int .i64) (.pair (.pair (.int .u64) (.pair (.int .u64) (.pair (.int .u64) (.pair (.arr 4 (.int .u64)) (.pair (.int .u64) (.pair (.arr 4 (.int .u64)) (.pair (.arr 4 (.int .u64)) (.pair (.int .u64) (.pair (.slice (.int .u8)) .unit))))))))) (.pair (.pair (.int .u64) (.pair (.int .u64) (.pair (.arr 4 (.int .u64)) .unit))) (.pair (.int .u64) (.pair (.int .i64) (.pair (.arr 4 (.int .u64)) (.pair (.int .u64) (.pair (.pair (.int .u64) (.pair (.int .u64) (.pair (.int .u64) (.pair (.arr 4 (.int .u64)) (.pair (.slice (.arr 32 (.int .u8))) .unit))))) .unit)))))))))]⟩
abbrev F_law26_normalize := ((Int × ((Int × (Int × (Int × ((List Int) × (Int × ((List Int) × ((List Int) × (Int × ((List Int) × Unit))))))))) × ((Int × (Int × ((List Int) × Unit))) × (Int × (Int × ((List Int) × (Int × ((Int × (Int × (Int × ((List Int) × ((List (List Int)) × Unit))))) × Unit)))))))) × (Int × Unit)) → Option (((Int × ((Int × (Int × (Int × ((List Int) × (Int × ((List Int) × ((List Int) × (Int × ((List Int) × Unit))))))))) × ((Int × (Int × ((List Int) × Unit))) × (Int × (Int × ((List Int) × (Int × ((Int × (Int × (Int × ((List Int) × ((List (List Int)) × Unit))))) × Unit)))))))) × Unit) × (Unit × (Unit × Unit)))

noncomputable def T_law26_normalize (L : LoopD) (c_law0_Mod : F_law0_Mod) (s_ : (Int × ((Int × (Int × (Int × ((List Int) × (Int × ((List Int) × ((List Int) × (Int × ((List Int) × Unit))))))))) × ((Int × (Int × ((List Int) × Unit))) × (Int × (Int × ((List Int) × (Int × ((Int × (Int × (Int × ((List Int) × ((List (List Int)) × Unit))))) × Unit))))))))) (how_ : Int) : Option (((Int × ((Int × (Int × (Int × ((List Int) × (Int × ((List Int) × ((List Int) × (Int × ((List Int) × Unit))))))))) × ((Int × (Int × ((List Int) × Unit))) × (Int × (Int × ((List Int) × (Int × ((Int × (Int × (Int × ((List Int) × ((List (List Int)) × Unit))))) × Unit)))))))) × Unit) × (Unit × (Unit × Unit))) :=
  (brR (decide ((Int.tmod how_ (5 : Int)) > (0 : Int)))
   (Option.bind (c_law0_Mod (s_.1, ((9 : Int), ()))) (fun (y_0 : ((Int × Unit) × (Unit × (Unit × Unit)))) =>
    (brR (decide ((Int.tmod how_ (3 : Int)) > (0 : Int)))
     (Option.bind (c_law0_Mod (s_.2.2.2.2.1, ((14 : Int), ()))) (fun (y_1 : ((Int × Unit) × (Unit × (Unit × Unit)))) =>
      (some (((y_0.1.1, (s_.2.1, (s_.2.2.1, (s_.2.2.2.1, (y_1.1.1, s_.2.2.2.2.2))))), ()), ((), ((), ()))))))
     (some (((y_0.1.1, s_.2), ()), ((), ((), ())))))))
   (brR (decide ((Int.tmod how_ (3 : Int)) > (0 : Int)))
    (Option.bind (c_law0_Mod (s_.2.2.2.2.1, ((14 : Int), ()))) (fun (y_2 : ((Int × Unit) × (Unit × (Unit × Unit)))) =>
     (some (((s_.1, (s_.2.1, (s_.2.2.1, (s_.2.2.2.1, (y_2.1.1, s_.2.2.2.2.2))))), ()), ((), ((), ()))))))
    (some ((s_, ()), ((), ((), ()))))))

noncomputable def sol_law26_normalize : F_law26_normalize := fun x => T_law26_normalize bigLoop sol_law0_Mod x.1 x.2.1

/-- pontage/pontagelaw26.StepCanonical -/
abbrev s_law26_StepCanonical : Sig := ⟨[(.ro false (.slice (.int .u8))), (.ro false (.pair (.int .i64) (.pair (.pair (.int .u64) (.pair (.int .u64) (.pair (.int .u64) (.pair (.arr 4 (.int .u64)) (.pair (.int .u64) (.pair (.arr 4 (.int .u64)) (.pair (.arr 4 (.int .u64)) (.pair (.int .u64) (.pair (.slice (.int .u8)) .unit))))))))) (.pair (.pair (.int .u64) (.pair (.int .u64) (.pair (.arr 4 (.int .u64)) .unit))) (.pair (.int .u64) (.pair (.int .i64) (.pair (.arr 4 (.int .u64)) (.pair (.int .u64) (.pair (.pair (.int .u64) (.pair (.int .u64) (.pair (.int .u64) (.pair (.arr 4 (.int .u64)) (.pair (.slice (.arr 32 (.int .u8))) .unit))))) .unit))))))))), (.ro true (.int .i64)), (.ro true (.int .i64)), (.ro true (.int .u8))], [(.ro true .bool)]⟩
abbrev F_law26_StepCanonical := ((List Int) × ((Int × ((Int × (Int × (Int × ((List Int) × (Int × ((List Int) × ((List Int) × (Int × ((List Int) × Unit))))))))) × ((Int × (Int × ((List Int) × Unit))) × (Int × (Int × ((List Int) × (Int × ((Int × (Int × (Int × ((List Int) × ((List (List Int)) × Unit))))) × Unit)))))))) × (Int × (Int × (Int × Unit))))) → Option ((Bool × Unit) × (Unit × (Unit × (Unit × (Unit × (Unit × Unit))))))

noncomputable def T_law26_StepCanonical_loop0 (c_step_Decode : F_step_Decode) (c_ref26_Equal : F_ref26_Equal) (c_step_Encode : F_step_Encode) (c_law0_EqualBytes : F_law0_EqualBytes) (c_step_Canonical : F_step_Canonical) (c_law26_awake : F_law26_awake) (again_9 : ((List (List Int)) × (Int × Unit)) → Option ((Bool × Unit) × (Unit × (Unit × (Unit × (Unit × (Unit × Unit))))))) (t47_10 : (List (List Int))) (t48_11 : Int) : Option ((Bool × Unit) × (Unit × (Unit × (Unit × (Unit × (Unit × Unit)))))) :=
  (brR (decide (t48_11 < (2 : Int)))
   (brR (Go.Pon.inR t48_11 (2 : Nat))
    (Option.bind (c_step_Decode ((List.getD t47_10 (Int.toNat t48_11) ([] : List Int)), ())) (fun (y_12 : (((Int × ((Int × (Int × (Int × ((List Int) × (Int × ((List Int) × ((List Int) × (Int × ((List Int) × Unit))))))))) × ((Int × (Int × ((List Int) × Unit))) × (Int × (Int × ((List Int) × (Int × ((Int × (Int × (Int × ((List Int) × ((List (List Int)) × Unit))))) × Unit)))))))) × (Int × Unit)) × (Unit × Unit))) =>
     (brR (!(decide (y_12.1.2.1 = (0 : Int))))
      (brR (!(decide (y_12.1.2.1 = (3 : Int))))
       (some ((false, ()), ((), ((), ((), ((), ((), ())))))))
       (Option.bind (c_ref26_Equal (y_12.1.1, (((0 : Int), (((0 : Int), ((0 : Int), ((0 : Int), ([(0 : Int), (0 : Int), (0 : Int), (0 : Int)], ((0 : Int), ([(0 : Int), (0 : Int), (0 : Int), (0 : Int)], ([(0 : Int), (0 : Int), (0 : Int), (0 : Int)], ((0 : Int), (([] : List Int), ()))))))))), (((0 : Int), ((0 : Int), ([(0 : Int), (0 : Int), (0 : Int), (0 : Int)], ()))), ((0 : Int), ((0 : Int), ([(0 : Int), (0 : Int), (0 : Int), (0 : Int)], ((0 : Int), (((0 : Int), ((0 : Int), ((0 : Int), ([(0 : Int), (0 : Int), (0 : Int), (0 : Int)], (([] : List (List Int)), ()))))), ())))))))), ()))) (fun (y_13 : ((Bool × Unit) × (Unit × (Unit × Unit)))) =>
        (brR (!y_13.1.1)
         (some ((false, ()), ((), ((), ((), ((), ((), ())))))))
         (again_9 (t47_10, ((Go.IntKind.wrap (Go.IntKind.i64) (t48_11 + (1 : Int))), ())))))))
      (Option.bind (c_step_Encode (y_12.1.1, ())) (fun (y_14 : (((List Int) × (Int × Unit)) × (Unit × Unit))) =>
       (brR (!(decide (y_14.1.2.1 = (0 : Int))))
        (some ((false, ()), ((), ((), ((), ((), ((), ())))))))
        (Option.bind (c_law0_EqualBytes (y_14.1.1, ((List.getD t47_10 (Int.toNat t48_11) ([] : List Int)), ()))) (fun (y_15 : ((Bool × Unit) × (Unit × (Unit × Unit)))) =>
         (brR (!y_15.1.1)
          (some ((false, ()), ((), ((), ((), ((), ((), ())))))))
          (Option.bind (c_step_Canonical (y_12.1.1, ())) (fun (y_16 : (((Int × ((Int × (Int × (Int × ((List Int) × (Int × ((List Int) × ((List Int) × (Int × ((List Int) × Unit))))))))) × ((Int × (Int × ((List Int) × Unit))) × (Int × (Int × ((List Int) × (Int × ((Int × (Int × (Int × ((List Int) × ((List (List Int)) × Unit))))) × Unit)))))))) × Unit) × (Unit × Unit))) =>
           (Option.bind (c_ref26_Equal (y_16.1.1, (y_12.1.1, ()))) (fun (y_17 : ((Bool × Unit) × (Unit × (Unit × Unit)))) =>
            (brR (!y_17.1.1)
             (some ((false, ()), ((), ((), ((), ((), ((), ())))))))
             (again_9 (t47_10, ((Go.IntKind.wrap (Go.IntKind.i64) (t48_11 + (1 : Int))), ())))))))))))))))))
    none)
   (Option.bind (c_law26_awake ()) (fun (y_18 : ((Bool × Unit) × Unit)) =>
    (some ((y_18.1.1, ()), ((), ((), ((), ((), ((), ()))))))))))

noncomputable def T_law26_StepCanonical (L : LoopD) (c_law26_awake : F_law26_awake) (c_law26_tooLarge : F_law26_tooLarge) (c_law0_Mod : F_law0_Mod) (c_law26_normalize : F_law26_normalize) (c_step_Encode : F_step_Encode) (c_step_Decode : F_step_Decode) (c_ref26_Equal : F_ref26_Equal) (c_law0_EqualBytes : F_law0_EqualBytes) (c_step_Canonical : F_step_Canonical) (b_ : (List Int)) (s_ : (Int × ((Int × (Int × (Int × ((List Int) × (Int × ((List Int) × ((List Int) × (Int × ((List Int) × Unit))))))))) × ((Int × (Int × ((List Int) × Unit))) × (Int × (Int × ((List Int) × (Int × ((Int × (Int × (Int × ((List Int) × ((List (List Int)) × Unit))))) × Unit))))))))) (how_ : Int) (at_ : Int) (c_ : Int) : Option ((Bool × Unit) × (Unit × (Unit × (Unit × (Unit × (Unit × Unit)))))) :=
  (brR (decide ((((List.length b_) : Nat) : Int) > (800 : Int)))
   (Option.bind (c_law26_awake ()) (fun (y_0 : ((Bool × Unit) × Unit)) =>
    (some ((y_0.1.1, ()), ((), ((), ((), ((), ((), ())))))))))
   (Option.bind (c_law26_tooLarge (s_, ())) (fun (y_1 : ((Bool × Unit) × (Unit × Unit))) =>
    (brR y_1.1.1
     (Option.bind (c_law26_awake ()) (fun (y_2 : ((Bool × Unit) × Unit)) =>
      (some ((y_2.1.1, ()), ((), ((), ((), ((), ((), ())))))))))
     (Option.bind (c_law0_Mod (how_, ((15 : Int), ()))) (fun (y_3 : ((Int × Unit) × (Unit × (Unit × Unit)))) =>
      (Option.bind (c_law26_normalize (s_, (y_3.1.1, ()))) (fun (y_4 : (((Int × ((Int × (Int × (Int × ((List Int) × (Int × ((List Int) × ((List Int) × (Int × ((List Int) × Unit))))))))) × ((Int × (Int × ((List Int) × Unit))) × (Int × (Int × ((List Int) × (Int × ((Int × (Int × (Int × ((List Int) × ((List (List Int)) × Unit))))) × Unit)))))))) × Unit) × (Unit × (Unit × Unit)))) =>
       (Option.bind (c_step_Encode (y_4.1.1, ())) (fun (y_5 : (((List Int) × (Int × Unit)) × (Unit × Unit))) =>
        (letR (List.length y_5.1.1) fun (v_6 : Nat) =>
        (letR ((v_6 : Nat) : Int) fun (v_7 : Int) =>
        (brR (decide (v_7 > (0 : Int)))
         (Option.bind (c_law0_Mod (at_, (v_7, ()))) (fun (y_8 : ((Int × Unit) × (Unit × (Unit × Unit)))) =>
          (brR (Go.Pon.inR y_8.1.1 v_6)
           (L _ _ (fun again x => T_law26_StepCanonical_loop0 c_step_Decode c_ref26_Equal c_step_Encode c_law0_EqualBytes c_step_Canonical c_law26_awake again x.1 x.2.1) ([b_, (List.set y_5.1.1 (Int.toNat y_8.1.1) c_)], ((0 : Int), ())))
           none)))
         (L _ _ (fun again x => T_law26_StepCanonical_loop0 c_step_Decode c_ref26_Equal c_step_Encode c_law0_EqualBytes c_step_Canonical c_law26_awake again x.1 x.2.1) ([b_, y_5.1.1], ((0 : Int), ()))))))))))))))))

noncomputable def sol_law26_StepCanonical : F_law26_StepCanonical := fun x => T_law26_StepCanonical bigLoop sol_law26_awake sol_law26_tooLarge sol_law0_Mod sol_law26_normalize sol_step_Encode sol_step_Decode sol_ref26_Equal sol_law0_EqualBytes sol_step_Canonical x.1 x.2.1 x.2.2.1 x.2.2.2.1 x.2.2.2.2.1

/-- pontage/pontagelaw26.StepDecode -/
abbrev s_law26_StepDecode : Sig := ⟨[(.ro false (.slice (.int .u8))), (.ro false (.pair (.int .i64) (.pair (.pair (.int .u64) (.pair (.int .u64) (.pair (.int .u64) (.pair (.arr 4 (.int .u64)) (.pair (.int .u64) (.pair (.arr 4 (.int .u64)) (.pair (.arr 4 (.int .u64)) (.pair (.int .u64) (.pair (.slice (.int .u8)) .unit))))))))) (.pair (.pair (.int .u64) (.pair (.int .u64) (.pair (.arr 4 (.int .u64)) .unit))) (.pair (.int .u64) (.pair (.int .i64) (.pair (.arr 4 (.int .u64)) (.pair (.int .u64) (.pair (.pair (.int .u64) (.pair (.int .u64) (.pair (.int .u64) (.pair (.arr 4 (.int .u64)) (.pair (.slice (.arr 32 (.int .u8))) .unit))))) .unit))))))))), (.ro true (.int .i64)), (.ro true (.int .i64)), (.ro true (.int .u8))], [(.ro true .bool)]⟩
abbrev F_law26_StepDecode := ((List Int) × ((Int × ((Int × (Int × (Int × ((List Int) × (Int × ((List Int) × ((List Int) × (Int × ((List Int) × Unit))))))))) × ((Int × (Int × ((List Int) × Unit))) × (Int × (Int × ((List Int) × (Int × ((Int × (Int × (Int × ((List Int) × ((List (List Int)) × Unit))))) × Unit)))))))) × (Int × (Int × (Int × Unit))))) → Option ((Bool × Unit) × (Unit × (Unit × (Unit × (Unit × (Unit × Unit))))))

noncomputable def T_law26_StepDecode_loop0 (c_step_Decode : F_step_Decode) (c_ref26_Decode : F_ref26_Decode) (c_ref26_Equal : F_ref26_Equal) (c_law26_awake : F_law26_awake) (again_17 : ((List (List Int)) × (Int × Unit)) → Option ((Bool × Unit) × (Unit × (Unit × (Unit × (Unit × (Unit × Unit))))))) (t82_18 : (List (List Int))) (t83_19 : Int) : Option ((Bool × Unit) × (Unit × (Unit × (Unit × (Unit × (Unit × Unit)))))) :=
  (brR (decide (t83_19 < (2 : Int)))
   (brR (Go.Pon.inR t83_19 (2 : Nat))
    (Option.bind (c_step_Decode ((List.getD t82_18 (Int.toNat t83_19) ([] : List Int)), ())) (fun (y_20 : (((Int × ((Int × (Int × (Int × ((List Int) × (Int × ((List Int) × ((List Int) × (Int × ((List Int) × Unit))))))))) × ((Int × (Int × ((List Int) × Unit))) × (Int × (Int × ((List Int) × (Int × ((Int × (Int × (Int × ((List Int) × ((List (List Int)) × Unit))))) × Unit)))))))) × (Int × Unit)) × (Unit × Unit))) =>
     (Option.bind (c_ref26_Decode ((List.getD t82_18 (Int.toNat t83_19) ([] : List Int)), ())) (fun (y_21 : (((Int × ((Int × (Int × (Int × ((List Int) × (Int × ((List Int) × ((List Int) × (Int × ((List Int) × Unit))))))))) × ((Int × (Int × ((List Int) × Unit))) × (Int × (Int × ((List Int) × (Int × ((Int × (Int × (Int × ((List Int) × ((List (List Int)) × Unit))))) × Unit)))))))) × (Int × Unit)) × (Unit × Unit))) =>
      (Option.bind (c_ref26_Equal (y_20.1.1, (y_21.1.1, ()))) (fun (y_22 : ((Bool × Unit) × (Unit × (Unit × Unit)))) =>
       (brR (!y_22.1.1)
        (some ((false, ()), ((), ((), ((), ((), ((), ())))))))
        (brR (!(decide (y_20.1.2.1 = y_21.1.2.1)))
         (some ((false, ()), ((), ((), ((), ((), ((), ())))))))
         (again_17 (t82_18, ((Go.IntKind.wrap (Go.IntKind.i64) (t83_19 + (1 : Int))), ())))))))))))
    none)
   (Option.bind (c_law26_awake ()) (fun (y_23 : ((Bool × Unit) × Unit)) =>
    (some ((y_23.1.1, ()), ((), ((), ((), ((), ((), ()))))))))))

noncomputable def T_law26_StepDecode (L : LoopD) (c_law26_awake : F_law26_awake) (c_law26_tooLarge : F_law26_tooLarge) (c_law0_Mod : F_law0_Mod) (c_law26_normalize : F_law26_normalize) (c_ref26_Encode : F_ref26_Encode) (c_step_Decode : F_step_Decode) (c_ref26_Decode : F_ref26_Decode) (c_ref26_Equal : F_ref26_Equal) (b_ : (List Int)) (s_ : (Int × ((Int × (Int × (Int × ((List Int) × (Int × ((List Int) × ((List Int) × (Int × ((List Int) × Unit))))))))) × ((Int × (Int × ((List Int) × Unit))) × (Int × (Int × ((List Int) × (Int × ((Int × (Int × (Int × ((List Int) × ((List (List Int)) × Unit))))) × Unit))))))))) (how_ : Int) (at_ : Int) (c_ : Int) : Option ((Bool × Unit) × (Unit × (Unit × (Unit × (Unit × (Unit × Unit)))))) :=
  (brR (decide ((((List.length b_) : Nat) : Int) > (800 : Int)))
   (brR (decide ((((List.length b_) : Nat) : Int) ≤ (8192 : Int)))
    (Option.bind (c_law26_awake ()) (fun (y_0 : ((Bool × Unit) × Unit)) =>
     (some ((y_0.1.1, ()), ((), ((), ((), ((), ((), ())))))))))
    (Option.bind (c_law26_tooLarge (s_, ())) (fun (y_1 : ((Bool × Unit) × (Unit × Unit))) =>
     (brR y_1.1.1
      (Option.bind (c_law26_awake ()) (fun (y_2 : ((Bool × Unit) × Unit)) =>
       (some ((y_2.1.1, ()), ((), ((), ((), ((), ((), ())))))))))
      (Option.bind (c_law0_Mod (how_, ((15 : Int), ()))) (fun (y_3 : ((Int × Unit) × (Unit × (Unit × Unit)))) =>
       (Option.bind (c_law26_normalize (s_, (y_3.1.1, ()))) (fun (y_4 : (((Int × ((Int × (Int × (Int × ((List Int) × (Int × ((List Int) × ((List Int) × (Int × ((List Int) × Unit))))))))) × ((Int × (Int × ((List Int) × Unit))) × (Int × (Int × ((List Int) × (Int × ((Int × (Int × (Int × ((List Int) × ((List (List Int)) × Unit))))) × Unit)))))))) × Unit) × (Unit × (Unit × Unit)))) =>
        (Option.bind (c_ref26_Encode (y_4.1.1, ())) (fun (y_5 : (((List Int) × (Int × Unit)) × (Unit × Unit))) =>
         (letR (List.length y_5.1.1) fun (v_6 : Nat) =>
         (letR ((v_6 : Nat) : Int) fun (v_7 : Int) =>
         (letR (List.drop (0 : Nat) y_5.1.1) fun (v_8 : (List Int)) =>
         (brR (decide (v_7 > (0 : Int)))
          (Option.bind (c_law0_Mod (at_, (v_7, ()))) (fun (y_9 : ((Int × Unit) × (Unit × (Unit × Unit)))) =>
           (letR (Go.IntKind.wrap (Go.IntKind.i64) (y_9.1.1 + (1 : Int))) fun (v_10 : Int) =>
           (letR (List.take ((Int.toNat y_9.1.1) - (0 : Nat)) v_8) fun (v_11 : (List Int)) =>
           (letR (List.length v_11) fun (v_12 : Nat) =>
           (letR (List.take (v_6 - (Int.toNat y_9.1.1)) (List.drop (Int.toNat y_9.1.1) y_5.1.1)) fun (v_13 : (List Int)) =>
           (letR (List.append [c_] v_13) fun (v_14 : (List Int)) =>
           (letR (List.take (v_6 - (Int.toNat v_10)) (List.drop (Int.toNat v_10) y_5.1.1)) fun (v_15 : (List Int)) =>
           (Option.bind (c_law0_Mod (how_, ((4 : Int), ()))) (fun (y_16 : ((Int × Unit) × (Unit × (Unit × Unit)))) =>
            (brR (decide (y_16.1.1 = (0 : Int)))
             (brR (Go.Pon.inR y_9.1.1 v_6)
              (L _ _ (fun again x => T_law26_StepDecode_loop0 c_step_Decode c_ref26_Decode c_ref26_Equal c_law26_awake again x.1 x.2.1) ([b_, (List.set y_5.1.1 (Int.toNat y_9.1.1) c_)], ((0 : Int), ())))
              none)
             (brR (decide (y_16.1.1 = (1 : Int)))
              (brR (decide (y_9.1.1 = y_9.1.1))
               (brR ((decide ((0 : Int) ≤ y_9.1.1)) && (decide (y_9.1.1 ≤ v_7)))
                (brR ((decide ((0 : Int) ≤ y_9.1.1)) && (decide (y_9.1.1 ≤ v_7)))
                 (brR (Go.Pon.roomy ((1 : Nat) + (List.length v_13)) (Go.Pon.Ty.int Go.IntKind.u8))
                  (brR (Go.Pon.roomy (v_12 + (List.length v_14)) (Go.Pon.Ty.int Go.IntKind.u8))
                   (L _ _ (fun again x => T_law26_StepDecode_loop0 c_step_Decode c_ref26_Decode c_ref26_Equal c_law26_awake again x.1 x.2.1) ([b_, (List.append v_11 v_14)], ((0 : Int), ())))
                   none)
                  none)
                 none)
                none)
               none)
              (brR (decide (y_16.1.1 = (2 : Int)))
               (brR (decide (y_9.1.1 = y_9.1.1))
                (brR ((decide ((0 : Int) ≤ y_9.1.1)) && (decide (y_9.1.1 ≤ v_7)))
                 (brR ((decide ((0 : Int) ≤ v_10)) && (decide (v_10 ≤ v_7)))
                  (brR (Go.Pon.roomy (v_12 + (List.length v_15)) (Go.Pon.Ty.int Go.IntKind.u8))
                   (L _ _ (fun again x => T_law26_StepDecode_loop0 c_step_Decode c_ref26_Decode c_ref26_Equal c_law26_awake again x.1 x.2.1) ([b_, (List.append v_11 v_15)], ((0 : Int), ())))
                   none)
                  none)
                 none)
                none)
               (L _ _ (fun again x => T_law26_StepDecode_loop0 c_step_Decode c_ref26_Decode c_ref26_Equal c_law26_awake again x.1 x.2.1) ([b_, y_5.1.1], ((0 : Int), ()))))))))))))))))
          (L _ _ (fun again x => T_law26_StepDecode_loop0 c_step_Decode c_ref26_Decode c_ref26_Equal c_law26_awake again x.1 x.2.1) ([b_, y_5.1.1], ((0 : Int), ())))))))))))))))))
   (Option.bind (c_law26_tooLarge (s_, ())) (fun (y_24 : ((Bool × Unit) × (Unit × Unit))) =>
    (brR y_24.1.1
     (Option.bind (c_law26_awake ()) (fun (y_25 : ((Bool × Unit) × Unit)) =>
      (some ((y_25.1.1, ()), ((), ((), ((), ((), ((), ())))))))))
     (Option.bind (c_law0_Mod (how_, ((15 : Int), ()))) (fun (y_26 : ((Int × Unit) × (Unit × (Unit × Unit)))) =>
      (Option.bind (c_law26_normalize (s_, (y_26.1.1, ()))) (fun (y_27 : (((Int × ((Int × (Int × (Int × ((List Int) × (Int × ((List Int) × ((List Int) × (Int × ((List Int) × Unit))))))))) × ((Int × (Int × ((List Int) × Unit))) × (Int × (Int × ((List Int) × (Int × ((Int × (Int × (Int × ((List Int) × ((List (List Int)) × Unit))))) × Unit)))))))) × Unit) × (Unit × (Unit × Unit)))) =>
       (Option.bind (c_ref26_Encode (y_27.1.1, ())) (fun (y_28 : (((List Int) × (Int × Unit)) × (Unit × Unit))) =>
        (letR (List.length y_28.1.1) fun (v_29 : Nat) =>
        (letR ((v_29 : Nat) : Int) fun (v_30 : Int) =>
        (letR (List.drop (0 : Nat) y_28.1.1) fun (v_31 : (List Int)) =>
        (brR (decide (v_30 > (0 : Int)))
         (Option.bind (c_law0_Mod (at_, (v_30, ()))) (fun (y_32 : ((Int × Unit) × (Unit × (Unit × Unit)))) =>
          (letR (Go.IntKind.wrap (Go.IntKind.i64) (y_32.1.1 + (1 : Int))) fun (v_33 : Int) =>
          (letR (List.take ((Int.toNat y_32.1.1) - (0 : Nat)) v_31) fun (v_34 : (List Int)) =>
          (letR (List.length v_34) fun (v_35 : Nat) =>
          (letR (List.take (v_29 - (Int.toNat y_32.1.1)) (List.drop (Int.toNat y_32.1.1) y_28.1.1)) fun (v_36 : (List Int)) =>
          (letR (List.append [c_] v_36) fun (v_37 : (List Int)) =>
          (letR (List.take (v_29 - (Int.toNat v_33)) (List.drop (Int.toNat v_33) y_28.1.1)) fun (v_38 : (List Int)) =>
          (Option.bind (c_law0_Mod (how_, ((4 : Int), ()))) (fun (y_39 : ((Int × Unit) × (Unit × (Unit × Unit)))) =>
           (brR (decide (y_39.1.1 = (0 : Int)))
            (brR (Go.Pon.inR y_32.1.1 v_29)
             (L _ _ (fun again x => T_law26_StepDecode_loop0 c_step_Decode c_ref26_Decode c_ref26_Equal c_law26_awake again x.1 x.2.1) ([b_, (List.set y_28.1.1 (Int.toNat y_32.1.1) c_)], ((0 : Int), ())))
             none)
            (brR (decide (y_39.1.1 = (1 : Int)))
             (brR (decide (y_32.1.1 = y_32.1.1))
              (brR ((decide ((0 : Int) ≤ y_32.1.1)) && (decide (y_32.1.1 ≤ v_30)))
               (brR ((decide ((0 : Int) ≤ y_32.1.1)) && (decide (y_32.1.1 ≤ v_30)))
                (brR (Go.Pon.roomy ((1 : Nat) + (List.length v_36)) (Go.Pon.Ty.int Go.IntKind.u8))
                 (brR (Go.Pon.roomy (v_35 + (List.length v_37)) (Go.Pon.Ty.int Go.IntKind.u8))
                  (L _ _ (fun again x => T_law26_StepDecode_loop0 c_step_Decode c_ref26_Decode c_ref26_Equal c_law26_awake again x.1 x.2.1) ([b_, (List.append v_34 v_37)], ((0 : Int), ())))
                  none)
                 none)
                none)
               none)
              none)
             (brR (decide (y_39.1.1 = (2 : Int)))
              (brR (decide (y_32.1.1 = y_32.1.1))
               (brR ((decide ((0 : Int) ≤ y_32.1.1)) && (decide (y_32.1.1 ≤ v_30)))
                (brR ((decide ((0 : Int) ≤ v_33)) && (decide (v_33 ≤ v_30)))
                 (brR (Go.Pon.roomy (v_35 + (List.length v_38)) (Go.Pon.Ty.int Go.IntKind.u8))
                  (L _ _ (fun again x => T_law26_StepDecode_loop0 c_step_Decode c_ref26_Decode c_ref26_Equal c_law26_awake again x.1 x.2.1) ([b_, (List.append v_34 v_38)], ((0 : Int), ())))
                  none)
                 none)
                none)
               none)
              (L _ _ (fun again x => T_law26_StepDecode_loop0 c_step_Decode c_ref26_Decode c_ref26_Equal c_law26_awake again x.1 x.2.1) ([b_, y_28.1.1], ((0 : Int), ()))))))))))))))))
         (L _ _ (fun again x => T_law26_StepDecode_loop0 c_step_Decode c_ref26_Decode c_ref26_Equal c_law26_awake again x.1 x.2.1) ([b_, y_28.1.1], ((0 : Int), ())))))))))))))))))

noncomputable def sol_law26_StepDecode : F_law26_StepDecode := fun x => T_law26_StepDecode bigLoop sol_law26_awake sol_law26_tooLarge sol_law0_Mod sol_law26_normalize sol_ref26_Encode sol_step_Decode sol_ref26_Decode sol_ref26_Equal x.1 x.2.1 x.2.2.1 x.2.2.2.1 x.2.2.2.2.1

/-- pontage/pontagelaw26.StepEncode -/
abbrev s_law26_StepEncode : Sig := ⟨[(.ro false (.pair (.int .i64) (.pair (.pair (.int .u64) (.pair (.int .u64) (.pair (.int .u64) (.pair (.arr 4 (.int .u64)) (.pair (.int .u64) (.pair (.arr 4 (.int .u64)) (.pair (.arr 4 (.int .u64)) (.pair (.int .u64) (.pair (.slice (.int .u8)) .unit))))))))) (.pair (.pair (.int .u64) (.pair (.int .u64) (.pair (.arr 4 (.int .u64)) .unit))) (.pair (.int .u64) (.pair (.int .i64) (.pair (.arr 4 (.int .u64)) (.pair (.int .u64) (.pair (.pair (.int .u64) (.pair (.int .u64) (.pair (.int .u64) (.pair (.arr 4 (.int .u64)) (.pair (.slice (.arr 32 (.int .u8))) .unit))))) .unit))))))))), (.ro true (.int .i64))], [(.ro true .bool)]⟩
abbrev F_law26_StepEncode := ((Int × ((Int × (Int × (Int × ((List Int) × (Int × ((List Int) × ((List Int) × (Int × ((List Int) × Unit))))))))) × ((Int × (Int × ((List Int) × Unit))) × (Int × (Int × ((List Int) × (Int × ((Int × (Int × (Int × ((List Int) × ((List (List Int)) × Unit))))) × Unit)))))))) × (Int × Unit)) → Option ((Bool × Unit) × (Unit × (Unit × Unit)))

noncomputable def T_law26_StepEncode_loop0 (c_step_Encode : F_step_Encode) (c_ref26_Encode : F_ref26_Encode) (c_law0_EqualBytes : F_law0_EqualBytes) (c_step_Canonical : F_step_Canonical) (c_ref26_Canonical : F_ref26_Canonical) (c_ref26_Equal : F_ref26_Equal) (c_law26_awake : F_law26_awake) (again_4 : ((List (Int × ((Int × (Int × (Int × ((List Int) × (Int × ((List Int) × ((List Int) × (Int × ((List Int) × Unit))))))))) × ((Int × (Int × ((List Int) × Unit))) × (Int × (Int × ((List Int) × (Int × ((Int × (Int × (Int × ((List Int) × ((List (List Int)) × Unit))))) × Unit))))))))) × (Int × Unit)) → Option ((Bool × Unit) × (Unit × (Unit × Unit)))) (t19_5 : (List (Int × ((Int × (Int × (Int × ((List Int) × (Int × ((List Int) × ((List Int) × (Int × ((List Int) × Unit))))))))) × ((Int × (Int × ((List Int) × Unit))) × (Int × (Int × ((List Int) × (Int × ((Int × (Int × (Int × ((List Int) × ((List (List Int)) × Unit))))) × Unit)))))))))) (t20_6 : Int) : Option ((Bool × Unit) × (Unit × (Unit × Unit))) :=
  (brR (decide (t20_6 < (2 : Int)))
   (brR (Go.Pon.inR t20_6 (2 : Nat))
    (Option.bind (c_step_Encode ((List.getD t19_5 (Int.toNat t20_6) ((0 : Int), (((0 : Int), ((0 : Int), ((0 : Int), ([(0 : Int), (0 : Int), (0 : Int), (0 : Int)], ((0 : Int), ([(0 : Int), (0 : Int), (0 : Int), (0 : Int)], ([(0 : Int), (0 : Int), (0 : Int), (0 : Int)], ((0 : Int), (([] : List Int), ()))))))))), (((0 : Int), ((0 : Int), ([(0 : Int), (0 : Int), (0 : Int), (0 : Int)], ()))), ((0 : Int), ((0 : Int), ([(0 : Int), (0 : Int), (0 : Int), (0 : Int)], ((0 : Int), (((0 : Int), ((0 : Int), ((0 : Int), ([(0 : Int), (0 : Int), (0 : Int), (0 : Int)], (([] : List (List Int)), ()))))), ()))))))))), ())) (fun (y_7 : (((List Int) × (Int × Unit)) × (Unit × Unit))) =>
     (Option.bind (c_ref26_Encode ((List.getD t19_5 (Int.toNat t20_6) ((0 : Int), (((0 : Int), ((0 : Int), ((0 : Int), ([(0 : Int), (0 : Int), (0 : Int), (0 : Int)], ((0 : Int), ([(0 : Int), (0 : Int), (0 : Int), (0 : Int)], ([(0 : Int), (0 : Int), (0 : Int), (0 : Int)], ((0 : Int), (([] : List Int), ()))))))))), (((0 : Int), ((0 : Int), ([(0 : Int), (0 : Int), (0 : Int), (0 : Int)], ()))), ((0 : Int), ((0 : Int), ([(0 : Int), (0 : Int), (0 : Int), (0 : Int)], ((0 : Int), (((0 : Int), ((0 : Int), ((0 : Int), ([(0 : Int), (0 : Int), (0 : Int), (0 : Int)], (([] : List (List Int)), ()))))), ()))))))))), ())) (fun (y_8 : (((List Int) × (Int × Unit)) × (Unit × Unit))) =>
      (Option.bind (c_law0_EqualBytes (y_7.1.1, (y_8.1.1, ()))) (fun (y_9 : ((Bool × Unit) × (Unit × (Unit × Unit)))) =>
       (brR (!y_9.1.1)
        (some ((false, ()), ((), ((), ()))))
        (brR (!(decide (y_7.1.2.1 = y_8.1.2.1)))
         (some ((false, ()), ((), ((), ()))))
         (Option.bind (c_step_Canonical ((List.getD t19_5 (Int.toNat t20_6) ((0 : Int), (((0 : Int), ((0 : Int), ((0 : Int), ([(0 : Int), (0 : Int), (0 : Int), (0 : Int)], ((0 : Int), ([(0 : Int), (0 : Int), (0 : Int), (0 : Int)], ([(0 : Int), (0 : Int), (0 : Int), (0 : Int)], ((0 : Int), (([] : List Int), ()))))))))), (((0 : Int), ((0 : Int), ([(0 : Int), (0 : Int), (0 : Int), (0 : Int)], ()))), ((0 : Int), ((0 : Int), ([(0 : Int), (0 : Int), (0 : Int), (0 : Int)], ((0 : Int), (((0 : Int), ((0 : Int), ((0 : Int), ([(0 : Int), (0 : Int), (0 : Int), (0 : Int)], (([] : List (List Int)), ()))))), ()))))))))), ())) (fun (y_10 : (((Int × ((Int × (Int × (Int × ((List Int) × (Int × ((List Int) × ((List Int) × (Int × ((List Int) × Unit))))))))) × ((Int × (Int × ((List Int) × Unit))) × (Int × (Int × ((List Int) × (Int × ((Int × (Int × (Int × ((List Int) × ((List (List Int)) × Unit))))) × Unit)))))))) × Unit) × (Unit × Unit))) =>
          (Option.bind (c_ref26_Canonical ((List.getD t19_5 (Int.toNat t20_6) ((0 : Int), (((0 : Int), ((0 : Int), ((0 : Int), ([(0 : Int), (0 : Int), (0 : Int), (0 : Int)], ((0 : Int), ([(0 : Int), (0 : Int), (0 : Int), (0 : Int)], ([(0 : Int), (0 : Int), (0 : Int), (0 : Int)], ((0 : Int), (([] : List Int), ()))))))))), (((0 : Int), ((0 : Int), ([(0 : Int), (0 : Int), (0 : Int), (0 : Int)], ()))), ((0 : Int), ((0 : Int), ([(0 : Int), (0 : Int), (0 : Int), (0 : Int)], ((0 : Int), (((0 : Int), ((0 : Int), ((0 : Int), ([(0 : Int), (0 : Int), (0 : Int), (0 : Int)], (([] : List (List Int)), ()))))), ()))))))))), ())) (fun (y_11 : (((Int × ((Int × (Int × (Int × ((List Int) × (Int × ((List Int) × ((List Int) × (Int × ((List Int) × Unit))))))))) × ((Int × (Int × ((List Int) × Unit))) × (Int × (Int × ((List Int) × (Int × ((Int × (Int × (Int × ((List Int) × ((List (List Int)) × Unit))))) × Unit)))))))) × Unit) × (Unit × Unit))) =>
           (Option.bind (c_ref26_Equal (y_10.1.1, (y_11.1.1, ()))) (fun (y_12 : ((Bool × Unit) × (Unit × (Unit × Unit)))) =>
            (brR (!y_12.1.1)
             (some ((false, ()), ((), ((), ()))))
             (again_4 (t19_5, ((Go.IntKind.wrap (Go.IntKind.i64) (t20_6 + (1 : Int))), ()))))))))))))))))))
    none)
   (Option.bind (c_law26_awake ()) (fun (y_13 : ((Bool × Unit) × Unit)) =>
    (some ((y_13.1.1, ()), ((), ((), ())))))))

noncomputable def T_law26_StepEncode (L : LoopD) (c_law26_tooLarge : F_law26_tooLarge) (c_law26_awake : F_law26_awake) (c_law0_Mod : F_law0_Mod) (c_law26_normalize : F_law26_normalize) (c_step_Encode : F_step_Encode) (c_ref26_Encode : F_ref26_Encode) (c_law0_EqualBytes : F_law0_EqualBytes) (c_step_Canonical : F_step_Canonical) (c_ref26_Canonical : F_ref26_Canonical) (c_ref26_Equal : F_ref26_Equal) (s_ : (Int × ((Int × (Int × (Int × ((List Int) × (Int × ((List Int) × ((List Int) × (Int × ((List Int) × Unit))))))))) × ((Int × (Int × ((List Int) × Unit))) × (Int × (Int × ((List Int) × (Int × ((Int × (Int × (Int × ((List Int) × ((List (List Int)) × Unit))))) × Unit))))))))) (how_ : Int) : Option ((Bool × Unit) × (Unit × (Unit × Unit))) :=
  (Option.bind (c_law26_tooLarge (s_, ())) (fun (y_0 : ((Bool × Unit) × (Unit × Unit))) =>
   (brR y_0.1.1
    (Option.bind (c_law26_awake ()) (fun (y_1 : ((Bool × Unit) × Unit)) =>
     (some ((y_1.1.1, ()), ((), ((), ()))))))
    (Option.bind (c_law0_Mod (how_, ((15 : Int), ()))) (fun (y_2 : ((Int × Unit) × (Unit × (Unit × Unit)))) =>
     (Option.bind (c_law26_normalize (s_, (y_2.1.1, ()))) (fun (y_3 : (((Int × ((Int × (Int × (Int × ((List Int) × (Int × ((List Int) × ((List Int) × (Int × ((List Int) × Unit))))))))) × ((Int × (Int × ((List Int) × Unit))) × (Int × (Int × ((List Int) × (Int × ((Int × (Int × (Int × ((List Int) × ((List (List Int)) × Unit))))) × Unit)))))))) × Unit) × (Unit × (Unit × Unit)))) =>
      (L _ _ (fun again x => T_law26_StepEncode_loop0 c_step_Encode c_ref26_Encode c_law0_EqualBytes c_step_Canonical c_ref26_Canonical c_ref26_Equal c_law26_awake again x.1 x.2.1) ([s_, y_3.1.1], ((0 : Int), ()))))))))))

noncomputable def sol_law26_StepEncode : F_law26_StepEncode := fun x => T_law26_StepEncode bigLoop sol_law26_tooLarge sol_law26_awake sol_law0_Mod sol_law26_normalize sol_step_Encode sol_ref26_Encode sol_law0_EqualBytes sol_step_Canonical sol_ref26_Canonical sol_ref26_Equal x.1 x.2.1

/-- pontage/pontagelaw26.StepErrors -/
abbrev s_law26_StepErrors : Sig := ⟨[(.ro true (.int .i64)), (.ro true (.int .u8)), (.ro true (.int .u8))], [(.ro true .bool)]⟩
abbrev F_law26_StepErrors := (Int × (Int × (Int × Unit))) → Option ((Bool × Unit) × (Unit × (Unit × (Unit × Unit))))

noncomputable def T_law26_StepErrors (L : LoopD) (c_step_Encode : F_step_Encode) (c_step_Decode : F_step_Decode) (c_law26_awake : F_law26_awake) (kind_ : Int) (c_ : Int) (more_ : Int) : Option ((Bool × Unit) × (Unit × (Unit × (Unit × Unit)))) :=
  (letR (Go.IntKind.wrap (Go.IntKind.i64) ((8193 : Int) + (Go.IntKind.wrap (Go.IntKind.i64) more_))) fun (v_0 : Int) =>
  (Option.bind (c_step_Encode ((kind_, (((0 : Int), ((0 : Int), ((0 : Int), ([(0 : Int), (0 : Int), (0 : Int), (0 : Int)], ((0 : Int), ([(0 : Int), (0 : Int), (0 : Int), (0 : Int)], ([(0 : Int), (0 : Int), (0 : Int), (0 : Int)], ((0 : Int), (([] : List Int), ()))))))))), (((0 : Int), ((0 : Int), ([(0 : Int), (0 : Int), (0 : Int), (0 : Int)], ()))), ((0 : Int), ((0 : Int), ([(0 : Int), (0 : Int), (0 : Int), (0 : Int)], ((0 : Int), (((0 : Int), ((0 : Int), ((0 : Int), ([(0 : Int), (0 : Int), (0 : Int), (0 : Int)], (([] : List (List Int)), ()))))), ())))))))), ())) (fun (y_1 : (((List Int) × (Int × Unit)) × (Unit × Unit))) =>
   (Option.bind (c_step_Decode ([c_, (0 : Int), (0 : Int), (0 : Int), (0 : Int), (0 : Int), (0 : Int), (0 : Int), (0 : Int), (0 : Int), (0 : Int), (0 : Int)], ())) (fun (y_2 : (((Int × ((Int × (Int × (Int × ((List Int) × (Int × ((List Int) × ((List Int) × (Int × ((List Int) × Unit))))))))) × ((Int × (Int × ((List Int) × Unit))) × (Int × (Int × ((List Int) × (Int × ((Int × (Int × (Int × ((List Int) × ((List (List Int)) × Unit))))) × Unit)))))))) × (Int × Unit)) × (Unit × Unit))) =>
    (brR ((((decide ((0 : Int) ≤ v_0)) && (decide (v_0 ≤ v_0))) && (Go.Pon.roomy (Int.toNat v_0) (Go.Pon.Ty.int Go.IntKind.u8))) && true)
     (Option.bind (c_step_Decode ((List.replicate (Int.toNat v_0) (0 : Int)), ())) (fun (y_3 : (((Int × ((Int × (Int × (Int × ((List Int) × (Int × ((List Int) × ((List Int) × (Int × ((List Int) × Unit))))))))) × ((Int × (Int × ((List Int) × Unit))) × (Int × (Int × ((List Int) × (Int × ((Int × (Int × (Int × ((List Int) × ((List (List Int)) × Unit))))) × Unit)))))))) × (Int × Unit)) × (Unit × Unit))) =>
      (Option.bind (c_step_Decode ((List.replicate (8192 : Nat) (0 : Int)), ())) (fun (y_4 : (((Int × ((Int × (Int × (Int × ((List Int) × (Int × ((List Int) × ((List Int) × (Int × ((List Int) × Unit))))))))) × ((Int × (Int × ((List Int) × Unit))) × (Int × (Int × ((List Int) × (Int × ((Int × (Int × (Int × ((List Int) × ((List (List Int)) × Unit))))) × Unit)))))))) × (Int × Unit)) × (Unit × Unit))) =>
       (Option.bind (c_step_Encode (((7 : Int), (((0 : Int), ((0 : Int), ((0 : Int), ([(0 : Int), (0 : Int), (0 : Int), (0 : Int)], ((0 : Int), ([(0 : Int), (0 : Int), (0 : Int), (0 : Int)], ([(0 : Int), (0 : Int), (0 : Int), (0 : Int)], ((0 : Int), (([] : List Int), ()))))))))), (((0 : Int), ((0 : Int), ([(0 : Int), (0 : Int), (0 : Int), (0 : Int)], ()))), ((0 : Int), ((0 : Int), ([(0 : Int), (0 : Int), (0 : Int), (0 : Int)], ((0 : Int), (((0 : Int), ((0 : Int), ((0 : Int), ([(0 : Int), (0 : Int), (0 : Int), (0 : Int)], ((List.replicate (65 : Nat) (List.replicate (32 : Nat) (0 : Int))), ()))))), ())))))))), ())) (fun (y_5 : (((List Int) × (Int × Unit)) × (Unit × Unit))) =>
        (Option.bind (c_step_Encode (((4 : Int), (((0 : Int), ((0 : Int), ((0 : Int), ([(0 : Int), (0 : Int), (0 : Int), (0 : Int)], ((0 : Int), ([(0 : Int), (0 : Int), (0 : Int), (0 : Int)], ([(0 : Int), (0 : Int), (0 : Int), (0 : Int)], ((0 : Int), (([] : List Int), ()))))))))), (((0 : Int), ((0 : Int), ([(0 : Int), (0 : Int), (0 : Int), (0 : Int)], ()))), ((0 : Int), ((Go.IntKind.wrap (Go.IntKind.i64) ((-1 : Int) - (Go.IntKind.wrap (Go.IntKind.i64) more_))), ([(0 : Int), (0 : Int), (0 : Int), (0 : Int)], ((0 : Int), (((0 : Int), ((0 : Int), ((0 : Int), ([(0 : Int), (0 : Int), (0 : Int), (0 : Int)], (([] : List (List Int)), ()))))), ())))))))), ())) (fun (y_6 : (((List Int) × (Int × Unit)) × (Unit × Unit))) =>
         (brR (decide (kind_ ≥ (1 : Int)))
          (brR (Go.Pon.eqD (Go.Pon.Ty.bool) (decide (y_1.1.2.1 = (17 : Int))) (!(decide (kind_ ≤ (7 : Int)))))
           (brR (!(decide (kind_ ≤ (7 : Int))))
            (brR (decide (y_2.1.2.1 = (3 : Int)))
             (brR (decide (y_3.1.2.1 = (6 : Int)))
              (brR (decide (y_4.1.2.1 = (3 : Int)))
               (brR (decide (y_5.1.2.1 = (6 : Int)))
                (brR (decide (y_6.1.2.1 = (2 : Int)))
                 (Option.bind (c_law26_awake ()) (fun (y_7 : ((Bool × Unit) × Unit)) =>
                  (some ((y_7.1.1, ()), ((), ((), ((), ())))))))
                 (some ((false, ()), ((), ((), ((), ()))))))
                (some ((false, ()), ((), ((), ((), ()))))))
               (some ((false, ()), ((), ((), ((), ()))))))
              (some ((false, ()), ((), ((), ((), ()))))))
             (some ((false, ()), ((), ((), ((), ()))))))
            (brR (decide (y_1.1.2.1 = (0 : Int)))
             (brR (decide (y_2.1.2.1 = (3 : Int)))
              (brR (decide (y_3.1.2.1 = (6 : Int)))
               (brR (decide (y_4.1.2.1 = (3 : Int)))
                (brR (decide (y_5.1.2.1 = (6 : Int)))
                 (brR (decide (y_6.1.2.1 = (2 : Int)))
                  (Option.bind (c_law26_awake ()) (fun (y_8 : ((Bool × Unit) × Unit)) =>
                   (some ((y_8.1.1, ()), ((), ((), ((), ())))))))
                  (some ((false, ()), ((), ((), ((), ()))))))
                 (some ((false, ()), ((), ((), ((), ()))))))
                (some ((false, ()), ((), ((), ((), ()))))))
               (some ((false, ()), ((), ((), ((), ()))))))
              (some ((false, ()), ((), ((), ((), ()))))))
             (some ((false, ()), ((), ((), ((), ())))))))
           (some ((false, ()), ((), ((), ((), ()))))))
          (brR (Go.Pon.eqD (Go.Pon.Ty.bool) (decide (y_1.1.2.1 = (17 : Int))) true)
           (brR (decide (y_2.1.2.1 = (3 : Int)))
            (brR (decide (y_3.1.2.1 = (6 : Int)))
             (brR (decide (y_4.1.2.1 = (3 : Int)))
              (brR (decide (y_5.1.2.1 = (6 : Int)))
               (brR (decide (y_6.1.2.1 = (2 : Int)))
                (Option.bind (c_law26_awake ()) (fun (y_9 : ((Bool × Unit) × Unit)) =>
                 (some ((y_9.1.1, ()), ((), ((), ((), ())))))))
                (some ((false, ()), ((), ((), ((), ()))))))
               (some ((false, ()), ((), ((), ((), ()))))))
              (some ((false, ()), ((), ((), ((), ()))))))
             (some ((false, ()), ((), ((), ((), ()))))))
            (some ((false, ()), ((), ((), ((), ()))))))
           (some ((false, ()), ((), ((), ((), ())))))))))))))))
     none))))))

noncomputable def sol_law26_StepErrors : F_law26_StepErrors := fun x => T_law26_StepErrors bigLoop sol_step_Encode sol_step_Decode sol_law26_awake x.1 x.2.1 x.2.2.1

/-- pontage/pontagelaw26.StepInjective -/
abbrev s_law26_StepInjective : Sig := ⟨[(.ro false (.pair (.int .i64) (.pair (.pair (.int .u64) (.pair (.int .u64) (.pair (.int .u64) (.pair (.arr 4 (.int .u64)) (.pair (.int .u64) (.pair (.arr 4 (.int .u64)) (.pair (.arr 4 (.int .u64)) (.pair (.int .u64) (.pair (.slice (.int .u8)) .unit))))))))) (.pair (.pair (.int .u64) (.pair (.int .u64) (.pair (.arr 4 (.int .u64)) .unit))) (.pair (.int .u64) (.pair (.int .i64) (.pair (.arr 4 (.int .u64)) (.pair (.int .u64) (.pair (.pair (.int .u64) (.pair (.int .u64) (.pair (.int .u64) (.pair (.arr 4 (.int .u64)) (.pair (.slice (.arr 32 (.int .u8))) .unit))))) .unit))))))))), (.ro false (.pair (.int .i64) (.pair (.pair (.int .u64) (.pair (.int .u64) (.pair (.int .u64) (.pair (.arr 4 (.int .u64)) (.pair (.int .u64) (.pair (.arr 4 (.int .u64)) (.pair (.arr 4 (.int .u64)) (.pair (.int .u64) (.pair (.slice (.int .u8)) .unit))))))))) (.pair (.pair (.int .u64) (.pair (.int .u64) (.pair (.arr 4 (.int .u64)) .unit))) (.pair (.int .u64) (.pair (.int .i64) (.pair (.arr 4 (.int .u64)) (.pair (.int .u64) (.pair (.pair (.int .u64) (.pair (.int .u64) (.pair (.int .u64) (.pair (.arr 4 (.int .u64)) (.pair (.slice (.arr 32 (.int .u8))) .unit))))) .unit))))))))), (.ro true (.int .i64))], [(.ro true .bool)]⟩
abbrev F_law26_StepInjective := ((Int × ((Int × (Int × (Int × ((List Int) × (Int × ((List Int) × ((List Int) × (Int × ((List Int) × Unit))))))))) × ((Int × (Int × ((List Int) × Unit))) × (Int × (Int × ((List Int) × (Int × ((Int × (Int × (Int × ((List Int) × ((List (List Int)) × Unit))))) × Unit)))))))) × ((Int × ((Int × (Int × (Int × ((List Int) × (Int × ((List Int) × ((List Int) × (Int × ((List Int) × Unit))))))))) × ((Int × (Int × ((List Int) × Unit))) × (Int × (Int × ((List Int) × (Int × ((Int × (Int × (Int × ((List Int) × ((List (List Int)) × Unit))))) × Unit)))))))) × (Int × Unit))) → Option ((Bool × Unit) × (Unit × (Unit × (Unit × Unit))))

noncomputable def T_law26_StepInjective_loop0 (c_step_Encode : F_step_Encode) (c_law0_EqualBytes : F_law0_EqualBytes) (c_step_Canonical : F_step_Canonical) (c_ref26_Equal : F_ref26_Equal) (c_law26_awake : F_law26_awake) (again_9 : ((Int × ((Int × (Int × (Int × ((List Int) × (Int × ((List Int) × ((List Int) × (Int × ((List Int) × Unit))))))))) × ((Int × (Int × ((List Int) × Unit))) × (Int × (Int × ((List Int) × (Int × ((Int × (Int × (Int × ((List Int) × ((List (List Int)) × Unit))))) × Unit)))))))) × ((List Int) × (Int × ((List (Int × ((Int × (Int × (Int × ((List Int) × (Int × ((List Int) × ((List Int) × (Int × ((List Int) × Unit))))))))) × ((Int × (Int × ((List Int) × Unit))) × (Int × (Int × ((List Int) × (Int × ((Int × (Int × (Int × ((List Int) × ((List (List Int)) × Unit))))) × Unit))))))))) × (Int × Unit))))) → Option ((Bool × Unit) × (Unit × (Unit × (Unit × Unit))))) (x_10 : (Int × ((Int × (Int × (Int × ((List Int) × (Int × ((List Int) × ((List Int) × (Int × ((List Int) × Unit))))))))) × ((Int × (Int × ((List Int) × Unit))) × (Int × (Int × ((List Int) × (Int × ((Int × (Int × (Int × ((List Int) × ((List (List Int)) × Unit))))) × Unit))))))))) (a_11 : (List Int)) (e_12 : Int) (t48_13 : (List (Int × ((Int × (Int × (Int × ((List Int) × (Int × ((List Int) × ((List Int) × (Int × ((List Int) × Unit))))))))) × ((Int × (Int × ((List Int) × Unit))) × (Int × (Int × ((List Int) × (Int × ((Int × (Int × (Int × ((List Int) × ((List (List Int)) × Unit))))) × Unit)))))))))) (t49_14 : Int) : Option ((Bool × Unit) × (Unit × (Unit × (Unit × Unit)))) :=
  (brR (decide (t49_14 < (2 : Int)))
   (brR (Go.Pon.inR t49_14 (2 : Nat))
    (Option.bind (c_step_Encode ((List.getD t48_13 (Int.toNat t49_14) ((0 : Int), (((0 : Int), ((0 : Int), ((0 : Int), ([(0 : Int), (0 : Int), (0 : Int), (0 : Int)], ((0 : Int), ([(0 : Int), (0 : Int), (0 : Int), (0 : Int)], ([(0 : Int), (0 : Int), (0 : Int), (0 : Int)], ((0 : Int), (([] : List Int), ()))))))))), (((0 : Int), ((0 : Int), ([(0 : Int), (0 : Int), (0 : Int), (0 : Int)], ()))), ((0 : Int), ((0 : Int), ([(0 : Int), (0 : Int), (0 : Int), (0 : Int)], ((0 : Int), (((0 : Int), ((0 : Int), ((0 : Int), ([(0 : Int), (0 : Int), (0 : Int), (0 : Int)], (([] : List (List Int)), ()))))), ()))))))))), ())) (fun (y_15 : (((List Int) × (Int × Unit)) × (Unit × Unit))) =>
     (brR (decide (e_12 = (0 : Int)))
      (brR (decide (y_15.1.2.1 = (0 : Int)))
       (Option.bind (c_law0_EqualBytes (a_11, (y_15.1.1, ()))) (fun (y_16 : ((Bool × Unit) × (Unit × (Unit × Unit)))) =>
        (Option.bind (c_step_Canonical ((x_10.1, (x_10.2.1, (x_10.2.2.1, (x_10.2.2.2.1, (x_10.2.2.2.2.1, (x_10.2.2.2.2.2.1, (x_10.2.2.2.2.2.2.1, (x_10.2.2.2.2.2.2.2.1, x_10.2.2.2.2.2.2.2.2)))))))), ())) (fun (y_17 : (((Int × ((Int × (Int × (Int × ((List Int) × (Int × ((List Int) × ((List Int) × (Int × ((List Int) × Unit))))))))) × ((Int × (Int × ((List Int) × Unit))) × (Int × (Int × ((List Int) × (Int × ((Int × (Int × (Int × ((List Int) × ((List (List Int)) × Unit))))) × Unit)))))))) × Unit) × (Unit × Unit))) =>
         (Option.bind (c_step_Canonical ((List.getD t48_13 (Int.toNat t49_14) ((0 : Int), (((0 : Int), ((0 : Int), ((0 : Int), ([(0 : Int), (0 : Int), (0 : Int), (0 : Int)], ((0 : Int), ([(0 : Int), (0 : Int), (0 : Int), (0 : Int)], ([(0 : Int), (0 : Int), (0 : Int), (0 : Int)], ((0 : Int), (([] : List Int), ()))))))))), (((0 : Int), ((0 : Int), ([(0 : Int), (0 : Int), (0 : Int), (0 : Int)], ()))), ((0 : Int), ((0 : Int), ([(0 : Int), (0 : Int), (0 : Int), (0 : Int)], ((0 : Int), (((0 : Int), ((0 : Int), ((0 : Int), ([(0 : Int), (0 : Int), (0 : Int), (0 : Int)], (([] : List (List Int)), ()))))), ()))))))))), ())) (fun (y_18 : (((Int × ((Int × (Int × (Int × ((List Int) × (Int × ((List Int) × ((List Int) × (Int × ((List Int) × Unit))))))))) × ((Int × (Int × ((List Int) × Unit))) × (Int × (Int × ((List Int) × (Int × ((Int × (Int × (Int × ((List Int) × ((List (List Int)) × Unit))))) × Unit)))))))) × Unit) × (Unit × Unit))) =>
          (Option.bind (c_ref26_Equal (y_17.1.1, (y_18.1.1, ()))) (fun (y_19 : ((Bool × Unit) × (Unit × (Unit × Unit)))) =>
           (brR (!(Go.Pon.eqD (Go.Pon.Ty.bool) y_16.1.1 y_19.1.1))
            (some ((false, ()), ((), ((), ((), ())))))
            (again_9 ((x_10.1, (x_10.2.1, (x_10.2.2.1, (x_10.2.2.2.1, (x_10.2.2.2.2.1, (x_10.2.2.2.2.2.1, (x_10.2.2.2.2.2.2.1, (x_10.2.2.2.2.2.2.2.1, x_10.2.2.2.2.2.2.2.2)))))))), (a_11, (e_12, (t48_13, ((Go.IntKind.wrap (Go.IntKind.i64) (t49_14 + (1 : Int))), ())))))))))))))))
       (again_9 ((x_10.1, (x_10.2.1, (x_10.2.2.1, (x_10.2.2.2.1, (x_10.2.2.2.2.1, (x_10.2.2.2.2.2.1, (x_10.2.2.2.2.2.2.1, (x_10.2.2.2.2.2.2.2.1, x_10.2.2.2.2.2.2.2.2)))))))), (a_11, (e_12, (t48_13, ((Go.IntKind.wrap (Go.IntKind.i64) (t49_14 + (1 : Int))), ())))))))
      (again_9 ((x_10.1, (x_10.2.1, (x_10.2.2.1, (x_10.2.2.2.1, (x_10.2.2.2.2.1, (x_10.2.2.2.2.2.1, (x_10.2.2.2.2.2.2.1, (x_10.2.2.2.2.2.2.2.1, x_10.2.2.2.2.2.2.2.2)))))))), (a_11, (e_12, (t48_13, ((Go.IntKind.wrap (Go.IntKind.i64) (t49_14 + (1 : Int))), ())))))))))
    none)
   (Option.bind (c_law26_awake ()) (fun (y_20 : ((Bool × Unit) × Unit)) =>
    (some ((y_20.1.1, ()), ((), ((), ((), ()))))))))

noncomputable def T_law26_StepInjective (L : LoopD) (c_law26_tooLarge : F_law26_tooLarge) (c_law26_awake : F_law26_awake) (c_law0_Mod : F_law0_Mod) (c_law26_normalize : F_law26_normalize) (c_step_Encode : F_step_Encode) (c_law0_EqualBytes : F_law0_EqualBytes) (c_step_Canonical : F_step_Canonical) (c_ref26_Equal : F_ref26_Equal) (s_ : (Int × ((Int × (Int × (Int × ((List Int) × (Int × ((List Int) × ((List Int) × (Int × ((List Int) × Unit))))))))) × ((Int × (Int × ((List Int) × Unit))) × (Int × (Int × ((List Int) × (Int × ((Int × (Int × (Int × ((List Int) × ((List (List Int)) × Unit))))) × Unit))))))))) (t_ : (Int × ((Int × (Int × (Int × ((List Int) × (Int × ((List Int) × ((List Int) × (Int × ((List Int) × Unit))))))))) × ((Int × (Int × ((List Int) × Unit))) × (Int × (Int × ((List Int) × (Int × ((Int × (Int × (Int × ((List Int) × ((List (List Int)) × Unit))))) × Unit))))))))) (how_ : Int) : Option ((Bool × Unit) × (Unit × (Unit × (Unit × Unit)))) :=
  (Option.bind (c_law26_tooLarge (s_, ())) (fun (y_0 : ((Bool × Unit) × (Unit × Unit))) =>
   (brR y_0.1.1
    (Option.bind (c_law26_awake ()) (fun (y_1 : ((Bool × Unit) × Unit)) =>
     (some ((y_1.1.1, ()), ((), ((), ((), ())))))))
    (Option.bind (c_law26_tooLarge (t_, ())) (fun (y_2 : ((Bool × Unit) × (Unit × Unit))) =>
     (brR y_2.1.1
      (Option.bind (c_law26_awake ()) (fun (y_3 : ((Bool × Unit) × Unit)) =>
       (some ((y_3.1.1, ()), ((), ((), ((), ())))))))
      (Option.bind (c_law0_Mod (how_, ((15 : Int), ()))) (fun (y_4 : ((Int × Unit) × (Unit × (Unit × Unit)))) =>
       (Option.bind (c_law26_normalize (s_, (y_4.1.1, ()))) (fun (y_5 : (((Int × ((Int × (Int × (Int × ((List Int) × (Int × ((List Int) × ((List Int) × (Int × ((List Int) × Unit))))))))) × ((Int × (Int × ((List Int) × Unit))) × (Int × (Int × ((List Int) × (Int × ((Int × (Int × (Int × ((List Int) × ((List (List Int)) × Unit))))) × Unit)))))))) × Unit) × (Unit × (Unit × Unit)))) =>
        (Option.bind (c_law0_Mod (how_, ((15 : Int), ()))) (fun (y_6 : ((Int × Unit) × (Unit × (Unit × Unit)))) =>
         (Option.bind (c_law26_normalize (t_, (y_6.1.1, ()))) (fun (y_7 : (((Int × ((Int × (Int × (Int × ((List Int) × (Int × ((List Int) × ((List Int) × (Int × ((List Int) × Unit))))))))) × ((Int × (Int × ((List Int) × Unit))) × (Int × (Int × ((List Int) × (Int × ((Int × (Int × (Int × ((List Int) × ((List (List Int)) × Unit))))) × Unit)))))))) × Unit) × (Unit × (Unit × Unit)))) =>
          (Option.bind (c_step_Encode (y_5.1.1, ())) (fun (y_8 : (((List Int) × (Int × Unit)) × (Unit × Unit))) =>
           (L _ _ (fun again x => T_law26_StepInjective_loop0 c_step_Encode c_law0_EqualBytes c_step_Canonical c_ref26_Equal c_law26_awake again x.1 x.2.1 x.2.2.1 x.2.2.2.1 x.2.2.2.2.1) ((y_5.1.1.1, (y_5.1.1.2.1, (y_5.1.1.2.2.1, (y_5.1.1.2.2.2.1, (y_5.1.1.2.2.2.2.1, (y_5.1.1.2.2.2.2.2.1, (y_5.1.1.2.2.2.2.2.2.1, (y_5.1.1.2.2.2.2.2.2.2.1, y_5.1.1.2.2.2.2.2.2.2.2)))))))), (y_8.1.1, (y_8.1.2.1, ([y_7.1.1, (y_5.1.1.1, (y_5.1.1.2.1, (y_5.1.1.2.2.1, (t_.2.2.2.1, (y_5.1.1.2.2.2.2.1, (t_.2.2.2.2.2.1, (t_.2.2.2.2.2.2.1, y_5.1.1.2.2.2.2.2.2.2)))))))], ((0 : Int), ()))))))))))))))))))))))

noncomputable def sol_law26_StepInjective : F_law26_StepInjective := fun x => T_law26_StepInjective bigLoop sol_law26_tooLarge sol_law26_awake sol_law0_Mod sol_law26_normalize sol_step_Encode sol_law0_EqualBytes sol_step_Canonical sol_ref26_Equal x.1 x.2.1 x.2.2.1

/-- pontage/pontagelaw26.StepRoundTrip -/
abbrev s_law26_StepRoundTrip : Sig := ⟨[(.ro false (.pair (.int .i64) (.pair (.pair (.int .u64) (.pair (.int .u64) (.pair (.int .u64) (.pair (.arr 4 (.int .u64)) (.pair (.int .u64) (.pair (.arr 4 (.int .u64)) (.pair (.arr 4 (.int .u64)) (.pair (.int .u64) (.pair (.slice (.int .u8)) .unit))))))))) (.pair (.pair (.int .u64) (.pair (.int .u64) (.pair (.arr 4 (.int .u64)) .unit))) (.pair (.int .u64) (.pair (.int .i64) (.pair (.arr 4 (.int .u64)) (.pair (.int .u64) (.pair (.pair (.int .u64) (.pair (.int .u64) (.pair (.int .u64) (.pair (.arr 4 (.int .u64)) (.pair (.slice (.arr 32 (.int .u8))) .unit))))) .unit))))))))), (.ro true (.int .i64)), (.ro true (.int .u8))], [(.ro true .bool)]⟩
abbrev F_law26_StepRoundTrip := ((Int × ((Int × (Int × (Int × ((List Int) × (Int × ((List Int) × ((List Int) × (Int × ((List Int) × Unit))))))))) × ((Int × (Int × ((List Int) × Unit))) × (Int × (Int × ((List Int) × (Int × ((Int × (Int × (Int × ((List Int) × ((List (List Int)) × Unit))))) × Unit)))))))) × (Int × (Int × Unit))) → Option ((Bool × Unit) × (Unit × (Unit × (Unit × Unit))))

noncomputable def T_law26_StepRoundTrip (L : LoopD) (c_law0_Mod : F_law0_Mod) (c_law26_normalize : F_law26_normalize) (c_law26_tooLarge : F_law26_tooLarge) (c_law26_awake : F_law26_awake) (c_step_Encode : F_step_Encode) (c_step_Decode : F_step_Decode) (c_step_Canonical : F_step_Canonical) (c_ref26_Equal : F_ref26_Equal) (s_ : (Int × ((Int × (Int × (Int × ((List Int) × (Int × ((List Int) × ((List Int) × (Int × ((List Int) × Unit))))))))) × ((Int × (Int × ((List Int) × Unit))) × (Int × (Int × ((List Int) × (Int × ((Int × (Int × (Int × ((List Int) × ((List (List Int)) × Unit))))) × Unit))))))))) (how_ : Int) (c_ : Int) : Option ((Bool × Unit) × (Unit × (Unit × (Unit × Unit)))) :=
  (Option.bind (c_law0_Mod (how_, ((15 : Int), ()))) (fun (y_0 : ((Int × Unit) × (Unit × (Unit × Unit)))) =>
   (Option.bind (c_law26_normalize (s_, (y_0.1.1, ()))) (fun (y_1 : (((Int × ((Int × (Int × (Int × ((List Int) × (Int × ((List Int) × ((List Int) × (Int × ((List Int) × Unit))))))))) × ((Int × (Int × ((List Int) × Unit))) × (Int × (Int × ((List Int) × (Int × ((Int × (Int × (Int × ((List Int) × ((List (List Int)) × Unit))))) × Unit)))))))) × Unit) × (Unit × (Unit × Unit)))) =>
    (Option.bind (c_law26_tooLarge (y_1.1.1, ())) (fun (y_2 : ((Bool × Unit) × (Unit × Unit))) =>
     (brR y_2.1.1
      (Option.bind (c_law26_awake ()) (fun (y_3 : ((Bool × Unit) × Unit)) =>
       (some ((y_3.1.1, ()), ((), ((), ((), ())))))))
      (Option.bind (c_step_Encode (y_1.1.1, ())) (fun (y_4 : (((List Int) × (Int × Unit)) × (Unit × Unit))) =>
       (letR (((List.length y_4.1.1) : Nat) : Int) fun (v_5 : Int) =>
       (letR (List.drop (0 : Nat) y_4.1.1) fun (v_6 : (List Int)) =>
       (letR (Go.IntKind.wrap (Go.IntKind.i64) (v_5 - (1 : Int))) fun (v_7 : Int) =>
       (letR (List.take ((Int.toNat v_5) - (0 : Nat)) v_6) fun (v_8 : (List Int)) =>
       (brR (!(decide (y_4.1.2.1 = (0 : Int))))
        (brR (decide (v_5 = (0 : Int)))
         (Option.bind (c_law26_awake ()) (fun (y_9 : ((Bool × Unit) × Unit)) =>
          (some ((y_9.1.1, ()), ((), ((), ((), ())))))))
         (some ((false, ()), ((), ((), ((), ()))))))
        (Option.bind (c_step_Decode (y_4.1.1, ())) (fun (y_10 : (((Int × ((Int × (Int × (Int × ((List Int) × (Int × ((List Int) × ((List Int) × (Int × ((List Int) × Unit))))))))) × ((Int × (Int × ((List Int) × Unit))) × (Int × (Int × ((List Int) × (Int × ((Int × (Int × (Int × ((List Int) × ((List (List Int)) × Unit))))) × Unit)))))))) × (Int × Unit)) × (Unit × Unit))) =>
         (brR (!(decide (y_10.1.2.1 = (0 : Int))))
          (some ((false, ()), ((), ((), ((), ())))))
          (Option.bind (c_step_Canonical (y_1.1.1, ())) (fun (y_11 : (((Int × ((Int × (Int × (Int × ((List Int) × (Int × ((List Int) × ((List Int) × (Int × ((List Int) × Unit))))))))) × ((Int × (Int × ((List Int) × Unit))) × (Int × (Int × ((List Int) × (Int × ((Int × (Int × (Int × ((List Int) × ((List (List Int)) × Unit))))) × Unit)))))))) × Unit) × (Unit × Unit))) =>
           (Option.bind (c_ref26_Equal (y_10.1.1, (y_11.1.1, ()))) (fun (y_12 : ((Bool × Unit) × (Unit × (Unit × Unit)))) =>
            (brR (!y_12.1.1)
             (some ((false, ()), ((), ((), ((), ())))))
             (brR (!(decide (y_10.1.1.1 = y_1.1.1.1)))
              (some ((false, ()), ((), ((), ((), ())))))
              (brR (decide (v_5 = (0 : Int)))
               (some ((false, ()), ((), ((), ((), ())))))
               (brR (decide (v_5 = v_5))
                (brR ((decide ((0 : Int) ≤ v_5)) && (decide (v_5 ≤ v_5)))
                 (brR (Go.Pon.roomy ((List.length v_8) + (1 : Nat)) (Go.Pon.Ty.int Go.IntKind.u8))
                  (Option.bind (c_step_Decode ((List.append v_8 [c_]), ())) (fun (y_13 : (((Int × ((Int × (Int × (Int × ((List Int) × (Int × ((List Int) × ((List Int) × (Int × ((List Int) × Unit))))))))) × ((Int × (Int × ((List Int) × Unit))) × (Int × (Int × ((List Int) × (Int × ((Int × (Int × (Int × ((List Int) × ((List (List Int)) × Unit))))) × Unit)))))))) × (Int × Unit)) × (Unit × Unit))) =>
                   (brR ((decide ((0 : Int) ≤ v_7)) && (decide (v_7 ≤ v_5)))
                    (Option.bind (c_step_Decode ((List.take ((Int.toNat v_7) - (0 : Nat)) v_6), ())) (fun (y_14 : (((Int × ((Int × (Int × (Int × ((List Int) × (Int × ((List Int) × ((List Int) × (Int × ((List Int) × Unit))))))))) × ((Int × (Int × ((List Int) × Unit))) × (Int × (Int × ((List Int) × (Int × ((Int × (Int × (Int × ((List Int) × ((List (List Int)) × Unit))))) × Unit)))))))) × (Int × Unit)) × (Unit × Unit))) =>
                     (brR (decide (y_13.1.2.1 = (3 : Int)))
                      (brR (decide (y_14.1.2.1 = (3 : Int)))
                       (Option.bind (c_law26_awake ()) (fun (y_15 : ((Bool × Unit) × Unit)) =>
                        (some ((y_15.1.1, ()), ((), ((), ((), ())))))))
                       (some ((false, ()), ((), ((), ((), ()))))))
                      (some ((false, ()), ((), ((), ((), ()))))))))
                    none)))
                  none)
                 none)
                none)))))))))))))))))))))))))

noncomputable def sol_law26_StepRoundTrip : F_law26_StepRoundTrip := fun x => T_law26_StepRoundTrip bigLoop sol_law0_Mod sol_law26_normalize sol_law26_tooLarge sol_law26_awake sol_step_Encode sol_step_Decode sol_step_Canonical sol_ref26_Equal x.1 x.2.1 x.2.2.1

end Go.Pon
