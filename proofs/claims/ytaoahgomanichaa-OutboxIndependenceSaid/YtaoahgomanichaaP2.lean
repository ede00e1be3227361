/-
  Part of a proof: general lemmas, merged by a program of this work.
-/
import Derived.Test.YtaoahgomanichaaP1
/-
  What the functions of package law24 compute (printed by a program of this work).
-/
set_option autoImplicit false
set_option linter.unusedVariables false
set_option maxRecDepth 100000
namespace Go.Pon
open Go

/-- pontage/pontagelaw24.awake -/
abbrev s_law24_awake : Sig := ⟨[], [(.ro true .bool)]⟩
abbrev F_law24_awake := Unit → Option ((Bool × Unit) × Unit)

noncomputable def T_law24_awake (L : LoopD) (c_outbox_New : F_outbox_New) (c_outbox_Outbox_Send : F_outbox_Outbox_Send) (c_outbox_Outbox_Len : F_outbox_Outbox_Len) : Option ((Bool × Unit) × Unit) :=
  (Option.bind (c_outbox_New ()) (fun (y_0 : ((((List (Int × (Int × ((List Int) × Unit)))) × (((List (List Int)) × Unit) × Unit)) × Unit) × Unit)) =>
   (Option.bind (c_outbox_Outbox_Send ((some (y_0.1.1.1, ((y_0.1.1.2.1.1, y_0.1.1.2.1.2), y_0.1.1.2.2))), ((7 : Int), ([(20 : Int), (0 : Int), (0 : Int), (0 : Int)], ())))) (fun (y_1 : (((Int × (Int × ((List Int) × Unit))) × (Int × Unit)) × ((Option ((List (Int × (Int × ((List Int) × Unit)))) × (((List (List Int)) × Unit) × Unit))) × (Unit × (Unit × Unit))))) =>
    (optR y_1.2.1
     none
     (fun (y_2 : ((List (Int × (Int × ((List Int) × Unit)))) × (((List (List Int)) × Unit) × Unit))) =>
     (Option.bind (c_outbox_Outbox_Send ((some (y_2.1, ((y_2.2.1.1, y_2.2.1.2), y_2.2.2))), ((7 : Int), ([(1 : Int), (0 : Int), (0 : Int), (0 : Int)], ())))) (fun (y_3 : (((Int × (Int × ((List Int) × Unit))) × (Int × Unit)) × ((Option ((List (Int × (Int × ((List Int) × Unit)))) × (((List (List Int)) × Unit) × Unit))) × (Unit × (Unit × Unit))))) =>
      (optR y_3.2.1
       none
       (fun (y_4 : ((List (Int × (Int × ((List Int) × Unit)))) × (((List (List Int)) × Unit) × Unit))) =>
       (Option.bind (c_outbox_Outbox_Send ((some (y_4.1, ((y_4.2.1.1, y_4.2.1.2), y_4.2.2))), ((0 : Int), ([(20 : Int), (0 : Int), (0 : Int), (0 : Int)], ())))) (fun (y_5 : (((Int × (Int × ((List Int) × Unit))) × (Int × Unit)) × ((Option ((List (Int × (Int × ((List Int) × Unit)))) × (((List (List Int)) × Unit) × Unit))) × (Unit × (Unit × Unit))))) =>
        (optR y_5.2.1
         none
         (fun (y_6 : ((List (Int × (Int × ((List Int) × Unit)))) × (((List (List Int)) × Unit) × Unit))) =>
         (brR (decide (y_1.1.1.1 = (0 : Int)))
          (brR (decide (y_1.1.2.1 = (0 : Int)))
           (brR (decide (y_3.1.1.1 = (1 : Int)))
            (brR (decide (y_3.1.2.1 = (0 : Int)))
             (brR (decide (y_5.1.2.1 = (2 : Int)))
              (Option.bind (c_outbox_Outbox_Len ((some (y_6.1, ((y_6.2.1.1, y_6.2.1.2), y_6.2.2))), ())) (fun (y_7 : ((Int × Unit) × ((Option ((List (Int × (Int × ((List Int) × Unit)))) × (((List (List Int)) × Unit) × Unit))) × Unit))) =>
               (optR y_7.2.1
                none
                (fun (y_8 : ((List (Int × (Int × ((List Int) × Unit)))) × (((List (List Int)) × Unit) × Unit))) =>
                (some (((decide (y_7.1.1 = (2 : Int))), ()), ()))))))
              (some ((false, ()), ())))
             (some ((false, ()), ())))
            (some ((false, ()), ())))
           (some ((false, ()), ())))
          (some ((false, ()), ())))))))))))))))))

noncomputable def sol_law24_awake : F_law24_awake := fun x => T_law24_awake bigLoop sol_outbox_New sol_outbox_Outbox_Send sol_outbox_Outbox_Len

/-- pontage/pontagelaw24.agree -/
abbrev s_law24_agree : Sig := ⟨[(.ptr (.pair (.own false (.pair (.int .u64) (.pair (.int .u64) (.pair (.arr 4 (.int .u64)) .unit)))) (.pair (.ptr (.pair (.own false (.arr 32 (.int .u8))) (.ro true .unit))) (.ro true .unit)))), (.ro false (.slice (.pair (.int .u64) (.pair (.int .u64) (.pair (.arr 4 (.int .u64)) .unit))))), (.ro true (.int .i64)), (.ro true (.int .i64))], [(.ro true .bool)]⟩
abbrev F_law24_agree := (((List (Int × (Int × ((List Int) × Unit)))) × (((List (List Int)) × Unit) × Unit)) × ((List (Int × (Int × ((List Int) × Unit)))) × (Int × (Int × Unit)))) → Option ((Bool × Unit) × (((List (Int × (Int × ((List Int) × Unit)))) × (((List (List Int)) × Unit) × Unit)) × (Unit × (Unit × (Unit × Unit)))))

noncomputable def T_law24_agree (L : LoopD) (c_outbox_Outbox_Get : F_outbox_Outbox_Get) (c_outbox_Outbox_Root : F_outbox_Outbox_Root) (c_ref24_Root : F_ref24_Root) (c_outbox_Outbox_Proof : F_outbox_Outbox_Proof) (c_ref24_Proof : F_ref24_Proof) (c_law0_EqualHashes : F_law0_EqualHashes) (c_outbox_Outbox_Len : F_outbox_Outbox_Len) (c_outbox_Outbox_All : F_outbox_Outbox_All) (c_law0_EqualMessages : F_law0_EqualMessages) (o_ : ((List (Int × (Int × ((List Int) × Unit)))) × (((List (List Int)) × Unit) × Unit))) (m_ : (List (Int × (Int × ((List Int) × Unit))))) (i_ : Int) (n_ : Int) : Option ((Bool × Unit) × (((List (Int × (Int × ((List Int) × Unit)))) × (((List (List Int)) × Unit) × Unit)) × (Unit × (Unit × (Unit × Unit))))) :=
  (letR (List.length m_) fun (v_0 : Nat) =>
  (letR ((v_0 : Nat) : Int) fun (v_1 : Int) =>
  (Option.bind (c_outbox_Outbox_Get ((some (o_.1, ((o_.2.1.1, o_.2.1.2), o_.2.2))), (i_, ()))) (fun (y_2 : (((Int × (Int × ((List Int) × Unit))) × (Bool × Unit)) × ((Option ((List (Int × (Int × ((List Int) × Unit)))) × (((List (List Int)) × Unit) × Unit))) × (Unit × Unit)))) =>
   (optR y_2.2.1
    none
    (fun (y_3 : ((List (Int × (Int × ((List Int) × Unit)))) × (((List (List Int)) × Unit) × Unit))) =>
    (Option.bind (c_outbox_Outbox_Root ((some (y_3.1, ((y_3.2.1.1, y_3.2.1.2), y_3.2.2))), (n_, ()))) (fun (y_4 : (((List Int) × (Bool × Unit)) × ((Option ((List (Int × (Int × ((List Int) × Unit)))) × (((List (List Int)) × Unit) × Unit))) × (Unit × Unit)))) =>
     (optR y_4.2.1
      none
      (fun (y_5 : ((List (Int × (Int × ((List Int) × Unit)))) × (((List (List Int)) × Unit) × Unit))) =>
      (Option.bind (c_ref24_Root (m_, (n_, ()))) (fun (y_6 : (((List Int) × (Bool × Unit)) × (Unit × (Unit × Unit)))) =>
       (Option.bind (c_outbox_Outbox_Proof ((some (y_5.1, ((y_5.2.1.1, y_5.2.1.2), y_5.2.2))), (i_, (n_, ())))) (fun (y_7 : (((List (List Int)) × (Bool × Unit)) × ((Option ((List (Int × (Int × ((List Int) × Unit)))) × (((List (List Int)) × Unit) × Unit))) × (Unit × (Unit × Unit))))) =>
        (optR y_7.2.1
         none
         (fun (y_8 : ((List (Int × (Int × ((List Int) × Unit)))) × (((List (List Int)) × Unit) × Unit))) =>
         (Option.bind (c_ref24_Proof (m_, (i_, (n_, ())))) (fun (y_9 : (((List (List Int)) × (Bool × Unit)) × (Unit × (Unit × (Unit × Unit))))) =>
          (brR (decide (i_ ≥ (0 : Int)))
           (brR (!(Go.Pon.eqD (Go.Pon.Ty.bool) y_2.1.2.1 (decide (i_ < v_1))))
            (some ((false, ()), ((y_8.1, ((y_8.2.1.1, y_8.2.1.2), y_8.2.2)), ((), ((), ((), ()))))))
            (brR y_2.1.2.1
             (brR (Go.Pon.inR i_ v_0)
              (brR (!(Go.Pon.eqD ((Go.Pon.Ty.int Go.IntKind.u64).pair
  ((Go.Pon.Ty.int Go.IntKind.u64).pair ((Go.Pon.Ty.arr 4 (Go.Pon.Ty.int Go.IntKind.u64)).pair Go.Pon.Ty.unit))) y_2.1.1 (List.getD m_ (Int.toNat i_) ((0 : Int), ((0 : Int), ([(0 : Int), (0 : Int), (0 : Int), (0 : Int)], ()))))))
               (some ((false, ()), ((y_8.1, ((y_8.2.1.1, y_8.2.1.2), y_8.2.2)), ((), ((), ((), ()))))))
               (brR (!y_2.1.2.1)
                (brR (!(Go.Pon.eqD ((Go.Pon.Ty.int Go.IntKind.u64).pair
  ((Go.Pon.Ty.int Go.IntKind.u64).pair ((Go.Pon.Ty.arr 4 (Go.Pon.Ty.int Go.IntKind.u64)).pair Go.Pon.Ty.unit))) y_2.1.1 ((0 : Int), ((0 : Int), ([(0 : Int), (0 : Int), (0 : Int), (0 : Int)], ())))))
                 (some ((false, ()), ((y_8.1, ((y_8.2.1.1, y_8.2.1.2), y_8.2.2)), ((), ((), ((), ()))))))
                 (brR (Go.Pon.eqD (Go.Pon.Ty.arr 32 (Go.Pon.Ty.int Go.IntKind.u8)) y_4.1.1 y_6.1.1)
                  (brR (Go.Pon.eqD (Go.Pon.Ty.bool) y_4.1.2.1 y_6.1.2.1)
                   (Option.bind (c_law0_EqualHashes (y_7.1.1, (y_9.1.1, ()))) (fun (y_10 : ((Bool × Unit) × (Unit × (Unit × Unit)))) =>
                    (brR y_10.1.1
                     (brR (Go.Pon.eqD (Go.Pon.Ty.bool) y_7.1.2.1 y_9.1.2.1)
                      (Option.bind (c_outbox_Outbox_Len ((some (y_8.1, ((y_8.2.1.1, y_8.2.1.2), y_8.2.2))), ())) (fun (y_11 : ((Int × Unit) × ((Option ((List (Int × (Int × ((List Int) × Unit)))) × (((List (List Int)) × Unit) × Unit))) × Unit))) =>
                       (optR y_11.2.1
                        none
                        (fun (y_12 : ((List (Int × (Int × ((List Int) × Unit)))) × (((List (List Int)) × Unit) × Unit))) =>
                        (brR (decide (y_11.1.1 = v_1))
                         (Option.bind (c_outbox_Outbox_All ((some (y_12.1, ((y_12.2.1.1, y_12.2.1.2), y_12.2.2))), ())) (fun (y_13 : (((List (Int × (Int × ((List Int) × Unit)))) × Unit) × ((Option ((List (Int × (Int × ((List Int) × Unit)))) × (((List (List Int)) × Unit) × Unit))) × Unit))) =>
                          (optR y_13.2.1
                           none
                           (fun (y_14 : ((List (Int × (Int × ((List Int) × Unit)))) × (((List (List Int)) × Unit) × Unit))) =>
                           (Option.bind (c_law0_EqualMessages (y_13.1.1, (m_, ()))) (fun (y_15 : ((Bool × Unit) × (Unit × (Unit × Unit)))) =>
                            (some ((y_15.1.1, ()), ((y_14.1, ((y_14.2.1.1, y_14.2.1.2), y_14.2.2)), ((), ((), ((), ()))))))))))))
                         (some ((false, ()), ((y_12.1, ((y_12.2.1.1, y_12.2.1.2), y_12.2.2)), ((), ((), ((), ())))))))))))
                      (some ((false, ()), ((y_8.1, ((y_8.2.1.1, y_8.2.1.2), y_8.2.2)), ((), ((), ((), ())))))))
                     (some ((false, ()), ((y_8.1, ((y_8.2.1.1, y_8.2.1.2), y_8.2.2)), ((), ((), ((), ())))))))))
                   (some ((false, ()), ((y_8.1, ((y_8.2.1.1, y_8.2.1.2), y_8.2.2)), ((), ((), ((), ())))))))
                  (some ((false, ()), ((y_8.1, ((y_8.2.1.1, y_8.2.1.2), y_8.2.2)), ((), ((), ((), ()))))))))
                (brR (Go.Pon.eqD (Go.Pon.Ty.arr 32 (Go.Pon.Ty.int Go.IntKind.u8)) y_4.1.1 y_6.1.1)
                 (brR (Go.Pon.eqD (Go.Pon.Ty.bool) y_4.1.2.1 y_6.1.2.1)
                  (Option.bind (c_law0_EqualHashes (y_7.1.1, (y_9.1.1, ()))) (fun (y_16 : ((Bool × Unit) × (Unit × (Unit × Unit)))) =>
                   (brR y_16.1.1
                    (brR (Go.Pon.eqD (Go.Pon.Ty.bool) y_7.1.2.1 y_9.1.2.1)
                     (Option.bind (c_outbox_Outbox_Len ((some (y_8.1, ((y_8.2.1.1, y_8.2.1.2), y_8.2.2))), ())) (fun (y_17 : ((Int × Unit) × ((Option ((List (Int × (Int × ((List Int) × Unit)))) × (((List (List Int)) × Unit) × Unit))) × Unit))) =>
                      (optR y_17.2.1
                       none
                       (fun (y_18 : ((List (Int × (Int × ((List Int) × Unit)))) × (((List (List Int)) × Unit) × Unit))) =>
                       (brR (decide (y_17.1.1 = v_1))
                        (Option.bind (c_outbox_Outbox_All ((some (y_18.1, ((y_18.2.1.1, y_18.2.1.2), y_18.2.2))), ())) (fun (y_19 : (((List (Int × (Int × ((List Int) × Unit)))) × Unit) × ((Option ((List (Int × (Int × ((List Int) × Unit)))) × (((List (List Int)) × Unit) × Unit))) × Unit))) =>
                         (optR y_19.2.1
                          none
                          (fun (y_20 : ((List (Int × (Int × ((List Int) × Unit)))) × (((List (List Int)) × Unit) × Unit))) =>
                          (Option.bind (c_law0_EqualMessages (y_19.1.1, (m_, ()))) (fun (y_21 : ((Bool × Unit) × (Unit × (Unit × Unit)))) =>
                           (some ((y_21.1.1, ()), ((y_20.1, ((y_20.2.1.1, y_20.2.1.2), y_20.2.2)), ((), ((), ((), ()))))))))))))
                        (some ((false, ()), ((y_18.1, ((y_18.2.1.1, y_18.2.1.2), y_18.2.2)), ((), ((), ((), ())))))))))))
                     (some ((false, ()), ((y_8.1, ((y_8.2.1.1, y_8.2.1.2), y_8.2.2)), ((), ((), ((), ())))))))
                    (some ((false, ()), ((y_8.1, ((y_8.2.1.1, y_8.2.1.2), y_8.2.2)), ((), ((), ((), ())))))))))
                  (some ((false, ()), ((y_8.1, ((y_8.2.1.1, y_8.2.1.2), y_8.2.2)), ((), ((), ((), ())))))))
                 (some ((false, ()), ((y_8.1, ((y_8.2.1.1, y_8.2.1.2), y_8.2.2)), ((), ((), ((), ())))))))))
              none)
             (brR (!y_2.1.2.1)
              (brR (!(Go.Pon.eqD ((Go.Pon.Ty.int Go.IntKind.u64).pair
  ((Go.Pon.Ty.int Go.IntKind.u64).pair ((Go.Pon.Ty.arr 4 (Go.Pon.Ty.int Go.IntKind.u64)).pair Go.Pon.Ty.unit))) y_2.1.1 ((0 : Int), ((0 : Int), ([(0 : Int), (0 : Int), (0 : Int), (0 : Int)], ())))))
               (some ((false, ()), ((y_8.1, ((y_8.2.1.1, y_8.2.1.2), y_8.2.2)), ((), ((), ((), ()))))))
               (brR (Go.Pon.eqD (Go.Pon.Ty.arr 32 (Go.Pon.Ty.int Go.IntKind.u8)) y_4.1.1 y_6.1.1)
                (brR (Go.Pon.eqD (Go.Pon.Ty.bool) y_4.1.2.1 y_6.1.2.1)
                 (Option.bind (c_law0_EqualHashes (y_7.1.1, (y_9.1.1, ()))) (fun (y_22 : ((Bool × Unit) × (Unit × (Unit × Unit)))) =>
                  (brR y_22.1.1
                   (brR (Go.Pon.eqD (Go.Pon.Ty.bool) y_7.1.2.1 y_9.1.2.1)
                    (Option.bind (c_outbox_Outbox_Len ((some (y_8.1, ((y_8.2.1.1, y_8.2.1.2), y_8.2.2))), ())) (fun (y_23 : ((Int × Unit) × ((Option ((List (Int × (Int × ((List Int) × Unit)))) × (((List (List Int)) × Unit) × Unit))) × Unit))) =>
                     (optR y_23.2.1
                      none
                      (fun (y_24 : ((List (Int × (Int × ((List Int) × Unit)))) × (((List (List Int)) × Unit) × Unit))) =>
                      (brR (decide (y_23.1.1 = v_1))
                       (Option.bind (c_outbox_Outbox_All ((some (y_24.1, ((y_24.2.1.1, y_24.2.1.2), y_24.2.2))), ())) (fun (y_25 : (((List (Int × (Int × ((List Int) × Unit)))) × Unit) × ((Option ((List (Int × (Int × ((List Int) × Unit)))) × (((List (List Int)) × Unit) × Unit))) × Unit))) =>
                        (optR y_25.2.1
                         none
                         (fun (y_26 : ((List (Int × (Int × ((List Int) × Unit)))) × (((List (List Int)) × Unit) × Unit))) =>
                         (Option.bind (c_law0_EqualMessages (y_25.1.1, (m_, ()))) (fun (y_27 : ((Bool × Unit) × (Unit × (Unit × Unit)))) =>
                          (some ((y_27.1.1, ()), ((y_26.1, ((y_26.2.1.1, y_26.2.1.2), y_26.2.2)), ((), ((), ((), ()))))))))))))
                       (some ((false, ()), ((y_24.1, ((y_24.2.1.1, y_24.2.1.2), y_24.2.2)), ((), ((), ((), ())))))))))))
                    (some ((false, ()), ((y_8.1, ((y_8.2.1.1, y_8.2.1.2), y_8.2.2)), ((), ((), ((), ())))))))
                   (some ((false, ()), ((y_8.1, ((y_8.2.1.1, y_8.2.1.2), y_8.2.2)), ((), ((), ((), ())))))))))
                 (some ((false, ()), ((y_8.1, ((y_8.2.1.1, y_8.2.1.2), y_8.2.2)), ((), ((), ((), ())))))))
                (some ((false, ()), ((y_8.1, ((y_8.2.1.1, y_8.2.1.2), y_8.2.2)), ((), ((), ((), ()))))))))
              (brR (Go.Pon.eqD (Go.Pon.Ty.arr 32 (Go.Pon.Ty.int Go.IntKind.u8)) y_4.1.1 y_6.1.1)
               (brR (Go.Pon.eqD (Go.Pon.Ty.bool) y_4.1.2.1 y_6.1.2.1)
                (Option.bind (c_law0_EqualHashes (y_7.1.1, (y_9.1.1, ()))) (fun (y_28 : ((Bool × Unit) × (Unit × (Unit × Unit)))) =>
                 (brR y_28.1.1
                  (brR (Go.Pon.eqD (Go.Pon.Ty.bool) y_7.1.2.1 y_9.1.2.1)
                   (Option.bind (c_outbox_Outbox_Len ((some (y_8.1, ((y_8.2.1.1, y_8.2.1.2), y_8.2.2))), ())) (fun (y_29 : ((Int × Unit) × ((Option ((List (Int × (Int × ((List Int) × Unit)))) × (((List (List Int)) × Unit) × Unit))) × Unit))) =>
                    (optR y_29.2.1
                     none
                     (fun (y_30 : ((List (Int × (Int × ((List Int) × Unit)))) × (((List (List Int)) × Unit) × Unit))) =>
                     (brR (decide (y_29.1.1 = v_1))
                      (Option.bind (c_outbox_Outbox_All ((some (y_30.1, ((y_30.2.1.1, y_30.2.1.2), y_30.2.2))), ())) (fun (y_31 : (((List (Int × (Int × ((List Int) × Unit)))) × Unit) × ((Option ((List (Int × (Int × ((List Int) × Unit)))) × (((List (List Int)) × Unit) × Unit))) × Unit))) =>
                       (optR y_31.2.1
                        none
                        (fun (y_32 : ((List (Int × (Int × ((List Int) × Unit)))) × (((List (List Int)) × Unit) × Unit))) =>
                        (Option.bind (c_law0_EqualMessages (y_31.1.1, (m_, ()))) (fun (y_33 : ((Bool × Unit) × (Unit × (Unit × Unit)))) =>
                         (some ((y_33.1.1, ()), ((y_32.1, ((y_32.2.1.1, y_32.2.1.2), y_32.2.2)), ((), ((), ((), ()))))))))))))
                      (some ((false, ()), ((y_30.1, ((y_30.2.1.1, y_30.2.1.2), y_30.2.2)), ((), ((), ((), ())))))))))))
                   (some ((false, ()), ((y_8.1, ((y_8.2.1.1, y_8.2.1.2), y_8.2.2)), ((), ((), ((), ())))))))
                  (some ((false, ()), ((y_8.1, ((y_8.2.1.1, y_8.2.1.2), y_8.2.2)), ((), ((), ((), ())))))))))
                (some ((false, ()), ((y_8.1, ((y_8.2.1.1, y_8.2.1.2), y_8.2.2)), ((), ((), ((), ())))))))
               (some ((false, ()), ((y_8.1, ((y_8.2.1.1, y_8.2.1.2), y_8.2.2)), ((), ((), ((), ()))))))))))
           (brR (!(Go.Pon.eqD (Go.Pon.Ty.bool) y_2.1.2.1 false))
            (some ((false, ()), ((y_8.1, ((y_8.2.1.1, y_8.2.1.2), y_8.2.2)), ((), ((), ((), ()))))))
            (brR y_2.1.2.1
             (brR (Go.Pon.inR i_ v_0)
              (brR (!(Go.Pon.eqD ((Go.Pon.Ty.int Go.IntKind.u64).pair
  ((Go.Pon.Ty.int Go.IntKind.u64).pair ((Go.Pon.Ty.arr 4 (Go.Pon.Ty.int Go.IntKind.u64)).pair Go.Pon.Ty.unit))) y_2.1.1 (List.getD m_ (Int.toNat i_) ((0 : Int), ((0 : Int), ([(0 : Int), (0 : Int), (0 : Int), (0 : Int)], ()))))))
               (some ((false, ()), ((y_8.1, ((y_8.2.1.1, y_8.2.1.2), y_8.2.2)), ((), ((), ((), ()))))))
               (brR (!y_2.1.2.1)
                (brR (!(Go.Pon.eqD ((Go.Pon.Ty.int Go.IntKind.u64).pair
  ((Go.Pon.Ty.int Go.IntKind.u64).pair ((Go.Pon.Ty.arr 4 (Go.Pon.Ty.int Go.IntKind.u64)).pair Go.Pon.Ty.unit))) y_2.1.1 ((0 : Int), ((0 : Int), ([(0 : Int), (0 : Int), (0 : Int), (0 : Int)], ())))))
                 (some ((false, ()), ((y_8.1, ((y_8.2.1.1, y_8.2.1.2), y_8.2.2)), ((), ((), ((), ()))))))
                 (brR (Go.Pon.eqD (Go.Pon.Ty.arr 32 (Go.Pon.Ty.int Go.IntKind.u8)) y_4.1.1 y_6.1.1)
                  (brR (Go.Pon.eqD (Go.Pon.Ty.bool) y_4.1.2.1 y_6.1.2.1)
                   (Option.bind (c_law0_EqualHashes (y_7.1.1, (y_9.1.1, ()))) (fun (y_34 : ((Bool × Unit) × (Unit × (Unit × Unit)))) =>
                    (brR y_34.1.1
                     (brR (Go.Pon.eqD (Go.Pon.Ty.bool) y_7.1.2.1 y_9.1.2.1)
                      (Option.bind (c_outbox_Outbox_Len ((some (y_8.1, ((y_8.2.1.1, y_8.2.1.2), y_8.2.2))), ())) (fun (y_35 : ((Int × Unit) × ((Option ((List (Int × (Int × ((List Int) × Unit)))) × (((List (List Int)) × Unit) × Unit))) × Unit))) =>
                       (optR y_35.2.1
                        none
                        (fun (y_36 : ((List (Int × (Int × ((List Int) × Unit)))) × (((List (List Int)) × Unit) × Unit))) =>
                        (brR (decide (y_35.1.1 = v_1))
                         (Option.bind (c_outbox_Outbox_All ((some (y_36.1, ((y_36.2.1.1, y_36.2.1.2), y_36.2.2))), ())) (fun (y_37 : (((List (Int × (Int × ((List Int) × Unit)))) × Unit) × ((Option ((List (Int × (Int × ((List Int) × Unit)))) × (((List (List Int)) × Unit) × Unit))) × Unit))) =>
                          (optR y_37.2.1
                           none
                           (fun (y_38 : ((List (Int × (Int × ((List Int) × Unit)))) × (((List (List Int)) × Unit) × Unit))) =>
                           (Option.bind (c_law0_EqualMessages (y_37.1.1, (m_, ()))) (fun (y_39 : ((Bool × Unit) × (Unit × (Unit × Unit)))) =>
                            (some ((y_39.1.1, ()), ((y_38.1, ((y_38.2.1.1, y_38.2.1.2), y_38.2.2)), ((), ((), ((), ()))))))))))))
                         (some ((false, ()), ((y_36.1, ((y_36.2.1.1, y_36.2.1.2), y_36.2.2)), ((), ((), ((), ())))))))))))
                      (some ((false, ()), ((y_8.1, ((y_8.2.1.1, y_8.2.1.2), y_8.2.2)), ((), ((), ((), ())))))))
                     (some ((false, ()), ((y_8.1, ((y_8.2.1.1, y_8.2.1.2), y_8.2.2)), ((), ((), ((), ())))))))))
                   (some ((false, ()), ((y_8.1, ((y_8.2.1.1, y_8.2.1.2), y_8.2.2)), ((), ((), ((), ())))))))
                  (some ((false, ()), ((y_8.1, ((y_8.2.1.1, y_8.2.1.2), y_8.2.2)), ((), ((), ((), ()))))))))
                (brR (Go.Pon.eqD (Go.Pon.Ty.arr 32 (Go.Pon.Ty.int Go.IntKind.u8)) y_4.1.1 y_6.1.1)
                 (brR (Go.Pon.eqD (Go.Pon.Ty.bool) y_4.1.2.1 y_6.1.2.1)
                  (Option.bind (c_law0_EqualHashes (y_7.1.1, (y_9.1.1, ()))) (fun (y_40 : ((Bool × Unit) × (Unit × (Unit × Unit)))) =>
                   (brR y_40.1.1
                    (brR (Go.Pon.eqD (Go.Pon.Ty.bool) y_7.1.2.1 y_9.1.2.1)
                     (Option.bind (c_outbox_Outbox_Len ((some (y_8.1, ((y_8.2.1.1, y_8.2.1.2), y_8.2.2))), ())) (fun (y_41 : ((Int × Unit) × ((Option ((List (Int × (Int × ((List Int) × Unit)))) × (((List (List Int)) × Unit) × Unit))) × Unit))) =>
                      (optR y_41.2.1
                       none
                       (fun (y_42 : ((List (Int × (Int × ((List Int) × Unit)))) × (((List (List Int)) × Unit) × Unit))) =>
                       (brR (decide (y_41.1.1 = v_1))
                        (Option.bind (c_outbox_Outbox_All ((some (y_42.1, ((y_42.2.1.1, y_42.2.1.2), y_42.2.2))), ())) (fun (y_43 : (((List (Int × (Int × ((List Int) × Unit)))) × Unit) × ((Option ((List (Int × (Int × ((List Int) × Unit)))) × (((List (List Int)) × Unit) × Unit))) × Unit))) =>
                         (optR y_43.2.1
                          none
                          (fun (y_44 : ((List (Int × (Int × ((List Int) × Unit)))) × (((List (List Int)) × Unit) × Unit))) =>
                          (Option.bind (c_law0_EqualMessages (y_43.1.1, (m_, ()))) (fun (y_45 : ((Bool × Unit) × (Unit × (Unit × Unit)))) =>
                           (some ((y_45.1.1, ()), ((y_44.1, ((y_44.2.1.1, y_44.2.1.2), y_44.2.2)), ((), ((), ((), ()))))))))))))
                        (some ((false, ()), ((y_42.1, ((y_42.2.1.1, y_42.2.1.2), y_42.2.2)), ((), ((), ((), ())))))))))))
                     (some ((false, ()), ((y_8.1, ((y_8.2.1.1, y_8.2.1.2), y_8.2.2)), ((), ((), ((), ())))))))
                    (some ((false, ()), ((y_8.1, ((y_8.2.1.1, y_8.2.1.2), y_8.2.2)), ((), ((), ((), ())))))))))
                  (some ((false, ()), ((y_8.1, ((y_8.2.1.1, y_8.2.1.2), y_8.2.2)), ((), ((), ((), ())))))))
                 (some ((false, ()), ((y_8.1, ((y_8.2.1.1, y_8.2.1.2), y_8.2.2)), ((), ((), ((), ())))))))))
              none)
             (brR (!y_2.1.2.1)
              (brR (!(Go.Pon.eqD ((Go.Pon.Ty.int Go.IntKind.u64).pair
  ((Go.Pon.Ty.int Go.IntKind.u64).pair ((Go.Pon.Ty.arr 4 (Go.Pon.Ty.int Go.IntKind.u64)).pair Go.Pon.Ty.unit))) y_2.1.1 ((0 : Int), ((0 : Int), ([(0 : Int), (0 : Int), (0 : Int), (0 : Int)], ())))))
               (some ((false, ()), ((y_8.1, ((y_8.2.1.1, y_8.2.1.2), y_8.2.2)), ((), ((), ((), ()))))))
               (brR (Go.Pon.eqD (Go.Pon.Ty.arr 32 (Go.Pon.Ty.int Go.IntKind.u8)) y_4.1.1 y_6.1.1)
                (brR (Go.Pon.eqD (Go.Pon.Ty.bool) y_4.1.2.1 y_6.1.2.1)
                 (Option.bind (c_law0_EqualHashes (y_7.1.1, (y_9.1.1, ()))) (fun (y_46 : ((Bool × Unit) × (Unit × (Unit × Unit)))) =>
                  (brR y_46.1.1
                   (brR (Go.Pon.eqD (Go.Pon.Ty.bool) y_7.1.2.1 y_9.1.2.1)
                    (Option.bind (c_outbox_Outbox_Len ((some (y_8.1, ((y_8.2.1.1, y_8.2.1.2), y_8.2.2))), ())) (fun (y_47 : ((Int × Unit) × ((Option ((List (Int × (Int × ((List Int) × Unit)))) × (((List (List Int)) × Unit) × Unit))) × Unit))) =>
                     (optR y_47.2.1
                      none
                      (fun (y_48 : ((List (Int × (Int × ((List Int) × Unit)))) × (((List (List Int)) × Unit) × Unit))) =>
                      (brR (decide (y_47.1.1 = v_1))
                       (Option.bind (c_outbox_Outbox_All ((some (y_48.1, ((y_48.2.1.1, y_48.2.1.2), y_48.2.2))), ())) (fun (y_49 : (((List (Int × (Int × ((List Int) × Unit)))) × Unit) × ((Option ((List (Int × (Int × ((List Int) × Unit)))) × (((List (List Int)) × Unit) × Unit))) × Unit))) =>
                        (optR y_49.2.1
                         none
                         (fun (y_50 : ((List (Int × (Int × ((List Int) × Unit)))) × (((List (List Int)) × Unit) × Unit))) =>
                         (Option.bind (c_law0_EqualMessages (y_49.1.1, (m_, ()))) (fun (y_51 : ((Bool × Unit) × (Unit × (Unit × Unit)))) =>
                          (some ((y_51.1.1, ()), ((y_50.1, ((y_50.2.1.1, y_50.2.1.2), y_50.2.2)), ((), ((), ((), ()))))))))))))
                       (some ((false, ()), ((y_48.1, ((y_48.2.1.1, y_48.2.1.2), y_48.2.2)), ((), ((), ((), ())))))))))))
                    (some ((false, ()), ((y_8.1, ((y_8.2.1.1, y_8.2.1.2), y_8.2.2)), ((), ((), ((), ())))))))
                   (some ((false, ()), ((y_8.1, ((y_8.2.1.1, y_8.2.1.2), y_8.2.2)), ((), ((), ((), ())))))))))
                 (some ((false, ()), ((y_8.1, ((y_8.2.1.1, y_8.2.1.2), y_8.2.2)), ((), ((), ((), ())))))))
                (some ((false, ()), ((y_8.1, ((y_8.2.1.1, y_8.2.1.2), y_8.2.2)), ((), ((), ((), ()))))))))
              (brR (Go.Pon.eqD (Go.Pon.Ty.arr 32 (Go.Pon.Ty.int Go.IntKind.u8)) y_4.1.1 y_6.1.1)
               (brR (Go.Pon.eqD (Go.Pon.Ty.bool) y_4.1.2.1 y_6.1.2.1)
                (Option.bind (c_law0_EqualHashes (y_7.1.1, (y_9.1.1, ()))) (fun (y_52 : ((Bool × Unit) × (Unit × (Unit × Unit)))) =>
                 (brR y_52.1.1
                  (brR (Go.Pon.eqD (Go.Pon.Ty.bool) y_7.1.2.1 y_9.1.2.1)
                   (Option.bind (c_outbox_Outbox_Len ((some (y_8.1, ((y_8.2.1.1, y_8.2.1.2), y_8.2.2))), ())) (fun (y_53 : ((Int × Unit) × ((Option ((List (Int × (Int × ((List Int) × Unit)))) × (((List (List Int)) × Unit) × Unit))) × Unit))) =>
                    (optR y_53.2.1
                     none
                     (fun (y_54 : ((List (Int × (Int × ((List Int) × Unit)))) × (((List (List Int)) × Unit) × Unit))) =>
                     (brR (decide (y_53.1.1 = v_1))
                      (Option.bind (c_outbox_Outbox_All ((some (y_54.1, ((y_54.2.1.1, y_54.2.1.2), y_54.2.2))), ())) (fun (y_55 : (((List (Int × (Int × ((List Int) × Unit)))) × Unit) × ((Option ((List (Int × (Int × ((List Int) × Unit)))) × (((List (List Int)) × Unit) × Unit))) × Unit))) =>
                       (optR y_55.2.1
                        none
                        (fun (y_56 : ((List (Int × (Int × ((List Int) × Unit)))) × (((List (List Int)) × Unit) × Unit))) =>
                        (Option.bind (c_law0_EqualMessages (y_55.1.1, (m_, ()))) (fun (y_57 : ((Bool × Unit) × (Unit × (Unit × Unit)))) =>
                         (some ((y_57.1.1, ()), ((y_56.1, ((y_56.2.1.1, y_56.2.1.2), y_56.2.2)), ((), ((), ((), ()))))))))))))
                      (some ((false, ()), ((y_54.1, ((y_54.2.1.1, y_54.2.1.2), y_54.2.2)), ((), ((), ((), ())))))))))))
                   (some ((false, ()), ((y_8.1, ((y_8.2.1.1, y_8.2.1.2), y_8.2.2)), ((), ((), ((), ())))))))
                  (some ((false, ()), ((y_8.1, ((y_8.2.1.1, y_8.2.1.2), y_8.2.2)), ((), ((), ((), ())))))))))
                (some ((false, ()), ((y_8.1, ((y_8.2.1.1, y_8.2.1.2), y_8.2.2)), ((), ((), ((), ())))))))
               (some ((false, ()), ((y_8.1, ((y_8.2.1.1, y_8.2.1.2), y_8.2.2)), ((), ((), ((), ())))))))))))))))))))))))))))))

noncomputable def sol_law24_agree : F_law24_agree := fun x => T_law24_agree bigLoop sol_outbox_Outbox_Get sol_outbox_Outbox_Root sol_ref24_Root sol_outbox_Outbox_Proof sol_ref24_Proof sol_law0_EqualHashes sol_outbox_Outbox_Len sol_outbox_Outbox_All sol_law0_EqualMessages x.1 x.2.1 x.2.2.1 x.2.2.2.1

/-- pontage/pontagelaw24.OutboxCalls -/
abbrev s_law24_OutboxCalls : Sig := ⟨[(.ro false (.slice (.pair (.int .u64) (.pair (.arr 4 (.int .u64)) (.pair .bool .unit))))), (.ro true (.int .i64)), (.ro true (.int .i64))], [(.ro true .bool)]⟩
abbrev F_law24_OutboxCalls := ((List (Int × ((List Int) × (Bool × Unit)))) × (Int × (Int × Unit))) → Option ((Bool × Unit) × (Unit × (Unit × (Unit × Unit))))

noncomputable def T_law24_OutboxCalls_loop0 (c_outbox_Outbox_Send : F_outbox_Outbox_Send) (c_outbox_Encode : F_outbox_Encode) (c_ref24_Encode : F_ref24_Encode) (c_law0_EqualBytes : F_law0_EqualBytes) (c_outbox_Leaf : F_outbox_Leaf) (c_ref24_Leaf : F_ref24_Leaf) (c_law24_agree : F_law24_agree) (c_law0_Mod : F_law0_Mod) (c_law24_awake : F_law24_awake) (again_2 : ((List (Int × ((List Int) × (Bool × Unit)))) × (Int × (Int × (((List (Int × (Int × ((List Int) × Unit)))) × (((List (List Int)) × Unit) × Unit)) × ((List (Int × (Int × ((List Int) × Unit)))) × (Int × Unit)))))) → Option ((Bool × Unit) × (Unit × (Unit × (Unit × Unit))))) (l_3 : (List (Int × ((List Int) × (Bool × Unit))))) (i_4 : Int) (n_5 : Int) (o_6 : ((List (Int × (Int × ((List Int) × Unit)))) × (((List (List Int)) × Unit) × Unit))) (m_7 : (List (Int × (Int × ((List Int) × Unit))))) (k_8 : Int) : Option ((Bool × Unit) × (Unit × (Unit × (Unit × Unit)))) :=
  (letR (List.length l_3) fun (v_9 : Nat) =>
  (letR (List.length m_7) fun (v_10 : Nat) =>
  (letR ((v_10 : Nat) : Int) fun (v_11 : Int) =>
  (letR (Go.IntKind.wrap (Go.IntKind.u64) v_11) fun (v_12 : Int) =>
  (letR (Int.tmod (List.getD l_3 (Int.toNat k_8) (Go.Pon.Ty.zero ((Go.Pon.Ty.int Go.IntKind.u64).pair
  ((Go.Pon.Ty.arr 4 (Go.Pon.Ty.int Go.IntKind.u64)).pair (Go.Pon.Ty.bool.pair Go.Pon.Ty.unit))))).1 (3 : Int)) fun (v_13 : Int) =>
  (letR [(Int.tmod (List.getD (List.getD l_3 (Int.toNat k_8) (Go.Pon.Ty.zero ((Go.Pon.Ty.int Go.IntKind.u64).pair
  ((Go.Pon.Ty.arr 4 (Go.Pon.Ty.int Go.IntKind.u64)).pair (Go.Pon.Ty.bool.pair Go.Pon.Ty.unit))))).2.1 (0 : Nat) (0 : Int)) (3 : Int)), (0 : Int), (0 : Int), (0 : Int)] fun (v_14 : (List Int)) =>
  (brR (decide (k_8 < ((v_9 : Nat) : Int)))
   (brR (Go.Pon.inR k_8 v_9)
    (brR (Go.Pon.inR k_8 v_9)
     (brR (Go.Pon.inR k_8 v_9)
      (brR (List.getD l_3 (Int.toNat k_8) (Go.Pon.Ty.zero ((Go.Pon.Ty.int Go.IntKind.u64).pair
  ((Go.Pon.Ty.arr 4 (Go.Pon.Ty.int Go.IntKind.u64)).pair (Go.Pon.Ty.bool.pair Go.Pon.Ty.unit))))).2.2.1
       (Option.bind (c_outbox_Outbox_Send ((some (o_6.1, ((o_6.2.1.1, o_6.2.1.2), o_6.2.2))), (v_13, (v_14, ())))) (fun (y_15 : (((Int × (Int × ((List Int) × Unit))) × (Int × Unit)) × ((Option ((List (Int × (Int × ((List Int) × Unit)))) × (((List (List Int)) × Unit) × Unit))) × (Unit × (Unit × Unit))))) =>
        (optR y_15.2.1
         none
         (fun (y_16 : ((List (Int × (Int × ((List Int) × Unit)))) × (((List (List Int)) × Unit) × Unit))) =>
         (brR (decide (v_13 = (0 : Int)))
          (brR (!(decide (y_15.1.2.1 = (2 : Int))))
           (some ((false, ()), ((), ((), ((), ())))))
           (brR (!(Go.Pon.eqD ((Go.Pon.Ty.int Go.IntKind.u64).pair
  ((Go.Pon.Ty.int Go.IntKind.u64).pair ((Go.Pon.Ty.arr 4 (Go.Pon.Ty.int Go.IntKind.u64)).pair Go.Pon.Ty.unit))) y_15.1.1 ((0 : Int), ((0 : Int), ([(0 : Int), (0 : Int), (0 : Int), (0 : Int)], ())))))
            (some ((false, ()), ((), ((), ((), ())))))
            (again_2 (l_3, (i_4, (n_5, ((y_16.1, ((y_16.2.1.1, y_16.2.1.2), y_16.2.2)), (m_7, ((Go.IntKind.wrap (Go.IntKind.i64) (k_8 + (1 : Int))), ())))))))))
          (brR (Go.Pon.eqD (Go.Pon.Ty.arr 4 (Go.Pon.Ty.int Go.IntKind.u64)) v_14 [(0 : Int), (0 : Int), (0 : Int), (0 : Int)])
           (brR (!(decide (y_15.1.2.1 = (2 : Int))))
            (some ((false, ()), ((), ((), ((), ())))))
            (brR (!(Go.Pon.eqD ((Go.Pon.Ty.int Go.IntKind.u64).pair
  ((Go.Pon.Ty.int Go.IntKind.u64).pair ((Go.Pon.Ty.arr 4 (Go.Pon.Ty.int Go.IntKind.u64)).pair Go.Pon.Ty.unit))) y_15.1.1 ((0 : Int), ((0 : Int), ([(0 : Int), (0 : Int), (0 : Int), (0 : Int)], ())))))
             (some ((false, ()), ((), ((), ((), ())))))
             (again_2 (l_3, (i_4, (n_5, ((y_16.1, ((y_16.2.1.1, y_16.2.1.2), y_16.2.2)), (m_7, ((Go.IntKind.wrap (Go.IntKind.i64) (k_8 + (1 : Int))), ())))))))))
           (brR (Go.Pon.roomy (v_10 + (1 : Nat)) ((Go.Pon.Ty.int Go.IntKind.u64).pair
  ((Go.Pon.Ty.int Go.IntKind.u64).pair ((Go.Pon.Ty.arr 4 (Go.Pon.Ty.int Go.IntKind.u64)).pair Go.Pon.Ty.unit))))
            (brR (!(decide (y_15.1.2.1 = (0 : Int))))
             (some ((false, ()), ((), ((), ((), ())))))
             (brR (!(Go.Pon.eqD ((Go.Pon.Ty.int Go.IntKind.u64).pair
  ((Go.Pon.Ty.int Go.IntKind.u64).pair ((Go.Pon.Ty.arr 4 (Go.Pon.Ty.int Go.IntKind.u64)).pair Go.Pon.Ty.unit))) y_15.1.1 (v_12, (v_13, (v_14, ())))))
              (some ((false, ()), ((), ((), ((), ())))))
              (Option.bind (c_outbox_Encode (y_15.1.1, ())) (fun (y_17 : (((List Int) × Unit) × (Unit × Unit))) =>
               (Option.bind (c_ref24_Encode ((v_12, (v_13, (v_14, ()))), ())) (fun (y_18 : (((List Int) × Unit) × (Unit × Unit))) =>
                (Option.bind (c_law0_EqualBytes (y_17.1.1, (y_18.1.1, ()))) (fun (y_19 : ((Bool × Unit) × (Unit × (Unit × Unit)))) =>
                 (brR (!y_19.1.1)
                  (some ((false, ()), ((), ((), ((), ())))))
                  (Option.bind (c_outbox_Leaf (y_15.1.1, ())) (fun (y_20 : (((List Int) × Unit) × (Unit × Unit))) =>
                   (Option.bind (c_ref24_Leaf ((v_12, (v_13, (v_14, ()))), ())) (fun (y_21 : (((List Int) × Unit) × (Unit × Unit))) =>
                    (brR (!(Go.Pon.eqD (Go.Pon.Ty.arr 32 (Go.Pon.Ty.int Go.IntKind.u8)) y_20.1.1 y_21.1.1))
                     (some ((false, ()), ((), ((), ((), ())))))
                     (again_2 (l_3, (i_4, (n_5, ((y_16.1, ((y_16.2.1.1, y_16.2.1.2), y_16.2.2)), ((List.append m_7 [(v_12, (v_13, (v_14, ())))]), ((Go.IntKind.wrap (Go.IntKind.i64) (k_8 + (1 : Int))), ())))))))))))))))))))))
            none)))))))
       (Option.bind (c_outbox_Outbox_Send ((some (o_6.1, ((o_6.2.1.1, o_6.2.1.2), o_6.2.2))), ((List.getD l_3 (Int.toNat k_8) (Go.Pon.Ty.zero ((Go.Pon.Ty.int Go.IntKind.u64).pair
  ((Go.Pon.Ty.arr 4 (Go.Pon.Ty.int Go.IntKind.u64)).pair (Go.Pon.Ty.bool.pair Go.Pon.Ty.unit))))).1, ((List.getD l_3 (Int.toNat k_8) (Go.Pon.Ty.zero ((Go.Pon.Ty.int Go.IntKind.u64).pair
  ((Go.Pon.Ty.arr 4 (Go.Pon.Ty.int Go.IntKind.u64)).pair (Go.Pon.Ty.bool.pair Go.Pon.Ty.unit))))).2.1, ())))) (fun (y_22 : (((Int × (Int × ((List Int) × Unit))) × (Int × Unit)) × ((Option ((List (Int × (Int × ((List Int) × Unit)))) × (((List (List Int)) × Unit) × Unit))) × (Unit × (Unit × Unit))))) =>
        (optR y_22.2.1
         none
         (fun (y_23 : ((List (Int × (Int × ((List Int) × Unit)))) × (((List (List Int)) × Unit) × Unit))) =>
         (brR (decide ((List.getD l_3 (Int.toNat k_8) (Go.Pon.Ty.zero ((Go.Pon.Ty.int Go.IntKind.u64).pair
  ((Go.Pon.Ty.arr 4 (Go.Pon.Ty.int Go.IntKind.u64)).pair (Go.Pon.Ty.bool.pair Go.Pon.Ty.unit))))).1 = (0 : Int)))
          (brR (!(decide (y_22.1.2.1 = (2 : Int))))
           (some ((false, ()), ((), ((), ((), ())))))
           (brR (!(Go.Pon.eqD ((Go.Pon.Ty.int Go.IntKind.u64).pair
  ((Go.Pon.Ty.int Go.IntKind.u64).pair ((Go.Pon.Ty.arr 4 (Go.Pon.Ty.int Go.IntKind.u64)).pair Go.Pon.Ty.unit))) y_22.1.1 ((0 : Int), ((0 : Int), ([(0 : Int), (0 : Int), (0 : Int), (0 : Int)], ())))))
            (some ((false, ()), ((), ((), ((), ())))))
            (again_2 (l_3, (i_4, (n_5, ((y_23.1, ((y_23.2.1.1, y_23.2.1.2), y_23.2.2)), (m_7, ((Go.IntKind.wrap (Go.IntKind.i64) (k_8 + (1 : Int))), ())))))))))
          (brR (Go.Pon.eqD (Go.Pon.Ty.arr 4 (Go.Pon.Ty.int Go.IntKind.u64)) (List.getD l_3 (Int.toNat k_8) (Go.Pon.Ty.zero ((Go.Pon.Ty.int Go.IntKind.u64).pair
  ((Go.Pon.Ty.arr 4 (Go.Pon.Ty.int Go.IntKind.u64)).pair (Go.Pon.Ty.bool.pair Go.Pon.Ty.unit))))).2.1 [(0 : Int), (0 : Int), (0 : Int), (0 : Int)])
           (brR (!(decide (y_22.1.2.1 = (2 : Int))))
            (some ((false, ()), ((), ((), ((), ())))))
            (brR (!(Go.Pon.eqD ((Go.Pon.Ty.int Go.IntKind.u64).pair
  ((Go.Pon.Ty.int Go.IntKind.u64).pair ((Go.Pon.Ty.arr 4 (Go.Pon.Ty.int Go.IntKind.u64)).pair Go.Pon.Ty.unit))) y_22.1.1 ((0 : Int), ((0 : Int), ([(0 : Int), (0 : Int), (0 : Int), (0 : Int)], ())))))
             (some ((false, ()), ((), ((), ((), ())))))
             (again_2 (l_3, (i_4, (n_5, ((y_23.1, ((y_23.2.1.1, y_23.2.1.2), y_23.2.2)), (m_7, ((Go.IntKind.wrap (Go.IntKind.i64) (k_8 + (1 : Int))), ())))))))))
           (brR (Go.Pon.roomy (v_10 + (1 : Nat)) ((Go.Pon.Ty.int Go.IntKind.u64).pair
  ((Go.Pon.Ty.int Go.IntKind.u64).pair ((Go.Pon.Ty.arr 4 (Go.Pon.Ty.int Go.IntKind.u64)).pair Go.Pon.Ty.unit))))
            (brR (!(decide (y_22.1.2.1 = (0 : Int))))
             (some ((false, ()), ((), ((), ((), ())))))
             (brR (!(Go.Pon.eqD ((Go.Pon.Ty.int Go.IntKind.u64).pair
  ((Go.Pon.Ty.int Go.IntKind.u64).pair ((Go.Pon.Ty.arr 4 (Go.Pon.Ty.int Go.IntKind.u64)).pair Go.Pon.Ty.unit))) y_22.1.1 (v_12, ((List.getD l_3 (Int.toNat k_8) (Go.Pon.Ty.zero ((Go.Pon.Ty.int Go.IntKind.u64).pair
  ((Go.Pon.Ty.arr 4 (Go.Pon.Ty.int Go.IntKind.u64)).pair (Go.Pon.Ty.bool.pair Go.Pon.Ty.unit))))).1, ((List.getD l_3 (Int.toNat k_8) (Go.Pon.Ty.zero ((Go.Pon.Ty.int Go.IntKind.u64).pair
  ((Go.Pon.Ty.arr 4 (Go.Pon.Ty.int Go.IntKind.u64)).pair (Go.Pon.Ty.bool.pair Go.Pon.Ty.unit))))).2.1, ())))))
              (some ((false, ()), ((), ((), ((), ())))))
              (Option.bind (c_outbox_Encode (y_22.1.1, ())) (fun (y_24 : (((List Int) × Unit) × (Unit × Unit))) =>
               (Option.bind (c_ref24_Encode ((v_12, ((List.getD l_3 (Int.toNat k_8) (Go.Pon.Ty.zero ((Go.Pon.Ty.int Go.IntKind.u64).pair
  ((Go.Pon.Ty.arr 4 (Go.Pon.Ty.int Go.IntKind.u64)).pair (Go.Pon.Ty.bool.pair Go.Pon.Ty.unit))))).1, ((List.getD l_3 (Int.toNat k_8) (Go.Pon.Ty.zero ((Go.Pon.Ty.int Go.IntKind.u64).pair
  ((Go.Pon.Ty.arr 4 (Go.Pon.Ty.int Go.IntKind.u64)).pair (Go.Pon.Ty.bool.pair Go.Pon.Ty.unit))))).2.1, ()))), ())) (fun (y_25 : (((List Int) × Unit) × (Unit × Unit))) =>
                (Option.bind (c_law0_EqualBytes (y_24.1.1, (y_25.1.1, ()))) (fun (y_26 : ((Bool × Unit) × (Unit × (Unit × Unit)))) =>
                 (brR (!y_26.1.1)
                  (some ((false, ()), ((), ((), ((), ())))))
                  (Option.bind (c_outbox_Leaf (y_22.1.1, ())) (fun (y_27 : (((List Int) × Unit) × (Unit × Unit))) =>
                   (Option.bind (c_ref24_Leaf ((v_12, ((List.getD l_3 (Int.toNat k_8) (Go.Pon.Ty.zero ((Go.Pon.Ty.int Go.IntKind.u64).pair
  ((Go.Pon.Ty.arr 4 (Go.Pon.Ty.int Go.IntKind.u64)).pair (Go.Pon.Ty.bool.pair Go.Pon.Ty.unit))))).1, ((List.getD l_3 (Int.toNat k_8) (Go.Pon.Ty.zero ((Go.Pon.Ty.int Go.IntKind.u64).pair
  ((Go.Pon.Ty.arr 4 (Go.Pon.Ty.int Go.IntKind.u64)).pair (Go.Pon.Ty.bool.pair Go.Pon.Ty.unit))))).2.1, ()))), ())) (fun (y_28 : (((List Int) × Unit) × (Unit × Unit))) =>
                    (brR (!(Go.Pon.eqD (Go.Pon.Ty.arr 32 (Go.Pon.Ty.int Go.IntKind.u8)) y_27.1.1 y_28.1.1))
                     (some ((false, ()), ((), ((), ((), ())))))
                     (again_2 (l_3, (i_4, (n_5, ((y_23.1, ((y_23.2.1.1, y_23.2.1.2), y_23.2.2)), ((List.append m_7 [(v_12, ((List.getD l_3 (Int.toNat k_8) (Go.Pon.Ty.zero ((Go.Pon.Ty.int Go.IntKind.u64).pair
  ((Go.Pon.Ty.arr 4 (Go.Pon.Ty.int Go.IntKind.u64)).pair (Go.Pon.Ty.bool.pair Go.Pon.Ty.unit))))).1, ((List.getD l_3 (Int.toNat k_8) (Go.Pon.Ty.zero ((Go.Pon.Ty.int Go.IntKind.u64).pair
  ((Go.Pon.Ty.arr 4 (Go.Pon.Ty.int Go.IntKind.u64)).pair (Go.Pon.Ty.bool.pair Go.Pon.Ty.unit))))).2.1, ())))]), ((Go.IntKind.wrap (Go.IntKind.i64) (k_8 + (1 : Int))), ())))))))))))))))))))))
            none))))))))
      none)
     none)
    none)
   (Option.bind (c_law24_agree ((o_6.1, ((o_6.2.1.1, o_6.2.1.2), o_6.2.2)), (m_7, (i_4, (n_5, ()))))) (fun (y_29 : ((Bool × Unit) × (((List (Int × (Int × ((List Int) × Unit)))) × (((List (List Int)) × Unit) × Unit)) × (Unit × (Unit × (Unit × Unit)))))) =>
    (brR y_29.1.1
     (Option.bind (c_law0_Mod (i_4, ((Go.IntKind.wrap (Go.IntKind.i64) (v_11 + (1 : Int))), ()))) (fun (y_30 : ((Int × Unit) × (Unit × (Unit × Unit)))) =>
      (Option.bind (c_law0_Mod (n_5, ((Go.IntKind.wrap (Go.IntKind.i64) (v_11 + (1 : Int))), ()))) (fun (y_31 : ((Int × Unit) × (Unit × (Unit × Unit)))) =>
       (Option.bind (c_law24_agree ((y_29.2.1.1, ((y_29.2.1.2.1.1, y_29.2.1.2.1.2), y_29.2.1.2.2)), (m_7, (y_30.1.1, (y_31.1.1, ()))))) (fun (y_32 : ((Bool × Unit) × (((List (Int × (Int × ((List Int) × Unit)))) × (((List (List Int)) × Unit) × Unit)) × (Unit × (Unit × (Unit × Unit)))))) =>
        (brR y_32.1.1
         (Option.bind (c_law24_awake ()) (fun (y_33 : ((Bool × Unit) × Unit)) =>
          (some ((y_33.1.1, ()), ((), ((), ((), ())))))))
         (some ((false, ()), ((), ((), ((), ()))))))))))))
     (some ((false, ()), ((), ((), ((), ())))))))))))))))

noncomputable def T_law24_OutboxCalls (L : LoopD) (c_law24_awake : F_law24_awake) (c_outbox_New : F_outbox_New) (c_outbox_Outbox_Send : F_outbox_Outbox_Send) (c_outbox_Encode : F_outbox_Encode) (c_ref24_Encode : F_ref24_Encode) (c_law0_EqualBytes : F_law0_EqualBytes) (c_outbox_Leaf : F_outbox_Leaf) (c_ref24_Leaf : F_ref24_Leaf) (c_law24_agree : F_law24_agree) (c_law0_Mod : F_law0_Mod) (l_ : (List (Int × ((List Int) × (Bool × Unit))))) (i_ : Int) (n_ : Int) : Option ((Bool × Unit) × (Unit × (Unit × (Unit × Unit)))) :=
  (brR (decide ((((List.length l_) : Nat) : Int) > (30 : Int)))
   (Option.bind (c_law24_awake ()) (fun (y_0 : ((Bool × Unit) × Unit)) =>
    (some ((y_0.1.1, ()), ((), ((), ((), ())))))))
   (Option.bind (c_outbox_New ()) (fun (y_1 : ((((List (Int × (Int × ((List Int) × Unit)))) × (((List (List Int)) × Unit) × Unit)) × Unit) × Unit)) =>
    (L _ _ (fun again x => T_law24_OutboxCalls_loop0 c_outbox_Outbox_Send c_outbox_Encode c_ref24_Encode c_law0_EqualBytes c_outbox_Leaf c_ref24_Leaf c_law24_agree c_law0_Mod c_law24_awake again x.1 x.2.1 x.2.2.1 x.2.2.2.1 x.2.2.2.2.1 x.2.2.2.2.2.1) (l_, (i_, (n_, ((y_1.1.1.1, ((y_1.1.1.2.1.1, y_1.1.1.2.1.2), y_1.1.1.2.2)), (([] : List (Int × (Int × ((List Int) × Unit)))), ((0 : Int), ()))))))))))

noncomputable def sol_law24_OutboxCalls : F_law24_OutboxCalls := fun x => T_law24_OutboxCalls bigLoop sol_law24_awake sol_outbox_New sol_outbox_Outbox_Send sol_outbox_Encode sol_ref24_Encode sol_law0_EqualBytes sol_outbox_Leaf sol_ref24_Leaf sol_law24_agree sol_law0_Mod x.1 x.2.1 x.2.2.1

/-- pontage/pontagelaw24.ValidMessages -/
abbrev s_law24_ValidMessages : Sig := ⟨[(.ro false (.slice (.pair (.int .u64) (.pair (.arr 4 (.int .u64)) (.pair .bool .unit)))))], [(.own true (.pair (.int .u64) (.pair (.int .u64) (.pair (.arr 4 (.int .u64)) .unit))))]⟩
abbrev F_law24_ValidMessages := ((List (Int × ((List Int) × (Bool × Unit)))) × Unit) → Option (((List (Int × (Int × ((List Int) × Unit)))) × Unit) × (Unit × Unit))

noncomputable def T_law24_ValidMessages_loop0 (again_0 : ((List (Int × ((List Int) × (Bool × Unit)))) × ((List (Int × (Int × ((List Int) × Unit)))) × (Int × Unit))) → Option (((List (Int × (Int × ((List Int) × Unit)))) × Unit) × (Unit × Unit))) (l_1 : (List (Int × ((List Int) × (Bool × Unit))))) (out_2 : (List (Int × (Int × ((List Int) × Unit))))) (i_3 : Int) : Option (((List (Int × (Int × ((List Int) × Unit)))) × Unit) × (Unit × Unit)) :=
  (letR (List.length l_1) fun (v_4 : Nat) =>
  (brR (decide (i_3 < ((v_4 : Nat) : Int)))
   (brR (Go.Pon.inR i_3 v_4)
    (brR (Go.Pon.inR i_3 v_4)
     (brR (Go.Pon.inR i_3 v_4)
      (brR (Go.Pon.roomy ((List.length out_2) + (1 : Nat)) ((Go.Pon.Ty.int Go.IntKind.u64).pair
  ((Go.Pon.Ty.int Go.IntKind.u64).pair ((Go.Pon.Ty.arr 4 (Go.Pon.Ty.int Go.IntKind.u64)).pair Go.Pon.Ty.unit))))
       (again_0 (l_1, ((List.append out_2 [((Go.IntKind.wrap (Go.IntKind.u64) i_3), ((Go.IntKind.wrap (Go.IntKind.u64) ((1 : Int) + (Int.tmod (List.getD l_1 (Int.toNat i_3) (Go.Pon.Ty.zero ((Go.Pon.Ty.int Go.IntKind.u64).pair
  ((Go.Pon.Ty.arr 4 (Go.Pon.Ty.int Go.IntKind.u64)).pair (Go.Pon.Ty.bool.pair Go.Pon.Ty.unit))))).1 (6 : Int)))), ([(Go.IntKind.wrap (Go.IntKind.u64) ((1 : Int) + (Int.tmod (List.getD (List.getD l_1 (Int.toNat i_3) (Go.Pon.Ty.zero ((Go.Pon.Ty.int Go.IntKind.u64).pair
  ((Go.Pon.Ty.arr 4 (Go.Pon.Ty.int Go.IntKind.u64)).pair (Go.Pon.Ty.bool.pair Go.Pon.Ty.unit))))).2.1 (0 : Nat) (0 : Int)) (1000 : Int)))), (0 : Int), (Int.tmod (List.getD (List.getD l_1 (Int.toNat i_3) (Go.Pon.Ty.zero ((Go.Pon.Ty.int Go.IntKind.u64).pair
  ((Go.Pon.Ty.arr 4 (Go.Pon.Ty.int Go.IntKind.u64)).pair (Go.Pon.Ty.bool.pair Go.Pon.Ty.unit))))).2.1 (1 : Nat) (0 : Int)) (2 : Int)), (0 : Int)], ())))]), ((Go.IntKind.wrap (Go.IntKind.i64) (i_3 + (1 : Int))), ()))))
       none)
      none)
     none)
    none)
   (some ((out_2, ()), ((), ())))))

noncomputable def T_law24_ValidMessages (L : LoopD) (l_ : (List (Int × ((List Int) × (Bool × Unit))))) : Option (((List (Int × (Int × ((List Int) × Unit)))) × Unit) × (Unit × Unit)) :=
  (L _ _ (fun again x => T_law24_ValidMessages_loop0 again x.1 x.2.1 x.2.2.1) (l_, (([] : List (Int × (Int × ((List Int) × Unit)))), ((0 : Int), ()))))

noncomputable def sol_law24_ValidMessages : F_law24_ValidMessages := fun x => T_law24_ValidMessages bigLoop x.1

/-- pontage/pontagelaw24.OutboxIndependence -/
abbrev s_law24_OutboxIndependence : Sig := ⟨[(.ro false (.slice (.pair (.int .u64) (.pair (.arr 4 (.int .u64)) (.pair .bool .unit))))), (.ro true (.int .u64)), (.ro true (.arr 4 (.int .u64))), (.ro true (.int .i64))], [(.ro true .bool)]⟩
abbrev F_law24_OutboxIndependence := ((List (Int × ((List Int) × (Bool × Unit)))) × (Int × ((List Int) × (Int × Unit)))) → Option ((Bool × Unit) × (Unit × (Unit × (Unit × (Unit × Unit)))))

noncomputable def T_law24_OutboxIndependence (L : LoopD) (c_law24_awake : F_law24_awake) (c_law24_ValidMessages : F_law24_ValidMessages) (c_outbox_Load : F_outbox_Load) (c_outbox_Outbox_Copy : F_outbox_Outbox_Copy) (c_outbox_Outbox_Send : F_outbox_Outbox_Send) (c_outbox_Outbox_All : F_outbox_Outbox_All) (c_outbox_Outbox_Get : F_outbox_Outbox_Get) (c_outbox_Outbox_Root : F_outbox_Outbox_Root) (c_outbox_Outbox_Proof : F_outbox_Outbox_Proof) (c_law0_EqualMessages : F_law0_EqualMessages) (c_outbox_Outbox_Len : F_outbox_Outbox_Len) (s_ : (List (Int × ((List Int) × (Bool × Unit))))) (to_ : Int) (n_ : (List Int)) (i_ : Int) : Option ((Bool × Unit) × (Unit × (Unit × (Unit × (Unit × Unit))))) :=
  (brR (decide ((((List.length s_) : Nat) : Int) > (20 : Int)))
   (Option.bind (c_law24_awake ()) (fun (y_0 : ((Bool × Unit) × Unit)) =>
    (some ((y_0.1.1, ()), ((), ((), ((), ((), ()))))))))
   (Option.bind (c_law24_ValidMessages (s_, ())) (fun (y_1 : (((List (Int × (Int × ((List Int) × Unit)))) × Unit) × (Unit × Unit))) =>
    (letR (((List.length y_1.1.1) : Nat) : Int) fun (v_2 : Int) =>
    (Option.bind (c_outbox_Load (y_1.1.1, ())) (fun (y_3 : (((Option ((List (Int × (Int × ((List Int) × Unit)))) × (((List (List Int)) × Unit) × Unit))) × (Int × Unit)) × (Unit × Unit))) =>
     (optR y_3.1.1
      (some ((false, ()), ((), ((), ((), ((), ()))))))
      (fun (y_4 : ((List (Int × (Int × ((List Int) × Unit)))) × (((List (List Int)) × Unit) × Unit))) =>
      (Option.bind (c_outbox_Outbox_Copy ((some (y_4.1, ((y_4.2.1.1, y_4.2.1.2), y_4.2.2))), ())) (fun (y_5 : (((Option ((List (Int × (Int × ((List Int) × Unit)))) × (((List (List Int)) × Unit) × Unit))) × Unit) × ((Option ((List (Int × (Int × ((List Int) × Unit)))) × (((List (List Int)) × Unit) × Unit))) × Unit))) =>
       (optR y_5.2.1
        none
        (fun (y_6 : ((List (Int × (Int × ((List Int) × Unit)))) × (((List (List Int)) × Unit) × Unit))) =>
        (optR y_5.1.1
         (some ((false, ()), ((), ((), ((), ((), ()))))))
         (fun (y_7 : ((List (Int × (Int × ((List Int) × Unit)))) × (((List (List Int)) × Unit) × Unit))) =>
         (Option.bind (c_outbox_Outbox_Send ((some (y_7.1, ((y_7.2.1.1, y_7.2.1.2), y_7.2.2))), ((5 : Int), ([(6 : Int), (0 : Int), (0 : Int), (0 : Int)], ())))) (fun (y_8 : (((Int × (Int × ((List Int) × Unit))) × (Int × Unit)) × ((Option ((List (Int × (Int × ((List Int) × Unit)))) × (((List (List Int)) × Unit) × Unit))) × (Unit × (Unit × Unit))))) =>
          (optR y_8.2.1
           none
           (fun (y_9 : ((List (Int × (Int × ((List Int) × Unit)))) × (((List (List Int)) × Unit) × Unit))) =>
           (Option.bind (c_outbox_Outbox_All ((some (y_9.1, ((y_9.2.1.1, y_9.2.1.2), y_9.2.2))), ())) (fun (y_10 : (((List (Int × (Int × ((List Int) × Unit)))) × Unit) × ((Option ((List (Int × (Int × ((List Int) × Unit)))) × (((List (List Int)) × Unit) × Unit))) × Unit))) =>
            (optR y_10.2.1
             none
             (fun (y_11 : ((List (Int × (Int × ((List Int) × Unit)))) × (((List (List Int)) × Unit) × Unit))) =>
             (brR (Go.Pon.inR (0 : Int) (List.length y_10.1.1))
              (Option.bind (c_outbox_Outbox_Send (none, (to_, (n_, ())))) (fun (y_12 : (((Int × (Int × ((List Int) × Unit))) × (Int × Unit)) × ((Option ((List (Int × (Int × ((List Int) × Unit)))) × (((List (List Int)) × Unit) × Unit))) × (Unit × (Unit × Unit))))) =>
               (optR y_12.2.1
                (Option.bind (c_outbox_Outbox_Get (none, (i_, ()))) (fun (y_13 : (((Int × (Int × ((List Int) × Unit))) × (Bool × Unit)) × ((Option ((List (Int × (Int × ((List Int) × Unit)))) × (((List (List Int)) × Unit) × Unit))) × (Unit × Unit)))) =>
                 (optR y_13.2.1
                  (Option.bind (c_outbox_Outbox_Root (none, (i_, ()))) (fun (y_14 : (((List Int) × (Bool × Unit)) × ((Option ((List (Int × (Int × ((List Int) × Unit)))) × (((List (List Int)) × Unit) × Unit))) × (Unit × Unit)))) =>
                   (optR y_14.2.1
                    (Option.bind (c_outbox_Outbox_Proof (none, (i_, (i_, ())))) (fun (y_15 : (((List (List Int)) × (Bool × Unit)) × ((Option ((List (Int × (Int × ((List Int) × Unit)))) × (((List (List Int)) × Unit) × Unit))) × (Unit × (Unit × Unit))))) =>
                     (optR y_15.2.1
                      (Option.bind (c_outbox_Outbox_All ((some (y_6.1, ((y_6.2.1.1, y_6.2.1.2), y_6.2.2))), ())) (fun (y_16 : (((List (Int × (Int × ((List Int) × Unit)))) × Unit) × ((Option ((List (Int × (Int × ((List Int) × Unit)))) × (((List (List Int)) × Unit) × Unit))) × Unit))) =>
                       (optR y_16.2.1
                        none
                        (fun (y_17 : ((List (Int × (Int × ((List Int) × Unit)))) × (((List (List Int)) × Unit) × Unit))) =>
                        (Option.bind (c_law0_EqualMessages (y_16.1.1, (y_1.1.1, ()))) (fun (y_18 : ((Bool × Unit) × (Unit × (Unit × Unit)))) =>
                         (brR y_18.1.1
                          (Option.bind (c_outbox_Outbox_Len ((some (y_17.1, ((y_17.2.1.1, y_17.2.1.2), y_17.2.2))), ())) (fun (y_19 : ((Int × Unit) × ((Option ((List (Int × (Int × ((List Int) × Unit)))) × (((List (List Int)) × Unit) × Unit))) × Unit))) =>
                           (optR y_19.2.1
                            none
                            (fun (y_20 : ((List (Int × (Int × ((List Int) × Unit)))) × (((List (List Int)) × Unit) × Unit))) =>
                            (brR (decide (y_19.1.1 = v_2))
                             (Option.bind (c_outbox_Outbox_Len ((some (y_11.1, ((y_11.2.1.1, y_11.2.1.2), y_11.2.2))), ())) (fun (y_21 : ((Int × Unit) × ((Option ((List (Int × (Int × ((List Int) × Unit)))) × (((List (List Int)) × Unit) × Unit))) × Unit))) =>
                              (optR y_21.2.1
                               none
                               (fun (y_22 : ((List (Int × (Int × ((List Int) × Unit)))) × (((List (List Int)) × Unit) × Unit))) =>
                               (brR (decide (y_21.1.1 = (Go.IntKind.wrap (Go.IntKind.i64) (v_2 + (1 : Int)))))
                                (Option.bind (c_outbox_Outbox_All ((some (y_22.1, ((y_22.2.1.1, y_22.2.1.2), y_22.2.2))), ())) (fun (y_23 : (((List (Int × (Int × ((List Int) × Unit)))) × Unit) × ((Option ((List (Int × (Int × ((List Int) × Unit)))) × (((List (List Int)) × Unit) × Unit))) × Unit))) =>
                                 (optR y_23.2.1
                                  none
                                  (fun (y_24 : ((List (Int × (Int × ((List Int) × Unit)))) × (((List (List Int)) × Unit) × Unit))) =>
                                  (brR (Go.Pon.inR (0 : Int) (List.length y_23.1.1))
                                   (brR (!(decide ((List.getD y_23.1.1 (0 : Nat) (Go.Pon.Ty.zero ((Go.Pon.Ty.int Go.IntKind.u64).pair
  ((Go.Pon.Ty.int Go.IntKind.u64).pair ((Go.Pon.Ty.arr 4 (Go.Pon.Ty.int Go.IntKind.u64)).pair Go.Pon.Ty.unit))))).2.1 = (99 : Int))))
                                    (brR (decide (y_12.1.2.1 = (1 : Int)))
                                     (brR (!y_13.1.2.1)
                                      (brR (!y_14.1.2.1)
                                       (brR (!y_15.1.2.1)
                                        (Option.bind (c_outbox_Outbox_Len (none, ())) (fun (y_25 : ((Int × Unit) × ((Option ((List (Int × (Int × ((List Int) × Unit)))) × (((List (List Int)) × Unit) × Unit))) × Unit))) =>
                                         (optR y_25.2.1
                                          (brR (decide (y_25.1.1 = (0 : Int)))
                                           (Option.bind (c_outbox_Outbox_All (none, ())) (fun (y_26 : (((List (Int × (Int × ((List Int) × Unit)))) × Unit) × ((Option ((List (Int × (Int × ((List Int) × Unit)))) × (((List (List Int)) × Unit) × Unit))) × Unit))) =>
                                            (optR y_26.2.1
                                             (brR (decide ((((List.length y_26.1.1) : Nat) : Int) = (0 : Int)))
                                              (Option.bind (c_outbox_Outbox_Copy (none, ())) (fun (y_27 : (((Option ((List (Int × (Int × ((List Int) × Unit)))) × (((List (List Int)) × Unit) × Unit))) × Unit) × ((Option ((List (Int × (Int × ((List Int) × Unit)))) × (((List (List Int)) × Unit) × Unit))) × Unit))) =>
                                               (optR y_27.2.1
                                                (optR y_27.1.1
                                                 (Option.bind (c_law24_awake ()) (fun (y_28 : ((Bool × Unit) × Unit)) =>
                                                  (some ((y_28.1.1, ()), ((), ((), ((), ((), ()))))))))
                                                 (fun (y_29 : ((List (Int × (Int × ((List Int) × Unit)))) × (((List (List Int)) × Unit) × Unit))) =>
                                                 (some ((false, ()), ((), ((), ((), ((), ()))))))))
                                                (fun (y_30 : ((List (Int × (Int × ((List Int) × Unit)))) × (((List (List Int)) × Unit) × Unit))) =>
                                                none))))
                                              (some ((false, ()), ((), ((), ((), ((), ())))))))
                                             (fun (y_31 : ((List (Int × (Int × ((List Int) × Unit)))) × (((List (List Int)) × Unit) × Unit))) =>
                                             none))))
                                           (some ((false, ()), ((), ((), ((), ((), ())))))))
                                          (fun (y_32 : ((List (Int × (Int × ((List Int) × Unit)))) × (((List (List Int)) × Unit) × Unit))) =>
                                          none))))
                                        (some ((false, ()), ((), ((), ((), ((), ())))))))
                                       (some ((false, ()), ((), ((), ((), ((), ())))))))
                                      (some ((false, ()), ((), ((), ((), ((), ())))))))
                                     (some ((false, ()), ((), ((), ((), ((), ())))))))
                                    (some ((false, ()), ((), ((), ((), ((), ())))))))
                                   none)))))
                                (some ((false, ()), ((), ((), ((), ((), ())))))))))))
                             (some ((false, ()), ((), ((), ((), ((), ())))))))))))
                          (some ((false, ()), ((), ((), ((), ((), ())))))))))))))
                      (fun (y_33 : ((List (Int × (Int × ((List Int) × Unit)))) × (((List (List Int)) × Unit) × Unit))) =>
                      none))))
                    (fun (y_34 : ((List (Int × (Int × ((List Int) × Unit)))) × (((List (List Int)) × Unit) × Unit))) =>
                    none))))
                  (fun (y_35 : ((List (Int × (Int × ((List Int) × Unit)))) × (((List (List Int)) × Unit) × Unit))) =>
                  none))))
                (fun (y_36 : ((List (Int × (Int × ((List Int) × Unit)))) × (((List (List Int)) × Unit) × Unit))) =>
                none))))
              none)))))))))))))))))))))))

noncomputable def sol_law24_OutboxIndependence : F_law24_OutboxIndependence := fun x => T_law24_OutboxIndependence bigLoop sol_law24_awake sol_law24_ValidMessages sol_outbox_Load sol_outbox_Outbox_Copy sol_outbox_Outbox_Send sol_outbox_Outbox_All sol_outbox_Outbox_Get sol_outbox_Outbox_Root sol_outbox_Outbox_Proof sol_law0_EqualMessages sol_outbox_Outbox_Len x.1 x.2.1 x.2.2.1 x.2.2.2.1

/-- pontage/pontagelaw24.OutboxLoad -/
abbrev s_law24_OutboxLoad : Sig := ⟨[(.ro false (.slice (.pair (.int .u64) (.pair (.int .u64) (.pair (.arr 4 (.int .u64)) .unit))))), (.ro false (.slice (.pair (.int .u64) (.pair (.arr 4 (.int .u64)) (.pair .bool .unit))))), (.ro true (.int .i64)), (.ro true (.int .i64))], [(.ro true .bool)]⟩
abbrev F_law24_OutboxLoad := ((List (Int × (Int × ((List Int) × Unit)))) × ((List (Int × ((List Int) × (Bool × Unit)))) × (Int × (Int × Unit)))) → Option ((Bool × Unit) × (Unit × (Unit × (Unit × (Unit × Unit)))))

noncomputable def T_law24_OutboxLoad_loop0 (c_outbox_Load : F_outbox_Load) (c_ref24_ValidMessages : F_ref24_ValidMessages) (c_outbox_Outbox_Send : F_outbox_Outbox_Send) (c_outbox_Outbox_Len : F_outbox_Outbox_Len) (c_outbox_Outbox_All : F_outbox_Outbox_All) (c_law0_EqualMessages : F_law0_EqualMessages) (c_law24_awake : F_law24_awake) (again_7 : ((List (List (Int × (Int × ((List Int) × Unit))))) × (Int × Unit)) → Option ((Bool × Unit) × (Unit × (Unit × (Unit × (Unit × Unit)))))) (t62_8 : (List (List (Int × (Int × ((List Int) × Unit)))))) (t63_9 : Int) : Option ((Bool × Unit) × (Unit × (Unit × (Unit × (Unit × Unit))))) :=
  (letR (List.getD t62_8 (Int.toNat t63_9) ([] : List (Int × (Int × ((List Int) × Unit))))) fun (v_10 : (List (Int × (Int × ((List Int) × Unit))))) =>
  (letR (((List.length v_10) : Nat) : Int) fun (v_11 : Int) =>
  (letR (Go.IntKind.wrap (Go.IntKind.u64) v_11) fun (v_12 : Int) =>
  (letR ((Int.toNat v_11) - (0 : Nat)) fun (v_13 : Nat) =>
  (letR (Go.IntKind.wrap (Go.IntKind.i64) (v_11 + (1 : Int))) fun (v_14 : Int) =>
  (brR (decide (t63_9 < (2 : Int)))
   (brR (Go.Pon.inR t63_9 (2 : Nat))
    (Option.bind (c_outbox_Load (v_10, ())) (fun (y_15 : (((Option ((List (Int × (Int × ((List Int) × Unit)))) × (((List (List Int)) × Unit) × Unit))) × (Int × Unit)) × (Unit × Unit))) =>
     (optR y_15.1.1
      (Option.bind (c_ref24_ValidMessages (v_10, ())) (fun (y_16 : ((Bool × Unit) × (Unit × Unit))) =>
       (brR (!(Go.Pon.eqD (Go.Pon.Ty.bool) (decide (y_15.1.2.1 = (0 : Int))) y_16.1.1))
        (some ((false, ()), ((), ((), ((), ((), ()))))))
        (brR (!(Go.Pon.eqD (Go.Pon.Ty.bool) true (!(decide (y_15.1.2.1 = (0 : Int))))))
         (some ((false, ()), ((), ((), ((), ((), ()))))))
         (brR (!(decide (y_15.1.2.1 = (0 : Int))))
          (brR (!(decide (y_15.1.2.1 = (2 : Int))))
           (some ((false, ()), ((), ((), ((), ((), ()))))))
           (brR (decide (y_15.1.2.1 = (0 : Int)))
            (Option.bind (c_outbox_Outbox_Send (none, ((9 : Int), ([(4 : Int), (0 : Int), (0 : Int), (0 : Int)], ())))) (fun (y_17 : (((Int × (Int × ((List Int) × Unit))) × (Int × Unit)) × ((Option ((List (Int × (Int × ((List Int) × Unit)))) × (((List (List Int)) × Unit) × Unit))) × (Unit × (Unit × Unit))))) =>
             (optR y_17.2.1
              (brR (!(decide (y_17.1.2.1 = (0 : Int))))
               (some ((false, ()), ((), ((), ((), ((), ()))))))
               (brR (!(decide (y_17.1.1.1 = v_12)))
                (some ((false, ()), ((), ((), ((), ((), ()))))))
                (Option.bind (c_outbox_Outbox_Len (none, ())) (fun (y_18 : ((Int × Unit) × ((Option ((List (Int × (Int × ((List Int) × Unit)))) × (((List (List Int)) × Unit) × Unit))) × Unit))) =>
                 (optR y_18.2.1
                  (brR (!(decide (y_18.1.1 = v_14)))
                   (some ((false, ()), ((), ((), ((), ((), ()))))))
                   (Option.bind (c_outbox_Outbox_All (none, ())) (fun (y_19 : (((List (Int × (Int × ((List Int) × Unit)))) × Unit) × ((Option ((List (Int × (Int × ((List Int) × Unit)))) × (((List (List Int)) × Unit) × Unit))) × Unit))) =>
                    (optR y_19.2.1
                     (brR ((decide ((0 : Int) ≤ v_11)) && (decide (v_11 ≤ (((List.length y_19.1.1) : Nat) : Int))))
                      (Option.bind (c_law0_EqualMessages ((List.take v_13 (List.drop (0 : Nat) y_19.1.1)), (v_10, ()))) (fun (y_20 : ((Bool × Unit) × (Unit × (Unit × Unit)))) =>
                       (brR (!y_20.1.1)
                        (some ((false, ()), ((), ((), ((), ((), ()))))))
                        (again_7 (t62_8, ((Go.IntKind.wrap (Go.IntKind.i64) (t63_9 + (1 : Int))), ()))))))
                      none)
                     (fun (y_21 : ((List (Int × (Int × ((List Int) × Unit)))) × (((List (List Int)) × Unit) × Unit))) =>
                     none)))))
                  (fun (y_22 : ((List (Int × (Int × ((List Int) × Unit)))) × (((List (List Int)) × Unit) × Unit))) =>
                  none))))))
              (fun (y_23 : ((List (Int × (Int × ((List Int) × Unit)))) × (((List (List Int)) × Unit) × Unit))) =>
              none))))
            (again_7 (t62_8, ((Go.IntKind.wrap (Go.IntKind.i64) (t63_9 + (1 : Int))), ())))))
          (brR (decide (y_15.1.2.1 = (0 : Int)))
           (Option.bind (c_outbox_Outbox_Send (none, ((9 : Int), ([(4 : Int), (0 : Int), (0 : Int), (0 : Int)], ())))) (fun (y_24 : (((Int × (Int × ((List Int) × Unit))) × (Int × Unit)) × ((Option ((List (Int × (Int × ((List Int) × Unit)))) × (((List (List Int)) × Unit) × Unit))) × (Unit × (Unit × Unit))))) =>
            (optR y_24.2.1
             (brR (!(decide (y_24.1.2.1 = (0 : Int))))
              (some ((false, ()), ((), ((), ((), ((), ()))))))
              (brR (!(decide (y_24.1.1.1 = v_12)))
               (some ((false, ()), ((), ((), ((), ((), ()))))))
               (Option.bind (c_outbox_Outbox_Len (none, ())) (fun (y_25 : ((Int × Unit) × ((Option ((List (Int × (Int × ((List Int) × Unit)))) × (((List (List Int)) × Unit) × Unit))) × Unit))) =>
                (optR y_25.2.1
                 (brR (!(decide (y_25.1.1 = v_14)))
                  (some ((false, ()), ((), ((), ((), ((), ()))))))
                  (Option.bind (c_outbox_Outbox_All (none, ())) (fun (y_26 : (((List (Int × (Int × ((List Int) × Unit)))) × Unit) × ((Option ((List (Int × (Int × ((List Int) × Unit)))) × (((List (List Int)) × Unit) × Unit))) × Unit))) =>
                   (optR y_26.2.1
                    (brR ((decide ((0 : Int) ≤ v_11)) && (decide (v_11 ≤ (((List.length y_26.1.1) : Nat) : Int))))
                     (Option.bind (c_law0_EqualMessages ((List.take v_13 (List.drop (0 : Nat) y_26.1.1)), (v_10, ()))) (fun (y_27 : ((Bool × Unit) × (Unit × (Unit × Unit)))) =>
                      (brR (!y_27.1.1)
                       (some ((false, ()), ((), ((), ((), ((), ()))))))
                       (again_7 (t62_8, ((Go.IntKind.wrap (Go.IntKind.i64) (t63_9 + (1 : Int))), ()))))))
                     none)
                    (fun (y_28 : ((List (Int × (Int × ((List Int) × Unit)))) × (((List (List Int)) × Unit) × Unit))) =>
                    none)))))
                 (fun (y_29 : ((List (Int × (Int × ((List Int) × Unit)))) × (((List (List Int)) × Unit) × Unit))) =>
                 none))))))
             (fun (y_30 : ((List (Int × (Int × ((List Int) × Unit)))) × (((List (List Int)) × Unit) × Unit))) =>
             none))))
           (again_7 (t62_8, ((Go.IntKind.wrap (Go.IntKind.i64) (t63_9 + (1 : Int))), ())))))))))
      (fun (y_31 : ((List (Int × (Int × ((List Int) × Unit)))) × (((List (List Int)) × Unit) × Unit))) =>
      (Option.bind (c_ref24_ValidMessages (v_10, ())) (fun (y_32 : ((Bool × Unit) × (Unit × Unit))) =>
       (brR (!(Go.Pon.eqD (Go.Pon.Ty.bool) (decide (y_15.1.2.1 = (0 : Int))) y_32.1.1))
        (some ((false, ()), ((), ((), ((), ((), ()))))))
        (brR (!(Go.Pon.eqD (Go.Pon.Ty.bool) false (!(decide (y_15.1.2.1 = (0 : Int))))))
         (some ((false, ()), ((), ((), ((), ((), ()))))))
         (brR (!(decide (y_15.1.2.1 = (0 : Int))))
          (brR (!(decide (y_15.1.2.1 = (2 : Int))))
           (some ((false, ()), ((), ((), ((), ((), ()))))))
           (brR (decide (y_15.1.2.1 = (0 : Int)))
            (Option.bind (c_outbox_Outbox_Send ((some (y_31.1, ((y_31.2.1.1, y_31.2.1.2), y_31.2.2))), ((9 : Int), ([(4 : Int), (0 : Int), (0 : Int), (0 : Int)], ())))) (fun (y_33 : (((Int × (Int × ((List Int) × Unit))) × (Int × Unit)) × ((Option ((List (Int × (Int × ((List Int) × Unit)))) × (((List (List Int)) × Unit) × Unit))) × (Unit × (Unit × Unit))))) =>
             (optR y_33.2.1
              none
              (fun (y_34 : ((List (Int × (Int × ((List Int) × Unit)))) × (((List (List Int)) × Unit) × Unit))) =>
              (brR (!(decide (y_33.1.2.1 = (0 : Int))))
               (some ((false, ()), ((), ((), ((), ((), ()))))))
               (brR (!(decide (y_33.1.1.1 = v_12)))
                (some ((false, ()), ((), ((), ((), ((), ()))))))
                (Option.bind (c_outbox_Outbox_Len ((some (y_34.1, ((y_34.2.1.1, y_34.2.1.2), y_34.2.2))), ())) (fun (y_35 : ((Int × Unit) × ((Option ((List (Int × (Int × ((List Int) × Unit)))) × (((List (List Int)) × Unit) × Unit))) × Unit))) =>
                 (optR y_35.2.1
                  none
                  (fun (y_36 : ((List (Int × (Int × ((List Int) × Unit)))) × (((List (List Int)) × Unit) × Unit))) =>
                  (brR (!(decide (y_35.1.1 = v_14)))
                   (some ((false, ()), ((), ((), ((), ((), ()))))))
                   (Option.bind (c_outbox_Outbox_All ((some (y_36.1, ((y_36.2.1.1, y_36.2.1.2), y_36.2.2))), ())) (fun (y_37 : (((List (Int × (Int × ((List Int) × Unit)))) × Unit) × ((Option ((List (Int × (Int × ((List Int) × Unit)))) × (((List (List Int)) × Unit) × Unit))) × Unit))) =>
                    (optR y_37.2.1
                     none
                     (fun (y_38 : ((List (Int × (Int × ((List Int) × Unit)))) × (((List (List Int)) × Unit) × Unit))) =>
                     (brR ((decide ((0 : Int) ≤ v_11)) && (decide (v_11 ≤ (((List.length y_37.1.1) : Nat) : Int))))
                      (Option.bind (c_law0_EqualMessages ((List.take v_13 (List.drop (0 : Nat) y_37.1.1)), (v_10, ()))) (fun (y_39 : ((Bool × Unit) × (Unit × (Unit × Unit)))) =>
                       (brR (!y_39.1.1)
                        (some ((false, ()), ((), ((), ((), ((), ()))))))
                        (again_7 (t62_8, ((Go.IntKind.wrap (Go.IntKind.i64) (t63_9 + (1 : Int))), ()))))))
                      none))))))))))))))))
            (again_7 (t62_8, ((Go.IntKind.wrap (Go.IntKind.i64) (t63_9 + (1 : Int))), ())))))
          (brR (decide (y_15.1.2.1 = (0 : Int)))
           (Option.bind (c_outbox_Outbox_Send ((some (y_31.1, ((y_31.2.1.1, y_31.2.1.2), y_31.2.2))), ((9 : Int), ([(4 : Int), (0 : Int), (0 : Int), (0 : Int)], ())))) (fun (y_40 : (((Int × (Int × ((List Int) × Unit))) × (Int × Unit)) × ((Option ((List (Int × (Int × ((List Int) × Unit)))) × (((List (List Int)) × Unit) × Unit))) × (Unit × (Unit × Unit))))) =>
            (optR y_40.2.1
             none
             (fun (y_41 : ((List (Int × (Int × ((List Int) × Unit)))) × (((List (List Int)) × Unit) × Unit))) =>
             (brR (!(decide (y_40.1.2.1 = (0 : Int))))
              (some ((false, ()), ((), ((), ((), ((), ()))))))
              (brR (!(decide (y_40.1.1.1 = v_12)))
               (some ((false, ()), ((), ((), ((), ((), ()))))))
               (Option.bind (c_outbox_Outbox_Len ((some (y_41.1, ((y_41.2.1.1, y_41.2.1.2), y_41.2.2))), ())) (fun (y_42 : ((Int × Unit) × ((Option ((List (Int × (Int × ((List Int) × Unit)))) × (((List (List Int)) × Unit) × Unit))) × Unit))) =>
                (optR y_42.2.1
                 none
                 (fun (y_43 : ((List (Int × (Int × ((List Int) × Unit)))) × (((List (List Int)) × Unit) × Unit))) =>
                 (brR (!(decide (y_42.1.1 = v_14)))
                  (some ((false, ()), ((), ((), ((), ((), ()))))))
                  (Option.bind (c_outbox_Outbox_All ((some (y_43.1, ((y_43.2.1.1, y_43.2.1.2), y_43.2.2))), ())) (fun (y_44 : (((List (Int × (Int × ((List Int) × Unit)))) × Unit) × ((Option ((List (Int × (Int × ((List Int) × Unit)))) × (((List (List Int)) × Unit) × Unit))) × Unit))) =>
                   (optR y_44.2.1
                    none
                    (fun (y_45 : ((List (Int × (Int × ((List Int) × Unit)))) × (((List (List Int)) × Unit) × Unit))) =>
                    (brR ((decide ((0 : Int) ≤ v_11)) && (decide (v_11 ≤ (((List.length y_44.1.1) : Nat) : Int))))
                     (Option.bind (c_law0_EqualMessages ((List.take v_13 (List.drop (0 : Nat) y_44.1.1)), (v_10, ()))) (fun (y_46 : ((Bool × Unit) × (Unit × (Unit × Unit)))) =>
                      (brR (!y_46.1.1)
                       (some ((false, ()), ((), ((), ((), ((), ()))))))
                       (again_7 (t62_8, ((Go.IntKind.wrap (Go.IntKind.i64) (t63_9 + (1 : Int))), ()))))))
                     none))))))))))))))))
           (again_7 (t62_8, ((Go.IntKind.wrap (Go.IntKind.i64) (t63_9 + (1 : Int))), ())))))))))))))
    none)
   (Option.bind (c_law24_awake ()) (fun (y_47 : ((Bool × Unit) × Unit)) =>
    (some ((y_47.1.1, ()), ((), ((), ((), ((), ()))))))))))))))

noncomputable def T_law24_OutboxLoad (L : LoopD) (c_law24_awake : F_law24_awake) (c_law24_ValidMessages : F_law24_ValidMessages) (c_law0_Mod : F_law0_Mod) (c_outbox_Load : F_outbox_Load) (c_ref24_ValidMessages : F_ref24_ValidMessages) (c_outbox_Outbox_Send : F_outbox_Outbox_Send) (c_outbox_Outbox_Len : F_outbox_Outbox_Len) (c_outbox_Outbox_All : F_outbox_Outbox_All) (c_law0_EqualMessages : F_law0_EqualMessages) (l_ : (List (Int × (Int × ((List Int) × Unit))))) (s_ : (List (Int × ((List Int) × (Bool × Unit))))) (at_ : Int) (how_ : Int) : Option ((Bool × Unit) × (Unit × (Unit × (Unit × (Unit × Unit))))) :=
  (brR (decide ((((List.length l_) : Nat) : Int) > (30 : Int)))
   (Option.bind (c_law24_awake ()) (fun (y_0 : ((Bool × Unit) × Unit)) =>
    (some ((y_0.1.1, ()), ((), ((), ((), ((), ()))))))))
   (brR (decide ((((List.length s_) : Nat) : Int) > (30 : Int)))
    (Option.bind (c_law24_awake ()) (fun (y_1 : ((Bool × Unit) × Unit)) =>
     (some ((y_1.1.1, ()), ((), ((), ((), ((), ()))))))))
    (Option.bind (c_law24_ValidMessages (s_, ())) (fun (y_2 : (((List (Int × (Int × ((List Int) × Unit)))) × Unit) × (Unit × Unit))) =>
     (letR (List.length y_2.1.1) fun (v_3 : Nat) =>
     (letR ((v_3 : Nat) : Int) fun (v_4 : Int) =>
     (brR (decide (v_4 > (0 : Int)))
      (Option.bind (c_law0_Mod (at_, (v_4, ()))) (fun (y_5 : ((Int × Unit) × (Unit × (Unit × Unit)))) =>
       (Option.bind (c_law0_Mod (how_, ((4 : Int), ()))) (fun (y_6 : ((Int × Unit) × (Unit × (Unit × Unit)))) =>
        (brR (decide (y_6.1.1 = (0 : Int)))
         (brR (Go.Pon.inR y_5.1.1 v_3)
          (brR (Go.Pon.inR y_5.1.1 v_3)
           (L _ _ (fun again x => T_law24_OutboxLoad_loop0 c_outbox_Load c_ref24_ValidMessages c_outbox_Outbox_Send c_outbox_Outbox_Len c_outbox_Outbox_All c_law0_EqualMessages c_law24_awake again x.1 x.2.1) ([l_, (List.set y_2.1.1 (Int.toNat y_5.1.1) ((Go.IntKind.wrap (Go.IntKind.u64) ((List.getD y_2.1.1 (Int.toNat y_5.1.1) (Go.Pon.Ty.zero ((Go.Pon.Ty.int Go.IntKind.u64).pair
  ((Go.Pon.Ty.int Go.IntKind.u64).pair ((Go.Pon.Ty.arr 4 (Go.Pon.Ty.int Go.IntKind.u64)).pair Go.Pon.Ty.unit))))).1 + (1 : Int))), (List.getD y_2.1.1 (Int.toNat y_5.1.1) (Go.Pon.Ty.zero ((Go.Pon.Ty.int Go.IntKind.u64).pair
  ((Go.Pon.Ty.int Go.IntKind.u64).pair ((Go.Pon.Ty.arr 4 (Go.Pon.Ty.int Go.IntKind.u64)).pair Go.Pon.Ty.unit))))).2))], ((0 : Int), ())))
           none)
          none)
         (brR (decide (y_6.1.1 = (1 : Int)))
          (brR (Go.Pon.inR y_5.1.1 v_3)
           (L _ _ (fun again x => T_law24_OutboxLoad_loop0 c_outbox_Load c_ref24_ValidMessages c_outbox_Outbox_Send c_outbox_Outbox_Len c_outbox_Outbox_All c_law0_EqualMessages c_law24_awake again x.1 x.2.1) ([l_, (List.set y_2.1.1 (Int.toNat y_5.1.1) ((List.getD y_2.1.1 (Int.toNat y_5.1.1) (Go.Pon.Ty.zero ((Go.Pon.Ty.int Go.IntKind.u64).pair
  ((Go.Pon.Ty.int Go.IntKind.u64).pair ((Go.Pon.Ty.arr 4 (Go.Pon.Ty.int Go.IntKind.u64)).pair Go.Pon.Ty.unit))))).1, ((0 : Int), (List.getD y_2.1.1 (Int.toNat y_5.1.1) (Go.Pon.Ty.zero ((Go.Pon.Ty.int Go.IntKind.u64).pair
  ((Go.Pon.Ty.int Go.IntKind.u64).pair ((Go.Pon.Ty.arr 4 (Go.Pon.Ty.int Go.IntKind.u64)).pair Go.Pon.Ty.unit))))).2.2)))], ((0 : Int), ())))
           none)
          (brR (decide (y_6.1.1 = (2 : Int)))
           (brR (Go.Pon.inR y_5.1.1 v_3)
            (L _ _ (fun again x => T_law24_OutboxLoad_loop0 c_outbox_Load c_ref24_ValidMessages c_outbox_Outbox_Send c_outbox_Outbox_Len c_outbox_Outbox_All c_law0_EqualMessages c_law24_awake again x.1 x.2.1) ([l_, (List.set y_2.1.1 (Int.toNat y_5.1.1) ((List.getD y_2.1.1 (Int.toNat y_5.1.1) (Go.Pon.Ty.zero ((Go.Pon.Ty.int Go.IntKind.u64).pair
  ((Go.Pon.Ty.int Go.IntKind.u64).pair ((Go.Pon.Ty.arr 4 (Go.Pon.Ty.int Go.IntKind.u64)).pair Go.Pon.Ty.unit))))).1, ((List.getD y_2.1.1 (Int.toNat y_5.1.1) (Go.Pon.Ty.zero ((Go.Pon.Ty.int Go.IntKind.u64).pair
  ((Go.Pon.Ty.int Go.IntKind.u64).pair ((Go.Pon.Ty.arr 4 (Go.Pon.Ty.int Go.IntKind.u64)).pair Go.Pon.Ty.unit))))).2.1, ([(0 : Int), (0 : Int), (0 : Int), (0 : Int)], (List.getD y_2.1.1 (Int.toNat y_5.1.1) (Go.Pon.Ty.zero ((Go.Pon.Ty.int Go.IntKind.u64).pair
  ((Go.Pon.Ty.int Go.IntKind.u64).pair ((Go.Pon.Ty.arr 4 (Go.Pon.Ty.int Go.IntKind.u64)).pair Go.Pon.Ty.unit))))).2.2.2))))], ((0 : Int), ())))
            none)
           (L _ _ (fun again x => T_law24_OutboxLoad_loop0 c_outbox_Load c_ref24_ValidMessages c_outbox_Outbox_Send c_outbox_Outbox_Len c_outbox_Outbox_All c_law0_EqualMessages c_law24_awake again x.1 x.2.1) ([l_, y_2.1.1], ((0 : Int), ()))))))))))
      (L _ _ (fun again x => T_law24_OutboxLoad_loop0 c_outbox_Load c_ref24_ValidMessages c_outbox_Outbox_Send c_outbox_Outbox_Len c_outbox_Outbox_All c_law0_EqualMessages c_law24_awake again x.1 x.2.1) ([l_, y_2.1.1], ((0 : Int), ()))))))))))

noncomputable def sol_law24_OutboxLoad : F_law24_OutboxLoad := fun x => T_law24_OutboxLoad bigLoop sol_law24_awake sol_law24_ValidMessages sol_law0_Mod sol_outbox_Load sol_ref24_ValidMessages sol_outbox_Outbox_Send sol_outbox_Outbox_Len sol_outbox_Outbox_All sol_law0_EqualMessages x.1 x.2.1 x.2.2.1 x.2.2.2.1

/-- pontage/pontagelaw24.OutboxPrefixStable -/
abbrev s_law24_OutboxPrefixStable : Sig := ⟨[(.ro false (.slice (.pair (.int .u64) (.pair (.arr 4 (.int .u64)) (.pair .bool .unit))))), (.ro false (.slice (.pair (.int .u64) (.pair (.arr 4 (.int .u64)) (.pair .bool .unit))))), (.ro true (.int .i64)), (.ro true (.int .i64))], [(.ro true .bool)]⟩
abbrev F_law24_OutboxPrefixStable := ((List (Int × ((List Int) × (Bool × Unit)))) × ((List (Int × ((List Int) × (Bool × Unit)))) × (Int × (Int × Unit)))) → Option ((Bool × Unit) × (Unit × (Unit × (Unit × (Unit × Unit)))))

noncomputable def T_law24_OutboxPrefixStable_loop0 (c_outbox_Outbox_Send : F_outbox_Outbox_Send) (c_outbox_Outbox_Root : F_outbox_Outbox_Root) (c_outbox_Outbox_Proof : F_outbox_Outbox_Proof) (c_law0_EqualHashes : F_law0_EqualHashes) (c_outbox_Outbox_Len : F_outbox_Outbox_Len) (c_law24_awake : F_law24_awake) (again_15 : ((List (Int × ((List Int) × (Bool × Unit)))) × ((List (Int × ((List Int) × (Bool × Unit)))) × (((List (Int × (Int × ((List Int) × Unit)))) × (((List (List Int)) × Unit) × Unit)) × (Int × (Int × ((List Int) × ((List (List Int)) × ((List (Int × (Int × ((List Int) × Unit)))) × (Int × Unit))))))))) → Option ((Bool × Unit) × (Unit × (Unit × (Unit × (Unit × Unit)))))) (s_16 : (List (Int × ((List Int) × (Bool × Unit))))) (t_17 : (List (Int × ((List Int) × (Bool × Unit))))) (o_18 : ((List (Int × (Int × ((List Int) × Unit)))) × (((List (List Int)) × Unit) × Unit))) (size_19 : Int) (k_20 : Int) (r_21 : (List Int)) (p_22 : (List (List Int))) (l_23 : (List (Int × (Int × ((List Int) × Unit))))) (j_24 : Int) : Option ((Bool × Unit) × (Unit × (Unit × (Unit × (Unit × Unit))))) :=
  (letR (List.length l_23) fun (v_25 : Nat) =>
  (brR (decide (j_24 < ((v_25 : Nat) : Int)))
   (brR (Go.Pon.inR j_24 v_25)
    (brR (Go.Pon.inR j_24 v_25)
     (Option.bind (c_outbox_Outbox_Send ((some (o_18.1, ((o_18.2.1.1, o_18.2.1.2), o_18.2.2))), ((List.getD l_23 (Int.toNat j_24) (Go.Pon.Ty.zero ((Go.Pon.Ty.int Go.IntKind.u64).pair
  ((Go.Pon.Ty.int Go.IntKind.u64).pair ((Go.Pon.Ty.arr 4 (Go.Pon.Ty.int Go.IntKind.u64)).pair Go.Pon.Ty.unit))))).2.1, ((List.getD l_23 (Int.toNat j_24) (Go.Pon.Ty.zero ((Go.Pon.Ty.int Go.IntKind.u64).pair
  ((Go.Pon.Ty.int Go.IntKind.u64).pair ((Go.Pon.Ty.arr 4 (Go.Pon.Ty.int Go.IntKind.u64)).pair Go.Pon.Ty.unit))))).2.2.1, ())))) (fun (y_26 : (((Int × (Int × ((List Int) × Unit))) × (Int × Unit)) × ((Option ((List (Int × (Int × ((List Int) × Unit)))) × (((List (List Int)) × Unit) × Unit))) × (Unit × (Unit × Unit))))) =>
      (optR y_26.2.1
       none
       (fun (y_27 : ((List (Int × (Int × ((List Int) × Unit)))) × (((List (List Int)) × Unit) × Unit))) =>
       (again_15 (s_16, (t_17, ((y_27.1, ((y_27.2.1.1, y_27.2.1.2), y_27.2.2)), (size_19, (k_20, (r_21, (p_22, (l_23, ((Go.IntKind.wrap (Go.IntKind.i64) (j_24 + (1 : Int))), ()))))))))))))))
     none)
    none)
   (Option.bind (c_outbox_Outbox_Root ((some (o_18.1, ((o_18.2.1.1, o_18.2.1.2), o_18.2.2))), (size_19, ()))) (fun (y_28 : (((List Int) × (Bool × Unit)) × ((Option ((List (Int × (Int × ((List Int) × Unit)))) × (((List (List Int)) × Unit) × Unit))) × (Unit × Unit)))) =>
    (optR y_28.2.1
     none
     (fun (y_29 : ((List (Int × (Int × ((List Int) × Unit)))) × (((List (List Int)) × Unit) × Unit))) =>
     (Option.bind (c_outbox_Outbox_Proof ((some (y_29.1, ((y_29.2.1.1, y_29.2.1.2), y_29.2.2))), (k_20, (size_19, ())))) (fun (y_30 : (((List (List Int)) × (Bool × Unit)) × ((Option ((List (Int × (Int × ((List Int) × Unit)))) × (((List (List Int)) × Unit) × Unit))) × (Unit × (Unit × Unit))))) =>
      (optR y_30.2.1
       none
       (fun (y_31 : ((List (Int × (Int × ((List Int) × Unit)))) × (((List (List Int)) × Unit) × Unit))) =>
       (brR y_28.1.2.1
        (brR y_30.1.2.1
         (brR (Go.Pon.eqD (Go.Pon.Ty.arr 32 (Go.Pon.Ty.int Go.IntKind.u8)) y_28.1.1 r_21)
          (Option.bind (c_law0_EqualHashes (p_22, (y_30.1.1, ()))) (fun (y_32 : ((Bool × Unit) × (Unit × (Unit × Unit)))) =>
           (brR y_32.1.1
            (Option.bind (c_outbox_Outbox_Len ((some (y_31.1, ((y_31.2.1.1, y_31.2.1.2), y_31.2.2))), ())) (fun (y_33 : ((Int × Unit) × ((Option ((List (Int × (Int × ((List Int) × Unit)))) × (((List (List Int)) × Unit) × Unit))) × Unit))) =>
             (optR y_33.2.1
              none
              (fun (y_34 : ((List (Int × (Int × ((List Int) × Unit)))) × (((List (List Int)) × Unit) × Unit))) =>
              (brR (decide (y_33.1.1 = (Go.IntKind.wrap (Go.IntKind.i64) ((((List.length s_16) : Nat) : Int) + (((List.length t_17) : Nat) : Int)))))
               (Option.bind (c_law24_awake ()) (fun (y_35 : ((Bool × Unit) × Unit)) =>
                (some ((y_35.1.1, ()), ((), ((), ((), ((), ()))))))))
               (some ((false, ()), ((), ((), ((), ((), ())))))))))))
            (some ((false, ()), ((), ((), ((), ((), ())))))))))
          (some ((false, ()), ((), ((), ((), ((), ())))))))
         (some ((false, ()), ((), ((), ((), ((), ())))))))
        (some ((false, ()), ((), ((), ((), ((), ())))))))))))))))))

noncomputable def T_law24_OutboxPrefixStable (L : LoopD) (c_law24_awake : F_law24_awake) (c_law24_ValidMessages : F_law24_ValidMessages) (c_outbox_Load : F_outbox_Load) (c_law0_Mod : F_law0_Mod) (c_outbox_Outbox_Root : F_outbox_Outbox_Root) (c_outbox_Outbox_Proof : F_outbox_Outbox_Proof) (c_outbox_Outbox_Send : F_outbox_Outbox_Send) (c_law0_EqualHashes : F_law0_EqualHashes) (c_outbox_Outbox_Len : F_outbox_Outbox_Len) (s_ : (List (Int × ((List Int) × (Bool × Unit))))) (t_ : (List (Int × ((List Int) × (Bool × Unit))))) (i_ : Int) (n_ : Int) : Option ((Bool × Unit) × (Unit × (Unit × (Unit × (Unit × Unit))))) :=
  (letR (((List.length s_) : Nat) : Int) fun (v_0 : Int) =>
  (brR (decide (v_0 > (20 : Int)))
   (Option.bind (c_law24_awake ()) (fun (y_1 : ((Bool × Unit) × Unit)) =>
    (some ((y_1.1.1, ()), ((), ((), ((), ((), ()))))))))
   (brR (decide ((((List.length t_) : Nat) : Int) > (20 : Int)))
    (Option.bind (c_law24_awake ()) (fun (y_2 : ((Bool × Unit) × Unit)) =>
     (some ((y_2.1.1, ()), ((), ((), ((), ((), ()))))))))
    (brR (decide (v_0 = (0 : Int)))
     (Option.bind (c_law24_awake ()) (fun (y_3 : ((Bool × Unit) × Unit)) =>
      (some ((y_3.1.1, ()), ((), ((), ((), ((), ()))))))))
     (Option.bind (c_law24_ValidMessages (s_, ())) (fun (y_4 : (((List (Int × (Int × ((List Int) × Unit)))) × Unit) × (Unit × Unit))) =>
      (Option.bind (c_outbox_Load (y_4.1.1, ())) (fun (y_5 : (((Option ((List (Int × (Int × ((List Int) × Unit)))) × (((List (List Int)) × Unit) × Unit))) × (Int × Unit)) × (Unit × Unit))) =>
       (optR y_5.1.1
        (brR (!(decide (y_5.1.2.1 = (0 : Int))))
         (some ((false, ()), ((), ((), ((), ((), ()))))))
         (some ((false, ()), ((), ((), ((), ((), ())))))))
        (fun (y_6 : ((List (Int × (Int × ((List Int) × Unit)))) × (((List (List Int)) × Unit) × Unit))) =>
        (brR (!(decide (y_5.1.2.1 = (0 : Int))))
         (some ((false, ()), ((), ((), ((), ((), ()))))))
         (Option.bind (c_law0_Mod (n_, (v_0, ()))) (fun (y_7 : ((Int × Unit) × (Unit × (Unit × Unit)))) =>
          (letR (Go.IntKind.wrap (Go.IntKind.i64) ((1 : Int) + y_7.1.1)) fun (v_8 : Int) =>
          (Option.bind (c_law0_Mod (i_, (v_8, ()))) (fun (y_9 : ((Int × Unit) × (Unit × (Unit × Unit)))) =>
           (Option.bind (c_outbox_Outbox_Root ((some (y_6.1, ((y_6.2.1.1, y_6.2.1.2), y_6.2.2))), (v_8, ()))) (fun (y_10 : (((List Int) × (Bool × Unit)) × ((Option ((List (Int × (Int × ((List Int) × Unit)))) × (((List (List Int)) × Unit) × Unit))) × (Unit × Unit)))) =>
            (optR y_10.2.1
             none
             (fun (y_11 : ((List (Int × (Int × ((List Int) × Unit)))) × (((List (List Int)) × Unit) × Unit))) =>
             (Option.bind (c_outbox_Outbox_Proof ((some (y_11.1, ((y_11.2.1.1, y_11.2.1.2), y_11.2.2))), (y_9.1.1, (v_8, ())))) (fun (y_12 : (((List (List Int)) × (Bool × Unit)) × ((Option ((List (Int × (Int × ((List Int) × Unit)))) × (((List (List Int)) × Unit) × Unit))) × (Unit × (Unit × Unit))))) =>
              (optR y_12.2.1
               none
               (fun (y_13 : ((List (Int × (Int × ((List Int) × Unit)))) × (((List (List Int)) × Unit) × Unit))) =>
               (Option.bind (c_law24_ValidMessages (t_, ())) (fun (y_14 : (((List (Int × (Int × ((List Int) × Unit)))) × Unit) × (Unit × Unit))) =>
                (L _ _ (fun again x => T_law24_OutboxPrefixStable_loop0 c_outbox_Outbox_Send c_outbox_Outbox_Root c_outbox_Outbox_Proof c_law0_EqualHashes c_outbox_Outbox_Len c_law24_awake again x.1 x.2.1 x.2.2.1 x.2.2.2.1 x.2.2.2.2.1 x.2.2.2.2.2.1 x.2.2.2.2.2.2.1 x.2.2.2.2.2.2.2.1 x.2.2.2.2.2.2.2.2.1) (s_, (t_, ((y_13.1, ((y_13.2.1.1, y_13.2.1.2), y_13.2.2)), (v_8, (y_9.1.1, (y_10.1.1, (y_12.1.1, (y_14.1.1, ((0 : Int), ()))))))))))))))))))))))))))))))))))))

noncomputable def sol_law24_OutboxPrefixStable : F_law24_OutboxPrefixStable := fun x => T_law24_OutboxPrefixStable bigLoop sol_law24_awake sol_law24_ValidMessages sol_outbox_Load sol_law0_Mod sol_outbox_Outbox_Root sol_outbox_Outbox_Proof sol_outbox_Outbox_Send sol_law0_EqualHashes sol_outbox_Outbox_Len x.1 x.2.1 x.2.2.1 x.2.2.2.1

/-- pontage/pontagelaw24.OutboxProofs -/
abbrev s_law24_OutboxProofs : Sig := ⟨[(.ro false (.slice (.pair (.int .u64) (.pair (.arr 4 (.int .u64)) (.pair .bool .unit))))), (.ro true (.int .i64)), (.ro true (.int .i64))], [(.ro true .bool)]⟩
abbrev F_law24_OutboxProofs := ((List (Int × ((List Int) × (Bool × Unit)))) × (Int × (Int × Unit))) → Option ((Bool × Unit) × (Unit × (Unit × (Unit × Unit))))

noncomputable def T_law24_OutboxProofs (L : LoopD) (c_law24_awake : F_law24_awake) (c_law24_ValidMessages : F_law24_ValidMessages) (c_outbox_Load : F_outbox_Load) (c_law0_Mod : F_law0_Mod) (c_outbox_Outbox_Root : F_outbox_Outbox_Root) (c_outbox_Outbox_Proof : F_outbox_Outbox_Proof) (c_outbox_Leaf : F_outbox_Leaf) (c_merkle_Verify : F_merkle_Verify) (s_ : (List (Int × ((List Int) × (Bool × Unit))))) (i_ : Int) (n_ : Int) : Option ((Bool × Unit) × (Unit × (Unit × (Unit × Unit)))) :=
  (letR (((List.length s_) : Nat) : Int) fun (v_0 : Int) =>
  (brR (decide (v_0 > (30 : Int)))
   (Option.bind (c_law24_awake ()) (fun (y_1 : ((Bool × Unit) × Unit)) =>
    (some ((y_1.1.1, ()), ((), ((), ((), ())))))))
   (brR (decide (v_0 = (0 : Int)))
    (Option.bind (c_law24_awake ()) (fun (y_2 : ((Bool × Unit) × Unit)) =>
     (some ((y_2.1.1, ()), ((), ((), ((), ())))))))
    (Option.bind (c_law24_ValidMessages (s_, ())) (fun (y_3 : (((List (Int × (Int × ((List Int) × Unit)))) × Unit) × (Unit × Unit))) =>
     (letR (List.length y_3.1.1) fun (v_4 : Nat) =>
     (Option.bind (c_outbox_Load (y_3.1.1, ())) (fun (y_5 : (((Option ((List (Int × (Int × ((List Int) × Unit)))) × (((List (List Int)) × Unit) × Unit))) × (Int × Unit)) × (Unit × Unit))) =>
      (optR y_5.1.1
       (brR (!(decide (y_5.1.2.1 = (0 : Int))))
        (some ((false, ()), ((), ((), ((), ())))))
        (some ((false, ()), ((), ((), ((), ()))))))
       (fun (y_6 : ((List (Int × (Int × ((List Int) × Unit)))) × (((List (List Int)) × Unit) × Unit))) =>
       (brR (!(decide (y_5.1.2.1 = (0 : Int))))
        (some ((false, ()), ((), ((), ((), ())))))
        (Option.bind (c_law0_Mod (n_, (((v_4 : Nat) : Int), ()))) (fun (y_7 : ((Int × Unit) × (Unit × (Unit × Unit)))) =>
         (letR (Go.IntKind.wrap (Go.IntKind.i64) ((1 : Int) + y_7.1.1)) fun (v_8 : Int) =>
         (Option.bind (c_law0_Mod (i_, (v_8, ()))) (fun (y_9 : ((Int × Unit) × (Unit × (Unit × Unit)))) =>
          (Option.bind (c_outbox_Outbox_Root ((some (y_6.1, ((y_6.2.1.1, y_6.2.1.2), y_6.2.2))), (v_8, ()))) (fun (y_10 : (((List Int) × (Bool × Unit)) × ((Option ((List (Int × (Int × ((List Int) × Unit)))) × (((List (List Int)) × Unit) × Unit))) × (Unit × Unit)))) =>
           (optR y_10.2.1
            none
            (fun (y_11 : ((List (Int × (Int × ((List Int) × Unit)))) × (((List (List Int)) × Unit) × Unit))) =>
            (Option.bind (c_outbox_Outbox_Proof ((some (y_11.1, ((y_11.2.1.1, y_11.2.1.2), y_11.2.2))), (y_9.1.1, (v_8, ())))) (fun (y_12 : (((List (List Int)) × (Bool × Unit)) × ((Option ((List (Int × (Int × ((List Int) × Unit)))) × (((List (List Int)) × Unit) × Unit))) × (Unit × (Unit × Unit))))) =>
             (optR y_12.2.1
              none
              (fun (y_13 : ((List (Int × (Int × ((List Int) × Unit)))) × (((List (List Int)) × Unit) × Unit))) =>
              (brR y_10.1.2.1
               (brR y_12.1.2.1
                (brR (Go.Pon.inR y_9.1.1 v_4)
                 (Option.bind (c_outbox_Leaf ((List.getD y_3.1.1 (Int.toNat y_9.1.1) ((0 : Int), ((0 : Int), ([(0 : Int), (0 : Int), (0 : Int), (0 : Int)], ())))), ())) (fun (y_14 : (((List Int) × Unit) × (Unit × Unit))) =>
                  (Option.bind (c_merkle_Verify (y_10.1.1, (v_8, (y_9.1.1, (y_14.1.1, (y_12.1.1, ())))))) (fun (y_15 : ((Bool × Unit) × (Unit × (Unit × (Unit × (Unit × (Unit × Unit))))))) =>
                   (brR y_15.1.1
                    (Option.bind (c_law24_awake ()) (fun (y_16 : ((Bool × Unit) × Unit)) =>
                     (some ((y_16.1.1, ()), ((), ((), ((), ())))))))
                    (some ((false, ()), ((), ((), ((), ()))))))))))
                 none)
                (some ((false, ()), ((), ((), ((), ()))))))
               (some ((false, ()), ((), ((), ((), ()))))))))))))))))))))))))))))))

noncomputable def sol_law24_OutboxProofs : F_law24_OutboxProofs := fun x => T_law24_OutboxProofs bigLoop sol_law24_awake sol_law24_ValidMessages sol_outbox_Load sol_law0_Mod sol_outbox_Outbox_Root sol_outbox_Outbox_Proof sol_outbox_Leaf sol_merkle_Verify x.1 x.2.1 x.2.2.1

end Go.Pon
/-
  Plain lemmas: branches, loops, numbers of a kind, lists.
-/
set_option autoImplicit false
set_option linter.unusedVariables false
namespace Go.Pon
open Go

/-! ### Branches -/

theorem brR_ite {α : Type} (c : Bool) (t e : Option α) : brR c t e = if c = true then t else e := by cases c <;> rfl
theorem brR_dec {α : Type} (p : Prop) [Decidable p] (t e : Option α) : brR (decide p) t e = if p then t else e := by
  rw [brR_ite]; by_cases h : p <;> simp [h]
theorem brR_not {α : Type} (c : Bool) (t e : Option α) : brR (!c) t e = brR c e t := by cases c <;> rfl
theorem brR_and {α : Type} (a b : Bool) (t e : Option α) : brR (a && b) t e = brR a (brR b t e) e := by cases a <;> rfl
theorem brR_or {α : Type} (a b : Bool) (t e : Option α) : brR (a || b) t e = brR a t (brR b t e) := by cases a <;> rfl
theorem brR_inR {α : Type} (i : Int) (n : Nat) (t e : Option α) : brR (inR i n) t e = if 0 ≤ i ∧ i < n then t else e := by
  unfold inR; rw [brR_and, brR_dec, brR_dec]; by_cases h1 : 0 ≤ i <;> by_cases h2 : i < n <;> simp [h1, h2]

theorem bind_some' {α β : Type} (a : α) (f : α → Option β) : Option.bind (some a) f = f a := rfl

/-- Room for so many elements. -/
theorem roomy_dec {n : Nat} {t : Ty} : roomy n t = decide (0 < t.size ∧ n * (24 * t.size) ≤ 140737488355328) := by
  unfold roomy
  by_cases h : 0 < t.size
  · simp [h]
  · simp [h]

theorem brR_roomy {α : Type} (n : Nat) (t : Ty) (a b : Option α) : brR (roomy n t) a b = if 0 < t.size ∧ n * (24 * t.size) ≤ 140737488355328 then a else b := by
  rw [roomy_dec, brR_dec]

/-! ### Loops -/

/-- A loop's result, by an invariant, a measure and a guess that each round keeps. -/
theorem bigLoop_rule {ω δ : Type} {round : (δ → Option ω) → δ → Option ω} (I : δ → Prop) (m : δ → Nat) (g : δ → Option ω)
    (h : ∀ x (again : δ → Option ω), I x → (∀ y, I y → m y < m x → again y = g y) → round again x = g x) {x : δ} (hx : I x) (hm : m x < bigN) : bigLoop ω δ round x = g x := by
  have key : ∀ n x, I x → m x < n → loopN round n x = g x := by
    intro n
    induction n with
    | zero => intro x _ hm; omega
    | succ n ih =>
      intro x hx hm
      rw [loopN_succ]
      exact h x _ hx fun y hy hlt => ih y hy (by omega)
  rw [bigLoop_def]
  exact key bigN x hx hm

theorem bigN_eq : bigN = 18446744073709551616 := rfl

/-- So many rounds, one by one. -/
theorem bigLoop_add {ω δ : Type} {round : (δ → Option ω) → δ → Option ω} (k : Nat) (hk : k ≤ bigN) (x : δ) : ∃ n, bigLoop ω δ round x = loopN round (n + k) x :=
  ⟨bigN - k, by rw [Nat.sub_add_cancel hk, bigLoop_def]⟩

/-! ### Numbers of a kind -/

theorem w_i64 {n : Int} (h1 : -9223372036854775808 ≤ n) (h2 : n ≤ 9223372036854775807) : IntKind.i64.wrap n = n := by rw [IntKind.wrap_i64]; omega
theorem w_u64 {n : Int} (h1 : 0 ≤ n) (h2 : n ≤ 18446744073709551615) : IntKind.u64.wrap n = n := by rw [IntKind.wrap_u64]; omega
theorem w_u32 {n : Int} (h1 : 0 ≤ n) (h2 : n ≤ 4294967295) : IntKind.u32.wrap n = n := by rw [IntKind.wrap_u32]; omega
theorem w_u16 {n : Int} (h1 : 0 ≤ n) (h2 : n ≤ 65535) : IntKind.u16.wrap n = n := by rw [IntKind.wrap_u16]; omega
theorem w_u8 {n : Int} (h1 : 0 ≤ n) (h2 : n ≤ 255) : IntKind.u8.wrap n = n := by rw [IntKind.wrap_u8]; omega

theorem tdiv_pos {a b : Int} (h : 0 ≤ a) : Int.tdiv a b = a / b := Int.tdiv_eq_ediv_of_nonneg h
theorem tmod_pos {a b : Int} (h : 0 ≤ a) : Int.tmod a b = a % b := Int.tmod_eq_emod_of_nonneg h

theorem inK_u64 {n : Int} : inK .u64 n ↔ 0 ≤ n ∧ n ≤ 18446744073709551615 := by simp [inK, IntKind.min, IntKind.max, IntKind.signed, IntKind.bits]
theorem inK_u8 {n : Int} : inK .u8 n ↔ 0 ≤ n ∧ n ≤ 255 := by simp [inK, IntKind.min, IntKind.max, IntKind.signed, IntKind.bits]
theorem inK_u16 {n : Int} : inK .u16 n ↔ 0 ≤ n ∧ n ≤ 65535 := by simp [inK, IntKind.min, IntKind.max, IntKind.signed, IntKind.bits]
theorem inK_u32 {n : Int} : inK .u32 n ↔ 0 ≤ n ∧ n ≤ 4294967295 := by simp [inK, IntKind.min, IntKind.max, IntKind.signed, IntKind.bits]
theorem inK_i64 {n : Int} : inK .i64 n ↔ -9223372036854775808 ≤ n ∧ n ≤ 9223372036854775807 := by simp [inK, IntKind.min, IntKind.max, IntKind.signed, IntKind.bits]

/-! ### Equality of data -/

theorem eqD_dec (t : Ty) (x y : t.den) [Decidable (x = y)] : eqD t x y = decide (x = y) := by
  rw [Bool.eq_iff_iff, eqD_iff]; simp

theorem brR_eqD {α : Type} (t : Ty) (x y : t.den) [Decidable (x = y)] (a b : Option α) : brR (eqD t x y) a b = if x = y then a else b := by rw [eqD_dec, brR_dec]

/-! ### Lists -/

theorem getD_mem {α : Type} {l : List α} {i : Nat} {d : α} (h : i < l.length) : List.getD l i d ∈ l := by
  rw [List.getD_eq_getElem?_getD, List.getElem?_eq_getElem h]; simp

theorem getD_all {p : Int → Prop} {l : List Int} (h : ∀ x ∈ l, p x) (h0 : p 0) (i : Nat) : p (List.getD l i 0) := by
  rcases Nat.lt_or_ge i l.length with hi | hi
  · exact h _ (getD_mem hi)
  · rw [List.getD_eq_getElem?_getD, List.getElem?_eq_none hi]; exact h0

theorem append_def {α : Type} (l m : List α) : List.append l m = l ++ m := rfl

end Go.Pon
/-
  Plain lemmas: numbers in four limbs, their bytes, their length in bits.
-/
set_option autoImplicit false
set_option linter.unusedVariables false
namespace Go.Pon
open Go

/-! ### The length in bits -/

def bitlen (n : Nat) : Nat := if n = 0 then 0 else Nat.log2 n + 1

theorem bitlen_zero : bitlen 0 = 0 := rfl

theorem lt_bitlen (n : Nat) : n < 2 ^ bitlen n := by
  unfold bitlen
  by_cases h : n = 0
  · subst h; simp
  · rw [if_neg h]; exact Nat.lt_log2_self

theorem bitlen_le {n b : Nat} : bitlen n ≤ b ↔ n < 2 ^ b := by
  unfold bitlen
  by_cases h : n = 0
  · subst h; simp [Nat.two_pow_pos]
  · rw [if_neg h, Nat.succ_le_iff, Nat.log2_lt h]

theorem bitlen_pos {n : Nat} : 0 < bitlen n ↔ n ≠ 0 := by
  unfold bitlen
  by_cases h : n = 0 <;> simp [h]

/-- The one length that fits. -/
theorem bitlen_eq {n b : Nat} (h1 : n < 2 ^ b) (h2 : ∀ c, c < b → 2 ^ c ≤ n) : bitlen n = b := by
  rcases Nat.lt_trichotomy (bitlen n) b with h | h | h
  · have := h2 _ h
    have := lt_bitlen n
    omega
  · exact h
  · have := bitlen_le.2 h1
    omega

theorem bitlen_div {n k : Nat} (h : 2 ^ k ≤ n) : bitlen n = k + bitlen (n / 2 ^ k) := by
  have hpos : 0 < 2 ^ k := Nat.two_pow_pos k
  have h1 : n / 2 ^ k ≠ 0 := by
    have : 1 ≤ n / 2 ^ k := (Nat.le_div_iff_mul_le hpos).2 (by omega)
    omega
  refine bitlen_eq ?_ fun c hc => ?_
  · have := lt_bitlen (n / 2 ^ k)
    rw [Nat.div_lt_iff_lt_mul hpos, ← Nat.pow_add] at this
    rwa [Nat.add_comm] at this
  · rcases Nat.lt_or_ge c k with hck | hck
    · exact Nat.le_trans (Nat.pow_le_pow_right (by omega) (by omega)) h
    · have h2 : ¬ (n / 2 ^ k) < 2 ^ (c - k) := fun hh => by
        have := bitlen_le.2 hh
        omega
      have h3 : 2 ^ (c - k) ≤ n / 2 ^ k := by omega
      rw [Nat.le_div_iff_mul_le hpos, ← Nat.pow_add] at h3
      rwa [Nat.sub_add_cancel hck] at h3

/-! ### Four limbs -/

def lim (n : Nat) : List Int := [((n % 18446744073709551616 : Nat) : Int), ((n / 18446744073709551616 % 18446744073709551616 : Nat) : Int), ((n / 340282366920938463463374607431768211456 % 18446744073709551616 : Nat) : Int), ((n / 6277101735386680763835789423207666416102355444464034512896 : Nat) : Int)]

/-- The number that four limbs hold. -/
def val4 (l : List Int) : Nat := (l.getD 0 0).toNat + (l.getD 1 0).toNat * 18446744073709551616 + (l.getD 2 0).toNat * 340282366920938463463374607431768211456 + (l.getD 3 0).toNat * 6277101735386680763835789423207666416102355444464034512896

theorem val4_lim {n : Nat} : val4 (lim n) = n := by
  simp only [val4, lim, List.getD_cons_zero, List.getD_cons_succ, Int.toNat_natCast]
  omega

theorem lim_inj {n m : Nat} : lim n = lim m ↔ n = m := ⟨fun h => by rw [← val4_lim (n := n), h, val4_lim], fun h => by rw [h]⟩

theorem len_lim {n : Nat} : (lim n).length = 4 := rfl

theorem list4 {α : Type} {l : List α} (h : l.length = 4) : ∃ a b c d, l = [a, b, c, d] := by
  match l, h with
  | [a, b, c, d], _ => exact ⟨a, b, c, d, rfl⟩

/-- Whatever four limbs hold is a number. -/
theorem u256_wf {l : List Int} (h : (Ty.arr 4 (.int .u64)).wf l) : ∃ n, n < 115792089237316195423570985008687907853269984665640564039457584007913129639936 ∧ l = lim n := by
  obtain ⟨h1, h2⟩ := h
  obtain ⟨a, b, c, d, rfl⟩ := list4 (α := Int) h1
  have ha := inK_u64.1 (h2 a (by simp))
  have hb := inK_u64.1 (h2 b (by simp))
  have hc := inK_u64.1 (h2 c (by simp))
  have hd := inK_u64.1 (h2 d (by simp))
  refine ⟨a.toNat + b.toNat * 18446744073709551616 + c.toNat * 340282366920938463463374607431768211456 + d.toNat * 6277101735386680763835789423207666416102355444464034512896, by omega, ?_⟩
  simp only [lim, List.cons.injEq, and_true]
  refine ⟨?_, ?_, ?_, ?_⟩ <;> omega

theorem lim_small {x : Int} (h1 : 0 ≤ x) (h2 : x ≤ 18446744073709551615) : ([x, 0, 0, 0] : List Int) = lim x.toNat := by
  simp only [lim, List.cons.injEq, and_true]
  refine ⟨?_, ?_, ?_, ?_⟩ <;> omega

theorem lim_zero : lim 0 = [0, 0, 0, 0] := rfl

/-- Limb i. -/
theorem lim_getD {n i : Nat} (hn : n < 115792089237316195423570985008687907853269984665640564039457584007913129639936) (hi : i < 4) : (lim n).getD i 0 = ((n / 18446744073709551616 ^ i % 18446744073709551616 : Nat) : Int) := by
  match i, hi with
  | 0, _ => simp [lim]
  | 1, _ => simp [lim]
  | 2, _ => simp [lim]
  | 3, _ =>
    simp only [lim, List.getD_cons_zero, List.getD_cons_succ]
    have : n / 6277101735386680763835789423207666416102355444464034512896 % 18446744073709551616 = n / 6277101735386680763835789423207666416102355444464034512896 := Nat.mod_eq_of_lt (by omega)
    rw [show (18446744073709551616 : Nat) ^ 3 = 6277101735386680763835789423207666416102355444464034512896 from rfl, this]

/-! ### Bytes -/

/-- k bytes, the greatest first. -/
def beB : Nat → Nat → List Int
  | 0, _ => []
  | k + 1, n => ((n / 256 ^ k % 256 : Nat) : Int) :: beB k n

theorem len_beB : ∀ {k n : Nat}, (beB k n).length = k
  | 0, _ => rfl
  | k + 1, n => by simp [beB, len_beB]

theorem beB_byte : ∀ {k n : Nat}, ∀ x ∈ beB k n, 0 ≤ x ∧ x ≤ 255
  | 0, _, x, h => by simp [beB] at h
  | k + 1, n, x, h => by
    rcases List.mem_cons.1 h with rfl | h
    · have := Nat.mod_lt (n / 256 ^ k) (show 0 < 256 by omega)
      omega
    · exact beB_byte x h

/-- How many bytes count. -/
def bylen (n : Nat) : Nat := (bitlen n + 7) / 8

theorem pow256 (k : Nat) : 256 ^ k = 2 ^ (8 * k) := by rw [show (256 : Nat) = 2 ^ 8 from rfl, ← Nat.pow_mul]

theorem bylen_le {n k : Nat} : bylen n ≤ k ↔ n < 256 ^ k := by
  rw [pow256, ← bitlen_le]; unfold bylen; omega

theorem bylen_256 {n : Nat} (h : n < 115792089237316195423570985008687907853269984665640564039457584007913129639936) : bylen n ≤ 32 := bylen_le.2 h
theorem bylen_64 {n : Nat} (h : n < 18446744073709551616) : bylen n ≤ 8 := bylen_le.2 h

theorem bylen_pos {n : Nat} : 0 < bylen n ↔ n ≠ 0 := by
  have := @bitlen_pos n
  unfold bylen; omega

theorem bylen_zero : bylen 0 = 0 := rfl

/-- The number of bytes. -/
def beV (l : List Int) : Nat := l.foldl (fun v x => v * 256 + x.toNat) 0

theorem beV_append (l : List Int) (x : Int) : beV (l ++ [x]) = beV l * 256 + x.toNat := by simp [beV]
theorem beV_nil : beV [] = 0 := rfl

theorem snoc_ind {α : Type} {motive : List α → Prop} (l : List α) (nil : motive []) (append : ∀ l x, motive l → motive (l ++ [x])) : motive l := by
  have : motive l.reverse.reverse := by
    induction l.reverse with
    | nil => exact nil
    | cons a m ih => rw [List.reverse_cons]; exact append _ _ ih
  simpa using this

theorem beV_lt (l : List Int) : (∀ x ∈ l, 0 ≤ x ∧ x ≤ 255) → beV l < 256 ^ l.length := by
  refine snoc_ind (motive := fun l => (∀ x ∈ l, 0 ≤ x ∧ x ≤ 255) → beV l < 256 ^ l.length) l ?_ ?_
  · intro _; simp [beV]
  · intro l x ih h
    have h1 := ih fun y hy => h y (by simp [hy])
    have h2 := h x (by simp)
    rw [beV_append, List.length_append, List.length_singleton, Nat.pow_succ]
    omega

/-! ### Setting a byte -/

theorem or_bits {x y : Nat} (hx : x < 18446744073709551616) (hy : y < 18446744073709551616) : (((BitVec.ofInt 64 ((x : Nat) : Int) ||| BitVec.ofInt 64 ((y : Nat) : Int)).toNat : Nat) : Int) = ((x ||| y : Nat) : Int) := by
  rw [BitVec.toNat_or, BitVec.ofInt_natCast, BitVec.ofInt_natCast, BitVec.toNat_ofNat, BitVec.toNat_ofNat, Nat.mod_eq_of_lt hx, Nat.mod_eq_of_lt hy]

theorem byte_bits {b i : Nat} (hb : b < 256) (hi : 8 ≤ i) : b.testBit i = false :=
  Nat.testBit_lt_two_pow (Nat.lt_of_lt_of_le hb (by rw [show (256 : Nat) = 2 ^ 8 from rfl]; exact Nat.pow_le_pow_right (by omega) hi))

theorem limb_or {a b j q : Nat} (hb : b < 256) :
    (a * 256 ^ (j + 1) + b * 256 ^ j) / 18446744073709551616 ^ q % 18446744073709551616 =
      (a * 256 ^ (j + 1) / 18446744073709551616 ^ q % 18446744073709551616) ||| (if q = j / 8 then b * 2 ^ (8 * (j % 8)) else 0) := by
  have h1 : a * 256 ^ (j + 1) + b * 256 ^ j = (a * 256 ^ (j + 1)) ||| (b <<< (8 * j)) := by
    rw [Nat.shiftLeft_eq, pow256, pow256, Nat.mul_comm a, Nat.mul_comm b, ← Nat.two_pow_add_eq_or_of_lt]
    rw [show 8 * (j + 1) = 8 * j + 8 by omega, Nat.pow_add, Nat.mul_comm (2 ^ (8 * j)) b, Nat.mul_comm (2 ^ (8 * j)) (2 ^ 8)]
    exact Nat.mul_lt_mul_of_pos_right hb (Nat.two_pow_pos _)
  rw [h1, show (18446744073709551616 : Nat) ^ q = 2 ^ (64 * q) by rw [show (18446744073709551616 : Nat) = 2 ^ 64 from rfl, ← Nat.pow_mul], show (18446744073709551616 : Nat) = 2 ^ 64 from rfl]
  generalize a * 256 ^ (j + 1) = m
  apply Nat.eq_of_testBit_eq
  intro t
  simp only [Nat.testBit_mod_two_pow, Nat.testBit_div_two_pow, Nat.testBit_or, Nat.testBit_shiftLeft]
  by_cases hq : q = j / 8
  · subst hq
    rw [if_pos rfl, ← Nat.shiftLeft_eq, Nat.testBit_shiftLeft]
    by_cases ht : t < 64
    · rw [show t + 64 * (j / 8) - 8 * j = t - 8 * (j % 8) by omega, show decide (t + 64 * (j / 8) ≥ 8 * j) = decide (t ≥ 8 * (j % 8)) by simp; omega]
      simp [ht]
    · rw [byte_bits hb (i := t - 8 * (j % 8)) (by omega)]; simp [ht]
  · rw [if_neg hq, Nat.zero_testBit, Bool.or_false]
    by_cases ht : t < 64
    · by_cases h : 8 * j ≤ t + 64 * q
      · rw [byte_bits hb (i := t + 64 * q - 8 * j) (by omega)]; simp [ht]
      · simp [ht, h]
    · simp [ht]

theorem limb_sum {a b j : Nat} (hb : b < 256) :
    (a * 256 ^ (j + 1) / 18446744073709551616 ^ (j / 8) % 18446744073709551616) ||| (b * 2 ^ (8 * (j % 8))) = a * 256 ^ (j + 1) / 18446744073709551616 ^ (j / 8) % 18446744073709551616 + b * 2 ^ (8 * (j % 8)) := by
  have h1 : a * 256 ^ (j + 1) / 18446744073709551616 ^ (j / 8) % 18446744073709551616 = 2 ^ (8 * (j % 8) + 8) * (a % 2 ^ (56 - 8 * (j % 8))) := by
    rw [show (18446744073709551616 : Nat) ^ (j / 8) = 2 ^ (64 * (j / 8)) by rw [show (18446744073709551616 : Nat) = 2 ^ 64 from rfl, ← Nat.pow_mul], pow256,
      show 8 * (j + 1) = (8 * (j % 8) + 8) + 64 * (j / 8) by omega, Nat.pow_add 2 _ (64 * (j / 8)), ← Nat.mul_assoc, Nat.mul_div_cancel _ (Nat.two_pow_pos _),
      show (18446744073709551616 : Nat) = 2 ^ (8 * (j % 8) + 8) * 2 ^ (56 - 8 * (j % 8)) by rw [← Nat.pow_add, show 8 * (j % 8) + 8 + (56 - 8 * (j % 8)) = 64 by omega], Nat.mul_comm a, Nat.mul_mod_mul_left]
  rw [h1, Nat.two_pow_add_eq_or_of_lt]
  rw [Nat.pow_add, Nat.mul_comm (2 ^ (8 * (j % 8)))]
  exact Nat.mul_lt_mul_of_pos_right hb (Nat.two_pow_pos _)

theorem lim_set {a b j : Nat} (hj : j < 32) (hb : b < 256) (h : a * 256 ^ (j + 1) + b * 256 ^ j < 115792089237316195423570985008687907853269984665640564039457584007913129639936) {y : Int}
    (hy : y = (((a * 256 ^ (j + 1) / 18446744073709551616 ^ (j / 8) % 18446744073709551616) ||| (b * 2 ^ (8 * (j % 8))) : Nat) : Int)) :
    (lim (a * 256 ^ (j + 1))).set (j / 8) y = lim (a * 256 ^ (j + 1) + b * 256 ^ j) := by
  apply List.ext_getElem
  · simp [len_lim]
  · intro q h1 h2
    have hq : q < 4 := h2
    have e : ∀ n, n < 115792089237316195423570985008687907853269984665640564039457584007913129639936 → (hh : q < (lim n).length) → (lim n)[q] = ((n / 18446744073709551616 ^ q % 18446744073709551616 : Nat) : Int) := fun n hn hh => by
      rw [← lim_getD hn hq, List.getD_eq_getElem?_getD, List.getElem?_eq_getElem hh]; rfl
    rw [e _ h, limb_or hb, List.getElem_set]
    by_cases hc : j / 8 = q
    · rw [if_pos hc, if_pos hc.symm, hy, hc]
    · rw [if_neg hc, if_neg (fun h => hc h.symm), e _ (by omega), Nat.or_zero]

end Go.Pon
/-
  What math/bits.Len64 and uint256.BitLen compute.
-/
set_option autoImplicit false
set_option linter.unusedVariables false
set_option linter.unusedSimpArgs false
set_option maxRecDepth 10000
namespace Go.Pon
open Go

def len8 : List Int := [0, 1, 2, 2, 3, 3, 3, 3, 4, 4, 4, 4, 4, 4, 4, 4, 5, 5, 5, 5, 5, 5, 5, 5, 5, 5, 5, 5, 5, 5, 5, 5, 6, 6, 6, 6, 6, 6, 6, 6, 6, 6, 6, 6, 6, 6, 6, 6, 6, 6, 6, 6, 6, 6, 6, 6, 6, 6, 6, 6, 6, 6, 6, 6, 7, 7, 7, 7, 7, 7, 7, 7, 7, 7, 7, 7, 7, 7, 7, 7, 7, 7, 7, 7, 7, 7, 7, 7, 7, 7, 7, 7, 7, 7, 7, 7, 7, 7, 7, 7, 7, 7, 7, 7, 7, 7, 7, 7, 7, 7, 7, 7, 7, 7, 7, 7, 7, 7, 7, 7, 7, 7, 7, 7, 7, 7, 7, 7, 8, 8, 8, 8, 8, 8, 8, 8, 8, 8, 8, 8, 8, 8, 8, 8, 8, 8, 8, 8, 8, 8, 8, 8, 8, 8, 8, 8, 8, 8, 8, 8, 8, 8, 8, 8, 8, 8, 8, 8, 8, 8, 8, 8, 8, 8, 8, 8, 8, 8, 8, 8, 8, 8, 8, 8, 8, 8, 8, 8, 8, 8, 8, 8, 8, 8, 8, 8, 8, 8, 8, 8, 8, 8, 8, 8, 8, 8, 8, 8, 8, 8, 8, 8, 8, 8, 8, 8, 8, 8, 8, 8, 8, 8, 8, 8, 8, 8, 8, 8, 8, 8, 8, 8, 8, 8, 8, 8, 8, 8, 8, 8, 8, 8, 8, 8, 8, 8, 8, 8, 8, 8, 8, 8, 8, 8, 8, 8]

theorem len8_at : ∀ i, i < 256 → len8.getD i 0 = ((bitlen i : Nat) : Int) := by decide

theorem len8_int {x : Int} (h1 : 0 ≤ x) (h2 : x < 256) : len8.getD x.toNat 0 = ((bitlen x.toNat : Nat) : Int) := len8_at _ (by omega)

theorem bitlen_small {n : Nat} (h : n < 256) : bitlen n ≤ 8 := bitlen_le.2 (by omega)

theorem len64_case {x : Int} (k : Nat) (q : Int) (hk : k ≤ 56) (h0 : 0 ≤ x) (h1 : ((2 ^ k : Nat) : Int) ≤ x ∨ k = 0) (hq : q = x / ((2 ^ k : Nat) : Int)) (h2 : q < 256) :
    brR (inR (IntKind.wrap .u8 q) 256) (some ((IntKind.wrap .i64 ((k : Int) + IntKind.wrap .i64 (List.getD len8 (Int.toNat (IntKind.wrap .u8 q)) 0)), ()), ((), ()))) (none : Option ((Int × Unit) × (Unit × Unit))) = some ((((bitlen x.toNat : Nat) : Int), ()), ((), ())) := by
  obtain ⟨n, rfl⟩ := Int.eq_ofNat_of_zero_le h0
  have hq0 : 0 ≤ q := by rw [hq]; exact Int.ediv_nonneg h0 (Int.natCast_nonneg _)
  have hqn : q.toNat = n / 2 ^ k := by rw [hq, ← Int.natCast_ediv, Int.toNat_natCast]
  rw [w_u8 hq0 (by omega), brR_inR, if_pos ⟨hq0, h2⟩, len8_int hq0 h2, hqn]
  have hs : bitlen (n / 2 ^ k) ≤ 8 := bitlen_small (by omega)
  rw [w_i64 (n := ((bitlen (n / 2 ^ k) : Nat) : Int)) (by omega) (by omega), w_i64 (by omega) (by omega), Int.toNat_natCast]
  have : bitlen n = k + bitlen (n / 2 ^ k) := by
    rcases h1 with h1 | rfl
    · exact bitlen_div (by omega)
    · simp
  rw [this]; simp

theorem fdiv_pos {a b : Int} (h : 0 ≤ b) : Int.fdiv a b = a / b := Int.fdiv_eq_ediv_of_nonneg _ h

theorem len64_eq {x : Int} (h0 : 0 ≤ x) (h1 : x ≤ 18446744073709551615) : sol_math_bits_Len64 (x, ()) = some ((((bitlen x.toNat : Nat) : Int), ()), ((), ())) := by
  unfold sol_math_bits_Len64 T_math_bits_Len64
  simp only [letR_eq, brR_dec, ge_iff_le, fdiv_pos (show (0 : Int) ≤ 4294967296 by omega), fdiv_pos (show (0 : Int) ≤ 65536 by omega), fdiv_pos (show (0 : Int) ≤ 256 by omega)]
  repeat' split
  · exact len64_case 56 _ (by omega) h0 (.inl (by omega)) (by omega) (by omega)
  · exact len64_case 48 _ (by omega) h0 (.inl (by omega)) (by omega) (by omega)
  · exact len64_case 40 _ (by omega) h0 (.inl (by omega)) (by omega) (by omega)
  · exact len64_case 32 _ (by omega) h0 (.inl (by omega)) (by omega) (by omega)
  · exact len64_case 24 _ (by omega) h0 (.inl (by omega)) (by omega) (by omega)
  · exact len64_case 16 _ (by omega) h0 (.inl (by omega)) (by omega) (by omega)
  · exact len64_case 8 _ (by omega) h0 (.inl (by omega)) (by omega) (by omega)
  · exact len64_case 0 _ (by omega) h0 (.inr rfl) (by omega) (by omega)

theorem bitlen_256 {n : Nat} (h : n < 115792089237316195423570985008687907853269984665640564039457584007913129639936) : bitlen n ≤ 256 := bitlen_le.2 h

theorem pow64 (k : Nat) : 18446744073709551616 ^ k = 2 ^ (64 * k) := by rw [show (18446744073709551616 : Nat) = 2 ^ 64 from rfl, ← Nat.pow_mul]

theorem bitLen_eq {n : Nat} (hn : n < 115792089237316195423570985008687907853269984665640564039457584007913129639936) : sol_uint256_BitLen (lim n, ()) = some ((((bitlen n : Nat) : Int), ()), ((), ())) := by
  unfold sol_uint256_BitLen T_uint256_BitLen
  refine bigLoop_rule (I := fun x => x.1 = lim n ∧ -1 ≤ x.2.1 ∧ x.2.1 ≤ 3 ∧ n < 18446744073709551616 ^ (x.2.1 + 1).toNat) (m := fun x => (x.2.1 + 1).toNat) (g := fun _ => some ((((bitlen n : Nat) : Int), ()), ((), ()))) ?_ ⟨rfl, by simp only; omega, by simp only; omega, hn⟩ (by simp only [bigN_eq]; omega)
  rintro ⟨a, i, _⟩ again ⟨h1, h2, h3, h4⟩ hag
  simp only at h1 h2 h3 h4 hag ⊢
  subst h1
  simp only [T_uint256_BitLen_loop0, brR_dec, brR_not, brR_inR, ge_iff_le]
  by_cases hi : 0 ≤ i
  · obtain ⟨j, rfl⟩ := Int.eq_ofNat_of_zero_le hi
    have e1 : ((j : Int) + 1).toNat = j + 1 := by omega
    rw [e1] at h4
    rw [if_pos hi, if_pos ⟨hi, by omega⟩, Int.toNat_natCast, lim_getD hn (by omega)]
    have hp : 0 < 18446744073709551616 ^ j := Nat.pow_pos (by omega)
    have hlt : n / 18446744073709551616 ^ j < 18446744073709551616 := by
      rw [Nat.div_lt_iff_lt_mul hp, Nat.mul_comm, ← Nat.pow_succ]; exact h4
    rw [Nat.mod_eq_of_lt hlt]
    by_cases hz : n / 18446744073709551616 ^ j = 0
    · rw [if_pos (by omega), w_i64 (by omega) (by omega)]
      refine hag _ ⟨rfl, by simp only; omega, by simp only; omega, ?_⟩ (by simp only; omega)
      simp only
      rw [show ((j : Int) - 1 + 1).toNat = j by omega]
      exact (Nat.div_eq_zero_iff.1 hz).resolve_left (by omega)
    · have hge : 2 ^ (64 * j) ≤ n := by
        rw [← pow64]
        rcases Nat.lt_or_ge n (18446744073709551616 ^ j) with h | h
        · exact absurd (Nat.div_eq_of_lt h) hz
        · exact h
      have hb := bitlen_div hge
      have := bitlen_256 hn
      rw [← pow64] at hb
      generalize n / 18446744073709551616 ^ j = q at *
      rw [if_neg (by omega), if_pos ⟨hi, by omega⟩, len64_eq (by omega) (by omega)]
      simp only [bind_some']
      rw [Int.toNat_natCast, w_i64 (n := 64 * (j : Int)) (by omega) (by omega), w_i64 (by omega) (by omega), hb]
      simp
  · have hz : i = -1 := by omega
    subst hz
    have : n = 0 := by simpa using h4
    subst this
    simp [bitlen_zero]

theorem fromUint64_eq {x : Int} (h0 : 0 ≤ x) (h1 : x ≤ 18446744073709551615) : sol_uint256_FromUint64 (x, ()) = some ((lim x.toNat, ()), ((), ())) := by
  unfold sol_uint256_FromUint64 T_uint256_FromUint64
  rw [lim_small h0 h1]

end Go.Pon
/-
  What slices.Concat, slices.Grow and slices.Clone of bytes compute.
-/
set_option autoImplicit false
set_option linter.unusedVariables false
set_option linter.unusedSimpArgs false
namespace Go.Pon
open Go

theorem u8_size : (Ty.int IntKind.u8).size = 1 := rfl

theorem brR_room8 {α : Type} {n : Nat} (h : n ≤ 1099511627776) (a b : Option α) : brR (roomy n (.int .u8)) a b = a := by
  rw [brR_roomy, u8_size, if_pos ⟨by omega, by omega⟩]

theorem grow_eq {n : Int} (h0 : 0 ≤ n) (h1 : n ≤ 1099511627776) : sol_slices_Grow_byte_byte ((), (n, ())) = some (([], ()), ((), ((), ()))) := by
  unfold sol_slices_Grow_byte_byte T_slices_Grow_byte_byte
  simp only [letR_eq, brR_dec, brR_and, Int.sub_zero]
  rw [if_neg (by omega), w_i64 (n := n) (by omega) (by omega)]
  split
  · rw [brR_room8 (by omega), brR_true, if_pos (by omega)]; rfl
  · rfl

theorem take_succ_flatten {ls : List (List Int)} {i : Nat} (h : i < ls.length) : (ls.take (i + 1)).flatten = (ls.take i).flatten ++ ls.getD i [] := by
  rw [List.take_succ_eq_append_getElem h, List.flatten_append, List.getD_eq_getElem?_getD, List.getElem?_eq_getElem h]; simp

theorem take_flatten_le (ls : List (List Int)) (i : Nat) : (ls.take i).flatten.length ≤ ls.flatten.length := by
  have : (ls.take i ++ ls.drop i).flatten = ls.flatten := by rw [List.take_append_drop]
  rw [← this, List.flatten_append, List.length_append]; omega

theorem concat_loop {ls : List (List Int)} (h : ls.flatten.length ≤ 1099511627776) (hn : ls.length ≤ 1099511627776) :
    bigLoop _ _ (fun again x => T_slices_Concat_byte_byte_loop1 again x.1 x.2.1 x.2.2.1 x.2.2.2.1) (([] : List Int), (ls, (((ls.length : Nat) : Int), ((0 : Int), ())))) = some ((ls.flatten, ()), ((), ())) := by
  refine bigLoop_rule (I := fun x => x.2.1 = ls ∧ x.2.2.1 = ((ls.length : Nat) : Int) ∧ (0 : Int) ≤ x.2.2.2.1 ∧ x.2.2.2.1 ≤ ((ls.length : Nat) : Int) ∧ x.1 = (ls.take x.2.2.2.1.toNat).flatten) (m := fun x => ((ls.length : Int) - x.2.2.2.1).toNat) (g := fun _ => some ((ls.flatten, ()), ((), ()))) ?_ ⟨rfl, rfl, by simp only; omega, by simp only; omega, rfl⟩ (by simp only [bigN_eq]; omega)
  rintro ⟨new, l, n, i, _⟩ again ⟨h1, h2, h3, h4, h5⟩ hag
  simp only at h1 h2 h3 h4 h5 hag ⊢
  subst h1 h2 h5
  obtain ⟨j, rfl⟩ := Int.eq_ofNat_of_zero_le h3
  simp only [T_slices_Concat_byte_byte_loop1, brR_dec, brR_inR, Int.toNat_natCast, append_def]
  by_cases hi : j < l.length
  · have e := take_succ_flatten hi
    have hle := take_flatten_le l (j + 1)
    rw [e] at hle
    rw [if_pos (by omega), if_pos ⟨h3, by omega⟩, brR_room8 (by rw [← List.length_append]; omega), ← e, w_i64 (by omega) (by omega)]
    exact hag _ ⟨rfl, rfl, by simp only; omega, by simp only; omega, rfl⟩ (by simp only; omega)
  · rw [if_neg (by omega), List.take_of_length_le (by omega)]

theorem concat_eq {ls : List (List Int)} (h : ls.flatten.length ≤ 1099511627776) (hn : ls.length ≤ 1099511627776) : sol_slices_Concat_byte_byte (ls, ()) = some ((ls.flatten, ()), ((), ())) := by
  unfold sol_slices_Concat_byte_byte T_slices_Concat_byte_byte
  refine bigLoop_rule (I := fun x => x.1 = ls ∧ x.2.2.1 = ls ∧ x.2.2.2.1 = ((ls.length : Nat) : Int) ∧ (0 : Int) ≤ x.2.2.2.2.1 ∧ x.2.2.2.2.1 ≤ ((ls.length : Nat) : Int) ∧ x.2.1 = (((ls.take x.2.2.2.2.1.toNat).flatten.length : Nat) : Int)) (m := fun x => ((ls.length : Int) - x.2.2.2.2.1).toNat) (g := fun _ => some ((ls.flatten, ()), ((), ()))) ?_
    ⟨rfl, rfl, rfl, by simp only; omega, by simp only; omega, rfl⟩ (by simp only [bigN_eq]; omega)
  rintro ⟨l, size, l', n, i, _⟩ again ⟨h1, h2, h3, h4, h5, h6⟩ hag
  simp only at h1 h2 h3 h4 h5 h6 hag ⊢
  subst h2 h1 h3 h6
  obtain ⟨j, rfl⟩ := Int.eq_ofNat_of_zero_le h4
  simp only [T_slices_Concat_byte_byte_loop0, letR_eq, brR_dec, brR_inR, Int.toNat_natCast]
  by_cases hi : j < l.length
  · have e := take_succ_flatten hi
    have hle := take_flatten_le l (j + 1)
    rw [e, List.length_append] at hle
    rw [if_pos (by omega), if_pos ⟨h4, by omega⟩, w_i64 (by omega) (by omega), if_neg (by omega), w_i64 (by omega) (by omega)]
    refine hag _ ⟨rfl, rfl, rfl, by simp only; omega, by simp only; omega, ?_⟩ (by simp only; omega)
    simp only
    rw [show ((j : Int) + 1).toNat = j + 1 by omega, e, List.length_append]; omega
  · have hle := take_flatten_le l j
    rw [if_neg (by omega), grow_eq (by omega) (by omega)]
    simp only [bind_some']
    exact concat_loop h hn

theorem clone_eq {l : List Int} (h : l.length ≤ 1099511627776) : sol_slices_Clone_byte_byte (l, ()) = some ((l, ()), ((), ())) := by
  unfold sol_slices_Clone_byte_byte T_slices_Clone_byte_byte
  simp only
  rw [brR_room8 (by omega), brR_dec]
  split
  · rename_i h0
    have : l = [] := List.length_eq_zero_iff.1 h0
    subst this
    exact bothR_eq rfl rfl
  · rfl

end Go.Pon
/-
  What package wire computes.
-/
set_option autoImplicit false
set_option linter.unusedVariables false
set_option linter.unusedSimpArgs false
namespace Go.Pon
open Go

theorem limb_byte (n j : Nat) : (n / 18446744073709551616 ^ (j / 8) % 18446744073709551616) / 2 ^ (8 * (j % 8)) % 256 = n / 256 ^ j % 256 := by
  rw [pow64, pow256, show (18446744073709551616 : Nat) = 2 ^ 64 from rfl, show (256 : Nat) = 2 ^ 8 from rfl]
  apply Nat.eq_of_testBit_eq
  intro k
  simp only [Nat.testBit_mod_two_pow, Nat.testBit_div_two_pow]
  by_cases hk : k < 8
  · rw [show decide (k + 8 * (j % 8) < 64) = true by simp; omega, show k + 8 * (j % 8) + 64 * (j / 8) = k + 8 * j by omega]; simp
  · simp [hk]

/-- Byte j of a number, as both programs take it out of its limbs. -/
theorem byte_out {n j : Nat} (hn : n < 115792089237316195423570985008687907853269984665640564039457584007913129639936) (hj : j < 32) :
    IntKind.wrap .u8 (Int.fdiv ((lim n).getD (j / 8) 0) ((2 : Int) ^ (min (8 * (j % 8)) 64))) = ((n / 256 ^ j % 256 : Nat) : Int) := by
  rw [lim_getD hn (by omega), Nat.min_eq_left (by omega), IntKind.wrap_u8, Int.fdiv_eq_ediv_of_nonneg _ (Int.pow_nonneg (by omega)), ← limb_byte n j]
  rfl

theorem encode_loop {n : Nat} (hn : n < 115792089237316195423570985008687907853269984665640564039457584007913129639936) {k : Nat} (hk : k ≤ 32) {out : List Int} (ho : out.length ≤ 100) :
    bigLoop _ _ (fun again x => T_wire_encode_loop0 again x.1 x.2.1 x.2.2.1) (lim n, (out, (((k : Nat) : Int) - 1, ()))) = some ((out ++ beB k n, ()), ((), ())) := by
  refine Eq.trans (bigLoop_rule (I := fun x => x.1 = lim n ∧ (-1 : Int) ≤ x.2.2.1 ∧ x.2.2.1 ≤ (31 : Int) ∧ (x.2.1.length : Int) + x.2.2.1 ≤ (131 : Int)) (m := fun x => (x.2.2.1 + 1).toNat) (g := fun x => some ((x.2.1 ++ beB (x.2.2.1 + 1).toNat n, ()), ((), ()))) ?_
    ⟨rfl, by simp only; omega, by simp only; omega, by simp only; omega⟩ (by simp only [bigN_eq]; omega)) ?_
  · rintro ⟨l, o, i, _⟩ again ⟨h1, h2, h3, h4⟩ hag
    simp only at h1 h2 h3 h4 hag ⊢
    subst h1
    simp only [T_wire_encode_loop0, letR_eq, brR_dec, brR_inR, ge_iff_le, append_def]
    by_cases hi : 0 ≤ i
    · obtain ⟨j, rfl⟩ := Int.eq_ofNat_of_zero_le hi
      rw [if_pos hi, tdiv_pos hi, tmod_pos hi, w_i64 (n := (j : Int) / 8) (by omega) (by omega), w_i64 (n := 8 * ((j : Int) % 8)) (by omega) (by omega), if_pos (by omega), if_pos (by omega), brR_room8 (by omega), w_i64 (by omega) (by omega)]
      rw [show ((j : Int) / 8).toNat = j / 8 by omega, show (8 * ((j : Int) % 8)).toNat = 8 * (j % 8) by omega, byte_out hn (by omega)]
      rw [hag _ ⟨rfl, by simp only; omega, by simp only; omega, by simp only [List.length_append, List.length_singleton]; omega⟩ (by simp only; omega)]
      simp only
      rw [show ((j : Int) - 1 + 1).toNat = j by omega, show ((j : Int) + 1).toNat = j + 1 by omega, beB]; simp
    · have : i = -1 := by omega
      subst this
      simp [beB]
  · simp only
    rw [show ((k : Int) - 1 + 1).toNat = k by omega]

/-- A number's encoding. -/
def enc (n : Nat) : List Int := ((bylen n : Nat) : Int) :: beB (bylen n) n

theorem len_enc {n : Nat} : (enc n).length = 1 + bylen n := by simp [enc, len_beB]; omega

theorem encode_eq {n : Nat} (hn : n < 115792089237316195423570985008687907853269984665640564039457584007913129639936) : sol_wire_encode (lim n, ()) = some ((enc n, ()), ((), ())) := by
  unfold sol_wire_encode T_wire_encode
  have h1 := bitlen_256 hn
  have h2 := bylen_256 hn
  have h3 : ((bitlen n : Nat) : Int) + 7 = ((bitlen n + 7 : Nat) : Int) := by omega
  rw [bitLen_eq hn]
  simp only [bind_some', letR_eq]
  rw [w_i64 (n := ((bitlen n : Nat) : Int) + 7) (by omega) (by omega), tdiv_pos (by omega), w_i64 (n := (((bitlen n : Nat) : Int) + 7) / 8) (by omega) (by omega), w_i64 (by omega) (by omega), w_u8 (by omega) (by omega)]
  rw [show (((bitlen n : Nat) : Int) + 7) / 8 = ((bylen n : Nat) : Int) by unfold bylen; omega]
  exact encode_loop hn h2 (by simp)

theorem appendUint256_eq {b : List Int} (hb : b.length ≤ 1000000000) {n : Nat} (hn : n < 115792089237316195423570985008687907853269984665640564039457584007913129639936) :
    sol_wire_AppendUint256 (b, (lim n, ())) = some ((b ++ enc n, ()), ((), ((), ()))) := by
  unfold sol_wire_AppendUint256 T_wire_AppendUint256
  have h2 := bylen_256 hn
  rw [encode_eq hn]
  simp only [bind_some']
  rw [concat_eq (by simp [len_enc]; omega) (by simp)]
  simp [bind_some']

theorem appendUint64_eq {b : List Int} (hb : b.length ≤ 1000000000) {n : Int} (h0 : 0 ≤ n) (h1 : n ≤ 18446744073709551615) :
    sol_wire_AppendUint64 (b, (n, ())) = some ((b ++ enc n.toNat, ()), ((), ((), ()))) := by
  unfold sol_wire_AppendUint64 T_wire_AppendUint64
  rw [fromUint64_eq h0 h1]
  simp only [bind_some']
  rw [appendUint256_eq hb (by omega)]
  simp [bind_some']

theorem appendBytes_eq {b x : List Int} (hb : b.length ≤ 1000000000) (hx : x.length ≤ 1000000000) :
    sol_wire_AppendBytes (b, (x, ())) = some ((b ++ (enc x.length ++ x), ()), ((), ((), ()))) := by
  unfold sol_wire_AppendBytes T_wire_AppendBytes
  have h2 := @bylen_64 x.length (by omega)
  simp only [letR_eq]
  rw [w_u64 (by omega) (by omega), fromUint64_eq (by omega) (by omega)]
  simp only [bind_some', Int.toNat_natCast]
  rw [encode_eq (by omega)]
  simp only [bind_some']
  rw [concat_eq (by simp [len_enc]; omega) (by simp)]
  simp [bind_some']

/-! ### Reading -/

def Bytes (b : List Int) : Prop := ∀ x ∈ b, 0 ≤ x ∧ x ≤ 255

theorem Bytes.drop {b : List Int} (h : Bytes b) (i : Nat) : Bytes (b.drop i) := fun x hx => h x (List.mem_of_mem_drop hx)
theorem Bytes.take {b : List Int} (h : Bytes b) (i : Nat) : Bytes (b.take i) := fun x hx => h x (List.mem_of_mem_take hx)
theorem Bytes.at {b : List Int} (h : Bytes b) (i : Nat) : 0 ≤ b.getD i 0 ∧ b.getD i 0 ≤ 255 := getD_all (p := fun x => 0 ≤ x ∧ x ≤ 255) h (by omega) i
theorem Bytes.append {a b : List Int} (ha : Bytes a) (hb : Bytes b) : Bytes (a ++ b) := fun x hx => by
  rcases List.mem_append.1 hx with h | h
  · exact ha x h
  · exact hb x h
theorem bytes_beB {k n : Nat} : Bytes (beB k n) := fun x hx => beB_byte x hx

theorem beV_take_succ {r : List Int} {i : Nat} (h : i < r.length) : beV (r.take (i + 1)) = beV (r.take i) * 256 + (r.getD i 0).toNat := by
  rw [List.take_succ_eq_append_getElem h, beV_append, List.getD_eq_getElem?_getD, List.getElem?_eq_getElem h]; rfl

theorem beV_take_lt {r : List Int} (hr : Bytes r) {i : Nat} (h : i ≤ r.length) : beV (r.take i) < 256 ^ i := by
  have := beV_lt (r.take i) (hr.take i)
  rwa [List.length_take, Nat.min_eq_left h] at this

theorem readUint_loop {r : List Int} (hr : Bytes r) {k : Nat} (hk : k ≤ 32) (hkr : k ≤ r.length) {at_ : Int} (h0 : 0 ≤ at_) (h1 : at_ ≤ 1099511627776) (t6 : List Int) :
    bigLoop _ _ (fun again x => T_wire_readUint_loop0 again x.1 x.2.1 x.2.2.1 x.2.2.2.1 x.2.2.2.2.1 x.2.2.2.2.2.1 x.2.2.2.2.2.2.1) (at_, (t6, (r, (((k : Nat) : Int), (lim 0, (((k : Nat) : Int), ((0 : Int), ()))))))) =
      some ((lim (beV (r.take k)), (at_ + 1 + k, ((0 : Int), ()))), ((), ((), ((), ())))) := by
  refine bigLoop_rule (I := fun x => x.1 = at_ ∧ x.2.2.1 = r ∧ x.2.2.2.1 = ((k : Nat) : Int) ∧ x.2.2.2.2.2.1 = ((k : Nat) : Int) ∧ (0 : Int) ≤ x.2.2.2.2.2.2.1 ∧ x.2.2.2.2.2.2.1 ≤ ((k : Nat) : Int) ∧ x.2.2.2.2.1 = lim (beV (r.take x.2.2.2.2.2.2.1.toNat) * 256 ^ (k - x.2.2.2.2.2.2.1.toNat)))
    (m := fun x => (((k : Nat) : Int) - x.2.2.2.2.2.2.1).toNat) (g := fun _ => some ((lim (beV (r.take k)), (at_ + 1 + k, ((0 : Int), ()))), ((), ((), ((), ()))))) ?_
    ⟨rfl, rfl, rfl, rfl, by simp only; omega, by simp only; omega, by simp [beV_nil]⟩ (by simp only [bigN_eq]; omega)
  rintro ⟨a, t, r', k', l, k2, i, _⟩ again ⟨e1, e2, e3, e4, e5, e6, e7⟩ hag
  simp only at e1 e2 e3 e4 e5 e6 e7 hag ⊢
  subst e1 e2 e3 e4 e7
  obtain ⟨i, rfl⟩ := Int.eq_ofNat_of_zero_le e5
  simp only [T_wire_readUint_loop0, letR_eq, brR_dec, brR_inR, Int.toNat_natCast]
  by_cases hi : i < k
  · obtain ⟨j, hj⟩ : ∃ j, k = i + 1 + j := ⟨k - i - 1, by omega⟩
    have e : ((k : Nat) : Int) - 1 - i = (j : Int) := by omega
    have hb := hr.at i
    have hA := beV_take_lt hr (i := i + 1) (by omega)
    have hs := beV_take_succ (r := r') (i := i) (by omega)
    rw [hs] at hA
    rw [if_pos (by omega), w_i64 (n := ((k : Nat) : Int) - 1) (by omega) (by omega), e, w_i64 (n := (j : Int)) (by omega) (by omega), tdiv_pos (by omega), tmod_pos (by omega), w_i64 (n := (j : Int) / 8) (by omega) (by omega),
      w_i64 (n := 8 * ((j : Int) % 8)) (by omega) (by omega), if_pos (by omega), if_pos (by omega), if_pos (by omega), if_pos (by omega), w_i64 (by omega) (by omega)]
    rw [show ((j : Int) / 8).toNat = j / 8 by omega, show (8 * ((j : Int) % 8)).toNat = 8 * (j % 8) by omega, show k - i = j + 1 by omega, w_u64 (n := r'.getD i 0) (by omega) (by omega)]
    obtain ⟨c, hc⟩ := Int.eq_ofNat_of_zero_le hb.1
    rw [hc] at hb hs hA ⊢
    rw [Int.toNat_natCast] at hs hA
    generalize hv : beV (r'.take i) = v at *
    have hp : 0 < 256 ^ j := Nat.pow_pos (by omega)
    have h3 : (v * 256 + c) * 256 ^ j < 256 ^ (i + 1) * 256 ^ j := Nat.mul_lt_mul_of_pos_right hA hp
    rw [← Nat.pow_add] at h3
    have h4 : (256 : Nat) ^ (i + 1 + j) ≤ 256 ^ 32 := Nat.pow_le_pow_right (by omega) (by omega)
    have h5 : v * 256 ^ (j + 1) + c * 256 ^ j = (v * 256 + c) * 256 ^ j := by rw [Nat.add_mul, Nat.pow_succ, Nat.mul_assoc v, Nat.mul_comm 256]
    have h6 : v * 256 ^ (j + 1) + c * 256 ^ j < 115792089237316195423570985008687907853269984665640564039457584007913129639936 := by
      rw [h5]; exact Nat.lt_of_lt_of_le h3 h4
    rw [lim_getD (by omega) (by omega), Nat.min_eq_left (by omega)]
    have h7 : (2 : Nat) ^ (8 * (j % 8)) ≤ 72057594037927936 := Nat.pow_le_pow_right (n := 2) (j := 56) (by omega) (by omega)
    have h8 : ((c : Nat) : Int) * 2 ^ (8 * (j % 8)) = ((c * 2 ^ (8 * (j % 8)) : Nat) : Int) := by rw [Int.natCast_mul, Int.natCast_pow]; rfl
    have h9 : c * 2 ^ (8 * (j % 8)) ≤ 255 * 72057594037927936 := Nat.mul_le_mul (by omega) h7
    have h10 : v * 256 ^ (j + 1) / 18446744073709551616 ^ (j / 8) % 18446744073709551616 < 18446744073709551616 := Nat.mod_lt _ (by omega)
    have h11 : v * 256 ^ (j + 1) / 18446744073709551616 ^ (j / 8) % 18446744073709551616 ||| c * 2 ^ (8 * (j % 8)) < 18446744073709551616 := Nat.or_lt_two_pow (n := 64) h10 (by omega)
    rw [h8, w_u64 (n := ((c * 2 ^ (8 * (j % 8)) : Nat) : Int)) (by omega) (by omega), or_bits h10 (by omega), w_u64 (by omega) (by omega), lim_set (by omega) (by omega) h6 rfl, h5]
    refine hag _ ⟨rfl, rfl, rfl, rfl, by simp only; omega, by simp only; omega, ?_⟩ (by simp only; omega)
    simp only
    rw [show ((i : Int) + 1).toNat = i + 1 by omega, hs, show k - (i + 1) = j by omega]
  · have : i = k := by omega
    subst this
    rw [if_neg (by omega), Nat.sub_self, Nat.pow_zero, Nat.mul_one, w_i64 (n := a + 1) (by omega) (by omega), w_i64 (by omega) (by omega)]

/-- A number of at most so many bytes at an offset, and the offset behind it. -/
def rdU (b : List Int) (i : Nat) (most : Nat) : Option (Nat × Nat) :=
  match b.drop i with
  | [] => none
  | k :: r => if most < k.toNat ∨ r.length < k.toNat ∨ (0 < k.toNat ∧ r.getD 0 0 = 0) then none else some (beV (r.take k.toNat), i + 1 + k.toNat)

/-- What a reader gives. -/
def readR (b : List Int) (at_ : Int) (most : Nat) : List Int × (Int × (Int × Unit)) :=
  if at_ < 0 ∨ b.length < at_ then (lim 0, (0, (2, ()))) else
    match rdU b at_.toNat most with
    | none => (lim 0, (0, (3, ())))
    | some (v, j) => (lim v, (j, (0, ())))

theorem readUint_eq {b : List Int} (hb : Bytes b) (hl : b.length ≤ 1000000000) {at_ : Int} (h1 : -9223372036854775808 ≤ at_) (h2 : at_ ≤ 9223372036854775807) {most : Nat} (hm : most ≤ 32) :
    sol_wire_readUint (b, (at_, (((most : Nat) : Int), ()))) = some (readR b at_ most, ((), ((), ((), ())))) := by
  unfold sol_wire_readUint T_wire_readUint readR
  simp only [letR_eq, brR_dec, brR_and]
  by_cases c1 : at_ < 0
  · rw [if_pos c1, if_pos (.inl c1)]; rfl
  rw [if_neg c1]
  by_cases c2 : b.length < at_
  · rw [if_pos (by omega), if_pos (.inr c2)]; rfl
  rw [if_neg (show ¬ at_ > (b.length : Int) by omega), if_neg (show ¬ (at_ < 0 ∨ (b.length : Int) < at_) by omega), if_pos (by omega), if_pos (by omega)]
  obtain ⟨i, rfl⟩ := Int.eq_ofNat_of_zero_le (show 0 ≤ at_ by omega)
  have hd := hb.drop i
  have hlen : (b.drop i).length = b.length - i := List.length_drop
  rw [Int.toNat_natCast, List.take_of_length_le (by omega)]
  unfold rdU
  generalize b.drop i = rest at *
  cases rest with
  | nil => rw [if_pos (by simp)]; rfl
  | cons k r =>
    have hk := hd k (by simp)
    have hr : Bytes r := fun x hx => hd x (by simp [hx])
    obtain ⟨k, rfl⟩ := Int.eq_ofNat_of_zero_le hk.1
    simp only [List.length_cons] at hlen
    rw [if_neg (by simp; omega), brR_inR, if_pos ⟨by omega, by simp⟩, if_pos (by simp; omega)]
    simp only [List.getD_cons_zero, List.drop_succ_cons, List.drop_zero, List.length_cons, Nat.add_sub_cancel, List.take_length]
    rw [w_i64 (by omega) (by omega)]
    by_cases c3 : most < k
    · rw [if_pos (by omega), if_pos (by omega)]; rfl
    rw [if_neg (by omega)]
    by_cases c4 : r.length < k
    · rw [if_pos (by omega), if_pos (by omega)]; rfl
    rw [if_neg (by omega)]
    have loop := readUint_loop hr (k := k) (by omega) (by omega) (at_ := (i : Int)) (by omega) (by omega)
    by_cases c5 : 0 < k
    · rw [if_pos (by omega), brR_inR, if_pos (by omega)]
      by_cases c6 : r.getD 0 0 = 0
      · rw [if_pos c6, if_pos (by simp only [Int.toNat_natCast]; omega)]; rfl
      · rw [if_neg c6, if_neg (by simp only [Int.toNat_natCast]; omega)]
        refine (loop _).trans ?_
        simp only [Int.toNat_natCast]
        rw [show ((i + 1 + k : Nat) : Int) = (i : Int) + 1 + k by omega]
    · rw [if_neg (by omega), if_neg (by simp only [Int.toNat_natCast]; omega)]
      refine (loop _).trans ?_
      simp only [Int.toNat_natCast]
      rw [show ((i + 1 + k : Nat) : Int) = (i : Int) + 1 + k by omega]

theorem readUint256_eq {b : List Int} (hb : Bytes b) (hl : b.length ≤ 1000000000) {at_ : Int} (h1 : -9223372036854775808 ≤ at_) (h2 : at_ ≤ 9223372036854775807) :
    sol_wire_ReadUint256 (b, (at_, ())) = some (readR b at_ 32, ((), ((), ()))) := by
  unfold sol_wire_ReadUint256 T_wire_ReadUint256
  rw [show ((32 : Int)) = ((32 : Nat) : Int) from rfl, readUint_eq hb hl h1 h2 (by omega)]
  simp only [bind_some']

theorem readR_bounds {b : List Int} (hb : Bytes b) (at_ : Int) {most : Nat} (hm : most ≤ 32) : ∃ v, v < 256 ^ most ∧ (readR b at_ most).1 = lim v ∧ 0 ≤ (readR b at_ most).2.1 ∧ (readR b at_ most).2.1 ≤ b.length ∧
    ((readR b at_ most).2.2.1 = 0 ∨ (readR b at_ most).2.2.1 = 2 ∨ (readR b at_ most).2.2.1 = 3) := by
  unfold readR
  have h0 : 0 < 256 ^ most := Nat.pow_pos (by omega)
  split
  · exact ⟨0, h0, rfl, by simp, by simp only; omega, by simp⟩
  · split
    · exact ⟨0, h0, rfl, by simp, by simp only; omega, by simp⟩
    · rename_i hc _ v j hv
      unfold rdU at hv
      split at hv
      · cases hv
      · rename_i k r hr
        split at hv
        · cases hv
        · rename_i hk
          cases hv
          have hl := congrArg List.length hr
          simp only [List.length_drop, List.length_cons] at hl
          have hbr : Bytes r := fun x hx => (hb.drop at_.toNat) x (by rw [hr]; simp [hx])
          refine ⟨_, Nat.lt_of_lt_of_le (beV_take_lt hbr (by omega)) (Nat.pow_le_pow_right (by omega) (by omega)), rfl, by simp only; omega, by simp only; omega, by simp⟩

theorem readUint64_eq {b : List Int} (hb : Bytes b) (hl : b.length ≤ 1000000000) {at_ : Int} (h1 : -9223372036854775808 ≤ at_) (h2 : at_ ≤ 9223372036854775807) :
    sol_wire_ReadUint64 (b, (at_, ())) = some ((((val4 (readR b at_ 8).1 : Nat) : Int), (readR b at_ 8).2), ((), ((), ()))) := by
  unfold sol_wire_ReadUint64 T_wire_ReadUint64
  obtain ⟨v, v1, v2, _⟩ := readR_bounds hb at_ (most := 8) (by omega)
  rw [show ((8 : Int)) = ((8 : Nat) : Int) from rfl, readUint_eq hb hl h1 h2 (by omega)]
  simp only [bind_some']
  have : (readR b at_ 8).1.getD 0 0 = ((val4 (readR b at_ 8).1 : Nat) : Int) := by
    rw [v2, val4_lim]; simp only [lim, List.getD_cons_zero]; omega
  rw [this]

/-- What ReadBytes gives. -/
def readB (b : List Int) (at_ : Int) : List Int × (Int × (Int × Unit)) :=
  if at_ < 0 ∨ b.length < at_ then ([], (0, (2, ()))) else
    match rdU b at_.toNat 8 with
    | none => ([], (0, (3, ())))
    | some (n, j) => if b.length - j < n then ([], (0, (3, ()))) else ((b.drop j).take n, ((j + n : Nat), (0, ())))

theorem rdU_le {b : List Int} {i most v j : Nat} (h : rdU b i most = some (v, j)) (hb : Bytes b) : i < j ∧ j ≤ b.length ∧ v < 256 ^ most ∧ j ≤ i + 1 + most := by
  unfold rdU at h
  split at h
  · cases h
  · rename_i k r hr
    split at h
    · cases h
    · rename_i hk
      cases h
      have hl := congrArg List.length hr
      simp only [List.length_drop, List.length_cons] at hl
      have hbr : Bytes r := fun x hx => (hb.drop i) x (by rw [hr]; simp [hx])
      exact ⟨by omega, by omega, Nat.lt_of_lt_of_le (beV_take_lt hbr (by omega)) (Nat.pow_le_pow_right (by omega) (by omega)), by omega⟩

theorem readBytes_eq {b : List Int} (hb : Bytes b) (hl : b.length ≤ 1000000000) {at_ : Int} (h1 : -9223372036854775808 ≤ at_) (h2 : at_ ≤ 9223372036854775807) :
    sol_wire_ReadBytes (b, (at_, ())) = some (readB b at_, ((), ((), ()))) := by
  unfold sol_wire_ReadBytes T_wire_ReadBytes readB
  rw [readUint64_eq hb hl h1 h2]
  simp only [bind_some', letR_eq, brR_dec, brR_not, brR_and]
  unfold readR
  by_cases c1 : at_ < 0 ∨ (b.length : Int) < at_
  · rw [if_pos c1, if_pos c1]; rfl
  rw [if_neg c1, if_neg c1]
  cases h : rdU b at_.toNat 8 with
  | none => rfl
  | some p =>
    obtain ⟨n, j⟩ := p
    obtain ⟨r1, r2, r3, _⟩ := rdU_le h hb
    have r3 : n < 18446744073709551616 := r3
    simp only [val4_lim]
    rw [if_pos trivial, w_i64 (n := (b.length : Int) - (j : Int)) (by omega) (by omega), w_u64 (by omega) (by omega)]
    by_cases c2 : b.length - j < n
    · rw [if_pos (by omega), if_pos c2]
    · rw [if_neg (by omega), if_neg c2, w_i64 (n := (n : Int)) (by omega) (by omega), w_i64 (n := (j : Int) + (n : Int)) (by omega) (by omega), if_pos (by omega), if_pos (by omega), if_pos (by omega)]
      rw [show ((j : Int) + (n : Int)).toNat - (j : Int).toNat = n by omega, Int.toNat_natCast, clone_eq (by rw [List.length_take, List.length_drop]; omega)]
      simp only [bind_some']
      rw [show ((j : Int) + (n : Int)) = ((j + n : Nat) : Int) by omega]

abbrev I256 := Bool × (List Int × Unit)

theorem i256_wf {a : I256} (h : (Ty.pair .bool (.pair (.arr 4 (.int .u64)) .unit)).wf a) : ∃ s n, n < 115792089237316195423570985008687907853269984665640564039457584007913129639936 ∧ a = (s, (lim n, ())) := by
  obtain ⟨s, l, _⟩ := a
  obtain ⟨_, h2, _⟩ := h
  obtain ⟨n, h3, h4⟩ := u256_wf h2
  exact ⟨s, n, h3, by rw [show l = lim n from h4]⟩

theorem eqD_lim (n m : Nat) : eqD (.arr 4 (.int .u64)) (lim n) (lim m) = decide (n = m) := by
  rw [Bool.eq_iff_iff, eqD_iff]; exact lim_inj.trans (by simp)

theorem valid_eq (s : Bool) (n : Nat) : sol_int256_Valid ((s, (lim n, ())), ()) = some ((!s || !decide (n = 0), ()), ((), ())) := by
  unfold sol_int256_Valid T_int256_Valid
  simp only [brR_not]
  rw [← lim_zero, eqD_lim]
  cases s <;> rfl

/-- The encoding of a signed number. -/
def encI (s : Bool) (n : Nat) : List Int := if s = true ∧ n = 0 then [] else (if s then 1 else 0) :: enc n

theorem appendInt256_eq {b : List Int} (hb : b.length ≤ 1000000000) {s : Bool} {n : Nat} (hn : n < 115792089237316195423570985008687907853269984665640564039457584007913129639936) :
    sol_wire_AppendInt256 (b, ((s, (lim n, ())), ())) = some ((b ++ encI s n, ()), ((), ((), ()))) := by
  unfold sol_wire_AppendInt256 T_wire_AppendInt256 encI
  have h2 := bylen_256 hn
  rw [valid_eq]
  simp only [bind_some', brR_not]
  rw [encode_eq hn]
  simp only [bind_some']
  rw [concat_eq (by simp [len_enc]; omega) (by simp), concat_eq (by simp [len_enc]; omega) (by simp), clone_eq (by omega)]
  simp only [bind_some']
  cases s
  · simp [brR_true, brR_false]
  · by_cases h0 : n = 0
    · simp [h0, brR_false]
    · simp [h0, brR_true]

/-- What ReadInt256 gives. -/
def readI (b : List Int) (at_ : Int) : I256 × (Int × (Int × Unit)) :=
  if at_ < 0 ∨ b.length < at_ then ((false, (lim 0, ())), (0, (2, ()))) else
    if b.length = at_.toNat ∨ 1 < b.getD at_.toNat 0 then ((false, (lim 0, ())), (0, (3, ()))) else
      match rdU b (at_.toNat + 1) 32 with
      | none => ((false, (lim 0, ())), (0, (3, ())))
      | some (n, j) => if b.getD at_.toNat 0 = 1 ∧ n = 0 then ((false, (lim 0, ())), (0, (3, ()))) else ((decide (b.getD at_.toNat 0 = 1), (lim n, ())), (j, (0, ())))

theorem readInt256_eq {b : List Int} (hb : Bytes b) (hl : b.length ≤ 1000000000) {at_ : Int} (h1 : -9223372036854775808 ≤ at_) (h2 : at_ ≤ 9223372036854775807) :
    sol_wire_ReadInt256 (b, (at_, ())) = some (readI b at_, ((), ((), ()))) := by
  unfold sol_wire_ReadInt256 T_wire_ReadInt256 readI
  simp only [letR_eq, brR_dec, brR_inR, brR_not]
  by_cases c1 : at_ < 0
  · rw [if_pos c1, if_pos (.inl c1)]; rfl
  rw [if_neg c1]
  by_cases c2 : b.length < at_
  · rw [if_pos (by omega), if_pos (.inr c2)]; rfl
  obtain ⟨i, rfl⟩ := Int.eq_ofNat_of_zero_le (show 0 ≤ at_ by omega)
  rw [if_neg (show ¬ (i : Int) > (b.length : Int) by omega), if_neg (show ¬ ((i : Int) < 0 ∨ (b.length : Int) < (i : Int)) by omega)]
  simp only [Int.toNat_natCast]
  by_cases c3 : b.length = i
  · rw [if_pos (by omega), if_pos (.inl c3)]; rfl
  rw [if_neg (by omega), if_pos (by omega)]
  by_cases c4 : 1 < b.getD i 0
  · rw [if_pos (by omega), if_pos (.inr c4)]; rfl
  rw [if_neg (show ¬ b.getD i 0 > 1 by omega), if_neg (show ¬ (b.length = i ∨ 1 < b.getD i 0) by omega), w_i64 (by omega) (by omega), show ((i : Int) + 1) = ((i + 1 : Nat) : Int) by omega, readUint256_eq hb hl (by omega) (by omega)]
  simp only [bind_some']
  unfold readR
  rw [if_neg (show ¬ (((i + 1 : Nat) : Int) < 0 ∨ (b.length : Int) < ((i + 1 : Nat) : Int)) by omega), Int.toNat_natCast, if_pos (by omega)]
  cases h : rdU b (i + 1) 32 with
  | none =>
    rw [valid_eq]
    rfl
  | some p =>
    obtain ⟨n, j⟩ := p
    simp only
    rw [valid_eq]
    simp only [bind_some', if_pos]
    rw [brR_or, brR_not, brR_not, brR_dec, brR_dec]
    by_cases c5 : b.getD i 0 = 1 <;> by_cases c6 : n = 0 <;> simp [c5, c6, lim_zero, -List.getD_eq_getElem?_getD]

end Go.Pon
/-
  SHA-256, plainly, on natural numbers.
-/
set_option autoImplicit false
set_option linter.unusedVariables false
set_option linter.unusedSimpArgs false
namespace Go.Pon
open Go

def xor32 (x y : Nat) : Nat := (x % 4294967296) ^^^ (y % 4294967296)
def and32 (x y : Nat) : Nat := (x % 4294967296) &&& (y % 4294967296)
def or32 (x y : Nat) : Nat := (x % 4294967296) ||| (y % 4294967296)
def add32 (x y : Nat) : Nat := (x + y) % 4294967296
def rotr (x n : Nat) : Nat := or32 (x * 2 ^ (32 - n) % 4294967296) (x / 2 ^ n)

theorem xor32_lt (x y : Nat) : xor32 x y < 4294967296 := Nat.xor_lt_two_pow (n := 32) (Nat.mod_lt _ (by omega)) (Nat.mod_lt _ (by omega))
theorem and32_lt (x y : Nat) : and32 x y < 4294967296 := Nat.and_lt_two_pow (n := 32) _ (Nat.mod_lt _ (by omega))
theorem or32_lt (x y : Nat) : or32 x y < 4294967296 := Nat.or_lt_two_pow (n := 32) (Nat.mod_lt _ (by omega)) (Nat.mod_lt _ (by omega))
theorem add32_lt (x y : Nat) : add32 x y < 4294967296 := Nat.mod_lt _ (by omega)
theorem or32_comm (x y : Nat) : or32 x y = or32 y x := Nat.or_comm _ _
theorem add32_assoc (x y z : Nat) : add32 (add32 x y) z = add32 x (add32 y z) := by unfold add32; omega

theorem wu32_nat (x : Nat) : IntKind.wrap .u32 ((x : Nat) : Int) = ((x % 4294967296 : Nat) : Int) := by rw [IntKind.wrap_u32]; omega
theorem x32 (x y : Nat) : IntKind.wrap .u32 ((BitVec.toNat (BitVec.ofInt 32 ((x : Nat) : Int) ^^^ BitVec.ofInt 32 ((y : Nat) : Int)) : Nat) : Int) = ((xor32 x y : Nat) : Int) := by
  rw [BitVec.toNat_xor, BitVec.ofInt_natCast, BitVec.ofInt_natCast, BitVec.toNat_ofNat, BitVec.toNat_ofNat, wu32_nat, ← Nat.mod_eq_of_lt (xor32_lt x y)]; rfl
theorem n32 (x y : Nat) : IntKind.wrap .u32 ((BitVec.toNat (BitVec.ofInt 32 ((x : Nat) : Int) &&& BitVec.ofInt 32 ((y : Nat) : Int)) : Nat) : Int) = ((and32 x y : Nat) : Int) := by
  rw [BitVec.toNat_and, BitVec.ofInt_natCast, BitVec.ofInt_natCast, BitVec.toNat_ofNat, BitVec.toNat_ofNat, wu32_nat, ← Nat.mod_eq_of_lt (and32_lt x y)]; rfl
theorem o32 (x y : Nat) : IntKind.wrap .u32 ((BitVec.toNat (BitVec.ofInt 32 ((x : Nat) : Int) ||| BitVec.ofInt 32 ((y : Nat) : Int)) : Nat) : Int) = ((or32 x y : Nat) : Int) := by
  rw [BitVec.toNat_or, BitVec.ofInt_natCast, BitVec.ofInt_natCast, BitVec.toNat_ofNat, BitVec.toNat_ofNat, wu32_nat, ← Nat.mod_eq_of_lt (or32_lt x y)]; rfl
theorem a32 (x y : Nat) : IntKind.wrap .u32 (((x : Nat) : Int) + ((y : Nat) : Int)) = ((add32 x y : Nat) : Int) := by rw [← Int.natCast_add, wu32_nat]; rfl
theorem m32 (x c : Nat) : IntKind.wrap .u32 (((x : Nat) : Int) * ((c : Nat) : Int)) = ((x * c % 4294967296 : Nat) : Int) := by rw [← Int.natCast_mul, wu32_nat]
theorem d32 (x c : Nat) : Int.fdiv ((x : Nat) : Int) ((c : Nat) : Int) = ((x / c : Nat) : Int) := by rw [Int.fdiv_eq_ediv_of_nonneg _ (Int.natCast_nonneg _)]; rfl

def sig (r1 r2 s x : Nat) : Nat := xor32 (xor32 (rotr x r1) (rotr x r2)) (x / s)
def sum3 (r1 r2 r3 x : Nat) : Nat := xor32 (xor32 (rotr x r1) (rotr x r2)) (rotr x r3)

/-- The word at place i of a block of bytes. -/
def word (b : List Int) (i : Nat) : Nat := (b.getD (4 * i) 0).toNat * 16777216 + (b.getD (4 * i + 1) 0).toNat * 65536 + (b.getD (4 * i + 2) 0).toNat * 256 + (b.getD (4 * i + 3) 0).toNat

def nextW (l : List Nat) (i : Nat) : Nat := add32 (add32 (add32 (l.getD (i - 16) 0) (sig 7 18 8 (l.getD (i - 15) 0))) (l.getD (i - 7) 0)) (sig 17 19 1024 (l.getD (i - 2) 0))

/-- The first i words of the schedule. -/
def sched (b : List Int) : Nat → List Nat
  | 0 => []
  | i + 1 => sched b i ++ [if i < 16 then word b i else nextW (sched b i) i]

def kTab : List Nat := [
  0x428a2f98, 0x71374491, 0xb5c0fbcf, 0xe9b5dba5, 0x3956c25b, 0x59f111f1, 0x923f82a4, 0xab1c5ed5,
  0xd807aa98, 0x12835b01, 0x243185be, 0x550c7dc3, 0x72be5d74, 0x80deb1fe, 0x9bdc06a7, 0xc19bf174,
  0xe49b69c1, 0xefbe4786, 0x0fc19dc6, 0x240ca1cc, 0x2de92c6f, 0x4a7484aa, 0x5cb0a9dc, 0x76f988da,
  0x983e5152, 0xa831c66d, 0xb00327c8, 0xbf597fc7, 0xc6e00bf3, 0xd5a79147, 0x06ca6351, 0x14292967,
  0x27b70a85, 0x2e1b2138, 0x4d2c6dfc, 0x53380d13, 0x650a7354, 0x766a0abb, 0x81c2c92e, 0x92722c85,
  0xa2bfe8a1, 0xa81a664b, 0xc24b8b70, 0xc76c51a3, 0xd192e819, 0xd6990624, 0xf40e3585, 0x106aa070,
  0x19a4c116, 0x1e376c08, 0x2748774c, 0x34b0bcb5, 0x391c0cb3, 0x4ed8aa4a, 0x5b9cca4f, 0x682e6ff3,
  0x748f82ee, 0x78a5636f, 0x84c87814, 0x8cc70208, 0x90befffa, 0xa4506ceb, 0xbef9a3f7, 0xc67178f2]

def iv : List Nat := [0x6a09e667, 0xbb67ae85, 0x3c6ef372, 0xa54ff53a, 0x510e527f, 0x9b05688c, 0x1f83d9ab, 0x5be0cd19]

/-- One round, with the round's constant and word. -/
def rnd (t : List Nat) (k w : Nat) : List Nat :=
  let a := t.getD 0 0; let b := t.getD 1 0; let c := t.getD 2 0; let e := t.getD 4 0; let f := t.getD 5 0; let g := t.getD 6 0
  let p := add32 (add32 (add32 (add32 (t.getD 7 0) (sum3 6 11 25 e)) (xor32 (and32 e f) (and32 (xor32 4294967295 e) g))) k) w
  [add32 (add32 p (sum3 2 13 22 a)) (xor32 (xor32 (and32 a b) (and32 a c)) (and32 b c)), a, b, c, add32 (t.getD 3 0) p, e, f, g]

def rounds (w s : List Nat) : Nat → List Nat
  | 0 => s
  | i + 1 => rnd (rounds w s i) (kTab.getD i 0) (w.getD i 0)

def addL (t s : List Nat) (i : Nat) : List Nat := (List.range 8).map fun j => if j < i then add32 (t.getD j 0) (s.getD j 0) else t.getD j 0

/-- The state after a block. -/
def comp (s : List Nat) (b : List Int) : List Nat := addL (rounds (sched b 64) s 64) s 8

/-- The state after so many blocks of a message. -/
def states (m : List Int) : Nat → List Nat
  | 0 => iv
  | i + 1 => comp (states m i) ((m.drop (64 * i)).take 64)

/-- The padded message. -/
def padded (b : List Int) : List Int := b ++ 128 :: (List.replicate ((119 - b.length % 64) % 64) 0 ++ beB 8 (b.length * 8))

def shaOut (s : List Nat) : List Int := (List.range 32).map fun i => ((s.getD (i / 4) 0 / 2 ^ (24 - 8 * (i % 4)) % 256 : Nat) : Int)

/-- The hash. -/
def sha (b : List Int) : List Int := shaOut (states (padded b) ((padded b).length / 64))

theorem len_sha (b : List Int) : (sha b).length = 32 := by simp [sha, shaOut]
theorem bytes_sha (b : List Int) : Bytes (sha b) := by
  intro x hx
  simp only [sha, shaOut, List.mem_map] at hx
  obtain ⟨i, _, rfl⟩ := hx
  omega

set_option maxRecDepth 100000 in
theorem sha_nil : sha [] = [0xe3, 0xb0, 0xc4, 0x42, 0x98, 0xfc, 0x1c, 0x14, 0x9a, 0xfb, 0xf4, 0xc8, 0x99, 0x6f, 0xb9, 0x24, 0x27, 0xae, 0x41, 0xe4, 0x64, 0x9b, 0x93, 0x4c, 0xa4, 0x95, 0x99, 0x1b, 0x78, 0x52, 0xb8, 0x55] := by kernel_rfl

set_option maxRecDepth 100000 in
theorem sha_abc : sha [97, 98, 99] = [0xba, 0x78, 0x16, 0xbf, 0x8f, 0x01, 0xcf, 0xea, 0x41, 0x41, 0x40, 0xde, 0x5d, 0xae, 0x22, 0x23, 0xb0, 0x03, 0x61, 0xa3, 0x96, 0x17, 0x7a, 0x9c, 0xb4, 0x10, 0xff, 0x61, 0xf2, 0x00, 0x15, 0xad] := by kernel_rfl

end Go.Pon
/-
  What package hash computes.
-/
set_option autoImplicit false
set_option linter.unusedVariables false
set_option linter.unusedSimpArgs false
set_option maxRecDepth 4000
namespace Go.Pon
open Go

def castL (l : List Nat) : List Int := l.map fun n => ((n : Nat) : Int)

theorem len_castL {l : List Nat} : (castL l).length = l.length := by simp [castL]
theorem castL_append {l m : List Nat} : castL (l ++ m) = castL l ++ castL m := by simp [castL]
theorem castL_getD {l : List Nat} {i : Nat} : (castL l).getD i 0 = ((l.getD i 0 : Nat) : Int) := by
  simp only [castL, List.getD_eq_getElem?_getD, List.getElem?_map]
  cases l[i]? <;> rfl

/-- Words up to place i, zeros behind. -/
def part (l : List Nat) (n : Nat) : List Int := castL l ++ List.replicate (n - l.length) 0

theorem part_getD {l : List Nat} {n j : Nat} (h : j < l.length) : (part l n).getD j 0 = ((l.getD j 0 : Nat) : Int) := by
  rw [part, List.getD_eq_getElem?_getD, List.getElem?_append_left (by rw [len_castL]; exact h), ← List.getD_eq_getElem?_getD, castL_getD]

theorem part_set {l : List Nat} {n : Nat} (h : l.length < n) (x : Nat) : (part l n).set l.length ((x : Nat) : Int) = part (l ++ [x]) n := by
  have e : n - l.length = (n - (l.length + 1)) + 1 := by omega
  simp only [part, castL_append, List.length_append, List.length_singleton]
  rw [List.set_append, if_neg (by rw [len_castL]; omega), len_castL, Nat.sub_self, e, List.replicate_succ, List.set_cons_zero]
  simp [castL]

theorem part_full {l : List Nat} : part l l.length = castL l := by simp [part]
theorem part_nil {n : Nat} : part [] n = List.replicate n 0 := by simp [part, castL]

theorem len_sched (b : List Int) : ∀ i, (sched b i).length = i
  | 0 => rfl
  | i + 1 => by simp [sched, len_sched b i]

theorem rotl_eq (x n : Nat) (h1 : 1 ≤ n) (h2 : n ≤ 31) : sol_math_bits_RotateLeft32 (((x : Nat) : Int), (-((n : Nat) : Int), ())) = some ((((rotr x n : Nat) : Int), ()), ((), ((), ()))) := by
  unfold sol_math_bits_RotateLeft32 T_math_bits_RotateLeft32
  simp only [letR_eq]
  have e : ∀ n, n < 32 → 1 ≤ n → IntKind.wrap .u64 ((BitVec.toNat (BitVec.ofInt 64 (IntKind.wrap .u64 (-((n : Nat) : Int))) &&& BitVec.ofInt 64 31) : Nat) : Int) = ((32 - n : Nat) : Int) := by decide
  rw [e n (by omega) h1, brR_dec, if_pos (by omega), show (32 : Int) - ((32 - n : Nat) : Int) = ((n : Nat) : Int) by omega, w_u64 (by omega) (by omega), brR_dec, if_pos (by omega)]
  simp only [Int.toNat_natCast]
  have p : ∀ k : Nat, (2 : Int) ^ k = ((2 ^ k : Nat) : Int) := fun k => by rw [Int.natCast_pow]; rfl
  rw [Nat.min_eq_left (by omega), Nat.min_eq_left (by omega), p, p, m32, d32, o32]
  rfl

theorem rot7 (x : Nat) : sol_math_bits_RotateLeft32 (((x : Nat) : Int), ((-7 : Int), ())) = some ((((rotr x 7 : Nat) : Int), ()), ((), ((), ()))) := rotl_eq x 7 (by omega) (by omega)
theorem rot18 (x : Nat) : sol_math_bits_RotateLeft32 (((x : Nat) : Int), ((-18 : Int), ())) = some ((((rotr x 18 : Nat) : Int), ()), ((), ((), ()))) := rotl_eq x 18 (by omega) (by omega)
theorem rot17 (x : Nat) : sol_math_bits_RotateLeft32 (((x : Nat) : Int), ((-17 : Int), ())) = some ((((rotr x 17 : Nat) : Int), ()), ((), ((), ()))) := rotl_eq x 17 (by omega) (by omega)
theorem rot19 (x : Nat) : sol_math_bits_RotateLeft32 (((x : Nat) : Int), ((-19 : Int), ())) = some ((((rotr x 19 : Nat) : Int), ()), ((), ((), ()))) := rotl_eq x 19 (by omega) (by omega)
theorem rot6 (x : Nat) : sol_math_bits_RotateLeft32 (((x : Nat) : Int), ((-6 : Int), ())) = some ((((rotr x 6 : Nat) : Int), ()), ((), ((), ()))) := rotl_eq x 6 (by omega) (by omega)
theorem rot11 (x : Nat) : sol_math_bits_RotateLeft32 (((x : Nat) : Int), ((-11 : Int), ())) = some ((((rotr x 11 : Nat) : Int), ()), ((), ((), ()))) := rotl_eq x 11 (by omega) (by omega)
theorem rot25 (x : Nat) : sol_math_bits_RotateLeft32 (((x : Nat) : Int), ((-25 : Int), ())) = some ((((rotr x 25 : Nat) : Int), ()), ((), ((), ()))) := rotl_eq x 25 (by omega) (by omega)
theorem rot2 (x : Nat) : sol_math_bits_RotateLeft32 (((x : Nat) : Int), ((-2 : Int), ())) = some ((((rotr x 2 : Nat) : Int), ()), ((), ((), ()))) := rotl_eq x 2 (by omega) (by omega)
theorem rot13 (x : Nat) : sol_math_bits_RotateLeft32 (((x : Nat) : Int), ((-13 : Int), ())) = some ((((rotr x 13 : Nat) : Int), ()), ((), ((), ()))) := rotl_eq x 13 (by omega) (by omega)
theorem rot22 (x : Nat) : sol_math_bits_RotateLeft32 (((x : Nat) : Int), ((-22 : Int), ())) = some ((((rotr x 22 : Nat) : Int), ()), ((), ((), ()))) := rotl_eq x 22 (by omega) (by omega)

theorem d32_8 (x : Nat) : Int.fdiv ((x : Nat) : Int) 8 = ((x / 8 : Nat) : Int) := d32 x 8
theorem d32_1024 (x : Nat) : Int.fdiv ((x : Nat) : Int) 1024 = ((x / 1024 : Nat) : Int) := d32 x 1024
theorem not32 (x : Nat) : IntKind.wrap .u32 ((BitVec.toNat (BitVec.ofInt 32 4294967295 ^^^ BitVec.ofInt 32 ((x : Nat) : Int)) : Nat) : Int) = ((xor32 4294967295 x : Nat) : Int) := x32 4294967295 x

/-- Four bytes as a word, put together by 'or'. -/
theorem word_or {p q r s : Int} (hp : 0 ≤ p ∧ p ≤ 255) (hq : 0 ≤ q ∧ q ≤ 255) (hr : 0 ≤ r ∧ r ≤ 255) (hs : 0 ≤ s ∧ s ≤ 255) :
    IntKind.wrap .u32 ((BitVec.toNat (BitVec.ofInt 32 (IntKind.wrap .u32 ((BitVec.toNat (BitVec.ofInt 32 (IntKind.wrap .u32 ((BitVec.toNat (BitVec.ofInt 32 (IntKind.wrap .u32 (IntKind.wrap .u32 p * 16777216)) ||| BitVec.ofInt 32 (IntKind.wrap .u32 (IntKind.wrap .u32 q * 65536))) : Nat) : Int)) |||
      BitVec.ofInt 32 (IntKind.wrap .u32 (IntKind.wrap .u32 r * 256))) : Nat) : Int)) ||| BitVec.ofInt 32 (IntKind.wrap .u32 s)) : Nat) : Int) = ((p.toNat * 16777216 + q.toNat * 65536 + r.toNat * 256 + s.toNat : Nat) : Int) := by
  obtain ⟨p, rfl⟩ := Int.eq_ofNat_of_zero_le hp.1
  obtain ⟨q, rfl⟩ := Int.eq_ofNat_of_zero_le hq.1
  obtain ⟨r, rfl⟩ := Int.eq_ofNat_of_zero_le hr.1
  obtain ⟨s, rfl⟩ := Int.eq_ofNat_of_zero_le hs.1
  rw [w_u32 (n := (p : Int)) (by omega) (by omega), w_u32 (n := (q : Int)) (by omega) (by omega), w_u32 (n := (r : Int)) (by omega) (by omega), w_u32 (n := (s : Int)) (by omega) (by omega)]
  rw [show ((p : Nat) : Int) * 16777216 = ((p * 16777216 : Nat) : Int) by omega, show ((q : Nat) : Int) * 65536 = ((q * 65536 : Nat) : Int) by omega, show ((r : Nat) : Int) * 256 = ((r * 256 : Nat) : Int) by omega]
  rw [w_u32 (n := ((p * 16777216 : Nat) : Int)) (by omega) (by omega), w_u32 (n := ((q * 65536 : Nat) : Int)) (by omega) (by omega), w_u32 (n := ((r * 256 : Nat) : Int)) (by omega) (by omega), o32, o32, o32]
  have o : ∀ (a b i : Nat), b < 2 ^ i → 2 ^ i * a + b < 4294967296 → or32 (2 ^ i * a) b = 2 ^ i * a + b := fun a b i h1 h2 => by
    unfold or32
    rw [Nat.mod_eq_of_lt (by omega), Nat.mod_eq_of_lt (by omega), Nat.two_pow_add_eq_or_of_lt h1]
  have e1 := o p (q * 65536) 24 (by omega) (by omega)
  have e2 := o (p * 256 + q) (r * 256) 16 (by omega) (by omega)
  have e3 := o (p * 65536 + q * 256 + r) s 8 (by omega) (by omega)
  rw [show p * 16777216 = 2 ^ 24 * p by omega, e1, show 2 ^ 24 * p + q * 65536 = 2 ^ 16 * (p * 256 + q) by omega, e2, show 2 ^ 16 * (p * 256 + q) + r * 256 = 2 ^ 8 * (p * 65536 + q * 256 + r) by omega, e3]
  simp only [Int.toNat_natCast]; omega

theorem schedule_eq {b : List Int} (hb : Bytes b) (hl : b.length = 64) : sol_hash_schedule (b, ()) = some ((castL (sched b 64), ()), ((), ())) := by
  unfold sol_hash_schedule T_hash_schedule
  have second : ∀ t2 : List Int, bigLoop _ _ (fun again x => T_hash_schedule_loop1 sol_math_bits_RotateLeft32 again x.1 x.2.1 x.2.2.1) (t2, (part (sched b 16) 64, ((16 : Int), ()))) = some ((castL (sched b 64), ()), ((), ())) := by
    intro t2
    refine bigLoop_rule (I := fun x => (16 : Int) ≤ x.2.2.1 ∧ x.2.2.1 ≤ (64 : Int) ∧ x.2.1 = part (sched b x.2.2.1.toNat) 64) (m := fun x => ((64 : Int) - x.2.2.1).toNat) (g := fun _ => some ((castL (sched b 64), ()), ((), ()))) ?_
      ⟨by simp only; omega, by simp only; omega, rfl⟩ (by simp only [bigN_eq]; omega)
    rintro ⟨t, w, i, _⟩ again ⟨e1, e2, e3⟩ hag
    simp only at e1 e2 e3 hag ⊢
    subst e3
    obtain ⟨i, rfl⟩ := Int.eq_ofNat_of_zero_le (show 0 ≤ i by omega)
    have hls := len_sched b i
    simp only [T_hash_schedule_loop1, letR_eq, brR_dec, brR_inR, Int.toNat_natCast]
    by_cases hi : i < 64
    · rw [if_pos (by omega), w_i64 (n := (i : Int) - 7) (by omega) (by omega), w_i64 (n := (i : Int) - 16) (by omega) (by omega), w_i64 (n := (i : Int) - 2) (by omega) (by omega), w_i64 (n := (i : Int) - 15) (by omega) (by omega), w_i64 (n := (i : Int) + 1) (by omega) (by omega)]
      rw [show ((i : Int) - 7).toNat = i - 7 by omega, show ((i : Int) - 16).toNat = i - 16 by omega, show ((i : Int) - 2).toNat = i - 2 by omega, show ((i : Int) - 15).toNat = i - 15 by omega]
      rw [if_pos (by omega), if_pos (by omega), part_getD (j := i - 7) (by omega), part_getD (j := i - 16) (by omega), part_getD (j := i - 2) (by omega), part_getD (j := i - 15) (by omega)]
      simp only [rot7, rot18, rot17, rot19, bind_some']
      rw [if_pos (by omega), if_pos (by omega), if_pos (by omega)]
      simp only [x32, d32_8, d32_1024, a32]
      have es : (part (sched b i) 64).set i ((nextW (sched b i) i : Nat) : Int) = part (sched b (i + 1)) 64 := by
        have := part_set (l := sched b i) (n := 64) (by omega) (nextW (sched b i) i)
        rw [hls] at this
        rw [this, sched, if_neg (by omega)]
      refine (congrArg again ?_).trans (hag (t, (part (sched b (i + 1)) 64, (((i : Int) + 1), ()))) ⟨by simp only; omega, by simp only; omega, by simp only; rw [show ((i : Int) + 1).toNat = i + 1 by omega]⟩ (by simp only; omega))
      rw [← es]; rfl
    · have : i = 64 := by omega
      subst this
      rw [if_neg (by omega)]
      have := part_full (l := sched b 64)
      rw [hls] at this
      rw [this]
  refine bigLoop_rule (I := fun x => x.1 = b ∧ (0 : Int) ≤ x.2.2.2.1 ∧ x.2.2.2.1 ≤ (16 : Int) ∧ x.2.2.1 = part (sched b x.2.2.2.1.toNat) 64) (m := fun x => ((16 : Int) - x.2.2.2.1).toNat) (g := fun _ => some ((castL (sched b 64), ()), ((), ()))) ?_
    ⟨rfl, by simp only; omega, by simp only; omega, by simp only; exact part_nil.symm⟩ (by simp only [bigN_eq]; omega)
  rintro ⟨b', t, w, i, _⟩ again ⟨e0, e1, e2, e3⟩ hag
  simp only at e0 e1 e2 e3 hag ⊢
  subst e0 e3
  obtain ⟨i, rfl⟩ := Int.eq_ofNat_of_zero_le e1
  have hls := len_sched b' i
  simp only [T_hash_schedule_loop0, letR_eq, brR_dec, brR_inR, Int.toNat_natCast]
  by_cases hi : i < 16
  · rw [if_pos (by omega), w_i64 (n := 4 * (i : Int)) (by omega) (by omega), w_i64 (n := 4 * (i : Int) + 3) (by omega) (by omega), w_i64 (n := 4 * (i : Int) + 2) (by omega) (by omega), w_i64 (n := 4 * (i : Int) + 1) (by omega) (by omega), w_i64 (n := (i : Int) + 1) (by omega) (by omega)]
    rw [show (4 * (i : Int)).toNat = 4 * i by omega, show (4 * (i : Int) + 1).toNat = 4 * i + 1 by omega, show (4 * (i : Int) + 2).toNat = 4 * i + 2 by omega, show (4 * (i : Int) + 3).toNat = 4 * i + 3 by omega]
    rw [if_pos (by omega), if_pos (by omega), if_pos (by omega), if_pos (by omega), if_pos (by omega), word_or (hb.at _) (hb.at _) (hb.at _) (hb.at _)]
    have es : (part (sched b' i) 64).set i ((word b' i : Nat) : Int) = part (sched b' (i + 1)) 64 := by
      have := part_set (l := sched b' i) (n := 64) (by omega) (word b' i)
      rw [hls] at this
      rw [this, sched, if_pos (by omega)]
    refine (congrArg again ?_).trans (hag (b', (t, (part (sched b' (i + 1)) 64, (((i : Int) + 1), ())))) ⟨rfl, by simp only; omega, by simp only; omega, by simp only; rw [show ((i : Int) + 1).toNat = i + 1 by omega]⟩ (by simp only; omega))
    rw [← es]; rfl
  · have : i = 16 := by omega
    subst this
    rw [if_neg (by omega)]
    exact second t

theorem len_rnd (t : List Nat) (k w : Nat) : (rnd t k w).length = 8 := rfl

theorem len_rounds {w s : List Nat} (h : s.length = 8) : ∀ i, (rounds w s i).length = 8
  | 0 => h
  | i + 1 => rfl

theorem addL_set {t s : List Nat} {i : Nat} (hi : i < 8) : (castL (addL t s i)).set i ((add32 (t.getD i 0) (s.getD i 0) : Nat) : Int) = castL (addL t s (i + 1)) := by
  apply List.ext_getElem
  · simp [castL, addL]
  · intro j h1 h2
    have hj : j < 8 := by simpa [castL, addL] using h2
    simp only [List.getElem_set, castL, addL, List.getElem_map, List.getElem_range]
    by_cases hc : i = j
    · subst hc; simp
    · rw [if_neg hc]
      by_cases h3 : j < i
      · rw [if_pos h3, if_pos (by omega)]
      · rw [if_neg h3, if_neg (by omega)]

theorem addL_zero {t s : List Nat} (h : t.length = 8) : addL t s 0 = t := by
  apply List.ext_getElem
  · simp [addL, h]
  · intro j h1 h2
    simp only [addL, List.getElem_map, List.getElem_range]
    rw [if_neg (by omega), List.getD_eq_getElem?_getD, List.getElem?_eq_getElem h2]; rfl

theorem addL_getD {t s : List Nat} {i : Nat} (hi : i < 8) : (addL t s i).getD i 0 = t.getD i 0 := by
  rw [addL, List.getD_eq_getElem?_getD, List.getElem?_map, List.getElem?_range hi]
  simp

theorem compress_eq {s w : List Nat} (hs : s.length = 8) : sol_hash_compress (castL s, (castL w, (castL kTab, ()))) = some ((castL (addL (rounds w s 64) s 8), ()), ((), ((), ((), ())))) := by
  unfold sol_hash_compress T_hash_compress
  have second : ∀ t2 : List Int, bigLoop _ _ (fun again x => T_hash_compress_loop1 again x.1 x.2.1 x.2.2.1 x.2.2.2.1) (castL s, (t2, (castL (rounds w s 64), ((0 : Int), ())))) = some ((castL (addL (rounds w s 64) s 8), ()), ((), ((), ((), ())))) := by
    intro t2
    refine bigLoop_rule (I := fun x => x.1 = castL s ∧ (0 : Int) ≤ x.2.2.2.1 ∧ x.2.2.2.1 ≤ (8 : Int) ∧ x.2.2.1 = castL (addL (rounds w s 64) s x.2.2.2.1.toNat)) (m := fun x => ((8 : Int) - x.2.2.2.1).toNat) (g := fun _ => some ((castL (addL (rounds w s 64) s 8), ()), ((), ((), ((), ()))))) ?_
      ⟨rfl, by simp only; omega, by simp only; omega, by simp only; rw [show (0 : Int).toNat = 0 from rfl, addL_zero (len_rounds hs 64)]⟩ (by simp only [bigN_eq]; omega)
    rintro ⟨s', t', t, i, _⟩ again ⟨e0, e1, e2, e3⟩ hag
    simp only at e0 e1 e2 e3 hag ⊢
    subst e0 e3
    obtain ⟨i, rfl⟩ := Int.eq_ofNat_of_zero_le e1
    simp only [T_hash_compress_loop1, letR_eq, brR_dec, brR_inR, Int.toNat_natCast]
    by_cases hi : i < 8
    · rw [if_pos (by omega), if_pos (by omega), if_pos (by omega), if_pos (by omega), castL_getD, castL_getD, a32, addL_getD hi, addL_set hi, w_i64 (by omega) (by omega)]
      exact hag _ ⟨rfl, by simp only; omega, by simp only; omega, by simp only; rw [show ((i : Int) + 1).toNat = i + 1 by omega]⟩ (by simp only; omega)
    · have : i = 8 := by omega
      subst this
      rw [if_neg (by omega)]
  refine bigLoop_rule (I := fun x => x.1 = castL s ∧ x.2.1 = castL w ∧ x.2.2.1 = castL kTab ∧ (0 : Int) ≤ x.2.2.2.2.2.1 ∧ x.2.2.2.2.2.1 ≤ (64 : Int) ∧ x.2.2.2.2.1 = castL (rounds w s x.2.2.2.2.2.1.toNat)) (m := fun x => ((64 : Int) - x.2.2.2.2.2.1).toNat) (g := fun _ => some ((castL (addL (rounds w s 64) s 8), ()), ((), ((), ((), ()))))) ?_
    ⟨rfl, rfl, rfl, by simp only; omega, by simp only; omega, rfl⟩ (by simp only [bigN_eq]; omega)
  rintro ⟨s', w', k', t', t, i, _⟩ again ⟨e0, e1, e2, e3, e4, e5⟩ hag
  simp only at e0 e1 e2 e3 e4 e5 hag ⊢
  subst e0 e1 e2 e5
  obtain ⟨i, rfl⟩ := Int.eq_ofNat_of_zero_le e3
  simp only [T_hash_compress_loop0, letR_eq, brR_dec, brR_inR, Int.toNat_natCast]
  by_cases hi : i < 64
  · rw [if_pos (by omega)]
    simp only [castL_getD, rot6, rot11, rot25, rot2, rot13, rot22, bind_some']
    rw [if_pos (by omega), if_pos (by omega), w_i64 (by omega) (by omega)]
    simp only [not32, x32, n32, a32]
    refine (congrArg again ?_).trans (hag (castL s, (castL w, (castL kTab, (t', (castL (rounds w s (i + 1)), (((i : Int) + 1), ())))))) ⟨rfl, rfl, rfl, by simp only; omega, by simp only; omega, by simp only; rw [show ((i : Int) + 1).toNat = i + 1 by omega]⟩ (by simp only; omega))
    rw [rounds, rnd]
    simp only [castL, List.map_cons, List.map_nil]
    rfl
  · have : i = 64 := by omega
    subst this
    rw [if_neg (by omega)]
    exact second t'

/-! ### The whole sum -/

theorem len_addL (t s : List Nat) (i : Nat) : (addL t s i).length = 8 := by simp [addL]

theorem len_states (m : List Int) : ∀ i, (states m i).length = 8
  | 0 => rfl
  | i + 1 => by rw [states, comp, len_addL]

theorem roundConstants_eq : sol_hash_roundConstants () = some ((castL kTab, ()), ()) := by
  unfold sol_hash_roundConstants T_hash_roundConstants; rfl

/-- The bytes that are written out: up to place i. -/
def outN (s : List Nat) (i : Nat) : List Nat := (List.range i).map fun i => s.getD (i / 4) 0 / 2 ^ (24 - 8 * (i % 4)) % 256

theorem len_outN (s : List Nat) (i : Nat) : (outN s i).length = i := by simp [outN]
theorem outN_succ (s : List Nat) (i : Nat) : outN s (i + 1) = outN s i ++ [s.getD (i / 4) 0 / 2 ^ (24 - 8 * (i % 4)) % 256] := by simp [outN, List.range_succ]
theorem outN_32 (s : List Nat) : castL (outN s 32) = shaOut s := by
  simp only [castL, outN, shaOut, List.map_map]; rfl

theorem out_byte {s : List Nat} {i : Nat} : IntKind.wrap .u8 (Int.fdiv ((castL s).getD (i / 4) 0) ((2 : Int) ^ (24 - 8 * (i % 4)))) = ((s.getD (i / 4) 0 / 2 ^ (24 - 8 * (i % 4)) % 256 : Nat) : Int) := by
  have p : ∀ k : Nat, (2 : Int) ^ k = ((2 ^ k : Nat) : Int) := fun k => by rw [Int.natCast_pow]; rfl
  rw [castL_getD, p, d32, IntKind.wrap_u8]; omega

theorem sumOut_eq {s : List Nat} (t2 : List Int) : bigLoop _ _ (fun again x => T_hash_Sum_loop3 again x.1 x.2.1 x.2.2.1 x.2.2.2.1) (t2, (castL s, (List.replicate 32 0, ((0 : Int), ())))) = some ((shaOut s, ()), ((), ())) := by
  refine bigLoop_rule (I := fun x => x.2.1 = castL s ∧ (0 : Int) ≤ x.2.2.2.1 ∧ x.2.2.2.1 ≤ (32 : Int) ∧ x.2.2.1 = part (outN s x.2.2.2.1.toNat) 32) (m := fun x => ((32 : Int) - x.2.2.2.1).toNat) (g := fun _ => some ((shaOut s, ()), ((), ()))) ?_
    ⟨rfl, by simp only; omega, by simp only; omega, part_nil.symm⟩ (by simp only [bigN_eq]; omega)
  rintro ⟨t, s', h, i, _⟩ again ⟨e0, e1, e2, e3⟩ hag
  simp only at e0 e1 e2 e3 hag ⊢
  subst e0 e3
  obtain ⟨i, rfl⟩ := Int.eq_ofNat_of_zero_le e1
  have hls := len_outN s i
  simp only [T_hash_Sum_loop3, letR_eq, brR_dec, brR_inR, Int.toNat_natCast]
  by_cases hi : i < 32
  · rw [if_pos (by omega), tdiv_pos (by omega), tmod_pos (by omega), w_i64 (n := (i : Int) / 4) (by omega) (by omega), w_i64 (n := 8 * ((i : Int) % 4)) (by omega) (by omega), w_i64 (n := 24 - 8 * ((i : Int) % 4)) (by omega) (by omega), w_i64 (n := (i : Int) + 1) (by omega) (by omega), if_pos (by omega), if_pos (by omega), if_pos (by omega)]
    rw [show ((i : Int) / 4).toNat = i / 4 by omega, show (24 - 8 * ((i : Int) % 4)).toNat = 24 - 8 * (i % 4) by omega, Nat.min_eq_left (by omega), out_byte]
    have es := part_set (l := outN s i) (n := 32) (by omega) (s.getD (i / 4) 0 / 2 ^ (24 - 8 * (i % 4)) % 256)
    rw [hls, ← outN_succ] at es
    rw [es]
    exact hag _ ⟨rfl, by simp only; omega, by simp only; omega, by simp only; rw [show ((i : Int) + 1).toNat = i + 1 by omega]⟩ (by simp only; omega)
  · have : i = 32 := by omega
    subst this
    rw [if_neg (by omega)]
    have := part_full (l := outN s 32)
    rw [hls, outN_32] at this
    rw [this]

theorem sumBlocks_eq {m : List Int} (hm : Bytes m) {n : Nat} (hn : m.length = 64 * n) (hl : m.length ≤ 1000000000) (t2 : List Int) :
    bigLoop _ _ (fun again x => T_hash_Sum_loop2 bigLoop sol_hash_schedule sol_hash_compress again x.1 x.2.1 x.2.2.1 x.2.2.2.1 x.2.2.2.2.1) (t2, (m, (castL iv, (castL kTab, ((0 : Int), ()))))) = some ((shaOut (states m n), ()), ((), ())) := by
  refine bigLoop_rule (I := fun x => x.2.1 = m ∧ x.2.2.2.1 = castL kTab ∧ ∃ i : Nat, i ≤ n ∧ x.2.2.2.2.1 = ((64 * i : Nat) : Int) ∧ x.2.2.1 = castL (states m i)) (m := fun x => ((m.length : Int) - x.2.2.2.2.1).toNat) (g := fun _ => some ((shaOut (states m n), ()), ((), ()))) ?_
    ⟨rfl, rfl, 0, by omega, rfl, rfl⟩ (by simp only [bigN_eq]; omega)
  rintro ⟨t, m', s, k, a, _⟩ again ⟨e0, e1, i, hi, e2, e3⟩ hag
  simp only at e0 e1 e2 e3 hag ⊢
  subst e0 e1 e2 e3
  simp only [T_hash_Sum_loop2, letR_eq, brR_dec, brR_and, Int.toNat_natCast]
  by_cases hc : i < n
  · rw [if_pos (by omega), w_i64 (by omega) (by omega), if_pos (by omega), if_pos (by omega), if_pos (by omega), show (((64 * i : Nat) : Int) + 64).toNat - 64 * i = 64 by omega,
      schedule_eq ((hm.drop _).take _) (by rw [List.length_take, List.length_drop]; omega)]
    simp only [bind_some']
    rw [compress_eq (len_states m' i)]
    simp only [bind_some']
    exact hag _ ⟨rfl, rfl, i + 1, by omega, by simp only; omega, rfl⟩ (by simp only; omega)
  · have : i = n := by omega
    subst this
    rw [if_neg (by omega)]
    exact sumOut_eq t

theorem sumLen_eq {l : List Int} (hb : Bytes l) {n k : Nat} (hn : n < 18446744073709551616) (hk : l.length + 8 = 64 * k) (hl : l.length ≤ 900000000) (t2 : List Int) :
    bigLoop _ _ (fun again x => T_hash_Sum_loop1 bigLoop sol_hash_roundConstants sol_hash_schedule sol_hash_compress again x.1 x.2.1 x.2.2.1 x.2.2.2.1) (t2, (((n : Nat) : Int), (l, ((7 : Int), ())))) = some ((shaOut (states (l ++ beB 8 n) k), ()), ((), ())) := by
  refine Eq.trans (bigLoop_rule (I := fun x => x.2.1 = ((n : Nat) : Int) ∧ (-1 : Int) ≤ x.2.2.2.1 ∧ x.2.2.2.1 ≤ (7 : Int) ∧ Bytes x.2.2.1 ∧ (x.2.2.1.length : Int) + x.2.2.2.1 + 1 = ((64 * k : Nat) : Int)) (m := fun x => (x.2.2.2.1 + 1).toNat) (g := fun x => some ((shaOut (states (x.2.2.1 ++ beB (x.2.2.2.1 + 1).toNat n) k), ()), ((), ()))) ?_
    ⟨rfl, by simp only; omega, by simp only; omega, hb, by simp only; omega⟩ (by simp only [bigN_eq]; omega)) rfl
  rintro ⟨t, n', l', i, _⟩ again ⟨e0, e1, e2, e3, e4⟩ hag
  simp only at e0 e1 e2 e3 e4 hag ⊢
  subst e0
  simp only [T_hash_Sum_loop1, letR_eq, brR_dec, append_def, ge_iff_le]
  by_cases hi : 0 ≤ i
  · obtain ⟨j, rfl⟩ := Int.eq_ofNat_of_zero_le hi
    rw [if_pos hi, w_i64 (n := 8 * (j : Int)) (by omega) (by omega), if_pos (by omega), brR_room8 (by omega), w_i64 (by omega) (by omega), show (8 * (j : Int)).toNat = 8 * j by omega, Nat.min_eq_left (by omega)]
    have p : ∀ k : Nat, (2 : Int) ^ k = ((2 ^ k : Nat) : Int) := fun k => by rw [Int.natCast_pow]; rfl
    have hby : IntKind.wrap .u8 (Int.fdiv ((n : Nat) : Int) ((2 : Int) ^ (8 * j))) = ((n / 256 ^ j % 256 : Nat) : Int) := by
      rw [p, d32, IntKind.wrap_u8, pow256]; omega
    rw [hby, hag _ ⟨rfl, by simp only; omega, by simp only; omega, e3.append (by intro x hx; simp only [List.mem_singleton] at hx; subst hx; omega), by simp only [List.length_append, List.length_singleton]; omega⟩ (by simp only; omega)]
    simp only
    rw [show ((j : Int) - 1 + 1).toNat = j by omega, show ((j : Int) + 1).toNat = j + 1 by omega, beB]; simp
  · have : i = -1 := by omega
    subst this
    rw [if_neg hi, roundConstants_eq]
    simp only [bind_some']
    have := sumBlocks_eq e3 (n := k) (by omega) (by omega) t
    refine Eq.trans this ?_
    simp [beB]

theorem sum_eq {b : List Int} (hb : Bytes b) (hl : b.length ≤ 100000000) : sol_hash_Sum (b, ()) = some ((sha b, ()), ((), ())) := by
  unfold sol_hash_Sum T_hash_Sum
  simp only
  rw [concat_eq (by simp; omega) (by simp), w_u64 (n := ((b.length : Nat) : Int)) (by omega) (by omega), w_u64 (by omega) (by omega), show ((b.length : Nat) : Int) * 8 = ((b.length * 8 : Nat) : Int) by omega]
  simp only [bind_some', List.flatten_cons, List.flatten_nil, List.append_nil]
  refine bigLoop_rule (I := fun x => x.2.1 = ((b.length * 8 : Nat) : Int) ∧ ∃ j : Nat, j ≤ (119 - b.length % 64) % 64 ∧ x.2.2.1 = b ++ 128 :: List.replicate j 0) (m := fun x => b.length + 100 - x.2.2.1.length) (g := fun _ => some ((sha b, ()), ((), ()))) ?_
    ⟨rfl, 0, by omega, rfl⟩ (by simp only [bigN_eq]; omega)
  rintro ⟨t, n, l, _⟩ again ⟨e0, j, hj, e1⟩ hag
  simp only at e0 e1 hag ⊢
  subst e0 e1
  have hlen : (b ++ 128 :: List.replicate j (0 : Int)).length = b.length + 1 + j := by simp; omega
  simp only [T_hash_Sum_loop0, letR_eq, brR_dec, brR_not, append_def]
  rw [tmod_pos (by omega), hlen, brR_room8 (by omega)]
  by_cases hc : j = (119 - b.length % 64) % 64
  · rw [if_pos (by omega)]
    have hby : Bytes (b ++ 128 :: List.replicate j (0 : Int)) := hb.append (by
      intro x hx
      rcases List.mem_cons.1 hx with rfl | hx
      · omega
      · rw [List.eq_of_mem_replicate hx]; omega)
    refine (sumLen_eq hby (n := b.length * 8) (k := (b.length + 1 + j + 8) / 64) (by omega) (by omega) (by omega) t).trans ?_
    have hp : b ++ 128 :: List.replicate j (0 : Int) ++ beB 8 (b.length * 8) = padded b := by simp [padded, hc]
    have hpl : (padded b).length = b.length + 1 + j + 8 := by rw [← hp, List.length_append, hlen, len_beB]
    rw [hp, ← hpl]; rfl
  · rw [if_neg (by omega)]
    have e : b ++ 128 :: List.replicate j (0 : Int) ++ [0] = b ++ 128 :: List.replicate (j + 1) 0 := by
      rw [List.replicate_succ']; simp
    exact hag _ ⟨rfl, j + 1, by omega, by simp only; exact e⟩ (by simp only [e, hlen]; simp; omega)

end Go.Pon
/-
  What the reference of chapter 7 computes: the sum.
-/
set_option autoImplicit false
set_option linter.unusedVariables false
set_option linter.unusedSimpArgs false
set_option maxRecDepth 4000
namespace Go.Pon
open Go

theorem right_eq (x n : Nat) (h1 : 1 ≤ n) (h2 : n ≤ 31) : sol_ref7_right (((x : Nat) : Int), (((n : Nat) : Int), ())) = some ((((rotr x n : Nat) : Int), ()), ((), ((), ()))) := by
  unfold sol_ref7_right T_ref7_right
  simp only [letR_eq]
  rw [show (32 : Int) - ((n : Nat) : Int) = ((32 - n : Nat) : Int) by omega, w_u64 (by omega) (by omega), brR_dec, if_pos (by omega), brR_dec, if_pos (by omega)]
  simp only [Int.toNat_natCast]
  have p : ∀ k : Nat, (2 : Int) ^ k = ((2 ^ k : Nat) : Int) := fun k => by rw [Int.natCast_pow]; rfl
  rw [Nat.min_eq_left (by omega), Nat.min_eq_left (by omega), p, p, m32, d32, o32, or32_comm]
  rfl

theorem rr7 (x : Nat) : sol_ref7_right (((x : Nat) : Int), ((7 : Int), ())) = some ((((rotr x 7 : Nat) : Int), ()), ((), ((), ()))) := right_eq x 7 (by omega) (by omega)
theorem rr18 (x : Nat) : sol_ref7_right (((x : Nat) : Int), ((18 : Int), ())) = some ((((rotr x 18 : Nat) : Int), ()), ((), ((), ()))) := right_eq x 18 (by omega) (by omega)
theorem rr17 (x : Nat) : sol_ref7_right (((x : Nat) : Int), ((17 : Int), ())) = some ((((rotr x 17 : Nat) : Int), ()), ((), ((), ()))) := right_eq x 17 (by omega) (by omega)
theorem rr19 (x : Nat) : sol_ref7_right (((x : Nat) : Int), ((19 : Int), ())) = some ((((rotr x 19 : Nat) : Int), ()), ((), ((), ()))) := right_eq x 19 (by omega) (by omega)
theorem rr6 (x : Nat) : sol_ref7_right (((x : Nat) : Int), ((6 : Int), ())) = some ((((rotr x 6 : Nat) : Int), ()), ((), ((), ()))) := right_eq x 6 (by omega) (by omega)
theorem rr11 (x : Nat) : sol_ref7_right (((x : Nat) : Int), ((11 : Int), ())) = some ((((rotr x 11 : Nat) : Int), ()), ((), ((), ()))) := right_eq x 11 (by omega) (by omega)
theorem rr25 (x : Nat) : sol_ref7_right (((x : Nat) : Int), ((25 : Int), ())) = some ((((rotr x 25 : Nat) : Int), ()), ((), ((), ()))) := right_eq x 25 (by omega) (by omega)
theorem rr2 (x : Nat) : sol_ref7_right (((x : Nat) : Int), ((2 : Int), ())) = some ((((rotr x 2 : Nat) : Int), ()), ((), ((), ()))) := right_eq x 2 (by omega) (by omega)
theorem rr13 (x : Nat) : sol_ref7_right (((x : Nat) : Int), ((13 : Int), ())) = some ((((rotr x 13 : Nat) : Int), ()), ((), ((), ()))) := right_eq x 13 (by omega) (by omega)
theorem rr22 (x : Nat) : sol_ref7_right (((x : Nat) : Int), ((22 : Int), ())) = some ((((rotr x 22 : Nat) : Int), ()), ((), ((), ()))) := right_eq x 22 (by omega) (by omega)

theorem word_add {p q r s : Int} (hp : 0 ≤ p ∧ p ≤ 255) (hq : 0 ≤ q ∧ q ≤ 255) (hr : 0 ≤ r ∧ r ≤ 255) (hs : 0 ≤ s ∧ s ≤ 255) :
    IntKind.wrap .u32 (IntKind.wrap .u32 (IntKind.wrap .u32 (IntKind.wrap .u32 (IntKind.wrap .u32 p * 16777216) + IntKind.wrap .u32 (IntKind.wrap .u32 q * 65536)) + IntKind.wrap .u32 (IntKind.wrap .u32 r * 256)) + IntKind.wrap .u32 s) =
      ((p.toNat * 16777216 + q.toNat * 65536 + r.toNat * 256 + s.toNat : Nat) : Int) := by
  simp only [IntKind.wrap_u32]; omega

theorem words_eq : sol_ref7_words () = some ((castL kTab, ()), ()) := by
  unfold sol_ref7_words T_ref7_words; rfl

theorem block_third {s : List Nat} (hs : s.length = 8) (W : List Nat) (t2 : List Int) : bigLoop _ _ (fun again x => T_ref7_block_loop2 again x.1 x.2.1 x.2.2.1 x.2.2.2.1) (castL s, (t2, (castL (rounds (W) s 64), ((0 : Int), ())))) = some ((castL (addL (rounds W s 64) s 8), ()), ((), ((), ()))) := by
  refine bigLoop_rule (I := fun x => x.1 = castL s ∧ (0 : Int) ≤ x.2.2.2.1 ∧ x.2.2.2.1 ≤ (8 : Int) ∧ x.2.2.1 = castL (addL (rounds (W) s 64) s x.2.2.2.1.toNat)) (m := fun x => ((8 : Int) - x.2.2.2.1).toNat) (g := fun _ => some ((castL (addL (rounds W s 64) s 8), ()), ((), ((), ())))) ?_
    ⟨rfl, by simp only; omega, by simp only; omega, by simp only; rw [show (0 : Int).toNat = 0 from rfl, addL_zero (len_rounds hs 64)]⟩ (by simp only [bigN_eq]; omega)
  rintro ⟨s', t', t, i, _⟩ again ⟨e0, e1, e2, e3⟩ hag
  simp only at e0 e1 e2 e3 hag ⊢
  subst e0 e3
  obtain ⟨i, rfl⟩ := Int.eq_ofNat_of_zero_le e1
  simp only [T_ref7_block_loop2, letR_eq, brR_dec, brR_inR, Int.toNat_natCast]
  by_cases hi : i < 8
  · rw [if_pos (by omega), if_pos (by omega), if_pos (by omega), if_pos (by omega), castL_getD, castL_getD, a32, addL_getD hi, addL_set hi, w_i64 (by omega) (by omega)]
    exact hag _ ⟨rfl, by simp only; omega, by simp only; omega, by simp only; rw [show ((i : Int) + 1).toNat = i + 1 by omega]⟩ (by simp only; omega)
  · have : i = 8 := by omega
    subst this
    rw [if_neg (by omega)]

set_option maxHeartbeats 1000000 in
theorem block_second {s : List Nat} (hs : s.length = 8) (W : List Nat) (t2 : List Int) : bigLoop _ _ (fun again x => T_ref7_block_loop1 bigLoop sol_ref7_right again x.1 x.2.1 x.2.2.1 x.2.2.2.1 x.2.2.2.2.1 x.2.2.2.2.2.1) (castL s, (t2, (castL kTab, (castL (W), (castL s, ((0 : Int), ())))))) = some ((castL (addL (rounds W s 64) s 8), ()), ((), ((), ()))) := by
  refine bigLoop_rule (I := fun x => x.1 = castL s ∧ x.2.2.1 = castL kTab ∧ x.2.2.2.1 = castL (W) ∧ (0 : Int) ≤ x.2.2.2.2.2.1 ∧ x.2.2.2.2.2.1 ≤ (64 : Int) ∧ x.2.2.2.2.1 = castL (rounds (W) s x.2.2.2.2.2.1.toNat)) (m := fun x => ((64 : Int) - x.2.2.2.2.2.1).toNat) (g := fun _ => some ((castL (addL (rounds W s 64) s 8), ()), ((), ((), ())))) ?_
    ⟨rfl, rfl, rfl, by simp only; omega, by simp only; omega, rfl⟩ (by simp only [bigN_eq]; omega)
  rintro ⟨s', t', k', w', t, i, _⟩ again ⟨e0, e1, e2, e3, e4, e5⟩ hag
  simp only at e0 e1 e2 e3 e4 e5 hag ⊢
  subst e0 e1 e2 e5
  obtain ⟨i, rfl⟩ := Int.eq_ofNat_of_zero_le e3
  simp only [T_ref7_block_loop1, letR_eq, brR_dec, brR_inR, Int.toNat_natCast]
  by_cases hi : i < 64
  · have hin : (0 : Int) ≤ (i : Int) ∧ (i : Int) < ((64 : Nat) : Int) := by omega
    rw [if_pos (by omega)]
    simp only [castL_getD, rr6, rr11, rr25, rr2, rr13, rr22, bind_some', if_pos hin]
    rw [w_i64 (by omega) (by omega)]
    simp only [not32, x32, n32, a32]
    refine (congrArg again ?_).trans (hag (castL s, (t', (castL kTab, (castL (W), (castL (rounds (W) s (i + 1)), (((i : Int) + 1), ())))))) ⟨rfl, rfl, rfl, by simp only; omega, by simp only; omega, by simp only; rw [show ((i : Int) + 1).toNat = i + 1 by omega]⟩ (by simp only; omega))
    rw [rounds, rnd]
    simp only [castL, List.map_cons, List.map_nil, add32_assoc]
    rfl
  · have : i = 64 := by omega
    subst this
    rw [if_neg (by omega)]
    exact block_third hs W t'

set_option maxHeartbeats 1000000 in
theorem block_eq {s : List Nat} (hs : s.length = 8) {b : List Int} (hb : Bytes b) (hl : b.length = 64) : sol_ref7_block (castL s, (b, ())) = some ((castL (comp s b), ()), ((), ((), ()))) := by
  unfold sol_ref7_block T_ref7_block
  rw [words_eq]
  simp only [bind_some']
  refine bigLoop_rule (I := fun x => x.1 = b ∧ x.2.1 = castL s ∧ x.2.2.2.1 = castL kTab ∧ (0 : Int) ≤ x.2.2.2.2.2.1 ∧ x.2.2.2.2.2.1 ≤ (64 : Int) ∧ x.2.2.2.2.1 = part (sched b x.2.2.2.2.2.1.toNat) 64) (m := fun x => ((64 : Int) - x.2.2.2.2.2.1).toNat) (g := fun _ => some ((castL (comp s b), ()), ((), ((), ())))) ?_
    ⟨rfl, rfl, rfl, by simp only; omega, by simp only; omega, by simp only; exact part_nil.symm⟩ (by simp only [bigN_eq]; omega)
  rintro ⟨b', h', t, k', w, i, _⟩ again ⟨e0, e1, e2, e3, e4, e5⟩ hag
  simp only at e0 e1 e2 e3 e4 e5 hag ⊢
  subst e0 e1 e2 e5
  obtain ⟨i, rfl⟩ := Int.eq_ofNat_of_zero_le e3
  have hls := len_sched b' i
  simp only [T_ref7_block_loop0, letR_eq, brR_dec, brR_inR, Int.toNat_natCast]
  by_cases hi : i < 64
  · rw [if_pos (by omega)]
    by_cases h16 : i < 16
    · rw [if_pos (by omega), w_i64 (n := 4 * (i : Int)) (by omega) (by omega), w_i64 (n := 4 * (i : Int) + 3) (by omega) (by omega), w_i64 (n := 4 * (i : Int) + 2) (by omega) (by omega), w_i64 (n := 4 * (i : Int) + 1) (by omega) (by omega), w_i64 (n := (i : Int) + 1) (by omega) (by omega)]
      rw [show (4 * (i : Int)).toNat = 4 * i by omega, show (4 * (i : Int) + 1).toNat = 4 * i + 1 by omega, show (4 * (i : Int) + 2).toNat = 4 * i + 2 by omega, show (4 * (i : Int) + 3).toNat = 4 * i + 3 by omega]
      rw [if_pos (by omega), if_pos (by omega), if_pos (by omega), if_pos (by omega), if_pos (by omega), word_add (hb.at _) (hb.at _) (hb.at _) (hb.at _)]
      have es : (part (sched b' i) 64).set i ((word b' i : Nat) : Int) = part (sched b' (i + 1)) 64 := by
        have := part_set (l := sched b' i) (n := 64) (by omega) (word b' i)
        rw [hls] at this
        rw [this, sched, if_pos (by omega)]
      refine (congrArg again ?_).trans (hag (b', (castL s, (t, (castL kTab, (part (sched b' (i + 1)) 64, (((i : Int) + 1), ())))))) ⟨rfl, rfl, rfl, by simp only; omega, by simp only; omega, by simp only; rw [show ((i : Int) + 1).toNat = i + 1 by omega]⟩ (by simp only; omega))
      rw [← es]; rfl
    · rw [if_neg (by omega), w_i64 (n := (i : Int) - 7) (by omega) (by omega), w_i64 (n := (i : Int) - 16) (by omega) (by omega), w_i64 (n := (i : Int) - 2) (by omega) (by omega), w_i64 (n := (i : Int) - 15) (by omega) (by omega), w_i64 (n := (i : Int) + 1) (by omega) (by omega)]
      rw [show ((i : Int) - 7).toNat = i - 7 by omega, show ((i : Int) - 16).toNat = i - 16 by omega, show ((i : Int) - 2).toNat = i - 2 by omega, show ((i : Int) - 15).toNat = i - 15 by omega]
      rw [if_pos (by omega), if_pos (by omega), if_pos (by omega), part_getD (j := i - 7) (by omega), part_getD (j := i - 16) (by omega), part_getD (j := i - 2) (by omega), part_getD (j := i - 15) (by omega)]
      have hA : (0 : Int) ≤ (i : Int) - 7 ∧ (i : Int) - 7 < ((64 : Nat) : Int) := by omega
      have hB : (0 : Int) ≤ (i : Int) ∧ (i : Int) < ((64 : Nat) : Int) := by omega
      simp only [rr7, rr18, rr17, rr19, bind_some', if_pos hA, if_pos hB]
      simp only [x32, d32_8, d32_1024, a32]
      have es : (part (sched b' i) 64).set i ((nextW (sched b' i) i : Nat) : Int) = part (sched b' (i + 1)) 64 := by
        have := part_set (l := sched b' i) (n := 64) (by omega) (nextW (sched b' i) i)
        rw [hls] at this
        rw [this, sched, if_neg (by omega)]
      refine (congrArg again ?_).trans (hag (b', (castL s, (t, (castL kTab, (part (sched b' (i + 1)) 64, (((i : Int) + 1), ())))))) ⟨rfl, rfl, rfl, by simp only; omega, by simp only; omega, by simp only; rw [show ((i : Int) + 1).toNat = i + 1 by omega]⟩ (by simp only; omega))
      rw [← es]; rfl
  · have : i = 64 := by omega
    subst this
    rw [if_neg (by omega)]
    have := part_full (l := sched b' 64)
    rw [hls] at this
    rw [this]
    exact block_second hs (sched b' 64) t

theorem rsumOut_eq {s : List Nat} (t2 : List Int) : bigLoop _ _ (fun again x => T_ref7_Sum_loop3 again x.1 x.2.1 x.2.2.1 x.2.2.2.1) (t2, (castL s, (List.replicate 32 0, ((0 : Int), ())))) = some ((shaOut s, ()), ((), ())) := by
  refine bigLoop_rule (I := fun x => x.2.1 = castL s ∧ (0 : Int) ≤ x.2.2.2.1 ∧ x.2.2.2.1 ≤ (32 : Int) ∧ x.2.2.1 = part (outN s x.2.2.2.1.toNat) 32) (m := fun x => ((32 : Int) - x.2.2.2.1).toNat) (g := fun _ => some ((shaOut s, ()), ((), ()))) ?_
    ⟨rfl, by simp only; omega, by simp only; omega, part_nil.symm⟩ (by simp only [bigN_eq]; omega)
  rintro ⟨t, s', h, i, _⟩ again ⟨e0, e1, e2, e3⟩ hag
  simp only at e0 e1 e2 e3 hag ⊢
  subst e0 e3
  obtain ⟨i, rfl⟩ := Int.eq_ofNat_of_zero_le e1
  have hls := len_outN s i
  simp only [T_ref7_Sum_loop3, letR_eq, brR_dec, brR_inR, Int.toNat_natCast]
  by_cases hi : i < 32
  · rw [if_pos (by omega), tdiv_pos (by omega), tmod_pos (by omega), w_i64 (n := (i : Int) / 4) (by omega) (by omega), w_i64 (n := 8 * ((i : Int) % 4)) (by omega) (by omega), w_i64 (n := 24 - 8 * ((i : Int) % 4)) (by omega) (by omega), w_u64 (n := 24 - 8 * ((i : Int) % 4)) (by omega) (by omega), w_i64 (n := (i : Int) + 1) (by omega) (by omega), if_pos (by omega), if_pos (by omega), if_pos (by omega)]
    rw [show ((i : Int) / 4).toNat = i / 4 by omega, show (24 - 8 * ((i : Int) % 4)).toNat = 24 - 8 * (i % 4) by omega, Nat.min_eq_left (by omega), out_byte]
    have es := part_set (l := outN s i) (n := 32) (by omega) (s.getD (i / 4) 0 / 2 ^ (24 - 8 * (i % 4)) % 256)
    rw [hls, ← outN_succ] at es
    rw [es]
    exact hag _ ⟨rfl, by simp only; omega, by simp only; omega, by simp only; rw [show ((i : Int) + 1).toNat = i + 1 by omega]⟩ (by simp only; omega)
  · have : i = 32 := by omega
    subst this
    rw [if_neg (by omega)]
    have := part_full (l := outN s 32)
    rw [hls, outN_32] at this
    rw [this]

theorem rsumBlocks_eq {m : List Int} (hm : Bytes m) {n : Nat} (hn : m.length = 64 * n) (hl : m.length ≤ 1000000000) (t2 : List Int) :
    bigLoop _ _ (fun again x => T_ref7_Sum_loop2 bigLoop sol_ref7_block again x.1 x.2.1 x.2.2.1 x.2.2.2.1) (t2, (m, (castL iv, ((0 : Int), ())))) = some ((shaOut (states m n), ()), ((), ())) := by
  refine bigLoop_rule (I := fun x => x.2.1 = m ∧ ∃ i : Nat, i ≤ n ∧ x.2.2.2.1 = ((64 * i : Nat) : Int) ∧ x.2.2.1 = castL (states m i)) (m := fun x => ((m.length : Int) - x.2.2.2.1).toNat) (g := fun _ => some ((shaOut (states m n), ()), ((), ()))) ?_
    ⟨rfl, 0, by omega, rfl, rfl⟩ (by simp only [bigN_eq]; omega)
  rintro ⟨t, m', s, a, _⟩ again ⟨e0, i, hi, e2, e3⟩ hag
  simp only at e0 e2 e3 hag ⊢
  subst e0 e2 e3
  simp only [T_ref7_Sum_loop2, letR_eq, brR_dec, brR_and, Int.toNat_natCast]
  by_cases hc : i < n
  · rw [if_pos (by omega), w_i64 (by omega) (by omega), if_pos (by omega), if_pos (by omega), if_pos (by omega), show (((64 * i : Nat) : Int) + 64).toNat - 64 * i = 64 by omega,
      block_eq (len_states m' i) ((hm.drop _).take _) (by rw [List.length_take, List.length_drop]; omega)]
    simp only [bind_some']
    exact hag _ ⟨rfl, i + 1, by omega, by simp only; omega, rfl⟩ (by simp only; omega)
  · have : i = n := by omega
    subst this
    rw [if_neg (by omega)]
    exact rsumOut_eq t

theorem rsumLen_eq {l : List Int} (hb : Bytes l) {n k : Nat} (hn : n < 18446744073709551616) (hk : l.length + 8 = 64 * k) (hl : l.length ≤ 900000000) (t2 : List Int) :
    bigLoop _ _ (fun again x => T_ref7_Sum_loop1 bigLoop sol_ref7_block again x.1 x.2.1 x.2.2.1 x.2.2.2.1) (t2, (l, (((n : Nat) : Int), ((7 : Int), ())))) = some ((shaOut (states (l ++ beB 8 n) k), ()), ((), ())) := by
  refine Eq.trans (bigLoop_rule (I := fun x => x.2.2.1 = ((n : Nat) : Int) ∧ (-1 : Int) ≤ x.2.2.2.1 ∧ x.2.2.2.1 ≤ (7 : Int) ∧ Bytes x.2.1 ∧ (x.2.1.length : Int) + x.2.2.2.1 + 1 = ((64 * k : Nat) : Int)) (m := fun x => (x.2.2.2.1 + 1).toNat) (g := fun x => some ((shaOut (states (x.2.1 ++ beB (x.2.2.2.1 + 1).toNat n) k), ()), ((), ()))) ?_
    ⟨rfl, by simp only; omega, by simp only; omega, hb, by simp only; omega⟩ (by simp only [bigN_eq]; omega)) rfl
  rintro ⟨t, l', n', i, _⟩ again ⟨e0, e1, e2, e3, e4⟩ hag
  simp only at e0 e1 e2 e3 e4 hag ⊢
  subst e0
  simp only [T_ref7_Sum_loop1, letR_eq, brR_dec, append_def, ge_iff_le]
  by_cases hi : 0 ≤ i
  · obtain ⟨j, rfl⟩ := Int.eq_ofNat_of_zero_le hi
    rw [if_pos hi, w_i64 (n := 8 * (j : Int)) (by omega) (by omega), w_u64 (n := 8 * (j : Int)) (by omega) (by omega), if_pos (by omega), brR_room8 (by omega), w_i64 (by omega) (by omega), show (8 * (j : Int)).toNat = 8 * j by omega, Nat.min_eq_left (by omega)]
    have p : ∀ k : Nat, (2 : Int) ^ k = ((2 ^ k : Nat) : Int) := fun k => by rw [Int.natCast_pow]; rfl
    have hby : IntKind.wrap .u8 (Int.fdiv ((n : Nat) : Int) ((2 : Int) ^ (8 * j))) = ((n / 256 ^ j % 256 : Nat) : Int) := by
      rw [p, d32, IntKind.wrap_u8, pow256]; omega
    rw [hby, hag _ ⟨rfl, by simp only; omega, by simp only; omega, e3.append (by intro x hx; simp only [List.mem_singleton] at hx; subst hx; omega), by simp only [List.length_append, List.length_singleton]; omega⟩ (by simp only; omega)]
    simp only
    rw [show ((j : Int) - 1 + 1).toNat = j by omega, show ((j : Int) + 1).toNat = j + 1 by omega, beB]; simp
  · have : i = -1 := by omega
    subst this
    rw [if_neg hi]
    have := rsumBlocks_eq e3 (n := k) (by omega) (by omega) t
    refine Eq.trans this ?_
    simp [beB]

theorem rsum_eq {b : List Int} (hb : Bytes b) (hl : b.length ≤ 100000000) : sol_ref7_Sum (b, ()) = some ((sha b, ()), ((), ())) := by
  unfold sol_ref7_Sum T_ref7_Sum
  simp only [append_def]
  rw [brR_room8 (by omega), brR_room8 (by omega)]
  refine bigLoop_rule (I := fun x => x.1 = b ∧ ∃ j : Nat, j ≤ (119 - b.length % 64) % 64 ∧ x.2.2.1 = b ++ 128 :: List.replicate j 0) (m := fun x => b.length + 100 - x.2.2.1.length) (g := fun _ => some ((sha b, ()), ((), ()))) ?_
    ⟨rfl, 0, by omega, rfl⟩ (by simp only [bigN_eq]; omega)
  rintro ⟨b', t, l, _⟩ again ⟨e0, j, hj, e1⟩ hag
  simp only at e0 e1 hag ⊢
  subst e0 e1
  have hlen : (b' ++ 128 :: List.replicate j (0 : Int)).length = b'.length + 1 + j := by simp; omega
  simp only [T_ref7_Sum_loop0, letR_eq, brR_dec, brR_not, append_def]
  rw [tmod_pos (by omega), hlen, brR_room8 (by omega)]
  by_cases hc : j = (119 - b'.length % 64) % 64
  · rw [if_pos (by omega), w_u64 (n := ((b'.length : Nat) : Int)) (by omega) (by omega), w_u64 (by omega) (by omega), show ((b'.length : Nat) : Int) * 8 = ((b'.length * 8 : Nat) : Int) by omega]
    have hby : Bytes (b' ++ 128 :: List.replicate j (0 : Int)) := hb.append (by
      intro x hx
      rcases List.mem_cons.1 hx with rfl | hx
      · omega
      · rw [List.eq_of_mem_replicate hx]; omega)
    refine (rsumLen_eq hby (n := b'.length * 8) (k := (b'.length + 1 + j + 8) / 64) (by omega) (by omega) (by omega) t).trans ?_
    have hp : b' ++ 128 :: List.replicate j (0 : Int) ++ beB 8 (b'.length * 8) = padded b' := by simp [padded, hc]
    have hpl : (padded b').length = b'.length + 1 + j + 8 := by rw [← hp, List.length_append, hlen, len_beB]
    rw [hp, ← hpl]; rfl
  · rw [if_neg (by omega)]
    have e : b' ++ 128 :: List.replicate j (0 : Int) ++ [0] = b' ++ 128 :: List.replicate (j + 1) 0 := by
      rw [List.replicate_succ']; simp
    exact hag _ ⟨rfl, j + 1, by omega, by simp only; exact e⟩ (by simp only [e, hlen]; simp; omega)

end Go.Pon
/-
  What package hash and its reference compute: leaves, nodes, the hexadecimal form.
-/
set_option autoImplicit false
set_option linter.unusedVariables false
set_option linter.unusedSimpArgs false
set_option maxRecDepth 100000
namespace Go.Pon
open Go

/-- A hash. -/
def H32 (h : List Int) : Prop := h.length = 32 ∧ Bytes h

theorem h32_sha (b : List Int) : H32 (sha b) := ⟨len_sha b, bytes_sha b⟩
theorem h32_wf {h : List Int} (hw : (Ty.arr 32 (.int .u8)).wf h) : H32 h := ⟨hw.1, fun x hx => inK_u8.1 (hw.2 x hx)⟩

def leafH (b : List Int) : List Int := sha (0 :: b)
def nodeH (x y : List Int) : List Int := sha (1 :: (x ++ y))

theorem bytes_cons {x : Int} {b : List Int} (hx : 0 ≤ x ∧ x ≤ 255) (hb : Bytes b) : Bytes (x :: b) := fun y hy => by
  rcases List.mem_cons.1 hy with rfl | hy
  · exact hx
  · exact hb y hy

theorem leaf_eq {b : List Int} (hb : Bytes b) (hl : b.length ≤ 90000000) : sol_hash_Leaf (b, ()) = some ((leafH b, ()), ((), ())) := by
  unfold sol_hash_Leaf T_hash_Leaf
  rw [concat_eq (by simp; omega) (by simp)]
  simp only [bind_some', List.flatten_cons, List.flatten_nil, List.append_nil, List.cons_append, List.nil_append]
  rw [sum_eq (bytes_cons (by omega) hb) (by simp; omega)]
  rfl

theorem take32 {x : List Int} (h : x.length = 32) : List.take (32 - 0) (List.drop 0 x) = x := by
  rw [List.drop_zero, List.take_of_length_le (by omega)]

theorem node_eq {x y : List Int} (hx : H32 x) (hy : H32 y) : sol_hash_Node (x, (y, ())) = some ((nodeH x y, ()), ((), ((), ()))) := by
  unfold sol_hash_Node T_hash_Node
  simp only
  have h1 := hx.1
  have h2 := hy.1
  rw [take32 h1, take32 h2, concat_eq (by simp; omega) (by simp)]
  simp only [bind_some', List.flatten_cons, List.flatten_nil, List.append_nil, List.cons_append, List.nil_append]
  rw [sum_eq (bytes_cons (by omega) (hx.2.append hy.2)) (by simp; omega)]
  rfl

theorem rleaf_eq {b : List Int} (hb : Bytes b) (hl : b.length ≤ 90000000) : sol_ref7_Leaf (b, ()) = some ((leafH b, ()), ((), ())) := by
  unfold sol_ref7_Leaf T_ref7_Leaf
  simp only [append_def]
  rw [brR_room8 (by omega), rsum_eq (b := [0] ++ b) (bytes_cons (by omega) hb) (by simp; omega)]
  rfl

theorem rnode_eq {x y : List Int} (hx : H32 x) (hy : H32 y) : sol_ref7_Node (x, (y, ())) = some ((nodeH x y, ()), ((), ((), ()))) := by
  unfold sol_ref7_Node T_ref7_Node
  simp only [letR_eq, append_def]
  have h1 := hx.1
  have h2 := hy.1
  rw [take32 h1, take32 h2, brR_room8 (by omega), brR_room8 (by simp; omega), rsum_eq (b := [1] ++ x ++ y) (bytes_cons (by omega) (hx.2.append hy.2)) (by simp; omega)]
  rfl

theorem h32_node (x y : List Int) : H32 (nodeH x y) := h32_sha _
theorem h32_leaf (x : List Int) : H32 (leafH x) := h32_sha _

theorem eqD_h32 (x y : List Int) : eqD (.arr 32 (.int .u8)) x y = decide (x = y) := eqD_dec _ _ _

/-! ### The hexadecimal form -/

def hexc : List Int := [48, 49, 50, 51, 52, 53, 54, 55, 56, 57, 97, 98, 99, 100, 101, 102]

def hex2 (x : Int) : List Int := [hexc.getD (x.toNat / 16) 0, hexc.getD (x.toNat % 16) 0]

def fmtH (h : List Int) : List Int := h.flatMap hex2

theorem len_fmtH : ∀ h : List Int, (fmtH h).length = 2 * h.length
  | [] => rfl
  | x :: h => by
    have := len_fmtH h
    simp only [fmtH, List.flatMap_cons, List.length_append, List.length_cons] at this ⊢
    simp only [hex2, List.length_cons, List.length_nil] at this ⊢
    omega

theorem fmtH_take {h : List Int} {i : Nat} (hi : i < h.length) : fmtH (h.take (i + 1)) = fmtH (h.take i) ++ hex2 (h.getD i 0) := by
  rw [List.take_succ_eq_append_getElem hi, fmtH, List.flatMap_append, List.getD_eq_getElem?_getD, List.getElem?_eq_getElem hi]; simp [fmtH]

theorem and15 {x : Int} (h : 0 ≤ x ∧ x ≤ 255) : IntKind.wrap .u8 ((BitVec.toNat (BitVec.ofInt 8 x &&& BitVec.ofInt 8 15) : Nat) : Int) = ((x.toNat % 16 : Nat) : Int) := by
  have key : ∀ n, n < 256 → IntKind.wrap .u8 ((BitVec.toNat (BitVec.ofInt 8 ((n : Nat) : Int) &&& BitVec.ofInt 8 15) : Nat) : Int) = ((n % 16 : Nat) : Int) := by decide
  obtain ⟨n, rfl⟩ := Int.eq_ofNat_of_zero_le h.1
  exact key n (by omega)

theorem format_eq {h : List Int} (hh : H32 h) : sol_hash_Format (h, ()) = some ((fmtH h, ()), ((), ())) := by
  unfold sol_hash_Format T_hash_Format
  obtain ⟨h1, h2⟩ := hh
  refine bigLoop_rule (I := fun x => x.2.1 = h ∧ (0 : Int) ≤ x.2.2.1 ∧ x.2.2.1 ≤ (32 : Int) ∧ x.1 = fmtH (h.take x.2.2.1.toNat)) (m := fun x => ((32 : Int) - x.2.2.1).toNat) (g := fun _ => some ((fmtH h, ()), ((), ()))) ?_
    ⟨rfl, by simp only; omega, by simp only; omega, rfl⟩ (by simp only [bigN_eq]; omega)
  rintro ⟨o, h', i, _⟩ again ⟨e0, e1, e2, e3⟩ hag
  simp only at e0 e1 e2 e3 hag ⊢
  subst e0 e3
  obtain ⟨i, rfl⟩ := Int.eq_ofNat_of_zero_le e1
  simp only [T_hash_Format_loop0, letR_eq, brR_dec, brR_inR, append_def, Int.toNat_natCast]
  by_cases hi : i < 32
  · have hb := h2.at i
    have hle : (fmtH (h'.take i)).length ≤ 64 := by rw [len_fmtH, List.length_take]; omega
    rw [if_pos (by omega), if_pos (by omega), and15 hb, Int.fdiv_eq_ediv_of_nonneg _ (by omega), if_pos (by omega), if_pos (by omega), brR_room8 (by omega), w_i64 (by omega) (by omega), show (h'.getD i 0 / 16).toNat = (h'.getD i 0).toNat / 16 by omega, Int.toNat_natCast]
    exact hag _ ⟨rfl, by simp only; omega, by simp only; omega, by simp only; rw [show ((i : Int) + 1).toNat = i + 1 by omega, fmtH_take (by omega)]; rfl⟩ (by simp only; omega)
  · have : i = 32 := by omega
    subst this
    rw [if_neg (by omega), List.take_of_length_le (by omega)]

theorem hexc_cut : ∀ m, m < 16 → (hexc.drop m).take (m + 1 - m) = [hexc.getD m 0] := by decide

theorem rformat_eq {h : List Int} (hh : H32 h) : sol_ref7_Format (h, ()) = some ((fmtH h, ()), ((), ())) := by
  unfold sol_ref7_Format T_ref7_Format
  obtain ⟨h1, h2⟩ := hh
  refine bigLoop_rule (I := fun x => x.1 = h ∧ (0 : Int) ≤ x.2.2.1 ∧ x.2.2.1 ≤ (32 : Int) ∧ x.2.1 = fmtH (h.take x.2.2.1.toNat)) (m := fun x => ((32 : Int) - x.2.2.1).toNat) (g := fun _ => some ((fmtH h, ()), ((), ()))) ?_
    ⟨rfl, by simp only; omega, by simp only; omega, rfl⟩ (by simp only [bigN_eq]; omega)
  rintro ⟨h', o, i, _⟩ again ⟨e0, e1, e2, e3⟩ hag
  simp only at e0 e1 e2 e3 hag ⊢
  subst e0 e3
  obtain ⟨i, rfl⟩ := Int.eq_ofNat_of_zero_le e1
  simp only [T_ref7_Format_loop0, letR_eq, brR_dec, brR_inR, brR_and, append_def, Int.toNat_natCast]
  by_cases hi : i < 32
  · have hb := h2.at i
    have hle : (fmtH (h'.take i)).length ≤ 64 := by rw [len_fmtH, List.length_take]; omega
    rw [if_pos (by omega), if_pos (by omega), if_pos (by omega), tdiv_pos hb.1, tmod_pos hb.1, w_u8 (n := h'.getD i 0 / 16) (by omega) (by omega), w_u8 (n := h'.getD i 0 / 16 + 1) (by omega) (by omega), w_u8 (n := h'.getD i 0 % 16 + 1) (by omega) (by omega)]
    have c1 := hexc_cut ((h'.getD i 0).toNat / 16) (by omega)
    have c2 := hexc_cut ((h'.getD i 0).toNat % 16) (by omega)
    rw [show (h'.getD i 0 / 16 + 1).toNat = (h'.getD i 0).toNat / 16 + 1 by omega, show (h'.getD i 0 / 16).toNat = (h'.getD i 0).toNat / 16 by omega, show (h'.getD i 0 % 16 + 1).toNat = (h'.getD i 0).toNat % 16 + 1 by omega, show (h'.getD i 0 % 16).toNat = (h'.getD i 0).toNat % 16 by omega]
    rw [show ([48, 49, 50, 51, 52, 53, 54, 55, 56, 57, 97, 98, 99, 100, 101, 102] : List Int) = hexc from rfl, c1, c2, if_pos (by omega), if_pos (by omega), if_pos (by omega), if_pos (by simp; omega), if_pos (by omega), if_pos (by omega), if_pos (by omega), if_pos (by simp; omega), w_i64 (by omega) (by omega)]
    exact hag _ ⟨rfl, by simp only; omega, by simp only; omega, by simp only; rw [show ((i : Int) + 1).toNat = i + 1 by omega, fmtH_take (by omega), List.append_assoc]; rfl⟩ (by simp only; omega)
  · have : i = 32 := by omega
    subst this
    rw [if_neg (by omega), List.take_of_length_le (by omega)]

/-- The value of a hexadecimal digit, or -1. -/
def hv (c : Int) : Int := if 48 ≤ c ∧ c ≤ 57 then c - 48 else if 97 ≤ c ∧ c ≤ 102 then c - 87 else -1

theorem hv_lt (c : Int) : -1 ≤ hv c ∧ hv c ≤ 15 := by unfold hv; split <;> (try split) <;> omega

theorem digit_eq (c : Int) : sol_hash_digit (c, ()) = some ((if hv c < 0 then 0 else hv c, (decide (0 ≤ hv c), ())), ((), ())) := by
  unfold sol_hash_digit T_hash_digit hv
  simp only [brR_dec, ge_iff_le]
  by_cases h1 : 48 ≤ c <;> by_cases h2 : c ≤ 57 <;> by_cases h3 : 97 ≤ c <;> by_cases h4 : c ≤ 102 <;> simp only [h1, h2, h3, h4, if_true, if_false, true_and, false_and, and_true, and_false]
  all_goals try omega
  all_goals try rfl
  all_goals first
    | (rw [w_u8 (n := c - 48) (by omega) (by omega), if_neg (by omega), decide_eq_true (by omega)]; done)
    | (rw [w_u8 (n := c - 97) (by omega) (by omega), w_u8 (by omega) (by omega), if_neg (by omega), decide_eq_true (by omega), show c - 97 + 10 = c - 87 by omega])

theorem hexDigit_eq (c : Int) : sol_ref7_HexDigit (c, ()) = some ((hv c, ()), ((), ())) := by
  unfold sol_ref7_HexDigit T_ref7_HexDigit hv
  simp only [brR_dec, ge_iff_le]
  by_cases h1 : 48 ≤ c <;> by_cases h2 : c ≤ 57 <;> by_cases h3 : 97 ≤ c <;> by_cases h4 : c ≤ 102 <;> simp only [h1, h2, h3, h4, if_true, if_false, true_and, false_and, and_true, and_false]
  all_goals try omega
  all_goals try rfl
  all_goals first
    | (rw [w_u8 (n := c - 48) (by omega) (by omega), w_i64 (by omega) (by omega)]; done)
    | (rw [w_u8 (n := c - 97) (by omega) (by omega), w_i64 (n := c - 97) (by omega) (by omega), w_i64 (by omega) (by omega), show c - 97 + 10 = c - 87 by omega])

/-- The bytes that the first i digits give. -/
def hN (s : List Int) (i : Nat) : List Int := (List.range 32).map fun k => if 2 * k + 1 < i then hv (s.getD (2 * k) 0) * 16 + hv (s.getD (2 * k + 1) 0) else if 2 * k < i then hv (s.getD (2 * k) 0) else 0

theorem len_hN (s : List Int) (i : Nat) : (hN s i).length = 32 := by simp [hN]

theorem hN_getD {s : List Int} {i k : Nat} (hk : k < 32) : (hN s i).getD k 0 = if 2 * k + 1 < i then hv (s.getD (2 * k) 0) * 16 + hv (s.getD (2 * k + 1) 0) else if 2 * k < i then hv (s.getD (2 * k) 0) else 0 := by
  rw [hN, List.getD_eq_getElem?_getD, List.getElem?_map, List.getElem?_range hk]; rfl

theorem hN_ext {s : List Int} {l : List Int} {i : Nat} (hl : l.length = 32) (h : ∀ k, k < 32 → l.getD k 0 = (hN s i).getD k 0) : l = hN s i := by
  apply List.ext_getElem
  · rw [hl, len_hN]
  · intro k h1 h2
    have := h k (by omega)
    rw [List.getD_eq_getElem?_getD, List.getElem?_eq_getElem h1, List.getD_eq_getElem?_getD, List.getElem?_eq_getElem h2] at this
    exact this

theorem lgetD_set {l : List Int} {i k : Nat} {x : Int} (hi : i < l.length) : (l.set i x).getD k 0 = if k = i then x else l.getD k 0 := by
  rw [List.getD_eq_getElem?_getD, List.getElem?_set]
  by_cases h : i = k
  · subst h; rw [if_pos rfl, if_pos hi, if_pos rfl]; rfl
  · rw [if_neg h, if_neg (fun e => h e.symm), List.getD_eq_getElem?_getD]

/-- Sixty-four hexadecimal digits. -/
def Hex64 (s : List Int) : Prop := s.length = 64 ∧ ∀ i, i < 64 → 0 ≤ hv (s.getD i 0)

noncomputable instance (s : List Int) : Decidable (Hex64 s) := Classical.propDecidable _

/-- What Parse gives. -/
noncomputable def parseH (s : List Int) : List Int × (Int × Unit) :=
  if Hex64 s then (hN s 64, (0, ())) else (List.replicate 32 0, (3, ()))

theorem hN_zero (s : List Int) : hN s 0 = List.replicate 32 0 := by
  symm
  refine hN_ext (by simp) fun k hk => ?_
  rw [hN_getD hk, if_neg (by omega), if_neg (by omega), List.getD_eq_getElem?_getD, List.getElem?_replicate, if_pos hk]; rfl

theorem parse_eq (s : List Int) (hs : s.length ≤ 1000000000) : sol_hash_Parse (s, ()) = some (parseH s, ((), ())) := by
  unfold sol_hash_Parse T_hash_Parse parseH
  simp only [brR_not, brR_dec]
  by_cases hl : s.length = 64
  · rw [if_pos (by omega)]
    refine bigLoop_rule (I := fun x => x.1 = s ∧ (0 : Int) ≤ x.2.2.2.1 ∧ x.2.2.2.1 ≤ (32 : Int) ∧ x.2.2.1 = hN s (2 * x.2.2.2.1.toNat) ∧ ∀ i, i < 2 * x.2.2.2.1.toNat → 0 ≤ hv (s.getD i 0)) (m := fun x => ((32 : Int) - x.2.2.2.1).toNat)
      (g := fun _ => some (if Hex64 s then (hN s 64, (0, ())) else (List.replicate 32 0, (3, ())), ((), ()))) ?_
      ⟨rfl, by simp only; omega, by simp only; omega, (hN_zero s).symm, fun i hi => by simp at hi⟩ (by simp only [bigN_eq]; omega)
    rintro ⟨s', t, h, i, _⟩ again ⟨e0, e1, e2, e3, e4⟩ hag
    simp only at e0 e1 e2 e3 e4 hag ⊢
    subst e0 e3
    obtain ⟨i, rfl⟩ := Int.eq_ofNat_of_zero_le e1
    simp only [Int.toNat_natCast] at e4
    simp only [T_hash_Parse_loop0, letR_eq, brR_dec, brR_inR, brR_not, Int.toNat_natCast]
    by_cases hi : i < 32
    · rw [if_pos (by omega), w_i64 (n := 2 * (i : Int)) (by omega) (by omega), w_i64 (n := 2 * (i : Int) + 1) (by omega) (by omega), if_pos (by omega), show (2 * (i : Int)).toNat = 2 * i by omega, show (2 * (i : Int) + 1).toNat = 2 * i + 1 by omega, digit_eq, digit_eq]
      simp only [bind_some']
      rw [if_pos (by omega), brR_dec, brR_dec]
      have b1 := hv_lt (s'.getD (2 * i) 0)
      have b2 := hv_lt (s'.getD (2 * i + 1) 0)
      by_cases c1 : 0 ≤ hv (s'.getD (2 * i) 0)
      · rw [if_pos c1]
        by_cases c2 : 0 ≤ hv (s'.getD (2 * i + 1) 0)
        · rw [if_pos c2, if_pos (by omega), if_neg (by omega), if_neg (by omega), w_i64 (by omega) (by omega)]
          have key : ∀ p, p < 16 → ∀ q, q < 16 → IntKind.wrap .u8 ((BitVec.toNat (BitVec.ofInt 8 (IntKind.wrap .u8 (((p : Nat) : Int) * 16)) ||| BitVec.ofInt 8 ((q : Nat) : Int)) : Nat) : Int) = ((p : Nat) : Int) * 16 + ((q : Nat) : Int) := by decide
          have kk := key (hv (s'.getD (2 * i) 0)).toNat (by omega) (hv (s'.getD (2 * i + 1) 0)).toNat (by omega)
          rw [show (((hv (s'.getD (2 * i) 0)).toNat : Nat) : Int) = hv (s'.getD (2 * i) 0) by omega, show (((hv (s'.getD (2 * i + 1) 0)).toNat : Nat) : Int) = hv (s'.getD (2 * i + 1) 0) by omega] at kk
          rw [kk]
          refine hag _ ⟨rfl, by simp only; omega, by simp only; omega, ?_, ?_⟩ (by simp only; omega)
          · simp only
            rw [show ((i : Int) + 1).toNat = i + 1 by omega]
            refine hN_ext (by rw [List.length_set, len_hN]) fun k hk => ?_
            rw [lgetD_set (by rw [len_hN]; omega), hN_getD hk, hN_getD hk]
            by_cases hki : k = i
            · subst hki; rw [if_pos rfl, if_pos (by omega)]
            · rw [if_neg hki]
              by_cases hlt : k < i
              · rw [if_pos (by omega), if_pos (by omega)]
              · rw [if_neg (by omega), if_neg (by omega), if_neg (by omega), if_neg (by omega)]
          · simp only
            rw [show ((i : Int) + 1).toNat = i + 1 by omega]
            intro k hk
            have : k < 2 * i ∨ k = 2 * i ∨ k = 2 * i + 1 := by omega
            rcases this with h | rfl | rfl
            · exact e4 k h
            · exact c1
            · exact c2
        · rw [if_neg c2, if_neg (fun h => c2 (h.2 _ (by omega)))]
      · rw [if_neg c1, if_neg (fun h => c1 (h.2 _ (by omega)))]
    · have : i = 32 := by omega
      subst this
      rw [if_neg (by omega), if_pos ⟨hl, fun k hk => e4 k (by omega)⟩]
  · rw [if_neg (by omega), if_neg (fun h => hl h.1)]

theorem rparse_eq (s : List Int) (hs : s.length ≤ 1000000000) : sol_ref7_Parse (s, ()) = some (parseH s, ((), ())) := by
  unfold sol_ref7_Parse T_ref7_Parse parseH
  simp only [brR_not, brR_dec]
  by_cases hl : s.length = 64
  · rw [if_pos (by omega)]
    refine bigLoop_rule (I := fun x => x.1 = s ∧ (0 : Int) ≤ x.2.2.2.1 ∧ x.2.2.2.1 ≤ (64 : Int) ∧ x.2.2.1 = hN s x.2.2.2.1.toNat ∧ ∀ i, i < x.2.2.2.1.toNat → 0 ≤ hv (s.getD i 0)) (m := fun x => ((64 : Int) - x.2.2.2.1).toNat)
      (g := fun _ => some (if Hex64 s then (hN s 64, (0, ())) else (List.replicate 32 0, (3, ())), ((), ()))) ?_
      ⟨rfl, by simp only; omega, by simp only; omega, (hN_zero s).symm, fun i hi => by simp at hi⟩ (by simp only [bigN_eq]; omega)
    rintro ⟨s', t, h, i, _⟩ again ⟨e0, e1, e2, e3, e4⟩ hag
    simp only at e0 e1 e2 e3 e4 hag ⊢
    subst e0 e3
    obtain ⟨i, rfl⟩ := Int.eq_ofNat_of_zero_le e1
    simp only [Int.toNat_natCast] at e4
    simp only [T_ref7_Parse_loop0, letR_eq, brR_dec, brR_inR, brR_not, Int.toNat_natCast]
    by_cases hi : i < 64
    · have hA : (0 : Int) ≤ (i : Int) ∧ (i : Int) < ((s'.length : Nat) : Int) := by omega
      rw [if_pos (by omega), if_pos hA, hexDigit_eq]
      simp only [bind_some']
      have b1 := hv_lt (s'.getD i 0)
      by_cases c1 : hv (s'.getD i 0) < 0
      · rw [if_pos c1, if_neg (fun h => absurd (h.2 i hi) (by omega))]
      · rw [if_neg c1, tdiv_pos (by omega), w_i64 (n := (i : Int) / 2) (by omega) (by omega), if_pos (by omega), if_pos (by omega), if_pos (by omega), show ((i : Int) / 2).toNat = i / 2 by omega, w_i64 (by omega) (by omega)]
        have b2 := hv_lt (s'.getD (2 * (i / 2)) 0)
        have hset : (hN s' i).set (i / 2) (IntKind.wrap .u8 (IntKind.wrap .u8 ((hN s' i).getD (i / 2) 0 * 16) + IntKind.wrap .u8 (hv (s'.getD i 0)))) = hN s' (i + 1) := by
          refine hN_ext (by rw [List.length_set, len_hN]) fun k hk => ?_
          rw [lgetD_set (by rw [len_hN]; omega), hN_getD (k := k) hk]
          by_cases hki : k = i / 2
          · rw [if_pos hki, hN_getD (by omega)]
            subst hki
            rcases Nat.mod_two_eq_zero_or_one i with hm | hm
            · rw [hN_getD (by omega), if_neg (by omega), if_neg (by omega), if_neg (by omega), if_pos (by omega), w_u8 (n := 0 * 16) (by omega) (by omega), w_u8 (n := hv (s'.getD i 0)) (by omega) (by omega), w_u8 (by omega) (by omega), show 2 * (i / 2) = i by omega]; omega
            · have h0 := e4 (2 * (i / 2)) (by omega)
              rw [hN_getD (by omega), if_neg (by omega), if_pos (by omega), if_pos (by omega), w_u8 (n := hv (s'.getD (2 * (i / 2)) 0) * 16) (by omega) (by omega), w_u8 (n := hv (s'.getD i 0)) (by omega) (by omega), w_u8 (by omega) (by omega), show 2 * (i / 2) + 1 = i by omega]
          · rw [if_neg hki, hN_getD hk]
            by_cases hlt : k < i / 2
            · rw [if_pos (by omega), if_pos (by omega)]
            · rw [if_neg (by omega), if_neg (by omega), if_neg (by omega), if_neg (by omega)]
        rw [hset]
        refine hag _ ⟨rfl, by simp only; omega, by simp only; omega, ?_, ?_⟩ (by simp only; omega)
        · simp only
          rw [show ((i : Int) + 1).toNat = i + 1 by omega]
        · simp only
          rw [show ((i : Int) + 1).toNat = i + 1 by omega]
          intro k hk
          have : k < i ∨ k = i := by omega
          rcases this with h | rfl
          · exact e4 k h
          · omega
    · have : i = 64 := by omega
      subst this
      rw [if_neg (by omega), if_pos ⟨hl, fun k hk => e4 k (by omega)⟩]
  · rw [if_neg (by omega), if_neg (fun h => hl h.1)]

theorem fmtH_getD : ∀ {h : List Int} {k : Nat}, k < h.length → (fmtH h).getD (2 * k) 0 = hexc.getD ((h.getD k 0).toNat / 16) 0 ∧ (fmtH h).getD (2 * k + 1) 0 = hexc.getD ((h.getD k 0).toNat % 16) 0
  | [], k, hk => by simp at hk
  | x :: h, 0, _ => ⟨rfl, rfl⟩
  | x :: h, k + 1, hk => by
    have := fmtH_getD (h := h) (k := k) (by simpa using hk)
    have e : fmtH (x :: h) = hexc.getD (x.toNat / 16) 0 :: hexc.getD (x.toNat % 16) 0 :: fmtH h := rfl
    rw [e, show 2 * (k + 1) = 2 * k + 1 + 1 by omega]
    simp only [List.getD_cons_succ]
    exact this

theorem hv_hexc : ∀ m, m < 16 → hv (hexc.getD m 0) = ((m : Nat) : Int) := by decide

theorem parse_format {h : List Int} (hh : H32 h) : parseH (fmtH h) = (h, (0, ())) := by
  obtain ⟨h1, h2⟩ := hh
  unfold parseH
  have hdig : ∀ k, k < 32 → hv ((fmtH h).getD (2 * k) 0) = (((h.getD k 0).toNat / 16 : Nat) : Int) ∧ hv ((fmtH h).getD (2 * k + 1) 0) = (((h.getD k 0).toNat % 16 : Nat) : Int) := fun k hk => by
    have hb := h2.at k
    obtain ⟨g1, g2⟩ := fmtH_getD (h := h) (k := k) (by omega)
    rw [g1, g2, hv_hexc _ (by omega), hv_hexc _ (by omega)]
    exact ⟨rfl, rfl⟩
  have h64 : Hex64 (fmtH h) := by
    refine ⟨by rw [len_fmtH]; omega, fun i hi => ?_⟩
    obtain ⟨g1, g2⟩ := hdig (i / 2) (by omega)
    rcases Nat.mod_two_eq_zero_or_one i with hm | hm
    · rw [show 2 * (i / 2) = i by omega] at g1; rw [g1]; omega
    · rw [show 2 * (i / 2) + 1 = i by omega] at g2; rw [g2]; omega
  rw [if_pos h64]
  congr 1
  symm
  refine hN_ext h1 fun k hk => ?_
  have hb := h2.at k
  obtain ⟨g1, g2⟩ := hdig k hk
  rw [hN_getD hk, if_pos (by omega), g1, g2]; omega

end Go.Pon
/-
  What package merkle and its reference compute.
-/
set_option autoImplicit false
set_option linter.unusedVariables false
set_option linter.unusedSimpArgs false
set_option maxRecDepth 100000
namespace Go.Pon
open Go

/-- The greatest power of two below n. -/
def sp (n : Nat) : Nat := 2 ^ Nat.log2 (n - 1)

theorem sp_eq {j n : Nat} (h1 : 2 ^ j < n) (h2 : n ≤ 2 * 2 ^ j) : sp n = 2 ^ j := by
  have hp : 0 < 2 ^ j := Nat.two_pow_pos j
  have : Nat.log2 (n - 1) = j := (Nat.log2_eq_iff (by omega)).2 ⟨by omega, by rw [Nat.pow_succ]; omega⟩
  rw [sp, this]

theorem sp_facts {n : Nat} (h : 2 ≤ n) : 1 ≤ sp n ∧ sp n < n ∧ n ≤ 2 * sp n := by
  have h0 : n - 1 ≠ 0 := by omega
  have h1 := Nat.log2_self_le h0
  have h2 := @Nat.lt_log2_self (n - 1)
  rw [Nat.pow_succ] at h2
  have hp : 0 < 2 ^ Nat.log2 (n - 1) := Nat.two_pow_pos _
  unfold sp
  exact ⟨hp, by omega, by omega⟩

theorem splitPoint_eq {n : Nat} (h2 : 2 ≤ n) (h3 : n ≤ 9223372036854775807) : sol_merkle_splitPoint (((n : Nat) : Int), ()) = some ((((sp n : Nat) : Int), ()), ((), ())) := by
  unfold sol_merkle_splitPoint T_merkle_splitPoint
  refine bigLoop_rule (I := fun x => x.1 = ((n : Nat) : Int) ∧ ∃ j : Nat, x.2.1 = ((2 ^ j : Nat) : Int) ∧ 2 ^ j < n) (m := fun x => (((n : Nat) : Int) - x.2.1).toNat) (g := fun _ => some ((((sp n : Nat) : Int), ()), ((), ()))) ?_
    ⟨rfl, 0, rfl, by simp only [Nat.pow_zero]; omega⟩ (by simp only [bigN_eq]; omega)
  rintro ⟨n', k, _⟩ again ⟨e0, j, e1, e2⟩ hag
  simp only at e0 e1 hag ⊢
  subst e0 e1
  have hp : 0 < 2 ^ j := Nat.two_pow_pos j
  simp only [T_merkle_splitPoint_loop0, brR_dec]
  rw [w_i64 (by omega) (by omega)]
  by_cases hc : ((2 ^ j : Nat) : Int) < ((n : Nat) : Int) - ((2 ^ j : Nat) : Int)
  · rw [if_pos hc, w_i64 (by omega) (by omega)]
    exact hag _ ⟨rfl, j + 1, by simp only [Nat.pow_succ]; omega, by rw [Nat.pow_succ]; omega⟩ (by simp only; omega)
  · rw [if_neg hc, sp_eq e2 (by omega)]

theorem rsplitPoint_eq {n : Nat} (h2 : 2 ≤ n) (h3 : n ≤ 9223372036854775807) : sol_ref8_SplitPoint (((n : Nat) : Int), ()) = some ((((sp n : Nat) : Int), ()), ((), ())) := by
  unfold sol_ref8_SplitPoint T_ref8_SplitPoint
  refine bigLoop_rule (I := fun x => x.1 = ((n : Nat) : Int) ∧ ∃ j : Nat, x.2.1 = ((2 ^ j : Nat) : Int) ∧ 2 ^ j < n) (m := fun x => (((n : Nat) : Int) - x.2.1).toNat) (g := fun _ => some ((((sp n : Nat) : Int), ()), ((), ()))) ?_
    ⟨rfl, 0, rfl, by simp only [Nat.pow_zero]; omega⟩ (by simp only [bigN_eq]; omega)
  rintro ⟨n', k, _⟩ again ⟨e0, j, e1, e2⟩ hag
  simp only at e0 e1 hag ⊢
  subst e0 e1
  have hp : 0 < 2 ^ j := Nat.two_pow_pos j
  simp only [T_ref8_SplitPoint_loop0, brR_dec]
  rw [w_i64 (by omega) (by omega)]
  by_cases hc : ((2 ^ j : Nat) : Int) < ((n : Nat) : Int) - ((2 ^ j : Nat) : Int)
  · rw [if_pos hc, w_i64 (by omega) (by omega)]
    exact hag _ ⟨rfl, j + 1, by simp only [Nat.pow_succ]; omega, by rw [Nat.pow_succ]; omega⟩ (by simp only; omega)
  · rw [if_neg hc, sp_eq e2 (by omega)]

abbrev Z32 : List Int := List.replicate 32 0

theorem h32_zero : H32 Z32 := ⟨by simp, fun x hx => by rw [List.eq_of_mem_replicate hx]; omega⟩

def AllH (l : List (List Int)) : Prop := ∀ h ∈ l, H32 h

theorem AllH.take {l : List (List Int)} (h : AllH l) (i : Nat) : AllH (l.take i) := fun x hx => h x (List.mem_of_mem_take hx)
theorem AllH.drop {l : List (List Int)} (h : AllH l) (i : Nat) : AllH (l.drop i) := fun x hx => h x (List.mem_of_mem_drop hx)
theorem AllH.append {l m : List (List Int)} (h : AllH l) (k : AllH m) : AllH (l ++ m) := fun x hx => by
  rcases List.mem_append.1 hx with hx | hx
  · exact h x hx
  · exact k x hx
theorem AllH.at {l : List (List Int)} (h : AllH l) (i : Nat) : H32 (l.getD i Z32) := by
  rcases Nat.lt_or_ge i l.length with hi | hi
  · exact h _ (getD_mem hi)
  · rw [List.getD_eq_getElem?_getD, List.getElem?_eq_none hi]; exact h32_zero
theorem AllH.one {x : List Int} (h : H32 x) : AllH [x] := fun y hy => by simp only [List.mem_singleton] at hy; subst hy; exact h

/-- The root of a list of hashes. -/
def rootH (l : List (List Int)) : List Int :=
  if l.length = 0 then sha [] else if l.length = 1 then l.getD 0 Z32 else
    if h : 2 ≤ l.length then nodeH (rootH (l.take (sp l.length))) (rootH (l.drop (sp l.length))) else []
termination_by l.length
decreasing_by
  all_goals
    have := sp_facts h
    simp only [List.length_take, List.length_drop]
    omega

theorem rootH_zero {l : List (List Int)} (h : l.length = 0) : rootH l = sha [] := by rw [rootH, if_pos h]
theorem rootH_one {l : List (List Int)} (h : l.length = 1) : rootH l = l.getD 0 Z32 := by rw [rootH, if_neg (by omega), if_pos h]
theorem rootH_two {l : List (List Int)} (h : 2 ≤ l.length) : rootH l = nodeH (rootH (l.take (sp l.length))) (rootH (l.drop (sp l.length))) := by
  conv => lhs; rw [rootH]
  rw [if_neg (by omega), if_neg (by omega), dif_pos h]

theorem h32_root {l : List (List Int)} (h : AllH l) : H32 (rootH l) := by
  by_cases h0 : l.length = 0
  · rw [rootH_zero h0]; exact h32_sha _
  by_cases h1 : l.length = 1
  · rw [rootH_one h1]; exact h.at 0
  rw [rootH_two (by omega)]; exact h32_node _ _

theorem rootN_eq : ∀ (f : Nat) (l : List (List Int)), l.length < f → l.length ≤ 1000000000 → AllH l → solN_merkle_RootOf f (l, ()) = some ((rootH l, ()), ((), ()))
  | 0, l, h, _, _ => by omega
  | f + 1, l, h, hl, ha => by
    unfold solN_merkle_RootOf T_merkle_RootOf
    simp only [letR_eq, brR_dec, brR_inR, brR_and]
    by_cases h0 : l.length = 0
    · rw [if_pos (by omega), sum_eq (by intro x hx; cases hx) (by simp), rootH_zero h0]; rfl
    rw [if_neg (by omega)]
    by_cases h1 : l.length = 1
    · rw [if_pos (by omega), if_pos (by omega), rootH_one h1]
    have hs := sp_facts (n := l.length) (by omega)
    have t1 : List.take (sp l.length - 0) (List.drop 0 l) = l.take (sp l.length) := by simp
    have t2 : List.take (l.length - sp l.length) (List.drop (sp l.length) l) = l.drop (sp l.length) := List.take_of_length_le (by rw [List.length_drop]; omega)
    rw [if_neg (by omega), splitPoint_eq (by omega) (by omega)]
    simp only [bind_some', Int.toNat_natCast]
    rw [t1, t2, if_pos (by omega), if_pos (by omega), rootN_eq f (l.take (sp l.length)) (by rw [List.length_take]; omega) (by rw [List.length_take]; omega) (ha.take _)]
    simp only [bind_some']
    rw [if_pos (by omega), if_pos (by omega), rootN_eq f (l.drop (sp l.length)) (by rw [List.length_drop]; omega) (by rw [List.length_drop]; omega) (ha.drop _)]
    simp only [bind_some']
    rw [node_eq (h32_root (ha.take _)) (h32_root (ha.drop _)), rootH_two (l := l) (by omega)]
    rfl

theorem rootOf_eq {l : List (List Int)} (hl : l.length ≤ 1000000000) (ha : AllH l) : sol_merkle_RootOf (l, ()) = some ((rootH l, ()), ((), ())) :=
  rootN_eq bigF l (by rw [bigF_eq]; omega) hl ha

theorem rrootN_eq : ∀ (f : Nat) (l : List (List Int)), l.length < f → l.length ≤ 1000000000 → AllH l → solN_ref8_RootOf f (l, ()) = some ((rootH l, ()), ((), ()))
  | 0, l, h, _, _ => by omega
  | f + 1, l, h, hl, ha => by
    unfold solN_ref8_RootOf T_ref8_RootOf
    simp only [letR_eq, brR_dec, brR_inR, brR_and]
    by_cases h0 : l.length = 0
    · rw [if_pos (by omega), rsum_eq (by intro x hx; cases hx) (by simp), rootH_zero h0]; rfl
    rw [if_neg (by omega)]
    by_cases h1 : l.length = 1
    · rw [if_pos (by omega), if_pos (by omega), rootH_one h1]
    have hs := sp_facts (n := l.length) (by omega)
    have t1 : List.take (sp l.length - 0) (List.drop 0 l) = l.take (sp l.length) := by simp
    have t2 : List.take (l.length - sp l.length) (List.drop (sp l.length) l) = l.drop (sp l.length) := List.take_of_length_le (by rw [List.length_drop]; omega)
    rw [if_neg (by omega), rsplitPoint_eq (by omega) (by omega)]
    simp only [bind_some', Int.toNat_natCast]
    rw [t1, t2, if_pos (by omega), if_pos (by omega), rrootN_eq f (l.take (sp l.length)) (by rw [List.length_take]; omega) (by rw [List.length_take]; omega) (ha.take _)]
    simp only [bind_some']
    rw [if_pos (by omega), if_pos (by omega), rrootN_eq f (l.drop (sp l.length)) (by rw [List.length_drop]; omega) (by rw [List.length_drop]; omega) (ha.drop _)]
    simp only [bind_some']
    rw [rnode_eq (h32_root (ha.take _)) (h32_root (ha.drop _)), rootH_two (l := l) (by omega)]
    rfl

theorem rrootOf_eq {l : List (List Int)} (hl : l.length ≤ 1000000000) (ha : AllH l) : sol_ref8_RootOf (l, ()) = some ((rootH l, ()), ((), ())) :=
  rrootN_eq bigF l (by rw [bigF_eq]; omega) hl ha

/-! ### Proofs -/

/-- The proof of leaf i. -/
def proofH (l : List (List Int)) (i : Nat) : List (List Int) :=
  if h : 2 ≤ l.length then
    if i < sp l.length then proofH (l.take (sp l.length)) i ++ [rootH (l.drop (sp l.length))] else proofH (l.drop (sp l.length)) (i - sp l.length) ++ [rootH (l.take (sp l.length))]
  else []
termination_by l.length
decreasing_by
  all_goals
    have := sp_facts h
    simp only [List.length_take, List.length_drop]
    omega

theorem proofH_small {l : List (List Int)} {i : Nat} (h : l.length < 2) : proofH l i = [] := by rw [proofH, dif_neg (by omega)]
theorem proofH_left {l : List (List Int)} {i : Nat} (h : 2 ≤ l.length) (hi : i < sp l.length) : proofH l i = proofH (l.take (sp l.length)) i ++ [rootH (l.drop (sp l.length))] := by
  conv => lhs; rw [proofH]
  rw [dif_pos h, if_pos hi]
theorem proofH_right {l : List (List Int)} {i : Nat} (h : 2 ≤ l.length) (hi : ¬ i < sp l.length) : proofH l i = proofH (l.drop (sp l.length)) (i - sp l.length) ++ [rootH (l.take (sp l.length))] := by
  conv => lhs; rw [proofH]
  rw [dif_pos h, if_neg hi]

theorem proofH_facts : ∀ (n : Nat) (l : List (List Int)) (i : Nat), l.length ≤ n → AllH l → (proofH l i).length ≤ l.length ∧ AllH (proofH l i)
  | 0, l, i, h, _ => by rw [proofH_small (by omega)]; exact ⟨by simp, fun x hx => by cases hx⟩
  | n + 1, l, i, h, ha => by
    by_cases h2 : 2 ≤ l.length
    · have hs := sp_facts h2
      by_cases hi : i < sp l.length
      · obtain ⟨k1, k2⟩ := proofH_facts n (l.take (sp l.length)) i (by rw [List.length_take]; omega) (ha.take _)
        rw [proofH_left h2 hi]
        refine ⟨?_, k2.append (AllH.one (h32_root (ha.drop _)))⟩
        rw [List.length_take] at k1
        rw [List.length_append, List.length_singleton]; omega
      · obtain ⟨k1, k2⟩ := proofH_facts n (l.drop (sp l.length)) (i - sp l.length) (by rw [List.length_drop]; omega) (ha.drop _)
        rw [proofH_right h2 hi]
        refine ⟨?_, k2.append (AllH.one (h32_root (ha.take _)))⟩
        rw [List.length_drop] at k1
        rw [List.length_append, List.length_singleton]; omega
    · rw [proofH_small (by omega)]; exact ⟨by simp, fun x hx => by cases hx⟩

theorem brR_roomH {α : Type} {n : Nat} (h : n ≤ 100000000) (a b : Option α) : brR (roomy n (.arr 32 (.int .u8))) a b = a := by
  rw [brR_roomy, show (Ty.arr 32 (Ty.int IntKind.u8)).size = 32 from rfl, if_pos ⟨by omega, by omega⟩]

theorem proofN_eq : ∀ (f : Nat) (l : List (List Int)) (i : Nat), l.length < f → 1 ≤ l.length → l.length ≤ 10000000 → i < l.length → AllH l → solN_merkle_proof f (l, (((i : Nat) : Int), ())) = some ((proofH l i, ()), ((), ((), ())))
  | 0, l, i, h, _, _, _, _ => by omega
  | f + 1, l, i, h, hl0, hl, hi, ha => by
    unfold solN_merkle_proof T_merkle_proof
    simp only [letR_eq, brR_dec, brR_and]
    by_cases h1 : l.length = 1
    · rw [if_pos (by omega), proofH_small (by omega)]
    have hs := sp_facts (n := l.length) (by omega)
    have t1 : List.take (sp l.length - 0) (List.drop 0 l) = l.take (sp l.length) := by simp
    have t2 : List.take (l.length - sp l.length) (List.drop (sp l.length) l) = l.drop (sp l.length) := List.take_of_length_le (by rw [List.length_drop]; omega)
    have k1 := proofH_facts l.length (l.take (sp l.length)) i (by rw [List.length_take]; omega) (ha.take _)
    have k2 := proofH_facts l.length (l.drop (sp l.length)) (i - sp l.length) (by rw [List.length_drop]; omega) (ha.drop _)
    rw [List.length_take] at k1
    rw [List.length_drop] at k2
    rw [if_neg (by omega), splitPoint_eq (by omega) (by omega)]
    have g1 : (0 : Int) ≤ ((sp l.length : Nat) : Int) := by omega
    have g2 : ((sp l.length : Nat) : Int) ≤ ((l.length : Nat) : Int) := by omega
    simp only [bind_some', Int.toNat_natCast, if_pos g1, if_pos g2]
    rw [t1, t2]
    by_cases hc : i < sp l.length
    · rw [if_pos (by omega), proofN_eq f (l.take (sp l.length)) i (by rw [List.length_take]; omega) (by rw [List.length_take]; omega) (by rw [List.length_take]; omega) (by rw [List.length_take]; omega) (ha.take _)]
      simp only [bind_some']
      rw [rootOf_eq (by rw [List.length_drop]; omega) (ha.drop _)]
      simp only [bind_some']
      rw [brR_roomH (by omega), proofH_left (by omega) hc]; rfl
    · rw [if_neg (by omega), w_i64 (by omega) (by omega), show ((i : Nat) : Int) - ((sp l.length : Nat) : Int) = ((i - sp l.length : Nat) : Int) by omega,
        proofN_eq f (l.drop (sp l.length)) (i - sp l.length) (by rw [List.length_drop]; omega) (by rw [List.length_drop]; omega) (by rw [List.length_drop]; omega) (by rw [List.length_drop]; omega) (ha.drop _)]
      simp only [bind_some']
      rw [rootOf_eq (by rw [List.length_take]; omega) (ha.take _)]
      simp only [bind_some']
      rw [brR_roomH (by omega), proofH_right (by omega) hc]; rfl

theorem proof_eq {l : List (List Int)} {i : Nat} (hl : l.length ≤ 10000000) (hi : i < l.length) (ha : AllH l) : sol_merkle_proof (l, (((i : Nat) : Int), ())) = some ((proofH l i, ()), ((), ((), ()))) :=
  proofN_eq bigF l i (by rw [bigF_eq]; omega) (by omega) hl hi ha

theorem rproofN_eq : ∀ (f : Nat) (l : List (List Int)) (i : Nat), l.length < f → 1 ≤ l.length → l.length ≤ 10000000 → i < l.length → AllH l → solN_ref8_Proof f (l, (((i : Nat) : Int), ())) = some ((proofH l i, ()), ((), ((), ())))
  | 0, l, i, h, _, _, _, _ => by omega
  | f + 1, l, i, h, hl0, hl, hi, ha => by
    unfold solN_ref8_Proof T_ref8_Proof
    simp only [letR_eq, brR_dec, brR_and]
    by_cases h1 : l.length = 1
    · rw [if_pos (by omega), proofH_small (by omega)]
    have hs := sp_facts (n := l.length) (by omega)
    have t1 : List.take (sp l.length - 0) (List.drop 0 l) = l.take (sp l.length) := by simp
    have t2 : List.take (l.length - sp l.length) (List.drop (sp l.length) l) = l.drop (sp l.length) := List.take_of_length_le (by rw [List.length_drop]; omega)
    have k1 := proofH_facts l.length (l.take (sp l.length)) i (by rw [List.length_take]; omega) (ha.take _)
    have k2 := proofH_facts l.length (l.drop (sp l.length)) (i - sp l.length) (by rw [List.length_drop]; omega) (ha.drop _)
    rw [List.length_take] at k1
    rw [List.length_drop] at k2
    rw [if_neg (by omega), rsplitPoint_eq (by omega) (by omega)]
    have g1 : (0 : Int) ≤ ((sp l.length : Nat) : Int) := by omega
    have g2 : ((sp l.length : Nat) : Int) ≤ ((l.length : Nat) : Int) := by omega
    simp only [bind_some', Int.toNat_natCast, if_pos g1, if_pos g2]
    rw [t1, t2]
    by_cases hc : i < sp l.length
    · rw [if_pos (by omega), rproofN_eq f (l.take (sp l.length)) i (by rw [List.length_take]; omega) (by rw [List.length_take]; omega) (by rw [List.length_take]; omega) (by rw [List.length_take]; omega) (ha.take _)]
      simp only [bind_some']
      rw [rrootOf_eq (by rw [List.length_drop]; omega) (ha.drop _)]
      simp only [bind_some']
      rw [brR_roomH (by omega), proofH_left (by omega) hc]; rfl
    · rw [if_neg (by omega), w_i64 (by omega) (by omega), show ((i : Nat) : Int) - ((sp l.length : Nat) : Int) = ((i - sp l.length : Nat) : Int) by omega,
        rproofN_eq f (l.drop (sp l.length)) (i - sp l.length) (by rw [List.length_drop]; omega) (by rw [List.length_drop]; omega) (by rw [List.length_drop]; omega) (by rw [List.length_drop]; omega) (ha.drop _)]
      simp only [bind_some']
      rw [rrootOf_eq (by rw [List.length_take]; omega) (ha.take _)]
      simp only [bind_some']
      rw [brR_roomH (by omega), proofH_right (by omega) hc]; rfl

theorem rproof_eq {l : List (List Int)} {i : Nat} (hl : l.length ≤ 10000000) (hi : i < l.length) (ha : AllH l) : sol_ref8_Proof (l, (((i : Nat) : Int), ())) = some ((proofH l i, ()), ((), ((), ()))) :=
  rproofN_eq bigF l i (by rw [bigF_eq]; omega) (by omega) hl hi ha

/-! ### The tree -/

theorem new_eq : sol_merkle_New () = some ((([], ()), ()), ()) := rfl

theorem append_eq {l : List (List Int)} {h : List Int} (hl : l.length ≤ 10000000) : sol_merkle_Tree_Append ((l, ()), (h, ())) = some ((((l.length : Nat) : Int), ()), ((l ++ [h], ()), ((), ()))) := by
  unfold sol_merkle_Tree_Append T_merkle_Tree_Append
  simp only [letR_eq, append_def]
  rw [brR_roomH (by omega), w_i64 (by rw [List.length_append, List.length_singleton]; omega) (by rw [List.length_append, List.length_singleton]; omega)]
  simp

theorem treeLen_eq {l : List (List Int)} : sol_merkle_Tree_Len ((l, ()), ()) = some ((((l.length : Nat) : Int), ()), ((l, ()), ())) := rfl

theorem treeRoot_in {l : List (List Int)} {n : Nat} (hl : l.length ≤ 10000000) (ha : AllH l) (hn : n ≤ l.length) : sol_merkle_Tree_Root ((l, ()), (((n : Nat) : Int), ())) = some ((rootH (l.take n), (true, ())), ((l, ()), ((), ()))) := by
  unfold sol_merkle_Tree_Root T_merkle_Tree_Root
  simp only [letR_eq, brR_dec, brR_and, Int.toNat_natCast, List.drop_zero, Nat.sub_zero]
  rw [if_neg (by omega), if_neg (by omega), if_pos (by omega), if_pos (by omega), rootOf_eq (by rw [List.length_take]; omega) (ha.take _)]
  rfl

theorem treeRoot_out {l : List (List Int)} {n : Int} (hn : n < 0 ∨ (l.length : Int) < n) : sol_merkle_Tree_Root ((l, ()), (n, ())) = some ((Z32, (false, ())), ((l, ()), ((), ()))) := by
  unfold sol_merkle_Tree_Root T_merkle_Tree_Root
  simp only [letR_eq, brR_dec, brR_and]
  by_cases h : n < 0
  · rw [if_pos h]
  · rw [if_neg h, if_pos (by omega)]

theorem clip_eq (l : List (List Int)) : sol_slices_Clip_api_Hash_api_Hash (l, ()) = some ((l, ()), ((), ())) := by
  unfold sol_slices_Clip_api_Hash_api_Hash T_slices_Clip_api_Hash_api_Hash
  simp only [letR_eq, brR_dec, brR_and]
  rw [if_pos trivial, if_pos (by omega), if_pos (by omega)]
  simp

theorem treeProof_in {l : List (List Int)} {i n : Nat} (hl : l.length ≤ 10000000) (ha : AllH l) (hi : i < n) (hn : n ≤ l.length) :
    sol_merkle_Tree_Proof ((l, ()), (((i : Nat) : Int), (((n : Nat) : Int), ()))) = some ((proofH (l.take n) i, (true, ())), ((l, ()), ((), ((), ())))) := by
  unfold sol_merkle_Tree_Proof T_merkle_Tree_Proof
  simp only [letR_eq, brR_dec, brR_and, Int.toNat_natCast, List.drop_zero, Nat.sub_zero]
  rw [if_neg (by omega), if_neg (by omega), if_neg (by omega), if_pos (by omega), if_pos (by omega), proof_eq (by rw [List.length_take]; omega) (by rw [List.length_take]; omega) (ha.take _)]
  simp only [bind_some']
  rw [clip_eq]
  rfl

theorem treeProof_out {l : List (List Int)} {i n : Int} (h : i < 0 ∨ n ≤ i ∨ (l.length : Int) < n) : sol_merkle_Tree_Proof ((l, ()), (i, (n, ()))) = some (([], (false, ())), ((l, ()), ((), ((), ())))) := by
  unfold sol_merkle_Tree_Proof T_merkle_Tree_Proof
  simp only [letR_eq, brR_dec, brR_and]
  by_cases h1 : i < 0
  · rw [if_pos h1]
  rw [if_neg h1]
  by_cases h2 : n ≤ i
  · rw [if_pos (by omega)]
  rw [if_neg (by omega), if_pos (by omega)]

/-! ### Verification -/

/-- The root that a leaf and a proof (the last element first) yield. -/
def upR : Nat → Nat → List Int → List (List Int) → Option (List Int)
  | n, i, leaf, [] => if n = 1 then some leaf else none
  | n, i, leaf, last :: rest => if n = 1 then none else
    if i < sp n then (upR (sp n) i leaf rest).map (fun h => nodeH h last) else (upR (n - sp n) (i - sp n) leaf rest).map (fun h => nodeH last h)

theorem last_split {p : List (List Int)} (h : p ≠ []) : ∃ rest last, p = rest ++ [last] ∧ p.reverse = last :: rest.reverse := by
  have e : p = p.dropLast ++ [p.getLast h] := (List.dropLast_concat_getLast h).symm
  refine ⟨p.dropLast, p.getLast h, e, ?_⟩
  conv => lhs; rw [e]
  rw [List.reverse_append]; rfl

theorem fromN_eq : ∀ (f : Nat) (p : List (List Int)) (n i : Nat) (leaf : List Int), p.length < f → p.length ≤ 1000000000 → 1 ≤ n → n ≤ 9223372036854775807 → i < n → H32 leaf → AllH p →
    ∃ h, H32 h ∧ solN_merkle_rootFrom f (((n : Nat) : Int), (((i : Nat) : Int), (leaf, (p, ())))) = some ((h, ((upR n i leaf p.reverse).isSome, ())), ((), ((), ((), ((), ()))))) ∧ ∀ r, upR n i leaf p.reverse = some r → h = r
  | 0, p, n, i, leaf, h, _, _, _, _, _, _ => by omega
  | f + 1, p, n, i, leaf, h, hl, hn1, hn2, hi, hf, ha => by
    unfold solN_merkle_rootFrom T_merkle_rootFrom
    simp only [letR_eq, brR_dec, brR_inR, brR_and]
    by_cases hp : p = []
    · subst hp
      by_cases h1 : n = 1
      · subst h1
        exact ⟨leaf, hf, by simp [upR], fun r hr => by simpa [upR] using hr⟩
      · refine ⟨Z32, h32_zero, ?_, fun r hr => by simp [upR, h1] at hr⟩
        rw [if_neg (by omega), if_pos (by simp)]
        simp [upR, h1, Z32]
    obtain ⟨rest, last, e1, e2⟩ := last_split hp
    have hlen : p.length = rest.length + 1 := by rw [e1]; simp
    rw [e2]
    by_cases h1 : n = 1
    · subst h1
      refine ⟨leaf, hf, ?_, fun r hr => by simp [upR] at hr⟩
      rw [if_pos (by omega)]
      simp [upR, hlen]; omega
    have hs := sp_facts (n := n) (by omega)
    rw [if_neg (by omega), if_neg (by omega), splitPoint_eq (by omega) hn2]
    simp only [bind_some']
    rw [w_i64 (n := ((p.length : Nat) : Int) - 1) (by omega) (by omega), if_pos (by omega), if_pos (by omega), if_pos (by omega), show (((p.length : Nat) : Int) - 1).toNat = rest.length by omega]
    have t1 : List.take (rest.length - 0) (List.drop 0 p) = rest := by rw [e1]; simp
    have t2 : p.getD rest.length Z32 = last := by rw [e1, List.getD_eq_getElem?_getD, List.getElem?_append_right (by omega)]; simp
    have hrest : AllH rest := fun x hx => ha x (by rw [e1]; simp [hx])
    have hlast : H32 last := ha last (by rw [e1]; simp)
    rw [t1, t2]
    by_cases hc : i < sp n
    · obtain ⟨h', q1, q2, q3⟩ := fromN_eq f rest (sp n) i leaf (by omega) (by omega) (by omega) (by omega) hc hf hrest
      rw [if_pos (by omega), q2]
      simp only [bind_some']
      rw [node_eq q1 hlast]
      refine ⟨nodeH h' last, h32_node _ _, by simp only [bind_some', upR]; rw [if_neg h1, if_pos hc]; simp, fun r hr => ?_⟩
      simp only [upR] at hr
      rw [if_neg h1, if_pos hc] at hr
      obtain ⟨r', hr1, rfl⟩ := Option.map_eq_some_iff.1 hr
      rw [q3 _ hr1]
    · obtain ⟨h', q1, q2, q3⟩ := fromN_eq f rest (n - sp n) (i - sp n) leaf (by omega) (by omega) (by omega) (by omega) (by omega) hf hrest
      rw [if_neg (by omega), w_i64 (n := (n : Int) - (sp n : Nat)) (by omega) (by omega), w_i64 (n := (i : Int) - (sp n : Nat)) (by omega) (by omega), show (n : Int) - ((sp n : Nat) : Int) = ((n - sp n : Nat) : Int) by omega, show (i : Int) - ((sp n : Nat) : Int) = ((i - sp n : Nat) : Int) by omega, q2]
      simp only [bind_some']
      rw [node_eq hlast q1]
      refine ⟨nodeH last h', h32_node _ _, by simp only [bind_some', upR]; rw [if_neg h1, if_neg hc]; simp, fun r hr => ?_⟩
      simp only [upR] at hr
      rw [if_neg h1, if_neg hc] at hr
      obtain ⟨r', hr1, rfl⟩ := Option.map_eq_some_iff.1 hr
      rw [q3 _ hr1]

theorem upN_eq : ∀ (f : Nat) (p : List (List Int)) (n i : Nat) (leaf : List Int), p.length < f → p.length ≤ 1000000000 → 1 ≤ n → n ≤ 9223372036854775807 → i < n → H32 leaf → AllH p →
    ∃ h, H32 h ∧ solN_ref8_up f (((n : Nat) : Int), (((i : Nat) : Int), (leaf, (p, ())))) = some ((h, ((upR n i leaf p.reverse).isSome, ())), ((), ((), ((), ((), ()))))) ∧ ∀ r, upR n i leaf p.reverse = some r → h = r
  | 0, p, n, i, leaf, h, _, _, _, _, _, _ => by omega
  | f + 1, p, n, i, leaf, h, hl, hn1, hn2, hi, hf, ha => by
    unfold solN_ref8_up T_ref8_up
    simp only [letR_eq, brR_dec, brR_inR, brR_and]
    by_cases hp : p = []
    · subst hp
      by_cases h1 : n = 1
      · subst h1
        exact ⟨leaf, hf, by simp [upR], fun r hr => by simpa [upR] using hr⟩
      · refine ⟨leaf, hf, ?_, fun r hr => by simp [upR, h1] at hr⟩
        rw [if_neg (by omega), if_pos (by simp)]
        simp [upR, h1, Z32]
    obtain ⟨rest, last, e1, e2⟩ := last_split hp
    have hlen : p.length = rest.length + 1 := by rw [e1]; simp
    rw [e2]
    by_cases h1 : n = 1
    · subst h1
      refine ⟨leaf, hf, ?_, fun r hr => by simp [upR] at hr⟩
      rw [if_pos (by omega)]
      simp [upR, hlen]; omega
    have hs := sp_facts (n := n) (by omega)
    rw [if_neg (by omega), if_neg (by omega), rsplitPoint_eq (by omega) hn2]
    simp only [bind_some']
    rw [w_i64 (n := ((p.length : Nat) : Int) - 1) (by omega) (by omega), if_pos (by omega), show (((p.length : Nat) : Int) - 1).toNat = rest.length by omega]
    have g1 : (0 : Int) ≤ ((p.length : Nat) : Int) - 1 := by omega
    have g2 : ((p.length : Nat) : Int) - 1 ≤ ((p.length : Nat) : Int) := by omega
    simp only [if_pos g1, if_pos g2]
    have t1 : List.take (rest.length - 0) (List.drop 0 p) = rest := by rw [e1]; simp
    have t2 : p.getD rest.length Z32 = last := by rw [e1, List.getD_eq_getElem?_getD, List.getElem?_append_right (by omega)]; simp
    have hrest : AllH rest := fun x hx => ha x (by rw [e1]; simp [hx])
    have hlast : H32 last := ha last (by rw [e1]; simp)
    rw [t1, t2]
    by_cases hc : i < sp n
    · obtain ⟨h', q1, q2, q3⟩ := upN_eq f rest (sp n) i leaf (by omega) (by omega) (by omega) (by omega) hc hf hrest
      rw [if_pos (by omega), q2]
      simp only [bind_some']
      rw [rnode_eq q1 hlast]
      refine ⟨nodeH h' last, h32_node _ _, by simp only [bind_some', upR]; rw [if_neg h1, if_pos hc]; simp, fun r hr => ?_⟩
      simp only [upR] at hr
      rw [if_neg h1, if_pos hc] at hr
      obtain ⟨r', hr1, rfl⟩ := Option.map_eq_some_iff.1 hr
      rw [q3 _ hr1]
    · obtain ⟨h', q1, q2, q3⟩ := upN_eq f rest (n - sp n) (i - sp n) leaf (by omega) (by omega) (by omega) (by omega) (by omega) hf hrest
      rw [if_neg (by omega), w_i64 (n := (n : Int) - (sp n : Nat)) (by omega) (by omega), w_i64 (n := (i : Int) - (sp n : Nat)) (by omega) (by omega), show (n : Int) - ((sp n : Nat) : Int) = ((n - sp n : Nat) : Int) by omega, show (i : Int) - ((sp n : Nat) : Int) = ((i - sp n : Nat) : Int) by omega, q2]
      simp only [bind_some']
      rw [rnode_eq hlast q1]
      refine ⟨nodeH last h', h32_node _ _, by simp only [bind_some', upR]; rw [if_neg h1, if_neg hc]; simp, fun r hr => ?_⟩
      simp only [upR] at hr
      rw [if_neg h1, if_neg hc] at hr
      obtain ⟨r', hr1, rfl⟩ := Option.map_eq_some_iff.1 hr
      rw [q3 _ hr1]

/-- Does a proof show a leaf? -/
noncomputable def verifyH (root : List Int) (n i : Int) (leaf : List Int) (p : List (List Int)) : Bool :=
  decide (0 ≤ i ∧ i < n) && decide (upR n.toNat i.toNat leaf p.reverse = some root)

theorem verify_eq {root leaf : List Int} {n i : Int} {p : List (List Int)} (hn : n ≤ 9223372036854775807) (hl : p.length ≤ 1000000000) (hf : H32 leaf) (ha : AllH p) :
    sol_merkle_Verify (root, (n, (i, (leaf, (p, ()))))) = some ((verifyH root n i leaf p, ()), ((), ((), ((), ((), ((), ())))))) := by
  unfold sol_merkle_Verify T_merkle_Verify verifyH
  simp only [brR_dec]
  by_cases h1 : i < 0
  · rw [if_pos h1, decide_eq_false (by omega)]; rfl
  rw [if_neg h1]
  by_cases h2 : i ≥ n
  · rw [if_pos h2, decide_eq_false (by omega)]; rfl
  rw [if_neg h2, decide_eq_true (by omega)]
  obtain ⟨i, rfl⟩ := Int.eq_ofNat_of_zero_le (show 0 ≤ i by omega)
  obtain ⟨n, rfl⟩ := Int.eq_ofNat_of_zero_le (show 0 ≤ n by omega)
  obtain ⟨h, q1, q2, q3⟩ := fromN_eq bigF p n i leaf (by rw [bigF_eq]; omega) hl (by omega) (by omega) (by omega) hf ha
  unfold sol_merkle_rootFrom
  rw [q2]
  simp only [bind_some', Int.toNat_natCast, Bool.true_and]
  by_cases hu : ∃ r, upR n i leaf p.reverse = some r
  · obtain ⟨r, hu⟩ := hu
    simp only [q3 r hu, hu, Option.isSome_some, brR_true, eqD_h32]
    simp
  · have hn : upR n i leaf p.reverse = none := by
      cases h0 : upR n i leaf p.reverse with
      | none => rfl
      | some r => exact absurd ⟨r, h0⟩ hu
    simp [hn, brR_false]

theorem rverify_eq {root leaf : List Int} {n i : Int} {p : List (List Int)} (hn : n ≤ 9223372036854775807) (hl : p.length ≤ 64) (hf : H32 leaf) (ha : AllH p) :
    sol_ref8_Verify (root, (n, (i, (leaf, (p, ()))))) = some ((verifyH root n i leaf p, ()), ((), ((), ((), ((), ((), ())))))) := by
  unfold sol_ref8_Verify T_ref8_Verify verifyH
  simp only [brR_dec]
  by_cases h1 : i < 0
  · rw [if_pos h1, decide_eq_false (by omega)]; rfl
  rw [if_neg h1]
  by_cases h2 : i ≥ n
  · rw [if_pos h2, decide_eq_false (by omega)]; rfl
  rw [if_neg h2, if_neg (by omega), decide_eq_true (by omega)]
  obtain ⟨i, rfl⟩ := Int.eq_ofNat_of_zero_le (show 0 ≤ i by omega)
  obtain ⟨n, rfl⟩ := Int.eq_ofNat_of_zero_le (show 0 ≤ n by omega)
  obtain ⟨h, q1, q2, q3⟩ := upN_eq bigF p n i leaf (by rw [bigF_eq]; omega) (by omega) (by omega) (by omega) (by omega) hf ha
  unfold sol_ref8_up
  rw [q2]
  simp only [bind_some', Int.toNat_natCast, Bool.true_and]
  by_cases hu : ∃ r, upR n i leaf p.reverse = some r
  · obtain ⟨r, hu⟩ := hu
    simp only [q3 r hu, hu, Option.isSome_some, brR_true, eqD_h32]
    simp
  · have hn : upR n i leaf p.reverse = none := by
      cases h0 : upR n i leaf p.reverse with
      | none => rfl
      | some r => exact absurd ⟨r, h0⟩ hu
    simp [hn, brR_false]

/-- Every proof shows its leaf. -/
theorem up_proof : ∀ (m : Nat) (l : List (List Int)) (i : Nat), l.length ≤ m → i < l.length → upR l.length i (l.getD i Z32) (proofH l i).reverse = some (rootH l)
  | 0, l, i, h, hi => by omega
  | m + 1, l, i, h, hi => by
    by_cases h2 : 2 ≤ l.length
    · have hs := sp_facts h2
      rw [rootH_two h2]
      by_cases hc : i < sp l.length
      · have ih := up_proof m (l.take (sp l.length)) i (by rw [List.length_take]; omega) (by rw [List.length_take]; omega)
        have e1 : (l.take (sp l.length)).length = sp l.length := by rw [List.length_take]; omega
        have e2 : (l.take (sp l.length)).getD i Z32 = l.getD i Z32 := by
          rw [List.getD_eq_getElem?_getD, List.getElem?_take, if_pos hc, List.getD_eq_getElem?_getD]
        rw [e1, e2] at ih
        rw [proofH_left h2 hc, List.reverse_append, List.reverse_singleton, List.singleton_append, upR, if_neg (by omega), if_pos hc, ih]; rfl
      · have ih := up_proof m (l.drop (sp l.length)) (i - sp l.length) (by rw [List.length_drop]; omega) (by rw [List.length_drop]; omega)
        have e2 : (l.drop (sp l.length)).getD (i - sp l.length) Z32 = l.getD i Z32 := by
          rw [List.getD_eq_getElem?_getD, List.getElem?_drop, List.getD_eq_getElem?_getD, show sp l.length + (i - sp l.length) = i by omega]
        rw [List.length_drop, e2] at ih
        rw [proofH_right h2 hc, List.reverse_append, List.reverse_singleton, List.singleton_append, upR, if_neg (by omega), if_neg hc, ih]; rfl
    · have h1 : l.length = 1 := by omega
      have : i = 0 := by omega
      subst this
      rw [proofH_small (by omega), rootH_one h1, h1]; rfl

end Go.Pon
/-
  Encodings and readings are inverse.
-/
set_option autoImplicit false
set_option linter.unusedVariables false
set_option linter.unusedSimpArgs false
namespace Go.Pon
open Go

theorem foldl_beV (l : List Int) : ∀ v : Nat, l.foldl (fun v x => v * 256 + x.toNat) v = v * 256 ^ l.length + beV l := by
  refine snoc_ind (motive := fun l => ∀ v : Nat, l.foldl (fun v x => v * 256 + x.toNat) v = v * 256 ^ l.length + beV l) l ?_ ?_
  · intro v; simp [beV]
  · intro l x ih v
    rw [List.foldl_append, ih, beV_append]
    simp only [List.foldl_cons, List.foldl_nil, List.length_append, List.length_singleton, Nat.pow_succ]
    rw [Nat.add_mul, Nat.mul_assoc]; omega

theorem beV_cons (x : Int) (l : List Int) : beV (x :: l) = x.toNat * 256 ^ l.length + beV l := by
  rw [beV, List.foldl_cons, foldl_beV]; simp

theorem beV_beB : ∀ k n, beV (beB k n) = n % 256 ^ k
  | 0, n => by simp [beB, beV_nil, Nat.mod_one]
  | k + 1, n => by
    rw [beB, beV_cons, beV_beB k n, len_beB, Int.toNat_natCast, Nat.pow_succ, Nat.mod_mul, Nat.mul_comm]; omega

theorem beB_add {k n m : Nat} : beB k (m * 256 ^ k + n) = beB k n := by
  induction k generalizing m with
  | zero => rfl
  | succ k ih =>
    rw [beB, beB, Nat.pow_succ, Nat.mul_comm (256 ^ k), ← Nat.mul_assoc, ih]
    congr 2
    rw [Nat.mul_comm (m * 256), Nat.mul_add_div (Nat.pow_pos (by omega)), Nat.mul_comm m, Nat.mul_add_mod]

theorem beB_beV : ∀ {l : List Int}, Bytes l → beB l.length (beV l) = l
  | [], _ => rfl
  | x :: l, h => by
    have hx := h x (by simp)
    have hl : Bytes l := fun y hy => h y (by simp [hy])
    have hlt := beV_lt l hl
    have hp : 0 < 256 ^ l.length := Nat.pow_pos (by omega)
    rw [List.length_cons, beV_cons, beB, beB_add, beB_beV hl]
    congr 1
    rw [Nat.mul_comm, Nat.mul_add_div hp, Nat.div_eq_of_lt hlt]
    omega

theorem bylen_beV {l : List Int} (h : Bytes l) (h0 : l.getD 0 1 ≠ 0) : bylen (beV l) = l.length := by
  cases l with
  | nil => rfl
  | cons x l =>
    have hx := h x (by simp)
    have h0 : x ≠ 0 := h0
    have hlt := beV_lt (x :: l) h
    have hp : 0 < 256 ^ l.length := Nat.pow_pos (by omega)
    have hge : 256 ^ l.length ≤ beV (x :: l) := by
      rw [beV_cons]
      have : 1 * 256 ^ l.length ≤ x.toNat * 256 ^ l.length := Nat.mul_le_mul_right _ (by omega)
      omega
    have a := bylen_le.2 hlt
    simp only [List.length_cons] at a ⊢
    rcases Nat.lt_or_ge l.length (bylen (beV (x :: l))) with hh | hh
    · omega
    · have := bylen_le.1 hh; omega

theorem beB_head {n : Nat} (h : 0 < bylen n) : (beB (bylen n) n).getD 0 1 ≠ 0 := by
  obtain ⟨k, hk⟩ : ∃ k, bylen n = k + 1 := ⟨bylen n - 1, by omega⟩
  rw [hk, beB, List.getD_cons_zero]
  have h1 : n < 256 ^ (k + 1) := bylen_le.1 (by omega)
  have h2 : 256 ^ k ≤ n := by
    rcases Nat.lt_or_ge n (256 ^ k) with hh | hh
    · have := bylen_le.2 hh; omega
    · exact hh
  have hp : 0 < 256 ^ k := Nat.pow_pos (by omega)
  have h3 : n / 256 ^ k < 256 := by rw [Nat.div_lt_iff_lt_mul hp, Nat.mul_comm, ← Nat.pow_succ]; exact h1
  have h4 : 1 ≤ n / 256 ^ k := (Nat.le_div_iff_mul_le hp).2 (by omega)
  rw [Nat.mod_eq_of_lt h3]
  generalize n / 256 ^ k = q at *
  omega

theorem bytes_enc {n : Nat} (h : bylen n ≤ 255) : Bytes (enc n) := by
  intro x hx
  rcases List.mem_cons.1 hx with rfl | hx
  · omega
  · exact beB_byte x hx

/-- Reading what was encoded. -/
theorem rdU_enc {a z : List Int} {n most : Nat} (hn : n < 256 ^ most) (hm : most ≤ 32) : rdU (a ++ (enc n ++ z)) a.length most = some (n, a.length + 1 + bylen n) := by
  have hk := bylen_le.2 hn
  unfold rdU
  rw [List.drop_left' rfl, enc, List.cons_append]
  simp only [Int.toNat_natCast, List.length_append, len_beB]
  rw [if_neg, List.take_append_of_le_length (by rw [len_beB]; omega), List.take_of_length_le (by rw [len_beB]; omega), beV_beB, Nat.mod_eq_of_lt (bylen_le.1 (Nat.le_refl _))]
  rintro (h | h | ⟨h1, h2⟩)
  · omega
  · omega
  · have := beB_head h1
    rw [List.getD_eq_getElem?_getD, List.getElem?_append_left (by rw [len_beB]; omega), ← List.getD_eq_getElem?_getD] at h2
    have e : (beB (bylen n) n).getD 0 1 = (beB (bylen n) n).getD 0 0 := by
      have : 0 < (beB (bylen n) n).length := by rw [len_beB]; exact h1
      rw [List.getD_eq_getElem?_getD, List.getD_eq_getElem?_getD, List.getElem?_eq_getElem this]; rfl
    omega

/-- What was read is the encoding. -/
theorem enc_rdU {b : List Int} (hb : Bytes b) {i most v j : Nat} (h : rdU b i most = some (v, j)) : enc v = (b.drop i).take (j - i) := by
  unfold rdU at h
  split at h
  · cases h
  · rename_i k r hr
    split at h
    · cases h
    · rename_i hk
      cases h
      have hd : Bytes (k :: r) := hr ▸ hb.drop i
      have hk0 := hd k (by simp)
      have hrb : Bytes r := fun x hx => hd x (by simp [hx])
      have hl : (r.take k.toNat).length = k.toNat := by rw [List.length_take]; omega
      have hlen : bylen (beV (r.take k.toNat)) = k.toNat := by
        rw [bylen_beV (hrb.take _) ?_, hl]
        rw [List.getD_eq_getElem?_getD, List.getElem?_take]
        split
        · rename_i h0
          have h2 : r.getD 0 0 ≠ 0 := fun he => hk (.inr (.inr ⟨h0, he⟩))
          have h3 : 0 < r.length := by omega
          rw [List.getD_eq_getElem?_getD, List.getElem?_eq_getElem h3] at h2
          rw [List.getElem?_eq_getElem h3]; exact h2
        · simp
      have hB := beB_beV (hrb.take k.toNat)
      rw [hl] at hB
      rw [enc, hlen, hB, hr, show i + 1 + k.toNat - i = k.toNat + 1 by omega, List.take_succ_cons]
      congr 1
      omega

theorem readR_enc {a z : List Int} {n most : Nat} (hn : n < 256 ^ most) (hm : most ≤ 32) : readR (a ++ (enc n ++ z)) ((a.length : Nat) : Int) most = (lim n, ((((a ++ enc n).length : Nat) : Int), (0, ()))) := by
  unfold readR
  rw [if_neg (by simp only [List.length_append]; omega), Int.toNat_natCast, rdU_enc hn hm]
  simp [len_enc]; omega

theorem readB_enc {a x z : List Int} (hx : x.length ≤ 1000000000) : readB (a ++ (enc x.length ++ (x ++ z))) ((a.length : Nat) : Int) = (x, ((((a ++ (enc x.length ++ x)).length : Nat) : Int), (0, ()))) := by
  unfold readB
  rw [if_neg (by simp only [List.length_append]; omega), Int.toNat_natCast, rdU_enc (by omega) (by omega)]
  simp only [List.length_append, len_enc]
  rw [if_neg (by omega)]
  have e : a.length + 1 + bylen x.length = (a ++ enc x.length).length := by rw [List.length_append, len_enc]; omega
  rw [← List.append_assoc, ← List.append_assoc, e, List.append_assoc (a ++ enc x.length), List.drop_left' rfl, List.take_left' rfl]
  simp [len_enc]; omega

theorem readI_enc {a z : List Int} {s : Bool} {n : Nat} (hn : n < 115792089237316195423570985008687907853269984665640564039457584007913129639936) (h : ¬ (s = true ∧ n = 0)) :
    readI (a ++ (encI s n ++ z)) ((a.length : Nat) : Int) = ((s, (lim n, ())), ((((a ++ encI s n).length : Nat) : Int), (0, ()))) := by
  unfold readI encI
  rw [if_neg h, if_neg (by simp only [List.length_append]; omega), Int.toNat_natCast]
  have g : (a ++ ((if s = true then (1 : Int) else 0) :: enc n ++ z)).getD a.length 0 = if s = true then 1 else 0 := by
    rw [List.getD_eq_getElem?_getD, List.getElem?_append_right (by omega), Nat.sub_self]; rfl
  rw [g, if_neg (by
    rintro (hh | hh)
    · simp only [List.length_append, List.length_cons] at hh; omega
    · cases s <;> simp at hh)]
  have e : a ++ ((if s = true then (1 : Int) else 0) :: enc n ++ z) = (a ++ [if s = true then (1 : Int) else 0]) ++ (enc n ++ z) := by simp
  have l : a.length + 1 = (a ++ [if s = true then (1 : Int) else 0]).length := by simp
  rw [e, l, rdU_enc hn (by omega)]
  simp only
  rw [if_neg (by
    rintro ⟨h1, h2⟩
    cases s
    · simp at h1
    · exact h ⟨rfl, h2⟩)]
  cases s <;> simp [len_enc] <;> omega

theorem bytes_encI {s : Bool} {n : Nat} (h : bylen n ≤ 255) : Bytes (encI s n) := by
  unfold encI
  split
  · intro x hx; cases hx
  · intro x hx
    rcases List.mem_cons.1 hx with rfl | hx
    · cases s <;> simp
    · exact bytes_enc h x hx

end Go.Pon
/-
  Helpers of the laws.
-/
set_option autoImplicit false
set_option linter.unusedVariables false
set_option linter.unusedSimpArgs false
namespace Go.Pon
open Go

theorem bytes_wf {b : List Int} (h : (Ty.slice (.int .u8)).wf b) : Bytes b := fun x hx => inK_u8.1 (h.2 x hx)

theorem equalBytes_eq (a b : List Int) : sol_law0_EqualBytes (a, (b, ())) = some ((decide (a = b), ()), ((), ((), ()))) := by
  unfold sol_law0_EqualBytes T_law0_EqualBytes
  rfl

theorem mod_eq {x n : Int} (h0 : -9223372036854775808 ≤ x) (h1 : x ≤ 9223372036854775807) (h2 : 1 ≤ n) (h3 : n ≤ 9223372036854775807) :
    sol_law0_Mod (x, (n, ())) = some ((((x % 18446744073709551616) % n, ()), ((), ((), ())))) := by
  unfold sol_law0_Mod T_law0_Mod
  simp only [letR_eq, brR_dec]
  rw [w_u64 (n := n) (by omega) (by omega), if_pos (by omega), IntKind.wrap_u64, tmod_pos (by omega), w_i64]
  · have := Int.emod_nonneg (x % 18446744073709551616) (b := n) (by omega); omega
  · have := Int.emod_lt_of_pos (x % 18446744073709551616) (b := n) (by omega); omega

theorem lim_of {a b c d : Int} (ha : 0 ≤ a ∧ a ≤ 18446744073709551615) (hb : 0 ≤ b ∧ b ≤ 18446744073709551615) (hc : 0 ≤ c ∧ c ≤ 18446744073709551615) (hd : 0 ≤ d ∧ d ≤ 18446744073709551615) :
    ∃ n, n < 115792089237316195423570985008687907853269984665640564039457584007913129639936 ∧ [a, b, c, d] = lim n :=
  u256_wf (l := [a, b, c, d]) ⟨rfl, by
    intro y hy
    simp only [List.mem_cons, List.not_mem_nil, or_false] at hy
    rcases hy with rfl | rfl | rfl | rfl <;> exact inK_u64.2 (by assumption)⟩

theorem edge_ok {a b s : Int} (ha : 0 ≤ a ∧ a ≤ 18446744073709551615) (hb : 0 ≤ b ∧ b ≤ 18446744073709551615) (hs : -9223372036854775808 ≤ s ∧ s ≤ 9223372036854775807) :
    ∃ n, n < 115792089237316195423570985008687907853269984665640564039457584007913129639936 ∧ sol_law0_EdgeUint256 (a, (b, (s, ()))) = some ((lim n, ()), ((), ((), ((), ())))) := by
  have key : ∀ {p q r t : Int}, 0 ≤ p ∧ p ≤ 18446744073709551615 → 0 ≤ q ∧ q ≤ 18446744073709551615 → 0 ≤ r ∧ r ≤ 18446744073709551615 → 0 ≤ t ∧ t ≤ 18446744073709551615 →
      ∃ n, n < 115792089237316195423570985008687907853269984665640564039457584007913129639936 ∧ (some (([p, q, r, t], ()), ((), ((), ((), ())))) : Option ((List Int × Unit) × (Unit × (Unit × (Unit × Unit))))) = some ((lim n, ()), ((), ((), ((), ())))) := fun h1 h2 h3 h4 => by
    obtain ⟨n, k1, k2⟩ := lim_of h1 h2 h3 h4
    exact ⟨n, k1, by rw [k2]⟩
  unfold sol_law0_EdgeUint256 T_law0_EdgeUint256
  rw [mod_eq hs.1 hs.2 (by omega) (by omega)]
  simp only [bind_some', brR_dec, tmod_pos ha.1, tmod_pos hb.1]
  repeat' split
  all_goals try apply key
  all_goals try omega
  · rw [IntKind.wrap_u64]; omega
  · rw [IntKind.wrap_u64]; omega
  · rw [IntKind.wrap_u64]; omega

end Go.Pon
/-
  Helpers of the laws: hashes that contain numbers, lists of hashes.
-/
set_option autoImplicit false
set_option linter.unusedVariables false
set_option linter.unusedSimpArgs false
set_option maxRecDepth 100000
namespace Go.Pon
open Go

def hofN (n : Int) (i : Nat) : List Int := (List.range 32).map fun k => if k < i then (((n % 18446744073709551616).toNat / 256 ^ k % 256 : Nat) : Int) else 0

/-- The hash that contains a number. -/
def hof (n : Int) : List Int := hofN n 8

theorem len_hofN (n : Int) (i : Nat) : (hofN n i).length = 32 := by simp [hofN]

theorem hofN_getD {n : Int} {i k : Nat} (hk : k < 32) : (hofN n i).getD k 0 = if k < i then (((n % 18446744073709551616).toNat / 256 ^ k % 256 : Nat) : Int) else 0 := by
  rw [hofN, List.getD_eq_getElem?_getD, List.getElem?_map, List.getElem?_range hk]; rfl

theorem ext32 {l m : List Int} (hl : l.length = 32) (hm : m.length = 32) (h : ∀ k, k < 32 → l.getD k 0 = m.getD k 0) : l = m := by
  apply List.ext_getElem
  · omega
  · intro k h1 h2
    have := h k (by omega)
    rw [List.getD_eq_getElem?_getD, List.getElem?_eq_getElem h1, List.getD_eq_getElem?_getD, List.getElem?_eq_getElem h2] at this
    exact this

theorem h32_hof (n : Int) : H32 (hof n) := by
  refine ⟨len_hofN n 8, fun x hx => ?_⟩
  simp only [hof, hofN, List.mem_map] at hx
  obtain ⟨k, _, rfl⟩ := hx
  split <;> omega

theorem hashOf_eq (n : Int) : sol_law0_HashOf (n, ()) = some ((hof n, ()), ((), ())) := by
  unfold sol_law0_HashOf T_law0_HashOf
  refine bigLoop_rule (I := fun x => x.1 = n ∧ (0 : Int) ≤ x.2.2.2.1 ∧ x.2.2.2.1 ≤ (8 : Int) ∧ x.2.2.1 = hofN n x.2.2.2.1.toNat) (m := fun x => ((8 : Int) - x.2.2.2.1).toNat) (g := fun _ => some ((hof n, ()), ((), ()))) ?_
    ⟨rfl, by simp only; omega, by simp only; omega, ?_⟩ (by simp only [bigN_eq]; omega)
  · rintro ⟨n', t, h, i, _⟩ again ⟨e0, e1, e2, e3⟩ hag
    simp only at e0 e1 e2 e3 hag ⊢
    subst e0 e3
    obtain ⟨i, rfl⟩ := Int.eq_ofNat_of_zero_le e1
    simp only [T_law0_HashOf_loop0, letR_eq, brR_dec, brR_inR, Int.toNat_natCast]
    by_cases hi : i < 8
    · rw [if_pos (by omega), w_i64 (n := 8 * (i : Int)) (by omega) (by omega), w_u64 (n := 8 * (i : Int)) (by omega) (by omega), if_pos (by omega), if_pos (by omega), w_i64 (by omega) (by omega), show (8 * (i : Int)).toNat = 8 * i by omega, Nat.min_eq_left (by omega)]
      have hb : IntKind.wrap .u8 (Int.fdiv (IntKind.wrap .u64 n') ((2 : Int) ^ (8 * i))) = (((n' % 18446744073709551616).toNat / 256 ^ i % 256 : Nat) : Int) := by
        have p : ∀ k : Nat, (2 : Int) ^ k = ((2 ^ k : Nat) : Int) := fun k => by rw [Int.natCast_pow]; rfl
        have e : IntKind.wrap .u64 n' = (((n' % 18446744073709551616).toNat : Nat) : Int) := by rw [IntKind.wrap_u64]; omega
        rw [e, p, d32, IntKind.wrap_u8, pow256]; omega
      rw [hb]
      refine hag _ ⟨rfl, by simp only; omega, by simp only; omega, ?_⟩ (by simp only; omega)
      simp only
      rw [show ((i : Int) + 1).toNat = i + 1 by omega]
      refine ext32 (by rw [List.length_set, len_hofN]) (len_hofN _ _) fun k hk => ?_
      rw [lgetD_set (by rw [len_hofN]; omega), hofN_getD hk, hofN_getD hk]
      by_cases hki : k = i
      · subst hki; rw [if_pos rfl, if_pos (by omega)]
      · rw [if_neg hki]
        by_cases hlt : k < i
        · rw [if_pos hlt, if_pos (by omega)]
        · rw [if_neg hlt, if_neg (by omega)]
    · have : i = 8 := by omega
      subst this
      rw [if_neg (by omega)]; rfl
  · simp only
    refine ext32 (by simp) (len_hofN _ _) fun k hk => ?_
    rw [hofN_getD hk, show (0 : Int).toNat = 0 from rfl, if_neg (by omega), List.getD_eq_getElem?_getD, List.getElem?_replicate, if_pos hk]; rfl

/-- Lists that agree place by place are one. -/
theorem ext_getD {α : Type} {l m : List α} {d : α} (hl : l.length = m.length) (h : ∀ k, k < l.length → l.getD k d = m.getD k d) : l = m := by
  apply List.ext_getElem hl
  intro k h1 h2
  have := h k h1
  rw [List.getD_eq_getElem?_getD, List.getElem?_eq_getElem h1, List.getD_eq_getElem?_getD, List.getElem?_eq_getElem h2] at this
  exact this

theorem equalHashes_eq (a b : List (List Int)) (ha : a.length ≤ 1000000000) : sol_law0_EqualHashes (a, (b, ())) = some ((decide (a = b), ()), ((), ((), ()))) := by
  unfold sol_law0_EqualHashes T_law0_EqualHashes
  simp only [brR_dec, brR_not]
  by_cases hl : a.length = b.length
  · rw [if_pos (by omega)]
    refine bigLoop_rule (I := fun x => x.1 = a ∧ x.2.1 = b ∧ (0 : Int) ≤ x.2.2.1 ∧ x.2.2.1 ≤ ((a.length : Nat) : Int) ∧ ∀ k, k < x.2.2.1.toNat → a.getD k Z32 = b.getD k Z32) (m := fun x => (((a.length : Nat) : Int) - x.2.2.1).toNat) (g := fun _ => some ((decide (a = b), ()), ((), ((), ())))) ?_
      ⟨rfl, rfl, by simp only; omega, by simp only; omega, fun k hk => by simp at hk⟩ (by simp only [bigN_eq]; omega)
    rintro ⟨a', b', i, _⟩ again ⟨e0, e1, e2, e3, e4⟩ hag
    simp only at e0 e1 e2 e3 e4 hag ⊢
    subst e0 e1
    obtain ⟨i, rfl⟩ := Int.eq_ofNat_of_zero_le e2
    simp only [T_law0_EqualHashes_loop0, brR_dec, brR_inR, brR_not, eqD_h32, Int.toNat_natCast]
    by_cases hi : i < a'.length
    · rw [if_pos (by omega), if_pos (by omega), if_pos (by omega)]
      by_cases hc : a'.getD i Z32 = b'.getD i Z32
      · rw [if_pos hc, w_i64 (by omega) (by omega)]
        refine hag _ ⟨rfl, rfl, by simp only; omega, by simp only; omega, fun k hk => ?_⟩ (by simp only; omega)
        simp only at hk
        rw [show ((i : Int) + 1).toNat = i + 1 by omega] at hk
        rcases Nat.lt_or_ge k i with h | h
        · exact e4 k (by simpa using h)
        · rw [show k = i by omega]; exact hc
      · rw [if_neg hc, decide_eq_false (fun h => hc (by rw [h]))]
    · rw [if_neg (by omega), decide_eq_true (ext_getD hl fun k hk => e4 k (by simp; omega))]
  · rw [if_neg (by omega), decide_eq_false (fun h => hl (by rw [h]))]

theorem take_map_succ {α β : Type} {f : α → β} {l : List α} {d : α} {i : Nat} (h : i < l.length) : (l.take (i + 1)).map f = (l.take i).map f ++ [f (l.getD i d)] := by
  rw [List.take_succ_eq_append_getElem h, List.map_append, List.getD_eq_getElem?_getD, List.getElem?_eq_getElem h]; rfl

theorem take_succ' {α : Type} {l : List α} {d : α} {i : Nat} (h : i < l.length) : l.take (i + 1) = l.take i ++ [l.getD i d] := by
  rw [List.take_succ_eq_append_getElem h, List.getD_eq_getElem?_getD, List.getElem?_eq_getElem h]; rfl

theorem allH_map (v : List Int) : AllH (v.map hof) := fun x hx => by
  obtain ⟨n, _, rfl⟩ := List.mem_map.1 hx
  exact h32_hof n

end Go.Pon
