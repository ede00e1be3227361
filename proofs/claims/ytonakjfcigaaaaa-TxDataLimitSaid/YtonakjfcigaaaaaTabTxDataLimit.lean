/-
  The seat's program: what each function computes.
-/
import Derived.Test.YtonakjfcigaaaaaChecked
import Derived.Test.YtonakjfcigaaaaaPTxDataLimit1
set_option autoImplicit false
set_option linter.unusedVariables false
set_option maxRecDepth 100000
namespace Go.Pon.Ytonakjfcigaaaaa
open Go Go.Pon

noncomputable def tyTab : List (Nat × Ty) := [(3, (.int .i64)), (4, .bool), (5, (.int .u8)), (9, .str), (22, (.int .u64)), (23, (.int .u64)), (25, (.arr 4 (.int .u64))), (26, (.slice (.int .u8))), (28, (.pair (.int .u64) (.pair (.int .u64) (.pair (.int .u64) (.pair (.arr 4 (.int .u64)) (.pair (.int .u64) (.pair (.arr 4 (.int .u64)) (.pair (.arr 4 (.int .u64)) (.pair (.int .u64) (.pair (.slice (.int .u8)) .unit)))))))))), (30, (.int .i64)), (36, (.arr 2 (.slice (.int .u8)))), (48, (.int .u64)), (49, .ptr), (54, .ptr), (56, (.pair (.slice (.int .u8)) (.pair (.int .i64) (.pair .bool .unit)))), (61, (.pair (.slice (.int .u8)) (.pair (.int .i64) (.pair .bool .unit)))), (69, (.slice (.slice (.int .u8))))]

noncomputable def sigTab : List (Nat × Sig) := [(32, s_uint256_FromUint64), (48, s_math_bits_Len64), (44, s_uint256_BitLen), (34, s_wire_encode), (43, s_slices_Grow_byte_byte), (33, s_slices_Concat_byte_byte), (20, s_wire_AppendUint256), (19, s_wire_AppendUint64), (21, s_wire_AppendBytes), (10, s_tx_Encode), (23, s_wirereader_New), (45, s_wire_readUint), (36, s_wire_ReadUint64), (37, s_wirereader_Reader_advance), (24, s_wirereader_Reader_Uint64), (38, s_wire_ReadUint256), (25, s_wirereader_Reader_Uint256), (46, s_slices_Clone_byte_byte), (39, s_wire_ReadBytes), (26, s_wirereader_Reader_Bytes), (27, s_wirereader_Reader_Done), (14, s_tx_Decode), (9, s_law22_awake), (35, s_ref6_digits), (22, s_ref6_AppendUint256), (18, s_ref6_AppendUint64), (17, s_ref6_AppendBytes), (13, s_law0_Mod), (16, s_ref22_Equal), (7, s_law22_TxDataLimit)]

noncomputable def hintTab : List ((Nat × Nat) × List (Nat × MTy)) := [((44, 0), [(1, (.ptr (.ro true (.arr 4 (.int .u64))))), (3, (.ro true (.int .i64)))]), ((34, 0), [(1, (.ptr (.ro true (.arr 4 (.int .u64))))), (4, (.own true (.int .u8))), (5, (.ro true (.int .i64)))]), ((33, 0), [(0, (.ro false (.slice (.slice (.int .u8))))), (3, (.ro true (.int .i64))), (9, (.ro false (.slice (.slice (.int .u8))))), (10, (.ro true (.int .i64))), (11, (.ro true (.int .i64)))]), ((33, 2), [(6, (.own true (.int .u8))), (25, (.ro false (.slice (.slice (.int .u8))))), (26, (.ro true (.int .i64))), (27, (.ro true (.int .i64)))]), ((45, 0), [(1, (.ro true (.int .i64))), (6, (.ptr (.ro true (.arr 4 (.int .u64))))), (9, (.ro false (.slice (.int .u8)))), (10, (.ro true (.int .i64))), (11, (.ptr (.ro true (.arr 4 (.int .u64))))), (56, (.ro true (.int .i64))), (57, (.ro true (.int .i64)))]), ((35, 0), [(1, (.ptr (.ro true (.arr 4 (.int .u64))))), (3, (.own true (.int .u8))), (4, (.ro true (.int .i64)))]), ((7, 0), [(0, (.ro true (.int .u8))), (1, (.ro true (.int .i64))), (5, (.full (.int .u8))), (6, (.ro true (.int .i64)))])]

noncomputable def aliTab : List ((Nat × Nat) × List Ali) := []

noncomputable abbrev gN : Ctx := mkG tyTab sigTab hintTab false aliTab
noncomputable abbrev gC : Ctx := mkG tyTab sigTab hintTab true aliTab

theorem tab : TabOK Go.Proofs.Try.prog tyTab sigTab :=
  ⟨of_decide_eq_true (by kernel_rfl), by kernel_rfl, by kernel_rfl, by kernel_rfl⟩

theorem eq_uint256_FromUint64 (L : LoopD) (C : CallD) : ∀ x, evalBody L C gN 32 Go.Proofs.Try.f32 (Go.Proofs.Try.f32.body.getD .skip) s_uint256_FromUint64 x = T_uint256_FromUint64 L x.1 := by
  intro x; kernel_rfl
theorem ok_uint256_FromUint64 : FnOK Go.Proofs.Try.prog 32 s_uint256_FromUint64 sol_uint256_FromUint64 :=
  fn_ok tab [] mem_nil_ok Go.Proofs.Try.func32 (by kernel_rfl) (by kernel_rfl) (fun x => (eq_uint256_FromUint64 bigLoop _ x).trans (by
    show T_uint256_FromUint64 bigLoop x.1 = T_uint256_FromUint64 bigLoop x.1
    rfl))

theorem eq_math_bits_Len64 (L : LoopD) (C : CallD) : ∀ x, evalBody L C gN 48 Go.Proofs.Try.f48 (Go.Proofs.Try.f48.body.getD .skip) s_math_bits_Len64 x = T_math_bits_Len64 L x.1 := by
  intro x; kernel_rfl
theorem ok_math_bits_Len64 : FnOK Go.Proofs.Try.prog 48 s_math_bits_Len64 sol_math_bits_Len64 :=
  fn_ok tab [] mem_nil_ok Go.Proofs.Try.func48 (by kernel_rfl) (by kernel_rfl) (fun x => (eq_math_bits_Len64 bigLoop _ x).trans (by
    show T_math_bits_Len64 bigLoop x.1 = T_math_bits_Len64 bigLoop x.1
    rfl))

theorem eq_uint256_BitLen (L : LoopD) (C : CallD) : ∀ x, evalBody L C gN 44 Go.Proofs.Try.f44 (Go.Proofs.Try.f44.body.getD .skip) s_uint256_BitLen x = T_uint256_BitLen L (C 48 s_math_bits_Len64) x.1 := by
  intro x; kernel_rfl
theorem ok_uint256_BitLen : FnOK Go.Proofs.Try.prog 44 s_uint256_BitLen sol_uint256_BitLen :=
  fn_ok tab [⟨48, s_math_bits_Len64, sol_math_bits_Len64⟩] (mem_cons_ok ok_math_bits_Len64 mem_nil_ok) Go.Proofs.Try.func44 (by kernel_rfl) (by kernel_rfl) (fun x => (eq_uint256_BitLen bigLoop _ x).trans (by
    show T_uint256_BitLen bigLoop (pick [⟨48, s_math_bits_Len64, sol_math_bits_Len64⟩] 48 s_math_bits_Len64) x.1 = T_uint256_BitLen bigLoop sol_math_bits_Len64 x.1
    rw [show pick [⟨48, s_math_bits_Len64, sol_math_bits_Len64⟩] 48 s_math_bits_Len64 = sol_math_bits_Len64 from pick_hit _ _ _ _]))

theorem eq_wire_encode (L : LoopD) (C : CallD) : ∀ x, evalBody L C gN 34 Go.Proofs.Try.f34 (Go.Proofs.Try.f34.body.getD .skip) s_wire_encode x = T_wire_encode L (C 44 s_uint256_BitLen) x.1 := by
  intro x; kernel_rfl
theorem ok_wire_encode : FnOK Go.Proofs.Try.prog 34 s_wire_encode sol_wire_encode :=
  fn_ok tab [⟨44, s_uint256_BitLen, sol_uint256_BitLen⟩] (mem_cons_ok ok_uint256_BitLen mem_nil_ok) Go.Proofs.Try.func34 (by kernel_rfl) (by kernel_rfl) (fun x => (eq_wire_encode bigLoop _ x).trans (by
    show T_wire_encode bigLoop (pick [⟨44, s_uint256_BitLen, sol_uint256_BitLen⟩] 44 s_uint256_BitLen) x.1 = T_wire_encode bigLoop sol_uint256_BitLen x.1
    rw [show pick [⟨44, s_uint256_BitLen, sol_uint256_BitLen⟩] 44 s_uint256_BitLen = sol_uint256_BitLen from pick_hit _ _ _ _]))

theorem eq_slices_Grow_byte_byte (L : LoopD) (C : CallD) : ∀ x, evalBody L C gC 43 Go.Proofs.Try.f43 (Go.Proofs.Try.f43.body.getD .skip) s_slices_Grow_byte_byte x = T_slices_Grow_byte_byte L x.1 x.2.1 := by
  intro x; kernel_rfl
theorem ok_slices_Grow_byte_byte : FnOK Go.Proofs.Try.prog 43 s_slices_Grow_byte_byte sol_slices_Grow_byte_byte :=
  fn_ok tab [] mem_nil_ok Go.Proofs.Try.func43 (by kernel_rfl) (by kernel_rfl) (fun x => (eq_slices_Grow_byte_byte bigLoop _ x).trans (by
    show T_slices_Grow_byte_byte bigLoop x.1 x.2.1 = T_slices_Grow_byte_byte bigLoop x.1 x.2.1
    rfl))

theorem eq_slices_Concat_byte_byte (L : LoopD) (C : CallD) : ∀ x, evalBody L C gN 33 Go.Proofs.Try.f33 (Go.Proofs.Try.f33.body.getD .skip) s_slices_Concat_byte_byte x = T_slices_Concat_byte_byte L (C 43 s_slices_Grow_byte_byte) x.1 := by
  intro x; kernel_rfl
theorem ok_slices_Concat_byte_byte : FnOK Go.Proofs.Try.prog 33 s_slices_Concat_byte_byte sol_slices_Concat_byte_byte :=
  fn_ok tab [⟨43, s_slices_Grow_byte_byte, sol_slices_Grow_byte_byte⟩] (mem_cons_ok ok_slices_Grow_byte_byte mem_nil_ok) Go.Proofs.Try.func33 (by kernel_rfl) (by kernel_rfl) (fun x => (eq_slices_Concat_byte_byte bigLoop _ x).trans (by
    show T_slices_Concat_byte_byte bigLoop (pick [⟨43, s_slices_Grow_byte_byte, sol_slices_Grow_byte_byte⟩] 43 s_slices_Grow_byte_byte) x.1 = T_slices_Concat_byte_byte bigLoop sol_slices_Grow_byte_byte x.1
    rw [show pick [⟨43, s_slices_Grow_byte_byte, sol_slices_Grow_byte_byte⟩] 43 s_slices_Grow_byte_byte = sol_slices_Grow_byte_byte from pick_hit _ _ _ _]))

theorem eq_wire_AppendUint256 (L : LoopD) (C : CallD) : ∀ x, evalBody L C gN 20 Go.Proofs.Try.f20 (Go.Proofs.Try.f20.body.getD .skip) s_wire_AppendUint256 x = T_wire_AppendUint256 L (C 34 s_wire_encode) (C 33 s_slices_Concat_byte_byte) x.1 x.2.1 := by
  intro x; kernel_rfl
theorem ok_wire_AppendUint256 : FnOK Go.Proofs.Try.prog 20 s_wire_AppendUint256 sol_wire_AppendUint256 :=
  fn_ok tab [⟨34, s_wire_encode, sol_wire_encode⟩, ⟨33, s_slices_Concat_byte_byte, sol_slices_Concat_byte_byte⟩] (mem_cons_ok ok_wire_encode (mem_cons_ok ok_slices_Concat_byte_byte mem_nil_ok)) Go.Proofs.Try.func20 (by kernel_rfl) (by kernel_rfl) (fun x => (eq_wire_AppendUint256 bigLoop _ x).trans (by
    show T_wire_AppendUint256 bigLoop (pick [⟨34, s_wire_encode, sol_wire_encode⟩, ⟨33, s_slices_Concat_byte_byte, sol_slices_Concat_byte_byte⟩] 34 s_wire_encode) (pick [⟨34, s_wire_encode, sol_wire_encode⟩, ⟨33, s_slices_Concat_byte_byte, sol_slices_Concat_byte_byte⟩] 33 s_slices_Concat_byte_byte) x.1 x.2.1 = T_wire_AppendUint256 bigLoop sol_wire_encode sol_slices_Concat_byte_byte x.1 x.2.1
    rw [show pick [⟨34, s_wire_encode, sol_wire_encode⟩, ⟨33, s_slices_Concat_byte_byte, sol_slices_Concat_byte_byte⟩] 34 s_wire_encode = sol_wire_encode from pick_hit _ _ _ _, show pick [⟨34, s_wire_encode, sol_wire_encode⟩, ⟨33, s_slices_Concat_byte_byte, sol_slices_Concat_byte_byte⟩] 33 s_slices_Concat_byte_byte = sol_slices_Concat_byte_byte from (pick_miss _ _ _ _ (by rfl)).trans (pick_hit _ _ _ _)]))

theorem eq_wire_AppendUint64 (L : LoopD) (C : CallD) : ∀ x, evalBody L C gN 19 Go.Proofs.Try.f19 (Go.Proofs.Try.f19.body.getD .skip) s_wire_AppendUint64 x = T_wire_AppendUint64 L (C 32 s_uint256_FromUint64) (C 20 s_wire_AppendUint256) x.1 x.2.1 := by
  intro x; kernel_rfl
theorem ok_wire_AppendUint64 : FnOK Go.Proofs.Try.prog 19 s_wire_AppendUint64 sol_wire_AppendUint64 :=
  fn_ok tab [⟨32, s_uint256_FromUint64, sol_uint256_FromUint64⟩, ⟨20, s_wire_AppendUint256, sol_wire_AppendUint256⟩] (mem_cons_ok ok_uint256_FromUint64 (mem_cons_ok ok_wire_AppendUint256 mem_nil_ok)) Go.Proofs.Try.func19 (by kernel_rfl) (by kernel_rfl) (fun x => (eq_wire_AppendUint64 bigLoop _ x).trans (by
    show T_wire_AppendUint64 bigLoop (pick [⟨32, s_uint256_FromUint64, sol_uint256_FromUint64⟩, ⟨20, s_wire_AppendUint256, sol_wire_AppendUint256⟩] 32 s_uint256_FromUint64) (pick [⟨32, s_uint256_FromUint64, sol_uint256_FromUint64⟩, ⟨20, s_wire_AppendUint256, sol_wire_AppendUint256⟩] 20 s_wire_AppendUint256) x.1 x.2.1 = T_wire_AppendUint64 bigLoop sol_uint256_FromUint64 sol_wire_AppendUint256 x.1 x.2.1
    rw [show pick [⟨32, s_uint256_FromUint64, sol_uint256_FromUint64⟩, ⟨20, s_wire_AppendUint256, sol_wire_AppendUint256⟩] 32 s_uint256_FromUint64 = sol_uint256_FromUint64 from pick_hit _ _ _ _, show pick [⟨32, s_uint256_FromUint64, sol_uint256_FromUint64⟩, ⟨20, s_wire_AppendUint256, sol_wire_AppendUint256⟩] 20 s_wire_AppendUint256 = sol_wire_AppendUint256 from (pick_miss _ _ _ _ (by rfl)).trans (pick_hit _ _ _ _)]))

theorem eq_wire_AppendBytes (L : LoopD) (C : CallD) : ∀ x, evalBody L C gN 21 Go.Proofs.Try.f21 (Go.Proofs.Try.f21.body.getD .skip) s_wire_AppendBytes x = T_wire_AppendBytes L (C 32 s_uint256_FromUint64) (C 34 s_wire_encode) (C 33 s_slices_Concat_byte_byte) x.1 x.2.1 := by
  intro x; kernel_rfl
theorem ok_wire_AppendBytes : FnOK Go.Proofs.Try.prog 21 s_wire_AppendBytes sol_wire_AppendBytes :=
  fn_ok tab [⟨32, s_uint256_FromUint64, sol_uint256_FromUint64⟩, ⟨34, s_wire_encode, sol_wire_encode⟩, ⟨33, s_slices_Concat_byte_byte, sol_slices_Concat_byte_byte⟩] (mem_cons_ok ok_uint256_FromUint64 (mem_cons_ok ok_wire_encode (mem_cons_ok ok_slices_Concat_byte_byte mem_nil_ok))) Go.Proofs.Try.func21 (by kernel_rfl) (by kernel_rfl) (fun x => (eq_wire_AppendBytes bigLoop _ x).trans (by
    show T_wire_AppendBytes bigLoop (pick [⟨32, s_uint256_FromUint64, sol_uint256_FromUint64⟩, ⟨34, s_wire_encode, sol_wire_encode⟩, ⟨33, s_slices_Concat_byte_byte, sol_slices_Concat_byte_byte⟩] 32 s_uint256_FromUint64) (pick [⟨32, s_uint256_FromUint64, sol_uint256_FromUint64⟩, ⟨34, s_wire_encode, sol_wire_encode⟩, ⟨33, s_slices_Concat_byte_byte, sol_slices_Concat_byte_byte⟩] 34 s_wire_encode) (pick [⟨32, s_uint256_FromUint64, sol_uint256_FromUint64⟩, ⟨34, s_wire_encode, sol_wire_encode⟩, ⟨33, s_slices_Concat_byte_byte, sol_slices_Concat_byte_byte⟩] 33 s_slices_Concat_byte_byte) x.1 x.2.1 = T_wire_AppendBytes bigLoop sol_uint256_FromUint64 sol_wire_encode sol_slices_Concat_byte_byte x.1 x.2.1
    rw [show pick [⟨32, s_uint256_FromUint64, sol_uint256_FromUint64⟩, ⟨34, s_wire_encode, sol_wire_encode⟩, ⟨33, s_slices_Concat_byte_byte, sol_slices_Concat_byte_byte⟩] 32 s_uint256_FromUint64 = sol_uint256_FromUint64 from pick_hit _ _ _ _, show pick [⟨32, s_uint256_FromUint64, sol_uint256_FromUint64⟩, ⟨34, s_wire_encode, sol_wire_encode⟩, ⟨33, s_slices_Concat_byte_byte, sol_slices_Concat_byte_byte⟩] 34 s_wire_encode = sol_wire_encode from (pick_miss _ _ _ _ (by rfl)).trans (pick_hit _ _ _ _), show pick [⟨32, s_uint256_FromUint64, sol_uint256_FromUint64⟩, ⟨34, s_wire_encode, sol_wire_encode⟩, ⟨33, s_slices_Concat_byte_byte, sol_slices_Concat_byte_byte⟩] 33 s_slices_Concat_byte_byte = sol_slices_Concat_byte_byte from (pick_miss _ _ _ _ (by rfl)).trans ((pick_miss _ _ _ _ (by rfl)).trans (pick_hit _ _ _ _))]))

theorem eq_tx_Encode (L : LoopD) (C : CallD) : ∀ x, evalBody L C gN 10 Go.Proofs.Try.f10 (Go.Proofs.Try.f10.body.getD .skip) s_tx_Encode x = T_tx_Encode L (C 19 s_wire_AppendUint64) (C 20 s_wire_AppendUint256) (C 21 s_wire_AppendBytes) x.1 := by
  intro x; kernel_rfl
theorem ok_tx_Encode : FnOK Go.Proofs.Try.prog 10 s_tx_Encode sol_tx_Encode :=
  fn_ok tab [⟨19, s_wire_AppendUint64, sol_wire_AppendUint64⟩, ⟨20, s_wire_AppendUint256, sol_wire_AppendUint256⟩, ⟨21, s_wire_AppendBytes, sol_wire_AppendBytes⟩] (mem_cons_ok ok_wire_AppendUint64 (mem_cons_ok ok_wire_AppendUint256 (mem_cons_ok ok_wire_AppendBytes mem_nil_ok))) Go.Proofs.Try.func10 (by kernel_rfl) (by kernel_rfl) (fun x => (eq_tx_Encode bigLoop _ x).trans (by
    show T_tx_Encode bigLoop (pick [⟨19, s_wire_AppendUint64, sol_wire_AppendUint64⟩, ⟨20, s_wire_AppendUint256, sol_wire_AppendUint256⟩, ⟨21, s_wire_AppendBytes, sol_wire_AppendBytes⟩] 19 s_wire_AppendUint64) (pick [⟨19, s_wire_AppendUint64, sol_wire_AppendUint64⟩, ⟨20, s_wire_AppendUint256, sol_wire_AppendUint256⟩, ⟨21, s_wire_AppendBytes, sol_wire_AppendBytes⟩] 20 s_wire_AppendUint256) (pick [⟨19, s_wire_AppendUint64, sol_wire_AppendUint64⟩, ⟨20, s_wire_AppendUint256, sol_wire_AppendUint256⟩, ⟨21, s_wire_AppendBytes, sol_wire_AppendBytes⟩] 21 s_wire_AppendBytes) x.1 = T_tx_Encode bigLoop sol_wire_AppendUint64 sol_wire_AppendUint256 sol_wire_AppendBytes x.1
    rw [show pick [⟨19, s_wire_AppendUint64, sol_wire_AppendUint64⟩, ⟨20, s_wire_AppendUint256, sol_wire_AppendUint256⟩, ⟨21, s_wire_AppendBytes, sol_wire_AppendBytes⟩] 19 s_wire_AppendUint64 = sol_wire_AppendUint64 from pick_hit _ _ _ _, show pick [⟨19, s_wire_AppendUint64, sol_wire_AppendUint64⟩, ⟨20, s_wire_AppendUint256, sol_wire_AppendUint256⟩, ⟨21, s_wire_AppendBytes, sol_wire_AppendBytes⟩] 20 s_wire_AppendUint256 = sol_wire_AppendUint256 from (pick_miss _ _ _ _ (by rfl)).trans (pick_hit _ _ _ _), show pick [⟨19, s_wire_AppendUint64, sol_wire_AppendUint64⟩, ⟨20, s_wire_AppendUint256, sol_wire_AppendUint256⟩, ⟨21, s_wire_AppendBytes, sol_wire_AppendBytes⟩] 21 s_wire_AppendBytes = sol_wire_AppendBytes from (pick_miss _ _ _ _ (by rfl)).trans ((pick_miss _ _ _ _ (by rfl)).trans (pick_hit _ _ _ _))]))

theorem eq_wirereader_New (L : LoopD) (C : CallD) : ∀ x, evalBody L C gN 23 Go.Proofs.Try.f23 (Go.Proofs.Try.f23.body.getD .skip) s_wirereader_New x = T_wirereader_New L x.1 := by
  intro x; kernel_rfl
theorem ok_wirereader_New : FnOK Go.Proofs.Try.prog 23 s_wirereader_New sol_wirereader_New :=
  fn_ok tab [] mem_nil_ok Go.Proofs.Try.func23 (by kernel_rfl) (by kernel_rfl) (fun x => (eq_wirereader_New bigLoop _ x).trans (by
    show T_wirereader_New bigLoop x.1 = T_wirereader_New bigLoop x.1
    rfl))

theorem eq_wire_readUint (L : LoopD) (C : CallD) : ∀ x, evalBody L C gN 45 Go.Proofs.Try.f45 (Go.Proofs.Try.f45.body.getD .skip) s_wire_readUint x = T_wire_readUint L x.1 x.2.1 x.2.2.1 := by
  intro x; kernel_rfl
theorem ok_wire_readUint : FnOK Go.Proofs.Try.prog 45 s_wire_readUint sol_wire_readUint :=
  fn_ok tab [] mem_nil_ok Go.Proofs.Try.func45 (by kernel_rfl) (by kernel_rfl) (fun x => (eq_wire_readUint bigLoop _ x).trans (by
    show T_wire_readUint bigLoop x.1 x.2.1 x.2.2.1 = T_wire_readUint bigLoop x.1 x.2.1 x.2.2.1
    rfl))

theorem eq_wire_ReadUint64 (L : LoopD) (C : CallD) : ∀ x, evalBody L C gN 36 Go.Proofs.Try.f36 (Go.Proofs.Try.f36.body.getD .skip) s_wire_ReadUint64 x = T_wire_ReadUint64 L (C 45 s_wire_readUint) x.1 x.2.1 := by
  intro x; kernel_rfl
theorem ok_wire_ReadUint64 : FnOK Go.Proofs.Try.prog 36 s_wire_ReadUint64 sol_wire_ReadUint64 :=
  fn_ok tab [⟨45, s_wire_readUint, sol_wire_readUint⟩] (mem_cons_ok ok_wire_readUint mem_nil_ok) Go.Proofs.Try.func36 (by kernel_rfl) (by kernel_rfl) (fun x => (eq_wire_ReadUint64 bigLoop _ x).trans (by
    show T_wire_ReadUint64 bigLoop (pick [⟨45, s_wire_readUint, sol_wire_readUint⟩] 45 s_wire_readUint) x.1 x.2.1 = T_wire_ReadUint64 bigLoop sol_wire_readUint x.1 x.2.1
    rw [show pick [⟨45, s_wire_readUint, sol_wire_readUint⟩] 45 s_wire_readUint = sol_wire_readUint from pick_hit _ _ _ _]))

theorem eq_wirereader_Reader_advance (L : LoopD) (C : CallD) : ∀ x, evalBody L C gN 37 Go.Proofs.Try.f37 (Go.Proofs.Try.f37.body.getD .skip) s_wirereader_Reader_advance x = T_wirereader_Reader_advance L x.1 x.2.1 x.2.2.1 := by
  intro x; kernel_rfl
theorem ok_wirereader_Reader_advance : FnOK Go.Proofs.Try.prog 37 s_wirereader_Reader_advance sol_wirereader_Reader_advance :=
  fn_ok tab [] mem_nil_ok Go.Proofs.Try.func37 (by kernel_rfl) (by kernel_rfl) (fun x => (eq_wirereader_Reader_advance bigLoop _ x).trans (by
    show T_wirereader_Reader_advance bigLoop x.1 x.2.1 x.2.2.1 = T_wirereader_Reader_advance bigLoop x.1 x.2.1 x.2.2.1
    rfl))

theorem eq_wirereader_Reader_Uint64 (L : LoopD) (C : CallD) : ∀ x, evalBody L C gN 24 Go.Proofs.Try.f24 (Go.Proofs.Try.f24.body.getD .skip) s_wirereader_Reader_Uint64 x = T_wirereader_Reader_Uint64 L (C 36 s_wire_ReadUint64) (C 37 s_wirereader_Reader_advance) x.1 := by
  intro x; kernel_rfl
theorem ok_wirereader_Reader_Uint64 : FnOK Go.Proofs.Try.prog 24 s_wirereader_Reader_Uint64 sol_wirereader_Reader_Uint64 :=
  fn_ok tab [⟨36, s_wire_ReadUint64, sol_wire_ReadUint64⟩, ⟨37, s_wirereader_Reader_advance, sol_wirereader_Reader_advance⟩] (mem_cons_ok ok_wire_ReadUint64 (mem_cons_ok ok_wirereader_Reader_advance mem_nil_ok)) Go.Proofs.Try.func24 (by kernel_rfl) (by kernel_rfl) (fun x => (eq_wirereader_Reader_Uint64 bigLoop _ x).trans (by
    show T_wirereader_Reader_Uint64 bigLoop (pick [⟨36, s_wire_ReadUint64, sol_wire_ReadUint64⟩, ⟨37, s_wirereader_Reader_advance, sol_wirereader_Reader_advance⟩] 36 s_wire_ReadUint64) (pick [⟨36, s_wire_ReadUint64, sol_wire_ReadUint64⟩, ⟨37, s_wirereader_Reader_advance, sol_wirereader_Reader_advance⟩] 37 s_wirereader_Reader_advance) x.1 = T_wirereader_Reader_Uint64 bigLoop sol_wire_ReadUint64 sol_wirereader_Reader_advance x.1
    rw [show pick [⟨36, s_wire_ReadUint64, sol_wire_ReadUint64⟩, ⟨37, s_wirereader_Reader_advance, sol_wirereader_Reader_advance⟩] 36 s_wire_ReadUint64 = sol_wire_ReadUint64 from pick_hit _ _ _ _, show pick [⟨36, s_wire_ReadUint64, sol_wire_ReadUint64⟩, ⟨37, s_wirereader_Reader_advance, sol_wirereader_Reader_advance⟩] 37 s_wirereader_Reader_advance = sol_wirereader_Reader_advance from (pick_miss _ _ _ _ (by rfl)).trans (pick_hit _ _ _ _)]))

theorem eq_wire_ReadUint256 (L : LoopD) (C : CallD) : ∀ x, evalBody L C gN 38 Go.Proofs.Try.f38 (Go.Proofs.Try.f38.body.getD .skip) s_wire_ReadUint256 x = T_wire_ReadUint256 L (C 45 s_wire_readUint) x.1 x.2.1 := by
  intro x; kernel_rfl
theorem ok_wire_ReadUint256 : FnOK Go.Proofs.Try.prog 38 s_wire_ReadUint256 sol_wire_ReadUint256 :=
  fn_ok tab [⟨45, s_wire_readUint, sol_wire_readUint⟩] (mem_cons_ok ok_wire_readUint mem_nil_ok) Go.Proofs.Try.func38 (by kernel_rfl) (by kernel_rfl) (fun x => (eq_wire_ReadUint256 bigLoop _ x).trans (by
    show T_wire_ReadUint256 bigLoop (pick [⟨45, s_wire_readUint, sol_wire_readUint⟩] 45 s_wire_readUint) x.1 x.2.1 = T_wire_ReadUint256 bigLoop sol_wire_readUint x.1 x.2.1
    rw [show pick [⟨45, s_wire_readUint, sol_wire_readUint⟩] 45 s_wire_readUint = sol_wire_readUint from pick_hit _ _ _ _]))

theorem eq_wirereader_Reader_Uint256 (L : LoopD) (C : CallD) : ∀ x, evalBody L C gN 25 Go.Proofs.Try.f25 (Go.Proofs.Try.f25.body.getD .skip) s_wirereader_Reader_Uint256 x = T_wirereader_Reader_Uint256 L (C 38 s_wire_ReadUint256) (C 37 s_wirereader_Reader_advance) x.1 := by
  intro x; kernel_rfl
theorem ok_wirereader_Reader_Uint256 : FnOK Go.Proofs.Try.prog 25 s_wirereader_Reader_Uint256 sol_wirereader_Reader_Uint256 :=
  fn_ok tab [⟨38, s_wire_ReadUint256, sol_wire_ReadUint256⟩, ⟨37, s_wirereader_Reader_advance, sol_wirereader_Reader_advance⟩] (mem_cons_ok ok_wire_ReadUint256 (mem_cons_ok ok_wirereader_Reader_advance mem_nil_ok)) Go.Proofs.Try.func25 (by kernel_rfl) (by kernel_rfl) (fun x => (eq_wirereader_Reader_Uint256 bigLoop _ x).trans (by
    show T_wirereader_Reader_Uint256 bigLoop (pick [⟨38, s_wire_ReadUint256, sol_wire_ReadUint256⟩, ⟨37, s_wirereader_Reader_advance, sol_wirereader_Reader_advance⟩] 38 s_wire_ReadUint256) (pick [⟨38, s_wire_ReadUint256, sol_wire_ReadUint256⟩, ⟨37, s_wirereader_Reader_advance, sol_wirereader_Reader_advance⟩] 37 s_wirereader_Reader_advance) x.1 = T_wirereader_Reader_Uint256 bigLoop sol_wire_ReadUint256 sol_wirereader_Reader_advance x.1
    rw [show pick [⟨38, s_wire_ReadUint256, sol_wire_ReadUint256⟩, ⟨37, s_wirereader_Reader_advance, sol_wirereader_Reader_advance⟩] 38 s_wire_ReadUint256 = sol_wire_ReadUint256 from pick_hit _ _ _ _, show pick [⟨38, s_wire_ReadUint256, sol_wire_ReadUint256⟩, ⟨37, s_wirereader_Reader_advance, sol_wirereader_Reader_advance⟩] 37 s_wirereader_Reader_advance = sol_wirereader_Reader_advance from (pick_miss _ _ _ _ (by rfl)).trans (pick_hit _ _ _ _)]))

theorem eq_slices_Clone_byte_byte (L : LoopD) (C : CallD) : ∀ x, evalBody L C gN 46 Go.Proofs.Try.f46 (Go.Proofs.Try.f46.body.getD .skip) s_slices_Clone_byte_byte x = T_slices_Clone_byte_byte L x.1 := by
  intro x; kernel_rfl
theorem ok_slices_Clone_byte_byte : FnOK Go.Proofs.Try.prog 46 s_slices_Clone_byte_byte sol_slices_Clone_byte_byte :=
  fn_ok tab [] mem_nil_ok Go.Proofs.Try.func46 (by kernel_rfl) (by kernel_rfl) (fun x => (eq_slices_Clone_byte_byte bigLoop _ x).trans (by
    show T_slices_Clone_byte_byte bigLoop x.1 = T_slices_Clone_byte_byte bigLoop x.1
    rfl))

theorem eq_wire_ReadBytes (L : LoopD) (C : CallD) : ∀ x, evalBody L C gN 39 Go.Proofs.Try.f39 (Go.Proofs.Try.f39.body.getD .skip) s_wire_ReadBytes x = T_wire_ReadBytes L (C 36 s_wire_ReadUint64) (C 46 s_slices_Clone_byte_byte) x.1 x.2.1 := by
  intro x; kernel_rfl
theorem ok_wire_ReadBytes : FnOK Go.Proofs.Try.prog 39 s_wire_ReadBytes sol_wire_ReadBytes :=
  fn_ok tab [⟨36, s_wire_ReadUint64, sol_wire_ReadUint64⟩, ⟨46, s_slices_Clone_byte_byte, sol_slices_Clone_byte_byte⟩] (mem_cons_ok ok_wire_ReadUint64 (mem_cons_ok ok_slices_Clone_byte_byte mem_nil_ok)) Go.Proofs.Try.func39 (by kernel_rfl) (by kernel_rfl) (fun x => (eq_wire_ReadBytes bigLoop _ x).trans (by
    show T_wire_ReadBytes bigLoop (pick [⟨36, s_wire_ReadUint64, sol_wire_ReadUint64⟩, ⟨46, s_slices_Clone_byte_byte, sol_slices_Clone_byte_byte⟩] 36 s_wire_ReadUint64) (pick [⟨36, s_wire_ReadUint64, sol_wire_ReadUint64⟩, ⟨46, s_slices_Clone_byte_byte, sol_slices_Clone_byte_byte⟩] 46 s_slices_Clone_byte_byte) x.1 x.2.1 = T_wire_ReadBytes bigLoop sol_wire_ReadUint64 sol_slices_Clone_byte_byte x.1 x.2.1
    rw [show pick [⟨36, s_wire_ReadUint64, sol_wire_ReadUint64⟩, ⟨46, s_slices_Clone_byte_byte, sol_slices_Clone_byte_byte⟩] 36 s_wire_ReadUint64 = sol_wire_ReadUint64 from pick_hit _ _ _ _, show pick [⟨36, s_wire_ReadUint64, sol_wire_ReadUint64⟩, ⟨46, s_slices_Clone_byte_byte, sol_slices_Clone_byte_byte⟩] 46 s_slices_Clone_byte_byte = sol_slices_Clone_byte_byte from (pick_miss _ _ _ _ (by rfl)).trans (pick_hit _ _ _ _)]))

theorem eq_wirereader_Reader_Bytes (L : LoopD) (C : CallD) : ∀ x, evalBody L C gN 26 Go.Proofs.Try.f26 (Go.Proofs.Try.f26.body.getD .skip) s_wirereader_Reader_Bytes x = T_wirereader_Reader_Bytes L (C 39 s_wire_ReadBytes) (C 37 s_wirereader_Reader_advance) x.1 := by
  intro x; kernel_rfl
theorem ok_wirereader_Reader_Bytes : FnOK Go.Proofs.Try.prog 26 s_wirereader_Reader_Bytes sol_wirereader_Reader_Bytes :=
  fn_ok tab [⟨39, s_wire_ReadBytes, sol_wire_ReadBytes⟩, ⟨37, s_wirereader_Reader_advance, sol_wirereader_Reader_advance⟩] (mem_cons_ok ok_wire_ReadBytes (mem_cons_ok ok_wirereader_Reader_advance mem_nil_ok)) Go.Proofs.Try.func26 (by kernel_rfl) (by kernel_rfl) (fun x => (eq_wirereader_Reader_Bytes bigLoop _ x).trans (by
    show T_wirereader_Reader_Bytes bigLoop (pick [⟨39, s_wire_ReadBytes, sol_wire_ReadBytes⟩, ⟨37, s_wirereader_Reader_advance, sol_wirereader_Reader_advance⟩] 39 s_wire_ReadBytes) (pick [⟨39, s_wire_ReadBytes, sol_wire_ReadBytes⟩, ⟨37, s_wirereader_Reader_advance, sol_wirereader_Reader_advance⟩] 37 s_wirereader_Reader_advance) x.1 = T_wirereader_Reader_Bytes bigLoop sol_wire_ReadBytes sol_wirereader_Reader_advance x.1
    rw [show pick [⟨39, s_wire_ReadBytes, sol_wire_ReadBytes⟩, ⟨37, s_wirereader_Reader_advance, sol_wirereader_Reader_advance⟩] 39 s_wire_ReadBytes = sol_wire_ReadBytes from pick_hit _ _ _ _, show pick [⟨39, s_wire_ReadBytes, sol_wire_ReadBytes⟩, ⟨37, s_wirereader_Reader_advance, sol_wirereader_Reader_advance⟩] 37 s_wirereader_Reader_advance = sol_wirereader_Reader_advance from (pick_miss _ _ _ _ (by rfl)).trans (pick_hit _ _ _ _)]))

theorem eq_wirereader_Reader_Done (L : LoopD) (C : CallD) : ∀ x, evalBody L C gN 27 Go.Proofs.Try.f27 (Go.Proofs.Try.f27.body.getD .skip) s_wirereader_Reader_Done x = T_wirereader_Reader_Done L x.1 := by
  intro x; kernel_rfl
theorem ok_wirereader_Reader_Done : FnOK Go.Proofs.Try.prog 27 s_wirereader_Reader_Done sol_wirereader_Reader_Done :=
  fn_ok tab [] mem_nil_ok Go.Proofs.Try.func27 (by kernel_rfl) (by kernel_rfl) (fun x => (eq_wirereader_Reader_Done bigLoop _ x).trans (by
    show T_wirereader_Reader_Done bigLoop x.1 = T_wirereader_Reader_Done bigLoop x.1
    rfl))

theorem eq_tx_Decode (L : LoopD) (C : CallD) : ∀ x, evalBody L C gN 14 Go.Proofs.Try.f14 (Go.Proofs.Try.f14.body.getD .skip) s_tx_Decode x = T_tx_Decode L (C 23 s_wirereader_New) (C 24 s_wirereader_Reader_Uint64) (C 25 s_wirereader_Reader_Uint256) (C 26 s_wirereader_Reader_Bytes) (C 27 s_wirereader_Reader_Done) x.1 := by
  intro x; kernel_rfl
theorem ok_tx_Decode : FnOK Go.Proofs.Try.prog 14 s_tx_Decode sol_tx_Decode :=
  fn_ok tab [⟨23, s_wirereader_New, sol_wirereader_New⟩, ⟨24, s_wirereader_Reader_Uint64, sol_wirereader_Reader_Uint64⟩, ⟨25, s_wirereader_Reader_Uint256, sol_wirereader_Reader_Uint256⟩, ⟨26, s_wirereader_Reader_Bytes, sol_wirereader_Reader_Bytes⟩, ⟨27, s_wirereader_Reader_Done, sol_wirereader_Reader_Done⟩] (mem_cons_ok ok_wirereader_New (mem_cons_ok ok_wirereader_Reader_Uint64 (mem_cons_ok ok_wirereader_Reader_Uint256 (mem_cons_ok ok_wirereader_Reader_Bytes (mem_cons_ok ok_wirereader_Reader_Done mem_nil_ok))))) Go.Proofs.Try.func14 (by kernel_rfl) (by kernel_rfl) (fun x => (eq_tx_Decode bigLoop _ x).trans (by
    show T_tx_Decode bigLoop (pick [⟨23, s_wirereader_New, sol_wirereader_New⟩, ⟨24, s_wirereader_Reader_Uint64, sol_wirereader_Reader_Uint64⟩, ⟨25, s_wirereader_Reader_Uint256, sol_wirereader_Reader_Uint256⟩, ⟨26, s_wirereader_Reader_Bytes, sol_wirereader_Reader_Bytes⟩, ⟨27, s_wirereader_Reader_Done, sol_wirereader_Reader_Done⟩] 23 s_wirereader_New) (pick [⟨23, s_wirereader_New, sol_wirereader_New⟩, ⟨24, s_wirereader_Reader_Uint64, sol_wirereader_Reader_Uint64⟩, ⟨25, s_wirereader_Reader_Uint256, sol_wirereader_Reader_Uint256⟩, ⟨26, s_wirereader_Reader_Bytes, sol_wirereader_Reader_Bytes⟩, ⟨27, s_wirereader_Reader_Done, sol_wirereader_Reader_Done⟩] 24 s_wirereader_Reader_Uint64) (pick [⟨23, s_wirereader_New, sol_wirereader_New⟩, ⟨24, s_wirereader_Reader_Uint64, sol_wirereader_Reader_Uint64⟩, ⟨25, s_wirereader_Reader_Uint256, sol_wirereader_Reader_Uint256⟩, ⟨26, s_wirereader_Reader_Bytes, sol_wirereader_Reader_Bytes⟩, ⟨27, s_wirereader_Reader_Done, sol_wirereader_Reader_Done⟩] 25 s_wirereader_Reader_Uint256) (pick [⟨23, s_wirereader_New, sol_wirereader_New⟩, ⟨24, s_wirereader_Reader_Uint64, sol_wirereader_Reader_Uint64⟩, ⟨25, s_wirereader_Reader_Uint256, sol_wirereader_Reader_Uint256⟩, ⟨26, s_wirereader_Reader_Bytes, sol_wirereader_Reader_Bytes⟩, ⟨27, s_wirereader_Reader_Done, sol_wirereader_Reader_Done⟩] 26 s_wirereader_Reader_Bytes) (pick [⟨23, s_wirereader_New, sol_wirereader_New⟩, ⟨24, s_wirereader_Reader_Uint64, sol_wirereader_Reader_Uint64⟩, ⟨25, s_wirereader_Reader_Uint256, sol_wirereader_Reader_Uint256⟩, ⟨26, s_wirereader_Reader_Bytes, sol_wirereader_Reader_Bytes⟩, ⟨27, s_wirereader_Reader_Done, sol_wirereader_Reader_Done⟩] 27 s_wirereader_Reader_Done) x.1 = T_tx_Decode bigLoop sol_wirereader_New sol_wirereader_Reader_Uint64 sol_wirereader_Reader_Uint256 sol_wirereader_Reader_Bytes sol_wirereader_Reader_Done x.1
    rw [show pick [⟨23, s_wirereader_New, sol_wirereader_New⟩, ⟨24, s_wirereader_Reader_Uint64, sol_wirereader_Reader_Uint64⟩, ⟨25, s_wirereader_Reader_Uint256, sol_wirereader_Reader_Uint256⟩, ⟨26, s_wirereader_Reader_Bytes, sol_wirereader_Reader_Bytes⟩, ⟨27, s_wirereader_Reader_Done, sol_wirereader_Reader_Done⟩] 23 s_wirereader_New = sol_wirereader_New from pick_hit _ _ _ _, show pick [⟨23, s_wirereader_New, sol_wirereader_New⟩, ⟨24, s_wirereader_Reader_Uint64, sol_wirereader_Reader_Uint64⟩, ⟨25, s_wirereader_Reader_Uint256, sol_wirereader_Reader_Uint256⟩, ⟨26, s_wirereader_Reader_Bytes, sol_wirereader_Reader_Bytes⟩, ⟨27, s_wirereader_Reader_Done, sol_wirereader_Reader_Done⟩] 24 s_wirereader_Reader_Uint64 = sol_wirereader_Reader_Uint64 from (pick_miss _ _ _ _ (by rfl)).trans (pick_hit _ _ _ _), show pick [⟨23, s_wirereader_New, sol_wirereader_New⟩, ⟨24, s_wirereader_Reader_Uint64, sol_wirereader_Reader_Uint64⟩, ⟨25, s_wirereader_Reader_Uint256, sol_wirereader_Reader_Uint256⟩, ⟨26, s_wirereader_Reader_Bytes, sol_wirereader_Reader_Bytes⟩, ⟨27, s_wirereader_Reader_Done, sol_wirereader_Reader_Done⟩] 25 s_wirereader_Reader_Uint256 = sol_wirereader_Reader_Uint256 from (pick_miss _ _ _ _ (by rfl)).trans ((pick_miss _ _ _ _ (by rfl)).trans (pick_hit _ _ _ _)), show pick [⟨23, s_wirereader_New, sol_wirereader_New⟩, ⟨24, s_wirereader_Reader_Uint64, sol_wirereader_Reader_Uint64⟩, ⟨25, s_wirereader_Reader_Uint256, sol_wirereader_Reader_Uint256⟩, ⟨26, s_wirereader_Reader_Bytes, sol_wirereader_Reader_Bytes⟩, ⟨27, s_wirereader_Reader_Done, sol_wirereader_Reader_Done⟩] 26 s_wirereader_Reader_Bytes = sol_wirereader_Reader_Bytes from (pick_miss _ _ _ _ (by rfl)).trans ((pick_miss _ _ _ _ (by rfl)).trans ((pick_miss _ _ _ _ (by rfl)).trans (pick_hit _ _ _ _))), show pick [⟨23, s_wirereader_New, sol_wirereader_New⟩, ⟨24, s_wirereader_Reader_Uint64, sol_wirereader_Reader_Uint64⟩, ⟨25, s_wirereader_Reader_Uint256, sol_wirereader_Reader_Uint256⟩, ⟨26, s_wirereader_Reader_Bytes, sol_wirereader_Reader_Bytes⟩, ⟨27, s_wirereader_Reader_Done, sol_wirereader_Reader_Done⟩] 27 s_wirereader_Reader_Done = sol_wirereader_Reader_Done from (pick_miss _ _ _ _ (by rfl)).trans ((pick_miss _ _ _ _ (by rfl)).trans ((pick_miss _ _ _ _ (by rfl)).trans ((pick_miss _ _ _ _ (by rfl)).trans (pick_hit _ _ _ _))))]))

theorem eq_law22_awake (L : LoopD) (C : CallD) : ∀ x, evalBody L C gN 9 Go.Proofs.Try.f9 (Go.Proofs.Try.f9.body.getD .skip) s_law22_awake x = T_law22_awake L (C 10 s_tx_Encode) (C 14 s_tx_Decode) := by
  intro x; kernel_rfl
theorem ok_law22_awake : FnOK Go.Proofs.Try.prog 9 s_law22_awake sol_law22_awake :=
  fn_ok tab [⟨10, s_tx_Encode, sol_tx_Encode⟩, ⟨14, s_tx_Decode, sol_tx_Decode⟩] (mem_cons_ok ok_tx_Encode (mem_cons_ok ok_tx_Decode mem_nil_ok)) Go.Proofs.Try.func9 (by kernel_rfl) (by kernel_rfl) (fun x => (eq_law22_awake bigLoop _ x).trans (by
    show T_law22_awake bigLoop (pick [⟨10, s_tx_Encode, sol_tx_Encode⟩, ⟨14, s_tx_Decode, sol_tx_Decode⟩] 10 s_tx_Encode) (pick [⟨10, s_tx_Encode, sol_tx_Encode⟩, ⟨14, s_tx_Decode, sol_tx_Decode⟩] 14 s_tx_Decode) = T_law22_awake bigLoop sol_tx_Encode sol_tx_Decode
    rw [show pick [⟨10, s_tx_Encode, sol_tx_Encode⟩, ⟨14, s_tx_Decode, sol_tx_Decode⟩] 10 s_tx_Encode = sol_tx_Encode from pick_hit _ _ _ _, show pick [⟨10, s_tx_Encode, sol_tx_Encode⟩, ⟨14, s_tx_Decode, sol_tx_Decode⟩] 14 s_tx_Decode = sol_tx_Decode from (pick_miss _ _ _ _ (by rfl)).trans (pick_hit _ _ _ _)]))

theorem eq_ref6_digits (L : LoopD) (C : CallD) : ∀ x, evalBody L C gN 35 Go.Proofs.Try.f35 (Go.Proofs.Try.f35.body.getD .skip) s_ref6_digits x = T_ref6_digits L x.1 := by
  intro x; kernel_rfl
theorem ok_ref6_digits : FnOK Go.Proofs.Try.prog 35 s_ref6_digits sol_ref6_digits :=
  fn_ok tab [] mem_nil_ok Go.Proofs.Try.func35 (by kernel_rfl) (by kernel_rfl) (fun x => (eq_ref6_digits bigLoop _ x).trans (by
    show T_ref6_digits bigLoop x.1 = T_ref6_digits bigLoop x.1
    rfl))

theorem eq_ref6_AppendUint256 (L : LoopD) (C : CallD) : ∀ x, evalBody L C gN 22 Go.Proofs.Try.f22 (Go.Proofs.Try.f22.body.getD .skip) s_ref6_AppendUint256 x = T_ref6_AppendUint256 L (C 35 s_ref6_digits) x.1 x.2.1 := by
  intro x; kernel_rfl
theorem ok_ref6_AppendUint256 : FnOK Go.Proofs.Try.prog 22 s_ref6_AppendUint256 sol_ref6_AppendUint256 :=
  fn_ok tab [⟨35, s_ref6_digits, sol_ref6_digits⟩] (mem_cons_ok ok_ref6_digits mem_nil_ok) Go.Proofs.Try.func22 (by kernel_rfl) (by kernel_rfl) (fun x => (eq_ref6_AppendUint256 bigLoop _ x).trans (by
    show T_ref6_AppendUint256 bigLoop (pick [⟨35, s_ref6_digits, sol_ref6_digits⟩] 35 s_ref6_digits) x.1 x.2.1 = T_ref6_AppendUint256 bigLoop sol_ref6_digits x.1 x.2.1
    rw [show pick [⟨35, s_ref6_digits, sol_ref6_digits⟩] 35 s_ref6_digits = sol_ref6_digits from pick_hit _ _ _ _]))

theorem eq_ref6_AppendUint64 (L : LoopD) (C : CallD) : ∀ x, evalBody L C gN 18 Go.Proofs.Try.f18 (Go.Proofs.Try.f18.body.getD .skip) s_ref6_AppendUint64 x = T_ref6_AppendUint64 L (C 22 s_ref6_AppendUint256) x.1 x.2.1 := by
  intro x; kernel_rfl
theorem ok_ref6_AppendUint64 : FnOK Go.Proofs.Try.prog 18 s_ref6_AppendUint64 sol_ref6_AppendUint64 :=
  fn_ok tab [⟨22, s_ref6_AppendUint256, sol_ref6_AppendUint256⟩] (mem_cons_ok ok_ref6_AppendUint256 mem_nil_ok) Go.Proofs.Try.func18 (by kernel_rfl) (by kernel_rfl) (fun x => (eq_ref6_AppendUint64 bigLoop _ x).trans (by
    show T_ref6_AppendUint64 bigLoop (pick [⟨22, s_ref6_AppendUint256, sol_ref6_AppendUint256⟩] 22 s_ref6_AppendUint256) x.1 x.2.1 = T_ref6_AppendUint64 bigLoop sol_ref6_AppendUint256 x.1 x.2.1
    rw [show pick [⟨22, s_ref6_AppendUint256, sol_ref6_AppendUint256⟩] 22 s_ref6_AppendUint256 = sol_ref6_AppendUint256 from pick_hit _ _ _ _]))

theorem eq_ref6_AppendBytes (L : LoopD) (C : CallD) : ∀ x, evalBody L C gN 17 Go.Proofs.Try.f17 (Go.Proofs.Try.f17.body.getD .skip) s_ref6_AppendBytes x = T_ref6_AppendBytes L (C 18 s_ref6_AppendUint64) x.1 x.2.1 := by
  intro x; kernel_rfl
theorem ok_ref6_AppendBytes : FnOK Go.Proofs.Try.prog 17 s_ref6_AppendBytes sol_ref6_AppendBytes :=
  fn_ok tab [⟨18, s_ref6_AppendUint64, sol_ref6_AppendUint64⟩] (mem_cons_ok ok_ref6_AppendUint64 mem_nil_ok) Go.Proofs.Try.func17 (by kernel_rfl) (by kernel_rfl) (fun x => (eq_ref6_AppendBytes bigLoop _ x).trans (by
    show T_ref6_AppendBytes bigLoop (pick [⟨18, s_ref6_AppendUint64, sol_ref6_AppendUint64⟩] 18 s_ref6_AppendUint64) x.1 x.2.1 = T_ref6_AppendBytes bigLoop sol_ref6_AppendUint64 x.1 x.2.1
    rw [show pick [⟨18, s_ref6_AppendUint64, sol_ref6_AppendUint64⟩] 18 s_ref6_AppendUint64 = sol_ref6_AppendUint64 from pick_hit _ _ _ _]))

theorem eq_law0_Mod (L : LoopD) (C : CallD) : ∀ x, evalBody L C gN 13 Go.Proofs.Try.f13 (Go.Proofs.Try.f13.body.getD .skip) s_law0_Mod x = T_law0_Mod L x.1 x.2.1 := by
  intro x; kernel_rfl
theorem ok_law0_Mod : FnOK Go.Proofs.Try.prog 13 s_law0_Mod sol_law0_Mod :=
  fn_ok tab [] mem_nil_ok Go.Proofs.Try.func13 (by kernel_rfl) (by kernel_rfl) (fun x => (eq_law0_Mod bigLoop _ x).trans (by
    show T_law0_Mod bigLoop x.1 x.2.1 = T_law0_Mod bigLoop x.1 x.2.1
    rfl))

theorem eq_ref22_Equal (L : LoopD) (C : CallD) : ∀ x, evalBody L C gN 16 Go.Proofs.Try.f16 (Go.Proofs.Try.f16.body.getD .skip) s_ref22_Equal x = T_ref22_Equal L x.1 x.2.1 := by
  intro x; kernel_rfl
theorem ok_ref22_Equal : FnOK Go.Proofs.Try.prog 16 s_ref22_Equal sol_ref22_Equal :=
  fn_ok tab [] mem_nil_ok Go.Proofs.Try.func16 (by kernel_rfl) (by kernel_rfl) (fun x => (eq_ref22_Equal bigLoop _ x).trans (by
    show T_ref22_Equal bigLoop x.1 x.2.1 = T_ref22_Equal bigLoop x.1 x.2.1
    rfl))

theorem eq_law22_TxDataLimit (L : LoopD) (C : CallD) : ∀ x, evalBody L C gC 7 Go.Proofs.Try.f7 (Go.Proofs.Try.f7.body.getD .skip) s_law22_TxDataLimit x = T_law22_TxDataLimit L (C 13 s_law0_Mod) (C 10 s_tx_Encode) (C 14 s_tx_Decode) (C 18 s_ref6_AppendUint64) (C 17 s_ref6_AppendBytes) (C 16 s_ref22_Equal) (C 9 s_law22_awake) x.1 x.2.1 := by
  intro x; kernel_rfl
theorem ok_law22_TxDataLimit : FnOK Go.Proofs.Try.prog 7 s_law22_TxDataLimit sol_law22_TxDataLimit :=
  fn_ok tab [⟨13, s_law0_Mod, sol_law0_Mod⟩, ⟨10, s_tx_Encode, sol_tx_Encode⟩, ⟨14, s_tx_Decode, sol_tx_Decode⟩, ⟨18, s_ref6_AppendUint64, sol_ref6_AppendUint64⟩, ⟨17, s_ref6_AppendBytes, sol_ref6_AppendBytes⟩, ⟨16, s_ref22_Equal, sol_ref22_Equal⟩, ⟨9, s_law22_awake, sol_law22_awake⟩] (mem_cons_ok ok_law0_Mod (mem_cons_ok ok_tx_Encode (mem_cons_ok ok_tx_Decode (mem_cons_ok ok_ref6_AppendUint64 (mem_cons_ok ok_ref6_AppendBytes (mem_cons_ok ok_ref22_Equal (mem_cons_ok ok_law22_awake mem_nil_ok))))))) Go.Proofs.Try.func7 (by kernel_rfl) (by kernel_rfl) (fun x => (eq_law22_TxDataLimit bigLoop _ x).trans (by
    show T_law22_TxDataLimit bigLoop (pick [⟨13, s_law0_Mod, sol_law0_Mod⟩, ⟨10, s_tx_Encode, sol_tx_Encode⟩, ⟨14, s_tx_Decode, sol_tx_Decode⟩, ⟨18, s_ref6_AppendUint64, sol_ref6_AppendUint64⟩, ⟨17, s_ref6_AppendBytes, sol_ref6_AppendBytes⟩, ⟨16, s_ref22_Equal, sol_ref22_Equal⟩, ⟨9, s_law22_awake, sol_law22_awake⟩] 13 s_law0_Mod) (pick [⟨13, s_law0_Mod, sol_law0_Mod⟩, ⟨10, s_tx_Encode, sol_tx_Encode⟩, ⟨14, s_tx_Decode, sol_tx_Decode⟩, ⟨18, s_ref6_AppendUint64, sol_ref6_AppendUint64⟩, ⟨17, s_ref6_AppendBytes, sol_ref6_AppendBytes⟩, ⟨16, s_ref22_Equal, sol_ref22_Equal⟩, ⟨9, s_law22_awake, sol_law22_awake⟩] 10 s_tx_Encode) (pick [⟨13, s_law0_Mod, sol_law0_Mod⟩, ⟨10, s_tx_Encode, sol_tx_Encode⟩, ⟨14, s_tx_Decode, sol_tx_Decode⟩, ⟨18, s_ref6_AppendUint64, sol_ref6_AppendUint64⟩, ⟨17, s_ref6_AppendBytes, sol_ref6_AppendBytes⟩, ⟨16, s_ref22_Equal, sol_ref22_Equal⟩, ⟨9, s_law22_awake, sol_law22_awake⟩] 14 s_tx_Decode) (pick [⟨13, s_law0_Mod, sol_law0_Mod⟩, ⟨10, s_tx_Encode, sol_tx_Encode⟩, ⟨14, s_tx_Decode, sol_tx_Decode⟩, ⟨18, s_ref6_AppendUint64, sol_ref6_AppendUint64⟩, ⟨17, s_ref6_AppendBytes, sol_ref6_AppendBytes⟩, ⟨16, s_ref22_Equal, sol_ref22_Equal⟩, ⟨9, s_law22_awake, sol_law22_awake⟩] 18 s_ref6_AppendUint64) (pick [⟨13, s_law0_Mod, sol_law0_Mod⟩, ⟨10, s_tx_Encode, sol_tx_Encode⟩, ⟨14, s_tx_Decode, sol_tx_Decode⟩, ⟨18, s_ref6_AppendUint64, sol_ref6_AppendUint64⟩, ⟨17, s_ref6_AppendBytes, sol_ref6_AppendBytes⟩, ⟨16, s_ref22_Equal, sol_ref22_Equal⟩, ⟨9, s_law22_awake, sol_law22_awake⟩] 17 s_ref6_AppendBytes) (pick [⟨13, s_law0_Mod, sol_law0_Mod⟩, ⟨10, s_tx_Encode, sol_tx_Encode⟩, ⟨14, s_tx_Decode, sol_tx_Decode⟩, ⟨18, s_ref6_AppendUint64, sol_ref6_AppendUint64⟩, ⟨17, s_ref6_AppendBytes, sol_ref6_AppendBytes⟩, ⟨16, s_ref22_Equal, sol_ref22_Equal⟩, ⟨9, s_law22_awake, sol_law22_awake⟩] 16 s_ref22_Equal) (pick [⟨13, s_law0_Mod, sol_law0_Mod⟩, ⟨10, s_tx_Encode, sol_tx_Encode⟩, ⟨14, s_tx_Decode, sol_tx_Decode⟩, ⟨18, s_ref6_AppendUint64, sol_ref6_AppendUint64⟩, ⟨17, s_ref6_AppendBytes, sol_ref6_AppendBytes⟩, ⟨16, s_ref22_Equal, sol_ref22_Equal⟩, ⟨9, s_law22_awake, sol_law22_awake⟩] 9 s_law22_awake) x.1 x.2.1 = T_law22_TxDataLimit bigLoop sol_law0_Mod sol_tx_Encode sol_tx_Decode sol_ref6_AppendUint64 sol_ref6_AppendBytes sol_ref22_Equal sol_law22_awake x.1 x.2.1
    rw [show pick [⟨13, s_law0_Mod, sol_law0_Mod⟩, ⟨10, s_tx_Encode, sol_tx_Encode⟩, ⟨14, s_tx_Decode, sol_tx_Decode⟩, ⟨18, s_ref6_AppendUint64, sol_ref6_AppendUint64⟩, ⟨17, s_ref6_AppendBytes, sol_ref6_AppendBytes⟩, ⟨16, s_ref22_Equal, sol_ref22_Equal⟩, ⟨9, s_law22_awake, sol_law22_awake⟩] 13 s_law0_Mod = sol_law0_Mod from pick_hit _ _ _ _, show pick [⟨13, s_law0_Mod, sol_law0_Mod⟩, ⟨10, s_tx_Encode, sol_tx_Encode⟩, ⟨14, s_tx_Decode, sol_tx_Decode⟩, ⟨18, s_ref6_AppendUint64, sol_ref6_AppendUint64⟩, ⟨17, s_ref6_AppendBytes, sol_ref6_AppendBytes⟩, ⟨16, s_ref22_Equal, sol_ref22_Equal⟩, ⟨9, s_law22_awake, sol_law22_awake⟩] 10 s_tx_Encode = sol_tx_Encode from (pick_miss _ _ _ _ (by rfl)).trans (pick_hit _ _ _ _), show pick [⟨13, s_law0_Mod, sol_law0_Mod⟩, ⟨10, s_tx_Encode, sol_tx_Encode⟩, ⟨14, s_tx_Decode, sol_tx_Decode⟩, ⟨18, s_ref6_AppendUint64, sol_ref6_AppendUint64⟩, ⟨17, s_ref6_AppendBytes, sol_ref6_AppendBytes⟩, ⟨16, s_ref22_Equal, sol_ref22_Equal⟩, ⟨9, s_law22_awake, sol_law22_awake⟩] 14 s_tx_Decode = sol_tx_Decode from (pick_miss _ _ _ _ (by rfl)).trans ((pick_miss _ _ _ _ (by rfl)).trans (pick_hit _ _ _ _)), show pick [⟨13, s_law0_Mod, sol_law0_Mod⟩, ⟨10, s_tx_Encode, sol_tx_Encode⟩, ⟨14, s_tx_Decode, sol_tx_Decode⟩, ⟨18, s_ref6_AppendUint64, sol_ref6_AppendUint64⟩, ⟨17, s_ref6_AppendBytes, sol_ref6_AppendBytes⟩, ⟨16, s_ref22_Equal, sol_ref22_Equal⟩, ⟨9, s_law22_awake, sol_law22_awake⟩] 18 s_ref6_AppendUint64 = sol_ref6_AppendUint64 from (pick_miss _ _ _ _ (by rfl)).trans ((pick_miss _ _ _ _ (by rfl)).trans ((pick_miss _ _ _ _ (by rfl)).trans (pick_hit _ _ _ _))), show pick [⟨13, s_law0_Mod, sol_law0_Mod⟩, ⟨10, s_tx_Encode, sol_tx_Encode⟩, ⟨14, s_tx_Decode, sol_tx_Decode⟩, ⟨18, s_ref6_AppendUint64, sol_ref6_AppendUint64⟩, ⟨17, s_ref6_AppendBytes, sol_ref6_AppendBytes⟩, ⟨16, s_ref22_Equal, sol_ref22_Equal⟩, ⟨9, s_law22_awake, sol_law22_awake⟩] 17 s_ref6_AppendBytes = sol_ref6_AppendBytes from (pick_miss _ _ _ _ (by rfl)).trans ((pick_miss _ _ _ _ (by rfl)).trans ((pick_miss _ _ _ _ (by rfl)).trans ((pick_miss _ _ _ _ (by rfl)).trans (pick_hit _ _ _ _)))), show pick [⟨13, s_law0_Mod, sol_law0_Mod⟩, ⟨10, s_tx_Encode, sol_tx_Encode⟩, ⟨14, s_tx_Decode, sol_tx_Decode⟩, ⟨18, s_ref6_AppendUint64, sol_ref6_AppendUint64⟩, ⟨17, s_ref6_AppendBytes, sol_ref6_AppendBytes⟩, ⟨16, s_ref22_Equal, sol_ref22_Equal⟩, ⟨9, s_law22_awake, sol_law22_awake⟩] 16 s_ref22_Equal = sol_ref22_Equal from (pick_miss _ _ _ _ (by rfl)).trans ((pick_miss _ _ _ _ (by rfl)).trans ((pick_miss _ _ _ _ (by rfl)).trans ((pick_miss _ _ _ _ (by rfl)).trans ((pick_miss _ _ _ _ (by rfl)).trans (pick_hit _ _ _ _))))), show pick [⟨13, s_law0_Mod, sol_law0_Mod⟩, ⟨10, s_tx_Encode, sol_tx_Encode⟩, ⟨14, s_tx_Decode, sol_tx_Decode⟩, ⟨18, s_ref6_AppendUint64, sol_ref6_AppendUint64⟩, ⟨17, s_ref6_AppendBytes, sol_ref6_AppendBytes⟩, ⟨16, s_ref22_Equal, sol_ref22_Equal⟩, ⟨9, s_law22_awake, sol_law22_awake⟩] 9 s_law22_awake = sol_law22_awake from (pick_miss _ _ _ _ (by rfl)).trans ((pick_miss _ _ _ _ (by rfl)).trans ((pick_miss _ _ _ _ (by rfl)).trans ((pick_miss _ _ _ _ (by rfl)).trans ((pick_miss _ _ _ _ (by rfl)).trans ((pick_miss _ _ _ _ (by rfl)).trans (pick_hit _ _ _ _))))))]))

end Go.Pon.Ytonakjfcigaaaaa
