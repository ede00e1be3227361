/-
  The seat's program: what each function computes.
-/
import Derived.Test.YtnimnanplhjpoaaChecked
import Derived.Test.YtnimnanplhjpoaaP2
set_option autoImplicit false
set_option linter.unusedVariables false
set_option maxRecDepth 100000
namespace Go.Pon.Ytnimnanplhjpoaa
open Go Go.Pon

noncomputable def tyTab : List (Nat × Ty) := [(3, (.int .i64)),
  (4, .bool),
  (5, (.int .u8)),
  (9, .str),
  (22, (.slice (.int .u8))),
  (25, (.arr 32 (.int .u8))),
  (35, (.int .i64)),
  (40, (.int .u64)),
  (41, (.int .u64)),
  (43, (.int .u32)),
  (44, (.arr 8 (.int .u32))),
  (45, (.arr 64 (.int .u32))),
  (53, (.slice (.slice (.int .u8))))]

noncomputable def sigTab : List (Nat × Sig) := [(9, s_law0_Mod),
  (29, s_slices_Grow_byte_byte),
  (22, s_slices_Concat_byte_byte),
  (23, s_hash_roundConstants),
  (30, s_math_bits_RotateLeft32),
  (25, s_hash_schedule),
  (24, s_hash_compress),
  (10, s_hash_Sum),
  (31, s_ref7_words),
  (32, s_ref7_right),
  (26, s_ref7_block),
  (11, s_ref7_Sum),
  (18, s_hash_Format),
  (12, s_law7_awake),
  (3, s_law7_HashPadding),
  (13, s_hash_Leaf),
  (14, s_ref7_Leaf),
  (4, s_law7_HashSum),
  (15, s_hash_Node),
  (16, s_ref7_Node),
  (5, s_law7_HashNode),
  (17, s_law0_EqualBytes),
  (6, s_law7_HashPure),
  (27, s_hash_digit),
  (19, s_hash_Parse),
  (20, s_ref7_Format),
  (7, s_law7_HashFormat),
  (28, s_ref7_HexDigit),
  (21, s_ref7_Parse),
  (8, s_law7_HashParse)]

noncomputable def hintTab : List ((Nat × Nat) × List (Nat × MTy)) := [((22, 0), [(0, (.ro false (.slice (.slice (.int .u8))))), (3, (.ro true (.int .i64))), (9, (.ro false (.slice (.slice (.int .u8))))), (10, (.ro true (.int .i64))), (11, (.ro true (.int .i64)))]),
  ((22, 2), [(6, (.own true (.int .u8))), (25, (.ro false (.slice (.slice (.int .u8))))), (26, (.ro true (.int .i64))), (27, (.ro true (.int .i64)))]),
  ((25, 0), [(0, (.ro false (.slice (.int .u8)))), (2, (.ptr (.ro true (.arr 64 (.int .u32))))), (3, (.ptr (.ro true (.arr 64 (.int .u32))))), (10, (.ro true (.int .i64)))]),
  ((25, 2), [(2, (.ptr (.ro true (.arr 64 (.int .u32))))), (3, (.ptr (.ro true (.arr 64 (.int .u32))))), (5, (.ro true (.int .i64)))]),
  ((24, 0), [(3, (.ptr (.ro true (.arr 8 (.int .u32))))), (4, (.ptr (.ro true (.arr 64 (.int .u32))))), (5, (.ptr (.ro true (.arr 64 (.int .u32))))), (6, (.ptr (.ro true (.arr 8 (.int .u32))))), (7, (.ptr (.ro true (.arr 8 (.int .u32))))), (18, (.ro true (.int .i64)))]),
  ((24, 2), [(3, (.ptr (.ro true (.arr 8 (.int .u32))))), (6, (.ptr (.ro true (.arr 8 (.int .u32))))), (7, (.ptr (.ro true (.arr 8 (.int .u32))))), (103, (.ro true (.int .i64)))]),
  ((10, 0), [(2, (.ptr (.ro true (.arr 32 (.int .u8))))), (3, (.ro true (.int .u64))), (4, (.own true (.int .u8)))]),
  ((10, 2), [(2, (.ptr (.ro true (.arr 32 (.int .u8))))), (3, (.ro true (.int .u64))), (4, (.own true (.int .u8))), (5, (.ro true (.int .i64)))]),
  ((10, 4), [(2, (.ptr (.ro true (.arr 32 (.int .u8))))), (4, (.own true (.int .u8))), (6, (.ptr (.ro true (.arr 8 (.int .u32))))), (7, (.ptr (.ro true (.arr 64 (.int .u32))))), (8, (.ro true (.int .i64)))]),
  ((10, 6), [(2, (.ptr (.ro true (.arr 32 (.int .u8))))), (6, (.ptr (.ro true (.arr 8 (.int .u32))))), (9, (.ptr (.ro true (.arr 32 (.int .u8))))), (55, (.ro true (.int .i64)))]),
  ((26, 0), [(1, (.ro false (.slice (.int .u8)))), (2, (.ptr (.ro true (.arr 8 (.int .u32))))), (4, (.ptr (.ro true (.arr 8 (.int .u32))))), (5, (.ptr (.ro true (.arr 64 (.int .u32))))), (6, (.ptr (.ro true (.arr 64 (.int .u32))))), (7, (.ro true (.int .i64)))]),
  ((26, 2), [(2, (.ptr (.ro true (.arr 8 (.int .u32))))), (4, (.ptr (.ro true (.arr 8 (.int .u32))))), (5, (.ptr (.ro true (.arr 64 (.int .u32))))), (6, (.ptr (.ro true (.arr 64 (.int .u32))))), (10, (.ptr (.ro true (.arr 8 (.int .u32))))), (11, (.ro true (.int .i64)))]),
  ((26, 4), [(2, (.ptr (.ro true (.arr 8 (.int .u32))))), (4, (.ptr (.ro true (.arr 8 (.int .u32))))), (10, (.ptr (.ro true (.arr 8 (.int .u32))))), (16, (.ro true (.int .i64)))]),
  ((11, 0), [(0, (.ro false (.slice (.int .u8)))), (2, (.ptr (.ro true (.arr 32 (.int .u8))))), (3, (.own true (.int .u8)))]),
  ((11, 2), [(2, (.ptr (.ro true (.arr 32 (.int .u8))))), (3, (.own true (.int .u8))), (4, (.ro true (.int .u64))), (5, (.ro true (.int .i64)))]),
  ((11, 4), [(2, (.ptr (.ro true (.arr 32 (.int .u8))))), (3, (.own true (.int .u8))), (6, (.ptr (.ro true (.arr 8 (.int .u32))))), (7, (.ro true (.int .i64)))]),
  ((11, 6), [(2, (.ptr (.ro true (.arr 32 (.int .u8))))), (6, (.ptr (.ro true (.arr 8 (.int .u32))))), (8, (.ptr (.ro true (.arr 32 (.int .u8))))), (9, (.ro true (.int .i64)))]),
  ((18, 0), [(3, (.own true (.int .u8))), (6, (.ro true (.arr 32 (.int .u8)))), (7, (.ro true (.int .i64)))]),
  ((3, 0), [(1, (.ro true (.int .u8))), (2, (.ro true .bool)), (7, (.own true (.int .u8))), (8, (.ro true (.int .i64)))]),
  ((19, 0), [(0, (.ro true .str)), (2, (.ptr (.ro true (.arr 32 (.int .u8))))), (4, (.ptr (.ro true (.arr 32 (.int .u8))))), (14, (.ro true (.int .i64)))]),
  ((20, 0), [(1, (.ptr (.ro true (.arr 32 (.int .u8))))), (3, (.ro true .str)), (4, (.ro true (.int .i64)))]),
  ((21, 0), [(0, (.ro true .str)), (2, (.ptr (.ro true (.arr 32 (.int .u8))))), (4, (.ptr (.ro true (.arr 32 (.int .u8))))), (5, (.ro true (.int .i64)))])]

noncomputable abbrev gN : Ctx := mkG tyTab sigTab hintTab false
noncomputable abbrev gC : Ctx := mkG tyTab sigTab hintTab true

theorem tab : TabOK Go.Proofs.Try.prog tyTab sigTab :=
  ⟨of_decide_eq_true (by kernel_rfl), by kernel_rfl, by kernel_rfl, by kernel_rfl⟩

theorem eq_law0_Mod (L : LoopD) (C : CallD) : ∀ x, evalBody L C gN 9 Go.Proofs.Try.f9 (Go.Proofs.Try.f9.body.getD .skip) s_law0_Mod x = T_law0_Mod L x.1 x.2.1 := by
  intro x; kernel_rfl
theorem ok_law0_Mod : FnOK Go.Proofs.Try.prog 9 s_law0_Mod sol_law0_Mod :=
  fn_ok tab [] mem_nil_ok Go.Proofs.Try.func9 (by kernel_rfl) (by kernel_rfl) (fun x => (eq_law0_Mod bigLoop _ x).trans (by
    show T_law0_Mod bigLoop x.1 x.2.1 = T_law0_Mod bigLoop x.1 x.2.1
    rfl))

theorem eq_slices_Grow_byte_byte (L : LoopD) (C : CallD) : ∀ x, evalBody L C gC 29 Go.Proofs.Try.f29 (Go.Proofs.Try.f29.body.getD .skip) s_slices_Grow_byte_byte x = T_slices_Grow_byte_byte L x.1 x.2.1 := by
  intro x; kernel_rfl
theorem ok_slices_Grow_byte_byte : FnOK Go.Proofs.Try.prog 29 s_slices_Grow_byte_byte sol_slices_Grow_byte_byte :=
  fn_ok tab [] mem_nil_ok Go.Proofs.Try.func29 (by kernel_rfl) (by kernel_rfl) (fun x => (eq_slices_Grow_byte_byte bigLoop _ x).trans (by
    show T_slices_Grow_byte_byte bigLoop x.1 x.2.1 = T_slices_Grow_byte_byte bigLoop x.1 x.2.1
    rfl))

theorem eq_slices_Concat_byte_byte (L : LoopD) (C : CallD) : ∀ x, evalBody L C gN 22 Go.Proofs.Try.f22 (Go.Proofs.Try.f22.body.getD .skip) s_slices_Concat_byte_byte x = T_slices_Concat_byte_byte L (C 29 s_slices_Grow_byte_byte) x.1 := by
  intro x; kernel_rfl
theorem ok_slices_Concat_byte_byte : FnOK Go.Proofs.Try.prog 22 s_slices_Concat_byte_byte sol_slices_Concat_byte_byte :=
  fn_ok tab [⟨29, s_slices_Grow_byte_byte, sol_slices_Grow_byte_byte⟩] (mem_cons_ok ok_slices_Grow_byte_byte mem_nil_ok) Go.Proofs.Try.func22 (by kernel_rfl) (by kernel_rfl) (fun x => (eq_slices_Concat_byte_byte bigLoop _ x).trans (by
    show T_slices_Concat_byte_byte bigLoop (pick [⟨29, s_slices_Grow_byte_byte, sol_slices_Grow_byte_byte⟩] 29 s_slices_Grow_byte_byte) x.1 = T_slices_Concat_byte_byte bigLoop sol_slices_Grow_byte_byte x.1
    rw [show pick [⟨29, s_slices_Grow_byte_byte, sol_slices_Grow_byte_byte⟩] 29 s_slices_Grow_byte_byte = sol_slices_Grow_byte_byte from pick_hit _ _ _ _]))

theorem eq_hash_roundConstants (L : LoopD) (C : CallD) : ∀ x, evalBody L C gN 23 Go.Proofs.Try.f23 (Go.Proofs.Try.f23.body.getD .skip) s_hash_roundConstants x = T_hash_roundConstants L := by
  intro x; kernel_rfl
theorem ok_hash_roundConstants : FnOK Go.Proofs.Try.prog 23 s_hash_roundConstants sol_hash_roundConstants :=
  fn_ok tab [] mem_nil_ok Go.Proofs.Try.func23 (by kernel_rfl) (by kernel_rfl) (fun x => (eq_hash_roundConstants bigLoop _ x).trans (by
    show T_hash_roundConstants bigLoop = T_hash_roundConstants bigLoop
    rfl))

theorem eq_math_bits_RotateLeft32 (L : LoopD) (C : CallD) : ∀ x, evalBody L C gN 30 Go.Proofs.Try.f30 (Go.Proofs.Try.f30.body.getD .skip) s_math_bits_RotateLeft32 x = T_math_bits_RotateLeft32 L x.1 x.2.1 := by
  intro x; kernel_rfl
theorem ok_math_bits_RotateLeft32 : FnOK Go.Proofs.Try.prog 30 s_math_bits_RotateLeft32 sol_math_bits_RotateLeft32 :=
  fn_ok tab [] mem_nil_ok Go.Proofs.Try.func30 (by kernel_rfl) (by kernel_rfl) (fun x => (eq_math_bits_RotateLeft32 bigLoop _ x).trans (by
    show T_math_bits_RotateLeft32 bigLoop x.1 x.2.1 = T_math_bits_RotateLeft32 bigLoop x.1 x.2.1
    rfl))

theorem eq_hash_schedule (L : LoopD) (C : CallD) : ∀ x, evalBody L C gN 25 Go.Proofs.Try.f25 (Go.Proofs.Try.f25.body.getD .skip) s_hash_schedule x = T_hash_schedule L (C 30 s_math_bits_RotateLeft32) x.1 := by
  intro x; kernel_rfl
theorem ok_hash_schedule : FnOK Go.Proofs.Try.prog 25 s_hash_schedule sol_hash_schedule :=
  fn_ok tab [⟨30, s_math_bits_RotateLeft32, sol_math_bits_RotateLeft32⟩] (mem_cons_ok ok_math_bits_RotateLeft32 mem_nil_ok) Go.Proofs.Try.func25 (by kernel_rfl) (by kernel_rfl) (fun x => (eq_hash_schedule bigLoop _ x).trans (by
    show T_hash_schedule bigLoop (pick [⟨30, s_math_bits_RotateLeft32, sol_math_bits_RotateLeft32⟩] 30 s_math_bits_RotateLeft32) x.1 = T_hash_schedule bigLoop sol_math_bits_RotateLeft32 x.1
    rw [show pick [⟨30, s_math_bits_RotateLeft32, sol_math_bits_RotateLeft32⟩] 30 s_math_bits_RotateLeft32 = sol_math_bits_RotateLeft32 from pick_hit _ _ _ _]))

theorem eq_hash_compress (L : LoopD) (C : CallD) : ∀ x, evalBody L C gN 24 Go.Proofs.Try.f24 (Go.Proofs.Try.f24.body.getD .skip) s_hash_compress x = T_hash_compress L (C 30 s_math_bits_RotateLeft32) x.1 x.2.1 x.2.2.1 := by
  intro x; kernel_rfl
theorem ok_hash_compress : FnOK Go.Proofs.Try.prog 24 s_hash_compress sol_hash_compress :=
  fn_ok tab [⟨30, s_math_bits_RotateLeft32, sol_math_bits_RotateLeft32⟩] (mem_cons_ok ok_math_bits_RotateLeft32 mem_nil_ok) Go.Proofs.Try.func24 (by kernel_rfl) (by kernel_rfl) (fun x => (eq_hash_compress bigLoop _ x).trans (by
    show T_hash_compress bigLoop (pick [⟨30, s_math_bits_RotateLeft32, sol_math_bits_RotateLeft32⟩] 30 s_math_bits_RotateLeft32) x.1 x.2.1 x.2.2.1 = T_hash_compress bigLoop sol_math_bits_RotateLeft32 x.1 x.2.1 x.2.2.1
    rw [show pick [⟨30, s_math_bits_RotateLeft32, sol_math_bits_RotateLeft32⟩] 30 s_math_bits_RotateLeft32 = sol_math_bits_RotateLeft32 from pick_hit _ _ _ _]))

theorem eq_hash_Sum (L : LoopD) (C : CallD) : ∀ x, evalBody L C gN 10 Go.Proofs.Try.f10 (Go.Proofs.Try.f10.body.getD .skip) s_hash_Sum x = T_hash_Sum L (C 22 s_slices_Concat_byte_byte) (C 23 s_hash_roundConstants) (C 25 s_hash_schedule) (C 24 s_hash_compress) x.1 := by
  intro x; kernel_rfl
theorem ok_hash_Sum : FnOK Go.Proofs.Try.prog 10 s_hash_Sum sol_hash_Sum :=
  fn_ok tab [⟨22, s_slices_Concat_byte_byte, sol_slices_Concat_byte_byte⟩, ⟨23, s_hash_roundConstants, sol_hash_roundConstants⟩, ⟨25, s_hash_schedule, sol_hash_schedule⟩, ⟨24, s_hash_compress, sol_hash_compress⟩] (mem_cons_ok ok_slices_Concat_byte_byte (mem_cons_ok ok_hash_roundConstants (mem_cons_ok ok_hash_schedule (mem_cons_ok ok_hash_compress mem_nil_ok)))) Go.Proofs.Try.func10 (by kernel_rfl) (by kernel_rfl) (fun x => (eq_hash_Sum bigLoop _ x).trans (by
    show T_hash_Sum bigLoop (pick [⟨22, s_slices_Concat_byte_byte, sol_slices_Concat_byte_byte⟩, ⟨23, s_hash_roundConstants, sol_hash_roundConstants⟩, ⟨25, s_hash_schedule, sol_hash_schedule⟩, ⟨24, s_hash_compress, sol_hash_compress⟩] 22 s_slices_Concat_byte_byte) (pick [⟨22, s_slices_Concat_byte_byte, sol_slices_Concat_byte_byte⟩, ⟨23, s_hash_roundConstants, sol_hash_roundConstants⟩, ⟨25, s_hash_schedule, sol_hash_schedule⟩, ⟨24, s_hash_compress, sol_hash_compress⟩] 23 s_hash_roundConstants) (pick [⟨22, s_slices_Concat_byte_byte, sol_slices_Concat_byte_byte⟩, ⟨23, s_hash_roundConstants, sol_hash_roundConstants⟩, ⟨25, s_hash_schedule, sol_hash_schedule⟩, ⟨24, s_hash_compress, sol_hash_compress⟩] 25 s_hash_schedule) (pick [⟨22, s_slices_Concat_byte_byte, sol_slices_Concat_byte_byte⟩, ⟨23, s_hash_roundConstants, sol_hash_roundConstants⟩, ⟨25, s_hash_schedule, sol_hash_schedule⟩, ⟨24, s_hash_compress, sol_hash_compress⟩] 24 s_hash_compress) x.1 = T_hash_Sum bigLoop sol_slices_Concat_byte_byte sol_hash_roundConstants sol_hash_schedule sol_hash_compress x.1
    rw [show pick [⟨22, s_slices_Concat_byte_byte, sol_slices_Concat_byte_byte⟩, ⟨23, s_hash_roundConstants, sol_hash_roundConstants⟩, ⟨25, s_hash_schedule, sol_hash_schedule⟩, ⟨24, s_hash_compress, sol_hash_compress⟩] 22 s_slices_Concat_byte_byte = sol_slices_Concat_byte_byte from pick_hit _ _ _ _, show pick [⟨22, s_slices_Concat_byte_byte, sol_slices_Concat_byte_byte⟩, ⟨23, s_hash_roundConstants, sol_hash_roundConstants⟩, ⟨25, s_hash_schedule, sol_hash_schedule⟩, ⟨24, s_hash_compress, sol_hash_compress⟩] 23 s_hash_roundConstants = sol_hash_roundConstants from (pick_miss _ _ _ _ (by rfl)).trans (pick_hit _ _ _ _), show pick [⟨22, s_slices_Concat_byte_byte, sol_slices_Concat_byte_byte⟩, ⟨23, s_hash_roundConstants, sol_hash_roundConstants⟩, ⟨25, s_hash_schedule, sol_hash_schedule⟩, ⟨24, s_hash_compress, sol_hash_compress⟩] 25 s_hash_schedule = sol_hash_schedule from (pick_miss _ _ _ _ (by rfl)).trans ((pick_miss _ _ _ _ (by rfl)).trans (pick_hit _ _ _ _)), show pick [⟨22, s_slices_Concat_byte_byte, sol_slices_Concat_byte_byte⟩, ⟨23, s_hash_roundConstants, sol_hash_roundConstants⟩, ⟨25, s_hash_schedule, sol_hash_schedule⟩, ⟨24, s_hash_compress, sol_hash_compress⟩] 24 s_hash_compress = sol_hash_compress from (pick_miss _ _ _ _ (by rfl)).trans ((pick_miss _ _ _ _ (by rfl)).trans ((pick_miss _ _ _ _ (by rfl)).trans (pick_hit _ _ _ _)))]))

theorem eq_ref7_words (L : LoopD) (C : CallD) : ∀ x, evalBody L C gN 31 Go.Proofs.Try.f31 (Go.Proofs.Try.f31.body.getD .skip) s_ref7_words x = T_ref7_words L := by
  intro x; kernel_rfl
theorem ok_ref7_words : FnOK Go.Proofs.Try.prog 31 s_ref7_words sol_ref7_words :=
  fn_ok tab [] mem_nil_ok Go.Proofs.Try.func31 (by kernel_rfl) (by kernel_rfl) (fun x => (eq_ref7_words bigLoop _ x).trans (by
    show T_ref7_words bigLoop = T_ref7_words bigLoop
    rfl))

theorem eq_ref7_right (L : LoopD) (C : CallD) : ∀ x, evalBody L C gN 32 Go.Proofs.Try.f32 (Go.Proofs.Try.f32.body.getD .skip) s_ref7_right x = T_ref7_right L x.1 x.2.1 := by
  intro x; kernel_rfl
theorem ok_ref7_right : FnOK Go.Proofs.Try.prog 32 s_ref7_right sol_ref7_right :=
  fn_ok tab [] mem_nil_ok Go.Proofs.Try.func32 (by kernel_rfl) (by kernel_rfl) (fun x => (eq_ref7_right bigLoop _ x).trans (by
    show T_ref7_right bigLoop x.1 x.2.1 = T_ref7_right bigLoop x.1 x.2.1
    rfl))

theorem eq_ref7_block (L : LoopD) (C : CallD) : ∀ x, evalBody L C gN 26 Go.Proofs.Try.f26 (Go.Proofs.Try.f26.body.getD .skip) s_ref7_block x = T_ref7_block L (C 31 s_ref7_words) (C 32 s_ref7_right) x.1 x.2.1 := by
  intro x; kernel_rfl
theorem ok_ref7_block : FnOK Go.Proofs.Try.prog 26 s_ref7_block sol_ref7_block :=
  fn_ok tab [⟨31, s_ref7_words, sol_ref7_words⟩, ⟨32, s_ref7_right, sol_ref7_right⟩] (mem_cons_ok ok_ref7_words (mem_cons_ok ok_ref7_right mem_nil_ok)) Go.Proofs.Try.func26 (by kernel_rfl) (by kernel_rfl) (fun x => (eq_ref7_block bigLoop _ x).trans (by
    show T_ref7_block bigLoop (pick [⟨31, s_ref7_words, sol_ref7_words⟩, ⟨32, s_ref7_right, sol_ref7_right⟩] 31 s_ref7_words) (pick [⟨31, s_ref7_words, sol_ref7_words⟩, ⟨32, s_ref7_right, sol_ref7_right⟩] 32 s_ref7_right) x.1 x.2.1 = T_ref7_block bigLoop sol_ref7_words sol_ref7_right x.1 x.2.1
    rw [show pick [⟨31, s_ref7_words, sol_ref7_words⟩, ⟨32, s_ref7_right, sol_ref7_right⟩] 31 s_ref7_words = sol_ref7_words from pick_hit _ _ _ _, show pick [⟨31, s_ref7_words, sol_ref7_words⟩, ⟨32, s_ref7_right, sol_ref7_right⟩] 32 s_ref7_right = sol_ref7_right from (pick_miss _ _ _ _ (by rfl)).trans (pick_hit _ _ _ _)]))

theorem eq_ref7_Sum (L : LoopD) (C : CallD) : ∀ x, evalBody L C gN 11 Go.Proofs.Try.f11 (Go.Proofs.Try.f11.body.getD .skip) s_ref7_Sum x = T_ref7_Sum L (C 26 s_ref7_block) x.1 := by
  intro x; kernel_rfl
theorem ok_ref7_Sum : FnOK Go.Proofs.Try.prog 11 s_ref7_Sum sol_ref7_Sum :=
  fn_ok tab [⟨26, s_ref7_block, sol_ref7_block⟩] (mem_cons_ok ok_ref7_block mem_nil_ok) Go.Proofs.Try.func11 (by kernel_rfl) (by kernel_rfl) (fun x => (eq_ref7_Sum bigLoop _ x).trans (by
    show T_ref7_Sum bigLoop (pick [⟨26, s_ref7_block, sol_ref7_block⟩] 26 s_ref7_block) x.1 = T_ref7_Sum bigLoop sol_ref7_block x.1
    rw [show pick [⟨26, s_ref7_block, sol_ref7_block⟩] 26 s_ref7_block = sol_ref7_block from pick_hit _ _ _ _]))

theorem eq_hash_Format (L : LoopD) (C : CallD) : ∀ x, evalBody L C gN 18 Go.Proofs.Try.f18 (Go.Proofs.Try.f18.body.getD .skip) s_hash_Format x = T_hash_Format L x.1 := by
  intro x; kernel_rfl
theorem ok_hash_Format : FnOK Go.Proofs.Try.prog 18 s_hash_Format sol_hash_Format :=
  fn_ok tab [] mem_nil_ok Go.Proofs.Try.func18 (by kernel_rfl) (by kernel_rfl) (fun x => (eq_hash_Format bigLoop _ x).trans (by
    show T_hash_Format bigLoop x.1 = T_hash_Format bigLoop x.1
    rfl))

theorem eq_law7_awake (L : LoopD) (C : CallD) : ∀ x, evalBody L C gN 12 Go.Proofs.Try.f12 (Go.Proofs.Try.f12.body.getD .skip) s_law7_awake x = T_law7_awake L (C 10 s_hash_Sum) (C 18 s_hash_Format) := by
  intro x; kernel_rfl
theorem ok_law7_awake : FnOK Go.Proofs.Try.prog 12 s_law7_awake sol_law7_awake :=
  fn_ok tab [⟨10, s_hash_Sum, sol_hash_Sum⟩, ⟨18, s_hash_Format, sol_hash_Format⟩] (mem_cons_ok ok_hash_Sum (mem_cons_ok ok_hash_Format mem_nil_ok)) Go.Proofs.Try.func12 (by kernel_rfl) (by kernel_rfl) (fun x => (eq_law7_awake bigLoop _ x).trans (by
    show T_law7_awake bigLoop (pick [⟨10, s_hash_Sum, sol_hash_Sum⟩, ⟨18, s_hash_Format, sol_hash_Format⟩] 10 s_hash_Sum) (pick [⟨10, s_hash_Sum, sol_hash_Sum⟩, ⟨18, s_hash_Format, sol_hash_Format⟩] 18 s_hash_Format) = T_law7_awake bigLoop sol_hash_Sum sol_hash_Format
    rw [show pick [⟨10, s_hash_Sum, sol_hash_Sum⟩, ⟨18, s_hash_Format, sol_hash_Format⟩] 10 s_hash_Sum = sol_hash_Sum from pick_hit _ _ _ _, show pick [⟨10, s_hash_Sum, sol_hash_Sum⟩, ⟨18, s_hash_Format, sol_hash_Format⟩] 18 s_hash_Format = sol_hash_Format from (pick_miss _ _ _ _ (by rfl)).trans (pick_hit _ _ _ _)]))

theorem eq_law7_HashPadding (L : LoopD) (C : CallD) : ∀ x, evalBody L C gN 3 Go.Proofs.Try.f3 (Go.Proofs.Try.f3.body.getD .skip) s_law7_HashPadding x = T_law7_HashPadding L (C 9 s_law0_Mod) (C 10 s_hash_Sum) (C 11 s_ref7_Sum) (C 12 s_law7_awake) x.1 x.2.1 x.2.2.1 := by
  intro x; kernel_rfl
theorem ok_law7_HashPadding : FnOK Go.Proofs.Try.prog 3 s_law7_HashPadding sol_law7_HashPadding :=
  fn_ok tab [⟨9, s_law0_Mod, sol_law0_Mod⟩, ⟨10, s_hash_Sum, sol_hash_Sum⟩, ⟨11, s_ref7_Sum, sol_ref7_Sum⟩, ⟨12, s_law7_awake, sol_law7_awake⟩] (mem_cons_ok ok_law0_Mod (mem_cons_ok ok_hash_Sum (mem_cons_ok ok_ref7_Sum (mem_cons_ok ok_law7_awake mem_nil_ok)))) Go.Proofs.Try.func3 (by kernel_rfl) (by kernel_rfl) (fun x => (eq_law7_HashPadding bigLoop _ x).trans (by
    show T_law7_HashPadding bigLoop (pick [⟨9, s_law0_Mod, sol_law0_Mod⟩, ⟨10, s_hash_Sum, sol_hash_Sum⟩, ⟨11, s_ref7_Sum, sol_ref7_Sum⟩, ⟨12, s_law7_awake, sol_law7_awake⟩] 9 s_law0_Mod) (pick [⟨9, s_law0_Mod, sol_law0_Mod⟩, ⟨10, s_hash_Sum, sol_hash_Sum⟩, ⟨11, s_ref7_Sum, sol_ref7_Sum⟩, ⟨12, s_law7_awake, sol_law7_awake⟩] 10 s_hash_Sum) (pick [⟨9, s_law0_Mod, sol_law0_Mod⟩, ⟨10, s_hash_Sum, sol_hash_Sum⟩, ⟨11, s_ref7_Sum, sol_ref7_Sum⟩, ⟨12, s_law7_awake, sol_law7_awake⟩] 11 s_ref7_Sum) (pick [⟨9, s_law0_Mod, sol_law0_Mod⟩, ⟨10, s_hash_Sum, sol_hash_Sum⟩, ⟨11, s_ref7_Sum, sol_ref7_Sum⟩, ⟨12, s_law7_awake, sol_law7_awake⟩] 12 s_law7_awake) x.1 x.2.1 x.2.2.1 = T_law7_HashPadding bigLoop sol_law0_Mod sol_hash_Sum sol_ref7_Sum sol_law7_awake x.1 x.2.1 x.2.2.1
    rw [show pick [⟨9, s_law0_Mod, sol_law0_Mod⟩, ⟨10, s_hash_Sum, sol_hash_Sum⟩, ⟨11, s_ref7_Sum, sol_ref7_Sum⟩, ⟨12, s_law7_awake, sol_law7_awake⟩] 9 s_law0_Mod = sol_law0_Mod from pick_hit _ _ _ _, show pick [⟨9, s_law0_Mod, sol_law0_Mod⟩, ⟨10, s_hash_Sum, sol_hash_Sum⟩, ⟨11, s_ref7_Sum, sol_ref7_Sum⟩, ⟨12, s_law7_awake, sol_law7_awake⟩] 10 s_hash_Sum = sol_hash_Sum from (pick_miss _ _ _ _ (by rfl)).trans (pick_hit _ _ _ _), show pick [⟨9, s_law0_Mod, sol_law0_Mod⟩, ⟨10, s_hash_Sum, sol_hash_Sum⟩, ⟨11, s_ref7_Sum, sol_ref7_Sum⟩, ⟨12, s_law7_awake, sol_law7_awake⟩] 11 s_ref7_Sum = sol_ref7_Sum from (pick_miss _ _ _ _ (by rfl)).trans ((pick_miss _ _ _ _ (by rfl)).trans (pick_hit _ _ _ _)), show pick [⟨9, s_law0_Mod, sol_law0_Mod⟩, ⟨10, s_hash_Sum, sol_hash_Sum⟩, ⟨11, s_ref7_Sum, sol_ref7_Sum⟩, ⟨12, s_law7_awake, sol_law7_awake⟩] 12 s_law7_awake = sol_law7_awake from (pick_miss _ _ _ _ (by rfl)).trans ((pick_miss _ _ _ _ (by rfl)).trans ((pick_miss _ _ _ _ (by rfl)).trans (pick_hit _ _ _ _)))]))

theorem eq_hash_Leaf (L : LoopD) (C : CallD) : ∀ x, evalBody L C gN 13 Go.Proofs.Try.f13 (Go.Proofs.Try.f13.body.getD .skip) s_hash_Leaf x = T_hash_Leaf L (C 22 s_slices_Concat_byte_byte) (C 10 s_hash_Sum) x.1 := by
  intro x; kernel_rfl
theorem ok_hash_Leaf : FnOK Go.Proofs.Try.prog 13 s_hash_Leaf sol_hash_Leaf :=
  fn_ok tab [⟨22, s_slices_Concat_byte_byte, sol_slices_Concat_byte_byte⟩, ⟨10, s_hash_Sum, sol_hash_Sum⟩] (mem_cons_ok ok_slices_Concat_byte_byte (mem_cons_ok ok_hash_Sum mem_nil_ok)) Go.Proofs.Try.func13 (by kernel_rfl) (by kernel_rfl) (fun x => (eq_hash_Leaf bigLoop _ x).trans (by
    show T_hash_Leaf bigLoop (pick [⟨22, s_slices_Concat_byte_byte, sol_slices_Concat_byte_byte⟩, ⟨10, s_hash_Sum, sol_hash_Sum⟩] 22 s_slices_Concat_byte_byte) (pick [⟨22, s_slices_Concat_byte_byte, sol_slices_Concat_byte_byte⟩, ⟨10, s_hash_Sum, sol_hash_Sum⟩] 10 s_hash_Sum) x.1 = T_hash_Leaf bigLoop sol_slices_Concat_byte_byte sol_hash_Sum x.1
    rw [show pick [⟨22, s_slices_Concat_byte_byte, sol_slices_Concat_byte_byte⟩, ⟨10, s_hash_Sum, sol_hash_Sum⟩] 22 s_slices_Concat_byte_byte = sol_slices_Concat_byte_byte from pick_hit _ _ _ _, show pick [⟨22, s_slices_Concat_byte_byte, sol_slices_Concat_byte_byte⟩, ⟨10, s_hash_Sum, sol_hash_Sum⟩] 10 s_hash_Sum = sol_hash_Sum from (pick_miss _ _ _ _ (by rfl)).trans (pick_hit _ _ _ _)]))

theorem eq_ref7_Leaf (L : LoopD) (C : CallD) : ∀ x, evalBody L C gN 14 Go.Proofs.Try.f14 (Go.Proofs.Try.f14.body.getD .skip) s_ref7_Leaf x = T_ref7_Leaf L (C 11 s_ref7_Sum) x.1 := by
  intro x; kernel_rfl
theorem ok_ref7_Leaf : FnOK Go.Proofs.Try.prog 14 s_ref7_Leaf sol_ref7_Leaf :=
  fn_ok tab [⟨11, s_ref7_Sum, sol_ref7_Sum⟩] (mem_cons_ok ok_ref7_Sum mem_nil_ok) Go.Proofs.Try.func14 (by kernel_rfl) (by kernel_rfl) (fun x => (eq_ref7_Leaf bigLoop _ x).trans (by
    show T_ref7_Leaf bigLoop (pick [⟨11, s_ref7_Sum, sol_ref7_Sum⟩] 11 s_ref7_Sum) x.1 = T_ref7_Leaf bigLoop sol_ref7_Sum x.1
    rw [show pick [⟨11, s_ref7_Sum, sol_ref7_Sum⟩] 11 s_ref7_Sum = sol_ref7_Sum from pick_hit _ _ _ _]))

theorem eq_law7_HashSum (L : LoopD) (C : CallD) : ∀ x, evalBody L C gN 4 Go.Proofs.Try.f4 (Go.Proofs.Try.f4.body.getD .skip) s_law7_HashSum x = T_law7_HashSum L (C 12 s_law7_awake) (C 10 s_hash_Sum) (C 11 s_ref7_Sum) (C 13 s_hash_Leaf) (C 14 s_ref7_Leaf) x.1 := by
  intro x; kernel_rfl
theorem ok_law7_HashSum : FnOK Go.Proofs.Try.prog 4 s_law7_HashSum sol_law7_HashSum :=
  fn_ok tab [⟨12, s_law7_awake, sol_law7_awake⟩, ⟨10, s_hash_Sum, sol_hash_Sum⟩, ⟨11, s_ref7_Sum, sol_ref7_Sum⟩, ⟨13, s_hash_Leaf, sol_hash_Leaf⟩, ⟨14, s_ref7_Leaf, sol_ref7_Leaf⟩] (mem_cons_ok ok_law7_awake (mem_cons_ok ok_hash_Sum (mem_cons_ok ok_ref7_Sum (mem_cons_ok ok_hash_Leaf (mem_cons_ok ok_ref7_Leaf mem_nil_ok))))) Go.Proofs.Try.func4 (by kernel_rfl) (by kernel_rfl) (fun x => (eq_law7_HashSum bigLoop _ x).trans (by
    show T_law7_HashSum bigLoop (pick [⟨12, s_law7_awake, sol_law7_awake⟩, ⟨10, s_hash_Sum, sol_hash_Sum⟩, ⟨11, s_ref7_Sum, sol_ref7_Sum⟩, ⟨13, s_hash_Leaf, sol_hash_Leaf⟩, ⟨14, s_ref7_Leaf, sol_ref7_Leaf⟩] 12 s_law7_awake) (pick [⟨12, s_law7_awake, sol_law7_awake⟩, ⟨10, s_hash_Sum, sol_hash_Sum⟩, ⟨11, s_ref7_Sum, sol_ref7_Sum⟩, ⟨13, s_hash_Leaf, sol_hash_Leaf⟩, ⟨14, s_ref7_Leaf, sol_ref7_Leaf⟩] 10 s_hash_Sum) (pick [⟨12, s_law7_awake, sol_law7_awake⟩, ⟨10, s_hash_Sum, sol_hash_Sum⟩, ⟨11, s_ref7_Sum, sol_ref7_Sum⟩, ⟨13, s_hash_Leaf, sol_hash_Leaf⟩, ⟨14, s_ref7_Leaf, sol_ref7_Leaf⟩] 11 s_ref7_Sum) (pick [⟨12, s_law7_awake, sol_law7_awake⟩, ⟨10, s_hash_Sum, sol_hash_Sum⟩, ⟨11, s_ref7_Sum, sol_ref7_Sum⟩, ⟨13, s_hash_Leaf, sol_hash_Leaf⟩, ⟨14, s_ref7_Leaf, sol_ref7_Leaf⟩] 13 s_hash_Leaf) (pick [⟨12, s_law7_awake, sol_law7_awake⟩, ⟨10, s_hash_Sum, sol_hash_Sum⟩, ⟨11, s_ref7_Sum, sol_ref7_Sum⟩, ⟨13, s_hash_Leaf, sol_hash_Leaf⟩, ⟨14, s_ref7_Leaf, sol_ref7_Leaf⟩] 14 s_ref7_Leaf) x.1 = T_law7_HashSum bigLoop sol_law7_awake sol_hash_Sum sol_ref7_Sum sol_hash_Leaf sol_ref7_Leaf x.1
    rw [show pick [⟨12, s_law7_awake, sol_law7_awake⟩, ⟨10, s_hash_Sum, sol_hash_Sum⟩, ⟨11, s_ref7_Sum, sol_ref7_Sum⟩, ⟨13, s_hash_Leaf, sol_hash_Leaf⟩, ⟨14, s_ref7_Leaf, sol_ref7_Leaf⟩] 12 s_law7_awake = sol_law7_awake from pick_hit _ _ _ _, show pick [⟨12, s_law7_awake, sol_law7_awake⟩, ⟨10, s_hash_Sum, sol_hash_Sum⟩, ⟨11, s_ref7_Sum, sol_ref7_Sum⟩, ⟨13, s_hash_Leaf, sol_hash_Leaf⟩, ⟨14, s_ref7_Leaf, sol_ref7_Leaf⟩] 10 s_hash_Sum = sol_hash_Sum from (pick_miss _ _ _ _ (by rfl)).trans (pick_hit _ _ _ _), show pick [⟨12, s_law7_awake, sol_law7_awake⟩, ⟨10, s_hash_Sum, sol_hash_Sum⟩, ⟨11, s_ref7_Sum, sol_ref7_Sum⟩, ⟨13, s_hash_Leaf, sol_hash_Leaf⟩, ⟨14, s_ref7_Leaf, sol_ref7_Leaf⟩] 11 s_ref7_Sum = sol_ref7_Sum from (pick_miss _ _ _ _ (by rfl)).trans ((pick_miss _ _ _ _ (by rfl)).trans (pick_hit _ _ _ _)), show pick [⟨12, s_law7_awake, sol_law7_awake⟩, ⟨10, s_hash_Sum, sol_hash_Sum⟩, ⟨11, s_ref7_Sum, sol_ref7_Sum⟩, ⟨13, s_hash_Leaf, sol_hash_Leaf⟩, ⟨14, s_ref7_Leaf, sol_ref7_Leaf⟩] 13 s_hash_Leaf = sol_hash_Leaf from (pick_miss _ _ _ _ (by rfl)).trans ((pick_miss _ _ _ _ (by rfl)).trans ((pick_miss _ _ _ _ (by rfl)).trans (pick_hit _ _ _ _))), show pick [⟨12, s_law7_awake, sol_law7_awake⟩, ⟨10, s_hash_Sum, sol_hash_Sum⟩, ⟨11, s_ref7_Sum, sol_ref7_Sum⟩, ⟨13, s_hash_Leaf, sol_hash_Leaf⟩, ⟨14, s_ref7_Leaf, sol_ref7_Leaf⟩] 14 s_ref7_Leaf = sol_ref7_Leaf from (pick_miss _ _ _ _ (by rfl)).trans ((pick_miss _ _ _ _ (by rfl)).trans ((pick_miss _ _ _ _ (by rfl)).trans ((pick_miss _ _ _ _ (by rfl)).trans (pick_hit _ _ _ _))))]))

theorem eq_hash_Node (L : LoopD) (C : CallD) : ∀ x, evalBody L C gN 15 Go.Proofs.Try.f15 (Go.Proofs.Try.f15.body.getD .skip) s_hash_Node x = T_hash_Node L (C 22 s_slices_Concat_byte_byte) (C 10 s_hash_Sum) x.1 x.2.1 := by
  intro x; kernel_rfl
theorem ok_hash_Node : FnOK Go.Proofs.Try.prog 15 s_hash_Node sol_hash_Node :=
  fn_ok tab [⟨22, s_slices_Concat_byte_byte, sol_slices_Concat_byte_byte⟩, ⟨10, s_hash_Sum, sol_hash_Sum⟩] (mem_cons_ok ok_slices_Concat_byte_byte (mem_cons_ok ok_hash_Sum mem_nil_ok)) Go.Proofs.Try.func15 (by kernel_rfl) (by kernel_rfl) (fun x => (eq_hash_Node bigLoop _ x).trans (by
    show T_hash_Node bigLoop (pick [⟨22, s_slices_Concat_byte_byte, sol_slices_Concat_byte_byte⟩, ⟨10, s_hash_Sum, sol_hash_Sum⟩] 22 s_slices_Concat_byte_byte) (pick [⟨22, s_slices_Concat_byte_byte, sol_slices_Concat_byte_byte⟩, ⟨10, s_hash_Sum, sol_hash_Sum⟩] 10 s_hash_Sum) x.1 x.2.1 = T_hash_Node bigLoop sol_slices_Concat_byte_byte sol_hash_Sum x.1 x.2.1
    rw [show pick [⟨22, s_slices_Concat_byte_byte, sol_slices_Concat_byte_byte⟩, ⟨10, s_hash_Sum, sol_hash_Sum⟩] 22 s_slices_Concat_byte_byte = sol_slices_Concat_byte_byte from pick_hit _ _ _ _, show pick [⟨22, s_slices_Concat_byte_byte, sol_slices_Concat_byte_byte⟩, ⟨10, s_hash_Sum, sol_hash_Sum⟩] 10 s_hash_Sum = sol_hash_Sum from (pick_miss _ _ _ _ (by rfl)).trans (pick_hit _ _ _ _)]))

theorem eq_ref7_Node (L : LoopD) (C : CallD) : ∀ x, evalBody L C gN 16 Go.Proofs.Try.f16 (Go.Proofs.Try.f16.body.getD .skip) s_ref7_Node x = T_ref7_Node L (C 11 s_ref7_Sum) x.1 x.2.1 := by
  intro x; kernel_rfl
theorem ok_ref7_Node : FnOK Go.Proofs.Try.prog 16 s_ref7_Node sol_ref7_Node :=
  fn_ok tab [⟨11, s_ref7_Sum, sol_ref7_Sum⟩] (mem_cons_ok ok_ref7_Sum mem_nil_ok) Go.Proofs.Try.func16 (by kernel_rfl) (by kernel_rfl) (fun x => (eq_ref7_Node bigLoop _ x).trans (by
    show T_ref7_Node bigLoop (pick [⟨11, s_ref7_Sum, sol_ref7_Sum⟩] 11 s_ref7_Sum) x.1 x.2.1 = T_ref7_Node bigLoop sol_ref7_Sum x.1 x.2.1
    rw [show pick [⟨11, s_ref7_Sum, sol_ref7_Sum⟩] 11 s_ref7_Sum = sol_ref7_Sum from pick_hit _ _ _ _]))

theorem eq_law7_HashNode (L : LoopD) (C : CallD) : ∀ x, evalBody L C gN 5 Go.Proofs.Try.f5 (Go.Proofs.Try.f5.body.getD .skip) s_law7_HashNode x = T_law7_HashNode L (C 15 s_hash_Node) (C 16 s_ref7_Node) (C 10 s_hash_Sum) (C 12 s_law7_awake) x.1 x.2.1 := by
  intro x; kernel_rfl
theorem ok_law7_HashNode : FnOK Go.Proofs.Try.prog 5 s_law7_HashNode sol_law7_HashNode :=
  fn_ok tab [⟨15, s_hash_Node, sol_hash_Node⟩, ⟨16, s_ref7_Node, sol_ref7_Node⟩, ⟨10, s_hash_Sum, sol_hash_Sum⟩, ⟨12, s_law7_awake, sol_law7_awake⟩] (mem_cons_ok ok_hash_Node (mem_cons_ok ok_ref7_Node (mem_cons_ok ok_hash_Sum (mem_cons_ok ok_law7_awake mem_nil_ok)))) Go.Proofs.Try.func5 (by kernel_rfl) (by kernel_rfl) (fun x => (eq_law7_HashNode bigLoop _ x).trans (by
    show T_law7_HashNode bigLoop (pick [⟨15, s_hash_Node, sol_hash_Node⟩, ⟨16, s_ref7_Node, sol_ref7_Node⟩, ⟨10, s_hash_Sum, sol_hash_Sum⟩, ⟨12, s_law7_awake, sol_law7_awake⟩] 15 s_hash_Node) (pick [⟨15, s_hash_Node, sol_hash_Node⟩, ⟨16, s_ref7_Node, sol_ref7_Node⟩, ⟨10, s_hash_Sum, sol_hash_Sum⟩, ⟨12, s_law7_awake, sol_law7_awake⟩] 16 s_ref7_Node) (pick [⟨15, s_hash_Node, sol_hash_Node⟩, ⟨16, s_ref7_Node, sol_ref7_Node⟩, ⟨10, s_hash_Sum, sol_hash_Sum⟩, ⟨12, s_law7_awake, sol_law7_awake⟩] 10 s_hash_Sum) (pick [⟨15, s_hash_Node, sol_hash_Node⟩, ⟨16, s_ref7_Node, sol_ref7_Node⟩, ⟨10, s_hash_Sum, sol_hash_Sum⟩, ⟨12, s_law7_awake, sol_law7_awake⟩] 12 s_law7_awake) x.1 x.2.1 = T_law7_HashNode bigLoop sol_hash_Node sol_ref7_Node sol_hash_Sum sol_law7_awake x.1 x.2.1
    rw [show pick [⟨15, s_hash_Node, sol_hash_Node⟩, ⟨16, s_ref7_Node, sol_ref7_Node⟩, ⟨10, s_hash_Sum, sol_hash_Sum⟩, ⟨12, s_law7_awake, sol_law7_awake⟩] 15 s_hash_Node = sol_hash_Node from pick_hit _ _ _ _, show pick [⟨15, s_hash_Node, sol_hash_Node⟩, ⟨16, s_ref7_Node, sol_ref7_Node⟩, ⟨10, s_hash_Sum, sol_hash_Sum⟩, ⟨12, s_law7_awake, sol_law7_awake⟩] 16 s_ref7_Node = sol_ref7_Node from (pick_miss _ _ _ _ (by rfl)).trans (pick_hit _ _ _ _), show pick [⟨15, s_hash_Node, sol_hash_Node⟩, ⟨16, s_ref7_Node, sol_ref7_Node⟩, ⟨10, s_hash_Sum, sol_hash_Sum⟩, ⟨12, s_law7_awake, sol_law7_awake⟩] 10 s_hash_Sum = sol_hash_Sum from (pick_miss _ _ _ _ (by rfl)).trans ((pick_miss _ _ _ _ (by rfl)).trans (pick_hit _ _ _ _)), show pick [⟨15, s_hash_Node, sol_hash_Node⟩, ⟨16, s_ref7_Node, sol_ref7_Node⟩, ⟨10, s_hash_Sum, sol_hash_Sum⟩, ⟨12, s_law7_awake, sol_law7_awake⟩] 12 s_law7_awake = sol_law7_awake from (pick_miss _ _ _ _ (by rfl)).trans ((pick_miss _ _ _ _ (by rfl)).trans ((pick_miss _ _ _ _ (by rfl)).trans (pick_hit _ _ _ _)))]))

theorem eq_law0_EqualBytes (L : LoopD) (C : CallD) : ∀ x, evalBody L C gN 17 Go.Proofs.Try.f17 (Go.Proofs.Try.f17.body.getD .skip) s_law0_EqualBytes x = T_law0_EqualBytes L x.1 x.2.1 := by
  intro x; kernel_rfl
theorem ok_law0_EqualBytes : FnOK Go.Proofs.Try.prog 17 s_law0_EqualBytes sol_law0_EqualBytes :=
  fn_ok tab [] mem_nil_ok Go.Proofs.Try.func17 (by kernel_rfl) (by kernel_rfl) (fun x => (eq_law0_EqualBytes bigLoop _ x).trans (by
    show T_law0_EqualBytes bigLoop x.1 x.2.1 = T_law0_EqualBytes bigLoop x.1 x.2.1
    rfl))

theorem eq_law7_HashPure (L : LoopD) (C : CallD) : ∀ x, evalBody L C gN 6 Go.Proofs.Try.f6 (Go.Proofs.Try.f6.body.getD .skip) s_law7_HashPure x = T_law7_HashPure L (C 12 s_law7_awake) (C 9 s_law0_Mod) (C 10 s_hash_Sum) (C 13 s_hash_Leaf) (C 17 s_law0_EqualBytes) x.1 x.2.1 x.2.2.1 := by
  intro x; kernel_rfl
theorem ok_law7_HashPure : FnOK Go.Proofs.Try.prog 6 s_law7_HashPure sol_law7_HashPure :=
  fn_ok tab [⟨12, s_law7_awake, sol_law7_awake⟩, ⟨9, s_law0_Mod, sol_law0_Mod⟩, ⟨10, s_hash_Sum, sol_hash_Sum⟩, ⟨13, s_hash_Leaf, sol_hash_Leaf⟩, ⟨17, s_law0_EqualBytes, sol_law0_EqualBytes⟩] (mem_cons_ok ok_law7_awake (mem_cons_ok ok_law0_Mod (mem_cons_ok ok_hash_Sum (mem_cons_ok ok_hash_Leaf (mem_cons_ok ok_law0_EqualBytes mem_nil_ok))))) Go.Proofs.Try.func6 (by kernel_rfl) (by kernel_rfl) (fun x => (eq_law7_HashPure bigLoop _ x).trans (by
    show T_law7_HashPure bigLoop (pick [⟨12, s_law7_awake, sol_law7_awake⟩, ⟨9, s_law0_Mod, sol_law0_Mod⟩, ⟨10, s_hash_Sum, sol_hash_Sum⟩, ⟨13, s_hash_Leaf, sol_hash_Leaf⟩, ⟨17, s_law0_EqualBytes, sol_law0_EqualBytes⟩] 12 s_law7_awake) (pick [⟨12, s_law7_awake, sol_law7_awake⟩, ⟨9, s_law0_Mod, sol_law0_Mod⟩, ⟨10, s_hash_Sum, sol_hash_Sum⟩, ⟨13, s_hash_Leaf, sol_hash_Leaf⟩, ⟨17, s_law0_EqualBytes, sol_law0_EqualBytes⟩] 9 s_law0_Mod) (pick [⟨12, s_law7_awake, sol_law7_awake⟩, ⟨9, s_law0_Mod, sol_law0_Mod⟩, ⟨10, s_hash_Sum, sol_hash_Sum⟩, ⟨13, s_hash_Leaf, sol_hash_Leaf⟩, ⟨17, s_law0_EqualBytes, sol_law0_EqualBytes⟩] 10 s_hash_Sum) (pick [⟨12, s_law7_awake, sol_law7_awake⟩, ⟨9, s_law0_Mod, sol_law0_Mod⟩, ⟨10, s_hash_Sum, sol_hash_Sum⟩, ⟨13, s_hash_Leaf, sol_hash_Leaf⟩, ⟨17, s_law0_EqualBytes, sol_law0_EqualBytes⟩] 13 s_hash_Leaf) (pick [⟨12, s_law7_awake, sol_law7_awake⟩, ⟨9, s_law0_Mod, sol_law0_Mod⟩, ⟨10, s_hash_Sum, sol_hash_Sum⟩, ⟨13, s_hash_Leaf, sol_hash_Leaf⟩, ⟨17, s_law0_EqualBytes, sol_law0_EqualBytes⟩] 17 s_law0_EqualBytes) x.1 x.2.1 x.2.2.1 = T_law7_HashPure bigLoop sol_law7_awake sol_law0_Mod sol_hash_Sum sol_hash_Leaf sol_law0_EqualBytes x.1 x.2.1 x.2.2.1
    rw [show pick [⟨12, s_law7_awake, sol_law7_awake⟩, ⟨9, s_law0_Mod, sol_law0_Mod⟩, ⟨10, s_hash_Sum, sol_hash_Sum⟩, ⟨13, s_hash_Leaf, sol_hash_Leaf⟩, ⟨17, s_law0_EqualBytes, sol_law0_EqualBytes⟩] 12 s_law7_awake = sol_law7_awake from pick_hit _ _ _ _, show pick [⟨12, s_law7_awake, sol_law7_awake⟩, ⟨9, s_law0_Mod, sol_law0_Mod⟩, ⟨10, s_hash_Sum, sol_hash_Sum⟩, ⟨13, s_hash_Leaf, sol_hash_Leaf⟩, ⟨17, s_law0_EqualBytes, sol_law0_EqualBytes⟩] 9 s_law0_Mod = sol_law0_Mod from (pick_miss _ _ _ _ (by rfl)).trans (pick_hit _ _ _ _), show pick [⟨12, s_law7_awake, sol_law7_awake⟩, ⟨9, s_law0_Mod, sol_law0_Mod⟩, ⟨10, s_hash_Sum, sol_hash_Sum⟩, ⟨13, s_hash_Leaf, sol_hash_Leaf⟩, ⟨17, s_law0_EqualBytes, sol_law0_EqualBytes⟩] 10 s_hash_Sum = sol_hash_Sum from (pick_miss _ _ _ _ (by rfl)).trans ((pick_miss _ _ _ _ (by rfl)).trans (pick_hit _ _ _ _)), show pick [⟨12, s_law7_awake, sol_law7_awake⟩, ⟨9, s_law0_Mod, sol_law0_Mod⟩, ⟨10, s_hash_Sum, sol_hash_Sum⟩, ⟨13, s_hash_Leaf, sol_hash_Leaf⟩, ⟨17, s_law0_EqualBytes, sol_law0_EqualBytes⟩] 13 s_hash_Leaf = sol_hash_Leaf from (pick_miss _ _ _ _ (by rfl)).trans ((pick_miss _ _ _ _ (by rfl)).trans ((pick_miss _ _ _ _ (by rfl)).trans (pick_hit _ _ _ _))), show pick [⟨12, s_law7_awake, sol_law7_awake⟩, ⟨9, s_law0_Mod, sol_law0_Mod⟩, ⟨10, s_hash_Sum, sol_hash_Sum⟩, ⟨13, s_hash_Leaf, sol_hash_Leaf⟩, ⟨17, s_law0_EqualBytes, sol_law0_EqualBytes⟩] 17 s_law0_EqualBytes = sol_law0_EqualBytes from (pick_miss _ _ _ _ (by rfl)).trans ((pick_miss _ _ _ _ (by rfl)).trans ((pick_miss _ _ _ _ (by rfl)).trans ((pick_miss _ _ _ _ (by rfl)).trans (pick_hit _ _ _ _))))]))

theorem eq_hash_digit (L : LoopD) (C : CallD) : ∀ x, evalBody L C gN 27 Go.Proofs.Try.f27 (Go.Proofs.Try.f27.body.getD .skip) s_hash_digit x = T_hash_digit L x.1 := by
  intro x; kernel_rfl
theorem ok_hash_digit : FnOK Go.Proofs.Try.prog 27 s_hash_digit sol_hash_digit :=
  fn_ok tab [] mem_nil_ok Go.Proofs.Try.func27 (by kernel_rfl) (by kernel_rfl) (fun x => (eq_hash_digit bigLoop _ x).trans (by
    show T_hash_digit bigLoop x.1 = T_hash_digit bigLoop x.1
    rfl))

theorem eq_hash_Parse (L : LoopD) (C : CallD) : ∀ x, evalBody L C gN 19 Go.Proofs.Try.f19 (Go.Proofs.Try.f19.body.getD .skip) s_hash_Parse x = T_hash_Parse L (C 27 s_hash_digit) x.1 := by
  intro x; kernel_rfl
theorem ok_hash_Parse : FnOK Go.Proofs.Try.prog 19 s_hash_Parse sol_hash_Parse :=
  fn_ok tab [⟨27, s_hash_digit, sol_hash_digit⟩] (mem_cons_ok ok_hash_digit mem_nil_ok) Go.Proofs.Try.func19 (by kernel_rfl) (by kernel_rfl) (fun x => (eq_hash_Parse bigLoop _ x).trans (by
    show T_hash_Parse bigLoop (pick [⟨27, s_hash_digit, sol_hash_digit⟩] 27 s_hash_digit) x.1 = T_hash_Parse bigLoop sol_hash_digit x.1
    rw [show pick [⟨27, s_hash_digit, sol_hash_digit⟩] 27 s_hash_digit = sol_hash_digit from pick_hit _ _ _ _]))

theorem eq_ref7_Format (L : LoopD) (C : CallD) : ∀ x, evalBody L C gN 20 Go.Proofs.Try.f20 (Go.Proofs.Try.f20.body.getD .skip) s_ref7_Format x = T_ref7_Format L x.1 := by
  intro x; kernel_rfl
theorem ok_ref7_Format : FnOK Go.Proofs.Try.prog 20 s_ref7_Format sol_ref7_Format :=
  fn_ok tab [] mem_nil_ok Go.Proofs.Try.func20 (by kernel_rfl) (by kernel_rfl) (fun x => (eq_ref7_Format bigLoop _ x).trans (by
    show T_ref7_Format bigLoop x.1 = T_ref7_Format bigLoop x.1
    rfl))

theorem eq_law7_HashFormat (L : LoopD) (C : CallD) : ∀ x, evalBody L C gN 7 Go.Proofs.Try.f7 (Go.Proofs.Try.f7.body.getD .skip) s_law7_HashFormat x = T_law7_HashFormat L (C 18 s_hash_Format) (C 19 s_hash_Parse) (C 20 s_ref7_Format) (C 12 s_law7_awake) x.1 := by
  intro x; kernel_rfl
theorem ok_law7_HashFormat : FnOK Go.Proofs.Try.prog 7 s_law7_HashFormat sol_law7_HashFormat :=
  fn_ok tab [⟨18, s_hash_Format, sol_hash_Format⟩, ⟨19, s_hash_Parse, sol_hash_Parse⟩, ⟨20, s_ref7_Format, sol_ref7_Format⟩, ⟨12, s_law7_awake, sol_law7_awake⟩] (mem_cons_ok ok_hash_Format (mem_cons_ok ok_hash_Parse (mem_cons_ok ok_ref7_Format (mem_cons_ok ok_law7_awake mem_nil_ok)))) Go.Proofs.Try.func7 (by kernel_rfl) (by kernel_rfl) (fun x => (eq_law7_HashFormat bigLoop _ x).trans (by
    show T_law7_HashFormat bigLoop (pick [⟨18, s_hash_Format, sol_hash_Format⟩, ⟨19, s_hash_Parse, sol_hash_Parse⟩, ⟨20, s_ref7_Format, sol_ref7_Format⟩, ⟨12, s_law7_awake, sol_law7_awake⟩] 18 s_hash_Format) (pick [⟨18, s_hash_Format, sol_hash_Format⟩, ⟨19, s_hash_Parse, sol_hash_Parse⟩, ⟨20, s_ref7_Format, sol_ref7_Format⟩, ⟨12, s_law7_awake, sol_law7_awake⟩] 19 s_hash_Parse) (pick [⟨18, s_hash_Format, sol_hash_Format⟩, ⟨19, s_hash_Parse, sol_hash_Parse⟩, ⟨20, s_ref7_Format, sol_ref7_Format⟩, ⟨12, s_law7_awake, sol_law7_awake⟩] 20 s_ref7_Format) (pick [⟨18, s_hash_Format, sol_hash_Format⟩, ⟨19, s_hash_Parse, sol_hash_Parse⟩, ⟨20, s_ref7_Format, sol_ref7_Format⟩, ⟨12, s_law7_awake, sol_law7_awake⟩] 12 s_law7_awake) x.1 = T_law7_HashFormat bigLoop sol_hash_Format sol_hash_Parse sol_ref7_Format sol_law7_awake x.1
    rw [show pick [⟨18, s_hash_Format, sol_hash_Format⟩, ⟨19, s_hash_Parse, sol_hash_Parse⟩, ⟨20, s_ref7_Format, sol_ref7_Format⟩, ⟨12, s_law7_awake, sol_law7_awake⟩] 18 s_hash_Format = sol_hash_Format from pick_hit _ _ _ _, show pick [⟨18, s_hash_Format, sol_hash_Format⟩, ⟨19, s_hash_Parse, sol_hash_Parse⟩, ⟨20, s_ref7_Format, sol_ref7_Format⟩, ⟨12, s_law7_awake, sol_law7_awake⟩] 19 s_hash_Parse = sol_hash_Parse from (pick_miss _ _ _ _ (by rfl)).trans (pick_hit _ _ _ _), show pick [⟨18, s_hash_Format, sol_hash_Format⟩, ⟨19, s_hash_Parse, sol_hash_Parse⟩, ⟨20, s_ref7_Format, sol_ref7_Format⟩, ⟨12, s_law7_awake, sol_law7_awake⟩] 20 s_ref7_Format = sol_ref7_Format from (pick_miss _ _ _ _ (by rfl)).trans ((pick_miss _ _ _ _ (by rfl)).trans (pick_hit _ _ _ _)), show pick [⟨18, s_hash_Format, sol_hash_Format⟩, ⟨19, s_hash_Parse, sol_hash_Parse⟩, ⟨20, s_ref7_Format, sol_ref7_Format⟩, ⟨12, s_law7_awake, sol_law7_awake⟩] 12 s_law7_awake = sol_law7_awake from (pick_miss _ _ _ _ (by rfl)).trans ((pick_miss _ _ _ _ (by rfl)).trans ((pick_miss _ _ _ _ (by rfl)).trans (pick_hit _ _ _ _)))]))

theorem eq_ref7_HexDigit (L : LoopD) (C : CallD) : ∀ x, evalBody L C gN 28 Go.Proofs.Try.f28 (Go.Proofs.Try.f28.body.getD .skip) s_ref7_HexDigit x = T_ref7_HexDigit L x.1 := by
  intro x; kernel_rfl
theorem ok_ref7_HexDigit : FnOK Go.Proofs.Try.prog 28 s_ref7_HexDigit sol_ref7_HexDigit :=
  fn_ok tab [] mem_nil_ok Go.Proofs.Try.func28 (by kernel_rfl) (by kernel_rfl) (fun x => (eq_ref7_HexDigit bigLoop _ x).trans (by
    show T_ref7_HexDigit bigLoop x.1 = T_ref7_HexDigit bigLoop x.1
    rfl))

theorem eq_ref7_Parse (L : LoopD) (C : CallD) : ∀ x, evalBody L C gN 21 Go.Proofs.Try.f21 (Go.Proofs.Try.f21.body.getD .skip) s_ref7_Parse x = T_ref7_Parse L (C 28 s_ref7_HexDigit) x.1 := by
  intro x; kernel_rfl
theorem ok_ref7_Parse : FnOK Go.Proofs.Try.prog 21 s_ref7_Parse sol_ref7_Parse :=
  fn_ok tab [⟨28, s_ref7_HexDigit, sol_ref7_HexDigit⟩] (mem_cons_ok ok_ref7_HexDigit mem_nil_ok) Go.Proofs.Try.func21 (by kernel_rfl) (by kernel_rfl) (fun x => (eq_ref7_Parse bigLoop _ x).trans (by
    show T_ref7_Parse bigLoop (pick [⟨28, s_ref7_HexDigit, sol_ref7_HexDigit⟩] 28 s_ref7_HexDigit) x.1 = T_ref7_Parse bigLoop sol_ref7_HexDigit x.1
    rw [show pick [⟨28, s_ref7_HexDigit, sol_ref7_HexDigit⟩] 28 s_ref7_HexDigit = sol_ref7_HexDigit from pick_hit _ _ _ _]))

theorem eq_law7_HashParse (L : LoopD) (C : CallD) : ∀ x, evalBody L C gN 8 Go.Proofs.Try.f8 (Go.Proofs.Try.f8.body.getD .skip) s_law7_HashParse x = T_law7_HashParse L (C 12 s_law7_awake) (C 20 s_ref7_Format) (C 9 s_law0_Mod) (C 19 s_hash_Parse) (C 21 s_ref7_Parse) x.1 x.2.1 x.2.2.1 x.2.2.2.1 x.2.2.2.2.1 := by
  intro x; kernel_rfl
theorem ok_law7_HashParse : FnOK Go.Proofs.Try.prog 8 s_law7_HashParse sol_law7_HashParse :=
  fn_ok tab [⟨12, s_law7_awake, sol_law7_awake⟩, ⟨20, s_ref7_Format, sol_ref7_Format⟩, ⟨9, s_law0_Mod, sol_law0_Mod⟩, ⟨19, s_hash_Parse, sol_hash_Parse⟩, ⟨21, s_ref7_Parse, sol_ref7_Parse⟩] (mem_cons_ok ok_law7_awake (mem_cons_ok ok_ref7_Format (mem_cons_ok ok_law0_Mod (mem_cons_ok ok_hash_Parse (mem_cons_ok ok_ref7_Parse mem_nil_ok))))) Go.Proofs.Try.func8 (by kernel_rfl) (by kernel_rfl) (fun x => (eq_law7_HashParse bigLoop _ x).trans (by
    show T_law7_HashParse bigLoop (pick [⟨12, s_law7_awake, sol_law7_awake⟩, ⟨20, s_ref7_Format, sol_ref7_Format⟩, ⟨9, s_law0_Mod, sol_law0_Mod⟩, ⟨19, s_hash_Parse, sol_hash_Parse⟩, ⟨21, s_ref7_Parse, sol_ref7_Parse⟩] 12 s_law7_awake) (pick [⟨12, s_law7_awake, sol_law7_awake⟩, ⟨20, s_ref7_Format, sol_ref7_Format⟩, ⟨9, s_law0_Mod, sol_law0_Mod⟩, ⟨19, s_hash_Parse, sol_hash_Parse⟩, ⟨21, s_ref7_Parse, sol_ref7_Parse⟩] 20 s_ref7_Format) (pick [⟨12, s_law7_awake, sol_law7_awake⟩, ⟨20, s_ref7_Format, sol_ref7_Format⟩, ⟨9, s_law0_Mod, sol_law0_Mod⟩, ⟨19, s_hash_Parse, sol_hash_Parse⟩, ⟨21, s_ref7_Parse, sol_ref7_Parse⟩] 9 s_law0_Mod) (pick [⟨12, s_law7_awake, sol_law7_awake⟩, ⟨20, s_ref7_Format, sol_ref7_Format⟩, ⟨9, s_law0_Mod, sol_law0_Mod⟩, ⟨19, s_hash_Parse, sol_hash_Parse⟩, ⟨21, s_ref7_Parse, sol_ref7_Parse⟩] 19 s_hash_Parse) (pick [⟨12, s_law7_awake, sol_law7_awake⟩, ⟨20, s_ref7_Format, sol_ref7_Format⟩, ⟨9, s_law0_Mod, sol_law0_Mod⟩, ⟨19, s_hash_Parse, sol_hash_Parse⟩, ⟨21, s_ref7_Parse, sol_ref7_Parse⟩] 21 s_ref7_Parse) x.1 x.2.1 x.2.2.1 x.2.2.2.1 x.2.2.2.2.1 = T_law7_HashParse bigLoop sol_law7_awake sol_ref7_Format sol_law0_Mod sol_hash_Parse sol_ref7_Parse x.1 x.2.1 x.2.2.1 x.2.2.2.1 x.2.2.2.2.1
    rw [show pick [⟨12, s_law7_awake, sol_law7_awake⟩, ⟨20, s_ref7_Format, sol_ref7_Format⟩, ⟨9, s_law0_Mod, sol_law0_Mod⟩, ⟨19, s_hash_Parse, sol_hash_Parse⟩, ⟨21, s_ref7_Parse, sol_ref7_Parse⟩] 12 s_law7_awake = sol_law7_awake from pick_hit _ _ _ _, show pick [⟨12, s_law7_awake, sol_law7_awake⟩, ⟨20, s_ref7_Format, sol_ref7_Format⟩, ⟨9, s_law0_Mod, sol_law0_Mod⟩, ⟨19, s_hash_Parse, sol_hash_Parse⟩, ⟨21, s_ref7_Parse, sol_ref7_Parse⟩] 20 s_ref7_Format = sol_ref7_Format from (pick_miss _ _ _ _ (by rfl)).trans (pick_hit _ _ _ _), show pick [⟨12, s_law7_awake, sol_law7_awake⟩, ⟨20, s_ref7_Format, sol_ref7_Format⟩, ⟨9, s_law0_Mod, sol_law0_Mod⟩, ⟨19, s_hash_Parse, sol_hash_Parse⟩, ⟨21, s_ref7_Parse, sol_ref7_Parse⟩] 9 s_law0_Mod = sol_law0_Mod from (pick_miss _ _ _ _ (by rfl)).trans ((pick_miss _ _ _ _ (by rfl)).trans (pick_hit _ _ _ _)), show pick [⟨12, s_law7_awake, sol_law7_awake⟩, ⟨20, s_ref7_Format, sol_ref7_Format⟩, ⟨9, s_law0_Mod, sol_law0_Mod⟩, ⟨19, s_hash_Parse, sol_hash_Parse⟩, ⟨21, s_ref7_Parse, sol_ref7_Parse⟩] 19 s_hash_Parse = sol_hash_Parse from (pick_miss _ _ _ _ (by rfl)).trans ((pick_miss _ _ _ _ (by rfl)).trans ((pick_miss _ _ _ _ (by rfl)).trans (pick_hit _ _ _ _))), show pick [⟨12, s_law7_awake, sol_law7_awake⟩, ⟨20, s_ref7_Format, sol_ref7_Format⟩, ⟨9, s_law0_Mod, sol_law0_Mod⟩, ⟨19, s_hash_Parse, sol_hash_Parse⟩, ⟨21, s_ref7_Parse, sol_ref7_Parse⟩] 21 s_ref7_Parse = sol_ref7_Parse from (pick_miss _ _ _ _ (by rfl)).trans ((pick_miss _ _ _ _ (by rfl)).trans ((pick_miss _ _ _ _ (by rfl)).trans ((pick_miss _ _ _ _ (by rfl)).trans (pick_hit _ _ _ _))))]))

end Go.Pon.Ytnimnanplhjpoaa
