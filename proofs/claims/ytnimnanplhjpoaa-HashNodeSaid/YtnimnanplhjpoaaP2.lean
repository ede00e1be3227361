/-
  Part of a proof: general lemmas, merged by a program of this work.
-/
import Derived.Test.YtnimnanplhjpoaaP1
/-
  The laws of chapter 7.
-/
set_option autoImplicit false
set_option linter.unusedVariables false
set_option linter.unusedSimpArgs false
set_option maxRecDepth 100000
namespace Go.Pon
open Go

theorem fmt_nil : fmtH (sha []) = [101, 51, 98, 48, 99, 52, 52, 50, 57, 56, 102, 99, 49, 99, 49, 52, 57, 97, 102, 98, 102, 52, 99, 56, 57, 57, 54, 102, 98, 57, 50, 52, 50, 55, 97, 101, 52, 49, 101, 52, 54, 52, 57, 98, 57, 51, 52, 99, 97, 52, 57, 53, 57, 57, 49, 98, 55, 56, 53, 50, 98, 56, 53, 53] := by
  rw [sha_nil]; decide

theorem fmt_abc : fmtH (sha [97, 98, 99]) = [98, 97, 55, 56, 49, 54, 98, 102, 56, 102, 48, 49, 99, 102, 101, 97, 52, 49, 52, 49, 52, 48, 100, 101, 53, 100, 97, 101, 50, 50, 50, 51, 98, 48, 48, 51, 54, 49, 97, 51, 57, 54, 49, 55, 55, 97, 57, 99, 98, 52, 49, 48, 102, 102, 54, 49, 102, 50, 48, 48, 49, 53, 97, 100] := by
  rw [sha_abc]; decide

theorem awake7 : sol_law7_awake () = some ((true, ()), ()) := by
  unfold sol_law7_awake T_law7_awake
  rw [sum_eq (by intro x hx; cases hx) (by simp), sum_eq (b := [97, 98, 99]) (by intro x hx; simp at hx; omega) (by simp)]
  simp only [bind_some']
  rw [format_eq (h32_sha _), format_eq (h32_sha _)]
  simp only [bind_some']
  rw [fmt_nil, fmt_abc, eqD_iff.2 rfl, eqD_iff.2 rfl, brR_true]

theorem law_HashSum_at (b : List Int) (hb : Bytes b) : ∃ y, sol_law7_HashSum (b, ()) = some y ∧ y.1.1 = true := by
  unfold sol_law7_HashSum T_law7_HashSum
  simp only
  rw [awake7]
  simp only [brR_dec, bind_some']
  by_cases c : (List.length b : Int) > 2000
  · rw [if_pos c]; exact ⟨_, rfl, rfl⟩
  rw [if_neg c, sum_eq hb (by omega), rsum_eq hb (by omega), leaf_eq hb (by omega), rleaf_eq hb (by omega)]
  simp only [bind_some', eqD_h32, decide_true, brR_true]
  exact ⟨_, rfl, rfl⟩

theorem law_HashSum : ∀ x, wfL s_law7_HashSum.ins x → ∃ y, sol_law7_HashSum x = some y ∧ y.1.1 = true :=
  fun ⟨b, _⟩ ⟨hb, _⟩ => law_HashSum_at b (bytes_wf hb)

theorem law_HashNode_at (x y : List Int) (hx : H32 x) (hy : H32 y) : ∃ z, sol_law7_HashNode (x, (y, ())) = some z ∧ z.1.1 = true := by
  unfold sol_law7_HashNode T_law7_HashNode
  have h1 := hx.1
  have h2 := hy.1
  simp only [letR_eq, append_def]
  rw [take32 h1, take32 h2, brR_room8 (by omega), brR_room8 (by simp; omega), awake7, node_eq hx hy, rnode_eq hx hy, sum_eq (b := [1] ++ x ++ y) (bytes_cons (by omega) (hx.2.append hy.2)) (by simp; omega)]
  simp only [bind_some', eqD_h32, decide_true, brR_true]
  rw [show nodeH x y = sha ([1] ++ x ++ y) from rfl]
  simp only [decide_true, brR_true]
  exact ⟨_, rfl, rfl⟩

theorem law_HashNode : ∀ x, wfL s_law7_HashNode.ins x → ∃ y, sol_law7_HashNode x = some y ∧ y.1.1 = true :=
  fun ⟨x, y, _⟩ ⟨hx, hy, _⟩ => law_HashNode_at x y (h32_wf hx) (h32_wf hy)

theorem law_HashFormat_at (h : List Int) (hh : H32 h) : ∃ z, sol_law7_HashFormat (h, ()) = some z ∧ z.1.1 = true := by
  unfold sol_law7_HashFormat T_law7_HashFormat
  simp only
  rw [format_eq hh]
  simp only [bind_some']
  have hl : (fmtH h).length = 64 := by rw [len_fmtH, hh.1]
  rw [parse_eq _ (by omega), rformat_eq hh, parse_format hh, awake7]
  simp only [bind_some', eqD_h32, decide_true, brR_true, brR_dec, if_true]
  rw [eqD_iff.2 rfl, brR_true, if_pos (by omega)]
  exact ⟨_, rfl, rfl⟩

theorem law_HashFormat : ∀ x, wfL s_law7_HashFormat.ins x → ∃ y, sol_law7_HashFormat x = some y ∧ y.1.1 = true :=
  fun ⟨h, _⟩ ⟨hh, _⟩ => law_HashFormat_at h (h32_wf hh)

theorem law_HashParse_at (s h : List Int) (at_ c how : Int) (hs : True) (hh : H32 h) (ha : -9223372036854775808 ≤ at_ ∧ at_ ≤ 9223372036854775807) (hw : -9223372036854775808 ≤ how ∧ how ≤ 9223372036854775807) :
    ∃ z, sol_law7_HashParse (s, (h, (at_, (c, (how, ()))))) = some z ∧ z.1.1 = true := by
  unfold sol_law7_HashParse T_law7_HashParse
  simp only
  rw [awake7]
  simp only [brR_dec, bind_some', letR_eq]
  by_cases c1 : (List.length s : Int) > 200
  · rw [if_pos c1]; exact ⟨_, rfl, rfl⟩
  rw [if_neg c1, rformat_eq hh, mod_eq ha.1 ha.2 (by omega) (by omega), mod_eq hw.1 hw.2 (by omega) (by omega), parse_eq s (by omega), rparse_eq s (by omega)]
  have hl : (fmtH h).length = 64 := by rw [len_fmtH, hh.1]
  generalize fmtH h = t at *
  have hm0 : 0 ≤ (at_ % 18446744073709551616) % 64 := Int.emod_nonneg _ (by omega)
  have hm1 : (at_ % 18446744073709551616) % 64 < 64 := Int.emod_lt_of_pos _ (by omega)
  generalize (at_ % 18446744073709551616) % 64 = q at *
  generalize (how % 18446744073709551616) % 3 = r at *
  simp only [bind_some', brR_and, brR_dec, append_def]
  rw [w_i64 (n := q + 1) (by omega) (by omega)]
  have any : ∀ t : List Int, t.length ≤ 1000000000 → sol_hash_Parse (t, ()) = sol_ref7_Parse (t, ()) := fun t ht => by rw [parse_eq t ht, rparse_eq t ht]
  have g1 : 0 ≤ q := hm0
  have g2 : q ≤ (t.length : Int) := by omega
  have g3 : 0 ≤ q + 1 := by omega
  have g4 : q + 1 ≤ (t.length : Int) := by omega
  simp only [if_pos g1, if_pos g2, if_pos g3, if_pos g4]
  have l1 : (List.take (q.toNat - 0) (List.drop 0 t)).length ≤ 64 := by rw [List.length_take]; omega
  have l2 : ∀ k : Nat, (List.take (t.length - k) (List.drop k t)).length ≤ 64 := fun k => by rw [List.length_take]; omega
  by_cases r0 : r = 0
  · rw [if_pos r0, if_pos (by omega), if_pos (by have := l2 (q + 1).toNat; rw [List.length_append]; simp only [List.length_singleton]; omega)]
    rw [parse_eq _ (by have := l2 (q + 1).toNat; simp only [List.length_append, List.length_singleton]; omega), rparse_eq _ (by have := l2 (q + 1).toNat; simp only [List.length_append, List.length_singleton]; omega)]
    simp only [bind_some', eqD_h32, decide_true, brR_true, if_true]
    exact ⟨_, rfl, rfl⟩
  · rw [if_neg r0]
    by_cases r1 : r = 1
    · rw [if_pos r1, if_pos (by omega), if_pos (by have := l2 q.toNat; rw [List.length_append]; simp only [List.length_singleton]; omega)]
      rw [parse_eq _ (by have := l2 q.toNat; simp only [List.length_append, List.length_singleton]; omega), rparse_eq _ (by have := l2 q.toNat; simp only [List.length_append, List.length_singleton]; omega)]
      simp only [bind_some', eqD_h32, decide_true, brR_true, if_true]
      exact ⟨_, rfl, rfl⟩
    · rw [if_neg r1, if_pos (by have := l2 (q + 1).toNat; omega)]
      rw [parse_eq _ (by have := l2 (q + 1).toNat; simp only [List.length_append]; omega), rparse_eq _ (by have := l2 (q + 1).toNat; simp only [List.length_append]; omega)]
      simp only [bind_some', eqD_h32, decide_true, brR_true, if_true]
      exact ⟨_, rfl, rfl⟩

theorem law_HashParse : ∀ x, wfL s_law7_HashParse.ins x → ∃ y, sol_law7_HashParse x = some y ∧ y.1.1 = true :=
  fun ⟨s, h, a, c, w, _⟩ ⟨hs, hh, ha, hc, hw, _⟩ => law_HashParse_at s h a c w trivial (h32_wf hh) (inK_i64.1 ha) (inK_i64.1 hw)

theorem law_HashPadding_at (n x : Int) (row : Bool) (hn : -9223372036854775808 ≤ n ∧ n ≤ 9223372036854775807) (hx : 0 ≤ x ∧ x ≤ 255) : ∃ z, sol_law7_HashPadding (n, (x, (row, ()))) = some z ∧ z.1.1 = true := by
  unfold sol_law7_HashPadding T_law7_HashPadding
  simp only
  rw [mod_eq hn.1 hn.2 (by omega) (by omega)]
  have hm0 : 0 ≤ (n % 18446744073709551616) % 300 := Int.emod_nonneg _ (by omega)
  have hm1 : (n % 18446744073709551616) % 300 < 300 := Int.emod_lt_of_pos _ (by omega)
  generalize (n % 18446744073709551616) % 300 = q at *
  simp only [bind_some', brR_and, brR_dec]
  rw [if_pos hm0, if_pos (by omega), brR_room8 (by omega), brR_true]
  refine ⟨_, bigLoop_rule (I := fun y => y.1 = x ∧ y.2.1 = row ∧ (0 : Int) ≤ y.2.2.2.1 ∧ y.2.2.2.1 ≤ q ∧ (y.2.2.1.length : Int) = q ∧ Bytes y.2.2.1) (m := fun y => (q - y.2.2.2.1).toNat) (g := fun _ => some ((true, ()), ((), ((), ((), ()))))) ?_
    ⟨rfl, rfl, by simp only; omega, by simp only; omega, by simp; omega, fun y hy => by rw [List.eq_of_mem_replicate hy]; omega⟩ (by simp only [bigN_eq]; omega), rfl⟩
  rintro ⟨x', row', b, i, _⟩ again ⟨e0, e1, e2, e3, e4, e5⟩ hag
  simp only at e0 e1 e2 e3 e4 e5 hag ⊢
  subst e0 e1
  obtain ⟨i, rfl⟩ := Int.eq_ofNat_of_zero_le e2
  simp only [T_law7_HashPadding_loop0, brR_dec, brR_inR, Int.toNat_natCast]
  have bset : ∀ {l : List Int} {k : Nat} {z : Int}, Bytes l → 0 ≤ z ∧ z ≤ 255 → Bytes (l.set k z) := fun hl hz y hy => by
    rcases List.mem_or_eq_of_mem_set hy with h | rfl
    · exact hl y h
    · exact hz
  by_cases hi : (i : Int) < q
  · have hw : 0 ≤ IntKind.wrap .u8 (x' + IntKind.wrap .u8 (i : Int)) ∧ IntKind.wrap .u8 (x' + IntKind.wrap .u8 (i : Int)) ≤ 255 := by simp only [IntKind.wrap_u8]; omega
    rw [if_pos (by omega), if_pos (by omega), w_i64 (by omega) (by omega)]
    cases row'
    · rw [brR_false]
      exact hag _ ⟨rfl, rfl, by simp only; omega, by simp only; omega, by simp only [List.length_set]; omega, bset e5 hx⟩ (by simp only; omega)
    · rw [brR_true, if_pos (by rw [List.length_set]; omega)]
      exact hag _ ⟨rfl, rfl, by simp only; omega, by simp only; omega, by simp only [List.length_set]; omega, bset (bset e5 hx) hw⟩ (by simp only; omega)
  · rw [if_neg (by omega), sum_eq e5 (by omega), rsum_eq e5 (by omega), awake7]
    simp only [bind_some', eqD_h32, decide_true, brR_true]

theorem law_HashPadding : ∀ x, wfL s_law7_HashPadding.ins x → ∃ y, sol_law7_HashPadding x = some y ∧ y.1.1 = true :=
  fun ⟨n, x, row, _⟩ ⟨hn, hx, hr, _⟩ => law_HashPadding_at n x row (inK_i64.1 hn) (inK_u8.1 hx)

theorem law_HashPure_at (b m : List Int) (c : Int) (hb : Bytes b) (hm : Bytes m) (hc : -9223372036854775808 ≤ c ∧ c ≤ 9223372036854775807) : ∃ z, sol_law7_HashPure (b, (m, (c, ()))) = some z ∧ z.1.1 = true := by
  unfold sol_law7_HashPure T_law7_HashPure
  simp only [letR_eq, append_def]
  rw [awake7]
  simp only [brR_dec, bind_some']
  by_cases c1 : (List.length b : Int) > 300
  · rw [if_pos c1]; exact ⟨_, rfl, rfl⟩
  rw [if_neg c1]
  by_cases c2 : (List.length m : Int) > 300
  · rw [if_pos c2]; exact ⟨_, rfl, rfl⟩
  have hl : (b ++ m).length = b.length + m.length := List.length_append
  rw [if_neg c2, w_i64 (n := ((b ++ m).length : Int) + 1) (by omega) (by omega), mod_eq hc.1 hc.2 (by omega) (by omega)]
  have hbm := hb.append hm
  have hm0 : 0 ≤ (c % 18446744073709551616) % (((b ++ m).length : Int) + 1) := Int.emod_nonneg _ (by omega)
  have hm1 : (c % 18446744073709551616) % (((b ++ m).length : Int) + 1) < ((b ++ m).length : Int) + 1 := Int.emod_lt_of_pos _ (by omega)
  generalize (c % 18446744073709551616) % (((b ++ m).length : Int) + 1) = q at *
  have ht : Bytes (List.take (q.toNat - 0) (List.drop 0 (b ++ m))) := (hbm.drop 0).take _
  have htl : (List.take (q.toNat - 0) (List.drop 0 (b ++ m))).length ≤ 600 := by rw [List.length_take, List.length_drop]; omega
  have g1 : 0 ≤ q := hm0
  have g2 : q ≤ ((b ++ m).length : Int) := by omega
  simp only [bind_some', brR_and, brR_dec, if_pos g1, if_pos g2]
  rw [brR_room8 (by omega), brR_room8 (by omega), sum_eq ht (by omega), leaf_eq ht (by omega)]
  simp only [bind_some', equalBytes_eq, decide_true, brR_true, eqD_h32, brR_room8 (show 0 + (List.take (q.toNat - 0) (List.drop 0 (b ++ m))).length ≤ 1099511627776 by omega), brR_room8 (show 0 + b.length ≤ 1099511627776 by omega), brR_room8 (show b.length + m.length ≤ 1099511627776 by omega)]
  exact ⟨_, rfl, rfl⟩

theorem law_HashPure : ∀ x, wfL s_law7_HashPure.ins x → ∃ y, sol_law7_HashPure x = some y ∧ y.1.1 = true :=
  fun ⟨b, m, c, _⟩ ⟨hb, hm, hc, _⟩ => law_HashPure_at b m c (bytes_wf hb) (bytes_wf hm) (inK_i64.1 hc)

end Go.Pon
