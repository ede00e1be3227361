/-
  Part of a proof: general lemmas, merged by a program of this work.
-/
import Derived.Test.YtjmklfjcomjdeaaPLedgerLoad1
set_option autoImplicit false
set_option linter.unusedVariables false
set_option linter.unusedSimpArgs false
namespace Go.Pon
open Go
structure RefInv (m : List AccT) : Prop where
  dist : Dist m
  all : AllA m
def atA : List AccT → Int → Nat → Int
  | [], _, _ => -1
  | x :: m, a, k => if x.1 = a then ((k : Nat) : Int) else atA m a (k + 1)
theorem atA_cons (x : AccT) (m : List AccT) (a : Int) (k : Nat) : atA (x :: m) a k = if x.1 = a then ((k : Nat) : Int) else atA m a (k + 1) := rfl
theorem isE_iff {x : AccT} (h : AccW x) : isE x ↔ val4 x.2.1 = 0 ∧ x.2.2.1 = 0 := by
  obtain ⟨h1, h2, h3⟩ := h
  unfold isE
  simp only [Prod.mk.injEq, true_and, and_true]
  rw [← lim0, lim_inj, val4_lim]
theorem isZero_acc {x : AccT} (h : AccW x) : sol_ref1_IsZero (x.2.1, ()) = some ((decide (val4 x.2.1 = 0), ()), ((), ())) := by
  obtain ⟨h1, h2, h3⟩ := h
  simp only
  rw [isZero_eq, val4_lim]
theorem atA_spec (a : Int) : ∀ (m : List AccT) (k : Nat), (atA m a k = -1 ∧ (∀ x ∈ m, x.1 ≠ a) ∧ ∀ y : AccT, y.1 = a → mput m y = m ++ [y]) ∨
    ∃ j, j < m.length ∧ atA m a k = ((k + j : Nat) : Int) ∧ m.getD j zAcc = lget m a ∧ ∀ y : AccT, y.1 = a → mput m y = m.set j y
  | [], k => .inl ⟨rfl, fun x h => by simp at h, fun y _ => rfl⟩
  | x :: m, k => by
    unfold atA
    by_cases h : x.1 = a
    · rw [if_pos h]
      refine .inr ⟨0, by simp, rfl, ?_, fun y hy => ?_⟩
      · simp only [lget]; rw [if_pos h]; rfl
      · unfold mput; rw [if_pos (by omega)]; rfl
    · rw [if_neg h]
      rcases atA_spec a m (k + 1) with ⟨h1, h2, h3⟩ | ⟨j, h1, h2, h3, h4⟩
      · refine .inl ⟨h1, fun y hy => ?_, fun y hy => ?_⟩
        · rcases List.mem_cons.1 hy with rfl | hy
          · exact h
          · exact h2 y hy
        · unfold mput; rw [if_neg (by omega), h3 y hy]; rfl
      · refine .inr ⟨j + 1, by simpa using h1, by rw [h2]; omega, ?_, fun y hy => ?_⟩
        · simp only [lget]; rw [if_neg h]; exact h3
        · unfold mput; rw [if_neg (by omega), h4 y hy]; rfl
theorem dropA_cons {l : List AccT} {i : Nat} (h : i < l.length) : l.drop i = l.getD i zAcc :: l.drop (i + 1) := by
  rw [List.drop_eq_getElem_cons h, List.getD_eq_getElem?_getD, List.getElem?_eq_getElem h]
  rfl
theorem rat_eq {m : List AccT} {v : List (List Int)} {a : Int} (hl : m.length ≤ 1000000) :
    sol_ref11_Ledger_at ((m, (v, ())), (a, ())) = some ((atA m a 0, ()), ((m, (v, ())), ((), ()))) := by
  unfold sol_ref11_Ledger_at T_ref11_Ledger_at
  refine bigLoop_rule (I := fun x => ∃ i : Nat, i ≤ m.length ∧ atA m a 0 = atA (m.drop i) a i ∧ x = ((m, (v, ())), (a, (((i : Nat) : Int), ())))) (m := fun x => (((m.length : Nat) : Int) - x.2.2.1).toNat)
    (g := fun _ => some ((atA m a 0, ()), ((m, (v, ())), ((), ())))) ?_ ⟨0, by omega, rfl, rfl⟩ (by rw [bigN_eq]; simp only; omega)
  rintro x again ⟨i, hi, hf, rfl⟩ hag
  simp only at hag ⊢
  unfold T_ref11_Ledger_at_loop0
  rw [zA_eq]
  simp only [letR_eq, brR_dec, brR_inR]
  by_cases h1 : ((i : Nat) : Int) < ((m.length : Nat) : Int)
  · have hil : i < m.length := by omega
    rw [if_pos h1, if_pos (by omega), Int.toNat_natCast]
    rw [dropA_cons hil, atA_cons] at hf
    by_cases he : (m.getD i zAcc).1 = a
    · rw [if_pos he] at hf ⊢
      rw [hf]
    · rw [if_neg he] at hf ⊢
      rw [w_i64 (by omega) (by omega)]
      exact hag _ ⟨i + 1, by omega, hf, by rw [Int.natCast_add]; rfl⟩ (by simp only; omega)
  · rw [if_neg h1]
    rw [List.drop_of_length_le (by omega)] at hf
    rw [hf]
    rfl
theorem rget_eq {m : List AccT} {v : List (List Int)} {a : Int} (hl : m.length ≤ 1000000) :
    sol_ref11_Ledger_Get ((m, (v, ())), (a, ())) = some ((lget m a, ()), ((m, (v, ())), ((), ()))) := by
  unfold sol_ref11_Ledger_Get T_ref11_Ledger_Get
  simp only
  rw [rat_eq hl]
  simp only [bind_some', brR_dec, brR_inR]
  rcases atA_spec a m 0 with ⟨h1, h2, _⟩ | ⟨j, h1, h2, h3, _⟩
  · rw [h1, if_neg (by omega), lget_absent h2]
  · rw [h2, if_pos (by omega), if_pos (by omega), Int.toNat_natCast, Nat.zero_add, h3]
theorem rput_eq {m : List AccT} {v : List (List Int)} {y : AccT} (hl : m.length ≤ 900000) :
    sol_ref11_Ledger_put ((m, (v, ())), (y, ())) = some ((), ((mput m y, (v, ())), ((), ()))) := by
  unfold sol_ref11_Ledger_put T_ref11_Ledger_put
  simp only
  rw [rat_eq (by omega)]
  simp only [bind_some', letR_eq, brR_dec, brR_inR]
  rcases atA_spec y.1 m 0 with ⟨h1, _, h2⟩ | ⟨j, h1, h2, _, h3⟩
  · rw [h1, if_neg (by omega), roomyA (by omega), brR_true, h2 y rfl, append_def]
  · rw [h2, if_pos (by omega), if_pos (by omega), Int.toNat_natCast, Nat.zero_add, h3 y rfl]
theorem dg_len' {n : Nat} (h : n < 115792089237316195423570985008687907853269984665640564039457584007913129639936 * 1048576) : (dg n).length ≤ 1000 := by
  have h18 : (dg n).length ≤ 18 := dg_len_le.2 (Nat.div_eq_of_lt (Nat.lt_of_lt_of_le h (by decide)))
  omega
theorem sum_take_le {m : List AccT} (ha : AllA m) (i : Nat) : sumL (m.take i) ≤ i * 115792089237316195423570985008687907853269984665640564039457584007913129639936 := by
  induction i with
  | zero => rw [List.take_zero, sumL_nil]; exact Nat.zero_le _
  | succ i ih =>
    rcases Nat.lt_or_ge i m.length with h | h
    · have e : sumL (m.take (i + 1)) = sumL (m.take i) + val4 (m.getD i zAcc).2.1 := by rw [take_succ' (d := zAcc) h, sumL_append, sumL_cons, sumL_nil, Nat.add_zero]
      have h2 : val4 (m.getD i zAcc).2.1 < 115792089237316195423570985008687907853269984665640564039457584007913129639936 := by
        have hw := ha.at i
        generalize m.getD i zAcc = y at hw
        obtain ⟨h1, h2, h3⟩ := hw
        simp only [val4_lim]
        exact h2
      generalize val4 (m.getD i zAcc).2.1 = q at e h2
      omega
    · have e1 : m.take i = m := List.take_of_length_le (by omega)
      have e2 : m.take (i + 1) = m := List.take_of_length_le (by omega)
      rw [e1] at ih
      have := congrArg sumL e2
      omega
theorem vs_take_le {vs : List Nat} (hlen : vs.length = 4) (hb : ∀ n ∈ vs, B256 n) {i : Nat} : i ≤ 4 → (vs.take i).sum ≤ i * 115792089237316195423570985008687907853269984665640564039457584007913129639936 := by
  induction i with
  | zero => intro _; rw [List.take_zero, List.sum_nil]; exact Nat.zero_le _
  | succ i ih =>
    intro hi
    have e : (vs.take (i + 1)).sum = (vs.take i).sum + vs.getD i 0 := by rw [take_succ' (d := 0) (by omega), List.sum_append, List.sum_singleton]
    have h1 := hb _ (getD_mem (l := vs) (i := i) (d := 0) (by omega))
    have h2 := ih (by omega)
    unfold B256 at h1
    omega
theorem rsupply_gen {m : List AccT} {vs : List Nat} (ha : AllA m) (hl : m.length ≤ 100000) (hlen : vs.length = 4) (hb : ∀ n ∈ vs, B256 n) :
    sol_ref11_Ledger_Supply ((m, (vs.map lim, ())), ()) = some ((dg (sumL m + vs.sum), ()), ((m, (vs.map lim, ())), ())) := by
  have hbound := sum_take_le ha
  have hvb := fun i (hi : i ≤ 4) => vs_take_le hlen hb hi
  unfold sol_ref11_Ledger_Supply T_ref11_Ledger_Supply
  refine bigLoop_rule (I := fun x => ∃ i : Nat, i ≤ m.length ∧ x = ((m, (vs.map lim, ())), (dg (sumL (m.take i)), (((i : Nat) : Int), ())))) (m := fun x => (((m.length : Nat) : Int) - x.2.2.1).toNat)
    (g := fun _ => some ((dg (sumL m + vs.sum), ()), ((m, (vs.map lim, ())), ()))) ?_ ⟨0, by omega, by rw [List.take_zero, sumL_nil, dg_zero]; rfl⟩ (by rw [bigN_eq]; simp only; omega)
  rintro x again ⟨i, hi, rfl⟩ hag
  simp only at hag ⊢
  unfold T_ref11_Ledger_Supply_loop0
  rw [zA_eq]
  simp only [letR_eq, brR_dec, brR_inR]
  by_cases h : ((i : Nat) : Int) < ((m.length : Nat) : Int)
  · have hs : sumL (m.take (i + 1)) = sumL (m.take i) + val4 (m.getD i zAcc).2.1 := by
      rw [take_succ' (d := zAcc) (by omega), sumL_append, sumL_cons, sumL_nil, Nat.add_zero]
    have hbi := hbound i
    rw [if_pos h, if_pos (by omega), Int.toNat_natCast]
    have hw := ha.at i
    generalize m.getD i zAcc = y at hw hs ⊢
    obtain ⟨h1, h2, h3⟩ := hw
    simp only at hs ⊢
    rw [val4_lim] at hs
    unfold B256 at h2
    rw [from_eq h2]
    simp only [bind_some']
    rw [add_loop_eq (dg_len' (by omega)) (dg_len' (by omega)), ← hs, w_i64 (by omega) (by omega)]
    simp only [bind_some']
    exact hag _ ⟨i + 1, by omega, by rw [Int.natCast_add]; rfl⟩ (by simp only; omega)
  · rw [if_neg h]
    have hbm := hbound m.length
    rw [List.take_of_length_le (by omega)] at hbm ⊢
    refine bigLoop_rule (I := fun x => ∃ i : Nat, i ≤ 4 ∧ x = ((m, (vs.map lim, ())), (dg (sumL m + (vs.take i).sum), (((i : Nat) : Int), ())))) (m := fun x => ((4 : Int) - x.2.2.1).toNat)
      (g := fun _ => some ((dg (sumL m + vs.sum), ()), ((m, (vs.map lim, ())), ()))) ?_ ⟨0, by omega, by rw [List.take_zero, List.sum_nil, Nat.add_zero]; rfl⟩ (by rw [bigN_eq]; simp only; omega)
    rintro x again2 ⟨k, hk, rfl⟩ hag2
    simp only at hag2 ⊢
    unfold T_ref11_Ledger_Supply_loop1
    simp only [letR_eq, brR_dec, brR_inR]
    by_cases h : ((k : Nat) : Int) < 4
    · have hm : vs.getD k 0 ∈ vs := getD_mem (by omega)
      have ht : (vs.take (k + 1)).sum = (vs.take k).sum + vs.getD k 0 := by rw [take_succ' (d := 0) (by omega), List.sum_append, List.sum_singleton]
      have h2 := hb _ hm
      have hvk := hvb k (by omega)
      unfold B256 at h2
      rw [if_pos h, if_pos (by omega), Int.toNat_natCast, vget_eq, from_eq h2]
      simp only [bind_some']
      rw [add_loop_eq (dg_len' (by omega)) (dg_len' (by omega)), w_i64 (by omega) (by omega)]
      simp only [bind_some']
      exact hag2 _ ⟨k + 1, by omega, by rw [ht, Nat.add_assoc, Int.natCast_add]; rfl⟩ (by simp only; omega)
    · rw [if_neg h, List.take_of_length_le (by omega)]
theorem rsupply_eq {m : List AccT} {vs : List Nat} (hr : RefInv m) (h : LInv (isort m) vs) (hl : m.length ≤ 100000) :
    sol_ref11_Ledger_Supply ((m, (vs.map lim, ())), ()) = some ((dg (sumL (isort m) + vs.sum), ()), ((m, (vs.map lim, ())), ())) := by
  rw [rsupply_gen hr.all hl h.len h.vB, sum_isort hr.dist]
theorem rbal {m : List AccT} (h : Dist m) (a : Int) : lget m a = lget (isort m) a := (lget_isort h a).symm
theorem RefInv.put {m : List AccT} {y : AccT} (h : RefInv m) (hy : AccW y) : RefInv (mput m y) := ⟨dist_mput h.dist, all_mput h.all hy⟩
theorem rcredit_eq {m : List AccT} {v : List (List Int)} {a : Int} {n : Nat} (h : RefInv m) (hl : m.length ≤ 100000) (hu : U64 a) (hn : B256 n) (hb : B256 (bal (isort m) a + n)) :
    ∃ m', sol_ref11_Ledger_credit ((m, (v, ())), (a, (lim n, ()))) = some ((), ((m', (v, ())), ((), ((), ())))) ∧ RefInv m' ∧ isort m' = crd (isort m) a n ∧ m'.length ≤ m.length + 1 := by
  obtain ⟨e, hb1, hn1⟩ := lget_mk (all_isort h.all) hu
  refine ⟨mput m (a, (lim (bal (isort m) a + n), (non (isort m) a, ()))), ?_, h.put (AccW.mk hu hb hn1), isort_mput h.dist, len_mput _ _⟩
  unfold sol_ref11_Ledger_credit T_ref11_Ledger_credit
  simp only
  rw [rget_eq (by omega), rbal h.dist]
  simp only [bind_some']
  have e1 : (lget (isort m) a).2.1 = lim (bal (isort m) a) := by rw [e]
  have e2 : (lget (isort m) a).2.2 = (non (isort m) a, ()) := by rw [e]
  unfold B256 at hb1 hn hb
  rw [e1, lget_fst, e2, from_eq hb1]
  simp only [bind_some']
  rw [from_eq hn]
  simp only [bind_some']
  rw [add_loop_eq (dg_len' (by omega)) (dg_len' (by omega))]
  simp only [bind_some']
  rw [to_eq hb]
  simp only [bind_some']
  rw [rput_eq (by omega)]
  rfl
theorem rdebit_ok {m : List AccT} {v : List (List Int)} {a : Int} {n : Nat} (h : RefInv m) (hl : m.length ≤ 100000) (hu : U64 a) (hn : B256 n) (hb : n ≤ bal (isort m) a) :
    ∃ m', sol_ref11_Ledger_debit ((m, (v, ())), (a, (lim n, ()))) = some ((true, ()), ((m', (v, ())), ((), ((), ())))) ∧ RefInv m' ∧ isort m' = deb (isort m) a n ∧ m'.length ≤ m.length + 1 := by
  obtain ⟨e, hb1, hn1⟩ := lget_mk (all_isort h.all) hu
  refine ⟨mput m (a, (lim (bal (isort m) a - n), (non (isort m) a, ()))), ?_, h.put (AccW.mk hu (by unfold B256 at *; omega) hn1), isort_mput h.dist, len_mput _ _⟩
  unfold sol_ref11_Ledger_debit T_ref11_Ledger_debit
  simp only
  rw [rget_eq (by omega), rbal h.dist]
  simp only [bind_some']
  have e1 : (lget (isort m) a).2.1 = lim (bal (isort m) a) := by rw [e]
  have e2 : (lget (isort m) a).2.2 = (non (isort m) a, ()) := by rw [e]
  unfold B256 at hb1 hn
  rw [e1, lget_fst, e2, sub256_eq hb1 hn, if_pos hb]
  simp only [bind_some', brR_not, brR_dec, if_true]
  rw [rput_eq (by omega)]
  rfl
theorem rdebit_bad {m : List AccT} {v : List (List Int)} {a : Int} {n : Nat} (h : RefInv m) (hl : m.length ≤ 100000) (hu : U64 a) (hn : B256 n) (hb : bal (isort m) a < n) :
    sol_ref11_Ledger_debit ((m, (v, ())), (a, (lim n, ()))) = some ((false, ()), ((m, (v, ())), ((), ((), ())))) := by
  obtain ⟨e, hb1, hn1⟩ := lget_mk (all_isort h.all) hu
  unfold sol_ref11_Ledger_debit T_ref11_Ledger_debit
  simp only
  rw [rget_eq (by omega), rbal h.dist]
  simp only [bind_some']
  have e1 : (lget (isort m) a).2.1 = lim (bal (isort m) a) := by rw [e]
  unfold B256 at hb1 hn
  rw [e1, sub256_eq hb1 hn, if_neg (by omega)]
  simp only [bind_some', brR_not, brR_dec]
  rw [if_neg (by decide)]
abbrev ROut (m : List AccT) (r : Int × (List AccT × List Nat)) (m' : List AccT) : Prop := RefInv m' ∧ isort m' = r.2.1 ∧ m'.length ≤ m.length + 2
theorem rmint_eq {m : List AccT} {vs : List Nat} {a : Int} {n : Nat} (hr : RefInv m) (h : LInv (isort m) vs) (hl : m.length ≤ 90000) (hu : U64 a) (hn : B256 n) :
    ∃ m', sol_ref11_Ledger_Mint ((m, (vs.map lim, ())), (a, (lim n, ()))) = some (((mintS (isort m) vs a n).1, ()), ((m', ((mintS (isort m) vs a n).2.2.map lim, ())), ((), ((), ())))) ∧ ROut m (mintS (isort m) vs a n) m' := by
  unfold sol_ref11_Ledger_Mint T_ref11_Ledger_Mint mintS ROut
  simp only [brR_dec]
  by_cases c : a = 0
  · simp only [if_pos c]; exact ⟨m, rfl, hr, rfl, by omega⟩
  simp only [if_neg c]
  rw [rsupply_eq hr h (by omega)]
  have hs := h.sum
  simp only [bind_some']
  unfold B256 at hn
  rw [from_eq hn]
  simp only [bind_some']
  rw [add_loop_eq (dg_len' (by omega)) (dg_len' (by omega))]
  simp only [bind_some']
  rw [fits_eq]
  simp only [bind_some', brR_not, brR_dec]
  by_cases c2 : sumL (isort m) + vs.sum + n < 115792089237316195423570985008687907853269984665640564039457584007913129639936
  · simp only [if_pos c2]
    obtain ⟨m', e, h1, h2, h3⟩ := rcredit_eq (v := vs.map lim) hr (by omega) hu hn (by have := bal_le (isort m) a; unfold B256; omega)
    rw [e]
    exact ⟨m', rfl, h1, h2, by omega⟩
  · simp only [if_neg c2]
    exact ⟨m, rfl, hr, rfl, by omega⟩
theorem rtransfer_eq {m : List AccT} {vs : List Nat} {a b : Int} {n : Nat} (hr : RefInv m) (h : LInv (isort m) vs) (hl : m.length ≤ 90000) (hu : U64 a) (hub : U64 b) (hn : B256 n) :
    ∃ m', sol_ref11_Ledger_Transfer ((m, (vs.map lim, ())), (a, (b, (lim n, ())))) = some (((transS (isort m) vs a b n).1, ()), ((m', ((transS (isort m) vs a b n).2.2.map lim, ())), ((), ((), ((), ()))))) ∧ ROut m (transS (isort m) vs a b n) m' := by
  unfold sol_ref11_Ledger_Transfer T_ref11_Ledger_Transfer transS ROut
  simp only [brR_dec]
  by_cases c : a = 0
  · simp only [if_pos c, if_pos (show a = 0 ∨ b = 0 from .inl c)]; exact ⟨m, rfl, hr, rfl, by omega⟩
  by_cases c1 : b = 0
  · simp only [if_neg c, if_pos c1, if_pos (show a = 0 ∨ b = 0 from .inr c1)]; exact ⟨m, rfl, hr, rfl, by omega⟩
  have c2 : ¬ (a = 0 ∨ b = 0) := by omega
  simp only [if_neg c, if_neg c1, if_neg c2]
  have hsum := h.sum
  by_cases c3 : n ≤ bal (isort m) a
  · have hs := sum_deb h.srt c3
    have hle := bal_le (deb (isort m) a n) b
    simp only [if_pos c3]
    obtain ⟨m', e, h1, h2, h3⟩ := rdebit_ok (v := vs.map lim) hr (by omega) hu hn c3
    rw [e]
    simp only [bind_some', brR_not, brR_true]
    obtain ⟨m2, e2, g1, g2, g3⟩ := rcredit_eq (v := vs.map lim) h1 (by omega) hub hn (by rw [h2]; unfold B256; omega)
    rw [e2]
    exact ⟨m2, rfl, g1, by rw [g2, h2], by omega⟩
  · simp only [if_neg c3]
    rw [rdebit_bad hr (by omega) hu hn (by omega)]
    exact ⟨m, rfl, hr, rfl, by omega⟩
theorem rpay_eq {m : List AccT} {vs : List Nat} {a v : Int} {n : Nat} (hr : RefInv m) (h : LInv (isort m) vs) (hl : m.length ≤ 90000) (hu : U64 a) (hn : B256 n) (hv : -9223372036854775808 ≤ v ∧ v ≤ 9223372036854775807) :
    ∃ m', sol_ref11_Ledger_PayVault ((m, (vs.map lim, ())), (a, (v, (lim n, ())))) = some (((payS (isort m) vs a v n).1, ()), ((m', ((payS (isort m) vs a v n).2.2.map lim, ())), ((), ((), ((), ()))))) ∧ ROut m (payS (isort m) vs a v n) m' := by
  unfold sol_ref11_Ledger_PayVault T_ref11_Ledger_PayVault payS ROut
  simp only [letR_eq, brR_dec]
  by_cases c : a = 0
  · simp only [if_pos c, if_pos (show a = 0 ∨ ¬ (1 ≤ v ∧ v ≤ 4) from .inl c)]; exact ⟨m, rfl, hr, rfl, by omega⟩
  by_cases c1 : 1 ≤ v ∧ v ≤ 4
  case neg =>
    simp only [if_neg c, if_pos (show a = 0 ∨ ¬ (1 ≤ v ∧ v ≤ 4) from .inr c1)]
    refine ⟨m, ?_, hr, rfl, by omega⟩
    by_cases d : v < 1
    · rw [if_pos d]
    · rw [if_neg d, if_pos (by omega)]
  have c2 : ¬ (a = 0 ∨ ¬ (1 ≤ v ∧ v ≤ 4)) := fun h => h.elim c (fun h => h c1)
  simp only [if_neg c, if_neg c2]
  rw [if_neg (by omega), if_neg (by omega)]
  have hsum := h.sum
  have hlen := h.len
  by_cases c3 : n ≤ bal (isort m) a
  · simp only [if_pos c3]
    obtain ⟨m', e, h1, h2, h3⟩ := rdebit_ok (v := vs.map lim) hr (by omega) hu hn c3
    rw [e]
    simp only [bind_some', brR_not, brR_true, brR_inR]
    have hw : IntKind.wrap .i64 (v - 1) = v - 1 := w_i64 (by omega) (by omega)
    have hx : (v - 1).toNat = vix v := rfl
    have hg := vget_le vs (vix v)
    have hbl := bal_le (isort m) a
    unfold B256 at hn
    rw [hw, hx, if_pos (by omega), vget_eq, from_eq (by omega)]
    simp only [bind_some']
    rw [from_eq hn]
    simp only [bind_some']
    rw [add_loop_eq (dg_len' (by omega)) (dg_len' (by omega))]
    simp only [bind_some']
    rw [to_eq (by omega)]
    simp only [bind_some']
    rw [if_pos (by omega), ← List.map_set]
    exact ⟨m', rfl, h1, h2, by omega⟩
  · simp only [if_neg c3]
    rw [rdebit_bad hr (by omega) hu hn (by omega)]
    exact ⟨m, rfl, hr, rfl, by omega⟩
theorem rwithdraw_eq {m : List AccT} {vs : List Nat} {a : Int} {n : Nat} (hr : RefInv m) (h : LInv (isort m) vs) (hl : m.length ≤ 90000) (hu : U64 a) (hn : B256 n) :
    ∃ m', sol_ref11_Ledger_Withdraw ((m, (vs.map lim, ())), (a, (lim n, ()))) = some (((wdS (isort m) vs a n).1, ()), ((m', ((wdS (isort m) vs a n).2.2.map lim, ())), ((), ((), ())))) ∧ ROut m (wdS (isort m) vs a n) m' := by
  unfold sol_ref11_Ledger_Withdraw T_ref11_Ledger_Withdraw wdS ROut
  simp only [brR_dec]
  by_cases c : a = 0
  · simp only [if_pos c]; exact ⟨m, rfl, hr, rfl, by omega⟩
  simp only [if_neg c]
  by_cases c3 : n ≤ bal (isort m) a
  · simp only [if_pos c3]
    obtain ⟨m', e, h1, h2, h3⟩ := rdebit_ok (v := vs.map lim) hr (by omega) hu hn c3
    rw [e]
    exact ⟨m', rfl, h1, h2, by omega⟩
  · simp only [if_neg c3]
    rw [rdebit_bad hr (by omega) hu hn (by omega)]
    exact ⟨m, rfl, hr, rfl, by omega⟩
theorem rwv_eq {m : List AccT} {vs : List Nat} {v : Int} {n : Nat} (hr : RefInv m) (h : LInv (isort m) vs) (hn : B256 n) (hv : -9223372036854775808 ≤ v ∧ v ≤ 9223372036854775807) :
    ∃ m', sol_ref11_Ledger_WithdrawVault ((m, (vs.map lim, ())), (v, (lim n, ()))) = some (((wvS (isort m) vs v n).1, ()), ((m', ((wvS (isort m) vs v n).2.2.map lim, ())), ((), ((), ())))) ∧ ROut m (wvS (isort m) vs v n) m' := by
  unfold sol_ref11_Ledger_WithdrawVault T_ref11_Ledger_WithdrawVault wvS ROut
  simp only [letR_eq, brR_dec]
  by_cases c1 : 1 ≤ v ∧ v ≤ 4
  case neg =>
    simp only [if_neg c1]
    refine ⟨m, ?_, hr, rfl, by omega⟩
    by_cases d : v < 1
    · rw [if_pos d]
    · rw [if_neg d, if_pos (by omega)]
  simp only [if_pos c1]
  rw [if_neg (by omega), if_neg (by omega)]
  have hw : IntKind.wrap .i64 (v - 1) = v - 1 := w_i64 (by omega) (by omega)
  have hx : (v - 1).toNat = vix v := rfl
  have hlen := h.len
  have hg := vget_le vs (vix v)
  have hsum := h.sum
  unfold B256 at hn
  simp only [brR_inR]
  rw [hw, hx, if_pos (by omega), vget_eq, sub256_eq (by omega) hn]
  simp only [bind_some', brR_not, brR_dec]
  by_cases c3 : n ≤ vs.getD (vix v) 0
  · simp only [if_pos c3, if_true]
    rw [if_pos (by omega), ← List.map_set]
    exact ⟨m, rfl, hr, rfl, by omega⟩
  · simp only [if_neg c3]
    rw [if_neg (by decide)]
    exact ⟨m, rfl, hr, rfl, by omega⟩
theorem rinc_eq {m : List AccT} {vs : List Nat} {a : Int} (hr : RefInv m) (h : LInv (isort m) vs) (hl : m.length ≤ 90000) (hu : U64 a) :
    ∃ m', sol_ref11_Ledger_IncrementNonce ((m, (vs.map lim, ())), (a, ())) = some (((incS (isort m) vs a).1, ()), ((m', ((incS (isort m) vs a).2.2.map lim, ())), ((), ()))) ∧ ROut m (incS (isort m) vs a) m' := by
  unfold sol_ref11_Ledger_IncrementNonce T_ref11_Ledger_IncrementNonce incS ROut
  simp only [brR_dec]
  by_cases c : a = 0
  · simp only [if_pos c]; exact ⟨m, rfl, hr, rfl, by omega⟩
  simp only [if_neg c]
  rw [rget_eq (by omega), rbal hr.dist]
  obtain ⟨e, hb1, hn1⟩ := lget_mk (all_isort hr.all) hu
  have e1 : (lget (isort m) a).2.1 = lim (bal (isort m) a) := by rw [e]
  have e3 : (lget (isort m) a).2.2.1 = non (isort m) a := rfl
  simp only [bind_some', letR_eq]
  rw [e3]
  unfold U64 at hn1
  by_cases c2 : non (isort m) a = 18446744073709551615
  · simp only [if_pos c2]
    rw [c2, if_pos (by decide)]
    exact ⟨m, rfl, hr, rfl, by omega⟩
  · simp only [if_neg c2]
    rw [w_u64 (by omega) (by omega), if_neg (by omega), lget_fst, e1, rput_eq (by omega)]
    have hlm := len_mput m (a, (lim (bal (isort m) a), (non (isort m) a + 1, ())))
    exact ⟨mput m (a, (lim (bal (isort m) a), (non (isort m) a + 1, ()))), rfl, hr.put (AccW.mk hu hb1 (by unfold U64; omega)), isort_mput hr.dist, by omega⟩
theorem lput_absent {l : List AccT} {y : AccT} (h : ∀ x ∈ l, x.1 ≠ y.1) : lput l y = if isE y then l else l.take (cntA l y.1) ++ (y :: l.drop (cntA l y.1)) := by
  rw [lput_cnt, if_neg]
  rintro ⟨h1, h2⟩
  exact h _ (getD_mem h1) h2
theorem racc_ins {m o : List AccT} {v : List (List Int)} {y : AccT} {i : Nat} {again0 : ((List AccT × (List (List Int) × Unit)) × (List AccT × (Int × Unit))) → Option ((List AccT × Unit) × (Unit × Unit))}
    (ho : Srt o) (hl : o.length ≤ 100000) (hi : i ≤ 100000) (hy : ¬ isE y) (ha : ∀ x ∈ o, x.1 ≠ y.1) :
    bigLoop _ _ (fun again x => T_ref11_Ledger_Accounts_loop1 again0 again x.1 x.2.1 x.2.2.1 x.2.2.2.1 x.2.2.2.2.1) ((m, (v, ())), (o, (((i : Nat) : Int), (y, (((o.length : Nat) : Int), ()))))) =
      again0 ((m, (v, ())), (lput o y, (((i + 1 : Nat) : Int), ()))) := by
  have hc := cntA_le y.1 o
  refine bigLoop_rule (I := fun x => ∃ k : Nat, cntA o y.1 ≤ k ∧ k ≤ o.length ∧ x = ((m, (v, ())), (o, (((i : Nat) : Int), (y, (((k : Nat) : Int), ())))))) (m := fun x => x.2.2.2.2.1.toNat)
    (g := fun _ => again0 ((m, (v, ())), (lput o y, (((i + 1 : Nat) : Int), ())))) ?_ ⟨o.length, hc, by omega, rfl⟩ (by rw [bigN_eq]; simp only; omega)
  rintro x again ⟨k, h1, h2, rfl⟩ hag
  simp only at hag ⊢
  unfold T_ref11_Ledger_Accounts_loop1
  rw [zAl_eq]
  simp only [letR_eq, brR_dec, brR_inR, brR_and]
  have fin : k = cntA o y.1 → (if True then (if (0 : Int) ≤ ((k : Nat) : Int) then (if ((k : Nat) : Int) ≤ ((o.length : Nat) : Int) then (if (0 : Int) ≤ ((k : Nat) : Int) then (if ((k : Nat) : Int) ≤ ((o.length : Nat) : Int) then
      (brR (roomy (1 + (List.take (o.length - (((k : Nat) : Int)).toNat) (List.drop (((k : Nat) : Int)).toNat o)).length) (.pair (.int .u64) (.pair (.arr 4 (.int .u64)) (.pair (.int .u64) .unit))))
        (if 0 < (List.append [y] (List.take (o.length - (((k : Nat) : Int)).toNat) (List.drop (((k : Nat) : Int)).toNat o))).length then
          (brR (roomy ((List.take ((((k : Nat) : Int)).toNat - 0) (List.drop 0 o)).length + (List.append [y] (List.take (o.length - (((k : Nat) : Int)).toNat) (List.drop (((k : Nat) : Int)).toNat o))).length) (.pair (.int .u64) (.pair (.arr 4 (.int .u64)) (.pair (.int .u64) .unit))))
            (again0 ((m, (v, ())), (List.append (List.take ((((k : Nat) : Int)).toNat - 0) (List.drop 0 o)) (List.append [y] (List.take (o.length - (((k : Nat) : Int)).toNat) (List.drop (((k : Nat) : Int)).toNat o))), (IntKind.wrap .i64 (((i : Nat) : Int) + 1), ()))))
            none) else none) none) else none) else none) else none) else none) else none) = again0 ((m, (v, ())), (lput o y, (((i + 1 : Nat) : Int), ()))) := fun hk => by
    have e1 : List.take (o.length - k) (List.drop k o) = List.drop k o := List.take_of_length_le (by rw [List.length_drop]; omega)
    have hlen : (List.take k o).length + (List.append [y] (List.drop k o)).length ≤ 1000000 := by
      rw [append_def]
      simp only [List.length_take, List.length_append, List.length_drop, List.length_singleton]
      omega
    rw [if_pos trivial, if_pos (by omega), if_pos (by omega), if_pos (by omega), if_pos (by omega), Int.toNat_natCast, e1, roomyA (by rw [List.length_drop]; omega), brR_true, if_pos (by simp [append_def]), Nat.sub_zero, List.drop_zero, roomyA hlen, brR_true, w_i64 (by omega) (by omega)]
    rw [lput_absent ha, if_neg hy, ← hk]
    rfl
  by_cases h : ((k : Nat) : Int) > 0
  · have hw : IntKind.wrap .i64 (((k : Nat) : Int) - 1) = ((k - 1 : Nat) : Int) := by rw [w_i64 (by omega) (by omega)]; omega
    rw [if_pos h, hw, Int.toNat_natCast, if_pos (by omega)]
    by_cases c : (o.getD (k - 1) zAcc).1 > y.1
    · rw [if_pos c]
      have : cntA o y.1 ≤ k - 1 := by
        rcases Nat.lt_or_ge (k - 1) (cntA o y.1) with h | h
        · have := cntA_lt h; omega
        · exact h
      exact hag _ ⟨k - 1, this, by omega, rfl⟩ (by simp only; omega)
    · rw [if_neg c]
      refine fin ?_
      rcases Nat.lt_or_ge (cntA o y.1) k with h3 | h3
      · have h4 := cntA_ge ho (a := y.1) (i := k - 1) (by omega) (by omega)
        exact absurd (show (o.getD (k - 1) zAcc).1 = y.1 by omega) (ha _ (getD_mem (by omega)))
      · omega
  · rw [if_neg h]
    exact fin (by omega)
theorem raccounts_eq {m : List AccT} {v : List (List Int)} (hr : RefInv m) (hl : m.length ≤ 90000) :
    sol_ref11_Ledger_Accounts ((m, (v, ())), ()) = some ((isort m, ()), ((), ())) := by
  unfold sol_ref11_Ledger_Accounts T_ref11_Ledger_Accounts
  refine bigLoop_rule (I := fun x => ∃ i : Nat, i ≤ m.length ∧ x = ((m, (v, ())), ((m.take i).foldl lput [], (((i : Nat) : Int), ())))) (m := fun x => (((m.length : Nat) : Int) - x.2.2.1).toNat)
    (g := fun _ => some ((isort m, ()), ((), ()))) ?_ ⟨0, by omega, rfl⟩ (by rw [bigN_eq]; simp only; omega)
  rintro x again ⟨i, hi, rfl⟩ hag
  simp only at hag ⊢
  unfold T_ref11_Ledger_Accounts_loop0
  rw [zAl_eq]
  simp only [letR_eq, brR_dec, brR_inR]
  by_cases h : ((i : Nat) : Int) < ((m.length : Nat) : Int)
  · have hil : i < m.length := by omega
    rw [if_pos h, if_pos (by omega), Int.toNat_natCast]
    have ht : (m.take (i + 1)).foldl lput [] = lput ((m.take i).foldl lput []) (m.getD i zAcc) := by
      rw [take_succ' (d := zAcc) hil, List.foldl_append]; rfl
    have hd : ∀ x ∈ (m.take i).foldl lput [], x.1 ≠ (m.getD i zAcc).1 := fun x hx => by
      have hx' := mem_isort hx
      have hd := hr.dist
      rw [← List.take_append_drop i m, dropA_cons hil] at hd
      exact (List.pairwise_append.1 hd).2.2 x hx' _ (by simp)
    have hs := srt_isort (m.take i)
    have hln : ((m.take i).foldl lput []).length ≤ 100000 := by
      have := len_fold (m.take i) []
      rw [List.length_take] at this
      simp only [List.length_nil] at this
      omega
    have hgo : again ((m, (v, ())), ((m.take (i + 1)).foldl lput [], (((i + 1 : Nat) : Int), ()))) = some ((isort m, ()), ((), ())) := hag _ ⟨i + 1, by omega, rfl⟩ (by simp only; omega)
    rw [ht] at hgo
    clear hag
    have hw := hr.all.at i
    unfold isort at hs
    generalize (m.take i).foldl lput [] = o at hd hs hln hgo ⊢
    have e := isE_iff hw
    have ez := isZero_acc hw
    clear hw
    generalize val4 (m.getD i zAcc).2.1 = q at e ez
    rw [ez, bind_some']
    dsimp only
    rw [brR_dec]
    generalize m.getD i zAcc = y at *
    by_cases c : isE y
    · rw [if_pos (e.1 c).1, if_pos (e.1 c).2, w_i64 (by omega) (by omega)]
      rw [lput_absent hd, if_pos c, Int.natCast_add] at hgo
      exact hgo
    · rw [racc_ins hs hln (by omega) c hd]
      by_cases c1 : q = 0
      · rw [if_pos c1, if_neg fun c2 => c (e.2 ⟨c1, c2⟩)]
        exact hgo
      · rw [if_neg c1]
        exact hgo
  · rw [if_neg h, List.take_of_length_le (by omega)]
    rfl
open Classical in
theorem rvalid_eq {l : List AccT} (ha : AllA l) (hl : l.length ≤ 100000) : sol_ref11_ValidAccounts (l, ()) = some ((decide (VA l), ()), ((), ())) := by
  unfold sol_ref11_ValidAccounts T_ref11_ValidAccounts
  refine bigLoop_rule (I := fun x => ∃ i : Nat, i ≤ l.length ∧ (∀ j, j < i → okA l j) ∧ x = (l, (((i : Nat) : Int), ()))) (m := fun x => (((l.length : Nat) : Int) - x.2.1).toNat)
    (g := fun _ => some ((decide (VA l), ()), ((), ()))) ?_
    ⟨0, by omega, fun j hj => by omega, rfl⟩ (by rw [bigN_eq]; simp only; omega)
  rintro x again ⟨i, hi, hok, rfl⟩ hag
  simp only at hag ⊢
  unfold T_ref11_ValidAccounts_loop0
  rw [zA_eq]
  simp only [letR_eq, brR_dec, brR_inR, brR_not]
  by_cases h : ((i : Nat) : Int) < ((l.length : Nat) : Int)
  · have hil : i < l.length := by omega
    have ii : (0 : Int) ≤ ((i : Nat) : Int) ∧ ((i : Nat) : Int) < ((l.length : Nat) : Int) := by omega
    have bad : ¬ okA l i → decide (VA l) = false := fun h => decide_eq_false fun hv => h (hv i hil)
    have hnx : okA l i → again (l, (((i : Nat) : Int) + 1, ())) = some ((decide (VA l), ()), ((), ())) := fun h =>
      hag _ ⟨i + 1, by omega, fun j hj => by
        by_cases e : j = i
        · rw [e]; exact h
        · exact hok j (by omega), by rw [Int.natCast_add]; rfl⟩ (by simp only; omega)
    clear hag
    have hwi : IntKind.wrap .i64 (((i : Nat) : Int) + 1) = ((i : Nat) : Int) + 1 := w_i64 (by omega) (by omega)
    have hwj : IntKind.wrap .i64 (((i : Nat) : Int) - 1) = ((i : Nat) : Int) - 1 := w_i64 (by omega) (by omega)
    have htj : (((i : Nat) : Int) - 1).toNat = i - 1 := by omega
    simp only [if_pos h, if_pos ii, hwi, hwj, htj, Int.toNat_natCast]
    have hw := ha.at i
    have e := isE_iff hw
    have ez := isZero_acc hw
    clear hw
    generalize val4 (l.getD i zAcc).2.1 = q at e ez
    rw [ez, bind_some']
    dsimp only
    rw [brR_dec]
    unfold okA at bad hnx
    generalize l.getD i zAcc = y at *
    by_cases c1 : y.1 = 0
    · rw [if_pos c1, bad fun h => h.1 c1]
    rw [if_neg c1]
    have tail : (0 < i → (l.getD (i - 1) zAcc).1 < y.1) → (if q = 0 then (if y.2.2.1 = 0 then some ((false, ()), ((), ())) else again (l, (((i : Nat) : Int) + 1, ()))) else again (l, (((i : Nat) : Int) + 1, ()))) = some ((decide (VA l), ()), ((), ())) := fun hq => by
      by_cases c : isE y
      · rw [if_pos (e.1 c).1, if_pos (e.1 c).2, bad fun h => h.2.1 c]
      · rw [hnx ⟨c1, c, hq⟩]
        by_cases c1 : q = 0
        · rw [if_pos c1, if_neg fun c2 => c (e.2 ⟨c1, c2⟩)]
        · rw [if_neg c1]
    by_cases c3 : ((i : Nat) : Int) > 0
    · rw [if_pos c3, if_pos (by omega)]
      by_cases c4 : y.1 ≤ (l.getD (i - 1) zAcc).1
      · rw [if_pos c4, bad fun h => by have := h.2.2 (by omega); omega]
      · rw [if_neg c4]
        exact tail fun _ => by omega
    · rw [if_neg c3]
      exact tail fun _ => by omega
  · have hva : VA l := fun j hj => hok j (by omega)
    rw [if_neg h, decide_eq_true hva]
theorem rload_eq {l : List AccT} {vs : List Nat} (ha : AllA l) (hl : l.length ≤ 100000) (hlen : vs.length = 4) (hb : ∀ n ∈ vs, B256 n) :
    sol_ref11_Load (l, (vs.map lim, ())) = some (loadA l vs, ((), ((), ()))) := by
  unfold sol_ref11_Load T_ref11_Load loadA
  simp only
  rw [roomyA (by omega), brR_true, rvalid_eq ha hl]
  simp only [bind_some', brR_not, brR_dec]
  by_cases c : VA l
  · rw [if_pos c, if_pos c, rsupply_gen ha hl hlen hb]
    simp only [bind_some']
    rw [fits_eq]
    simp only [bind_some', brR_dec]
    by_cases c2 : sumL l + vs.sum < 115792089237316195423570985008687907853269984665640564039457584007913129639936
    · rw [if_pos c2, if_pos c2]
    · rw [if_neg c2, if_neg c2]
  · rw [if_neg c, if_neg c]
end Go.Pon
set_option autoImplicit false
namespace Go.Pon
open Go
theorem bigLoop_pred {ω δ : Type} {round : (δ → Option ω) → δ → Option ω} (I : δ → Prop) (m : δ → Nat) (P : Option ω → Prop)
    (h : ∀ x (again : δ → Option ω), I x → (∀ y, I y → m y < m x → P (again y)) → P (round again x)) {x : δ} (hx : I x) (hm : m x < bigN) : P (bigLoop ω δ round x) := by
  have key : ∀ n x, I x → m x < n → P (loopN round n x) := by
    intro n
    induction n with
    | zero => intro x _ hm; omega
    | succ n ih =>
      intro x hx hm
      rw [loopN_succ]
      exact h x _ hx fun y hy hlt => ih y hy (by omega)
  rw [bigLoop_def]
  exact key bigN x hx hm
end Go.Pon
set_option autoImplicit false
set_option linter.unusedVariables false
set_option linter.unusedSimpArgs false
namespace Go.Pon
open Go
abbrev LCall := Int × (Int × (Int × (Int × (List Int × (Bool × Unit)))))
abbrev zLCall : LCall := ((0 : Int), ((0 : Int), ((0 : Int), ((0 : Int), ([(0 : Int), (0 : Int), (0 : Int), (0 : Int)], (false, ()))))))
inductive LCallW : LCall → Prop
  | mk {o v a b : Int} {n : Nat} {s : Bool} (ho : I64 o) (hv : I64 v) (ha : U64 a) (hb : U64 b) (hn : B256 n) : LCallW (o, (v, (a, (b, (lim n, (s, ()))))))
inductive LCallN : LCall → Prop
  | mk {o v a b : Int} {n : Nat} {s : Bool} (ho : 0 ≤ o ∧ o ≤ 7) (hv : I64 v) (ha : U64 a) (hb : U64 b) (hn : B256 n) : LCallN (o, (v, (a, (b, (lim n, (s, ()))))))
def AllLC (l : List LCall) : Prop := ∀ x ∈ l, LCallW x
theorem lcall_wf {x : LCall} (h : (Ty.pair (.int .i64) (.pair (.int .i64) (.pair (.int .u64) (.pair (.int .u64) (.pair (.arr 4 (.int .u64)) (.pair .bool .unit)))))).wf x) : LCallW x := by
  obtain ⟨o, v, a, b, n, s, u⟩ := x
  obtain ⟨h1, h2, h3, h4, h5, h6, _⟩ := h
  obtain ⟨k, hk, e⟩ := u256_wf h5
  have e : n = lim k := e
  subst e
  exact LCallW.mk (inK_i64.1 h1) (inK_i64.1 h2) (inK_u64.1 h3) (inK_u64.1 h4) hk
theorem acc_wf {x : AccT} (h : (Ty.pair (.int .u64) (.pair (.arr 4 (.int .u64)) (.pair (.int .u64) .unit))).wf x) : AccW x := by
  obtain ⟨a, b, n, u⟩ := x
  obtain ⟨h1, h2, h3, _⟩ := h
  obtain ⟨k, hk, e⟩ := u256_wf h2
  have e : b = lim k := e
  subst e
  exact AccW.mk (inK_u64.1 h1) hk (inK_u64.1 h3)
theorem small_lim {n : Nat} (hn : B256 n) : ∃ k : Nat, B256 k ∧ ([Int.tmod (List.getD (lim n) 0 0) 1000, (0 : Int), (0 : Int), (0 : Int)] : List Int) = lim k := by
  have h := lb_get (n := n) (q := 0) hn (by omega)
  rw [h, tmod_pos (by omega)]
  rw [show (((lb n 0 : Nat) : Int) % 1000) = ((lb n 0 % 1000 : Nat) : Int) by omega]
  refine ⟨lb n 0 % 1000, by unfold B256; omega, ?_⟩
  rw [lim_small (by omega) (by omega)]
  rfl
theorem norm11_eq {d : LCall} {i : Int} (hd : LCallW d) (h0 : 0 ≤ i) : ∃ d', LCallN d' ∧ sol_law11_normalize (d, (i, ())) = some ((d', ()), ((), ((), ()))) := by
  obtain ⟨ho, hv, ha, hb, hn⟩ := hd
  rename_i o v a b n s
  unfold I64 at ho hv
  unfold U64 at ha hb
  obtain ⟨k, hk, e⟩ := small_lim hn
  unfold sol_law11_normalize T_law11_normalize
  simp only [letR_eq, brR_dec]
  rw [mod_eq ho.1 ho.2 (by omega) (by omega)]
  simp only [bind_some']
  rw [mod_eq hv.1 hv.2 (by omega) (by omega)]
  simp only [bind_some', brR_dec]
  rw [e, tmod_pos ha.1, tmod_pos hb.1]
  have m8 := mod_range (x := o) (n := 8) (by omega)
  have m6 := mod_range (x := v) (n := 6) (by omega)
  have r1 : ∀ k (s : Bool), B256 k → LCallN ((o % 18446744073709551616 % 8), ((v % 18446744073709551616 % 6), (a % 5, (b % 5, (lim k, (s, ())))))) := fun k s hk =>
    LCallN.mk (by omega) (by unfold I64; omega) (by unfold U64; omega) (by unfold U64; omega) hk
  have r2 : ∀ k (s : Bool), B256 k → LCallN ((o % 18446744073709551616 % 8), (v, (a, (b, (lim k, (s, ())))))) := fun k s hk =>
    LCallN.mk (by omega) hv ha hb hk
  generalize o % 18446744073709551616 % 8 = o' at *
  generalize v % 18446744073709551616 % 6 = v' at *
  by_cases c1 : Int.tmod i 7 < 6
  · rw [if_pos c1]
    cases s with
    | true => exact ⟨_, r1 k _ hk, rfl⟩
    | false =>
      rw [brR_false]
      by_cases c2 : o' < 2
      · rw [if_pos c2]
        by_cases c3 : Int.tmod i 5 > 0
        · rw [if_pos c3]; exact ⟨_, r1 k _ hk, rfl⟩
        · rw [if_neg c3]; exact ⟨_, r1 n _ hn, rfl⟩
      · rw [if_neg c2]; exact ⟨_, r1 n _ hn, rfl⟩
  · rw [if_neg c1]
    cases s with
    | true => exact ⟨_, r2 k _ hk, rfl⟩
    | false =>
      rw [brR_false]
      by_cases c2 : o' < 2
      · rw [if_pos c2]
        by_cases c3 : Int.tmod i 5 > 0
        · rw [if_pos c3]; exact ⟨_, r2 k _ hk, rfl⟩
        · rw [if_neg c3]; exact ⟨_, r2 n _ hn, rfl⟩
      · rw [if_neg c2]; exact ⟨_, r2 n _ hn, rfl⟩
def stepS (l : List AccT) (vs : List Nat) (d : LCall) : Int × (List AccT × List Nat) :=
  if d.1 < 2 then mintS l vs d.2.2.1 (val4 d.2.2.2.2.1) else if d.1 < 4 then transS l vs d.2.2.1 d.2.2.2.1 (val4 d.2.2.2.2.1) else
  if d.1 = 4 then payS l vs d.2.2.1 d.2.1 (val4 d.2.2.2.2.1) else if d.1 = 5 then wdS l vs d.2.2.1 (val4 d.2.2.2.2.1) else
  if d.1 = 6 then wvS l vs d.2.1 (val4 d.2.2.2.2.1) else incS l vs d.2.2.1
theorem rapply11_eq {m : List AccT} {vs : List Nat} {d : LCall} (hr : RefInv m) (h : LInv (isort m) vs) (hl : m.length ≤ 50000) (hd : LCallN d) :
    ∃ m', sol_law11_applyReference ((m, (vs.map lim, ())), (d, ())) = some (((stepS (isort m) vs d).1, ()), ((m', ((stepS (isort m) vs d).2.2.map lim, ())), ((), ()))) ∧ ROut m (stepS (isort m) vs d) m' := by
  obtain ⟨ho, hv, ha, hb, hn⟩ := hd
  rename_i o v a b n s
  have : o = 0 ∨ o = 1 ∨ o = 2 ∨ o = 3 ∨ o = 4 ∨ o = 5 ∨ o = 6 ∨ o = 7 := by omega
  unfold sol_law11_applyReference T_law11_applyReference stepS
  simp only [brR_dec, val4_lim]
  rcases this with rfl | rfl | rfl | rfl | rfl | rfl | rfl | rfl <;> simp +decide only [if_true, if_false]
  · obtain ⟨m', e, q⟩ := rmint_eq hr h (by omega) ha hn
    rw [e]; exact ⟨m', rfl, q⟩
  · obtain ⟨m', e, q⟩ := rmint_eq hr h (by omega) ha hn
    rw [e]; exact ⟨m', rfl, q⟩
  · obtain ⟨m', e, q⟩ := rtransfer_eq hr h (by omega) ha hb hn
    rw [e]; exact ⟨m', rfl, q⟩
  · obtain ⟨m', e, q⟩ := rtransfer_eq hr h (by omega) ha hb hn
    rw [e]; exact ⟨m', rfl, q⟩
  · obtain ⟨m', e, q⟩ := rpay_eq hr h (by omega) ha hn hv
    rw [e]; exact ⟨m', rfl, q⟩
  · obtain ⟨m', e, q⟩ := rwithdraw_eq hr h (by omega) ha hn
    rw [e]; exact ⟨m', rfl, q⟩
  · obtain ⟨m', e, q⟩ := rwv_eq hr h hn hv
    rw [e]; exact ⟨m', rfl, q⟩
  · obtain ⟨m', e, q⟩ := rinc_eq hr h (by omega) ha
    rw [e]; exact ⟨m', rfl, q⟩
def inS (d : LCall) : Nat := if d.1 < 2 then val4 d.2.2.2.2.1 else 0
def outS (d : LCall) : Nat := if d.1 = 5 ∨ d.1 = 6 then val4 d.2.2.2.2.1 else 0
structure StepOK (l : List AccT) (vs : List Nat) (r : Int × (List AccT × List Nat)) (i o : Nat) : Prop where
  inv : LInv r.2.1 r.2.2
  len : r.2.1.length ≤ l.length + 2
  bad : r.1 ≠ 0 → r.2 = (l, vs)
  sum : r.1 = 0 → sumL r.2.1 + r.2.2.sum + o = sumL l + vs.sum + i
theorem StepOK.same {l : List AccT} {vs : List Nat} {c : Int} {i o : Nat} (h : LInv l vs) (hc : c ≠ 0) : StepOK l vs (c, (l, vs)) i o :=
  ⟨h, by simp only; omega, fun _ => rfl, fun e => absurd e hc⟩
theorem mintS_ok {l : List AccT} {vs : List Nat} {a : Int} {n : Nat} (h : LInv l vs) (ha : U64 a) (hn : B256 n) : StepOK l vs (mintS l vs a n) n 0 := by
  unfold mintS
  by_cases c : a = 0
  · rw [if_pos c]; exact .same h (by decide)
  rw [if_neg c]
  by_cases c2 : sumL l + vs.sum + n < 115792089237316195423570985008687907853269984665640564039457584007913129639936
  · rw [if_pos c2]
    obtain ⟨_, hb1, hn1⟩ := lget_mk h.all ha
    have hs := sum_crd (a := a) (n := n) h.srt
    have hbl := bal_le l a
    refine ⟨h.put (AccW.mk ha (by unfold B256; omega) hn1) c (by show sumL (crd l a n) + _ < _; omega), by have := len_crd l a n; simp only; omega, fun e => absurd rfl e, fun _ => by simp only; omega⟩
  · rw [if_neg c2]; exact .same h (by decide)
theorem transS_ok {l : List AccT} {vs : List Nat} {a b : Int} {n : Nat} (h : LInv l vs) (ha : U64 a) (hb : U64 b) (hn : B256 n) : StepOK l vs (transS l vs a b n) 0 0 := by
  unfold transS
  by_cases c : a = 0 ∨ b = 0
  · rw [if_pos c]; exact .same h (by decide)
  rw [if_neg c]
  by_cases c2 : n ≤ bal l a
  · rw [if_pos c2]
    have hi := h.deb ha (by omega) c2
    obtain ⟨_, hb1, hn1⟩ := lget_mk hi.all hb
    have hs := sum_deb h.srt c2
    have hs2 := sum_crd (l := deb l a n) (a := b) (n := n) hi.srt
    have hbl := bal_le (deb l a n) b
    have hsum := h.sum
    have l1 := len_deb l a n
    have l2 := len_crd (deb l a n) b n
    refine ⟨hi.put (AccW.mk hb (by unfold B256; omega) hn1) (by simp only; omega) (by show sumL (crd (deb l a n) b n) + _ < _; omega), by simp only; omega, fun e => absurd rfl e, fun _ => by simp only; omega⟩
  · rw [if_neg c2]; exact .same h (by decide)
theorem payS_ok {l : List AccT} {vs : List Nat} {a v : Int} {n : Nat} (h : LInv l vs) (ha : U64 a) (hn : B256 n) : StepOK l vs (payS l vs a v n) 0 0 := by
  unfold payS
  by_cases c : a = 0 ∨ ¬ (1 ≤ v ∧ v ≤ 4)
  · rw [if_pos c]; exact .same h (by decide)
  rw [if_neg c]
  by_cases c2 : n ≤ bal l a
  · rw [if_pos c2]
    have hi := h.deb ha (by omega) c2
    have hs := sum_deb h.srt c2
    have hlen := h.len
    have hsum := h.sum
    have hv := set_sum (vs := vs) (i := vix v) (n := vs.getD (vix v) 0 + n) (by unfold vix; omega)
    have l1 := len_deb l a n
    refine ⟨⟨hi.srt, hi.ne, hi.all, hi.nz, by simp only [List.length_set]; exact hlen, by simp only; omega⟩, by simp only; omega, fun e => absurd rfl e, fun _ => by simp only; omega⟩
  · rw [if_neg c2]; exact .same h (by decide)
theorem wdS_ok {l : List AccT} {vs : List Nat} {a : Int} {n : Nat} (h : LInv l vs) (ha : U64 a) (hn : B256 n) : StepOK l vs (wdS l vs a n) 0 n := by
  unfold wdS
  by_cases c : a = 0
  · rw [if_pos c]; exact .same h (by decide)
  rw [if_neg c]
  by_cases c2 : n ≤ bal l a
  · rw [if_pos c2]
    have hi := h.deb ha (by omega) c2
    have hs := sum_deb h.srt c2
    have l1 := len_deb l a n
    refine ⟨hi, by simp only; omega, fun e => absurd rfl e, fun _ => by simp only; omega⟩
  · rw [if_neg c2]; exact .same h (by decide)
theorem wvS_ok {l : List AccT} {vs : List Nat} {v : Int} {n : Nat} (h : LInv l vs) (hn : B256 n) : StepOK l vs (wvS l vs v n) 0 n := by
  unfold wvS
  by_cases c : 1 ≤ v ∧ v ≤ 4
  · rw [if_pos c]
    by_cases c2 : n ≤ vs.getD (vix v) 0
    · rw [if_pos c2]
      have hlen := h.len
      have hsum := h.sum
      have hv := set_sum (vs := vs) (i := vix v) (n := vs.getD (vix v) 0 - n) (by unfold vix; omega)
      exact ⟨⟨h.srt, h.ne, h.all, h.nz, by simp only [List.length_set]; exact hlen, by simp only; omega⟩, by simp only; omega, fun e => absurd rfl e, fun _ => by simp only; omega⟩
    · rw [if_neg c2]; exact .same h (by decide)
  · rw [if_neg c]; exact .same h (by decide)
theorem incS_ok {l : List AccT} {vs : List Nat} {a : Int} (h : LInv l vs) (ha : U64 a) : StepOK l vs (incS l vs a) 0 0 := by
  unfold incS
  by_cases c : a = 0
  · rw [if_pos c]; exact .same h (by decide)
  rw [if_neg c]
  by_cases c2 : non l a = 18446744073709551615
  · rw [if_pos c2]; exact .same h (by decide)
  · rw [if_neg c2]
    obtain ⟨_, hb1, hn1⟩ := lget_mk h.all ha
    have hs := sum_inc (a := a) h.srt
    have l1 := len_inc l a
    have hsum := h.sum
    refine ⟨h.put (AccW.mk ha hb1 (by unfold U64 at *; omega)) c (by show sumL (inc l a) + _ < _; omega), by simp only; omega, fun e => absurd rfl e, fun _ => by simp only; omega⟩
theorem stepS_ok {l : List AccT} {vs : List Nat} {d : LCall} (h : LInv l vs) (hd : LCallN d) : StepOK l vs (stepS l vs d) (inS d) (outS d) := by
  obtain ⟨ho, hv, ha, hb, hn⟩ := hd
  rename_i o v a b n s
  have : o = 0 ∨ o = 1 ∨ o = 2 ∨ o = 3 ∨ o = 4 ∨ o = 5 ∨ o = 6 ∨ o = 7 := by omega
  unfold stepS inS outS
  simp only [val4_lim]
  rcases this with rfl | rfl | rfl | rfl | rfl | rfl | rfl | rfl <;> simp +decide only [if_true, if_false]
  · exact mintS_ok h ha hn
  · exact mintS_ok h ha hn
  · exact transS_ok h ha hb hn
  · exact transS_ok h ha hb hn
  · exact payS_ok h ha hn
  · exact wdS_ok h ha hn
  · exact wvS_ok h hn
  · exact incS_ok h ha
theorem equalAccounts_eq (a : List AccT) (ha : a.length ≤ 1000000000) : sol_law0_EqualAccounts (a, (a, ())) = some ((true, ()), ((), ((), ()))) := by
  unfold sol_law0_EqualAccounts T_law0_EqualAccounts
  simp only
  rw [brR_not, brR_dec, if_pos trivial]
  refine bigLoop_rule (I := fun x => ∃ i : Nat, i ≤ a.length ∧ x = (a, (a, (((i : Nat) : Int), ())))) (m := fun x => (((a.length : Nat) : Int) - x.2.2.1).toNat) (g := fun _ => some ((true, ()), ((), ((), ())))) ?_
    ⟨0, by omega, rfl⟩ (by simp only [bigN_eq]; omega)
  rintro x again ⟨i, hi, rfl⟩ hag
  simp only at hag ⊢
  unfold T_law0_EqualAccounts_loop0
  simp only [letR_eq]
  rw [brR_dec]
  by_cases h : ((i : Nat) : Int) < ((a.length : Nat) : Int)
  · rw [if_pos h, brR_inR, if_pos (by omega), brR_inR, if_pos (by omega), Int.toNat_natCast, eqD_iff.2 rfl, brR_not, brR_true, w_i64 (by omega) (by omega)]
    exact hag _ ⟨i + 1, by omega, by rw [Int.natCast_add]; rfl⟩ (by simp only; omega)
  · rw [if_neg h]
theorem inv_nil : LInv [] [0, 0, 0, 0] := ⟨List.Pairwise.nil, fun x h => by simp at h, fun x h => by simp at h, fun x h => by simp at h, rfl, by simp [sumL_nil]⟩
theorem lnew_eq : sol_ledger_New () = some ((([], (([0, 0, 0, 0] : List Nat).map lim, ())), ()), ()) := rfl
theorem rnew_eq : sol_ref11_New () = some ((([], (([0, 0, 0, 0] : List Nat).map lim, ())), ()), ()) := rfl
theorem awake11 : sol_law11_awake () = some ((true, ()), ()) := by
  have l10 : ([(10 : Int), 0, 0, 0] : List Int) = lim 10 := rfl
  have l11 : ([(11 : Int), 0, 0, 0] : List Int) = lim 11 := rfl
  have l4 : ([(4 : Int), 0, 0, 0] : List Int) = lim 4 := rfl
  have l6 : ([(6 : Int), 0, 0, 0] : List Int) = lim 6 := rfl
  have u5 : U64 5 := by unfold U64; omega
  have u6 : U64 6 := by unfold U64; omega
  unfold sol_law11_awake T_law11_awake
  rw [lnew_eq]
  simp only [bind_some']
  rw [l10, l11, l4, l6, mint_eq inv_nil (by simp) u5 (by unfold B256; omega)]
  have s1 : mintS [] [0, 0, 0, 0] 5 10 = (0, ([(5, (lim 10, ((0 : Int), ())))], [0, 0, 0, 0])) := by kernel_rfl
  have k1 := mintS_ok (a := 5) (n := 10) inv_nil u5 (by unfold B256; omega)
  rw [s1] at k1 ⊢
  have i1 := k1.inv
  simp only [bind_some', optR_some] at i1 ⊢
  have s2 : transS [(5, (lim 10, ((0 : Int), ())))] [0, 0, 0, 0] 5 6 11 = (10, ([(5, (lim 10, ((0 : Int), ())))], [0, 0, 0, 0])) := by kernel_rfl
  rw [transfer_eq i1 (by simp) u5 u6 (by unfold B256; omega), s2]
  simp only [bind_some', optR_some]
  have s3 : payS [(5, (lim 10, ((0 : Int), ())))] [0, 0, 0, 0] 5 3 4 = (0, ([(5, (lim 6, ((0 : Int), ())))], [0, 0, 4, 0])) := by kernel_rfl
  rw [payVault_eq i1 (by simp) u5 (by unfold B256; omega) (by omega)]
  have k3 := payS_ok (a := 5) (v := 3) (n := 4) i1 u5 (by unfold B256; omega)
  rw [s3] at k3 ⊢
  have i3 := k3.inv
  simp only [bind_some', optR_some, brR_dec] at i3 ⊢
  rw [if_pos trivial, if_pos trivial, if_pos trivial, supply_eq i3 (by simp)]
  simp only [bind_some', optR_some]
  rw [eqD_iff.2 (by decide), brR_true, balance_eq i3.srt (by simp)]
  simp only [bind_some', optR_some]
  rw [eqD_iff.2 (by rfl), brR_true, vault_eq rfl (by omega)]
  simp only [bind_some', optR_some]
  rw [eqD_iff.2 (by decide)]
end Go.Pon
set_option autoImplicit false
set_option linter.unusedVariables false
set_option linter.unusedSimpArgs false
namespace Go.Pon
open Go
theorem AllA.set {l : List AccT} {x : AccT} {i : Nat} (h : AllA l) (hx : AccW x) : AllA (l.set i x) := fun y hy => by
  rcases List.mem_or_eq_of_mem_set hy with hy | rfl
  · exact h y hy
  · exact hx
theorem rows_wf : ∀ {v : List (List Int)}, (∀ x ∈ v, (Ty.arr 4 (.int .u64)).wf x) → ∃ vs : List Nat, v = vs.map lim ∧ ∀ n ∈ vs, B256 n
  | [], _ => ⟨[], rfl, fun n h => by simp at h⟩
  | x :: v, h => by
    obtain ⟨n, hn, rfl⟩ := u256_wf (h x (by simp))
    obtain ⟨vs, rfl, hvs⟩ := rows_wf (v := v) fun y hy => h y (by simp [hy])
    exact ⟨n :: vs, rfl, fun k hk => by
      rcases List.mem_cons.1 hk with rfl | hk
      · exact hn
      · exact hvs k hk⟩
abbrev YB5L := (Bool × Unit) × (Unit × (Unit × (Unit × (Unit × Unit))))
theorem ledgerLoad_end {l m : List AccT} {vs vb : List Nat} {how : Int} (ha : AllA l) (hl : l.length ≤ 40) (hlen : vs.length = 4) (hb : ∀ n ∈ vs, B256 n) (hr : RefInv m) (hi : LInv (isort m) vb) (hm : m.length ≤ 100) (hml : (isort m).length ≤ 100)
    (hhow : I64 how) :
    ∃ w : YB5L, bigLoop _ _ (fun again x => T_law11_LedgerLoad_loop1 sol_ledger_Load sol_ref11_Load sol_ledger_Ledger_Accounts sol_ref11_Ledger_Accounts sol_law0_Mod sol_law0_EqualAccounts sol_ledger_Ledger_Vaults sol_ledger_Ledger_Supply sol_ref11_Ledger_Supply sol_ref1_ToUint256 sol_law11_awake again x.1 x.2.1 x.2.2.1 x.2.2.2.1 x.2.2.2.2.1)
      (l, (how, (vs.map lim, ((m, (vb.map lim, ())), ((0 : Int), ()))))) = some w ∧ w.1.1 = true := by
  unfold I64 at hhow
  have hai : AllA (isort m) := hi.all
  refine bigLoop_pred (I := fun x => ∃ (t : Nat) (l : List AccT) (vs : List Nat), t ≤ 3 ∧ AllA l ∧ l.length ≤ 100 ∧ vs.length = 4 ∧ (∀ n ∈ vs, B256 n) ∧ x = (l, (how, (vs.map lim, ((m, (vb.map lim, ())), (((t : Nat) : Int), ()))))))
    (m := fun x => ((3 : Int) - x.2.2.2.2.1).toNat) (P := fun r => ∃ w : YB5L, r = some w ∧ w.1.1 = true) ?_
    ⟨0, l, vs, by omega, ha, by omega, hlen, hb, rfl⟩ (by simp only [bigN_eq]; omega)
  clear ha hl hlen hb l vs
  rintro x again ⟨t, l, vs, ht, ha, hl, hlen, hb, rfl⟩ hag
  simp only at hag ⊢
  unfold T_law11_LedgerLoad_loop1
  rw [zAl_eq]
  simp only [letR_eq]
  rw [brR_dec]
  by_cases c : ((t : Nat) : Int) < 3
  case neg =>
    rw [if_neg c, awake11]
    exact ⟨_, rfl, rfl⟩
  have hwt : IntKind.wrap .i64 (((t : Nat) : Int) + 1) = ((t + 1 : Nat) : Int) := by rw [w_i64 (by omega) (by omega), Int.natCast_add]; rfl
  rw [if_pos c, load_eq ha (by omega) hlen hb, bind_some']
  by_cases d : VA l
  · by_cases d2 : sumL l + vs.sum < 115792089237316195423570985008687907853269984665640564039457584007913129639936
    · have e : loadA l vs = (some (l, (vs.map lim, ())), ((0 : Int), ())) := by unfold loadA; rw [if_pos d, if_pos d2]
      rw [e]
      dsimp only
      have hv : LInv l vs := ⟨d.srt, d.ne, ha, d.nz, hlen, d2⟩
      have hs := isort_self d.srt d.ne
      have hd : Dist l := d.srt.imp fun h => by omega
      have hrl : RefInv l := ⟨hd, ha⟩
      rw [optR_some, rload_eq ha (by omega) hlen hb, bind_some', e]
      dsimp only
      rw [optR_some, decide_eq_true rfl, Bool.not_true, brR_false, eqD_iff.2 rfl, Bool.not_true, brR_false, brR_true, accounts_eq (by omega), bind_some']
      dsimp only
      rw [optR_some, raccounts_eq hrl (by omega), hs, bind_some']
      dsimp only
      rw [equalAccounts_eq l (by omega), bind_some']
      dsimp only
      rw [brR_not, brR_true, vaults_eq, bind_some']
      dsimp only
      rw [optR_some, eqD_iff.2 rfl, brR_not, brR_true, supply_eq hv (by omega), bind_some']
      dsimp only
      rw [optR_some, rsupply_gen ha (by omega) hlen hb, bind_some']
      dsimp only
      rw [to_eq d2, bind_some']
      dsimp only
      rw [eqD_iff.2 rfl, brR_not, brR_true]
      rw [raccounts_eq hr (by omega), bind_some']
      dsimp only
      rw [brR_dec]
      by_cases t1 : ((t : Nat) : Int) = 1
      · rw [if_pos t1, brR_dec]
        by_cases t2 : (((isort m).length : Nat) : Int) > 1
        · have hw1 : IntKind.wrap .i64 ((((isort m).length : Nat) : Int) - 1) = (((isort m).length : Nat) : Int) - 1 := w_i64 (by omega) (by omega)
          rw [if_pos t2, hw1, mod_eq hhow.1 hhow.2 (by omega) (by omega), bind_some']
          dsimp only
          have mr := mod_range (x := how) (n := (((isort m).length : Nat) : Int) - 1) (by omega)
          generalize how % 18446744073709551616 % ((((isort m).length : Nat) : Int) - 1) = z at *
          obtain ⟨z, rfl⟩ := Int.eq_ofNat_of_zero_le mr.1
          have hw2 : IntKind.wrap .i64 (((z : Nat) : Int) + 1) = ((z + 1 : Nat) : Int) := by rw [w_i64 (by omega) (by omega), Int.natCast_add]; rfl
          rw [hw2, brR_inR, if_pos (by omega), brR_inR, if_pos (by omega), brR_inR, if_pos (by omega), brR_inR, if_pos (by rw [List.length_set]; omega), hwt, Int.toNat_natCast, Int.toNat_natCast]
          exact hag _ ⟨t + 1, _, vb, by omega, (hai.set (hai.at _)).set (hai.at _), by rw [List.length_set, List.length_set]; omega, hi.len, hi.vB, rfl⟩ (by simp only; omega)
        · rw [if_neg t2, hwt]
          exact hag _ ⟨t + 1, _, vb, by omega, hai, by omega, hi.len, hi.vB, rfl⟩ (by simp only; omega)
      · rw [if_neg t1, hwt]
        exact hag _ ⟨t + 1, _, vb, by omega, hai, by omega, hi.len, hi.vB, rfl⟩ (by simp only; omega)
    · have e : loadA l vs = (none, ((4 : Int), ())) := by unfold loadA; rw [if_pos d, if_neg d2]
      rw [e]
      dsimp only
      have q1 : eqD .bool true (!decide ((4 : Int) = 0)) = true := rfl
      rw [optR_none, rload_eq ha (by omega) hlen hb, bind_some', e]
      dsimp only
      rw [optR_none, decide_eq_true (rfl : (4 : Int) = 4), Bool.not_true, brR_false, q1, Bool.not_true, brR_false, decide_eq_false (show ¬ (4 : Int) = 0 by decide), brR_false]
      rw [raccounts_eq hr (by omega), bind_some']
      dsimp only
      rw [brR_dec]
      by_cases t1 : ((t : Nat) : Int) = 1
      · rw [if_pos t1, brR_dec]
        by_cases t2 : (((isort m).length : Nat) : Int) > 1
        · have hw1 : IntKind.wrap .i64 ((((isort m).length : Nat) : Int) - 1) = (((isort m).length : Nat) : Int) - 1 := w_i64 (by omega) (by omega)
          rw [if_pos t2, hw1, mod_eq hhow.1 hhow.2 (by omega) (by omega), bind_some']
          dsimp only
          have mr := mod_range (x := how) (n := (((isort m).length : Nat) : Int) - 1) (by omega)
          generalize how % 18446744073709551616 % ((((isort m).length : Nat) : Int) - 1) = z at *
          obtain ⟨z, rfl⟩ := Int.eq_ofNat_of_zero_le mr.1
          have hw2 : IntKind.wrap .i64 (((z : Nat) : Int) + 1) = ((z + 1 : Nat) : Int) := by rw [w_i64 (by omega) (by omega), Int.natCast_add]; rfl
          rw [hw2, brR_inR, if_pos (by omega), brR_inR, if_pos (by omega), brR_inR, if_pos (by omega), brR_inR, if_pos (by rw [List.length_set]; omega), hwt, Int.toNat_natCast, Int.toNat_natCast]
          exact hag _ ⟨t + 1, _, vb, by omega, (hai.set (hai.at _)).set (hai.at _), by rw [List.length_set, List.length_set]; omega, hi.len, hi.vB, rfl⟩ (by simp only; omega)
        · rw [if_neg t2, hwt]
          exact hag _ ⟨t + 1, _, vb, by omega, hai, by omega, hi.len, hi.vB, rfl⟩ (by simp only; omega)
      · rw [if_neg t1, hwt]
        exact hag _ ⟨t + 1, _, vb, by omega, hai, by omega, hi.len, hi.vB, rfl⟩ (by simp only; omega)
  · have e : loadA l vs = (none, ((2 : Int), ())) := by unfold loadA; rw [if_neg d]
    rw [e]
    dsimp only
    have q1 : eqD .bool true (!decide ((2 : Int) = 0)) = true := rfl
    rw [optR_none, rload_eq ha (by omega) hlen hb, bind_some', e]
    dsimp only
    rw [optR_none, decide_eq_true (rfl : (2 : Int) = 2), Bool.not_true, brR_false, q1, Bool.not_true, brR_false, decide_eq_false (show ¬ (2 : Int) = 0 by decide), brR_false]
    rw [raccounts_eq hr (by omega), bind_some']
    dsimp only
    rw [brR_dec]
    by_cases t1 : ((t : Nat) : Int) = 1
    · rw [if_pos t1, brR_dec]
      by_cases t2 : (((isort m).length : Nat) : Int) > 1
      · have hw1 : IntKind.wrap .i64 ((((isort m).length : Nat) : Int) - 1) = (((isort m).length : Nat) : Int) - 1 := w_i64 (by omega) (by omega)
        rw [if_pos t2, hw1, mod_eq hhow.1 hhow.2 (by omega) (by omega), bind_some']
        dsimp only
        have mr := mod_range (x := how) (n := (((isort m).length : Nat) : Int) - 1) (by omega)
        generalize how % 18446744073709551616 % ((((isort m).length : Nat) : Int) - 1) = z at *
        obtain ⟨z, rfl⟩ := Int.eq_ofNat_of_zero_le mr.1
        have hw2 : IntKind.wrap .i64 (((z : Nat) : Int) + 1) = ((z + 1 : Nat) : Int) := by rw [w_i64 (by omega) (by omega), Int.natCast_add]; rfl
        rw [hw2, brR_inR, if_pos (by omega), brR_inR, if_pos (by omega), brR_inR, if_pos (by omega), brR_inR, if_pos (by rw [List.length_set]; omega), hwt, Int.toNat_natCast, Int.toNat_natCast]
        exact hag _ ⟨t + 1, _, vb, by omega, (hai.set (hai.at _)).set (hai.at _), by rw [List.length_set, List.length_set]; omega, hi.len, hi.vB, rfl⟩ (by simp only; omega)
      · rw [if_neg t2, hwt]
        exact hag _ ⟨t + 1, _, vb, by omega, hai, by omega, hi.len, hi.vB, rfl⟩ (by simp only; omega)
    · rw [if_neg t1, hwt]
      exact hag _ ⟨t + 1, _, vb, by omega, hai, by omega, hi.len, hi.vB, rfl⟩ (by simp only; omega)
theorem law_LedgerLoad_at (l : List AccT) (vs : List Nat) (d : List LCall) (how : Int) (ha : AllA l) (hlen : vs.length = 4) (hb : ∀ n ∈ vs, B256 n) (hd : AllLC d) (hh : I64 how) :
    ∃ y, sol_law11_LedgerLoad (l, (vs.map lim, (d, (how, ())))) = some y ∧ y.1.1 = true := by
  unfold sol_law11_LedgerLoad T_law11_LedgerLoad
  simp only
  rw [awake11, brR_dec]
  by_cases c0 : ((l.length : Nat) : Int) > 40
  · rw [if_pos c0]; exact ⟨_, rfl, rfl⟩
  rw [if_neg c0, brR_dec]
  by_cases c1 : ((d.length : Nat) : Int) > 40
  · rw [if_pos c1]; exact ⟨_, rfl, rfl⟩
  rw [if_neg c1, rnew_eq, bind_some']
  refine bigLoop_pred (I := fun x => ∃ (i : Nat) (m : List AccT) (vb : List Nat), i ≤ d.length ∧ RefInv m ∧ LInv (isort m) vb ∧ m.length ≤ 2 * i ∧ (isort m).length ≤ 2 * i ∧ x = (l, (d, (how, (vs.map lim, ((m, (vb.map lim, ())), (((i : Nat) : Int), ())))))))
    (m := fun x => (((d.length : Nat) : Int) - x.2.2.2.2.2.1).toNat) (P := fun r => ∃ y : YB5L, r = some y ∧ y.1.1 = true) ?_
    ⟨0, [], [0, 0, 0, 0], by omega, ⟨List.Pairwise.nil, fun x h => by simp at h⟩, inv_nil, by simp, by simp [isort], rfl⟩ (by simp only [bigN_eq]; omega)
  rintro x again ⟨i, m, vb, hi, hr, h, hml, hil, rfl⟩ hag
  simp only at hag ⊢
  unfold T_law11_LedgerLoad_loop0
  simp only [letR_eq]
  rw [brR_dec]
  by_cases c : ((i : Nat) : Int) < ((d.length : Nat) : Int)
  · rw [if_pos c, brR_inR, if_pos (by omega), Int.toNat_natCast]
    have hdi : LCallW (d.getD i zLCall) := hd _ (getD_mem (by omega))
    obtain ⟨d', hd', e⟩ := norm11_eq hdi (i := ((i : Nat) : Int)) (by omega)
    obtain ⟨m', e2, hr', q1, q2⟩ := rapply11_eq hr h (by omega) hd'
    have ok := stepS_ok h hd'
    have hi' := ok.inv
    have hlen' := ok.len
    rw [← q1] at hi' hlen'
    rw [e, bind_some']
    dsimp only
    rw [e2, bind_some']
    dsimp only
    rw [w_i64 (by omega) (by omega)]
    exact hag _ ⟨i + 1, m', _, by omega, hr', hi', by omega, by omega, by rw [Int.natCast_add]; rfl⟩ (by simp only; omega)
  · rw [if_neg c]
    exact ledgerLoad_end ha (by omega) hlen hb hr h (by omega) (by omega) hh
theorem law_LedgerLoad : ∀ x, wfL s_law11_LedgerLoad.ins x → ∃ y, sol_law11_LedgerLoad x = some y ∧ y.1.1 = true :=
  fun ⟨l, v, d, how, _⟩ ⟨hl, hv, hd, hh, _⟩ => by
    obtain ⟨vs, e, hb⟩ := rows_wf (v := v) hv.2
    have hlen : vs.length = 4 := by have := hv.1; rw [e, List.length_map] at this; exact this
    rw [e]
    exact law_LedgerLoad_at l vs d how (fun x hx => acc_wf (hl.2 x hx)) hlen hb (fun x hx => lcall_wf (hd.2 x hx)) (inK_i64.1 hh)
end Go.Pon
