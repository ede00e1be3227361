/-
  Part of a proof: general lemmas, merged by a program of this work.
-/
import Derived.Test.YtjnjdkefncdlpaaPEscrowForgedClaims1
set_option autoImplicit false
set_option linter.unusedVariables false
set_option linter.unusedSimpArgs false
namespace Go.Pon
open Go
def dg (n : Nat) : List Int := if h : n = 0 then [] else ((n % 65536 : Nat) : Int) :: dg (n / 65536)
termination_by n
decreasing_by omega
theorem dg_zero : dg 0 = [] := by rw [dg]; rfl
theorem dg_pos {n : Nat} (h : n ≠ 0) : dg n = ((n % 65536 : Nat) : Int) :: dg (n / 65536) := by rw [dg, dif_neg h]
theorem div_pow_succ (n i : Nat) : n / 65536 ^ (i + 1) = n / 65536 / 65536 ^ i := by rw [Nat.pow_succ, Nat.mul_comm, Nat.div_div_eq_div_mul]
theorem div_pow_succ' (n i : Nat) : n / 65536 ^ (i + 1) = n / 65536 ^ i / 65536 := by rw [Nat.pow_succ, Nat.div_div_eq_div_mul]
theorem dg_get : ∀ (i n : Nat), List.getD (dg n) i 0 = ((n / 65536 ^ i % 65536 : Nat) : Int)
  | i, n => by
    by_cases h : n = 0
    · subst h; rw [dg_zero]; simp
    · rw [dg_pos h]
      cases i with
      | zero => simp
      | succ i => rw [List.getD_cons_succ, dg_get i, div_pow_succ]
theorem dg_len : ∀ (i n : Nat), i < (dg n).length ↔ 0 < n / 65536 ^ i
  | i, n => by
    by_cases h : n = 0
    · subst h; rw [dg_zero]; simp
    · rw [dg_pos h]
      cases i with
      | zero => simp; omega
      | succ i => rw [List.length_cons, Nat.add_lt_add_iff_right, dg_len i, div_pow_succ]
def lo (i n : Nat) : List Int := (List.range i).map fun k => ((n / 65536 ^ k % 65536 : Nat) : Int)
theorem lo_len (i n : Nat) : (lo i n).length = i := by simp [lo]
theorem lo_succ (i n : Nat) : lo (i + 1) n = lo i n ++ [((n / 65536 ^ i % 65536 : Nat) : Int)] := by simp [lo, List.range_succ]
theorem lo_get {i n k : Nat} (h : k < i) : List.getD (lo i n) k 0 = ((n / 65536 ^ k % 65536 : Nat) : Int) := by simp [lo, List.getD_eq_getElem?_getD, h]
theorem lo_dg {i n : Nat} (h1 : n / 65536 ^ i = 0) (h2 : i = 0 ∨ 0 < n / 65536 ^ (i - 1)) : lo i n = dg n := by
  have hl : (dg n).length = i := by
    have a := dg_len i n
    rw [h1] at a
    rcases h2 with rfl | h2
    · omega
    · have b := (dg_len (i - 1) n).2 h2
      omega
  refine ext_getD (d := 0) (by rw [lo_len, hl]) fun k hk => ?_
  rw [lo_len] at hk
  rw [lo_get hk, dg_get]
theorem div_mono0 {n i j : Nat} (h : n / 65536 ^ i = 0) (hij : i ≤ j) : n / 65536 ^ j = 0 := by
  obtain ⟨d, rfl⟩ := Nat.exists_eq_add_of_le hij
  rw [Nat.pow_add, ← Nat.div_div_eq_div_mul, h, Nat.zero_div]
theorem dg_len_le {n k : Nat} : (dg n).length ≤ k ↔ n / 65536 ^ k = 0 := by
  have := dg_len k n
  generalize n / 65536 ^ k = q at *
  constructor
  · intro h; omega
  · intro h; omega
theorem norm_lo {k n : Nat} (hk : k ≤ 1000000) (h : n / 65536 ^ k = 0) : sol_ref1_norm (lo k n, ()) = some ((dg n, ()), ((), ())) := by
  unfold sol_ref1_norm T_ref1_norm
  rw [lo_len]
  refine bigLoop_rule (I := fun x => ∃ j : Nat, j ≤ k ∧ n / 65536 ^ j = 0 ∧ x = (lo k n, (((j : Nat) : Int), ()))) (m := fun x => x.2.1.toNat) (g := fun _ => some ((dg n, ()), ((), ()))) ?_ ⟨k, Nat.le_refl _, h, rfl⟩ (by rw [bigN_eq]; simp only; omega)
  rintro x again ⟨j, hj, h0, rfl⟩ hag
  simp only at hag ⊢
  unfold T_ref1_norm_loop0
  have htake : List.take (Int.toNat ((j : Nat) : Int) - 0) (List.drop 0 (lo k n)) = lo j n := by
    rw [Int.toNat_natCast, Nat.sub_zero, List.drop_zero]
    refine ext_getD (d := 0) (by rw [List.length_take, lo_len, lo_len]; omega) fun i hi => ?_
    rw [List.length_take, lo_len] at hi
    rw [lo_get (by omega), List.getD_eq_getElem?_getD, List.getElem?_take, if_pos (by omega), ← List.getD_eq_getElem?_getD, lo_get (by omega)]
  simp only [letR_eq, brR_and, brR_dec, brR_inR, lo_len]
  by_cases h1 : ((j : Nat) : Int) > 0
  · rw [if_pos h1, w_i64 (by omega) (by omega), if_pos (by omega), show (((j : Nat) : Int) - 1).toNat = j - 1 by omega, lo_get (by omega)]
    by_cases h2 : ((n / 65536 ^ (j - 1) % 65536 : Nat) : Int) = 0
    · rw [if_pos h2]
      have h3 : n / 65536 ^ (j - 1) = 0 := by
        have e := div_pow_succ' n (j - 1)
        rw [show j - 1 + 1 = j by omega, h0] at e
        omega
      exact hag _ ⟨j - 1, by omega, h3, by rw [show ((j - 1 : Nat) : Int) = (j : Int) - 1 by omega]⟩ (by simp only; omega)
    · rw [if_neg h2, if_pos (by omega), if_pos (by omega), htake, lo_dg h0 (.inr (Nat.pos_of_ne_zero fun h => h2 (by rw [h]; rfl)))]
  · have : j = 0 := by omega
    subst this
    rw [if_neg h1, if_pos (by omega), if_pos (by omega), htake, lo_dg h0 (.inl rfl)]
theorem and65535 {n : Nat} (h : n < 18446744073709551616) : (((BitVec.toNat ((BitVec.ofInt 64 ((n : Nat) : Int)) &&& (BitVec.ofInt 64 65535)) : Nat) : Int)) = ((n % 65536 : Nat) : Int) := by
  rw [BitVec.toNat_and, show BitVec.toNat (BitVec.ofInt 64 65535) = 2 ^ 16 - 1 from rfl, Nat.and_two_pow_sub_one_eq_mod, BitVec.ofInt_natCast, BitVec.toNat_ofNat, show n % 2 ^ 64 = n from Nat.mod_eq_of_lt (by omega)]
theorem i64_size : (Ty.int IntKind.i64).size = 1 := rfl
theorem brR_roomI {α : Type} {n : Nat} (h : n ≤ 1000000000) (a b : Option α) : brR (roomy n (.int .i64)) a b = a := by
  rw [brR_roomy, i64_size, if_pos ⟨by omega, by omega⟩]
theorem add_loop_eq {A B : Nat} (hA : (dg A).length ≤ 1000) (hB : (dg B).length ≤ 1000) : sol_ref1_Add (dg A, (dg B, ())) = some ((dg (A + B), ()), ((), ((), ()))) := by
  unfold sol_ref1_Add T_ref1_Add
  have hm : (dg (A + B)).length ≤ 1002 := by
    refine dg_len_le.2 ?_
    have h1 := div_mono0 (dg_len_le.1 hA) (show 1000 ≤ 1001 by omega)
    have h2 := div_mono0 (dg_len_le.1 hB) (show 1000 ≤ 1001 by omega)
    generalize hK : (1001 : Nat) = K at h1 h2
    rw [show (1002 : Nat) = K + 1 by omega, Nat.pow_succ]
    have p0 : 0 < 65536 ^ K := Nat.pow_pos (by omega)
    have a1 := (Nat.div_eq_zero_iff_lt p0).1 h1
    have a2 := (Nat.div_eq_zero_iff_lt p0).1 h2
    exact Nat.div_eq_of_lt (by omega)
  refine bigLoop_rule (I := fun x => ∃ (i c : Nat), c ≤ 1 ∧ (A + B) / 65536 ^ i = A / 65536 ^ i + B / 65536 ^ i + c ∧ (i = 0 ∨ 0 < (A + B) / 65536 ^ (i - 1)) ∧ x = (dg A, (dg B, (lo i (A + B), (((c : Nat) : Int), (((i : Nat) : Int), ()))))))
    (m := fun x => ((1003 : Int) - x.2.2.2.2.1).toNat) (g := fun _ => some ((dg (A + B), ()), ((), ((), ())))) ?_ ⟨0, 0, by omega, by simp, .inl rfl, rfl⟩ (by rw [bigN_eq]; simp only; omega)
  rintro x again ⟨i, c, hc, hd, hz, rfl⟩ hag
  have hi : i ≤ 1002 := by
    rcases hz with rfl | hz
    · omega
    · have := (dg_len _ _).2 hz; omega
  simp only at hag ⊢
  have la := dg_len i A; have lb := dg_len i B
  have ga := dg_get i A; have gb := dg_get i B
  have sa := div_pow_succ' A i; have sb := div_pow_succ' B i; have ss := div_pow_succ' (A + B) i
  have hls := lo_succ i (A + B)
  have hpos : (0 < A / 65536 ^ i ∨ 0 < B / 65536 ^ i ∨ 0 < c) → 0 < (A + B) / 65536 ^ i := fun h => by
    rw [hd]
    generalize A / 65536 ^ i = q1 at *
    generalize B / 65536 ^ i = q2 at *
    omega
  have hnx : (A + B) / 65536 ^ (i + 1) = A / 65536 ^ (i + 1) + B / 65536 ^ (i + 1) + (c + A / 65536 ^ i % 65536 + B / 65536 ^ i % 65536) / 65536 := by
    rw [sa, sb, ss, hd]
    generalize A / 65536 ^ i = q1 at *
    generalize B / 65536 ^ i = q2 at *
    omega
  have step : (0 < A / 65536 ^ i ∨ 0 < B / 65536 ^ i ∨ 0 < c) → again (dg A, (dg B, (lo (i + 1) (A + B), ((((c + A / 65536 ^ i % 65536 + B / 65536 ^ i % 65536) / 65536 : Nat) : Int), (((i : Nat) : Int) + 1, ()))))) = some ((dg (A + B), ()), ((), ((), ()))) := fun h =>
    hag _ ⟨i + 1, (c + A / 65536 ^ i % 65536 + B / 65536 ^ i % 65536) / 65536, by omega, hnx, .inr (by rw [Nat.add_sub_cancel]; exact hpos h), by rw [Int.natCast_add]; rfl⟩ (by simp only; omega)
  have fin : A / 65536 ^ i = 0 → B / 65536 ^ i = 0 → c = 0 → lo i (A + B) = dg (A + B) := fun h1 h2 h3 => lo_dg (by omega) hz
  clear hag hm hA hB
  unfold T_ref1_Add_loop0
  simp only [letR_eq, brR_dec, brR_inR, append_def, Int.toNat_natCast, lo_len, ga, gb]
  generalize A / 65536 ^ i = a1 at *
  generalize B / 65536 ^ i = b1 at *
  generalize (A + B) / 65536 ^ i = s1 at *
  generalize hla : (dg A).length = nla at *
  generalize hlb : (dg B).length = nlb at *
  have hroom : ∀ {α : Type} (a b : Option α), brR (roomy (i + 1) (.int .i64)) a b = a := fun a b => brR_roomI (by omega) a b
  simp only [hroom]
  have hv6 : IntKind.wrap .i64 (((c : Nat) : Int) + ((a1 % 65536 : Nat) : Int)) = ((c + a1 % 65536 : Nat) : Int) := by rw [w_i64 (by omega) (by omega)]; omega
  have hv7 : IntKind.wrap .i64 (((c : Nat) : Int) + ((b1 % 65536 : Nat) : Int)) = ((c + b1 % 65536 : Nat) : Int) := by rw [w_i64 (by omega) (by omega)]; omega
  have hv8 : IntKind.wrap .i64 (((c + a1 % 65536 : Nat) : Int) + ((b1 % 65536 : Nat) : Int)) = ((c + a1 % 65536 + b1 % 65536 : Nat) : Int) := by rw [w_i64 (by omega) (by omega)]; omega
  have hwi : IntKind.wrap .i64 (((i : Nat) : Int) + 1) = ((i : Nat) : Int) + 1 := w_i64 (by omega) (by omega)
  have hfd : ∀ k : Nat, Int.fdiv ((k : Nat) : Int) 65536 = ((k / 65536 : Nat) : Int) := fun k => by rw [Int.fdiv_eq_ediv_of_nonneg _ (by omega)]; omega
  have hwm : ∀ k : Nat, IntKind.wrap .i64 (((k % 65536 : Nat) : Int)) = ((k % 65536 : Nat) : Int) := fun k => w_i64 (by omega) (by omega)
  simp only [hv6, hv7, hv8, hwi]
  rw [and65535 (n := c + a1 % 65536 + b1 % 65536) (by omega), and65535 (n := c + a1 % 65536) (by omega), and65535 (n := c + b1 % 65536) (by omega), and65535 (n := c) (by omega)]
  simp only [hfd, hwm]
  rw [hls] at step
  have ed : s1 % 65536 = (c + a1 % 65536 + b1 % 65536) % 65536 := by omega
  rw [ed] at step
  by_cases ca : ((i : Nat) : Int) < ((nla : Nat) : Int)
  · have ia : (0 : Int) ≤ ((i : Nat) : Int) ∧ ((i : Nat) : Int) < ((nla : Nat) : Int) := by omega
    simp only [if_pos ca, if_pos ia]
    by_cases cb : ((i : Nat) : Int) < ((nlb : Nat) : Int)
    · have ib : (0 : Int) ≤ ((i : Nat) : Int) ∧ ((i : Nat) : Int) < ((nlb : Nat) : Int) := by omega
      simp only [if_pos cb, if_pos ib]
      exact step (by omega)
    · simp only [if_neg cb]
      have : b1 = 0 := by omega
      subst this
      have := step (by omega)
      simp only [Nat.zero_mod, Nat.add_zero] at this
      exact this
  · have ha0 : a1 = 0 := by omega
    subst ha0
    simp only [if_neg ca]
    by_cases cb : ((i : Nat) : Int) < ((nlb : Nat) : Int)
    · have ib : (0 : Int) ≤ ((i : Nat) : Int) ∧ ((i : Nat) : Int) < ((nlb : Nat) : Int) := by omega
      simp only [if_pos cb, if_pos ib]
      have := step (by omega)
      simp only [Nat.zero_mod, Nat.add_zero] at this
      exact this
    · have hb0 : b1 = 0 := by omega
      subst hb0
      simp only [if_neg cb]
      by_cases cc : ((c : Nat) : Int) > 0
      · simp only [if_pos cc]
        have := step (by omega)
        simp only [Nat.zero_mod, Nat.add_zero] at this
        exact this
      · rw [if_neg cc, fin rfl rfl (by omega)]
theorem limb_get {n q : Nat} (hn : n < 115792089237316195423570985008687907853269984665640564039457584007913129639936) (hq : q < 4) : List.getD (lim n) q 0 = ((n / 18446744073709551616 ^ q % 18446744073709551616 : Nat) : Int) := by
  unfold lim
  match q, hq with
  | 0, _ => simp
  | 1, _ => simp
  | 2, _ => simp only [List.getD_cons_succ, List.getD_cons_zero, Nat.reducePow]
  | 3, _ =>
    simp only [List.getD_cons_succ, List.getD_cons_zero, Nat.reducePow]
    omega
theorem pow16 (r : Nat) : (65536 : Nat) ^ r = 2 ^ (16 * r) := by rw [Nat.pow_mul]
theorem digit_of {n i : Nat} (hi : i < 16) : n / 18446744073709551616 ^ (i / 4) % 18446744073709551616 / 2 ^ (16 * (i % 4)) % 65536 = n / 65536 ^ i % 65536 := by
  have e : (65536 : Nat) ^ i = 18446744073709551616 ^ (i / 4) * 2 ^ (16 * (i % 4)) := by
    rw [show (18446744073709551616 : Nat) = 65536 ^ 4 from by decide, ← Nat.pow_mul, ← pow16, ← Nat.pow_add]
    congr 1
    omega
  rw [e, ← Nat.div_div_eq_div_mul]
  generalize n / 18446744073709551616 ^ (i / 4) = Y
  have : i % 4 = 0 ∨ i % 4 = 1 ∨ i % 4 = 2 ∨ i % 4 = 3 := by omega
  rcases this with h | h | h | h
  all_goals
    rw [h]
    simp only [Nat.reduceMul, Nat.reducePow]
    omega
theorem from_eq {n : Nat} (hn : n < 115792089237316195423570985008687907853269984665640564039457584007913129639936) : sol_ref1_FromUint256 (lim n, ()) = some ((dg n, ()), ((), ())) := by
  unfold sol_ref1_FromUint256 T_ref1_FromUint256
  have h16 : n / 65536 ^ 16 = 0 := Nat.div_eq_of_lt (by rw [show (65536 : Nat) ^ 16 = 115792089237316195423570985008687907853269984665640564039457584007913129639936 from by decide]; exact hn)
  refine bigLoop_rule (I := fun x => ∃ i : Nat, i ≤ 16 ∧ x = (lim n, (lo i n ++ List.replicate (16 - i) 0, (((i : Nat) : Int), ())))) (m := fun x => ((16 : Int) - x.2.2.1).toNat) (g := fun _ => some ((dg n, ()), ((), ()))) ?_ ⟨0, by omega, rfl⟩ (by rw [bigN_eq]; simp only; omega)
  rintro x again ⟨i, hi, rfl⟩ hag
  simp only at hag ⊢
  unfold T_ref1_FromUint256_loop0
  simp only [letR_eq, brR_dec, brR_inR]
  by_cases h1 : ((i : Nat) : Int) < 16
  · have hi16 : i < 16 := by omega
    have t1 : Int.tmod ((i : Nat) : Int) 4 = ((i % 4 : Nat) : Int) := by rw [tmod_pos (by omega)]; omega
    have t2 : Int.tdiv ((i : Nat) : Int) 4 = ((i / 4 : Nat) : Int) := by rw [tdiv_pos (by omega)]; omega
    have t3 : IntKind.wrap .i64 ((16 : Int) * ((i % 4 : Nat) : Int)) = ((16 * (i % 4) : Nat) : Int) := by rw [w_i64 (by omega) (by omega)]; omega
    have t4 : IntKind.wrap .u64 (((16 * (i % 4) : Nat) : Int)) = ((16 * (i % 4) : Nat) : Int) := w_u64 (by omega) (by omega)
    have t5 : IntKind.wrap .i64 (((i / 4 : Nat) : Int)) = ((i / 4 : Nat) : Int) := w_i64 (by omega) (by omega)
    have t6 : IntKind.wrap .i64 (((i : Nat) : Int) + 1) = ((i : Nat) : Int) + 1 := w_i64 (by omega) (by omega)
    simp only [t1, t2, t3, t4, t5, t6]
    rw [if_pos h1, if_pos (by omega), if_pos (by omega), if_pos (by rw [List.length_append, lo_len, List.length_replicate]; omega), Int.toNat_natCast, Int.toNat_natCast, Int.toNat_natCast, limb_get hn (by omega), Nat.min_eq_left (by omega)]
    have hq : Int.fdiv ((n / 18446744073709551616 ^ (i / 4) % 18446744073709551616 : Nat) : Int) ((2 : Int) ^ (16 * (i % 4))) = ((n / 18446744073709551616 ^ (i / 4) % 18446744073709551616 / 2 ^ (16 * (i % 4)) : Nat) : Int) := by
      rw [Int.fdiv_eq_ediv_of_nonneg _ (Int.le_of_lt (Int.pow_pos (by omega)))]
      rw [Int.natCast_ediv, Int.natCast_pow]
      rfl
    rw [hq, and65535 (by
      refine Nat.lt_of_le_of_lt (Nat.div_le_self _ _) ?_
      exact Nat.mod_lt _ (by omega)), digit_of hi16]
    have hset : List.set (lo i n ++ List.replicate (16 - i) 0) i ((n / 65536 ^ i % 65536 : Nat) : Int) = lo (i + 1) n ++ List.replicate (16 - (i + 1)) 0 := by
      rw [List.set_append, if_neg (by rw [lo_len]; omega), lo_len, Nat.sub_self, show 16 - i = (16 - (i + 1)) + 1 by omega, List.replicate_succ, List.set_cons_zero, lo_succ]
      simp
    have hw : IntKind.wrap .i64 (IntKind.wrap .u64 (((n / 65536 ^ i % 65536 : Nat) : Int))) = ((n / 65536 ^ i % 65536 : Nat) : Int) := by
      have := Nat.mod_lt (n / 65536 ^ i) (show 0 < 65536 by omega)
      rw [w_u64 (by omega) (by omega), w_i64 (by omega) (by omega)]
    rw [hw, hset]
    exact hag _ ⟨i + 1, by omega, by rw [Int.natCast_add]; rfl⟩ (by simp only; omega)
  · have hi16 : i = 16 := by omega
    subst hi16
    rw [if_neg h1, Nat.sub_self, List.replicate_zero, List.append_nil, norm_lo (by omega) h16]
    rfl
theorem fits_iff {n : Nat} : (dg n).length ≤ 16 ↔ n < 115792089237316195423570985008687907853269984665640564039457584007913129639936 := by
  rw [dg_len_le, show (65536 : Nat) ^ 16 = 115792089237316195423570985008687907853269984665640564039457584007913129639936 from by decide]
  omega
theorem fits_eq (n : Nat) : sol_ref1_Fits (dg n, ()) = some ((decide (n < 115792089237316195423570985008687907853269984665640564039457584007913129639936), ()), ((), ())) := by
  unfold sol_ref1_Fits T_ref1_Fits
  simp only
  by_cases h : n < 115792089237316195423570985008687907853269984665640564039457584007913129639936
  · rw [decide_eq_true h, decide_eq_true (by have := fits_iff.2 h; omega)]
  · rw [decide_eq_false h, decide_eq_false (by
      intro h2
      exact h (fits_iff.1 (by omega)))]
theorem lim_step {n i : Nat} (hi : i < 16) : List.set (lim (n % 65536 ^ i)) (i / 4) ((((n % 65536 ^ i) / 18446744073709551616 ^ (i / 4) % 18446744073709551616 + (n / 65536 ^ i % 65536) * 2 ^ (16 * (i % 4))) % 18446744073709551616 : Nat) : Int) = lim (n % 65536 ^ (i + 1)) := by
  have key : n % 65536 ^ (i + 1) = n % 65536 ^ i + 65536 ^ i * (n / 65536 ^ i % 65536) := by rw [Nat.pow_succ, Nat.mod_mul]
  rw [key]
  have hd := Nat.mod_lt (n / 65536 ^ i) (show 0 < 65536 by omega)
  have hm := Nat.mod_lt n (show 0 < 65536 ^ i from Nat.pow_pos (by omega))
  generalize n / 65536 ^ i % 65536 = d at hd ⊢
  generalize n % 65536 ^ i = m at hm ⊢
  have hc : i = 0 ∨ i = 1 ∨ i = 2 ∨ i = 3 ∨ i = 4 ∨ i = 5 ∨ i = 6 ∨ i = 7 ∨ i = 8 ∨ i = 9 ∨ i = 10 ∨ i = 11 ∨ i = 12 ∨ i = 13 ∨ i = 14 ∨ i = 15 := by omega
  unfold lim
  rcases hc with rfl | rfl | rfl | rfl | rfl | rfl | rfl | rfl | rfl | rfl | rfl | rfl | rfl | rfl | rfl | rfl
  all_goals
    simp only [Nat.reduceDiv, Nat.reduceMod, Nat.reduceMul, Nat.reducePow, Nat.pow_zero, Nat.div_one, Nat.mul_one, List.set_cons_zero, List.set_cons_succ, List.cons.injEq, and_true] at hm ⊢
    refine ⟨?_, ?_, ?_, ?_⟩ <;> omega
theorem lim0 : lim 0 = [(0 : Int), (0 : Int), (0 : Int), (0 : Int)] := rfl
theorem to_eq {n : Nat} (hn : n < 115792089237316195423570985008687907853269984665640564039457584007913129639936) : sol_ref1_ToUint256 (dg n, ()) = some ((lim n, ()), ((), ())) := by
  unfold sol_ref1_ToUint256 T_ref1_ToUint256
  have hl := fits_iff.2 hn
  have hend : n % 65536 ^ (dg n).length = n := by
    have := (dg_len_le (n := n) (k := (dg n).length)).1 (Nat.le_refl _)
    exact Nat.mod_eq_of_lt ((Nat.div_eq_zero_iff_lt (Nat.pow_pos (by omega))).1 this)
  refine bigLoop_rule (I := fun x => ∃ i : Nat, i ≤ (dg n).length ∧ x = (dg n, ([(0 : Int), (0 : Int), (0 : Int), (0 : Int)], (lim (n % 65536 ^ i), (((i : Nat) : Int), ()))))) (m := fun x => ((17 : Int) - x.2.2.2.1).toNat) (g := fun _ => some ((lim n, ()), ((), ()))) ?_
    ⟨0, by omega, by rw [Nat.pow_zero, Nat.mod_one, lim0]; rfl⟩ (by rw [bigN_eq]; simp only; omega)
  rintro x again ⟨i, hi, rfl⟩ hag
  simp only at hag ⊢
  unfold T_ref1_ToUint256_loop0
  simp only [letR_eq, brR_dec, brR_inR]
  by_cases h1 : ((i : Nat) : Int) < (((dg n).length : Nat) : Int)
  · have hi16 : i < 16 := by omega
    have t1 : Int.tmod ((i : Nat) : Int) 4 = ((i % 4 : Nat) : Int) := by rw [tmod_pos (by omega)]; omega
    have t2 : Int.tdiv ((i : Nat) : Int) 4 = ((i / 4 : Nat) : Int) := by rw [tdiv_pos (by omega)]; omega
    have t3 : IntKind.wrap .i64 ((16 : Int) * ((i % 4 : Nat) : Int)) = ((16 * (i % 4) : Nat) : Int) := by rw [w_i64 (by omega) (by omega)]; omega
    have t4 : IntKind.wrap .u64 (((16 * (i % 4) : Nat) : Int)) = ((16 * (i % 4) : Nat) : Int) := w_u64 (by omega) (by omega)
    have t5 : IntKind.wrap .i64 (((i / 4 : Nat) : Int)) = ((i / 4 : Nat) : Int) := w_i64 (by omega) (by omega)
    have t6 : IntKind.wrap .i64 (((i : Nat) : Int) + 1) = ((i : Nat) : Int) + 1 := w_i64 (by omega) (by omega)
    simp only [t1, t2, t3, t4, t5, t6]
    have hd := Nat.mod_lt (n / 65536 ^ i) (show 0 < 65536 by omega)
    have hmn : n % 65536 ^ i < 115792089237316195423570985008687907853269984665640564039457584007913129639936 := Nat.lt_of_le_of_lt (Nat.mod_le _ _) hn
    rw [if_pos h1, if_pos (by omega), if_pos (by omega), if_pos (by omega), if_pos (by omega), if_pos (by omega), Int.toNat_natCast, Int.toNat_natCast, Int.toNat_natCast, limb_get hmn (by omega), dg_get, Nat.min_eq_left (by omega)]
    have hw1 : IntKind.wrap .u64 (((n / 65536 ^ i % 65536 : Nat) : Int)) = ((n / 65536 ^ i % 65536 : Nat) : Int) := w_u64 (by omega) (by omega)
    have hr : 2 ^ (16 * (i % 4)) ≤ 281474976710656 := by
      have : i % 4 = 0 ∨ i % 4 = 1 ∨ i % 4 = 2 ∨ i % 4 = 3 := by omega
      rcases this with h | h | h | h <;> rw [h] <;> decide
    have hw2 : IntKind.wrap .u64 (((n / 65536 ^ i % 65536 : Nat) : Int) * (2 : Int) ^ (16 * (i % 4))) = (((n / 65536 ^ i % 65536) * 2 ^ (16 * (i % 4)) : Nat) : Int) := by
      have h65 : (n / 65536 ^ i % 65536) * 2 ^ (16 * (i % 4)) ≤ 65535 * 281474976710656 := Nat.mul_le_mul (by omega) hr
      have e : ((n / 65536 ^ i % 65536 : Nat) : Int) * (2 : Int) ^ (16 * (i % 4)) = (((n / 65536 ^ i % 65536) * 2 ^ (16 * (i % 4)) : Nat) : Int) := by
        rw [Int.natCast_mul, Int.natCast_pow]; rfl
      rw [e, w_u64 (by omega) (by omega)]
    have hw3 : ∀ a b : Nat, IntKind.wrap .u64 (((a : Nat) : Int) + ((b : Nat) : Int)) = (((a + b) % 18446744073709551616 : Nat) : Int) := fun a b => by rw [IntKind.wrap_u64]; omega
    rw [hw1, hw2, hw3, lim_step hi16]
    exact hag _ ⟨i + 1, by omega, by rw [Int.natCast_add]; rfl⟩ (by simp only; omega)
  · have hie : i = (dg n).length := by omega
    rw [if_neg h1, hie, hend]
theorem checked_eq (n : Nat) : sol_ref1_Checked (dg n, ()) = some ((if n < 115792089237316195423570985008687907853269984665640564039457584007913129639936 then (lim n, ((0 : Int), ())) else ([(0 : Int), (0 : Int), (0 : Int), (0 : Int)], ((4 : Int), ()))), ((), ())) := by
  unfold sol_ref1_Checked T_ref1_Checked
  rw [fits_eq]
  simp only [bind_some', brR_not, brR_dec]
  by_cases h : n < 115792089237316195423570985008687907853269984665640564039457584007913129639936
  · rw [if_pos h, if_pos h, to_eq h]
    rfl
  · rw [if_neg h, if_neg h]
theorem add256_eq {a b : Nat} (ha : a < 115792089237316195423570985008687907853269984665640564039457584007913129639936) (hb : b < 115792089237316195423570985008687907853269984665640564039457584007913129639936) :
    sol_ref1_Add256 (lim a, (lim b, ())) = some ((if a + b < 115792089237316195423570985008687907853269984665640564039457584007913129639936 then (lim (a + b), ((0 : Int), ())) else ([(0 : Int), (0 : Int), (0 : Int), (0 : Int)], ((4 : Int), ()))), ((), ((), ()))) := by
  have la := fits_iff.2 ha; have lb := fits_iff.2 hb
  unfold sol_ref1_Add256 T_ref1_Add256
  rw [from_eq ha]; simp only [bind_some']
  rw [from_eq hb]; simp only [bind_some']
  rw [add_loop_eq (by omega) (by omega)]; simp only [bind_some']
  rw [checked_eq]
  rfl
def cmpN (a b : Nat) : Int := if a < b then -1 else if b < a then 1 else 0
theorem cmp_eq {a b : Nat} (ha : (dg a).length ≤ 1000) (hb : (dg b).length ≤ 1000) : sol_ref1_Cmp (dg a, (dg b, ())) = some ((cmpN a b, ()), ((), ((), ()))) := by
  have ltl : ∀ {x y : Nat}, (dg x).length < (dg y).length → x < y := fun {x y} h => by
    have h1 := (dg_len_le (n := x) (k := (dg x).length)).1 (Nat.le_refl _)
    have h2 := (dg_len (dg x).length y).1 h
    have p0 : 0 < 65536 ^ (dg x).length := Nat.pow_pos (by omega)
    have h3 := (Nat.div_eq_zero_iff_lt p0).1 h1
    rcases Nat.lt_or_ge x y with h | h
    · exact h
    · have : y / 65536 ^ (dg x).length ≤ x / 65536 ^ (dg x).length := Nat.div_le_div_right h
      omega
  unfold sol_ref1_Cmp T_ref1_Cmp
  simp only [brR_not, brR_dec]
  by_cases hl : (((dg a).length : Nat) : Int) = (((dg b).length : Nat) : Int)
  · rw [if_pos hl]
    have hl' : (dg a).length = (dg b).length := by omega
    rw [w_i64 (by omega) (by omega)]
    refine bigLoop_rule (I := fun x => ∃ i : Nat, i ≤ (dg a).length ∧ a / 65536 ^ i = b / 65536 ^ i ∧ x = (dg a, (dg b, (((i : Nat) : Int) - 1, ())))) (m := fun x => (x.2.2.1 + 1).toNat) (g := fun _ => some ((cmpN a b, ()), ((), ((), ())))) ?_
      ⟨(dg a).length, Nat.le_refl _, by rw [(dg_len_le (n := a)).1 (Nat.le_refl _), hl', (dg_len_le (n := b)).1 (Nat.le_refl _)], rfl⟩ (by rw [bigN_eq]; simp only; omega)
    rintro x again ⟨i, hi, he, rfl⟩ hag
    simp only at hag ⊢
    unfold T_ref1_Cmp_loop0
    simp only [brR_dec, brR_inR]
    by_cases h1 : ((i : Nat) : Int) - 1 ≥ 0
    · have hti : (((i : Nat) : Int) - 1).toNat = i - 1 := by omega
      have ea := div_pow_succ' a (i - 1); have eb := div_pow_succ' b (i - 1)
      rw [show i - 1 + 1 = i by omega] at ea eb
      have lta : a / 65536 ^ (i - 1) < b / 65536 ^ (i - 1) → a < b := fun h => by
        rcases Nat.lt_or_ge a b with h' | h'
        · exact h'
        · have : b / 65536 ^ (i - 1) ≤ a / 65536 ^ (i - 1) := Nat.div_le_div_right h'
          omega
      have ltb : b / 65536 ^ (i - 1) < a / 65536 ^ (i - 1) → b < a := fun h => by
        rcases Nat.lt_or_ge b a with h' | h'
        · exact h'
        · have : a / 65536 ^ (i - 1) ≤ b / 65536 ^ (i - 1) := Nat.div_le_div_right h'
          omega
      have hnx : a / 65536 ^ (i - 1) = b / 65536 ^ (i - 1) → again (dg a, (dg b, (((i : Nat) : Int) - 1 - 1, ()))) = some ((cmpN a b, ()), ((), ((), ()))) := fun h =>
        hag _ ⟨i - 1, by omega, h, by rw [show ((i - 1 : Nat) : Int) = (i : Int) - 1 by omega]⟩ (by simp only; omega)
      have iA : (0 : Int) ≤ ((i : Nat) : Int) - 1 ∧ ((i : Nat) : Int) - 1 < (((dg a).length : Nat) : Int) := by omega
      have iB : (0 : Int) ≤ ((i : Nat) : Int) - 1 ∧ ((i : Nat) : Int) - 1 < (((dg b).length : Nat) : Int) := by omega
      simp only [if_pos h1, if_pos iA, if_pos iB]
      rw [hti, dg_get, dg_get, w_i64 (by omega) (by omega)]
      rw [ea, eb] at he
      clear hag
      generalize a / 65536 ^ (i - 1) = qa at *
      generalize b / 65536 ^ (i - 1) = qb at *
      by_cases c1 : ((qa % 65536 : Nat) : Int) < ((qb % 65536 : Nat) : Int)
      · rw [if_pos c1]
        unfold cmpN
        rw [if_pos (lta (by omega))]
      · rw [if_neg c1]
        by_cases c2 : ((qa % 65536 : Nat) : Int) > ((qb % 65536 : Nat) : Int)
        · rw [if_pos c2]
          have := ltb (by omega)
          unfold cmpN
          rw [if_neg (by omega), if_pos this]
        · rw [if_neg c2]
          exact hnx (by omega)
    · have : i = 0 := by omega
      subst this
      rw [if_neg h1]
      simp only [Nat.pow_zero, Nat.div_one] at he
      subst he
      unfold cmpN
      simp
  · rw [if_neg hl]
    by_cases hlt : (((dg a).length : Nat) : Int) < (((dg b).length : Nat) : Int)
    · rw [if_pos hlt]
      unfold cmpN
      rw [if_pos (ltl (by omega))]
    · rw [if_neg hlt]
      have := ltl (x := b) (y := a) (by omega)
      unfold cmpN
      rw [if_neg (by omega), if_pos this]
theorem sub_loop_eq {A D B : Nat} (hD : A = B + D) (hA : (dg A).length ≤ 1000) : sol_ref1_Sub (dg A, (dg B, ())) = some ((dg D, ()), ((), ((), ()))) := by
  unfold sol_ref1_Sub T_ref1_Sub
  have hend : A / 65536 ^ (dg A).length = 0 := (dg_len_le (n := A)).1 (Nat.le_refl _)
  have hDend : D / 65536 ^ (dg A).length = 0 := by
    have : D / 65536 ^ (dg A).length ≤ A / 65536 ^ (dg A).length := Nat.div_le_div_right (by omega)
    rw [hend] at this
    exact Nat.le_zero.1 this
  rw [decide_eq_true (show (0 : Int) ≤ (((dg A).length : Nat) : Int) by omega), decide_eq_true (Int.le_refl _), Int.toNat_natCast]
  simp only [Bool.and_self, Bool.true_and, Bool.and_true]
  rw [brR_roomI (by omega)]
  refine bigLoop_rule (I := fun x => ∃ (i u : Nat), i ≤ (dg A).length ∧ u ≤ 1 ∧ A / 65536 ^ i = B / 65536 ^ i + D / 65536 ^ i + u ∧ x = (dg A, (dg B, (lo i D ++ List.replicate ((dg A).length - i) 0, (((u : Nat) : Int), (((i : Nat) : Int), ()))))))
    (m := fun x => ((1001 : Int) - x.2.2.2.2.1).toNat) (g := fun _ => some ((dg D, ()), ((), ((), ())))) ?_ ⟨0, 0, by omega, by omega, by simp [hD], rfl⟩ (by rw [bigN_eq]; simp only; omega)
  rintro x again ⟨i, u, hi, hu, hd, rfl⟩ hag
  simp only at hag ⊢
  have la := dg_len i A; have lb := dg_len i B
  have ga := dg_get i A; have gb := dg_get i B
  have sa := div_pow_succ' A i; have sb := div_pow_succ' B i; have sd := div_pow_succ' D i
  have hset : i < (dg A).length → List.set (lo i D ++ List.replicate ((dg A).length - i) 0) i ((D / 65536 ^ i % 65536 : Nat) : Int) = lo (i + 1) D ++ List.replicate ((dg A).length - (i + 1)) 0 := fun h => by
    rw [List.set_append, if_neg (by rw [lo_len]; omega), lo_len, Nat.sub_self, show (dg A).length - i = ((dg A).length - (i + 1)) + 1 by omega, List.replicate_succ, List.set_cons_zero, lo_succ]
    simp
  have hol : (lo i D ++ List.replicate ((dg A).length - i) 0).length = (dg A).length := by rw [List.length_append, lo_len, List.length_replicate]; omega
  have step : ∀ u' : Nat, u' ≤ 1 → A / 65536 ^ i / 65536 = B / 65536 ^ i / 65536 + D / 65536 ^ i / 65536 + u' → i < (dg A).length → again (dg A, (dg B, (lo (i + 1) D ++ List.replicate ((dg A).length - (i + 1)) 0, (((u' : Nat) : Int), (((i : Nat) : Int) + 1, ()))))) = some ((dg D, ()), ((), ((), ()))) := fun u' h1 h2 h3 =>
    hag _ ⟨i + 1, u', by omega, h1, by rw [sa, sb, sd]; exact h2, by rw [Int.natCast_add]; rfl⟩ (by simp only; omega)
  clear hag
  unfold T_ref1_Sub_loop0
  simp only [letR_eq, brR_dec, brR_inR, Int.toNat_natCast, ga, gb, hol]
  by_cases h1 : ((i : Nat) : Int) < (((dg A).length : Nat) : Int)
  · have hil : i < (dg A).length := by omega
    have hset := hset hil
    have step := fun u' h1 h2 => step u' h1 h2 hil
    have iA : (0 : Int) ≤ ((i : Nat) : Int) ∧ ((i : Nat) : Int) < (((dg A).length : Nat) : Int) := by omega
    have hwi : IntKind.wrap .i64 (((i : Nat) : Int) + 1) = ((i : Nat) : Int) + 1 := w_i64 (by omega) (by omega)
    simp only [if_pos h1, if_pos iA, hwi]
    generalize A / 65536 ^ i = a1 at *
    generalize B / 65536 ^ i = b1 at *
    generalize D / 65536 ^ i = d1 at *
    generalize (dg A).length = nla at *
    generalize (dg B).length = nlb at *
    have hv6 : IntKind.wrap .i64 (((a1 % 65536 : Nat) : Int) - ((u : Nat) : Int)) = ((a1 % 65536 : Nat) : Int) - ((u : Nat) : Int) := w_i64 (by omega) (by omega)
    have hv7 : IntKind.wrap .i64 (((a1 % 65536 : Nat) : Int) - ((u : Nat) : Int) - ((b1 % 65536 : Nat) : Int)) = ((a1 % 65536 : Nat) : Int) - ((u : Nat) : Int) - ((b1 % 65536 : Nat) : Int) := w_i64 (by omega) (by omega)
    have hv8 : IntKind.wrap .i64 (((a1 % 65536 : Nat) : Int) - ((u : Nat) : Int) + 65536) = ((a1 % 65536 : Nat) : Int) - ((u : Nat) : Int) + 65536 := w_i64 (by omega) (by omega)
    have hv9 : IntKind.wrap .i64 (((a1 % 65536 : Nat) : Int) - ((u : Nat) : Int) - ((b1 % 65536 : Nat) : Int) + 65536) = ((a1 % 65536 : Nat) : Int) - ((u : Nat) : Int) - ((b1 % 65536 : Nat) : Int) + 65536 := w_i64 (by omega) (by omega)
    simp only [hv6, hv7, hv8, hv9]
    by_cases cb : ((i : Nat) : Int) < ((nlb : Nat) : Int)
    · have iB : (0 : Int) ≤ ((i : Nat) : Int) ∧ ((i : Nat) : Int) < ((nlb : Nat) : Int) := by omega
      simp only [if_pos cb, if_pos iB]
      by_cases cn : ((a1 % 65536 : Nat) : Int) - ((u : Nat) : Int) - ((b1 % 65536 : Nat) : Int) < 0
      · rw [if_pos cn, show ((a1 % 65536 : Nat) : Int) - ((u : Nat) : Int) - ((b1 % 65536 : Nat) : Int) + 65536 = ((d1 % 65536 : Nat) : Int) by omega, hset]
        exact step 1 (by omega) (by omega)
      · rw [if_neg cn, show ((a1 % 65536 : Nat) : Int) - ((u : Nat) : Int) - ((b1 % 65536 : Nat) : Int) = ((d1 % 65536 : Nat) : Int) by omega, hset]
        exact step 0 (by omega) (by omega)
    · have hb0 : b1 = 0 := by omega
      subst hb0
      simp only [if_neg cb]
      by_cases cn : ((a1 % 65536 : Nat) : Int) - ((u : Nat) : Int) < 0
      · rw [if_pos cn, show ((a1 % 65536 : Nat) : Int) - ((u : Nat) : Int) + 65536 = ((d1 % 65536 : Nat) : Int) by omega, hset]
        exact step 1 (by omega) (by omega)
      · rw [if_neg cn, show ((a1 % 65536 : Nat) : Int) - ((u : Nat) : Int) = ((d1 % 65536 : Nat) : Int) by omega, hset]
        exact step 0 (by omega) (by omega)
  · have hie : i = (dg A).length := by omega
    rw [if_neg h1]
    subst hie
    rw [Nat.sub_self, List.replicate_zero, List.append_nil, norm_lo (by omega) hDend]
    rfl
theorem sub256_eq {a b : Nat} (ha : a < 115792089237316195423570985008687907853269984665640564039457584007913129639936) (hb : b < 115792089237316195423570985008687907853269984665640564039457584007913129639936) :
    sol_ref1_Sub256 (lim a, (lim b, ())) = some ((if b ≤ a then (lim (a - b), ((0 : Int), ())) else ([(0 : Int), (0 : Int), (0 : Int), (0 : Int)], ((4 : Int), ()))), ((), ((), ()))) := by
  have la := fits_iff.2 ha; have lb := fits_iff.2 hb
  unfold sol_ref1_Sub256 T_ref1_Sub256
  rw [from_eq ha]; simp only [bind_some']
  rw [from_eq hb]; simp only [bind_some']
  rw [cmp_eq (by omega) (by omega)]; simp only [bind_some', brR_dec]
  unfold cmpN
  by_cases h : b ≤ a
  · rw [if_neg (show ¬ a < b by omega), if_neg (by split <;> omega), if_pos h, sub_loop_eq (A := a) (B := b) (D := a - b) (by omega) (by omega)]
    simp only [bind_some']
    rw [to_eq (by omega)]
    rfl
  · rw [if_pos (show a < b by omega), if_pos (by omega), if_neg h]
theorem isZero_eq (n : Nat) : sol_ref1_IsZero (lim n, ()) = some ((decide (n = 0), ()), ((), ())) := by
  unfold sol_ref1_IsZero T_ref1_IsZero
  rw [← lim0, eqD_lim]
end Go.Pon
set_option autoImplicit false
set_option linter.unusedVariables false
set_option linter.unusedSimpArgs false
namespace Go.Pon
open Go
def xor32 (x y : Nat) : Nat := (x % 4294967296) ^^^ (y % 4294967296)
def and32 (x y : Nat) : Nat := (x % 4294967296) &&& (y % 4294967296)
def or32 (x y : Nat) : Nat := (x % 4294967296) ||| (y % 4294967296)
def add32 (x y : Nat) : Nat := (x + y) % 4294967296
def rotr (x n : Nat) : Nat := or32 (x * 2 ^ (32 - n) % 4294967296) (x / 2 ^ n)
theorem xor32_lt (x y : Nat) : xor32 x y < 4294967296 := Nat.xor_lt_two_pow (n := 32) (Nat.mod_lt _ (by omega)) (Nat.mod_lt _ (by omega))
theorem and32_lt (x y : Nat) : and32 x y < 4294967296 := Nat.and_lt_two_pow (n := 32) _ (Nat.mod_lt _ (by omega))
theorem or32_lt (x y : Nat) : or32 x y < 4294967296 := Nat.or_lt_two_pow (n := 32) (Nat.mod_lt _ (by omega)) (Nat.mod_lt _ (by omega))
theorem or32_comm (x y : Nat) : or32 x y = or32 y x := Nat.or_comm _ _
theorem add32_assoc (x y z : Nat) : add32 (add32 x y) z = add32 x (add32 y z) := by unfold add32; omega
theorem wu32_nat (x : Nat) : IntKind.wrap .u32 ((x : Nat) : Int) = ((x % 4294967296 : Nat) : Int) := by rw [IntKind.wrap_u32]; omega
theorem x32 (x y : Nat) : IntKind.wrap .u32 ((BitVec.toNat (BitVec.ofInt 32 ((x : Nat) : Int) ^^^ BitVec.ofInt 32 ((y : Nat) : Int)) : Nat) : Int) = ((xor32 x y : Nat) : Int) := by
  rw [BitVec.toNat_xor, BitVec.ofInt_natCast, BitVec.ofInt_natCast, BitVec.toNat_ofNat, BitVec.toNat_ofNat, wu32_nat, ← Nat.mod_eq_of_lt (xor32_lt x y)]; rfl
theorem n32 (x y : Nat) : IntKind.wrap .u32 ((BitVec.toNat (BitVec.ofInt 32 ((x : Nat) : Int) &&& BitVec.ofInt 32 ((y : Nat) : Int)) : Nat) : Int) = ((and32 x y : Nat) : Int) := by
  rw [BitVec.toNat_and, BitVec.ofInt_natCast, BitVec.ofInt_natCast, BitVec.toNat_ofNat, BitVec.toNat_ofNat, wu32_nat, ← Nat.mod_eq_of_lt (and32_lt x y)]; rfl
theorem o32 (x y : Nat) : IntKind.wrap .u32 ((BitVec.toNat (BitVec.ofInt 32 ((x : Nat) : Int) ||| BitVec.ofInt 32 ((y : Nat) : Int)) : Nat) : Int) = ((or32 x y : Nat) : Int) := by
  rw [BitVec.toNat_or, BitVec.ofInt_natCast, BitVec.ofInt_natCast, BitVec.toNat_ofNat, BitVec.toNat_ofNat, wu32_nat, ← Nat.mod_eq_of_lt (or32_lt x y)]; rfl
theorem a32 (x y : Nat) : IntKind.wrap .u32 (((x : Nat) : Int) + ((y : Nat) : Int)) = ((add32 x y : Nat) : Int) := by rw [← Int.natCast_add, wu32_nat]; rfl
theorem m32 (x c : Nat) : IntKind.wrap .u32 (((x : Nat) : Int) * ((c : Nat) : Int)) = ((x * c % 4294967296 : Nat) : Int) := by rw [← Int.natCast_mul, wu32_nat]
theorem d32 (x c : Nat) : Int.fdiv ((x : Nat) : Int) ((c : Nat) : Int) = ((x / c : Nat) : Int) := by rw [Int.fdiv_eq_ediv_of_nonneg _ (Int.natCast_nonneg _)]; rfl
def sig (r1 r2 s x : Nat) : Nat := xor32 (xor32 (rotr x r1) (rotr x r2)) (x / s)
def sum3 (r1 r2 r3 x : Nat) : Nat := xor32 (xor32 (rotr x r1) (rotr x r2)) (rotr x r3)
def word (b : List Int) (i : Nat) : Nat := (b.getD (4 * i) 0).toNat * 16777216 + (b.getD (4 * i + 1) 0).toNat * 65536 + (b.getD (4 * i + 2) 0).toNat * 256 + (b.getD (4 * i + 3) 0).toNat
def nextW (l : List Nat) (i : Nat) : Nat := add32 (add32 (add32 (l.getD (i - 16) 0) (sig 7 18 8 (l.getD (i - 15) 0))) (l.getD (i - 7) 0)) (sig 17 19 1024 (l.getD (i - 2) 0))
def sched (b : List Int) : Nat → List Nat
  | 0 => []
  | i + 1 => sched b i ++ [if i < 16 then word b i else nextW (sched b i) i]
def kTab : List Nat := [
  0x428a2f98, 0x71374491, 0xb5c0fbcf, 0xe9b5dba5, 0x3956c25b, 0x59f111f1, 0x923f82a4, 0xab1c5ed5,
  0xd807aa98, 0x12835b01, 0x243185be, 0x550c7dc3, 0x72be5d74, 0x80deb1fe, 0x9bdc06a7, 0xc19bf174,
  0xe49b69c1, 0xefbe4786, 0x0fc19dc6, 0x240ca1cc, 0x2de92c6f, 0x4a7484aa, 0x5cb0a9dc, 0x76f988da,
  0x983e5152, 0xa831c66d, 0xb00327c8, 0xbf597fc7, 0xc6e00bf3, 0xd5a79147, 0x06ca6351, 0x14292967,
  0x27b70a85, 0x2e1b2138, 0x4d2c6dfc, 0x53380d13, 0x650a7354, 0x766a0abb, 0x81c2c92e, 0x92722c85,
  0xa2bfe8a1, 0xa81a664b, 0xc24b8b70, 0xc76c51a3, 0xd192e819, 0xd6990624, 0xf40e3585, 0x106aa070,
  0x19a4c116, 0x1e376c08, 0x2748774c, 0x34b0bcb5, 0x391c0cb3, 0x4ed8aa4a, 0x5b9cca4f, 0x682e6ff3,
  0x748f82ee, 0x78a5636f, 0x84c87814, 0x8cc70208, 0x90befffa, 0xa4506ceb, 0xbef9a3f7, 0xc67178f2]
def iv : List Nat := [0x6a09e667, 0xbb67ae85, 0x3c6ef372, 0xa54ff53a, 0x510e527f, 0x9b05688c, 0x1f83d9ab, 0x5be0cd19]
def rnd (t : List Nat) (k w : Nat) : List Nat :=
  let a := t.getD 0 0; let b := t.getD 1 0; let c := t.getD 2 0; let e := t.getD 4 0; let f := t.getD 5 0; let g := t.getD 6 0
  let p := add32 (add32 (add32 (add32 (t.getD 7 0) (sum3 6 11 25 e)) (xor32 (and32 e f) (and32 (xor32 4294967295 e) g))) k) w
  [add32 (add32 p (sum3 2 13 22 a)) (xor32 (xor32 (and32 a b) (and32 a c)) (and32 b c)), a, b, c, add32 (t.getD 3 0) p, e, f, g]
def rounds (w s : List Nat) : Nat → List Nat
  | 0 => s
  | i + 1 => rnd (rounds w s i) (kTab.getD i 0) (w.getD i 0)
def addL (t s : List Nat) (i : Nat) : List Nat := (List.range 8).map fun j => if j < i then add32 (t.getD j 0) (s.getD j 0) else t.getD j 0
def comp (s : List Nat) (b : List Int) : List Nat := addL (rounds (sched b 64) s 64) s 8
def states (m : List Int) : Nat → List Nat
  | 0 => iv
  | i + 1 => comp (states m i) ((m.drop (64 * i)).take 64)
def padded (b : List Int) : List Int := b ++ 128 :: (List.replicate ((119 - b.length % 64) % 64) 0 ++ beB 8 (b.length * 8))
def shaOut (s : List Nat) : List Int := (List.range 32).map fun i => ((s.getD (i / 4) 0 / 2 ^ (24 - 8 * (i % 4)) % 256 : Nat) : Int)
def sha (b : List Int) : List Int := shaOut (states (padded b) ((padded b).length / 64))
theorem len_sha (b : List Int) : (sha b).length = 32 := by simp [sha, shaOut]
theorem bytes_sha (b : List Int) : Bytes (sha b) := by
  intro x hx
  simp only [sha, shaOut, List.mem_map] at hx
  obtain ⟨i, _, rfl⟩ := hx
  omega
end Go.Pon
set_option autoImplicit false
set_option linter.unusedVariables false
set_option linter.unusedSimpArgs false
set_option maxRecDepth 4000
namespace Go.Pon
open Go
def castL (l : List Nat) : List Int := l.map fun n => ((n : Nat) : Int)
theorem len_castL {l : List Nat} : (castL l).length = l.length := by simp [castL]
theorem castL_append {l m : List Nat} : castL (l ++ m) = castL l ++ castL m := by simp [castL]
theorem castL_getD {l : List Nat} {i : Nat} : (castL l).getD i 0 = ((l.getD i 0 : Nat) : Int) := by
  simp only [castL, List.getD_eq_getElem?_getD, List.getElem?_map]
  cases l[i]? <;> rfl
def part (l : List Nat) (n : Nat) : List Int := castL l ++ List.replicate (n - l.length) 0
theorem part_getD {l : List Nat} {n j : Nat} (h : j < l.length) : (part l n).getD j 0 = ((l.getD j 0 : Nat) : Int) := by
  rw [part, List.getD_eq_getElem?_getD, List.getElem?_append_left (by rw [len_castL]; exact h), ← List.getD_eq_getElem?_getD, castL_getD]
theorem part_set {l : List Nat} {n : Nat} (h : l.length < n) (x : Nat) : (part l n).set l.length ((x : Nat) : Int) = part (l ++ [x]) n := by
  have e : n - l.length = (n - (l.length + 1)) + 1 := by omega
  simp only [part, castL_append, List.length_append, List.length_singleton]
  rw [List.set_append, if_neg (by rw [len_castL]; omega), len_castL, Nat.sub_self, e, List.replicate_succ, List.set_cons_zero]
  simp [castL]
theorem part_full {l : List Nat} : part l l.length = castL l := by simp [part]
theorem part_nil {n : Nat} : part [] n = List.replicate n 0 := by simp [part, castL]
theorem len_sched (b : List Int) : ∀ i, (sched b i).length = i
  | 0 => rfl
  | i + 1 => by simp [sched, len_sched b i]
theorem rotl_eq (x n : Nat) (h1 : 1 ≤ n) (h2 : n ≤ 31) : sol_math_bits_RotateLeft32 (((x : Nat) : Int), (-((n : Nat) : Int), ())) = some ((((rotr x n : Nat) : Int), ()), ((), ((), ()))) := by
  unfold sol_math_bits_RotateLeft32 T_math_bits_RotateLeft32
  simp only [letR_eq]
  have e : ∀ n, n < 32 → 1 ≤ n → IntKind.wrap .u64 ((BitVec.toNat (BitVec.ofInt 64 (IntKind.wrap .u64 (-((n : Nat) : Int))) &&& BitVec.ofInt 64 31) : Nat) : Int) = ((32 - n : Nat) : Int) := by decide
  rw [e n (by omega) h1, brR_dec, if_pos (by omega), show (32 : Int) - ((32 - n : Nat) : Int) = ((n : Nat) : Int) by omega, w_u64 (by omega) (by omega), brR_dec, if_pos (by omega)]
  simp only [Int.toNat_natCast]
  have p : ∀ k : Nat, (2 : Int) ^ k = ((2 ^ k : Nat) : Int) := fun k => by rw [Int.natCast_pow]; rfl
  rw [Nat.min_eq_left (by omega), Nat.min_eq_left (by omega), p, p, m32, d32, o32]
  rfl
theorem rot7 (x : Nat) : sol_math_bits_RotateLeft32 (((x : Nat) : Int), ((-7 : Int), ())) = some ((((rotr x 7 : Nat) : Int), ()), ((), ((), ()))) := rotl_eq x 7 (by omega) (by omega)
theorem rot18 (x : Nat) : sol_math_bits_RotateLeft32 (((x : Nat) : Int), ((-18 : Int), ())) = some ((((rotr x 18 : Nat) : Int), ()), ((), ((), ()))) := rotl_eq x 18 (by omega) (by omega)
theorem rot17 (x : Nat) : sol_math_bits_RotateLeft32 (((x : Nat) : Int), ((-17 : Int), ())) = some ((((rotr x 17 : Nat) : Int), ()), ((), ((), ()))) := rotl_eq x 17 (by omega) (by omega)
theorem rot19 (x : Nat) : sol_math_bits_RotateLeft32 (((x : Nat) : Int), ((-19 : Int), ())) = some ((((rotr x 19 : Nat) : Int), ()), ((), ((), ()))) := rotl_eq x 19 (by omega) (by omega)
theorem rot6 (x : Nat) : sol_math_bits_RotateLeft32 (((x : Nat) : Int), ((-6 : Int), ())) = some ((((rotr x 6 : Nat) : Int), ()), ((), ((), ()))) := rotl_eq x 6 (by omega) (by omega)
theorem rot11 (x : Nat) : sol_math_bits_RotateLeft32 (((x : Nat) : Int), ((-11 : Int), ())) = some ((((rotr x 11 : Nat) : Int), ()), ((), ((), ()))) := rotl_eq x 11 (by omega) (by omega)
theorem rot25 (x : Nat) : sol_math_bits_RotateLeft32 (((x : Nat) : Int), ((-25 : Int), ())) = some ((((rotr x 25 : Nat) : Int), ()), ((), ((), ()))) := rotl_eq x 25 (by omega) (by omega)
theorem rot2 (x : Nat) : sol_math_bits_RotateLeft32 (((x : Nat) : Int), ((-2 : Int), ())) = some ((((rotr x 2 : Nat) : Int), ()), ((), ((), ()))) := rotl_eq x 2 (by omega) (by omega)
theorem rot13 (x : Nat) : sol_math_bits_RotateLeft32 (((x : Nat) : Int), ((-13 : Int), ())) = some ((((rotr x 13 : Nat) : Int), ()), ((), ((), ()))) := rotl_eq x 13 (by omega) (by omega)
theorem rot22 (x : Nat) : sol_math_bits_RotateLeft32 (((x : Nat) : Int), ((-22 : Int), ())) = some ((((rotr x 22 : Nat) : Int), ()), ((), ((), ()))) := rotl_eq x 22 (by omega) (by omega)
theorem d32_8 (x : Nat) : Int.fdiv ((x : Nat) : Int) 8 = ((x / 8 : Nat) : Int) := d32 x 8
theorem d32_1024 (x : Nat) : Int.fdiv ((x : Nat) : Int) 1024 = ((x / 1024 : Nat) : Int) := d32 x 1024
theorem not32 (x : Nat) : IntKind.wrap .u32 ((BitVec.toNat (BitVec.ofInt 32 4294967295 ^^^ BitVec.ofInt 32 ((x : Nat) : Int)) : Nat) : Int) = ((xor32 4294967295 x : Nat) : Int) := x32 4294967295 x
theorem word_or {p q r s : Int} (hp : 0 ≤ p ∧ p ≤ 255) (hq : 0 ≤ q ∧ q ≤ 255) (hr : 0 ≤ r ∧ r ≤ 255) (hs : 0 ≤ s ∧ s ≤ 255) :
    IntKind.wrap .u32 ((BitVec.toNat (BitVec.ofInt 32 (IntKind.wrap .u32 ((BitVec.toNat (BitVec.ofInt 32 (IntKind.wrap .u32 ((BitVec.toNat (BitVec.ofInt 32 (IntKind.wrap .u32 (IntKind.wrap .u32 p * 16777216)) ||| BitVec.ofInt 32 (IntKind.wrap .u32 (IntKind.wrap .u32 q * 65536))) : Nat) : Int)) |||
      BitVec.ofInt 32 (IntKind.wrap .u32 (IntKind.wrap .u32 r * 256))) : Nat) : Int)) ||| BitVec.ofInt 32 (IntKind.wrap .u32 s)) : Nat) : Int) = ((p.toNat * 16777216 + q.toNat * 65536 + r.toNat * 256 + s.toNat : Nat) : Int) := by
  obtain ⟨p, rfl⟩ := Int.eq_ofNat_of_zero_le hp.1
  obtain ⟨q, rfl⟩ := Int.eq_ofNat_of_zero_le hq.1
  obtain ⟨r, rfl⟩ := Int.eq_ofNat_of_zero_le hr.1
  obtain ⟨s, rfl⟩ := Int.eq_ofNat_of_zero_le hs.1
  rw [w_u32 (n := (p : Int)) (by omega) (by omega), w_u32 (n := (q : Int)) (by omega) (by omega), w_u32 (n := (r : Int)) (by omega) (by omega), w_u32 (n := (s : Int)) (by omega) (by omega)]
  rw [show ((p : Nat) : Int) * 16777216 = ((p * 16777216 : Nat) : Int) by omega, show ((q : Nat) : Int) * 65536 = ((q * 65536 : Nat) : Int) by omega, show ((r : Nat) : Int) * 256 = ((r * 256 : Nat) : Int) by omega]
  rw [w_u32 (n := ((p * 16777216 : Nat) : Int)) (by omega) (by omega), w_u32 (n := ((q * 65536 : Nat) : Int)) (by omega) (by omega), w_u32 (n := ((r * 256 : Nat) : Int)) (by omega) (by omega), o32, o32, o32]
  have o : ∀ (a b i : Nat), b < 2 ^ i → 2 ^ i * a + b < 4294967296 → or32 (2 ^ i * a) b = 2 ^ i * a + b := fun a b i h1 h2 => by
    unfold or32
    rw [Nat.mod_eq_of_lt (by omega), Nat.mod_eq_of_lt (by omega), Nat.two_pow_add_eq_or_of_lt h1]
  have e1 := o p (q * 65536) 24 (by omega) (by omega)
  have e2 := o (p * 256 + q) (r * 256) 16 (by omega) (by omega)
  have e3 := o (p * 65536 + q * 256 + r) s 8 (by omega) (by omega)
  rw [show p * 16777216 = 2 ^ 24 * p by omega, e1, show 2 ^ 24 * p + q * 65536 = 2 ^ 16 * (p * 256 + q) by omega, e2, show 2 ^ 16 * (p * 256 + q) + r * 256 = 2 ^ 8 * (p * 65536 + q * 256 + r) by omega, e3]
  simp only [Int.toNat_natCast]; omega
theorem schedule_eq {b : List Int} (hb : Bytes b) (hl : b.length = 64) : sol_hash_schedule (b, ()) = some ((castL (sched b 64), ()), ((), ())) := by
  unfold sol_hash_schedule T_hash_schedule
  have second : ∀ t2 : List Int, bigLoop _ _ (fun again x => T_hash_schedule_loop1 sol_math_bits_RotateLeft32 again x.1 x.2.1 x.2.2.1) (t2, (part (sched b 16) 64, ((16 : Int), ()))) = some ((castL (sched b 64), ()), ((), ())) := by
    intro t2
    refine bigLoop_rule (I := fun x => (16 : Int) ≤ x.2.2.1 ∧ x.2.2.1 ≤ (64 : Int) ∧ x.2.1 = part (sched b x.2.2.1.toNat) 64) (m := fun x => ((64 : Int) - x.2.2.1).toNat) (g := fun _ => some ((castL (sched b 64), ()), ((), ()))) ?_
      ⟨by simp only; omega, by simp only; omega, rfl⟩ (by simp only [bigN_eq]; omega)
    rintro ⟨t, w, i, _⟩ again ⟨e1, e2, e3⟩ hag
    simp only at e1 e2 e3 hag ⊢
    subst e3
    obtain ⟨i, rfl⟩ := Int.eq_ofNat_of_zero_le (show 0 ≤ i by omega)
    have hls := len_sched b i
    simp only [T_hash_schedule_loop1, letR_eq, brR_dec, brR_inR, Int.toNat_natCast]
    by_cases hi : i < 64
    · rw [if_pos (by omega), w_i64 (n := (i : Int) - 7) (by omega) (by omega), w_i64 (n := (i : Int) - 16) (by omega) (by omega), w_i64 (n := (i : Int) - 2) (by omega) (by omega), w_i64 (n := (i : Int) - 15) (by omega) (by omega), w_i64 (n := (i : Int) + 1) (by omega) (by omega)]
      rw [show ((i : Int) - 7).toNat = i - 7 by omega, show ((i : Int) - 16).toNat = i - 16 by omega, show ((i : Int) - 2).toNat = i - 2 by omega, show ((i : Int) - 15).toNat = i - 15 by omega]
      rw [if_pos (by omega), if_pos (by omega), part_getD (j := i - 7) (by omega), part_getD (j := i - 16) (by omega), part_getD (j := i - 2) (by omega), part_getD (j := i - 15) (by omega)]
      simp only [rot7, rot18, rot17, rot19, bind_some']
      rw [if_pos (by omega), if_pos (by omega), if_pos (by omega)]
      simp only [x32, d32_8, d32_1024, a32]
      have es : (part (sched b i) 64).set i ((nextW (sched b i) i : Nat) : Int) = part (sched b (i + 1)) 64 := by
        have := part_set (l := sched b i) (n := 64) (by omega) (nextW (sched b i) i)
        rw [hls] at this
        rw [this, sched, if_neg (by omega)]
      refine (congrArg again ?_).trans (hag (t, (part (sched b (i + 1)) 64, (((i : Int) + 1), ()))) ⟨by simp only; omega, by simp only; omega, by simp only; rw [show ((i : Int) + 1).toNat = i + 1 by omega]⟩ (by simp only; omega))
      rw [← es]; rfl
    · have : i = 64 := by omega
      subst this
      rw [if_neg (by omega)]
      have := part_full (l := sched b 64)
      rw [hls] at this
      rw [this]
  refine bigLoop_rule (I := fun x => x.1 = b ∧ (0 : Int) ≤ x.2.2.2.1 ∧ x.2.2.2.1 ≤ (16 : Int) ∧ x.2.2.1 = part (sched b x.2.2.2.1.toNat) 64) (m := fun x => ((16 : Int) - x.2.2.2.1).toNat) (g := fun _ => some ((castL (sched b 64), ()), ((), ()))) ?_
    ⟨rfl, by simp only; omega, by simp only; omega, by simp only; exact part_nil.symm⟩ (by simp only [bigN_eq]; omega)
  rintro ⟨b', t, w, i, _⟩ again ⟨e0, e1, e2, e3⟩ hag
  simp only at e0 e1 e2 e3 hag ⊢
  subst e0 e3
  obtain ⟨i, rfl⟩ := Int.eq_ofNat_of_zero_le e1
  have hls := len_sched b' i
  simp only [T_hash_schedule_loop0, letR_eq, brR_dec, brR_inR, Int.toNat_natCast]
  by_cases hi : i < 16
  · rw [if_pos (by omega), w_i64 (n := 4 * (i : Int)) (by omega) (by omega), w_i64 (n := 4 * (i : Int) + 3) (by omega) (by omega), w_i64 (n := 4 * (i : Int) + 2) (by omega) (by omega), w_i64 (n := 4 * (i : Int) + 1) (by omega) (by omega), w_i64 (n := (i : Int) + 1) (by omega) (by omega)]
    rw [show (4 * (i : Int)).toNat = 4 * i by omega, show (4 * (i : Int) + 1).toNat = 4 * i + 1 by omega, show (4 * (i : Int) + 2).toNat = 4 * i + 2 by omega, show (4 * (i : Int) + 3).toNat = 4 * i + 3 by omega]
    rw [if_pos (by omega), if_pos (by omega), if_pos (by omega), if_pos (by omega), if_pos (by omega), word_or (hb.at _) (hb.at _) (hb.at _) (hb.at _)]
    have es : (part (sched b' i) 64).set i ((word b' i : Nat) : Int) = part (sched b' (i + 1)) 64 := by
      have := part_set (l := sched b' i) (n := 64) (by omega) (word b' i)
      rw [hls] at this
      rw [this, sched, if_pos (by omega)]
    refine (congrArg again ?_).trans (hag (b', (t, (part (sched b' (i + 1)) 64, (((i : Int) + 1), ())))) ⟨rfl, by simp only; omega, by simp only; omega, by simp only; rw [show ((i : Int) + 1).toNat = i + 1 by omega]⟩ (by simp only; omega))
    rw [← es]; rfl
  · have : i = 16 := by omega
    subst this
    rw [if_neg (by omega)]
    exact second t
theorem len_rounds {w s : List Nat} (h : s.length = 8) : ∀ i, (rounds w s i).length = 8
  | 0 => h
  | i + 1 => rfl
theorem addL_set {t s : List Nat} {i : Nat} (hi : i < 8) : (castL (addL t s i)).set i ((add32 (t.getD i 0) (s.getD i 0) : Nat) : Int) = castL (addL t s (i + 1)) := by
  apply List.ext_getElem
  · simp [castL, addL]
  · intro j h1 h2
    have hj : j < 8 := by simpa [castL, addL] using h2
    simp only [List.getElem_set, castL, addL, List.getElem_map, List.getElem_range]
    by_cases hc : i = j
    · subst hc; simp
    · rw [if_neg hc]
      by_cases h3 : j < i
      · rw [if_pos h3, if_pos (by omega)]
      · rw [if_neg h3, if_neg (by omega)]
theorem addL_zero {t s : List Nat} (h : t.length = 8) : addL t s 0 = t := by
  apply List.ext_getElem
  · simp [addL, h]
  · intro j h1 h2
    simp only [addL, List.getElem_map, List.getElem_range]
    rw [if_neg (by omega), List.getD_eq_getElem?_getD, List.getElem?_eq_getElem h2]; rfl
theorem addL_getD {t s : List Nat} {i : Nat} (hi : i < 8) : (addL t s i).getD i 0 = t.getD i 0 := by
  rw [addL, List.getD_eq_getElem?_getD, List.getElem?_map, List.getElem?_range hi]
  simp
theorem compress_eq {s w : List Nat} (hs : s.length = 8) : sol_hash_compress (castL s, (castL w, (castL kTab, ()))) = some ((castL (addL (rounds w s 64) s 8), ()), ((), ((), ((), ())))) := by
  unfold sol_hash_compress T_hash_compress
  have second : ∀ t2 : List Int, bigLoop _ _ (fun again x => T_hash_compress_loop1 again x.1 x.2.1 x.2.2.1 x.2.2.2.1) (castL s, (t2, (castL (rounds w s 64), ((0 : Int), ())))) = some ((castL (addL (rounds w s 64) s 8), ()), ((), ((), ((), ())))) := by
    intro t2
    refine bigLoop_rule (I := fun x => x.1 = castL s ∧ (0 : Int) ≤ x.2.2.2.1 ∧ x.2.2.2.1 ≤ (8 : Int) ∧ x.2.2.1 = castL (addL (rounds w s 64) s x.2.2.2.1.toNat)) (m := fun x => ((8 : Int) - x.2.2.2.1).toNat) (g := fun _ => some ((castL (addL (rounds w s 64) s 8), ()), ((), ((), ((), ()))))) ?_
      ⟨rfl, by simp only; omega, by simp only; omega, by simp only; rw [show (0 : Int).toNat = 0 from rfl, addL_zero (len_rounds hs 64)]⟩ (by simp only [bigN_eq]; omega)
    rintro ⟨s', t', t, i, _⟩ again ⟨e0, e1, e2, e3⟩ hag
    simp only at e0 e1 e2 e3 hag ⊢
    subst e0 e3
    obtain ⟨i, rfl⟩ := Int.eq_ofNat_of_zero_le e1
    simp only [T_hash_compress_loop1, letR_eq, brR_dec, brR_inR, Int.toNat_natCast]
    by_cases hi : i < 8
    · rw [if_pos (by omega), if_pos (by omega), if_pos (by omega), if_pos (by omega), castL_getD, castL_getD, a32, addL_getD hi, addL_set hi, w_i64 (by omega) (by omega)]
      exact hag _ ⟨rfl, by simp only; omega, by simp only; omega, by simp only; rw [show ((i : Int) + 1).toNat = i + 1 by omega]⟩ (by simp only; omega)
    · have : i = 8 := by omega
      subst this
      rw [if_neg (by omega)]
  refine bigLoop_rule (I := fun x => x.1 = castL s ∧ x.2.1 = castL w ∧ x.2.2.1 = castL kTab ∧ (0 : Int) ≤ x.2.2.2.2.2.1 ∧ x.2.2.2.2.2.1 ≤ (64 : Int) ∧ x.2.2.2.2.1 = castL (rounds w s x.2.2.2.2.2.1.toNat)) (m := fun x => ((64 : Int) - x.2.2.2.2.2.1).toNat) (g := fun _ => some ((castL (addL (rounds w s 64) s 8), ()), ((), ((), ((), ()))))) ?_
    ⟨rfl, rfl, rfl, by simp only; omega, by simp only; omega, rfl⟩ (by simp only [bigN_eq]; omega)
  rintro ⟨s', w', k', t', t, i, _⟩ again ⟨e0, e1, e2, e3, e4, e5⟩ hag
  simp only at e0 e1 e2 e3 e4 e5 hag ⊢
  subst e0 e1 e2 e5
  obtain ⟨i, rfl⟩ := Int.eq_ofNat_of_zero_le e3
  simp only [T_hash_compress_loop0, letR_eq, brR_dec, brR_inR, Int.toNat_natCast]
  by_cases hi : i < 64
  · rw [if_pos (by omega)]
    simp only [castL_getD, rot6, rot11, rot25, rot2, rot13, rot22, bind_some']
    rw [if_pos (by omega), if_pos (by omega), w_i64 (by omega) (by omega)]
    simp only [not32, x32, n32, a32]
    refine (congrArg again ?_).trans (hag (castL s, (castL w, (castL kTab, (t', (castL (rounds w s (i + 1)), (((i : Int) + 1), ())))))) ⟨rfl, rfl, rfl, by simp only; omega, by simp only; omega, by simp only; rw [show ((i : Int) + 1).toNat = i + 1 by omega]⟩ (by simp only; omega))
    rw [rounds, rnd]
    simp only [castL, List.map_cons, List.map_nil]
    rfl
  · have : i = 64 := by omega
    subst this
    rw [if_neg (by omega)]
    exact second t'
theorem len_addL (t s : List Nat) (i : Nat) : (addL t s i).length = 8 := by simp [addL]
theorem len_states (m : List Int) : ∀ i, (states m i).length = 8
  | 0 => rfl
  | i + 1 => by rw [states, comp, len_addL]
theorem roundConstants_eq : sol_hash_roundConstants () = some ((castL kTab, ()), ()) := by
  unfold sol_hash_roundConstants T_hash_roundConstants; rfl
def outN (s : List Nat) (i : Nat) : List Nat := (List.range i).map fun i => s.getD (i / 4) 0 / 2 ^ (24 - 8 * (i % 4)) % 256
theorem len_outN (s : List Nat) (i : Nat) : (outN s i).length = i := by simp [outN]
theorem outN_succ (s : List Nat) (i : Nat) : outN s (i + 1) = outN s i ++ [s.getD (i / 4) 0 / 2 ^ (24 - 8 * (i % 4)) % 256] := by simp [outN, List.range_succ]
theorem outN_32 (s : List Nat) : castL (outN s 32) = shaOut s := by
  simp only [castL, outN, shaOut, List.map_map]; rfl
theorem out_byte {s : List Nat} {i : Nat} : IntKind.wrap .u8 (Int.fdiv ((castL s).getD (i / 4) 0) ((2 : Int) ^ (24 - 8 * (i % 4)))) = ((s.getD (i / 4) 0 / 2 ^ (24 - 8 * (i % 4)) % 256 : Nat) : Int) := by
  have p : ∀ k : Nat, (2 : Int) ^ k = ((2 ^ k : Nat) : Int) := fun k => by rw [Int.natCast_pow]; rfl
  rw [castL_getD, p, d32, IntKind.wrap_u8]; omega
theorem sumOut_eq {s : List Nat} (t2 : List Int) : bigLoop _ _ (fun again x => T_hash_Sum_loop3 again x.1 x.2.1 x.2.2.1 x.2.2.2.1) (t2, (castL s, (List.replicate 32 0, ((0 : Int), ())))) = some ((shaOut s, ()), ((), ())) := by
  refine bigLoop_rule (I := fun x => x.2.1 = castL s ∧ (0 : Int) ≤ x.2.2.2.1 ∧ x.2.2.2.1 ≤ (32 : Int) ∧ x.2.2.1 = part (outN s x.2.2.2.1.toNat) 32) (m := fun x => ((32 : Int) - x.2.2.2.1).toNat) (g := fun _ => some ((shaOut s, ()), ((), ()))) ?_
    ⟨rfl, by simp only; omega, by simp only; omega, part_nil.symm⟩ (by simp only [bigN_eq]; omega)
  rintro ⟨t, s', h, i, _⟩ again ⟨e0, e1, e2, e3⟩ hag
  simp only at e0 e1 e2 e3 hag ⊢
  subst e0 e3
  obtain ⟨i, rfl⟩ := Int.eq_ofNat_of_zero_le e1
  have hls := len_outN s i
  simp only [T_hash_Sum_loop3, letR_eq, brR_dec, brR_inR, Int.toNat_natCast]
  by_cases hi : i < 32
  · rw [if_pos (by omega), tdiv_pos (by omega), tmod_pos (by omega), w_i64 (n := (i : Int) / 4) (by omega) (by omega), w_i64 (n := 8 * ((i : Int) % 4)) (by omega) (by omega), w_i64 (n := 24 - 8 * ((i : Int) % 4)) (by omega) (by omega), w_i64 (n := (i : Int) + 1) (by omega) (by omega), if_pos (by omega), if_pos (by omega), if_pos (by omega)]
    rw [show ((i : Int) / 4).toNat = i / 4 by omega, show (24 - 8 * ((i : Int) % 4)).toNat = 24 - 8 * (i % 4) by omega, Nat.min_eq_left (by omega), out_byte]
    have es := part_set (l := outN s i) (n := 32) (by omega) (s.getD (i / 4) 0 / 2 ^ (24 - 8 * (i % 4)) % 256)
    rw [hls, ← outN_succ] at es
    rw [es]
    exact hag _ ⟨rfl, by simp only; omega, by simp only; omega, by simp only; rw [show ((i : Int) + 1).toNat = i + 1 by omega]⟩ (by simp only; omega)
  · have : i = 32 := by omega
    subst this
    rw [if_neg (by omega)]
    have := part_full (l := outN s 32)
    rw [hls, outN_32] at this
    rw [this]
theorem sumBlocks_eq {m : List Int} (hm : Bytes m) {n : Nat} (hn : m.length = 64 * n) (hl : m.length ≤ 1000000000) (t2 : List Int) :
    bigLoop _ _ (fun again x => T_hash_Sum_loop2 bigLoop sol_hash_schedule sol_hash_compress again x.1 x.2.1 x.2.2.1 x.2.2.2.1 x.2.2.2.2.1) (t2, (m, (castL iv, (castL kTab, ((0 : Int), ()))))) = some ((shaOut (states m n), ()), ((), ())) := by
  refine bigLoop_rule (I := fun x => x.2.1 = m ∧ x.2.2.2.1 = castL kTab ∧ ∃ i : Nat, i ≤ n ∧ x.2.2.2.2.1 = ((64 * i : Nat) : Int) ∧ x.2.2.1 = castL (states m i)) (m := fun x => ((m.length : Int) - x.2.2.2.2.1).toNat) (g := fun _ => some ((shaOut (states m n), ()), ((), ()))) ?_
    ⟨rfl, rfl, 0, by omega, rfl, rfl⟩ (by simp only [bigN_eq]; omega)
  rintro ⟨t, m', s, k, a, _⟩ again ⟨e0, e1, i, hi, e2, e3⟩ hag
  simp only at e0 e1 e2 e3 hag ⊢
  subst e0 e1 e2 e3
  simp only [T_hash_Sum_loop2, letR_eq, brR_dec, brR_and, Int.toNat_natCast]
  by_cases hc : i < n
  · rw [if_pos (by omega), w_i64 (by omega) (by omega), if_pos (by omega), if_pos (by omega), if_pos (by omega), show (((64 * i : Nat) : Int) + 64).toNat - 64 * i = 64 by omega,
      schedule_eq ((hm.drop _).take _) (by rw [List.length_take, List.length_drop]; omega)]
    simp only [bind_some']
    rw [compress_eq (len_states m' i)]
    simp only [bind_some']
    exact hag _ ⟨rfl, rfl, i + 1, by omega, by simp only; omega, rfl⟩ (by simp only; omega)
  · have : i = n := by omega
    subst this
    rw [if_neg (by omega)]
    exact sumOut_eq t
theorem sumLen_eq {l : List Int} (hb : Bytes l) {n k : Nat} (hn : n < 18446744073709551616) (hk : l.length + 8 = 64 * k) (hl : l.length ≤ 900000000) (t2 : List Int) :
    bigLoop _ _ (fun again x => T_hash_Sum_loop1 bigLoop sol_hash_roundConstants sol_hash_schedule sol_hash_compress again x.1 x.2.1 x.2.2.1 x.2.2.2.1) (t2, (((n : Nat) : Int), (l, ((7 : Int), ())))) = some ((shaOut (states (l ++ beB 8 n) k), ()), ((), ())) := by
  refine Eq.trans (bigLoop_rule (I := fun x => x.2.1 = ((n : Nat) : Int) ∧ (-1 : Int) ≤ x.2.2.2.1 ∧ x.2.2.2.1 ≤ (7 : Int) ∧ Bytes x.2.2.1 ∧ (x.2.2.1.length : Int) + x.2.2.2.1 + 1 = ((64 * k : Nat) : Int)) (m := fun x => (x.2.2.2.1 + 1).toNat) (g := fun x => some ((shaOut (states (x.2.2.1 ++ beB (x.2.2.2.1 + 1).toNat n) k), ()), ((), ()))) ?_
    ⟨rfl, by simp only; omega, by simp only; omega, hb, by simp only; omega⟩ (by simp only [bigN_eq]; omega)) rfl
  rintro ⟨t, n', l', i, _⟩ again ⟨e0, e1, e2, e3, e4⟩ hag
  simp only at e0 e1 e2 e3 e4 hag ⊢
  subst e0
  simp only [T_hash_Sum_loop1, letR_eq, brR_dec, append_def, ge_iff_le]
  by_cases hi : 0 ≤ i
  · obtain ⟨j, rfl⟩ := Int.eq_ofNat_of_zero_le hi
    rw [if_pos hi, w_i64 (n := 8 * (j : Int)) (by omega) (by omega), if_pos (by omega), brR_room8 (by omega), w_i64 (by omega) (by omega), show (8 * (j : Int)).toNat = 8 * j by omega, Nat.min_eq_left (by omega)]
    have p : ∀ k : Nat, (2 : Int) ^ k = ((2 ^ k : Nat) : Int) := fun k => by rw [Int.natCast_pow]; rfl
    have hby : IntKind.wrap .u8 (Int.fdiv ((n : Nat) : Int) ((2 : Int) ^ (8 * j))) = ((n / 256 ^ j % 256 : Nat) : Int) := by
      rw [p, d32, IntKind.wrap_u8, pow256]; omega
    rw [hby, hag _ ⟨rfl, by simp only; omega, by simp only; omega, e3.append (by intro x hx; simp only [List.mem_singleton] at hx; subst hx; omega), by simp only [List.length_append, List.length_singleton]; omega⟩ (by simp only; omega)]
    simp only
    rw [show ((j : Int) - 1 + 1).toNat = j by omega, show ((j : Int) + 1).toNat = j + 1 by omega, beB]; simp
  · have : i = -1 := by omega
    subst this
    rw [if_neg hi, roundConstants_eq]
    simp only [bind_some']
    have := sumBlocks_eq e3 (n := k) (by omega) (by omega) t
    refine Eq.trans this ?_
    simp [beB]
theorem sum_eq {b : List Int} (hb : Bytes b) (hl : b.length ≤ 100000000) : sol_hash_Sum (b, ()) = some ((sha b, ()), ((), ())) := by
  unfold sol_hash_Sum T_hash_Sum
  simp only
  rw [concat_eq (by simp; omega) (by simp), w_u64 (n := ((b.length : Nat) : Int)) (by omega) (by omega), w_u64 (by omega) (by omega), show ((b.length : Nat) : Int) * 8 = ((b.length * 8 : Nat) : Int) by omega]
  simp only [bind_some', List.flatten_cons, List.flatten_nil, List.append_nil]
  refine bigLoop_rule (I := fun x => x.2.1 = ((b.length * 8 : Nat) : Int) ∧ ∃ j : Nat, j ≤ (119 - b.length % 64) % 64 ∧ x.2.2.1 = b ++ 128 :: List.replicate j 0) (m := fun x => b.length + 100 - x.2.2.1.length) (g := fun _ => some ((sha b, ()), ((), ()))) ?_
    ⟨rfl, 0, by omega, rfl⟩ (by simp only [bigN_eq]; omega)
  rintro ⟨t, n, l, _⟩ again ⟨e0, j, hj, e1⟩ hag
  simp only at e0 e1 hag ⊢
  subst e0 e1
  have hlen : (b ++ 128 :: List.replicate j (0 : Int)).length = b.length + 1 + j := by simp; omega
  simp only [T_hash_Sum_loop0, letR_eq, brR_dec, brR_not, append_def]
  rw [tmod_pos (by omega), hlen, brR_room8 (by omega)]
  by_cases hc : j = (119 - b.length % 64) % 64
  · rw [if_pos (by omega)]
    have hby : Bytes (b ++ 128 :: List.replicate j (0 : Int)) := hb.append (by
      intro x hx
      rcases List.mem_cons.1 hx with rfl | hx
      · omega
      · rw [List.eq_of_mem_replicate hx]; omega)
    refine (sumLen_eq hby (n := b.length * 8) (k := (b.length + 1 + j + 8) / 64) (by omega) (by omega) (by omega) t).trans ?_
    have hp : b ++ 128 :: List.replicate j (0 : Int) ++ beB 8 (b.length * 8) = padded b := by simp [padded, hc]
    have hpl : (padded b).length = b.length + 1 + j + 8 := by rw [← hp, List.length_append, hlen, len_beB]
    rw [hp, ← hpl]; rfl
  · rw [if_neg (by omega)]
    have e : b ++ 128 :: List.replicate j (0 : Int) ++ [0] = b ++ 128 :: List.replicate (j + 1) 0 := by
      rw [List.replicate_succ']; simp
    exact hag _ ⟨rfl, j + 1, by omega, by simp only; exact e⟩ (by simp only [e, hlen]; simp; omega)
end Go.Pon
set_option autoImplicit false
set_option linter.unusedVariables false
set_option linter.unusedSimpArgs false
set_option maxRecDepth 4000
namespace Go.Pon
open Go
theorem right_eq (x n : Nat) (h1 : 1 ≤ n) (h2 : n ≤ 31) : sol_ref7_right (((x : Nat) : Int), (((n : Nat) : Int), ())) = some ((((rotr x n : Nat) : Int), ()), ((), ((), ()))) := by
  unfold sol_ref7_right T_ref7_right
  simp only [letR_eq]
  rw [show (32 : Int) - ((n : Nat) : Int) = ((32 - n : Nat) : Int) by omega, w_u64 (by omega) (by omega), brR_dec, if_pos (by omega), brR_dec, if_pos (by omega)]
  simp only [Int.toNat_natCast]
  have p : ∀ k : Nat, (2 : Int) ^ k = ((2 ^ k : Nat) : Int) := fun k => by rw [Int.natCast_pow]; rfl
  rw [Nat.min_eq_left (by omega), Nat.min_eq_left (by omega), p, p, m32, d32, o32, or32_comm]
  rfl
theorem rr7 (x : Nat) : sol_ref7_right (((x : Nat) : Int), ((7 : Int), ())) = some ((((rotr x 7 : Nat) : Int), ()), ((), ((), ()))) := right_eq x 7 (by omega) (by omega)
theorem rr18 (x : Nat) : sol_ref7_right (((x : Nat) : Int), ((18 : Int), ())) = some ((((rotr x 18 : Nat) : Int), ()), ((), ((), ()))) := right_eq x 18 (by omega) (by omega)
theorem rr17 (x : Nat) : sol_ref7_right (((x : Nat) : Int), ((17 : Int), ())) = some ((((rotr x 17 : Nat) : Int), ()), ((), ((), ()))) := right_eq x 17 (by omega) (by omega)
theorem rr19 (x : Nat) : sol_ref7_right (((x : Nat) : Int), ((19 : Int), ())) = some ((((rotr x 19 : Nat) : Int), ()), ((), ((), ()))) := right_eq x 19 (by omega) (by omega)
theorem rr6 (x : Nat) : sol_ref7_right (((x : Nat) : Int), ((6 : Int), ())) = some ((((rotr x 6 : Nat) : Int), ()), ((), ((), ()))) := right_eq x 6 (by omega) (by omega)
theorem rr11 (x : Nat) : sol_ref7_right (((x : Nat) : Int), ((11 : Int), ())) = some ((((rotr x 11 : Nat) : Int), ()), ((), ((), ()))) := right_eq x 11 (by omega) (by omega)
theorem rr25 (x : Nat) : sol_ref7_right (((x : Nat) : Int), ((25 : Int), ())) = some ((((rotr x 25 : Nat) : Int), ()), ((), ((), ()))) := right_eq x 25 (by omega) (by omega)
theorem rr2 (x : Nat) : sol_ref7_right (((x : Nat) : Int), ((2 : Int), ())) = some ((((rotr x 2 : Nat) : Int), ()), ((), ((), ()))) := right_eq x 2 (by omega) (by omega)
theorem rr13 (x : Nat) : sol_ref7_right (((x : Nat) : Int), ((13 : Int), ())) = some ((((rotr x 13 : Nat) : Int), ()), ((), ((), ()))) := right_eq x 13 (by omega) (by omega)
theorem rr22 (x : Nat) : sol_ref7_right (((x : Nat) : Int), ((22 : Int), ())) = some ((((rotr x 22 : Nat) : Int), ()), ((), ((), ()))) := right_eq x 22 (by omega) (by omega)
theorem word_add {p q r s : Int} (hp : 0 ≤ p ∧ p ≤ 255) (hq : 0 ≤ q ∧ q ≤ 255) (hr : 0 ≤ r ∧ r ≤ 255) (hs : 0 ≤ s ∧ s ≤ 255) :
    IntKind.wrap .u32 (IntKind.wrap .u32 (IntKind.wrap .u32 (IntKind.wrap .u32 (IntKind.wrap .u32 p * 16777216) + IntKind.wrap .u32 (IntKind.wrap .u32 q * 65536)) + IntKind.wrap .u32 (IntKind.wrap .u32 r * 256)) + IntKind.wrap .u32 s) =
      ((p.toNat * 16777216 + q.toNat * 65536 + r.toNat * 256 + s.toNat : Nat) : Int) := by
  simp only [IntKind.wrap_u32]; omega
theorem words_eq : sol_ref7_words () = some ((castL kTab, ()), ()) := by
  unfold sol_ref7_words T_ref7_words; rfl
theorem block_third {s : List Nat} (hs : s.length = 8) (W : List Nat) (t2 : List Int) : bigLoop _ _ (fun again x => T_ref7_block_loop2 again x.1 x.2.1 x.2.2.1 x.2.2.2.1) (castL s, (t2, (castL (rounds (W) s 64), ((0 : Int), ())))) = some ((castL (addL (rounds W s 64) s 8), ()), ((), ((), ()))) := by
  refine bigLoop_rule (I := fun x => x.1 = castL s ∧ (0 : Int) ≤ x.2.2.2.1 ∧ x.2.2.2.1 ≤ (8 : Int) ∧ x.2.2.1 = castL (addL (rounds (W) s 64) s x.2.2.2.1.toNat)) (m := fun x => ((8 : Int) - x.2.2.2.1).toNat) (g := fun _ => some ((castL (addL (rounds W s 64) s 8), ()), ((), ((), ())))) ?_
    ⟨rfl, by simp only; omega, by simp only; omega, by simp only; rw [show (0 : Int).toNat = 0 from rfl, addL_zero (len_rounds hs 64)]⟩ (by simp only [bigN_eq]; omega)
  rintro ⟨s', t', t, i, _⟩ again ⟨e0, e1, e2, e3⟩ hag
  simp only at e0 e1 e2 e3 hag ⊢
  subst e0 e3
  obtain ⟨i, rfl⟩ := Int.eq_ofNat_of_zero_le e1
  simp only [T_ref7_block_loop2, letR_eq, brR_dec, brR_inR, Int.toNat_natCast]
  by_cases hi : i < 8
  · rw [if_pos (by omega), if_pos (by omega), if_pos (by omega), if_pos (by omega), castL_getD, castL_getD, a32, addL_getD hi, addL_set hi, w_i64 (by omega) (by omega)]
    exact hag _ ⟨rfl, by simp only; omega, by simp only; omega, by simp only; rw [show ((i : Int) + 1).toNat = i + 1 by omega]⟩ (by simp only; omega)
  · have : i = 8 := by omega
    subst this
    rw [if_neg (by omega)]
set_option maxHeartbeats 1000000 in
theorem block_second {s : List Nat} (hs : s.length = 8) (W : List Nat) (t2 : List Int) : bigLoop _ _ (fun again x => T_ref7_block_loop1 bigLoop sol_ref7_right again x.1 x.2.1 x.2.2.1 x.2.2.2.1 x.2.2.2.2.1 x.2.2.2.2.2.1) (castL s, (t2, (castL kTab, (castL (W), (castL s, ((0 : Int), ())))))) = some ((castL (addL (rounds W s 64) s 8), ()), ((), ((), ()))) := by
  refine bigLoop_rule (I := fun x => x.1 = castL s ∧ x.2.2.1 = castL kTab ∧ x.2.2.2.1 = castL (W) ∧ (0 : Int) ≤ x.2.2.2.2.2.1 ∧ x.2.2.2.2.2.1 ≤ (64 : Int) ∧ x.2.2.2.2.1 = castL (rounds (W) s x.2.2.2.2.2.1.toNat)) (m := fun x => ((64 : Int) - x.2.2.2.2.2.1).toNat) (g := fun _ => some ((castL (addL (rounds W s 64) s 8), ()), ((), ((), ())))) ?_
    ⟨rfl, rfl, rfl, by simp only; omega, by simp only; omega, rfl⟩ (by simp only [bigN_eq]; omega)
  rintro ⟨s', t', k', w', t, i, _⟩ again ⟨e0, e1, e2, e3, e4, e5⟩ hag
  simp only at e0 e1 e2 e3 e4 e5 hag ⊢
  subst e0 e1 e2 e5
  obtain ⟨i, rfl⟩ := Int.eq_ofNat_of_zero_le e3
  simp only [T_ref7_block_loop1, letR_eq, brR_dec, brR_inR, Int.toNat_natCast]
  by_cases hi : i < 64
  · have hin : (0 : Int) ≤ (i : Int) ∧ (i : Int) < ((64 : Nat) : Int) := by omega
    rw [if_pos (by omega)]
    simp only [castL_getD, rr6, rr11, rr25, rr2, rr13, rr22, bind_some', if_pos hin]
    rw [w_i64 (by omega) (by omega)]
    simp only [not32, x32, n32, a32]
    refine (congrArg again ?_).trans (hag (castL s, (t', (castL kTab, (castL (W), (castL (rounds (W) s (i + 1)), (((i : Int) + 1), ())))))) ⟨rfl, rfl, rfl, by simp only; omega, by simp only; omega, by simp only; rw [show ((i : Int) + 1).toNat = i + 1 by omega]⟩ (by simp only; omega))
    rw [rounds, rnd]
    simp only [castL, List.map_cons, List.map_nil, add32_assoc]
    rfl
  · have : i = 64 := by omega
    subst this
    rw [if_neg (by omega)]
    exact block_third hs W t'
set_option maxHeartbeats 1000000 in
theorem block_eq {s : List Nat} (hs : s.length = 8) {b : List Int} (hb : Bytes b) (hl : b.length = 64) : sol_ref7_block (castL s, (b, ())) = some ((castL (comp s b), ()), ((), ((), ()))) := by
  unfold sol_ref7_block T_ref7_block
  rw [words_eq]
  simp only [bind_some']
  refine bigLoop_rule (I := fun x => x.1 = b ∧ x.2.1 = castL s ∧ x.2.2.2.1 = castL kTab ∧ (0 : Int) ≤ x.2.2.2.2.2.1 ∧ x.2.2.2.2.2.1 ≤ (64 : Int) ∧ x.2.2.2.2.1 = part (sched b x.2.2.2.2.2.1.toNat) 64) (m := fun x => ((64 : Int) - x.2.2.2.2.2.1).toNat) (g := fun _ => some ((castL (comp s b), ()), ((), ((), ())))) ?_
    ⟨rfl, rfl, rfl, by simp only; omega, by simp only; omega, by simp only; exact part_nil.symm⟩ (by simp only [bigN_eq]; omega)
  rintro ⟨b', h', t, k', w, i, _⟩ again ⟨e0, e1, e2, e3, e4, e5⟩ hag
  simp only at e0 e1 e2 e3 e4 e5 hag ⊢
  subst e0 e1 e2 e5
  obtain ⟨i, rfl⟩ := Int.eq_ofNat_of_zero_le e3
  have hls := len_sched b' i
  simp only [T_ref7_block_loop0, letR_eq, brR_dec, brR_inR, Int.toNat_natCast]
  by_cases hi : i < 64
  · rw [if_pos (by omega)]
    by_cases h16 : i < 16
    · rw [if_pos (by omega), w_i64 (n := 4 * (i : Int)) (by omega) (by omega), w_i64 (n := 4 * (i : Int) + 3) (by omega) (by omega), w_i64 (n := 4 * (i : Int) + 2) (by omega) (by omega), w_i64 (n := 4 * (i : Int) + 1) (by omega) (by omega), w_i64 (n := (i : Int) + 1) (by omega) (by omega)]
      rw [show (4 * (i : Int)).toNat = 4 * i by omega, show (4 * (i : Int) + 1).toNat = 4 * i + 1 by omega, show (4 * (i : Int) + 2).toNat = 4 * i + 2 by omega, show (4 * (i : Int) + 3).toNat = 4 * i + 3 by omega]
      rw [if_pos (by omega), if_pos (by omega), if_pos (by omega), if_pos (by omega), if_pos (by omega), word_add (hb.at _) (hb.at _) (hb.at _) (hb.at _)]
      have es : (part (sched b' i) 64).set i ((word b' i : Nat) : Int) = part (sched b' (i + 1)) 64 := by
        have := part_set (l := sched b' i) (n := 64) (by omega) (word b' i)
        rw [hls] at this
        rw [this, sched, if_pos (by omega)]
      refine (congrArg again ?_).trans (hag (b', (castL s, (t, (castL kTab, (part (sched b' (i + 1)) 64, (((i : Int) + 1), ())))))) ⟨rfl, rfl, rfl, by simp only; omega, by simp only; omega, by simp only; rw [show ((i : Int) + 1).toNat = i + 1 by omega]⟩ (by simp only; omega))
      rw [← es]; rfl
    · rw [if_neg (by omega), w_i64 (n := (i : Int) - 7) (by omega) (by omega), w_i64 (n := (i : Int) - 16) (by omega) (by omega), w_i64 (n := (i : Int) - 2) (by omega) (by omega), w_i64 (n := (i : Int) - 15) (by omega) (by omega), w_i64 (n := (i : Int) + 1) (by omega) (by omega)]
      rw [show ((i : Int) - 7).toNat = i - 7 by omega, show ((i : Int) - 16).toNat = i - 16 by omega, show ((i : Int) - 2).toNat = i - 2 by omega, show ((i : Int) - 15).toNat = i - 15 by omega]
      rw [if_pos (by omega), if_pos (by omega), if_pos (by omega), part_getD (j := i - 7) (by omega), part_getD (j := i - 16) (by omega), part_getD (j := i - 2) (by omega), part_getD (j := i - 15) (by omega)]
      have hA : (0 : Int) ≤ (i : Int) - 7 ∧ (i : Int) - 7 < ((64 : Nat) : Int) := by omega
      have hB : (0 : Int) ≤ (i : Int) ∧ (i : Int) < ((64 : Nat) : Int) := by omega
      simp only [rr7, rr18, rr17, rr19, bind_some', if_pos hA, if_pos hB]
      simp only [x32, d32_8, d32_1024, a32]
      have es : (part (sched b' i) 64).set i ((nextW (sched b' i) i : Nat) : Int) = part (sched b' (i + 1)) 64 := by
        have := part_set (l := sched b' i) (n := 64) (by omega) (nextW (sched b' i) i)
        rw [hls] at this
        rw [this, sched, if_neg (by omega)]
      refine (congrArg again ?_).trans (hag (b', (castL s, (t, (castL kTab, (part (sched b' (i + 1)) 64, (((i : Int) + 1), ())))))) ⟨rfl, rfl, rfl, by simp only; omega, by simp only; omega, by simp only; rw [show ((i : Int) + 1).toNat = i + 1 by omega]⟩ (by simp only; omega))
      rw [← es]; rfl
  · have : i = 64 := by omega
    subst this
    rw [if_neg (by omega)]
    have := part_full (l := sched b' 64)
    rw [hls] at this
    rw [this]
    exact block_second hs (sched b' 64) t
theorem rsumOut_eq {s : List Nat} (t2 : List Int) : bigLoop _ _ (fun again x => T_ref7_Sum_loop3 again x.1 x.2.1 x.2.2.1 x.2.2.2.1) (t2, (castL s, (List.replicate 32 0, ((0 : Int), ())))) = some ((shaOut s, ()), ((), ())) := by
  refine bigLoop_rule (I := fun x => x.2.1 = castL s ∧ (0 : Int) ≤ x.2.2.2.1 ∧ x.2.2.2.1 ≤ (32 : Int) ∧ x.2.2.1 = part (outN s x.2.2.2.1.toNat) 32) (m := fun x => ((32 : Int) - x.2.2.2.1).toNat) (g := fun _ => some ((shaOut s, ()), ((), ()))) ?_
    ⟨rfl, by simp only; omega, by simp only; omega, part_nil.symm⟩ (by simp only [bigN_eq]; omega)
  rintro ⟨t, s', h, i, _⟩ again ⟨e0, e1, e2, e3⟩ hag
  simp only at e0 e1 e2 e3 hag ⊢
  subst e0 e3
  obtain ⟨i, rfl⟩ := Int.eq_ofNat_of_zero_le e1
  have hls := len_outN s i
  simp only [T_ref7_Sum_loop3, letR_eq, brR_dec, brR_inR, Int.toNat_natCast]
  by_cases hi : i < 32
  · rw [if_pos (by omega), tdiv_pos (by omega), tmod_pos (by omega), w_i64 (n := (i : Int) / 4) (by omega) (by omega), w_i64 (n := 8 * ((i : Int) % 4)) (by omega) (by omega), w_i64 (n := 24 - 8 * ((i : Int) % 4)) (by omega) (by omega), w_u64 (n := 24 - 8 * ((i : Int) % 4)) (by omega) (by omega), w_i64 (n := (i : Int) + 1) (by omega) (by omega), if_pos (by omega), if_pos (by omega), if_pos (by omega)]
    rw [show ((i : Int) / 4).toNat = i / 4 by omega, show (24 - 8 * ((i : Int) % 4)).toNat = 24 - 8 * (i % 4) by omega, Nat.min_eq_left (by omega), out_byte]
    have es := part_set (l := outN s i) (n := 32) (by omega) (s.getD (i / 4) 0 / 2 ^ (24 - 8 * (i % 4)) % 256)
    rw [hls, ← outN_succ] at es
    rw [es]
    exact hag _ ⟨rfl, by simp only; omega, by simp only; omega, by simp only; rw [show ((i : Int) + 1).toNat = i + 1 by omega]⟩ (by simp only; omega)
  · have : i = 32 := by omega
    subst this
    rw [if_neg (by omega)]
    have := part_full (l := outN s 32)
    rw [hls, outN_32] at this
    rw [this]
theorem rsumBlocks_eq {m : List Int} (hm : Bytes m) {n : Nat} (hn : m.length = 64 * n) (hl : m.length ≤ 1000000000) (t2 : List Int) :
    bigLoop _ _ (fun again x => T_ref7_Sum_loop2 bigLoop sol_ref7_block again x.1 x.2.1 x.2.2.1 x.2.2.2.1) (t2, (m, (castL iv, ((0 : Int), ())))) = some ((shaOut (states m n), ()), ((), ())) := by
  refine bigLoop_rule (I := fun x => x.2.1 = m ∧ ∃ i : Nat, i ≤ n ∧ x.2.2.2.1 = ((64 * i : Nat) : Int) ∧ x.2.2.1 = castL (states m i)) (m := fun x => ((m.length : Int) - x.2.2.2.1).toNat) (g := fun _ => some ((shaOut (states m n), ()), ((), ()))) ?_
    ⟨rfl, 0, by omega, rfl, rfl⟩ (by simp only [bigN_eq]; omega)
  rintro ⟨t, m', s, a, _⟩ again ⟨e0, i, hi, e2, e3⟩ hag
  simp only at e0 e2 e3 hag ⊢
  subst e0 e2 e3
  simp only [T_ref7_Sum_loop2, letR_eq, brR_dec, brR_and, Int.toNat_natCast]
  by_cases hc : i < n
  · rw [if_pos (by omega), w_i64 (by omega) (by omega), if_pos (by omega), if_pos (by omega), if_pos (by omega), show (((64 * i : Nat) : Int) + 64).toNat - 64 * i = 64 by omega,
      block_eq (len_states m' i) ((hm.drop _).take _) (by rw [List.length_take, List.length_drop]; omega)]
    simp only [bind_some']
    exact hag _ ⟨rfl, i + 1, by omega, by simp only; omega, rfl⟩ (by simp only; omega)
  · have : i = n := by omega
    subst this
    rw [if_neg (by omega)]
    exact rsumOut_eq t
theorem rsumLen_eq {l : List Int} (hb : Bytes l) {n k : Nat} (hn : n < 18446744073709551616) (hk : l.length + 8 = 64 * k) (hl : l.length ≤ 900000000) (t2 : List Int) :
    bigLoop _ _ (fun again x => T_ref7_Sum_loop1 bigLoop sol_ref7_block again x.1 x.2.1 x.2.2.1 x.2.2.2.1) (t2, (l, (((n : Nat) : Int), ((7 : Int), ())))) = some ((shaOut (states (l ++ beB 8 n) k), ()), ((), ())) := by
  refine Eq.trans (bigLoop_rule (I := fun x => x.2.2.1 = ((n : Nat) : Int) ∧ (-1 : Int) ≤ x.2.2.2.1 ∧ x.2.2.2.1 ≤ (7 : Int) ∧ Bytes x.2.1 ∧ (x.2.1.length : Int) + x.2.2.2.1 + 1 = ((64 * k : Nat) : Int)) (m := fun x => (x.2.2.2.1 + 1).toNat) (g := fun x => some ((shaOut (states (x.2.1 ++ beB (x.2.2.2.1 + 1).toNat n) k), ()), ((), ()))) ?_
    ⟨rfl, by simp only; omega, by simp only; omega, hb, by simp only; omega⟩ (by simp only [bigN_eq]; omega)) rfl
  rintro ⟨t, l', n', i, _⟩ again ⟨e0, e1, e2, e3, e4⟩ hag
  simp only at e0 e1 e2 e3 e4 hag ⊢
  subst e0
  simp only [T_ref7_Sum_loop1, letR_eq, brR_dec, append_def, ge_iff_le]
  by_cases hi : 0 ≤ i
  · obtain ⟨j, rfl⟩ := Int.eq_ofNat_of_zero_le hi
    rw [if_pos hi, w_i64 (n := 8 * (j : Int)) (by omega) (by omega), w_u64 (n := 8 * (j : Int)) (by omega) (by omega), if_pos (by omega), brR_room8 (by omega), w_i64 (by omega) (by omega), show (8 * (j : Int)).toNat = 8 * j by omega, Nat.min_eq_left (by omega)]
    have p : ∀ k : Nat, (2 : Int) ^ k = ((2 ^ k : Nat) : Int) := fun k => by rw [Int.natCast_pow]; rfl
    have hby : IntKind.wrap .u8 (Int.fdiv ((n : Nat) : Int) ((2 : Int) ^ (8 * j))) = ((n / 256 ^ j % 256 : Nat) : Int) := by
      rw [p, d32, IntKind.wrap_u8, pow256]; omega
    rw [hby, hag _ ⟨rfl, by simp only; omega, by simp only; omega, e3.append (by intro x hx; simp only [List.mem_singleton] at hx; subst hx; omega), by simp only [List.length_append, List.length_singleton]; omega⟩ (by simp only; omega)]
    simp only
    rw [show ((j : Int) - 1 + 1).toNat = j by omega, show ((j : Int) + 1).toNat = j + 1 by omega, beB]; simp
  · have : i = -1 := by omega
    subst this
    rw [if_neg hi]
    have := rsumBlocks_eq e3 (n := k) (by omega) (by omega) t
    refine Eq.trans this ?_
    simp [beB]
theorem rsum_eq {b : List Int} (hb : Bytes b) (hl : b.length ≤ 100000000) : sol_ref7_Sum (b, ()) = some ((sha b, ()), ((), ())) := by
  unfold sol_ref7_Sum T_ref7_Sum
  simp only [append_def]
  rw [brR_room8 (by omega), brR_room8 (by omega)]
  refine bigLoop_rule (I := fun x => x.1 = b ∧ ∃ j : Nat, j ≤ (119 - b.length % 64) % 64 ∧ x.2.2.1 = b ++ 128 :: List.replicate j 0) (m := fun x => b.length + 100 - x.2.2.1.length) (g := fun _ => some ((sha b, ()), ((), ()))) ?_
    ⟨rfl, 0, by omega, rfl⟩ (by simp only [bigN_eq]; omega)
  rintro ⟨b', t, l, _⟩ again ⟨e0, j, hj, e1⟩ hag
  simp only at e0 e1 hag ⊢
  subst e0 e1
  have hlen : (b' ++ 128 :: List.replicate j (0 : Int)).length = b'.length + 1 + j := by simp; omega
  simp only [T_ref7_Sum_loop0, letR_eq, brR_dec, brR_not, append_def]
  rw [tmod_pos (by omega), hlen, brR_room8 (by omega)]
  by_cases hc : j = (119 - b'.length % 64) % 64
  · rw [if_pos (by omega), w_u64 (n := ((b'.length : Nat) : Int)) (by omega) (by omega), w_u64 (by omega) (by omega), show ((b'.length : Nat) : Int) * 8 = ((b'.length * 8 : Nat) : Int) by omega]
    have hby : Bytes (b' ++ 128 :: List.replicate j (0 : Int)) := hb.append (by
      intro x hx
      rcases List.mem_cons.1 hx with rfl | hx
      · omega
      · rw [List.eq_of_mem_replicate hx]; omega)
    refine (rsumLen_eq hby (n := b'.length * 8) (k := (b'.length + 1 + j + 8) / 64) (by omega) (by omega) (by omega) t).trans ?_
    have hp : b' ++ 128 :: List.replicate j (0 : Int) ++ beB 8 (b'.length * 8) = padded b' := by simp [padded, hc]
    have hpl : (padded b').length = b'.length + 1 + j + 8 := by rw [← hp, List.length_append, hlen, len_beB]
    rw [hp, ← hpl]; rfl
  · rw [if_neg (by omega)]
    have e : b' ++ 128 :: List.replicate j (0 : Int) ++ [0] = b' ++ 128 :: List.replicate (j + 1) 0 := by
      rw [List.replicate_succ']; simp
    exact hag _ ⟨rfl, j + 1, by omega, by simp only; exact e⟩ (by simp only [e, hlen]; simp; omega)
end Go.Pon
set_option autoImplicit false
set_option linter.unusedVariables false
set_option linter.unusedSimpArgs false
set_option maxRecDepth 100000
namespace Go.Pon
open Go
def H32 (h : List Int) : Prop := h.length = 32 ∧ Bytes h
theorem h32_sha (b : List Int) : H32 (sha b) := ⟨len_sha b, bytes_sha b⟩
def leafH (b : List Int) : List Int := sha (0 :: b)
def nodeH (x y : List Int) : List Int := sha (1 :: (x ++ y))
theorem bytes_cons {x : Int} {b : List Int} (hx : 0 ≤ x ∧ x ≤ 255) (hb : Bytes b) : Bytes (x :: b) := fun y hy => by
  rcases List.mem_cons.1 hy with rfl | hy
  · exact hx
  · exact hb y hy
theorem leaf_eq {b : List Int} (hb : Bytes b) (hl : b.length ≤ 90000000) : sol_hash_Leaf (b, ()) = some ((leafH b, ()), ((), ())) := by
  unfold sol_hash_Leaf T_hash_Leaf
  rw [concat_eq (by simp; omega) (by simp)]
  simp only [bind_some', List.flatten_cons, List.flatten_nil, List.append_nil, List.cons_append, List.nil_append]
  rw [sum_eq (bytes_cons (by omega) hb) (by simp; omega)]
  rfl
theorem take32 {x : List Int} (h : x.length = 32) : List.take (32 - 0) (List.drop 0 x) = x := by
  rw [List.drop_zero, List.take_of_length_le (by omega)]
theorem node_eq {x y : List Int} (hx : H32 x) (hy : H32 y) : sol_hash_Node (x, (y, ())) = some ((nodeH x y, ()), ((), ((), ()))) := by
  unfold sol_hash_Node T_hash_Node
  simp only
  have h1 := hx.1
  have h2 := hy.1
  rw [take32 h1, take32 h2, concat_eq (by simp; omega) (by simp)]
  simp only [bind_some', List.flatten_cons, List.flatten_nil, List.append_nil, List.cons_append, List.nil_append]
  rw [sum_eq (bytes_cons (by omega) (hx.2.append hy.2)) (by simp; omega)]
  rfl
theorem rleaf_eq {b : List Int} (hb : Bytes b) (hl : b.length ≤ 90000000) : sol_ref7_Leaf (b, ()) = some ((leafH b, ()), ((), ())) := by
  unfold sol_ref7_Leaf T_ref7_Leaf
  simp only [append_def]
  rw [brR_room8 (by omega), rsum_eq (b := [0] ++ b) (bytes_cons (by omega) hb) (by simp; omega)]
  rfl
theorem rnode_eq {x y : List Int} (hx : H32 x) (hy : H32 y) : sol_ref7_Node (x, (y, ())) = some ((nodeH x y, ()), ((), ((), ()))) := by
  unfold sol_ref7_Node T_ref7_Node
  simp only [letR_eq, append_def]
  have h1 := hx.1
  have h2 := hy.1
  rw [take32 h1, take32 h2, brR_room8 (by omega), brR_room8 (by simp; omega), rsum_eq (b := [1] ++ x ++ y) (bytes_cons (by omega) (hx.2.append hy.2)) (by simp; omega)]
  rfl
theorem h32_node (x y : List Int) : H32 (nodeH x y) := h32_sha _
theorem h32_leaf (x : List Int) : H32 (leafH x) := h32_sha _
theorem eqD_h32 (x y : List Int) : eqD (.arr 32 (.int .u8)) x y = decide (x = y) := eqD_dec _ _ _
def hv (c : Int) : Int := if 48 ≤ c ∧ c ≤ 57 then c - 48 else if 97 ≤ c ∧ c ≤ 102 then c - 87 else -1
def Hex64 (s : List Int) : Prop := s.length = 64 ∧ ∀ i, i < 64 → 0 ≤ hv (s.getD i 0)
noncomputable instance (s : List Int) : Decidable (Hex64 s) := Classical.propDecidable _
end Go.Pon
set_option autoImplicit false
set_option linter.unusedVariables false
set_option linter.unusedSimpArgs false
set_option maxRecDepth 100000
namespace Go.Pon
open Go
def sp (n : Nat) : Nat := 2 ^ Nat.log2 (n - 1)
theorem sp_eq {j n : Nat} (h1 : 2 ^ j < n) (h2 : n ≤ 2 * 2 ^ j) : sp n = 2 ^ j := by
  have hp : 0 < 2 ^ j := Nat.two_pow_pos j
  have : Nat.log2 (n - 1) = j := (Nat.log2_eq_iff (by omega)).2 ⟨by omega, by rw [Nat.pow_succ]; omega⟩
  rw [sp, this]
theorem sp_facts {n : Nat} (h : 2 ≤ n) : 1 ≤ sp n ∧ sp n < n ∧ n ≤ 2 * sp n := by
  have h0 : n - 1 ≠ 0 := by omega
  have h1 := Nat.log2_self_le h0
  have h2 := @Nat.lt_log2_self (n - 1)
  rw [Nat.pow_succ] at h2
  have hp : 0 < 2 ^ Nat.log2 (n - 1) := Nat.two_pow_pos _
  unfold sp
  exact ⟨hp, by omega, by omega⟩
theorem splitPoint_eq {n : Nat} (h2 : 2 ≤ n) (h3 : n ≤ 9223372036854775807) : sol_merkle_splitPoint (((n : Nat) : Int), ()) = some ((((sp n : Nat) : Int), ()), ((), ())) := by
  unfold sol_merkle_splitPoint T_merkle_splitPoint
  refine bigLoop_rule (I := fun x => x.1 = ((n : Nat) : Int) ∧ ∃ j : Nat, x.2.1 = ((2 ^ j : Nat) : Int) ∧ 2 ^ j < n) (m := fun x => (((n : Nat) : Int) - x.2.1).toNat) (g := fun _ => some ((((sp n : Nat) : Int), ()), ((), ()))) ?_
    ⟨rfl, 0, rfl, by simp only [Nat.pow_zero]; omega⟩ (by simp only [bigN_eq]; omega)
  rintro ⟨n', k, _⟩ again ⟨e0, j, e1, e2⟩ hag
  simp only at e0 e1 hag ⊢
  subst e0 e1
  have hp : 0 < 2 ^ j := Nat.two_pow_pos j
  simp only [T_merkle_splitPoint_loop0, brR_dec]
  rw [w_i64 (by omega) (by omega)]
  by_cases hc : ((2 ^ j : Nat) : Int) < ((n : Nat) : Int) - ((2 ^ j : Nat) : Int)
  · rw [if_pos hc, w_i64 (by omega) (by omega)]
    exact hag _ ⟨rfl, j + 1, by simp only [Nat.pow_succ]; omega, by rw [Nat.pow_succ]; omega⟩ (by simp only; omega)
  · rw [if_neg hc, sp_eq e2 (by omega)]
theorem rsplitPoint_eq {n : Nat} (h2 : 2 ≤ n) (h3 : n ≤ 9223372036854775807) : sol_ref8_SplitPoint (((n : Nat) : Int), ()) = some ((((sp n : Nat) : Int), ()), ((), ())) := by
  unfold sol_ref8_SplitPoint T_ref8_SplitPoint
  refine bigLoop_rule (I := fun x => x.1 = ((n : Nat) : Int) ∧ ∃ j : Nat, x.2.1 = ((2 ^ j : Nat) : Int) ∧ 2 ^ j < n) (m := fun x => (((n : Nat) : Int) - x.2.1).toNat) (g := fun _ => some ((((sp n : Nat) : Int), ()), ((), ()))) ?_
    ⟨rfl, 0, rfl, by simp only [Nat.pow_zero]; omega⟩ (by simp only [bigN_eq]; omega)
  rintro ⟨n', k, _⟩ again ⟨e0, j, e1, e2⟩ hag
  simp only at e0 e1 hag ⊢
  subst e0 e1
  have hp : 0 < 2 ^ j := Nat.two_pow_pos j
  simp only [T_ref8_SplitPoint_loop0, brR_dec]
  rw [w_i64 (by omega) (by omega)]
  by_cases hc : ((2 ^ j : Nat) : Int) < ((n : Nat) : Int) - ((2 ^ j : Nat) : Int)
  · rw [if_pos hc, w_i64 (by omega) (by omega)]
    exact hag _ ⟨rfl, j + 1, by simp only [Nat.pow_succ]; omega, by rw [Nat.pow_succ]; omega⟩ (by simp only; omega)
  · rw [if_neg hc, sp_eq e2 (by omega)]
abbrev Z32 : List Int := List.replicate 32 0
theorem h32_zero : H32 Z32 := ⟨by simp, fun x hx => by rw [List.eq_of_mem_replicate hx]; omega⟩
def AllH (l : List (List Int)) : Prop := ∀ h ∈ l, H32 h
theorem AllH.take {l : List (List Int)} (h : AllH l) (i : Nat) : AllH (l.take i) := fun x hx => h x (List.mem_of_mem_take hx)
theorem AllH.drop {l : List (List Int)} (h : AllH l) (i : Nat) : AllH (l.drop i) := fun x hx => h x (List.mem_of_mem_drop hx)
theorem AllH.append {l m : List (List Int)} (h : AllH l) (k : AllH m) : AllH (l ++ m) := fun x hx => by
  rcases List.mem_append.1 hx with hx | hx
  · exact h x hx
  · exact k x hx
theorem AllH.at {l : List (List Int)} (h : AllH l) (i : Nat) : H32 (l.getD i Z32) := by
  rcases Nat.lt_or_ge i l.length with hi | hi
  · exact h _ (getD_mem hi)
  · rw [List.getD_eq_getElem?_getD, List.getElem?_eq_none hi]; exact h32_zero
theorem AllH.one {x : List Int} (h : H32 x) : AllH [x] := fun y hy => by simp only [List.mem_singleton] at hy; subst hy; exact h
def rootH (l : List (List Int)) : List Int :=
  if l.length = 0 then sha [] else if l.length = 1 then l.getD 0 Z32 else
    if h : 2 ≤ l.length then nodeH (rootH (l.take (sp l.length))) (rootH (l.drop (sp l.length))) else []
termination_by l.length
decreasing_by
  all_goals
    have := sp_facts h
    simp only [List.length_take, List.length_drop]
    omega
theorem rootH_zero {l : List (List Int)} (h : l.length = 0) : rootH l = sha [] := by rw [rootH, if_pos h]
theorem rootH_one {l : List (List Int)} (h : l.length = 1) : rootH l = l.getD 0 Z32 := by rw [rootH, if_neg (by omega), if_pos h]
theorem rootH_two {l : List (List Int)} (h : 2 ≤ l.length) : rootH l = nodeH (rootH (l.take (sp l.length))) (rootH (l.drop (sp l.length))) := by
  conv => lhs; rw [rootH]
  rw [if_neg (by omega), if_neg (by omega), dif_pos h]
theorem h32_root {l : List (List Int)} (h : AllH l) : H32 (rootH l) := by
  by_cases h0 : l.length = 0
  · rw [rootH_zero h0]; exact h32_sha _
  by_cases h1 : l.length = 1
  · rw [rootH_one h1]; exact h.at 0
  rw [rootH_two (by omega)]; exact h32_node _ _
theorem rrootN_eq : ∀ (f : Nat) (l : List (List Int)), l.length < f → l.length ≤ 1000000000 → AllH l → solN_ref8_RootOf f (l, ()) = some ((rootH l, ()), ((), ()))
  | 0, l, h, _, _ => by omega
  | f + 1, l, h, hl, ha => by
    unfold solN_ref8_RootOf T_ref8_RootOf
    simp only [letR_eq, brR_dec, brR_inR, brR_and]
    by_cases h0 : l.length = 0
    · rw [if_pos (by omega), rsum_eq (by intro x hx; cases hx) (by simp), rootH_zero h0]; rfl
    rw [if_neg (by omega)]
    by_cases h1 : l.length = 1
    · rw [if_pos (by omega), if_pos (by omega), rootH_one h1]
    have hs := sp_facts (n := l.length) (by omega)
    have t1 : List.take (sp l.length - 0) (List.drop 0 l) = l.take (sp l.length) := by simp
    have t2 : List.take (l.length - sp l.length) (List.drop (sp l.length) l) = l.drop (sp l.length) := List.take_of_length_le (by rw [List.length_drop]; omega)
    rw [if_neg (by omega), rsplitPoint_eq (by omega) (by omega)]
    simp only [bind_some', Int.toNat_natCast]
    rw [t1, t2, if_pos (by omega), if_pos (by omega), rrootN_eq f (l.take (sp l.length)) (by rw [List.length_take]; omega) (by rw [List.length_take]; omega) (ha.take _)]
    simp only [bind_some']
    rw [if_pos (by omega), if_pos (by omega), rrootN_eq f (l.drop (sp l.length)) (by rw [List.length_drop]; omega) (by rw [List.length_drop]; omega) (ha.drop _)]
    simp only [bind_some']
    rw [rnode_eq (h32_root (ha.take _)) (h32_root (ha.drop _)), rootH_two (l := l) (by omega)]
    rfl
theorem rrootOf_eq {l : List (List Int)} (hl : l.length ≤ 1000000000) (ha : AllH l) : sol_ref8_RootOf (l, ()) = some ((rootH l, ()), ((), ())) :=
  rrootN_eq bigF l (by rw [bigF_eq]; omega) hl ha
def proofH (l : List (List Int)) (i : Nat) : List (List Int) :=
  if h : 2 ≤ l.length then
    if i < sp l.length then proofH (l.take (sp l.length)) i ++ [rootH (l.drop (sp l.length))] else proofH (l.drop (sp l.length)) (i - sp l.length) ++ [rootH (l.take (sp l.length))]
  else []
termination_by l.length
decreasing_by
  all_goals
    have := sp_facts h
    simp only [List.length_take, List.length_drop]
    omega
theorem proofH_small {l : List (List Int)} {i : Nat} (h : l.length < 2) : proofH l i = [] := by rw [proofH, dif_neg (by omega)]
theorem proofH_left {l : List (List Int)} {i : Nat} (h : 2 ≤ l.length) (hi : i < sp l.length) : proofH l i = proofH (l.take (sp l.length)) i ++ [rootH (l.drop (sp l.length))] := by
  conv => lhs; rw [proofH]
  rw [dif_pos h, if_pos hi]
theorem proofH_right {l : List (List Int)} {i : Nat} (h : 2 ≤ l.length) (hi : ¬ i < sp l.length) : proofH l i = proofH (l.drop (sp l.length)) (i - sp l.length) ++ [rootH (l.take (sp l.length))] := by
  conv => lhs; rw [proofH]
  rw [dif_pos h, if_neg hi]
theorem proofH_facts : ∀ (n : Nat) (l : List (List Int)) (i : Nat), l.length ≤ n → AllH l → (proofH l i).length ≤ l.length ∧ AllH (proofH l i)
  | 0, l, i, h, _ => by rw [proofH_small (by omega)]; exact ⟨by simp, fun x hx => by cases hx⟩
  | n + 1, l, i, h, ha => by
    by_cases h2 : 2 ≤ l.length
    · have hs := sp_facts h2
      by_cases hi : i < sp l.length
      · obtain ⟨k1, k2⟩ := proofH_facts n (l.take (sp l.length)) i (by rw [List.length_take]; omega) (ha.take _)
        rw [proofH_left h2 hi]
        refine ⟨?_, k2.append (AllH.one (h32_root (ha.drop _)))⟩
        rw [List.length_take] at k1
        rw [List.length_append, List.length_singleton]; omega
      · obtain ⟨k1, k2⟩ := proofH_facts n (l.drop (sp l.length)) (i - sp l.length) (by rw [List.length_drop]; omega) (ha.drop _)
        rw [proofH_right h2 hi]
        refine ⟨?_, k2.append (AllH.one (h32_root (ha.take _)))⟩
        rw [List.length_drop] at k1
        rw [List.length_append, List.length_singleton]; omega
    · rw [proofH_small (by omega)]; exact ⟨by simp, fun x hx => by cases hx⟩
theorem brR_roomH {α : Type} {n : Nat} (h : n ≤ 100000000) (a b : Option α) : brR (roomy n (.arr 32 (.int .u8))) a b = a := by
  rw [brR_roomy, show (Ty.arr 32 (Ty.int IntKind.u8)).size = 32 from rfl, if_pos ⟨by omega, by omega⟩]
theorem rproofN_eq : ∀ (f : Nat) (l : List (List Int)) (i : Nat), l.length < f → 1 ≤ l.length → l.length ≤ 10000000 → i < l.length → AllH l → solN_ref8_Proof f (l, (((i : Nat) : Int), ())) = some ((proofH l i, ()), ((), ((), ())))
  | 0, l, i, h, _, _, _, _ => by omega
  | f + 1, l, i, h, hl0, hl, hi, ha => by
    unfold solN_ref8_Proof T_ref8_Proof
    simp only [letR_eq, brR_dec, brR_and]
    by_cases h1 : l.length = 1
    · rw [if_pos (by omega), proofH_small (by omega)]
    have hs := sp_facts (n := l.length) (by omega)
    have t1 : List.take (sp l.length - 0) (List.drop 0 l) = l.take (sp l.length) := by simp
    have t2 : List.take (l.length - sp l.length) (List.drop (sp l.length) l) = l.drop (sp l.length) := List.take_of_length_le (by rw [List.length_drop]; omega)
    have k1 := proofH_facts l.length (l.take (sp l.length)) i (by rw [List.length_take]; omega) (ha.take _)
    have k2 := proofH_facts l.length (l.drop (sp l.length)) (i - sp l.length) (by rw [List.length_drop]; omega) (ha.drop _)
    rw [List.length_take] at k1
    rw [List.length_drop] at k2
    rw [if_neg (by omega), rsplitPoint_eq (by omega) (by omega)]
    have g1 : (0 : Int) ≤ ((sp l.length : Nat) : Int) := by omega
    have g2 : ((sp l.length : Nat) : Int) ≤ ((l.length : Nat) : Int) := by omega
    simp only [bind_some', Int.toNat_natCast, if_pos g1, if_pos g2]
    rw [t1, t2]
    by_cases hc : i < sp l.length
    · rw [if_pos (by omega), rproofN_eq f (l.take (sp l.length)) i (by rw [List.length_take]; omega) (by rw [List.length_take]; omega) (by rw [List.length_take]; omega) (by rw [List.length_take]; omega) (ha.take _)]
      simp only [bind_some']
      rw [rrootOf_eq (by rw [List.length_drop]; omega) (ha.drop _)]
      simp only [bind_some']
      rw [brR_roomH (by omega), proofH_left (by omega) hc]; rfl
    · rw [if_neg (by omega), w_i64 (by omega) (by omega), show ((i : Nat) : Int) - ((sp l.length : Nat) : Int) = ((i - sp l.length : Nat) : Int) by omega,
        rproofN_eq f (l.drop (sp l.length)) (i - sp l.length) (by rw [List.length_drop]; omega) (by rw [List.length_drop]; omega) (by rw [List.length_drop]; omega) (by rw [List.length_drop]; omega) (ha.drop _)]
      simp only [bind_some']
      rw [rrootOf_eq (by rw [List.length_take]; omega) (ha.take _)]
      simp only [bind_some']
      rw [brR_roomH (by omega), proofH_right (by omega) hc]; rfl
theorem rproof_eq {l : List (List Int)} {i : Nat} (hl : l.length ≤ 10000000) (hi : i < l.length) (ha : AllH l) : sol_ref8_Proof (l, (((i : Nat) : Int), ())) = some ((proofH l i, ()), ((), ((), ()))) :=
  rproofN_eq bigF l i (by rw [bigF_eq]; omega) (by omega) hl hi ha
def upR : Nat → Nat → List Int → List (List Int) → Option (List Int)
  | n, i, leaf, [] => if n = 1 then some leaf else none
  | n, i, leaf, last :: rest => if n = 1 then none else
    if i < sp n then (upR (sp n) i leaf rest).map (fun h => nodeH h last) else (upR (n - sp n) (i - sp n) leaf rest).map (fun h => nodeH last h)
theorem last_split {p : List (List Int)} (h : p ≠ []) : ∃ rest last, p = rest ++ [last] ∧ p.reverse = last :: rest.reverse := by
  have e : p = p.dropLast ++ [p.getLast h] := (List.dropLast_concat_getLast h).symm
  refine ⟨p.dropLast, p.getLast h, e, ?_⟩
  conv => lhs; rw [e]
  rw [List.reverse_append]; rfl
theorem fromN_eq : ∀ (f : Nat) (p : List (List Int)) (n i : Nat) (leaf : List Int), p.length < f → p.length ≤ 1000000000 → 1 ≤ n → n ≤ 9223372036854775807 → i < n → H32 leaf → AllH p →
    ∃ h, H32 h ∧ solN_merkle_rootFrom f (((n : Nat) : Int), (((i : Nat) : Int), (leaf, (p, ())))) = some ((h, ((upR n i leaf p.reverse).isSome, ())), ((), ((), ((), ((), ()))))) ∧ ∀ r, upR n i leaf p.reverse = some r → h = r
  | 0, p, n, i, leaf, h, _, _, _, _, _, _ => by omega
  | f + 1, p, n, i, leaf, h, hl, hn1, hn2, hi, hf, ha => by
    unfold solN_merkle_rootFrom T_merkle_rootFrom
    simp only [letR_eq, brR_dec, brR_inR, brR_and]
    by_cases hp : p = []
    · subst hp
      by_cases h1 : n = 1
      · subst h1
        exact ⟨leaf, hf, by simp [upR], fun r hr => by simpa [upR] using hr⟩
      · refine ⟨Z32, h32_zero, ?_, fun r hr => by simp [upR, h1] at hr⟩
        rw [if_neg (by omega), if_pos (by simp)]
        simp [upR, h1, Z32]
    obtain ⟨rest, last, e1, e2⟩ := last_split hp
    have hlen : p.length = rest.length + 1 := by rw [e1]; simp
    rw [e2]
    by_cases h1 : n = 1
    · subst h1
      refine ⟨leaf, hf, ?_, fun r hr => by simp [upR] at hr⟩
      rw [if_pos (by omega)]
      simp [upR, hlen]; omega
    have hs := sp_facts (n := n) (by omega)
    rw [if_neg (by omega), if_neg (by omega), splitPoint_eq (by omega) hn2]
    simp only [bind_some']
    rw [w_i64 (n := ((p.length : Nat) : Int) - 1) (by omega) (by omega), if_pos (by omega), if_pos (by omega), if_pos (by omega), show (((p.length : Nat) : Int) - 1).toNat = rest.length by omega]
    have t1 : List.take (rest.length - 0) (List.drop 0 p) = rest := by rw [e1]; simp
    have t2 : p.getD rest.length Z32 = last := by rw [e1, List.getD_eq_getElem?_getD, List.getElem?_append_right (by omega)]; simp
    have hrest : AllH rest := fun x hx => ha x (by rw [e1]; simp [hx])
    have hlast : H32 last := ha last (by rw [e1]; simp)
    rw [t1, t2]
    by_cases hc : i < sp n
    · obtain ⟨h', q1, q2, q3⟩ := fromN_eq f rest (sp n) i leaf (by omega) (by omega) (by omega) (by omega) hc hf hrest
      rw [if_pos (by omega), q2]
      simp only [bind_some']
      rw [node_eq q1 hlast]
      refine ⟨nodeH h' last, h32_node _ _, by simp only [bind_some', upR]; rw [if_neg h1, if_pos hc]; simp, fun r hr => ?_⟩
      simp only [upR] at hr
      rw [if_neg h1, if_pos hc] at hr
      obtain ⟨r', hr1, rfl⟩ := Option.map_eq_some_iff.1 hr
      rw [q3 _ hr1]
    · obtain ⟨h', q1, q2, q3⟩ := fromN_eq f rest (n - sp n) (i - sp n) leaf (by omega) (by omega) (by omega) (by omega) (by omega) hf hrest
      rw [if_neg (by omega), w_i64 (n := (n : Int) - (sp n : Nat)) (by omega) (by omega), w_i64 (n := (i : Int) - (sp n : Nat)) (by omega) (by omega), show (n : Int) - ((sp n : Nat) : Int) = ((n - sp n : Nat) : Int) by omega, show (i : Int) - ((sp n : Nat) : Int) = ((i - sp n : Nat) : Int) by omega, q2]
      simp only [bind_some']
      rw [node_eq hlast q1]
      refine ⟨nodeH last h', h32_node _ _, by simp only [bind_some', upR]; rw [if_neg h1, if_neg hc]; simp, fun r hr => ?_⟩
      simp only [upR] at hr
      rw [if_neg h1, if_neg hc] at hr
      obtain ⟨r', hr1, rfl⟩ := Option.map_eq_some_iff.1 hr
      rw [q3 _ hr1]
theorem upN_eq : ∀ (f : Nat) (p : List (List Int)) (n i : Nat) (leaf : List Int), p.length < f → p.length ≤ 1000000000 → 1 ≤ n → n ≤ 9223372036854775807 → i < n → H32 leaf → AllH p →
    ∃ h, H32 h ∧ solN_ref8_up f (((n : Nat) : Int), (((i : Nat) : Int), (leaf, (p, ())))) = some ((h, ((upR n i leaf p.reverse).isSome, ())), ((), ((), ((), ((), ()))))) ∧ ∀ r, upR n i leaf p.reverse = some r → h = r
  | 0, p, n, i, leaf, h, _, _, _, _, _, _ => by omega
  | f + 1, p, n, i, leaf, h, hl, hn1, hn2, hi, hf, ha => by
    unfold solN_ref8_up T_ref8_up
    simp only [letR_eq, brR_dec, brR_inR, brR_and]
    by_cases hp : p = []
    · subst hp
      by_cases h1 : n = 1
      · subst h1
        exact ⟨leaf, hf, by simp [upR], fun r hr => by simpa [upR] using hr⟩
      · refine ⟨leaf, hf, ?_, fun r hr => by simp [upR, h1] at hr⟩
        rw [if_neg (by omega), if_pos (by simp)]
        simp [upR, h1, Z32]
    obtain ⟨rest, last, e1, e2⟩ := last_split hp
    have hlen : p.length = rest.length + 1 := by rw [e1]; simp
    rw [e2]
    by_cases h1 : n = 1
    · subst h1
      refine ⟨leaf, hf, ?_, fun r hr => by simp [upR] at hr⟩
      rw [if_pos (by omega)]
      simp [upR, hlen]; omega
    have hs := sp_facts (n := n) (by omega)
    rw [if_neg (by omega), if_neg (by omega), rsplitPoint_eq (by omega) hn2]
    simp only [bind_some']
    rw [w_i64 (n := ((p.length : Nat) : Int) - 1) (by omega) (by omega), if_pos (by omega), show (((p.length : Nat) : Int) - 1).toNat = rest.length by omega]
    have g1 : (0 : Int) ≤ ((p.length : Nat) : Int) - 1 := by omega
    have g2 : ((p.length : Nat) : Int) - 1 ≤ ((p.length : Nat) : Int) := by omega
    simp only [if_pos g1, if_pos g2]
    have t1 : List.take (rest.length - 0) (List.drop 0 p) = rest := by rw [e1]; simp
    have t2 : p.getD rest.length Z32 = last := by rw [e1, List.getD_eq_getElem?_getD, List.getElem?_append_right (by omega)]; simp
    have hrest : AllH rest := fun x hx => ha x (by rw [e1]; simp [hx])
    have hlast : H32 last := ha last (by rw [e1]; simp)
    rw [t1, t2]
    by_cases hc : i < sp n
    · obtain ⟨h', q1, q2, q3⟩ := upN_eq f rest (sp n) i leaf (by omega) (by omega) (by omega) (by omega) hc hf hrest
      rw [if_pos (by omega), q2]
      simp only [bind_some']
      rw [rnode_eq q1 hlast]
      refine ⟨nodeH h' last, h32_node _ _, by simp only [bind_some', upR]; rw [if_neg h1, if_pos hc]; simp, fun r hr => ?_⟩
      simp only [upR] at hr
      rw [if_neg h1, if_pos hc] at hr
      obtain ⟨r', hr1, rfl⟩ := Option.map_eq_some_iff.1 hr
      rw [q3 _ hr1]
    · obtain ⟨h', q1, q2, q3⟩ := upN_eq f rest (n - sp n) (i - sp n) leaf (by omega) (by omega) (by omega) (by omega) (by omega) hf hrest
      rw [if_neg (by omega), w_i64 (n := (n : Int) - (sp n : Nat)) (by omega) (by omega), w_i64 (n := (i : Int) - (sp n : Nat)) (by omega) (by omega), show (n : Int) - ((sp n : Nat) : Int) = ((n - sp n : Nat) : Int) by omega, show (i : Int) - ((sp n : Nat) : Int) = ((i - sp n : Nat) : Int) by omega, q2]
      simp only [bind_some']
      rw [rnode_eq hlast q1]
      refine ⟨nodeH last h', h32_node _ _, by simp only [bind_some', upR]; rw [if_neg h1, if_neg hc]; simp, fun r hr => ?_⟩
      simp only [upR] at hr
      rw [if_neg h1, if_neg hc] at hr
      obtain ⟨r', hr1, rfl⟩ := Option.map_eq_some_iff.1 hr
      rw [q3 _ hr1]
noncomputable def verifyH (root : List Int) (n i : Int) (leaf : List Int) (p : List (List Int)) : Bool :=
  decide (0 ≤ i ∧ i < n) && decide (upR n.toNat i.toNat leaf p.reverse = some root)
theorem verify_eq {root leaf : List Int} {n i : Int} {p : List (List Int)} (hn : n ≤ 9223372036854775807) (hl : p.length ≤ 1000000000) (hf : H32 leaf) (ha : AllH p) :
    sol_merkle_Verify (root, (n, (i, (leaf, (p, ()))))) = some ((verifyH root n i leaf p, ()), ((), ((), ((), ((), ((), ())))))) := by
  unfold sol_merkle_Verify T_merkle_Verify verifyH
  simp only [brR_dec]
  by_cases h1 : i < 0
  · rw [if_pos h1, decide_eq_false (by omega)]; rfl
  rw [if_neg h1]
  by_cases h2 : i ≥ n
  · rw [if_pos h2, decide_eq_false (by omega)]; rfl
  rw [if_neg h2, decide_eq_true (by omega)]
  obtain ⟨i, rfl⟩ := Int.eq_ofNat_of_zero_le (show 0 ≤ i by omega)
  obtain ⟨n, rfl⟩ := Int.eq_ofNat_of_zero_le (show 0 ≤ n by omega)
  obtain ⟨h, q1, q2, q3⟩ := fromN_eq bigF p n i leaf (by rw [bigF_eq]; omega) hl (by omega) (by omega) (by omega) hf ha
  unfold sol_merkle_rootFrom
  rw [q2]
  simp only [bind_some', Int.toNat_natCast, Bool.true_and]
  by_cases hu : ∃ r, upR n i leaf p.reverse = some r
  · obtain ⟨r, hu⟩ := hu
    simp only [q3 r hu, hu, Option.isSome_some, brR_true, eqD_h32]
    simp
  · have hn : upR n i leaf p.reverse = none := by
      cases h0 : upR n i leaf p.reverse with
      | none => rfl
      | some r => exact absurd ⟨r, h0⟩ hu
    simp [hn, brR_false]
theorem rverify_eq {root leaf : List Int} {n i : Int} {p : List (List Int)} (hn : n ≤ 9223372036854775807) (hl : p.length ≤ 64) (hf : H32 leaf) (ha : AllH p) :
    sol_ref8_Verify (root, (n, (i, (leaf, (p, ()))))) = some ((verifyH root n i leaf p, ()), ((), ((), ((), ((), ((), ())))))) := by
  unfold sol_ref8_Verify T_ref8_Verify verifyH
  simp only [brR_dec]
  by_cases h1 : i < 0
  · rw [if_pos h1, decide_eq_false (by omega)]; rfl
  rw [if_neg h1]
  by_cases h2 : i ≥ n
  · rw [if_pos h2, decide_eq_false (by omega)]; rfl
  rw [if_neg h2, if_neg (by omega), decide_eq_true (by omega)]
  obtain ⟨i, rfl⟩ := Int.eq_ofNat_of_zero_le (show 0 ≤ i by omega)
  obtain ⟨n, rfl⟩ := Int.eq_ofNat_of_zero_le (show 0 ≤ n by omega)
  obtain ⟨h, q1, q2, q3⟩ := upN_eq bigF p n i leaf (by rw [bigF_eq]; omega) (by omega) (by omega) (by omega) (by omega) hf ha
  unfold sol_ref8_up
  rw [q2]
  simp only [bind_some', Int.toNat_natCast, Bool.true_and]
  by_cases hu : ∃ r, upR n i leaf p.reverse = some r
  · obtain ⟨r, hu⟩ := hu
    simp only [q3 r hu, hu, Option.isSome_some, brR_true, eqD_h32]
    simp
  · have hn : upR n i leaf p.reverse = none := by
      cases h0 : upR n i leaf p.reverse with
      | none => rfl
      | some r => exact absurd ⟨r, h0⟩ hu
    simp [hn, brR_false]
end Go.Pon
set_option autoImplicit false
set_option linter.unusedVariables false
set_option linter.unusedSimpArgs false
namespace Go.Pon
open Go
theorem bytes_enc {n : Nat} (h : bylen n ≤ 255) : Bytes (enc n) := by
  intro x hx
  rcases List.mem_cons.1 hx with rfl | hx
  · omega
  · exact beB_byte x hx
end Go.Pon
set_option autoImplicit false
set_option linter.unusedVariables false
set_option linter.unusedSimpArgs false
namespace Go.Pon
open Go
theorem bylen_eq {n i : Nat} (h1 : n < 256 ^ (i + 1)) (h2 : 256 ^ i ≤ n) : bylen n = i + 1 := by
  have a := bylen_le.2 h1
  rcases Nat.lt_or_ge i (bylen n) with h | h
  · omega
  · have := bylen_le.1 h; omega
theorem digits_eq {n : Nat} (hn : n < 115792089237316195423570985008687907853269984665640564039457584007913129639936) : sol_ref6_digits (lim n, ()) = some ((beB (bylen n) n, ()), ((), ())) := by
  unfold sol_ref6_digits T_ref6_digits
  refine Eq.trans (bigLoop_rule (I := fun x => x.1 = lim n ∧ (-1 : Int) ≤ x.2.2.1 ∧ x.2.2.1 ≤ (31 : Int) ∧ (x.2.1.length : Int) + x.2.2.1 ≤ (31 : Int) ∧ (x.2.1 = [] → n < 256 ^ (x.2.2.1 + 1).toNat)) (m := fun x => (x.2.2.1 + 1).toNat)
    (g := fun x => some ((x.2.1 ++ (if x.2.1 = [] then beB (bylen n) n else beB (x.2.2.1 + 1).toNat n), ()), ((), ()))) ?_
    ⟨rfl, by simp only; omega, by simp only; omega, by simp only [List.length_nil]; omega, fun _ => hn⟩ (by simp only [bigN_eq]; omega)) ?_
  · rintro ⟨l, o, i, _⟩ again ⟨h1, h2, h3, h4, h5⟩ hag
    simp only at h1 h2 h3 h4 h5 hag ⊢
    subst h1
    simp only [T_ref6_digits_loop0, letR_eq, brR_dec, brR_inR, ge_iff_le, append_def]
    by_cases hi : 0 ≤ i
    · obtain ⟨j, rfl⟩ := Int.eq_ofNat_of_zero_le hi
      have ej : ((j : Int) + 1).toNat = j + 1 := by omega
      rw [if_pos hi, tdiv_pos hi, tmod_pos hi, w_i64 (n := (j : Int) / 8) (by omega) (by omega), w_i64 (n := 8 * ((j : Int) % 8)) (by omega) (by omega), w_u64 (by omega) (by omega), if_pos (by omega), if_pos (by omega), brR_room8 (by omega), w_i64 (by omega) (by omega)]
      rw [show ((j : Int) / 8).toNat = j / 8 by omega, show (8 * ((j : Int) % 8)).toNat = 8 * (j % 8) by omega, byte_out hn (by omega)]
      have hb : beB (j + 1) n = ((n / 256 ^ j % 256 : Nat) : Int) :: beB j n := rfl
      rw [ej] at h5 ⊢
      have step : o.length > 0 ∨ n / 256 ^ j % 256 > 0 → again (lim n, (o ++ [((n / 256 ^ j % 256 : Nat) : Int)], ((j : Int) - 1, ()))) = some ((o ++ (if o = [] then beB (bylen n) n else beB (j + 1) n), ()), ((), ())) := by
        intro hc
        rw [hag _ ⟨rfl, by simp only; omega, by simp only; omega, by simp only [List.length_append, List.length_singleton]; omega, fun h => by simp at h⟩ (by simp only; omega)]
        simp only
        rw [if_neg (by simp), show ((j : Int) - 1 + 1).toNat = j by omega]
        by_cases ho : o = []
        · subst ho
          have h6 := h5 rfl
          have h7 : 256 ^ j ≤ n := by
            rcases Nat.lt_or_ge n (256 ^ j) with h | h
            · rw [Nat.div_eq_of_lt h] at hc; simp at hc
            · exact h
          rw [if_pos rfl, bylen_eq h6 h7, hb]; simp
        · rw [if_neg ho, hb]; simp
      by_cases c1 : (o.length : Int) > 0
      · rw [if_pos c1, step (.inl (by omega))]
      · rw [if_neg c1]
        have ho : o = [] := List.length_eq_zero_iff.1 (by omega)
        by_cases c2 : ((n / 256 ^ j % 256 : Nat) : Int) > 0
        · rw [if_pos c2, step (.inr (by omega))]
        · rw [if_neg c2]
          have h6 := h5 ho
          have hlt : n / 256 ^ j < 256 := by
            rw [Nat.div_lt_iff_lt_mul (Nat.pow_pos (by omega)), Nat.mul_comm, ← Nat.pow_succ]; exact h6
          have h7 : n < 256 ^ j := by
            rw [Nat.mod_eq_of_lt hlt] at c2
            have : n / 256 ^ j = 0 := by generalize n / 256 ^ j = q at *; omega
            exact (Nat.div_eq_zero_iff.1 this).resolve_left (by have := Nat.pow_pos (a := 256) (n := j) (by omega); omega)
          rw [hag _ ⟨rfl, by simp only; omega, by simp only; omega, by simp only; omega, fun _ => by simp only; rw [show ((j : Int) - 1 + 1).toNat = j by omega]; exact h7⟩ (by simp only; omega)]
          simp [ho]
    · have : i = -1 := by omega
      subst this
      rw [if_neg hi]
      by_cases ho : o = []
      · have h6 : n < 1 := h5 ho
        have : n = 0 := by omega
        subst this
        simp [bylen_zero, beB]
      · simp [ho, beB]
  · simp
theorem rAppendUint256_eq {b : List Int} (hb : b.length ≤ 1000000000) {n : Nat} (hn : n < 115792089237316195423570985008687907853269984665640564039457584007913129639936) :
    sol_ref6_AppendUint256 (b, (lim n, ())) = some ((b ++ enc n, ()), ((), ((), ()))) := by
  unfold sol_ref6_AppendUint256 T_ref6_AppendUint256 enc
  have h2 := bylen_256 hn
  rw [digits_eq hn]
  simp only [bind_some', letR_eq, append_def]
  rw [len_beB, w_u8 (by omega) (by omega), brR_room8 (by omega), brR_room8 (by omega), brR_room8 (by simp; omega)]
  simp
theorem rAppendUint64_eq {b : List Int} (hb : b.length ≤ 1000000000) {n : Int} (h0 : 0 ≤ n) (h1 : n ≤ 18446744073709551615) :
    sol_ref6_AppendUint64 (b, (n, ())) = some ((b ++ enc n.toNat, ()), ((), ((), ()))) := by
  unfold sol_ref6_AppendUint64 T_ref6_AppendUint64
  simp only
  rw [lim_small h0 h1, rAppendUint256_eq hb (by omega)]
  rfl
end Go.Pon
set_option autoImplicit false
set_option linter.unusedVariables false
set_option linter.unusedSimpArgs false
namespace Go.Pon
open Go
abbrev MsgT := Int × (Int × (List Int × Unit))
inductive MsgW : MsgT → Prop
  | mk {s t : Int} {v : Nat} (hs : 0 ≤ s ∧ s ≤ 18446744073709551615) (ht : 0 ≤ t ∧ t ≤ 18446744073709551615) (hv : v < 115792089237316195423570985008687907853269984665640564039457584007913129639936) : MsgW (s, (t, (lim v, ())))
abbrev zeroMsg : MsgT := ((0 : Int), ((0 : Int), ([(0 : Int), (0 : Int), (0 : Int), (0 : Int)], ())))
def encMsg (m : MsgT) : List Int := enc m.1.toNat ++ (enc m.2.1.toNat ++ enc (val4 m.2.2.1))
def leafM (m : MsgT) : List Int := leafH (encMsg m)
theorem h32_leafM (m : MsgT) : H32 (leafM m) := h32_leaf _
theorem len_encMsg {m : MsgT} (h : MsgW m) : (encMsg m).length ≤ 1000 ∧ Bytes (encMsg m) := by
  obtain ⟨hs, ht, hv⟩ := h
  rename_i s t v
  have := @bylen_64 s.toNat (by omega); have := @bylen_64 t.toNat (by omega); have := bylen_256 hv
  unfold encMsg
  simp only [val4_lim]
  refine ⟨by simp only [List.length_append, len_enc]; omega, (bytes_enc (by omega)).append ((bytes_enc (by omega)).append (bytes_enc (by omega)))⟩
theorem oEncode_eq {m : MsgT} (h : MsgW m) : sol_outbox_Encode (m, ()) = some ((encMsg m, ()), ((), ())) := by
  obtain ⟨hs, ht, hv⟩ := h
  rename_i s t v
  have := @bylen_64 s.toNat (by omega); have := @bylen_64 t.toNat (by omega); have := bylen_256 hv
  unfold sol_outbox_Encode T_outbox_Encode
  simp only
  rw [appendUint64_eq (by simp) hs.1 hs.2]; simp only [bind_some']
  rw [appendUint64_eq (by simp [len_enc]; omega) ht.1 ht.2]; simp only [bind_some']
  rw [appendUint256_eq (by simp [len_enc]; omega) hv]; simp only [bind_some']
  simp only [encMsg, val4_lim, List.nil_append, List.append_assoc]
theorem rEncodeM_eq {m : MsgT} (h : MsgW m) : sol_ref24_Encode (m, ()) = some ((encMsg m, ()), ((), ())) := by
  obtain ⟨hs, ht, hv⟩ := h
  rename_i s t v
  have := @bylen_64 s.toNat (by omega); have := @bylen_64 t.toNat (by omega); have := bylen_256 hv
  unfold sol_ref24_Encode T_ref24_Encode
  simp only
  rw [rAppendUint64_eq (by simp) hs.1 hs.2]; simp only [bind_some']
  rw [rAppendUint64_eq (by simp [len_enc]; omega) ht.1 ht.2]; simp only [bind_some']
  rw [rAppendUint256_eq (by simp [len_enc]; omega) hv]; simp only [bind_some']
  simp only [encMsg, val4_lim, List.nil_append, List.append_assoc]
theorem oLeaf_eq {m : MsgT} (h : MsgW m) : sol_outbox_Leaf (m, ()) = some ((leafM m, ()), ((), ())) := by
  obtain ⟨h1, h2⟩ := len_encMsg h
  unfold sol_outbox_Leaf T_outbox_Leaf
  simp only
  rw [oEncode_eq h]; simp only [bind_some']
  rw [leaf_eq h2 (by omega)]; simp only [bind_some']
  rfl
theorem rLeafM_eq {m : MsgT} (h : MsgW m) : sol_ref24_Leaf (m, ()) = some ((leafM m, ()), ((), ())) := by
  obtain ⟨h1, h2⟩ := len_encMsg h
  unfold sol_ref24_Leaf T_ref24_Leaf
  simp only
  rw [rEncodeM_eq h]; simp only [bind_some']
  rw [rleaf_eq h2 (by omega)]; simp only [bind_some']
  rfl
def AllM (l : List MsgT) : Prop := ∀ m ∈ l, MsgW m
theorem allH_leafM (l : List MsgT) : AllH (l.map leafM) := fun x hx => by
  obtain ⟨m, _, rfl⟩ := List.mem_map.1 hx
  exact h32_leafM m
theorem AllM.at {l : List MsgT} (h : AllM l) {i : Nat} (hi : i < l.length) (d : MsgT) : MsgW (l.getD i d) := h _ (getD_mem hi)
theorem roomyM {n : Nat} (h : n ≤ 1000000) {α : Type} (a b : Option α) : brR (roomy n (.pair (.int .u64) (.pair (.int .u64) (.pair (.arr 4 (.int .u64)) .unit)))) a b = a := by
  rw [brR_roomy, if_pos ⟨by decide, by simp only [Ty.size]; omega⟩]
def goodM (m : MsgT) (i : Nat) : Bool := decide (m.1 = (i : Int)) && (!decide (m.2.1 = 0) && !decide (val4 m.2.2.1 = 0))
def okM (l : List MsgT) : Bool := (List.range l.length).all fun i => goodM (l.getD i zeroMsg) i
theorem okM_iff {l : List MsgT} : okM l = true ↔ ∀ i, i < l.length → goodM (l.getD i zeroMsg) i = true := by
  unfold okM
  simp only [List.all_eq_true, List.mem_range]
theorem rLeaves_eq {l : List MsgT} (ha : AllM l) (hl : l.length ≤ 100000) {n : Nat} (hn : n ≤ l.length) : sol_ref24_Leaves (l, (((n : Nat) : Int), ())) = some (((l.map leafM).take n, ()), ((), ((), ()))) := by
  unfold sol_ref24_Leaves T_ref24_Leaves
  refine bigLoop_rule (I := fun x => ∃ i : Nat, i ≤ n ∧ x = (l, (((n : Nat) : Int), ((l.map leafM).take i, (((i : Nat) : Int), ()))))) (m := fun x => (((n : Nat) : Int) - x.2.2.2.1).toNat)
    (g := fun _ => some (((l.map leafM).take n, ()), ((), ((), ())))) ?_ ⟨0, by omega, rfl⟩ (by rw [bigN_eq]; simp only; omega)
  rintro x again ⟨i, hi, rfl⟩ hag
  simp only at hag ⊢
  unfold T_ref24_Leaves_loop0
  simp only [brR_dec, brR_inR]
  by_cases h1 : ((i : Nat) : Int) < ((n : Nat) : Int)
  · have hil : i < l.length := by omega
    rw [if_pos h1, if_pos (by omega), Int.toNat_natCast, rLeafM_eq (ha.at hil _)]
    simp only [bind_some', append_def]
    rw [brR_roomH (by simp; omega), w_i64 (by omega) (by omega)]
    have e : (l.map leafM).take i ++ [leafM (l.getD i zeroMsg)] = (l.map leafM).take (i + 1) := by
      rw [← List.map_take, ← List.map_take, take_map_succ hil]
    rw [e]
    rw [hag (l, (((n : Nat) : Int), ((l.map leafM).take (i + 1), (((i : Nat) : Int) + 1, ())))) ⟨i + 1, by omega, by rw [Int.natCast_add]; rfl⟩ (by simp only; omega)]
  · have hil : i = n := by omega
    rw [if_neg h1, hil]
theorem r24Root_in {l : List MsgT} (ha : AllM l) (hl : l.length ≤ 100000) {n : Nat} (hn : n ≤ l.length) : sol_ref24_Root (l, (((n : Nat) : Int), ())) = some ((rootH ((l.map leafM).take n), (true, ())), ((), ((), ()))) := by
  unfold sol_ref24_Root T_ref24_Root
  simp only [brR_dec]
  rw [if_neg (by omega), if_neg (by omega), rLeaves_eq ha hl hn]
  simp only [bind_some']
  rw [rrootOf_eq (by rw [List.length_take]; omega) ((allH_leafM l).take n)]
  rfl
theorem r24Proof_in {l : List MsgT} (ha : AllM l) (hl : l.length ≤ 100000) {i n : Nat} (hi : i < n) (hn : n ≤ l.length) : sol_ref24_Proof (l, (((i : Nat) : Int), (((n : Nat) : Int), ()))) = some ((proofH ((l.map leafM).take n) i, (true, ())), ((), ((), ((), ())))) := by
  unfold sol_ref24_Proof T_ref24_Proof
  simp only [brR_dec]
  rw [if_neg (by omega), if_neg (by omega), if_neg (by omega), rLeaves_eq ha hl hn]
  simp only [bind_some']
  rw [rproof_eq (by rw [List.length_take]; omega) (by rw [List.length_take, List.length_map]; omega) ((allH_leafM l).take n)]
  rfl
end Go.Pon
set_option autoImplicit false
set_option linter.unusedVariables false
set_option linter.unusedSimpArgs false
namespace Go.Pon
open Go
theorem isNaN_eq (x : Int) : sol_cmp_isNaN_api_Address (x, ()) = some ((false, ()), ((), ())) := by
  unfold sol_cmp_isNaN_api_Address T_cmp_isNaN_api_Address
  simp
def cmpI (x y : Int) : Int := if x < y then -1 else if x > y then 1 else 0
theorem compare_eq (x y : Int) : sol_cmp_Compare_api_Address (x, (y, ())) = some ((cmpI x y, ()), ((), ((), ()))) := by
  unfold sol_cmp_Compare_api_Address T_cmp_Compare_api_Address
  rw [isNaN_eq, isNaN_eq]
  simp only [bind_some', brR_false, brR_dec]
  unfold cmpI
  by_cases h : x < y
  · rw [if_pos h, if_pos h]
  · rw [if_neg h, if_neg h]
    by_cases h2 : x > y
    · rw [if_pos h2, if_pos h2]
    · rw [if_neg h2, if_neg h2]
theorem half_eq {i j : Nat} (h : i + j ≤ 4000000) : IntKind.wrap .i64 (Int.fdiv (IntKind.wrap .u64 (IntKind.wrap .i64 (((i : Nat) : Int) + ((j : Nat) : Int)))) 2) = (((i + j) / 2 : Nat) : Int) := by
  rw [w_i64 (n := ((i : Nat) : Int) + ((j : Nat) : Int)) (by omega) (by omega), w_u64 (by omega) (by omega), Int.fdiv_eq_ediv_of_nonneg _ (by omega), w_i64 (by omega) (by omega)]
  omega
def okA (l : List AccT) (i : Nat) : Prop := (l.getD i zAcc).1 ≠ 0 ∧ ¬ isE (l.getD i zAcc) ∧ (0 < i → (l.getD (i - 1) zAcc).1 < (l.getD i zAcc).1)
def VA (l : List AccT) : Prop := ∀ i, i < l.length → okA l i
theorem VA.srt {l : List AccT} (h : VA l) : Srt l := by
  refine List.pairwise_iff_getElem.2 fun i j hi hj hij => ?_
  have key : ∀ d, i + 1 + d < l.length → (l.getD i zAcc).1 < (l.getD (i + 1 + d) zAcc).1 := by
    intro d
    induction d with
    | zero => intro hd; exact (h (i + 1) (by omega)).2.2 (by omega)
    | succ d ih =>
      intro hd
      have h1 := ih (by omega)
      have h2 := (h (i + 1 + (d + 1)) hd).2.2 (by omega)
      rw [show i + 1 + (d + 1) - 1 = i + 1 + d by omega] at h2
      omega
  have := key (j - i - 1) (by omega)
  rw [show i + 1 + (j - i - 1) = j by omega, List.getD_eq_getElem?_getD, List.getElem?_eq_getElem hi, List.getD_eq_getElem?_getD, List.getElem?_eq_getElem hj] at this
  exact this
theorem mem_getD {l : List AccT} {x : AccT} (h : x ∈ l) : ∃ i, i < l.length ∧ l.getD i zAcc = x := by
  obtain ⟨i, hi, rfl⟩ := List.getElem_of_mem h
  exact ⟨i, hi, by rw [List.getD_eq_getElem?_getD, List.getElem?_eq_getElem hi]; rfl⟩
theorem VA.ne {l : List AccT} (h : VA l) : NE l := fun x hx => by
  obtain ⟨i, hi, rfl⟩ := mem_getD hx
  exact (h i hi).2.1
end Go.Pon
set_option autoImplicit false
set_option linter.unusedVariables false
set_option linter.unusedSimpArgs false
namespace Go.Pon
open Go
theorem zP2_eq : (((0 : Int), ([(0 : Int), (0 : Int), (0 : Int), (0 : Int)], ())) : PayT) = zPay := rfl
abbrev EscT := List (List Int) × (List Bool × (List Int × (List PayT × Unit)))
abbrev esc (r : List (List Int)) (cl : List Bool) (h : Nat) (p : List PayT) : EscT := (r, (cl, (lim h, (p, ()))))
theorem roomyQ {n : Nat} (h : n ≤ 1000000) : roomy n (.pair (.int .u64) (.pair (.arr 4 (.int .u64)) .unit)) = true := by
  rw [roomy_dec, decide_eq_true_eq]
  exact ⟨by decide, by simp only [Ty.size]; omega⟩
theorem roomyBo {n : Nat} (h : n ≤ 1000000) : roomy n .bool = true := by
  rw [roomy_dec, decide_eq_true_eq]
  exact ⟨by decide, by simp only [Ty.size]; omega⟩
theorem roomyHa {n : Nat} (h : n ≤ 1000000) : roomy n (.arr 32 (.int .u8)) = true := by
  rw [roomy_dec, decide_eq_true_eq]
  exact ⟨by decide, by simp only [Ty.size]; omega⟩
theorem insertPay_eq {l : List PayT} {p : PayT} {i : Nat} (h : l.length ≤ 999990) (hi : i ≤ l.length) : sol_slices_Insert_api_Payment_api_Payment (l, (((i : Nat) : Int), ([p], ()))) = some ((l.take i ++ (p :: l.drop i), ()), ((), ((), ((), ())))) := by
  unfold sol_slices_Insert_api_Payment_api_Payment T_slices_Insert_api_Payment_api_Payment insF
  have hr : roomy (List.length l + List.length [p]) (.pair (.int .u64) (.pair (.arr 4 (.int .u64)) .unit)) = true := roomyQ (by simp; omega)
  have hc : (0 : Int) ≤ ((i : Nat) : Int) ∧ ((i : Nat) : Int) ≤ ((List.length l : Nat) : Int) ∧ 0 < List.length [p] ∧ roomy (List.length l + List.length [p]) (.pair (.int .u64) (.pair (.arr 4 (.int .u64)) .unit)) = true := ⟨by omega, by omega, by simp, hr⟩
  simp only
  rw [if_pos hc, Int.toNat_natCast]
  rfl
theorem efind1_eq (x : PayT) (a : Int) : sol_escrow_Escrow_find_1 (x, (a, ())) = some ((cmpI x.1 a, ()), ((), ((), ()))) := by
  unfold sol_escrow_Escrow_find_1 T_escrow_Escrow_find_1
  rw [compare_eq]; rfl
theorem bsP_eq {l : List PayT} {a : Int} (hs : SrtP l) (hl : l.length ≤ 1000000) :
    sol_slices_BinarySearchFunc_api_Payment_api_Payment_api_Address (l, (a, ((), ()))) = some ((((cntQ l a : Nat) : Int), (decide (foundQ l a), ())), ((), ((), ((), ())))) := by
  unfold sol_slices_BinarySearchFunc_api_Payment_api_Payment_api_Address T_slices_BinarySearchFunc_api_Payment_api_Payment_api_Address
  try simp only [letR_eq]
  have hc := cntQ_le a l
  refine bigLoop_rule (I := fun x => ∃ i j : Nat, i ≤ cntQ l a ∧ cntQ l a ≤ j ∧ j ≤ l.length ∧ x = (l, (a, ((), (((l.length : Nat) : Int), (((i : Nat) : Int), (((j : Nat) : Int), ()))))))) (m := fun x => (x.2.2.2.2.2.1 - x.2.2.2.2.1).toNat)
    (g := fun _ => some ((((cntQ l a : Nat) : Int), (decide (foundQ l a), ())), ((), ((), ((), ()))))) ?_ ⟨0, l.length, by omega, hc, by omega, rfl⟩ (by rw [bigN_eq]; simp only; omega)
  rintro x again ⟨i, j, h1, h2, h3, rfl⟩ hag
  simp only at hag ⊢
  unfold T_slices_BinarySearchFunc_api_Payment_api_Payment_api_Address_loop0
  rw [zP2_eq]
  simp only [letR_eq, brR_dec, brR_inR]
  rw [half_eq (by omega)]
  by_cases hij : ((i : Nat) : Int) < ((j : Nat) : Int)
  · have hm : (i + j) / 2 < l.length := by omega
    rw [if_pos hij, if_pos (by omega), Int.toNat_natCast, efind1_eq]
    simp only [bind_some', brR_dec]
    unfold cmpI
    generalize hk : (i + j) / 2 = k at *
    by_cases hlt : (l.getD k zPay).1 < a
    · rw [if_pos (by rw [if_pos hlt]; decide), w_i64 (by omega) (by omega)]
      have : k < cntQ l a := by
        rcases Nat.lt_or_ge k (cntQ l a) with h | h
        · exact h
        · have := cntQ_ge hs h hm; omega
      exact hag _ ⟨k + 1, j, by omega, h2, h3, by rw [Int.natCast_add]; rfl⟩ (by simp only; omega)
    · rw [if_neg (by rw [if_neg hlt]; split <;> decide)]
      have : cntQ l a ≤ k := by
        rcases Nat.lt_or_ge k (cntQ l a) with h | h
        · exact absurd (cntQ_lt h) hlt
        · exact h
      exact hag _ ⟨i, k, h1, this, by omega, rfl⟩ (by simp only; omega)
  · have hi : i = cntQ l a := by omega
    subst hi
    rw [if_neg hij]
    by_cases hin : ((cntQ l a : Nat) : Int) < ((l.length : Nat) : Int)
    · rw [if_pos hin, if_pos (by omega), Int.toNat_natCast, efind1_eq]
      simp only [bind_some']
      have hge := cntQ_at (l := l) (a := a) (by omega)
      unfold cmpI foundQ
      by_cases he : (l.getD (cntQ l a) zPay).1 = a
      · rw [decide_eq_true (show cntQ l a < l.length ∧ (l.getD (cntQ l a) zPay).1 = a from ⟨by omega, he⟩), if_neg (by omega), if_neg (by omega)]; rfl
      · rw [decide_eq_false (show ¬ (cntQ l a < l.length ∧ (l.getD (cntQ l a) zPay).1 = a) from fun h => he h.2), if_neg (by omega), if_pos (by omega)]; rfl
    · rw [if_neg hin]
      unfold foundQ
      rw [decide_eq_false (show ¬ (cntQ l a < l.length ∧ (l.getD (cntQ l a) zPay).1 = a) from fun h => by omega)]
theorem efind_eq {r : List (List Int)} {cl : List Bool} {h : List Int} {l : List PayT} {a : Int} (hs : SrtP l) (hl : l.length ≤ 1000000) :
    sol_escrow_Escrow_find ((r, (cl, (h, (l, ())))), (a, ())) = some ((((cntQ l a : Nat) : Int), (decide (foundQ l a), ())), ((r, (cl, (h, (l, ())))), ((), ()))) := by
  unfold sol_escrow_Escrow_find T_escrow_Escrow_find
  simp only
  rw [bsP_eq hs hl]; rfl
theorem l1bal_eq {r : List (List Int)} {cl : List Bool} {h : List Int} {l : List PayT} {a : Int} (hs : SrtP l) (hl : l.length ≤ 1000000) :
    sol_escrow_Escrow_L1Balance (some (r, (cl, (h, (l, ())))), (a, ())) = some (((pget l a).2.1, ()), (some (r, (cl, (h, (l, ())))), ((), ()))) := by
  unfold sol_escrow_Escrow_L1Balance T_escrow_Escrow_L1Balance
  simp only [optR_some]
  rw [efind_eq hs hl]
  simp only [bind_some', brR_dec, brR_inR]
  rw [zP2_eq, pget_cnt hs]
  by_cases hf : foundQ l a
  · rw [if_pos hf, if_pos hf]
    have := hf.1
    rw [if_pos (by omega), Int.toNat_natCast]
  · rw [if_neg hf, if_neg hf]
abbrev pbal (l : List PayT) (a : Int) : Nat := val4 (pget l a).2.1
theorem pget_mk {l : List PayT} {a : Int} (h : AllPay l) (ha : U64 a) : pget l a = (a, (lim (pbal l a), ())) ∧ B256 (pbal l a) := by
  have hw := pgetW h ha
  have hf := pget_fst l a
  unfold pbal
  generalize pget l a = x at hw hf ⊢
  obtain ⟨h1, h2⟩ := hw
  simp only at hf ⊢
  subst hf
  rw [val4_lim]
  exact ⟨rfl, h2⟩
structure EInv (r : List (List Int)) (cl : List Bool) (h : Nat) (p : List PayT) : Prop where
  len : cl.length = r.length
  held : B256 h
  srt : SrtP p
  ne : NEP p
  all : AllPay p
theorem enew_eq : sol_escrow_New () = some ((esc [] [] 0 [], ()), ()) := rfl
theorem deposit_eq {r : List (List Int)} {cl : List Bool} {h : Nat} {p : List PayT} {n : Nat} (hh : B256 h) (hn : B256 n) :
    sol_escrow_Escrow_Deposit (some (esc r cl h p), (lim n, ())) = some (((if n = 0 then (2 : Int) else if h + n < 115792089237316195423570985008687907853269984665640564039457584007913129639936 then 0 else 4), ()),
      (some (esc r cl (if n = 0 then h else if h + n < 115792089237316195423570985008687907853269984665640564039457584007913129639936 then h + n else h) p), ((), ()))) := by
  unfold sol_escrow_Escrow_Deposit T_escrow_Escrow_Deposit
  simp only [optR_some]
  rw [← lim0, eqD_lim, brR_dec]
  by_cases c : n = 0
  · simp only [if_pos c]
  simp only [if_neg c]
  rw [uAdd_eq hh hn]
  simp only [bind_some', brR_not, brR_dec]
  by_cases c2 : h + n < 115792089237316195423570985008687907853269984665640564039457584007913129639936
  · simp only [if_pos c2, if_true]
  · simp only [if_neg c2]
    rw [if_neg (by decide)]
theorem appendRoot_eq {r : List (List Int)} {cl : List Bool} {h : Nat} {p : List PayT} {x : List Int} (hl : r.length ≤ 999990) (hc : cl.length = r.length) :
    sol_escrow_Escrow_AppendRoot (some (esc r cl h p), (x, ())) = some ((((r.length + 1 : Nat) : Int), ()), (some (esc (r ++ [x]) (cl ++ [false]) h p), ((), ()))) := by
  unfold sol_escrow_Escrow_AppendRoot T_escrow_Escrow_AppendRoot
  simp only [letR_eq, optR_some]
  rw [roomyHa (by omega), brR_true, roomyBo (by omega), brR_true, append_def, append_def, List.length_append, List.length_singleton]
theorem ebal_eq (r : List (List Int)) (cl : List Bool) (h : Nat) (p : List PayT) : sol_escrow_Escrow_Balance (some (esc r cl h p), ()) = some ((lim h, ()), (some (esc r cl h p), ())) := rfl
abbrev ClmT := Int × (Int × (Int × (List Int × (List (List Int) × Unit))))
inductive ClmW : ClmT → Prop
  | mk {s z t : Int} {n : Nat} {p : List (List Int)} (hs : U64 s) (hz : U64 z) (ht : U64 t) (hn : B256 n) (hp : AllH p) : ClmW (s, (z, (t, (lim n, (p, ())))))
noncomputable def chkC (r : List (List Int)) (cl : List Bool) (s z t : Int) (n : Nat) (p : List (List Int)) : Int :=
  if t = 0 ∨ n = 0 ∨ 64 < p.length then 2 else if z < 1 ∨ ((r.length : Nat) : Int) < z ∨ z ≤ s then 8 else if cl.getD s.toNat false = true then 9 else
    if verifyH (r.getD (z - 1).toNat Z32) z s (leafM (s, (t, (lim n, ())))) p = true then 0 else 16
theorem checkClaim_eq {r : List (List Int)} {cl : List Bool} {h : Nat} {q : List PayT} {s z t : Int} {n : Nat} {p : List (List Int)} (hc : cl.length = r.length) (hr : r.length ≤ 1000000) (hw : ClmW (s, (z, (t, (lim n, (p, ())))))) :
    sol_escrow_Escrow_checkClaim (some (esc r cl h q), ((s, (z, (t, (lim n, (p, ()))))), ())) = some ((chkC r cl s z t n p, ()), (some (esc r cl h q), ((), ()))) := by
  generalize hcc : (s, (z, (t, (lim n, (p, ()))))) = c at hw
  obtain ⟨hs, hz, ht, hn, hp⟩ := hw
  rename_i s' z' t' n' p'
  obtain ⟨rfl, rfl, rfl, h4, rfl⟩ : s = s' ∧ z = z' ∧ t = t' ∧ lim n = lim n' ∧ p = p' := by
    have := hcc
    simp only [Prod.mk.injEq, and_true] at this
    exact this
  have h4 := lim_inj.1 h4
  subst h4
  clear hcc
  unfold U64 at hs hz ht
  unfold sol_escrow_Escrow_checkClaim T_escrow_Escrow_checkClaim chkC
  simp only [letR_eq, optR_some]
  rw [brR_dec]
  by_cases c1 : t = 0
  · rw [if_pos c1, if_pos (.inl c1)]
  rw [if_neg c1, ← lim0, eqD_lim, brR_dec]
  by_cases c2 : n = 0
  · rw [if_pos c2, if_pos (.inr (.inl c2))]
  rw [if_neg c2, brR_dec]
  by_cases c3 : ((p.length : Nat) : Int) > 64
  · rw [if_pos c3, if_pos (.inr (.inr (by omega)))]
  rw [if_neg c3, if_neg (by omega), brR_dec]
  by_cases c4 : z < 1
  · rw [if_pos c4, if_pos (.inl c4)]
  rw [if_neg c4, brR_dec, w_u64 (n := ((r.length : Nat) : Int)) (by omega) (by omega)]
  by_cases c5 : z > ((r.length : Nat) : Int)
  · rw [if_pos c5, if_pos (.inr (.inl c5))]
  rw [if_neg c5, brR_dec]
  by_cases c6 : s ≥ z
  · rw [if_pos c6, if_pos (.inr (.inr c6))]
  rw [if_neg c6, if_neg (by omega), brR_inR, if_pos (by omega), brR_ite]
  by_cases c7 : cl.getD s.toNat false = true
  · rw [if_pos c7, if_pos c7]
  rw [if_neg c7, if_neg c7, oLeaf_eq (MsgW.mk hs ht hn)]
  simp only [bind_some']
  rw [brR_inR, w_u64 (by omega) (by omega), if_pos (by omega), w_i64 (n := z) (by omega) (by omega), w_i64 (n := s) (by omega) (by omega), verify_eq (by omega) (by omega) (h32_leafM _) hp]
  simp only [bind_some']
  rw [brR_not, brR_ite]
  split <;> rfl
noncomputable def clmS (r : List (List Int)) (cl : List Bool) (h : Nat) (q : List PayT) (s z t : Int) (n : Nat) (p : List (List Int)) : Int × (List Bool × (Nat × List PayT)) :=
  if chkC r cl s z t n p = 0 then (if n ≤ h then (if pbal q t + n < 115792089237316195423570985008687907853269984665640564039457584007913129639936 then (0, (cl.set s.toNat true, (h - n, pput q (t, (lim (pbal q t + n), ()))))) else (4, (cl, (h, q)))) else (10, (cl, (h, q))))
  else (chkC r cl s z t n p, (cl, (h, q)))
theorem chkC_zero {r : List (List Int)} {cl : List Bool} {s z t : Int} {n : Nat} {p : List (List Int)} (h : chkC r cl s z t n p = 0) : t ≠ 0 ∧ n ≠ 0 ∧ 1 ≤ z ∧ z ≤ ((r.length : Nat) : Int) ∧ s < z ∧ cl.getD s.toNat false = false := by
  unfold chkC at h
  split at h
  · omega
  · split at h
    · omega
    · split at h
      · omega
      · rename_i h1 h2 h3
        refine ⟨by omega, by omega, by omega, by omega, by omega, by simpa using h3⟩
theorem claim_eq {r : List (List Int)} {cl : List Bool} {h : Nat} {q : List PayT} {s z t : Int} {n : Nat} {p : List (List Int)} (hi : EInv r cl h q) (hr : r.length ≤ 1000000) (hq : q.length ≤ 999000) (hw : ClmW (s, (z, (t, (lim n, (p, ())))))) (hs : U64 s) (ht : U64 t) (hn : B256 n) :
    sol_escrow_Escrow_Claim (some (esc r cl h q), ((s, (z, (t, (lim n, (p, ()))))), ())) = some (((clmS r cl h q s z t n p).1, ()), (some (esc r (clmS r cl h q s z t n p).2.1 (clmS r cl h q s z t n p).2.2.1 (clmS r cl h q s z t n p).2.2.2), ((), ()))) := by
  have hc := hi.len
  unfold sol_escrow_Escrow_Claim T_escrow_Escrow_Claim clmS
  simp only [optR_some]
  rw [checkClaim_eq hc hr hw]
  simp only [bind_some', optR_some]
  rw [brR_not, brR_dec]
  by_cases c : chkC r cl s z t n p = 0
  case neg => simp only [if_neg c]
  obtain ⟨z1, z2, z3, z4, z5, z6⟩ := chkC_zero c
  unfold U64 at hs
  simp only [if_pos c]
  have hh := hi.held
  by_cases c2 : n ≤ h
  case neg =>
    simp only [if_neg c2]
    rw [uSub_bad (by omega) hn]
    simp only [bind_some']
    rw [brR_not, brR_dec, if_neg (by decide)]
  simp only [if_pos c2]
  rw [uSub_ok hh c2]
  simp only [bind_some']
  rw [brR_not, brR_dec, if_pos trivial, l1bal_eq hi.srt (by omega)]
  obtain ⟨e, hb⟩ := pget_mk hi.all ht
  have e1 : (pget q t).2.1 = lim (pbal q t) := by rw [e]
  clear e
  generalize pbal q t = m at *
  simp only [bind_some', optR_some]
  rw [e1, uAdd_eq hb hn, bind_some']
  dsimp only
  rw [brR_not, brR_dec]
  by_cases c3 : m + n < 115792089237316195423570985008687907853269984665640564039457584007913129639936
  case neg =>
    simp only [if_neg c3]
    rw [if_neg (by decide)]
  simp only [if_pos c3, if_true]
  rw [brR_inR, if_pos (by omega), efind_eq hi.srt (by omega)]
  simp only [bind_some']
  rw [brR_dec, zP2_eq, pput_cnt]
  have hne : ¬ isEP (t, (lim (m + n), ())) := by
    unfold isEP
    simp only [Prod.mk.injEq, true_and, and_true]
    rw [← lim0, lim_inj]
    omega
  rw [if_neg hne, if_neg hne]
  by_cases c4 : foundQ q t
  · have h1 := c4.1
    have h2 := c4.2
    rw [if_pos c4, if_pos c4, brR_inR, if_pos (by omega), Int.toNat_natCast, h2]
  · have hcn := cntQ_le t q
    rw [if_neg c4, if_neg c4, insertPay_eq (by omega) hcn]
    rfl
end Go.Pon
set_option autoImplicit false
set_option linter.unusedVariables false
set_option linter.unusedSimpArgs false
namespace Go.Pon
open Go
abbrev RefT := List Int × (List (List Int) × (List Int × (List PayT × Unit)))
abbrev ref (h : Nat) (r : List (List Int)) (cs : List Int) (m : List PayT) : RefT := (lim h, (r, (cs, (m, ()))))
structure ERel (r : List (List Int)) (cl : List Bool) (h : Nat) (p : List PayT) (cs : List Int) (m : List PayT) : Prop where
  inv : EInv r cl h p
  cls : ∀ s : Int, 0 ≤ s → (s ∈ cs ↔ cl.getD s.toNat false = true)
  dist : DistP m
  all : AllPay m
  ne : NEP m
  sort : psort m = p
theorem dropQ_cons {l : List PayT} {i : Nat} (h : i < l.length) : l.drop i = l.getD i zPay :: l.drop (i + 1) := by
  rw [List.drop_eq_getElem_cons h, List.getD_eq_getElem?_getD, List.getElem?_eq_getElem h]
  rfl
theorem dropI_cons {l : List Int} {i : Nat} (h : i < l.length) : l.drop i = l.getD i 0 :: l.drop (i + 1) := by
  rw [List.drop_eq_getElem_cons h, List.getD_eq_getElem?_getD, List.getElem?_eq_getElem h]
  rfl
theorem rclaimed_eq {h : Nat} {r : List (List Int)} {cs : List Int} {m : List PayT} {s : Int} (hl : cs.length ≤ 1000000) :
    sol_ref25_Escrow_Claimed (ref h r cs m, (s, ())) = some ((decide (s ∈ cs), ()), (ref h r cs m, ((), ()))) := by
  unfold sol_ref25_Escrow_Claimed T_ref25_Escrow_Claimed
  refine bigLoop_rule (I := fun x => ∃ i : Nat, i ≤ cs.length ∧ (s ∈ cs ↔ s ∈ cs.drop i) ∧ x = (ref h r cs m, (s, (((i : Nat) : Int), ())))) (m := fun x => (((cs.length : Nat) : Int) - x.2.2.1).toNat)
    (g := fun _ => some ((decide (s ∈ cs), ()), (ref h r cs m, ((), ())))) ?_ ⟨0, by omega, by rw [List.drop_zero], rfl⟩ (by rw [bigN_eq]; simp only; omega)
  rintro x again ⟨i, hi, hf, rfl⟩ hag
  simp only at hag ⊢
  unfold T_ref25_Escrow_Claimed_loop0
  simp only [letR_eq, brR_dec, brR_inR]
  by_cases h1 : ((i : Nat) : Int) < ((cs.length : Nat) : Int)
  · have hil : i < cs.length := by omega
    rw [if_pos h1, if_pos (by omega), Int.toNat_natCast]
    rw [dropI_cons hil, List.mem_cons] at hf
    by_cases he : cs.getD i 0 = s
    · rw [if_pos he, decide_eq_true (hf.2 (.inl he.symm))]
    · rw [if_neg he, w_i64 (by omega) (by omega)]
      exact hag _ ⟨i + 1, by omega, ⟨fun h => (hf.1 h).resolve_left fun h => he h.symm, fun h => hf.2 (.inr h)⟩, by rw [Int.natCast_add]; rfl⟩ (by simp only; omega)
  · rw [if_neg h1]
    rw [List.drop_of_length_le (by omega)] at hf
    rw [decide_eq_false fun h => by have := hf.1 h; simp at this]
theorem pget_drop {m : List PayT} {a : Int} {i : Nat} (h : i < m.length) : pget (m.drop i) a = if (m.getD i zPay).1 = a then m.getD i zPay else pget (m.drop (i + 1)) a := by
  rw [dropQ_cons h]; rfl
theorem rl1bal_eq {h : Nat} {r : List (List Int)} {cs : List Int} {m : List PayT} {a : Int} (hl : m.length ≤ 1000000) :
    sol_ref25_Escrow_L1Balance (ref h r cs m, (a, ())) = some (((pget m a).2.1, ()), (ref h r cs m, ((), ()))) := by
  unfold sol_ref25_Escrow_L1Balance T_ref25_Escrow_L1Balance
  refine bigLoop_rule (I := fun x => ∃ i : Nat, i ≤ m.length ∧ pget m a = pget (m.drop i) a ∧ x = (ref h r cs m, (a, ([(0 : Int), (0 : Int), (0 : Int), (0 : Int)], (((i : Nat) : Int), ()))))) (m := fun x => (((m.length : Nat) : Int) - x.2.2.2.1).toNat)
    (g := fun _ => some (((pget m a).2.1, ()), (ref h r cs m, ((), ())))) ?_ ⟨0, by omega, by rw [List.drop_zero], rfl⟩ (by rw [bigN_eq]; simp only; omega)
  rintro x again ⟨i, hi, hf, rfl⟩ hag
  simp only at hag ⊢
  unfold T_ref25_Escrow_L1Balance_loop0
  rw [zP2_eq]
  simp only [letR_eq, brR_dec, brR_inR]
  by_cases h1 : ((i : Nat) : Int) < ((m.length : Nat) : Int)
  · have hil : i < m.length := by omega
    rw [if_pos h1, if_pos (by omega), Int.toNat_natCast]
    rw [pget_drop hil] at hf
    by_cases he : (m.getD i zPay).1 = a
    · rw [if_pos he] at hf ⊢
      rw [if_pos (by omega), hf]
    · rw [if_neg he] at hf ⊢
      rw [w_i64 (by omega) (by omega)]
      exact hag _ ⟨i + 1, by omega, hf, by rw [Int.natCast_add]; rfl⟩ (by simp only; omega)
  · rw [if_neg h1]
    rw [List.drop_of_length_le (by omega)] at hf
    rw [hf]
    rfl
theorem rdeposit_eq {r : List (List Int)} {cs : List Int} {h : Nat} {m : List PayT} {n : Nat} (hh : B256 h) (hn : B256 n) :
    sol_ref25_Escrow_Deposit (ref h r cs m, (lim n, ())) = some (((if n = 0 then (2 : Int) else if h + n < 115792089237316195423570985008687907853269984665640564039457584007913129639936 then 0 else 4), ()),
      (ref (if n = 0 then h else if h + n < 115792089237316195423570985008687907853269984665640564039457584007913129639936 then h + n else h) r cs m, ((), ()))) := by
  unfold sol_ref25_Escrow_Deposit T_ref25_Escrow_Deposit
  simp only
  rw [isZero_eq, bind_some']
  dsimp only
  rw [brR_dec]
  by_cases c : n = 0
  · simp only [if_pos c]
  simp only [if_neg c]
  rw [add256_eq hh hn, bind_some']
  dsimp only
  rw [brR_not, brR_dec]
  by_cases c2 : h + n < 115792089237316195423570985008687907853269984665640564039457584007913129639936
  · simp only [if_pos c2, if_true]
  · simp only [if_neg c2]
    rw [if_neg (by decide)]
theorem pfind_loop {m : List PayT} {h : Nat} {r : List (List Int)} {cs : List Int} {c : ClmT} {x : List Int} (hl : m.length ≤ 100000) :
    bigLoop _ _ (fun again y => T_ref25_Escrow_Claim_loop0 again y.1 y.2.1 y.2.2.1 y.2.2.2.1) (ref h r cs m, (c, (x, ((0 : Int), ())))) = some (((0 : Int), ()), (ref h r cs (qput m (c.2.2.1, (x, ()))), ((), ()))) := by
  refine bigLoop_rule (I := fun y => ∃ i : Nat, i ≤ m.length ∧ qput m (c.2.2.1, (x, ())) = m.take i ++ qput (m.drop i) (c.2.2.1, (x, ())) ∧ y = (ref h r cs m, (c, (x, (((i : Nat) : Int), ()))))) (m := fun y => (((m.length : Nat) : Int) - y.2.2.2.1).toNat)
    (g := fun _ => some (((0 : Int), ()), (ref h r cs (qput m (c.2.2.1, (x, ()))), ((), ())))) ?_ ⟨0, by omega, by rw [List.take_zero, List.drop_zero, List.nil_append], rfl⟩ (by rw [bigN_eq]; simp only; omega)
  rintro y again ⟨i, hi, hf, rfl⟩ hag
  simp only at hag ⊢
  unfold T_ref25_Escrow_Claim_loop0
  rw [zP2_eq]
  simp only [letR_eq, brR_dec, brR_inR]
  by_cases h1 : ((i : Nat) : Int) < ((m.length : Nat) : Int)
  · have hil : i < m.length := by omega
    rw [if_pos h1, if_pos (by omega), Int.toNat_natCast]
    rw [dropQ_cons hil] at hf
    unfold qput at hf
    by_cases he : (m.getD i zPay).1 = c.2.2.1
    · rw [if_pos he, if_pos (by omega)]
      have hq : qput m (c.2.2.1, (x, ())) = m.set i ((m.getD i zPay).1, (x, (m.getD i zPay).2.2)) := by
        have h2 : qput m (c.2.2.1, (x, ())) = m.take i ++ ((c.2.2.1, (x, ())) :: m.drop (i + 1)) := by
          rw [show (if (m.getD i zPay).1 = ((c.2.2.1, (x, ())) : PayT).1 then ((c.2.2.1, (x, ())) : PayT) :: m.drop (i + 1) else m.getD i zPay :: qput (m.drop (i + 1)) (c.2.2.1, (x, ()))) = (c.2.2.1, (x, ())) :: m.drop (i + 1) from if_pos he] at hf
          cases m <;> exact hf
        rw [h2, he, List.set_eq_take_append_cons_drop, if_pos hil]
      rw [hq]
    · rw [if_neg he, w_i64 (by omega) (by omega)]
      refine hag _ ⟨i + 1, by omega, ?_, by rw [Int.natCast_add]; rfl⟩ (by simp only; omega)
      rw [show (if (m.getD i zPay).1 = ((c.2.2.1, (x, ())) : PayT).1 then ((c.2.2.1, (x, ())) : PayT) :: m.drop (i + 1) else m.getD i zPay :: qput (m.drop (i + 1)) (c.2.2.1, (x, ()))) = m.getD i zPay :: qput (m.drop (i + 1)) (c.2.2.1, (x, ())) from if_neg he] at hf
      rw [take_succ' (d := zPay) hil, List.append_assoc]
      cases m <;> exact hf
  · rw [if_neg h1, roomyQ (by omega), brR_true, append_def]
    rw [List.drop_of_length_le (by omega), List.take_of_length_le (by omega)] at hf
    have : qput m (c.2.2.1, (x, ())) = m ++ [(c.2.2.1, (x, ()))] := hf
    rw [this]
theorem ERel.pget {r : List (List Int)} {cl : List Bool} {h : Nat} {p : List PayT} {cs : List Int} {m : List PayT} (e : ERel r cl h p cs m) (a : Int) : Go.Pon.pget m a = Go.Pon.pget p a := by
  rw [← e.sort, pget_psort e.dist]
theorem ERel.mem {r : List (List Int)} {cl : List Bool} {h : Nat} {p : List PayT} {cs : List Int} {m : List PayT} (e : ERel r cl h p cs m) {s : Int} (hs : 0 ≤ s) : decide (s ∈ cs) = cl.getD s.toNat false := by
  have := e.cls s hs
  cases hb : cl.getD s.toNat false with
  | true => exact decide_eq_true (this.2 hb)
  | false => exact decide_eq_false fun h => by rw [this.1 h] at hb; cases hb
theorem getD_set_bool {cl : List Bool} {i j : Nat} (hi : i < cl.length) : (cl.set i true).getD j false = if j = i then true else cl.getD j false := by
  rw [List.getD_eq_getElem?_getD, List.getElem?_set, List.getD_eq_getElem?_getD]
  by_cases h : i = j
  · subst h; rw [if_pos rfl, if_pos hi, if_pos rfl]; rfl
  · rw [if_neg h, if_neg fun e => h e.symm]
theorem rclaim_eq {r : List (List Int)} {cl : List Bool} {h : Nat} {q : List PayT} {cs : List Int} {m : List PayT} {s z t : Int} {n : Nat} {p : List (List Int)} (e : ERel r cl h q cs m) (hr : r.length ≤ 1000000) (hm : m.length ≤ 90000) (hcs : cs.length ≤ 900000)
    (hs : U64 s) (hz : U64 z) (ht : U64 t) (hn : B256 n) (hp : AllH p) :
    ∃ cs' m', sol_ref25_Escrow_Claim (ref h r cs m, ((s, (z, (t, (lim n, (p, ()))))), ())) = some (((clmS r cl h q s z t n p).1, ()), (ref (clmS r cl h q s z t n p).2.2.1 r cs' m', ((), ()))) ∧
      ERel r (clmS r cl h q s z t n p).2.1 (clmS r cl h q s z t n p).2.2.1 (clmS r cl h q s z t n p).2.2.2 cs' m' ∧ m'.length ≤ m.length + 1 ∧ cs'.length ≤ cs.length + 1 := by
  have hc := e.inv.len
  have keep : ∀ c : Int, c ≠ 0 → chkC r cl s z t n p = c → ∃ cs' m', some ((c, ()), (ref h r cs m, ((), ()))) = some (((clmS r cl h q s z t n p).1, ()), (ref (clmS r cl h q s z t n p).2.2.1 r cs' m', ((), ()))) ∧
      ERel r (clmS r cl h q s z t n p).2.1 (clmS r cl h q s z t n p).2.2.1 (clmS r cl h q s z t n p).2.2.2 cs' m' ∧ m'.length ≤ m.length + 1 ∧ cs'.length ≤ cs.length + 1 := fun c hc0 hck => by
    have : clmS r cl h q s z t n p = (c, (cl, (h, q))) := by unfold clmS; rw [if_neg (by omega), hck]
    rw [this]
    exact ⟨cs, m, rfl, e, by omega, by omega⟩
  unfold U64 at hs hz ht
  have hmem := e.mem hs.1
  unfold sol_ref25_Escrow_Claim T_ref25_Escrow_Claim
  simp only [letR_eq]
  rw [brR_dec]
  by_cases c1 : t = 0
  · rw [if_pos c1]; exact keep 2 (by decide) (if_pos (.inl c1))
  rw [if_neg c1, isZero_eq, bind_some']
  dsimp only
  rw [brR_dec]
  by_cases c2 : n = 0
  · rw [if_pos c2]; exact keep 2 (by decide) (if_pos (.inr (.inl c2)))
  rw [if_neg c2, brR_dec]
  by_cases c3 : ((p.length : Nat) : Int) > 64
  · rw [if_pos c3]; exact keep 2 (by decide) (if_pos (.inr (.inr (by omega))))
  rw [if_neg c3, brR_dec]
  have k1 : ¬ (t = 0 ∨ n = 0 ∨ 64 < p.length) := by omega
  by_cases c4 : z < 1
  · rw [if_pos c4]; exact keep 8 (by decide) ((if_neg k1).trans (if_pos (.inl c4)))
  rw [if_neg c4, brR_dec, w_u64 (n := ((r.length : Nat) : Int)) (by omega) (by omega)]
  by_cases c5 : z > ((r.length : Nat) : Int)
  · rw [if_pos c5]; exact keep 8 (by decide) ((if_neg k1).trans (if_pos (.inr (.inl c5))))
  rw [if_neg c5, brR_dec]
  by_cases c6 : s ≥ z
  · rw [if_pos c6]; exact keep 8 (by decide) ((if_neg k1).trans (if_pos (.inr (.inr c6))))
  rw [if_neg c6, rclaimed_eq (by omega), bind_some', hmem]
  have k2 : ¬ (z < 1 ∨ ((r.length : Nat) : Int) < z ∨ z ≤ s) := by omega
  dsimp only
  rw [brR_ite]
  by_cases c7 : cl.getD s.toNat false = true
  · rw [if_pos c7]; exact keep 9 (by decide) ((if_neg k1).trans ((if_neg k2).trans (if_pos c7)))
  rw [if_neg c7, brR_inR, w_u64 (n := z - 1) (by omega) (by omega), if_pos (by omega), rLeafM_eq (MsgW.mk hs ht hn), bind_some', w_i64 (n := z) (by omega) (by omega), w_i64 (n := s) (by omega) (by omega), rverify_eq (by omega) (by omega) (h32_leafM _) hp, bind_some']
  dsimp only
  rw [brR_not, brR_ite]
  by_cases c8 : verifyH (r.getD (z - 1).toNat Z32) z s (leafM (s, (t, (lim n, ())))) p = true
  case neg => rw [if_neg c8]; exact keep 16 (by decide) ((if_neg k1).trans ((if_neg k2).trans ((if_neg c7).trans (if_neg c8))))
  have hck : chkC r cl s z t n p = 0 := by
    unfold chkC
    rw [if_neg (by omega), if_neg (by omega), if_neg c7, if_pos c8]
  rw [if_pos c8]
  clear keep
  unfold clmS
  simp only [if_pos hck]
  have hh := e.inv.held
  unfold B256 at hh hn
  rw [sub256_eq hh hn, bind_some']
  dsimp only
  rw [brR_not, brR_dec]
  by_cases d1 : n ≤ h
  case neg =>
    simp only [if_neg d1]
    rw [if_neg (by decide)]
    exact ⟨cs, m, rfl, e, by omega, by omega⟩
  simp only [if_pos d1, if_true]
  rw [rl1bal_eq (by omega), bind_some', e.pget]
  have hpg := pget_mk e.inv.all (a := t) (by unfold U64; omega)
  have hb := hpg.2
  have e1 : (Go.Pon.pget q t).2.1 = lim (pbal q t) := by rw [hpg.1]
  dsimp only
  rw [e1]
  generalize pbal q t = k at *
  unfold B256 at hb
  rw [add256_eq hb hn, bind_some']
  dsimp only
  rw [brR_not, brR_dec]
  by_cases d2 : k + n < 115792089237316195423570985008687907853269984665640564039457584007913129639936
  case neg =>
    simp only [if_neg d2]
    rw [if_neg (by decide)]
    exact ⟨cs, m, rfl, e, by omega, by omega⟩
  simp only [if_pos d2, if_true]
  have hroom : roomy (cs.length + 1) (.int .u64) = true := by
    rw [roomy_dec, decide_eq_true_eq]
    exact ⟨by decide, by simp only [Ty.size]; omega⟩
  rw [hroom, brR_true, append_def]
  have hnew : PayW (t, (lim (k + n), ())) := PayW.mk (by unfold U64; omega) (by unfold B256; omega)
  have hne : ¬ isEP (t, (lim (k + n), ())) := by
    unfold isEP
    simp only [Prod.mk.injEq, true_and, and_true]
    rw [← lim0, lim_inj]
    omega
  refine ⟨cs ++ [s], qput m (t, (lim (k + n), ())), pfind_loop (c := (s, (z, (t, (lim n, (p, ())))))) (by omega), ⟨⟨by rw [List.length_set]; exact hc, by unfold B256; omega, srt_pput e.inv.srt, ne_pput e.inv.ne, all_pput e.inv.all hnew⟩, fun x hx => ?_, dist_qput e.dist, all_qput e.all hnew, fun x hx => ?_, ?_⟩, len_qput _ _, by simp⟩
  · rw [List.mem_append, List.mem_singleton, getD_set_bool (by omega)]
    by_cases hxs : x = s
    · rw [hxs, if_pos rfl]; simp
    · rw [if_neg (by omega), ← e.cls x hx]
      simp [hxs]
  · rcases mem_qput hx with hx | rfl
    · exact e.ne x hx
    · exact hne
  · rw [psort_qput e.dist, e.sort]
end Go.Pon
set_option autoImplicit false
set_option linter.unusedVariables false
set_option linter.unusedSimpArgs false
namespace Go.Pon
open Go
abbrev SendT := Int × (List Int × (Bool × Unit))
abbrev zeroSend : SendT := Go.Pon.Ty.zero ((Go.Pon.Ty.int Go.IntKind.u64).pair ((Go.Pon.Ty.arr 4 (Go.Pon.Ty.int Go.IntKind.u64)).pair (Go.Pon.Ty.bool.pair Go.Pon.Ty.unit)))
def SendW (s : SendT) : Prop := (0 ≤ s.1 ∧ s.1 ≤ 18446744073709551615) ∧ ∃ v : Nat, v < 115792089237316195423570985008687907853269984665640564039457584007913129639936 ∧ s.2.1 = lim v
def mkM (s : SendT) (i : Nat) : MsgT := ((i : Int), (1 + s.1 % 6, ([1 + List.getD s.2.1 0 0 % 1000, 0, List.getD s.2.1 1 0 % 2, 0], ())))
theorem limb_u64 {v i : Nat} (hv : v < 115792089237316195423570985008687907853269984665640564039457584007913129639936) : 0 ≤ List.getD (lim v) i 0 ∧ List.getD (lim v) i 0 ≤ 18446744073709551615 := by
  unfold lim
  match i with
  | 0 => simp only [List.getD_cons_zero]; omega
  | 1 => simp only [List.getD_cons_succ, List.getD_cons_zero]; omega
  | 2 => simp only [List.getD_cons_succ, List.getD_cons_zero]; omega
  | 3 => simp only [List.getD_cons_succ, List.getD_cons_zero]; omega
  | n + 4 => simp
theorem mkM_good {s : SendT} (h : SendW s) {i : Nat} (hi : i ≤ 1000000) : MsgW (mkM s i) ∧ goodM (mkM s i) i = true := by
  obtain ⟨h1, v, hv, h2⟩ := h
  have a0 := @limb_u64 v 0 hv
  have a1 := @limb_u64 v 1 hv
  rw [← h2] at a0 a1
  obtain ⟨w, hw, e⟩ := lim_of (a := 1 + List.getD s.2.1 0 0 % 1000) (b := 0) (c := List.getD s.2.1 1 0 % 2) (d := 0) (by omega) (by omega) (by omega) (by omega)
  have hw0 : w ≠ 0 := by
    rintro rfl
    have : (1 + List.getD s.2.1 0 0 % 1000 : Int) = 0 := congrArg (fun l => List.getD l 0 (0 : Int)) e
    omega
  unfold mkM
  rw [e]
  refine ⟨.mk (by omega) (by omega) hw, ?_⟩
  unfold goodM
  simp only [val4_lim]
  have : ¬ (1 + s.1 % 6 = 0) := by omega
  simp [this, hw0]
def AllS (l : List SendT) : Prop := ∀ s ∈ l, SendW s
def vmsgs (l : List SendT) (n : Nat) : List MsgT := (List.range n).map fun i => mkM (List.getD l i zeroSend) i
theorem len_vmsgs (l : List SendT) (n : Nat) : (vmsgs l n).length = n := by simp [vmsgs]
theorem vmsgs_succ (l : List SendT) (n : Nat) : vmsgs l (n + 1) = vmsgs l n ++ [mkM (List.getD l n zeroSend) n] := by simp [vmsgs, List.range_succ]
theorem vmsgs_getD {l : List SendT} {n i : Nat} (h : i < n) (d : MsgT) : (vmsgs l n).getD i d = mkM (List.getD l i zeroSend) i := by
  simp [vmsgs, List.getD_eq_getElem?_getD, h]
theorem vmsgs_ok {l : List SendT} (ha : AllS l) (hl : l.length ≤ 1000000) : AllM (vmsgs l l.length) ∧ okM (vmsgs l l.length) = true := by
  refine ⟨fun m hm => ?_, okM_iff.2 fun i hi => ?_⟩
  · obtain ⟨i, hi, rfl⟩ := List.mem_map.1 hm
    have hi := List.mem_range.1 hi
    exact (mkM_good (ha _ (getD_mem hi)) (by omega)).1
  · rw [len_vmsgs] at hi
    rw [vmsgs_getD hi]
    exact (mkM_good (ha _ (getD_mem hi)) (by omega)).2
theorem lawValid_eq {l : List SendT} (ha : AllS l) (hl : l.length ≤ 10000) : sol_law24_ValidMessages (l, ()) = some ((vmsgs l l.length, ()), ((), ())) := by
  unfold sol_law24_ValidMessages T_law24_ValidMessages
  refine bigLoop_rule (I := fun x => ∃ i : Nat, i ≤ l.length ∧ x = (l, (vmsgs l i, (((i : Nat) : Int), ())))) (m := fun x => (((l.length : Nat) : Int) - x.2.2.1).toNat)
    (g := fun _ => some ((vmsgs l l.length, ()), ((), ()))) ?_ ⟨0, by omega, rfl⟩ (by rw [bigN_eq]; simp only; omega)
  rintro x again ⟨i, hi, rfl⟩ hag
  simp only at hag ⊢
  unfold T_law24_ValidMessages_loop0
  simp only [letR_eq, brR_dec, brR_inR]
  by_cases h1 : ((i : Nat) : Int) < ((l.length : Nat) : Int)
  · have hil : i < l.length := by omega
    rw [if_pos h1, if_pos (by omega), if_pos (by omega), if_pos (by omega), roomyM (by rw [len_vmsgs]; omega), Int.toNat_natCast, append_def]
    have hs := ha _ (getD_mem (d := zeroSend) hil)
    have e : (((IntKind.wrap .u64 ((i : Nat) : Int)), ((IntKind.wrap .u64 ((1 : Int) + (Int.tmod (List.getD l i zeroSend).1 (6 : Int)))), ([(IntKind.wrap .u64 ((1 : Int) + (Int.tmod (List.getD (List.getD l i zeroSend).2.1 0 (0 : Int)) (1000 : Int)))), (0 : Int), (Int.tmod (List.getD (List.getD l i zeroSend).2.1 1 (0 : Int)) (2 : Int)), (0 : Int)], ()))) : MsgT) = mkM (List.getD l i zeroSend) i := by
      obtain ⟨h1, v, hv, h2⟩ := hs
      have a0 := @limb_u64 v 0 hv
      have a1 := @limb_u64 v 1 hv
      rw [← h2] at a0 a1
      rw [tmod_pos h1.1, tmod_pos a0.1, tmod_pos a1.1, w_u64 (by omega) (by omega), w_u64 (by omega) (by omega), w_u64 (by omega) (by omega)]
      rfl
    rw [show (Go.Pon.Ty.zero ((Go.Pon.Ty.int Go.IntKind.u64).pair ((Go.Pon.Ty.arr 4 (Go.Pon.Ty.int Go.IntKind.u64)).pair (Go.Pon.Ty.bool.pair Go.Pon.Ty.unit))) : SendT) = zeroSend from rfl, e, ← vmsgs_succ, w_i64 (by omega) (by omega)]
    exact hag _ ⟨i + 1, by omega, by rw [Int.natCast_add]; rfl⟩ (by simp only; omega)
  · have hil : i = l.length := by omega
    rw [if_neg h1, hil]
theorem allS_wf {s : List SendT} (h : (Ty.slice (.pair (.int .u64) (.pair (.arr 4 (.int .u64)) (.pair .bool .unit)))).wf s) : AllS s := fun x hx => by
  obtain ⟨a, v, b, _⟩ := x
  obtain ⟨h1, h2, _⟩ := h.2 _ hx
  obtain ⟨n, hn, rfl⟩ := u256_wf h2
  exact ⟨inK_u64.1 h1, n, hn, rfl⟩
theorem AllM.append {l e : List MsgT} (h : AllM l) (h2 : AllM e) : AllM (l ++ e) := fun x hx => by
  rcases List.mem_append.1 hx with h' | h'
  · exact h x h'
  · exact h2 x h'
theorem AllM.one {m : MsgT} (h : MsgW m) : AllM [m] := fun x hx => by
  rw [List.mem_singleton.1 hx]; exact h
theorem AllM.set {l : List MsgT} (h : AllM l) (k : Nat) {m : MsgT} (hm : MsgW m) : AllM (List.set l k m) := fun x hx => by
  rcases List.mem_or_eq_of_mem_set hx with h' | h'
  · exact h x h'
  · rw [h']; exact hm
end Go.Pon
set_option autoImplicit false
namespace Go.Pon
open Go
theorem bigLoop_pred {ω δ : Type} {round : (δ → Option ω) → δ → Option ω} (I : δ → Prop) (m : δ → Nat) (P : Option ω → Prop)
    (h : ∀ x (again : δ → Option ω), I x → (∀ y, I y → m y < m x → P (again y)) → P (round again x)) {x : δ} (hx : I x) (hm : m x < bigN) : P (bigLoop ω δ round x) := by
  have key : ∀ n x, I x → m x < n → P (loopN round n x) := by
    intro n
    induction n with
    | zero => intro x _ hm; omega
    | succ n ih =>
      intro x hx hm
      rw [loopN_succ]
      exact h x _ hx fun y hy hlt => ih y hy (by omega)
  rw [bigLoop_def]
  exact key bigN x hx hm
end Go.Pon
set_option autoImplicit false
set_option linter.unusedVariables false
set_option linter.unusedSimpArgs false
namespace Go.Pon
open Go
theorem zMsg_eq : (((0 : Int), ((0 : Int), ([(0 : Int), (0 : Int), (0 : Int), (0 : Int)], ()))) : MsgT) = zeroMsg := rfl
theorem AllH.set {l : List (List Int)} {x : List Int} {i : Nat} (h : AllH l) (hx : H32 x) : AllH (l.set i x) := fun y hy => by
  rcases List.mem_or_eq_of_mem_set hy with hy | rfl
  · exact h y hy
  · exact hx
theorem proofH_len {l : List (List Int)} (h : AllH l) (i : Nat) : (proofH l i).length ≤ l.length ∧ AllH (proofH l i) := proofH_facts l.length l i (Nat.le_refl _) h
theorem r25new_eq : sol_ref25_New () = some ((ref 0 [] [] [], ()), ()) := rfl
theorem leafM_ne : leafM (0, (7, (lim 21, ()))) ≠ leafM (0, (7, (lim 20, ()))) := by
  have : decide (leafM (0, (7, (lim 21, ()))) = leafM (0, (7, (lim 20, ())))) = false := by kernel_rfl
  exact of_decide_eq_false this
theorem verify_one (x y : List Int) : verifyH x 1 0 y [] = decide (y = x) := by
  unfold verifyH
  simp [upR]
theorem awake25 : sol_law25_awake () = some ((true, ()), ()) := by
  have l50 : ([(50 : Int), 0, 0, 0] : List Int) = lim 50 := rfl
  have l21 : ([(21 : Int), 0, 0, 0] : List Int) = lim 21 := rfl
  have l20 : ([(20 : Int), 0, 0, 0] : List Int) = lim 20 := rfl
  have l30 : ([(30 : Int), 0, 0, 0] : List Int) = lim 30 := rfl
  have u0 : U64 0 := by unfold U64; omega
  have u1 : U64 1 := by unfold U64; omega
  have u7 : U64 7 := by unfold U64; omega
  have b20 : B256 20 := by unfold B256; omega
  have b21 : B256 21 := by unfold B256; omega
  have hnil : AllH [] := fun x h => by simp at h
  unfold sol_law25_awake T_law25_awake
  rw [l50, l21, l20, l30, enew_eq]
  simp only [bind_some']
  rw [deposit_eq (by unfold B256; omega) (by unfold B256; omega)]
  simp only [bind_some', optR_some]
  rw [rLeafM_eq (MsgW.mk u0 u7 b20)]
  simp only [bind_some']
  rw [appendRoot_eq (by simp) rfl]
  simp only [bind_some', optR_some]
  have hi : EInv ([] ++ [leafM (0, (7, (lim 20, ())))]) ([] ++ [false]) 50 [] := ⟨rfl, by unfold B256; omega, List.Pairwise.nil, fun x h => by simp at h, fun x h => by simp at h⟩
  have hif : (if (50 : Nat) = 0 then 0 else if 0 + 50 < 115792089237316195423570985008687907853269984665640564039457584007913129639936 then 0 + 50 else 0) = 50 := by decide
  rw [hif]
  have hck1 : chkC ([] ++ [leafM (0, (7, (lim 20, ())))]) ([] ++ [false]) 0 1 7 21 [] = 16 := by
    unfold chkC
    rw [if_neg (by decide), if_neg (by decide), if_neg (by decide), if_neg]
    show ¬ verifyH (leafM (0, (7, (lim 20, ())))) 1 0 (leafM (0, (7, (lim 21, ())))) [] = true
    rw [verify_one, decide_eq_true_eq]
    exact leafM_ne
  have hck2 : chkC ([] ++ [leafM (0, (7, (lim 20, ())))]) ([] ++ [false]) 0 1 7 20 [] = 0 := by
    unfold chkC
    rw [if_neg (by decide), if_neg (by decide), if_neg (by decide), if_pos]
    show verifyH (leafM (0, (7, (lim 20, ())))) 1 0 (leafM (0, (7, (lim 20, ())))) [] = true
    rw [verify_one, decide_eq_true rfl]
  have s1 : clmS ([] ++ [leafM (0, (7, (lim 20, ())))]) ([] ++ [false]) 50 [] 0 1 7 21 [] = (16, ([] ++ [false], (50, []))) := by
    unfold clmS; rw [hck1]; rfl
  have s2 : clmS ([] ++ [leafM (0, (7, (lim 20, ())))]) ([] ++ [false]) 50 [] 0 1 7 20 [] = (0, ([true], (30, [(7, (lim 20, ()))]))) := by
    unfold clmS; rw [hck2, if_pos rfl, if_pos (by decide), if_pos (by decide)]; kernel_rfl
  rw [claim_eq hi (by simp) (by simp) (ClmW.mk u0 u1 u7 b21 hnil) u0 u7 b21, s1]
  simp only [bind_some', optR_some]
  rw [claim_eq hi (by simp) (by simp) (ClmW.mk u0 u1 u7 b20 hnil) u0 u7 b20, s2]
  simp only [bind_some', optR_some]
  have hi2 : EInv ([] ++ [leafM (0, (7, (lim 20, ())))]) [true] 30 [(7, (lim 20, ()))] := ⟨rfl, by unfold B256; omega, List.pairwise_singleton _ _, fun x h => by
    have : x = (7, (lim 20, ())) := by simpa using h
    subst this
    unfold isEP
    simp only [Prod.mk.injEq, true_and, and_true]
    rw [← lim0, lim_inj]
    omega, fun x h => by
    have : x = (7, (lim 20, ())) := by simpa using h
    subst this
    exact PayW.mk u7 b20⟩
  have hck3 : chkC ([] ++ [leafM (0, (7, (lim 20, ())))]) [true] 0 1 7 20 [] = 9 := by
    unfold chkC
    rw [if_neg (by decide), if_neg (by decide), if_pos (by decide)]
  have s3 : clmS ([] ++ [leafM (0, (7, (lim 20, ())))]) [true] 30 [(7, (lim 20, ()))] 0 1 7 20 [] = (9, ([true], (30, [(7, (lim 20, ()))]))) := by
    unfold clmS; rw [hck3]; rfl
  rw [claim_eq hi2 (by simp) (by simp) (ClmW.mk u0 u1 u7 b20 hnil) u0 u7 b20, s3]
  simp only [bind_some', optR_some]
  rw [brR_dec, if_pos (by decide), brR_dec, if_pos (by decide), brR_dec, if_pos trivial, brR_dec, if_pos trivial, brR_dec, if_pos trivial, ebal_eq]
  simp only [bind_some', optR_some]
  rw [eqD_iff.2 rfl, brR_true, l1bal_eq hi2.srt (by simp)]
  simp only [bind_some', optR_some]
  rw [eqD_iff.2 (by rfl)]
end Go.Pon
set_option autoImplicit false
set_option linter.unusedVariables false
set_option linter.unusedSimpArgs false
namespace Go.Pon
open Go
abbrev zClm : ClmT := ((0 : Int), ((0 : Int), ((0 : Int), ([(0 : Int), (0 : Int), (0 : Int), (0 : Int)], (([] : List (List Int)), ())))))
theorem both_claim {r : List (List Int)} {cl : List Bool} {h : Nat} {q : List PayT} {cs : List Int} {m : List PayT} {c : ClmT} (e : ERel r cl h q cs m) (hr : r.length ≤ 10000) (hq : q.length ≤ 10000) (hm : m.length ≤ 10000) (hcs : cs.length ≤ 10000) (hc : ClmW c) :
    ∃ x cl' h' q' cs' m', sol_escrow_Escrow_Claim (some (esc r cl h q), (c, ())) = some ((x, ()), (some (esc r cl' h' q'), ((), ()))) ∧ sol_ref25_Escrow_Claim (ref h r cs m, (c, ())) = some ((x, ()), (ref h' r cs' m', ((), ()))) ∧
      ERel r cl' h' q' cs' m' ∧ q'.length ≤ q.length + 1 ∧ m'.length ≤ m.length + 1 ∧ cs'.length ≤ cs.length + 1 := by
  have hc3 := hc
  obtain ⟨q1, q2, q3, q4, q5⟩ := hc
  rename_i s z t n p
  obtain ⟨cs2, m2, e2, r2, r3, r4⟩ := rclaim_eq (s := s) (z := z) (t := t) (n := n) (p := p) e (by omega) (by omega) (by omega) q1 q2 q3 q4 q5
  refine ⟨_, _, _, _, cs2, m2, claim_eq e.inv (by omega) (by omega) hc3 q1 q3 q4, e2, r2, ?_, r3, r4⟩
  unfold clmS
  split
  · split
    · split
      · exact len_pput _ _
      · simp only; omega
    · simp only; omega
  · simp only; omega
theorem ERel.root {r : List (List Int)} {cl : List Bool} {h : Nat} {p : List PayT} {cs : List Int} {m : List PayT} (e : ERel r cl h p cs m) (x : List Int) : ERel (r ++ [x]) (cl ++ [false]) h p cs m := by
  refine ⟨⟨by rw [List.length_append, List.length_append, e.inv.len]; rfl, e.inv.held, e.inv.srt, e.inv.ne, e.inv.all⟩, fun y hy => ?_, e.dist, e.all, e.ne, e.sort⟩
  rw [e.cls y hy]
  have : (cl ++ [false]).getD y.toNat false = cl.getD y.toNat false := by
    rw [List.getD_eq_getElem?_getD, List.getD_eq_getElem?_getD, List.getElem?_append]
    split
    · rfl
    · rename_i hxx
      rw [List.getElem?_eq_none (l := cl) (by omega)]
      cases hk : y.toNat - cl.length with
      | zero => rfl
      | succ k => rfl
  rw [this]
abbrev YE5 := (Bool × Unit) × (Unit × (Unit × (Unit × (Unit × (Unit × Unit)))))
theorem forged_end {r : List (List Int)} {cl : List Bool} {h : Nat} {q : List PayT} {cs : List Int} {m : List PayT} {c x y z : ClmT} (e : ERel r cl h q cs m) (hr : r.length ≤ 1000) (hq : q.length ≤ 1000) (hm : m.length ≤ 1000) (hcs : cs.length ≤ 1000) (hc : ClmW c) (hx : ClmW x) (hy : ClmW y) (hz : ClmW z) :
    ∃ w : YE5, bigLoop _ _ (fun again x => T_law25_EscrowForgedClaims_loop2 sol_escrow_Escrow_Claim sol_ref25_Escrow_Claim sol_escrow_Escrow_Balance sol_law25_awake again x.1 x.2.1 x.2.2.1 x.2.2.2.1 x.2.2.2.2.1)
      (esc r cl h q, (ref h r cs m, (c, ([x, y, z], ((0 : Int), ()))))) = some w ∧ w.1.1 = true := by
  refine bigLoop_pred (I := fun v => ∃ (i : Nat) (cl : List Bool) (h : Nat) (q : List PayT) (cs : List Int) (m : List PayT), i ≤ 3 ∧ ERel r cl h q cs m ∧ q.length ≤ 1000 + i ∧ m.length ≤ 1000 + i ∧ cs.length ≤ 1000 + i ∧ v = (esc r cl h q, (ref h r cs m, (c, ([x, y, z], (((i : Nat) : Int), ()))))))
    (m := fun v => ((3 : Int) - v.2.2.2.2.1).toNat) (P := fun r => ∃ w : YE5, r = some w ∧ w.1.1 = true) ?_
    ⟨0, cl, h, q, cs, m, by omega, e, by omega, by omega, by omega, rfl⟩ (by simp only [bigN_eq]; omega)
  clear e hq hm hcs
  rintro v again ⟨i, cl, h, q, cs, m, hi, e, hq, hm, hcs, rfl⟩ hag
  simp only at hag ⊢
  unfold T_law25_EscrowForgedClaims_loop2
  rw [brR_dec]
  by_cases c3 : ((i : Nat) : Int) < 3
  · rw [if_pos c3, brR_inR, if_pos (by omega), Int.toNat_natCast]
    have hd : ClmW (List.getD [x, y, z] i zClm) := by
      have : i = 0 ∨ i = 1 ∨ i = 2 := by omega
      rcases this with rfl | rfl | rfl
      · exact hx
      · exact hy
      · exact hz
    obtain ⟨u, cl', h', q', cs', m', e1, e2, e3, e4, e5, e6⟩ := both_claim e (by omega) (by omega) (by omega) (by omega) hd
    rw [e1, bind_some', optR_some, e2, bind_some']
    dsimp only
    rw [brR_not, brR_dec, if_pos rfl, ebal_eq, bind_some']
    dsimp only
    rw [optR_some, brR_not, eqD_iff.2 rfl, brR_true, joinR_eq]
    unfold T_law25_EscrowForgedClaims_join3
    rw [w_i64 (n := ((i : Nat) : Int) + 1) (by omega) (by omega)]
    exact hag _ ⟨i + 1, cl', h', q', cs', m', by omega, e3, by omega, by omega, by omega, by rw [Int.natCast_add]; rfl⟩ (by simp only; omega)
  · obtain ⟨u, cl', h', q', cs', m', e1, e2, e3, e4, e5, e6⟩ := both_claim e (by omega) (by omega) (by omega) (by omega) hc
    rw [if_neg c3, e1, bind_some']
    dsimp only
    rw [optR_some, e2, bind_some']
    dsimp only
    rw [brR_dec, if_pos rfl, awake25]
    exact ⟨_, rfl, rfl⟩
theorem law_EscrowForgedClaims_at (s : List SendT) (ix to : Int) (n : Nat) (seq : Int) (hs : AllS s) (hi : I64 ix) (ht : U64 to) (hn : B256 n) (hq : U64 seq) : ∃ y, sol_law25_EscrowForgedClaims (s, (ix, (to, (lim n, (seq, ()))))) = some y ∧ y.1.1 = true := by
  unfold sol_law25_EscrowForgedClaims T_law25_EscrowForgedClaims
  simp only [letR_eq]
  rw [awake25, brR_dec]
  by_cases c0 : ((s.length : Nat) : Int) > 20
  · rw [if_pos c0]; exact ⟨_, rfl, rfl⟩
  rw [if_neg c0, brR_dec]
  by_cases c1 : ((s.length : Nat) : Int) = 0
  · rw [if_pos c1]; exact ⟨_, rfl, rfl⟩
  rw [if_neg c1, joinR_eq]
  unfold T_law25_EscrowForgedClaims_join0
  simp only
  rw [lawValid_eq hs (by omega), bind_some', enew_eq, bind_some', r25new_eq, bind_some']
  have hv := vmsgs_ok hs (by omega)
  have hvl := len_vmsgs s s.length
  generalize vmsgs s s.length = m at *
  have hl : ([(0 : Int), (0 : Int), (0 : Int), (1 : Int)] : List Int) = lim 6277101735386680763835789423207666416102355444464034512896 := by decide
  simp only
  rw [hl, deposit_eq (by unfold B256; omega) (by unfold B256; omega), bind_some']
  dsimp only
  rw [optR_some, rdeposit_eq (by unfold B256; omega) (by unfold B256; omega), bind_some']
  dsimp only
  rw [if_neg (by decide), if_pos (by decide)]
  refine bigLoop_pred (I := fun x => ∃ (k : Nat) (r : List (List Int)) (cl : List Bool) (h : Nat), k ≤ m.length ∧ r.length = k ∧ ERel r cl h [] [] [] ∧ x = (ix, (to, (seq, (lim n, (m, (esc r cl h [], (ref h r [] [], (((k : Nat) : Int), ())))))))))
    (m := fun x => (((m.length : Nat) : Int) - x.2.2.2.2.2.2.2.1).toNat) (P := fun r => ∃ w : YE5, r = some w ∧ w.1.1 = true) ?_
    ⟨0, [], [], _, by omega, rfl, ⟨⟨rfl, ?_, List.Pairwise.nil, fun x h => by simp at h, fun x h => by simp at h⟩, fun s _ => by simp, List.Pairwise.nil, fun x h => by simp at h, fun x h => by simp at h, rfl⟩, rfl⟩ (by simp only [bigN_eq]; omega)
  rotate_left
  · unfold B256; decide
  rintro x again ⟨k, r, cl, h, hk, hrl, e, rfl⟩ hag
  simp only at hag ⊢
  unfold T_law25_EscrowForgedClaims_loop1
  simp only [letR_eq]
  rw [brR_dec]
  by_cases c : ((k : Nat) : Int) < ((m.length : Nat) : Int)
  · have hw1 : IntKind.wrap .i64 (((k : Nat) : Int) + 1) = ((k + 1 : Nat) : Int) := by rw [w_i64 (by omega) (by omega), Int.natCast_add]; rfl
    rw [if_pos c, hw1, r24Root_in hv.1 (by omega) (by omega), bind_some', appendRoot_eq (by omega) e.inv.len, bind_some']
    dsimp only
    rw [optR_some, roomyHa (by omega), brR_true, append_def]
    exact hag _ ⟨k + 1, _, _, h, by omega, by rw [List.length_append, List.length_singleton, hrl], e.root _, rfl⟩ (by simp only; omega)
  rw [if_neg c]
  clear hag
  unfold I64 at hi
  rw [mod_eq hi.1 hi.2 (by omega) (by omega), bind_some']
  have m2 := mod_range (x := ix) (n := ((m.length : Nat) : Int)) (by omega)
  dsimp only
  generalize ix % 18446744073709551616 % ((m.length : Nat) : Int) = j at *
  obtain ⟨jn, rfl⟩ := Int.eq_ofNat_of_zero_le m2.1
  rw [r24Proof_in hv.1 (by omega) (by omega) (by omega), bind_some']
  dsimp only
  have hpa := (proofH_len ((allH_leafM m).take m.length) jn).2
  generalize proofH ((m.map leafM).take m.length) jn = p at *
  rw [brR_inR, if_pos (by omega), brR_inR, if_pos (by omega), Int.toNat_natCast]
  have hmw := hv.1.at (show jn < m.length by omega) zeroMsg
  rw [zMsg_eq]
  generalize m.getD jn zeroMsg = mm at hmw
  obtain ⟨q1, q2, q3⟩ := hmw
  dsimp only
  have uj : U64 (IntKind.wrap .u64 ((jn : Nat) : Int)) := by rw [w_u64 (by omega) (by omega)]; unfold U64; omega
  have um : U64 (IntKind.wrap .u64 ((m.length : Nat) : Int)) := by rw [w_u64 (by omega) (by omega)]; unfold U64; omega
  exact forged_end e (by omega) (by simp) (by simp) (by simp) (ClmW.mk uj um q2 q3 hpa) (ClmW.mk uj um ht q3 hpa) (ClmW.mk uj um q2 hn hpa) (ClmW.mk hq um q2 q3 hpa)
theorem law_EscrowForgedClaims : ∀ x, wfL s_law25_EscrowForgedClaims.ins x → ∃ y, sol_law25_EscrowForgedClaims x = some y ∧ y.1.1 = true :=
  fun ⟨s, i, to, n, q, _⟩ ⟨hs, hi, ht, hn, hq, _⟩ => by
    obtain ⟨k, hk, rfl⟩ := u256_wf hn
    exact law_EscrowForgedClaims_at s i to k q (allS_wf hs) (inK_i64.1 hi) (inK_u64.1 ht) hk (inK_u64.1 hq)
def okQ (l : List PayT) (i : Nat) : Prop := (l.getD i zPay).1 ≠ 0 ∧ ¬ isEP (l.getD i zPay) ∧ (0 < i → (l.getD (i - 1) zPay).1 < (l.getD i zPay).1)
def VP (l : List PayT) : Prop := ∀ i, i < l.length → okQ l i
theorem VP.srt {l : List PayT} (h : VP l) : SrtP l := by
  refine List.pairwise_iff_getElem.2 fun i j hi hj hij => ?_
  have key : ∀ d, i + 1 + d < l.length → (l.getD i zPay).1 < (l.getD (i + 1 + d) zPay).1 := by
    intro d
    induction d with
    | zero => intro hd; exact (h (i + 1) (by omega)).2.2 (by omega)
    | succ d ih =>
      intro hd
      have h1 := ih (by omega)
      have h2 := (h (i + 1 + (d + 1)) hd).2.2 (by omega)
      rw [show i + 1 + (d + 1) - 1 = i + 1 + d by omega] at h2
      omega
  have := key (j - i - 1) (by omega)
  rw [show i + 1 + (j - i - 1) = j by omega, List.getD_eq_getElem?_getD, List.getElem?_eq_getElem hi, List.getD_eq_getElem?_getD, List.getElem?_eq_getElem hj] at this
  exact this
theorem VP.ne {l : List PayT} (h : VP l) : NEP l := fun x hx => by
  obtain ⟨i, hi, rfl⟩ := List.getElem_of_mem hx
  have := (h i hi).2.1
  rw [List.getD_eq_getElem?_getD, List.getElem?_eq_getElem hi] at this
  exact this
end Go.Pon
