/-
  Part of a proof: general lemmas, merged by a program of this work.
-/
import Derived.Test.YtaoahgomanichaaP2
/-
  What the reference of chapter 6 computes.
-/
set_option autoImplicit false
set_option linter.unusedVariables false
set_option linter.unusedSimpArgs false
namespace Go.Pon
open Go

theorem bylen_eq {n i : Nat} (h1 : n < 256 ^ (i + 1)) (h2 : 256 ^ i ≤ n) : bylen n = i + 1 := by
  have a := bylen_le.2 h1
  rcases Nat.lt_or_ge i (bylen n) with h | h
  · omega
  · have := bylen_le.1 h; omega

theorem digits_eq {n : Nat} (hn : n < 115792089237316195423570985008687907853269984665640564039457584007913129639936) : sol_ref6_digits (lim n, ()) = some ((beB (bylen n) n, ()), ((), ())) := by
  unfold sol_ref6_digits T_ref6_digits
  refine Eq.trans (bigLoop_rule (I := fun x => x.1 = lim n ∧ (-1 : Int) ≤ x.2.2.1 ∧ x.2.2.1 ≤ (31 : Int) ∧ (x.2.1.length : Int) + x.2.2.1 ≤ (31 : Int) ∧ (x.2.1 = [] → n < 256 ^ (x.2.2.1 + 1).toNat)) (m := fun x => (x.2.2.1 + 1).toNat)
    (g := fun x => some ((x.2.1 ++ (if x.2.1 = [] then beB (bylen n) n else beB (x.2.2.1 + 1).toNat n), ()), ((), ()))) ?_
    ⟨rfl, by simp only; omega, by simp only; omega, by simp only [List.length_nil]; omega, fun _ => hn⟩ (by simp only [bigN_eq]; omega)) ?_
  · rintro ⟨l, o, i, _⟩ again ⟨h1, h2, h3, h4, h5⟩ hag
    simp only at h1 h2 h3 h4 h5 hag ⊢
    subst h1
    simp only [T_ref6_digits_loop0, letR_eq, brR_dec, brR_inR, ge_iff_le, append_def]
    by_cases hi : 0 ≤ i
    · obtain ⟨j, rfl⟩ := Int.eq_ofNat_of_zero_le hi
      have ej : ((j : Int) + 1).toNat = j + 1 := by omega
      rw [if_pos hi, tdiv_pos hi, tmod_pos hi, w_i64 (n := (j : Int) / 8) (by omega) (by omega), w_i64 (n := 8 * ((j : Int) % 8)) (by omega) (by omega), w_u64 (by omega) (by omega), if_pos (by omega), if_pos (by omega), brR_room8 (by omega), w_i64 (by omega) (by omega)]
      rw [show ((j : Int) / 8).toNat = j / 8 by omega, show (8 * ((j : Int) % 8)).toNat = 8 * (j % 8) by omega, byte_out hn (by omega)]
      have hb : beB (j + 1) n = ((n / 256 ^ j % 256 : Nat) : Int) :: beB j n := rfl
      rw [ej] at h5 ⊢
      have step : o.length > 0 ∨ n / 256 ^ j % 256 > 0 → again (lim n, (o ++ [((n / 256 ^ j % 256 : Nat) : Int)], ((j : Int) - 1, ()))) = some ((o ++ (if o = [] then beB (bylen n) n else beB (j + 1) n), ()), ((), ())) := by
        intro hc
        rw [hag _ ⟨rfl, by simp only; omega, by simp only; omega, by simp only [List.length_append, List.length_singleton]; omega, fun h => by simp at h⟩ (by simp only; omega)]
        simp only
        rw [if_neg (by simp), show ((j : Int) - 1 + 1).toNat = j by omega]
        by_cases ho : o = []
        · subst ho
          have h6 := h5 rfl
          have h7 : 256 ^ j ≤ n := by
            rcases Nat.lt_or_ge n (256 ^ j) with h | h
            · rw [Nat.div_eq_of_lt h] at hc; simp at hc
            · exact h
          rw [if_pos rfl, bylen_eq h6 h7, hb]; simp
        · rw [if_neg ho, hb]; simp
      by_cases c1 : (o.length : Int) > 0
      · rw [if_pos c1, step (.inl (by omega))]
      · rw [if_neg c1]
        have ho : o = [] := List.length_eq_zero_iff.1 (by omega)
        by_cases c2 : ((n / 256 ^ j % 256 : Nat) : Int) > 0
        · rw [if_pos c2, step (.inr (by omega))]
        · rw [if_neg c2]
          have h6 := h5 ho
          have hlt : n / 256 ^ j < 256 := by
            rw [Nat.div_lt_iff_lt_mul (Nat.pow_pos (by omega)), Nat.mul_comm, ← Nat.pow_succ]; exact h6
          have h7 : n < 256 ^ j := by
            rw [Nat.mod_eq_of_lt hlt] at c2
            have : n / 256 ^ j = 0 := by generalize n / 256 ^ j = q at *; omega
            exact (Nat.div_eq_zero_iff.1 this).resolve_left (by have := Nat.pow_pos (a := 256) (n := j) (by omega); omega)
          rw [hag _ ⟨rfl, by simp only; omega, by simp only; omega, by simp only; omega, fun _ => by simp only; rw [show ((j : Int) - 1 + 1).toNat = j by omega]; exact h7⟩ (by simp only; omega)]
          simp [ho]
    · have : i = -1 := by omega
      subst this
      rw [if_neg hi]
      by_cases ho : o = []
      · have h6 : n < 1 := h5 ho
        have : n = 0 := by omega
        subst this
        simp [bylen_zero, beB]
      · simp [ho, beB]
  · simp

theorem rAppendUint256_eq {b : List Int} (hb : b.length ≤ 1000000000) {n : Nat} (hn : n < 115792089237316195423570985008687907853269984665640564039457584007913129639936) :
    sol_ref6_AppendUint256 (b, (lim n, ())) = some ((b ++ enc n, ()), ((), ((), ()))) := by
  unfold sol_ref6_AppendUint256 T_ref6_AppendUint256 enc
  have h2 := bylen_256 hn
  rw [digits_eq hn]
  simp only [bind_some', letR_eq, append_def]
  rw [len_beB, w_u8 (by omega) (by omega), brR_room8 (by omega), brR_room8 (by omega), brR_room8 (by simp; omega)]
  simp

theorem rAppendUint64_eq {b : List Int} (hb : b.length ≤ 1000000000) {n : Int} (h0 : 0 ≤ n) (h1 : n ≤ 18446744073709551615) :
    sol_ref6_AppendUint64 (b, (n, ())) = some ((b ++ enc n.toNat, ()), ((), ((), ()))) := by
  unfold sol_ref6_AppendUint64 T_ref6_AppendUint64
  simp only
  rw [lim_small h0 h1, rAppendUint256_eq hb (by omega)]
  rfl

theorem rAppendBytes_eq {b x : List Int} (hb : b.length ≤ 100000000) (hx : x.length ≤ 100000000) :
    sol_ref6_AppendBytes (b, (x, ())) = some ((b ++ (enc x.length ++ x), ()), ((), ((), ()))) := by
  unfold sol_ref6_AppendBytes T_ref6_AppendBytes
  have h2 := @bylen_64 x.length (by omega)
  simp only [letR_eq]
  rw [w_u64 (n := ((x.length : Nat) : Int)) (by omega) (by omega), rAppendUint64_eq (by omega) (by omega) (by omega)]
  simp only [bind_some', Int.toNat_natCast]
  rw [brR_room8 (by simp [len_enc]; omega)]
  simp [append_def]

theorem rAppendInt256_eq {b : List Int} (hb : b.length ≤ 100000000) {s : Bool} {n : Nat} (hn : n < 115792089237316195423570985008687907853269984665640564039457584007913129639936) :
    sol_ref6_AppendInt256 (b, ((s, (lim n, ())), ())) = some ((b ++ encI s n, ()), ((), ((), ()))) := by
  unfold sol_ref6_AppendInt256 T_ref6_AppendInt256 encI
  simp only [append_def]
  rw [rAppendUint256_eq (by simp; omega) hn, rAppendUint256_eq (by simp; omega) hn, ← lim_zero, eqD_lim]
  simp only [bind_some', brR_dec, brR_room8 (show 0 + b.length ≤ 1099511627776 by omega), brR_room8 (show b.length + 1 ≤ 1099511627776 by omega)]
  cases s
  · simp [brR_true, brR_false]
  · by_cases h0 : n = 0
    · simp [h0, brR_true]
    · simp [h0, brR_true]

/-! ### Reading -/

theorem take_loop {b : List Int} (hb : Bytes b) (hl : b.length ≤ 1000000000) {at_ : Nat} (h1 : at_ < b.length) {k : Nat} (hk : k ≤ 32) (hkr : at_ + 1 + k ≤ b.length) (t6 : List Int) :
    bigLoop _ _ (fun again x => T_ref6_take_loop0 again x.1 x.2.1 x.2.2.1 x.2.2.2.1 x.2.2.2.2.1 x.2.2.2.2.2.1) (b, (((at_ : Nat) : Int), (t6, (lim 0, (((k : Nat) : Int), ((0 : Int), ())))))) =
      some ((lim (beV ((b.drop (at_ + 1)).take k)), (((at_ + 1 + k : Nat) : Int), ((0 : Int), ()))), ((), ((), ((), ())))) := by
  refine bigLoop_rule (I := fun x => x.1 = b ∧ x.2.1 = ((at_ : Nat) : Int) ∧ x.2.2.2.2.1 = ((k : Nat) : Int) ∧ (0 : Int) ≤ x.2.2.2.2.2.1 ∧ x.2.2.2.2.2.1 ≤ ((k : Nat) : Int) ∧ x.2.2.2.1 = lim (beV ((b.drop (at_ + 1)).take x.2.2.2.2.2.1.toNat) * 256 ^ (k - x.2.2.2.2.2.1.toNat)))
    (m := fun x => (((k : Nat) : Int) - x.2.2.2.2.2.1).toNat) (g := fun _ => some ((lim (beV ((b.drop (at_ + 1)).take k)), (((at_ + 1 + k : Nat) : Int), ((0 : Int), ()))), ((), ((), ((), ()))))) ?_
    ⟨rfl, rfl, rfl, by simp only; omega, by simp only; omega, by simp [beV_nil]⟩ (by simp only [bigN_eq]; omega)
  rintro ⟨b', a, t, l, k', i, _⟩ again ⟨e1, e2, e3, e4, e5, e6⟩ hag
  simp only at e1 e2 e3 e4 e5 e6 hag ⊢
  subst e1 e2 e3 e6
  obtain ⟨i, rfl⟩ := Int.eq_ofNat_of_zero_le e4
  simp only [T_ref6_take_loop0, letR_eq, brR_dec, brR_inR, Int.toNat_natCast]
  have hr := hb.drop (at_ + 1)
  have hrl : (b'.drop (at_ + 1)).length = b'.length - (at_ + 1) := List.length_drop
  by_cases hi : i < k
  · obtain ⟨j, hj⟩ : ∃ j, k = i + 1 + j := ⟨k - i - 1, by omega⟩
    have e : ((k : Nat) : Int) - 1 - i = (j : Int) := by omega
    have hby := hr.at i
    have hge : b'.getD (at_ + 1 + i) 0 = (b'.drop (at_ + 1)).getD i 0 := by
      rw [List.getD_eq_getElem?_getD, List.getD_eq_getElem?_getD, List.getElem?_drop]
    have hA := beV_take_lt hr (i := i + 1) (by omega)
    have hs := beV_take_succ (r := b'.drop (at_ + 1)) (i := i) (by omega)
    rw [hs] at hA
    rw [if_pos (by omega), w_i64 (n := ((k : Nat) : Int) - 1) (by omega) (by omega), e, w_i64 (n := (j : Int)) (by omega) (by omega), tdiv_pos (by omega), tmod_pos (by omega), w_i64 (n := (j : Int) / 8) (by omega) (by omega),
      w_i64 (n := 8 * ((j : Int) % 8)) (by omega) (by omega), w_u64 (n := 8 * ((j : Int) % 8)) (by omega) (by omega), w_i64 (n := (at_ : Int) + 1) (by omega) (by omega), w_i64 (n := (at_ : Int) + 1 + i) (by omega) (by omega), if_pos (by omega), if_pos (by omega), if_pos (by omega), if_pos (by omega), w_i64 (n := (i : Int) + 1) (by omega) (by omega)]
    rw [show ((j : Int) / 8).toNat = j / 8 by omega, show (8 * ((j : Int) % 8)).toNat = 8 * (j % 8) by omega, show ((at_ : Int) + 1 + i).toNat = at_ + 1 + i by omega, show k - i = j + 1 by omega, hge]
    generalize b'.drop (at_ + 1) = r' at *
    rw [w_u64 (n := r'.getD i 0) (by omega) (by omega)]
    obtain ⟨c, hc⟩ := Int.eq_ofNat_of_zero_le hby.1
    rw [hc] at hby hs hA ⊢
    rw [Int.toNat_natCast] at hs hA
    generalize hv : beV (r'.take i) = v at *
    have hp : 0 < 256 ^ j := Nat.pow_pos (by omega)
    have h3 : (v * 256 + c) * 256 ^ j < 256 ^ (i + 1) * 256 ^ j := Nat.mul_lt_mul_of_pos_right hA hp
    rw [← Nat.pow_add] at h3
    have h4 : (256 : Nat) ^ (i + 1 + j) ≤ 256 ^ 32 := Nat.pow_le_pow_right (by omega) (by omega)
    have h5 : v * 256 ^ (j + 1) + c * 256 ^ j = (v * 256 + c) * 256 ^ j := by rw [Nat.add_mul, Nat.pow_succ, Nat.mul_assoc v, Nat.mul_comm 256]
    have h6 : v * 256 ^ (j + 1) + c * 256 ^ j < 115792089237316195423570985008687907853269984665640564039457584007913129639936 := by
      rw [h5]; exact Nat.lt_of_lt_of_le h3 h4
    rw [lim_getD (by omega) (by omega), Nat.min_eq_left (by omega)]
    have h7 : (2 : Nat) ^ (8 * (j % 8)) ≤ 72057594037927936 := Nat.pow_le_pow_right (n := 2) (j := 56) (by omega) (by omega)
    have h8 : ((c : Nat) : Int) * 2 ^ (8 * (j % 8)) = ((c * 2 ^ (8 * (j % 8)) : Nat) : Int) := by rw [Int.natCast_mul, Int.natCast_pow]; rfl
    have h9 : c * 2 ^ (8 * (j % 8)) ≤ 255 * 72057594037927936 := Nat.mul_le_mul (by omega) h7
    have h10 : v * 256 ^ (j + 1) / 18446744073709551616 ^ (j / 8) % 18446744073709551616 < 18446744073709551616 := Nat.mod_lt _ (by omega)
    have h11 : v * 256 ^ (j + 1) / 18446744073709551616 ^ (j / 8) % 18446744073709551616 ||| c * 2 ^ (8 * (j % 8)) < 18446744073709551616 := Nat.or_lt_two_pow (n := 64) h10 (by omega)
    rw [h8, w_u64 (n := ((c * 2 ^ (8 * (j % 8)) : Nat) : Int)) (by omega) (by omega), ← Int.natCast_add, ← limb_sum (by omega), w_u64 (by omega) (by omega), lim_set (by omega) (by omega) h6 rfl, h5]
    refine hag _ ⟨rfl, rfl, rfl, by simp only; omega, by simp only; omega, ?_⟩ (by simp only; omega)
    simp only
    rw [show ((i : Int) + 1).toNat = i + 1 by omega, hs, show k - (i + 1) = j by omega]
  · have : i = k := by omega
    subst this
    rw [if_neg (by omega), Nat.sub_self, Nat.pow_zero, Nat.mul_one, w_i64 (n := (at_ : Int) + 1) (by omega) (by omega), w_i64 (by omega) (by omega), show (at_ : Int) + 1 + i = ((at_ + 1 + i : Nat) : Int) by omega]

theorem take_eq {b : List Int} (hb : Bytes b) (hl : b.length ≤ 1000000000) {at_ : Int} (h1 : -9223372036854775808 ≤ at_) (h2 : at_ ≤ 9223372036854775807) {most : Nat} (hm : most ≤ 32) :
    sol_ref6_take (b, (at_, (((most : Nat) : Int), ()))) = some (readR b at_ most, ((), ((), ((), ())))) := by
  unfold sol_ref6_take T_ref6_take readR
  simp only [letR_eq, brR_dec, brR_and, brR_inR]
  by_cases c1 : at_ < 0
  · rw [if_pos c1, if_pos (.inl c1)]; rfl
  rw [if_neg c1]
  by_cases c2 : b.length < at_
  · rw [if_pos (by omega), if_pos (.inr c2)]; rfl
  rw [if_neg (show ¬ at_ > (b.length : Int) by omega), if_neg (show ¬ (at_ < 0 ∨ (b.length : Int) < at_) by omega)]
  obtain ⟨i, rfl⟩ := Int.eq_ofNat_of_zero_le (show 0 ≤ at_ by omega)
  simp only [Int.toNat_natCast]
  by_cases c3 : i = b.length
  · rw [if_pos (by omega)]
    unfold rdU
    rw [c3, List.drop_length]; rfl
  have hin : 0 ≤ (i : Int) ∧ (i : Int) < (b.length : Int) := by omega
  simp only [if_pos hin]
  rw [if_neg (by omega)]
  obtain ⟨k, r, hkr⟩ : ∃ k r, b.drop i = k :: r := by
    cases h : b.drop i with
    | nil => have := List.drop_eq_nil_iff.1 h; omega
    | cons k r => exact ⟨k, r, rfl⟩
  have hd := hb.drop i
  have hlen : (b.drop i).length = b.length - i := List.length_drop
  have hr : b.drop (i + 1) = r := by rw [← List.drop_drop, hkr]; rfl
  have g1 : b.getD i 0 = k := by
    have : (b.drop i).getD 0 0 = b.getD i 0 := by rw [List.getD_eq_getElem?_getD, List.getD_eq_getElem?_getD, List.getElem?_drop]; rfl
    rw [← this, hkr]; rfl
  have g2 : b.getD (i + 1) 0 = r.getD 0 0 := by
    rw [← hr, List.getD_eq_getElem?_getD, List.getD_eq_getElem?_getD, List.getElem?_drop]
  unfold rdU
  rw [hkr] at hd hlen ⊢
  have hk := hd k (by simp)
  obtain ⟨k, rfl⟩ := Int.eq_ofNat_of_zero_le hk.1
  simp only [List.length_cons] at hlen
  rw [g1, w_i64 (n := (k : Int)) (by omega) (by omega), w_i64 (n := (b.length : Int) - (i : Int)) (by omega) (by omega), w_i64 (by omega) (by omega)]
  simp only [Int.toNat_natCast]
  by_cases c4 : most < k
  · rw [if_pos (by omega), if_pos (by omega)]; rfl
  rw [if_neg (by omega)]
  by_cases c5 : r.length < k
  · rw [if_pos (by omega), if_pos (by omega)]; rfl
  rw [if_neg (by omega)]
  have loop := take_loop hb hl (at_ := i) (by omega) (k := k) (by omega) (by omega)
  rw [hr] at loop
  by_cases c6 : 0 < k
  · rw [if_pos (by omega), w_i64 (by omega) (by omega), if_pos (by omega), show ((i : Int) + 1).toNat = i + 1 by omega, g2]
    by_cases c7 : r.getD 0 0 = 0
    · rw [if_pos c7, if_pos (by omega)]; rfl
    · rw [if_neg c7, if_neg (by omega)]
      exact loop _
  · rw [if_neg (by omega), if_neg (by omega)]
    exact loop _

theorem rReadUint256_eq {b : List Int} (hb : Bytes b) (hl : b.length ≤ 1000000000) {at_ : Int} (h1 : -9223372036854775808 ≤ at_) (h2 : at_ ≤ 9223372036854775807) :
    sol_ref6_ReadUint256 (b, (at_, ())) = some (readR b at_ 32, ((), ((), ()))) := by
  unfold sol_ref6_ReadUint256 T_ref6_ReadUint256
  rw [show ((32 : Int)) = ((32 : Nat) : Int) from rfl, take_eq hb hl h1 h2 (by omega)]
  simp only [bind_some']

theorem rReadUint64_eq {b : List Int} (hb : Bytes b) (hl : b.length ≤ 1000000000) {at_ : Int} (h1 : -9223372036854775808 ≤ at_) (h2 : at_ ≤ 9223372036854775807) :
    sol_ref6_ReadUint64 (b, (at_, ())) = some ((((val4 (readR b at_ 8).1 : Nat) : Int), (readR b at_ 8).2), ((), ((), ()))) := by
  unfold sol_ref6_ReadUint64 T_ref6_ReadUint64
  obtain ⟨v, v1, v2, _⟩ := readR_bounds hb at_ (most := 8) (by omega)
  rw [show ((8 : Int)) = ((8 : Nat) : Int) from rfl, take_eq hb hl h1 h2 (by omega)]
  simp only [bind_some']
  have : (readR b at_ 8).1.getD 0 0 = ((val4 (readR b at_ 8).1 : Nat) : Int) := by
    rw [v2, val4_lim]; simp only [lim, List.getD_cons_zero]; omega
  rw [this]

theorem rReadBytes_eq {b : List Int} (hb : Bytes b) (hl : b.length ≤ 1000000000) {at_ : Int} (h1 : -9223372036854775808 ≤ at_) (h2 : at_ ≤ 9223372036854775807) :
    sol_ref6_ReadBytes (b, (at_, ())) = some (readB b at_, ((), ((), ()))) := by
  unfold sol_ref6_ReadBytes T_ref6_ReadBytes readB
  rw [rReadUint64_eq hb hl h1 h2]
  simp only [bind_some', letR_eq, brR_dec, brR_not, brR_and]
  unfold readR
  by_cases c1 : at_ < 0 ∨ (b.length : Int) < at_
  · rw [if_pos c1, if_pos c1]; rfl
  rw [if_neg c1, if_neg c1]
  cases h : rdU b at_.toNat 8 with
  | none => rfl
  | some p =>
    obtain ⟨n, j⟩ := p
    obtain ⟨r1, r2, r3, _⟩ := rdU_le h hb
    have r3 : n < 18446744073709551616 := r3
    simp only [val4_lim]
    rw [if_pos trivial, w_i64 (n := (b.length : Int) - (j : Int)) (by omega) (by omega), w_u64 (by omega) (by omega)]
    by_cases c2 : b.length - j < n
    · rw [if_pos (by omega), if_pos c2]
    · rw [if_neg (by omega), if_neg c2, w_i64 (n := (n : Int)) (by omega) (by omega), w_i64 (n := (j : Int) + (n : Int)) (by omega) (by omega), if_pos (by omega), if_pos (by omega), if_pos (by omega)]
      rw [show ((j : Int) + (n : Int)).toNat - (j : Int).toNat = n by omega, Int.toNat_natCast, brR_room8 (by rw [List.length_take, List.length_drop]; omega)]
      rw [show ((j : Int) + (n : Int)) = ((j + n : Nat) : Int) by omega]

theorem rReadInt256_eq {b : List Int} (hb : Bytes b) (hl : b.length ≤ 1000000000) {at_ : Int} (h1 : -9223372036854775808 ≤ at_) (h2 : at_ ≤ 9223372036854775807) :
    sol_ref6_ReadInt256 (b, (at_, ())) = some (readI b at_, ((), ((), ()))) := by
  unfold sol_ref6_ReadInt256 T_ref6_ReadInt256 readI
  simp only [letR_eq, brR_dec, brR_inR, brR_not]
  by_cases c1 : at_ < 0
  · rw [if_pos c1, if_pos (.inl c1)]; rfl
  rw [if_neg c1]
  by_cases c2 : b.length < at_
  · rw [if_pos (by omega), if_pos (.inr c2)]; rfl
  obtain ⟨i, rfl⟩ := Int.eq_ofNat_of_zero_le (show 0 ≤ at_ by omega)
  rw [if_neg (show ¬ (i : Int) > (b.length : Int) by omega), if_neg (show ¬ ((i : Int) < 0 ∨ (b.length : Int) < (i : Int)) by omega)]
  simp only [Int.toNat_natCast]
  by_cases c3 : b.length = i
  · rw [if_pos (by omega), if_pos (.inl c3)]; rfl
  have hin : 0 ≤ (i : Int) ∧ (i : Int) < (b.length : Int) := by omega
  simp only [if_pos hin]
  rw [if_neg (by omega)]
  by_cases c4 : 1 < b.getD i 0
  · rw [if_pos (by omega), if_pos (.inr c4)]; rfl
  rw [if_neg (show ¬ b.getD i 0 > 1 by omega), if_neg (show ¬ (b.length = i ∨ 1 < b.getD i 0) by omega), w_i64 (by omega) (by omega), show ((i : Int) + 1) = ((i + 1 : Nat) : Int) by omega, rReadUint256_eq hb hl (by omega) (by omega)]
  simp only [bind_some']
  unfold readR
  rw [if_neg (show ¬ (((i + 1 : Nat) : Int) < 0 ∨ (b.length : Int) < ((i + 1 : Nat) : Int)) by omega), Int.toNat_natCast]
  cases h : rdU b (i + 1) 32 with
  | none => rfl
  | some p =>
    obtain ⟨n, j⟩ := p
    simp only
    rw [← lim_zero, eqD_lim, brR_dec]
    by_cases c5 : b.getD i 0 = 1 <;> by_cases c6 : n = 0 <;> simp [c5, c6, -List.getD_eq_getElem?_getD]

end Go.Pon
/-
  The outbox: what its functions and the reference's compute.
-/
set_option autoImplicit false
set_option linter.unusedVariables false
set_option linter.unusedSimpArgs false
namespace Go.Pon
open Go

abbrev MsgT := Int × (Int × (List Int × Unit))

/-- A message as the program's types have it. -/
inductive MsgW : MsgT → Prop
  | mk {s t : Int} {v : Nat} (hs : 0 ≤ s ∧ s ≤ 18446744073709551615) (ht : 0 ≤ t ∧ t ≤ 18446744073709551615) (hv : v < 115792089237316195423570985008687907853269984665640564039457584007913129639936) : MsgW (s, (t, (lim v, ())))

abbrev zeroMsg : MsgT := ((0 : Int), ((0 : Int), ([(0 : Int), (0 : Int), (0 : Int), (0 : Int)], ())))

theorem zeroMsgW : MsgW zeroMsg := by
  have := MsgW.mk (s := 0) (t := 0) (v := 0) (by omega) (by omega) (by omega)
  exact this

def encMsg (m : MsgT) : List Int := enc m.1.toNat ++ (enc m.2.1.toNat ++ enc (val4 m.2.2.1))

def leafM (m : MsgT) : List Int := leafH (encMsg m)

theorem h32_leafM (m : MsgT) : H32 (leafM m) := h32_leaf _

theorem len_encMsg {m : MsgT} (h : MsgW m) : (encMsg m).length ≤ 1000 ∧ Bytes (encMsg m) := by
  obtain ⟨hs, ht, hv⟩ := h
  rename_i s t v
  have := @bylen_64 s.toNat (by omega); have := @bylen_64 t.toNat (by omega); have := bylen_256 hv
  unfold encMsg
  simp only [val4_lim]
  refine ⟨by simp only [List.length_append, len_enc]; omega, (bytes_enc (by omega)).append ((bytes_enc (by omega)).append (bytes_enc (by omega)))⟩

theorem oEncode_eq {m : MsgT} (h : MsgW m) : sol_outbox_Encode (m, ()) = some ((encMsg m, ()), ((), ())) := by
  obtain ⟨hs, ht, hv⟩ := h
  rename_i s t v
  have := @bylen_64 s.toNat (by omega); have := @bylen_64 t.toNat (by omega); have := bylen_256 hv
  unfold sol_outbox_Encode T_outbox_Encode
  simp only
  rw [appendUint64_eq (by simp) hs.1 hs.2]; simp only [bind_some']
  rw [appendUint64_eq (by simp [len_enc]; omega) ht.1 ht.2]; simp only [bind_some']
  rw [appendUint256_eq (by simp [len_enc]; omega) hv]; simp only [bind_some']
  simp only [encMsg, val4_lim, List.nil_append, List.append_assoc]

theorem rEncodeM_eq {m : MsgT} (h : MsgW m) : sol_ref24_Encode (m, ()) = some ((encMsg m, ()), ((), ())) := by
  obtain ⟨hs, ht, hv⟩ := h
  rename_i s t v
  have := @bylen_64 s.toNat (by omega); have := @bylen_64 t.toNat (by omega); have := bylen_256 hv
  unfold sol_ref24_Encode T_ref24_Encode
  simp only
  rw [rAppendUint64_eq (by simp) hs.1 hs.2]; simp only [bind_some']
  rw [rAppendUint64_eq (by simp [len_enc]; omega) ht.1 ht.2]; simp only [bind_some']
  rw [rAppendUint256_eq (by simp [len_enc]; omega) hv]; simp only [bind_some']
  simp only [encMsg, val4_lim, List.nil_append, List.append_assoc]

theorem oLeaf_eq {m : MsgT} (h : MsgW m) : sol_outbox_Leaf (m, ()) = some ((leafM m, ()), ((), ())) := by
  obtain ⟨h1, h2⟩ := len_encMsg h
  unfold sol_outbox_Leaf T_outbox_Leaf
  simp only
  rw [oEncode_eq h]; simp only [bind_some']
  rw [leaf_eq h2 (by omega)]; simp only [bind_some']
  rfl

theorem rLeafM_eq {m : MsgT} (h : MsgW m) : sol_ref24_Leaf (m, ()) = some ((leafM m, ()), ((), ())) := by
  obtain ⟨h1, h2⟩ := len_encMsg h
  unfold sol_ref24_Leaf T_ref24_Leaf
  simp only
  rw [rEncodeM_eq h]; simp only [bind_some']
  rw [rleaf_eq h2 (by omega)]; simp only [bind_some']
  rfl

abbrev ObT := List MsgT × ((List (List Int) × Unit) × Unit)

/-- The outbox of a list of messages. -/
def obOf (l : List MsgT) : ObT := (l, ((l.map leafM, ()), ()))

def AllM (l : List MsgT) : Prop := ∀ m ∈ l, MsgW m

theorem allH_leafM (l : List MsgT) : AllH (l.map leafM) := fun x hx => by
  obtain ⟨m, _, rfl⟩ := List.mem_map.1 hx
  exact h32_leafM m

theorem AllM.at {l : List MsgT} (h : AllM l) {i : Nat} (hi : i < l.length) (d : MsgT) : MsgW (l.getD i d) := h _ (getD_mem hi)

theorem roomyM {n : Nat} (h : n ≤ 1000000) {α : Type} (a b : Option α) : brR (roomy n (.pair (.int .u64) (.pair (.int .u64) (.pair (.arr 4 (.int .u64)) .unit)))) a b = a := by
  rw [brR_roomy, if_pos ⟨by decide, by simp only [Ty.size]; omega⟩]

theorem oNew_eq : sol_outbox_New () = some ((obOf [], ()), ()) := rfl

theorem push_eq {l : List MsgT} {m : MsgT} (hl : l.length ≤ 100000) (hm : MsgW m) : sol_outbox_Outbox_push (obOf l, (m, ())) = some ((), (obOf (l ++ [m]), ((), ()))) := by
  unfold sol_outbox_Outbox_push T_outbox_Outbox_push
  simp only [obOf]
  rw [roomyM (by omega), oLeaf_eq hm]; simp only [bind_some']
  rw [append_eq (by rw [List.length_map]; omega)]; simp only [bind_some', append_def]
  simp

theorem optR_some {α β : Type} (a : α) (n : Option β) (f : α → Option β) : optR (some a) n f = f a := rfl
theorem optR_none {α β : Type} (n : Option β) (f : α → Option β) : optR none n f = n := rfl

theorem oLen_eq (l : List MsgT) : sol_outbox_Outbox_Len (some (obOf l), ()) = some ((((l.length : Nat) : Int), ()), (some (obOf l), ())) := rfl
theorem oLen_nil : sol_outbox_Outbox_Len (none, ()) = some (((0 : Int), ()), (none, ())) := rfl

theorem oRoot_in {l : List MsgT} {n : Nat} (hl : l.length ≤ 1000000) (hn : n ≤ l.length) : sol_outbox_Outbox_Root (some (obOf l), (((n : Nat) : Int), ())) = some ((rootH ((l.map leafM).take n), (true, ())), (some (obOf l), ((), ()))) := by
  unfold sol_outbox_Outbox_Root T_outbox_Outbox_Root
  simp only [obOf, optR_some]
  rw [treeRoot_in (by rw [List.length_map]; omega) (allH_leafM l) (by rw [List.length_map]; omega)]
  rfl

theorem oRoot_out {l : List MsgT} {n : Int} (hn : n < 0 ∨ (l.length : Int) < n) : sol_outbox_Outbox_Root (some (obOf l), (n, ())) = some ((Z32, (false, ())), (some (obOf l), ((), ()))) := by
  unfold sol_outbox_Outbox_Root T_outbox_Outbox_Root
  simp only [obOf, optR_some]
  rw [treeRoot_out (by rw [List.length_map]; exact hn)]
  rfl

theorem oProof_in {l : List MsgT} {i n : Nat} (hl : l.length ≤ 1000000) (hi : i < n) (hn : n ≤ l.length) : sol_outbox_Outbox_Proof (some (obOf l), (((i : Nat) : Int), (((n : Nat) : Int), ()))) = some ((proofH ((l.map leafM).take n) i, (true, ())), (some (obOf l), ((), ((), ())))) := by
  unfold sol_outbox_Outbox_Proof T_outbox_Outbox_Proof
  simp only [obOf, optR_some]
  rw [treeProof_in (by rw [List.length_map]; omega) (allH_leafM l) hi (by rw [List.length_map]; omega)]
  rfl

theorem oProof_out {l : List MsgT} {i n : Int} (h : i < 0 ∨ n ≤ i ∨ (l.length : Int) < n) : sol_outbox_Outbox_Proof (some (obOf l), (i, (n, ()))) = some (([], (false, ())), (some (obOf l), ((), ((), ())))) := by
  unfold sol_outbox_Outbox_Proof T_outbox_Outbox_Proof
  simp only [obOf, optR_some]
  rw [treeProof_out (by rw [List.length_map]; exact h)]
  rfl

theorem oGet_out {l : List MsgT} {i : Int} (h : i < 0 ∨ (l.length : Int) ≤ i) : sol_outbox_Outbox_Get (some (obOf l), (i, ())) = some ((zeroMsg, (false, ())), (some (obOf l), ((), ()))) := by
  unfold sol_outbox_Outbox_Get T_outbox_Outbox_Get
  simp only [optR_some, brR_dec]
  by_cases h1 : i < 0
  · rw [if_pos h1]
  · rw [if_neg h1]
    rw [show (some ((obOf l).1, (((obOf l).2.1.1, (obOf l).2.1.2), (obOf l).2.2)) : Option ObT) = some (obOf l) from rfl, oLen_eq]
    simp only [bind_some', optR_some]
    rw [if_pos (by omega)]

theorem oGet_in {l : List MsgT} {i : Nat} (h : i < l.length) : sol_outbox_Outbox_Get (some (obOf l), (((i : Nat) : Int), ())) = some ((l.getD i zeroMsg, (true, ())), (some (obOf l), ((), ()))) := by
  unfold sol_outbox_Outbox_Get T_outbox_Outbox_Get
  simp only [optR_some, brR_dec]
  rw [if_neg (by omega)]
  rw [show (some ((obOf l).1, (((obOf l).2.1.1, (obOf l).2.1.2), (obOf l).2.2)) : Option ObT) = some (obOf l) from rfl, oLen_eq]
  simp only [bind_some', optR_some, brR_inR]
  rw [if_neg (by omega), if_pos (by simp only [obOf]; omega), Int.toNat_natCast]
  rfl

theorem oSend_ok {l : List MsgT} {to : Int} {v : Nat} (hl : l.length ≤ 100000) (ht : 0 ≤ to ∧ to ≤ 18446744073709551615) (h0 : to ≠ 0) (hv : v < 115792089237316195423570985008687907853269984665640564039457584007913129639936) (hv0 : v ≠ 0) :
    sol_outbox_Outbox_Send (some (obOf l), (to, (lim v, ()))) = some (((((l.length : Nat) : Int), (to, (lim v, ()))), ((0 : Int), ())), (some (obOf (l ++ [(((l.length : Nat) : Int), (to, (lim v, ())))])), ((), ((), ())))) := by
  unfold sol_outbox_Outbox_Send T_outbox_Outbox_Send
  simp only [optR_some, brR_dec]
  rw [if_neg h0, show ([(0 : Int), (0 : Int), (0 : Int), (0 : Int)] : List Int) = lim 0 from rfl, eqD_lim, brR_dec, if_neg hv0]
  rw [show (((obOf l).1, (((obOf l).2.1.1, (obOf l).2.1.2), (obOf l).2.2)) : ObT) = obOf l from rfl, show (obOf l).1 = l from rfl, w_u64 (by omega) (by omega), push_eq hl (.mk ⟨by omega, by omega⟩ ht hv)]
  rfl

/-! ### Valid lists -/

/-- Is this the message that may stand there? -/
def goodM (m : MsgT) (i : Nat) : Bool := decide (m.1 = (i : Int)) && (!decide (m.2.1 = 0) && !decide (val4 m.2.2.1 = 0))

theorem isValid_eq {m : MsgT} (hm : MsgW m) {i : Nat} (hi : i ≤ 1000000) : sol_outbox_isValid (m, (((i : Nat) : Int), ())) = some ((goodM m i, ()), ((), ((), ()))) := by
  obtain ⟨hs, ht, hv⟩ := hm
  rename_i s t v
  unfold sol_outbox_isValid T_outbox_isValid goodM
  simp only [brR_dec, brR_not]
  rw [w_u64 (by omega) (by omega), show ([(0 : Int), (0 : Int), (0 : Int), (0 : Int)] : List Int) = lim 0 from rfl, eqD_lim, val4_lim]
  by_cases h1 : s = ((i : Nat) : Int)
  · rw [if_pos h1]
    by_cases h2 : t = (0 : Int)
    · rw [if_pos h2]; simp [h1, h2]
    · rw [if_neg h2]; simp [h1, h2]
  · rw [if_neg h1]; simp [h1]

/-- Are all good from there on? -/
def okM (l : List MsgT) : Bool := (List.range l.length).all fun i => goodM (l.getD i zeroMsg) i

theorem okM_iff {l : List MsgT} : okM l = true ↔ ∀ i, i < l.length → goodM (l.getD i zeroMsg) i = true := by
  unfold okM
  simp only [List.all_eq_true, List.mem_range]

theorem oLoad_loop {l : List MsgT} (ha : AllM l) (hl : l.length ≤ 100000) : ∀ (k i : Nat), i + k = l.length → (∀ j, j < i → goodM (l.getD j zeroMsg) j = true) →
    bigLoop _ _ (fun again x => T_outbox_Load_loop0 sol_outbox_isValid sol_outbox_Outbox_push again x.1 x.2.1 x.2.2.1 x.2.2.2.1) (obOf (l.take i), (l, (((l.length : Nat) : Int), (((i : Nat) : Int), ())))) =
      some ((if okM l then some (obOf l) else none, (if okM l then 0 else 2, ())), ((), ())) := by
  intro k i hik hg
  refine bigLoop_rule (I := fun x => ∃ i : Nat, i ≤ l.length ∧ x = (obOf (l.take i), (l, (((l.length : Nat) : Int), (((i : Nat) : Int), ())))) ∧ ∀ j, j < i → goodM (l.getD j zeroMsg) j = true) (m := fun x => (((l.length : Nat) : Int) - x.2.2.2.1).toNat)
    (g := fun _ => some ((if okM l then some (obOf l) else none, (if okM l then 0 else 2, ())), ((), ()))) ?_ ⟨i, by omega, rfl, hg⟩ (by rw [bigN_eq]; simp only; omega)
  rintro x again ⟨i, hi, rfl, hg⟩ hag
  simp only at hag ⊢
  unfold T_outbox_Load_loop0
  simp only [brR_dec, brR_inR]
  by_cases h1 : ((i : Nat) : Int) < ((l.length : Nat) : Int)
  · have hil : i < l.length := by omega
    rw [if_pos h1, if_pos (by omega), Int.toNat_natCast, isValid_eq (ha.at hil _) (by omega)]
    simp only [bind_some', brR_not]
    cases hgi : goodM (l.getD i zeroMsg) i with
    | false =>
      have : okM l = false := by
        rw [Bool.eq_false_iff]
        intro h
        rw [okM_iff.1 h i hil] at hgi; cases hgi
      rw [this, brR_false]; rfl
    | true =>
      rw [brR_true]
      rw [show (((obOf (l.take i)).1, (((obOf (l.take i)).2.1.1, (obOf (l.take i)).2.1.2), (obOf (l.take i)).2.2)) : ObT) = obOf (l.take i) from rfl, push_eq (by rw [List.length_take]; omega) (ha.at hil _)]
      simp only [bind_some']
      rw [← take_succ' hil, w_i64 (by omega) (by omega)]
      rw [hag (obOf (l.take (i + 1)), (l, (((l.length : Nat) : Int), (((i : Nat) : Int) + 1, ())))) ⟨i + 1, by omega, by rw [Int.natCast_add]; rfl, fun j hj => ?_⟩ (by simp only; omega)]
      by_cases e : j = i
      · rw [e]; exact hgi
      · exact hg j (by omega)
  · have hil : i = l.length := by omega
    have : okM l = true := okM_iff.2 fun j hj => hg j (by omega)
    rw [if_neg h1, this, hil, List.take_length]
    rfl

theorem oLoad_eq {l : List MsgT} (ha : AllM l) (hl : l.length ≤ 100000) : sol_outbox_Load (l, ()) = some ((if okM l then some (obOf l) else none, (if okM l then 0 else 2, ())), ((), ())) := by
  unfold sol_outbox_Load T_outbox_Load
  rw [oNew_eq]
  simp only [bind_some']
  exact oLoad_loop ha hl l.length 0 (by omega) (fun j hj => by omega)

/-! ### The reference's leaves -/

theorem rLeaves_eq {l : List MsgT} (ha : AllM l) (hl : l.length ≤ 100000) {n : Nat} (hn : n ≤ l.length) : sol_ref24_Leaves (l, (((n : Nat) : Int), ())) = some (((l.map leafM).take n, ()), ((), ((), ()))) := by
  unfold sol_ref24_Leaves T_ref24_Leaves
  refine bigLoop_rule (I := fun x => ∃ i : Nat, i ≤ n ∧ x = (l, (((n : Nat) : Int), ((l.map leafM).take i, (((i : Nat) : Int), ()))))) (m := fun x => (((n : Nat) : Int) - x.2.2.2.1).toNat)
    (g := fun _ => some (((l.map leafM).take n, ()), ((), ((), ())))) ?_ ⟨0, by omega, rfl⟩ (by rw [bigN_eq]; simp only; omega)
  rintro x again ⟨i, hi, rfl⟩ hag
  simp only at hag ⊢
  unfold T_ref24_Leaves_loop0
  simp only [brR_dec, brR_inR]
  by_cases h1 : ((i : Nat) : Int) < ((n : Nat) : Int)
  · have hil : i < l.length := by omega
    rw [if_pos h1, if_pos (by omega), Int.toNat_natCast, rLeafM_eq (ha.at hil _)]
    simp only [bind_some', append_def]
    rw [brR_roomH (by simp; omega), w_i64 (by omega) (by omega)]
    have e : (l.map leafM).take i ++ [leafM (l.getD i zeroMsg)] = (l.map leafM).take (i + 1) := by
      rw [← List.map_take, ← List.map_take, take_map_succ hil]
    rw [e]
    rw [hag (l, (((n : Nat) : Int), ((l.map leafM).take (i + 1), (((i : Nat) : Int) + 1, ())))) ⟨i + 1, by omega, by rw [Int.natCast_add]; rfl⟩ (by simp only; omega)]
  · have hil : i = n := by omega
    rw [if_neg h1, hil]

theorem r24Root_in {l : List MsgT} (ha : AllM l) (hl : l.length ≤ 100000) {n : Nat} (hn : n ≤ l.length) : sol_ref24_Root (l, (((n : Nat) : Int), ())) = some ((rootH ((l.map leafM).take n), (true, ())), ((), ((), ()))) := by
  unfold sol_ref24_Root T_ref24_Root
  simp only [brR_dec]
  rw [if_neg (by omega), if_neg (by omega), rLeaves_eq ha hl hn]
  simp only [bind_some']
  rw [rrootOf_eq (by rw [List.length_take]; omega) ((allH_leafM l).take n)]
  rfl

theorem r24Root_out {l : List MsgT} {n : Int} (hn : n < 0 ∨ (l.length : Int) < n) : sol_ref24_Root (l, (n, ())) = some ((Z32, (false, ())), ((), ((), ()))) := by
  unfold sol_ref24_Root T_ref24_Root
  simp only [brR_dec]
  by_cases h : n < 0
  · rw [if_pos h]
  · rw [if_neg h, if_pos (by omega)]

theorem r24Proof_in {l : List MsgT} (ha : AllM l) (hl : l.length ≤ 100000) {i n : Nat} (hi : i < n) (hn : n ≤ l.length) : sol_ref24_Proof (l, (((i : Nat) : Int), (((n : Nat) : Int), ()))) = some ((proofH ((l.map leafM).take n) i, (true, ())), ((), ((), ((), ())))) := by
  unfold sol_ref24_Proof T_ref24_Proof
  simp only [brR_dec]
  rw [if_neg (by omega), if_neg (by omega), if_neg (by omega), rLeaves_eq ha hl hn]
  simp only [bind_some']
  rw [rproof_eq (by rw [List.length_take]; omega) (by rw [List.length_take, List.length_map]; omega) ((allH_leafM l).take n)]
  rfl

theorem r24Proof_out {l : List MsgT} {i n : Int} (h : i < 0 ∨ n ≤ i ∨ (l.length : Int) < n) : sol_ref24_Proof (l, (i, (n, ()))) = some (([], (false, ())), ((), ((), ((), ())))) := by
  unfold sol_ref24_Proof T_ref24_Proof
  simp only [brR_dec]
  by_cases h1 : i < 0
  · rw [if_pos h1]
  · rw [if_neg h1]
    by_cases h2 : i ≥ n
    · rw [if_pos h2]
    · rw [if_neg h2, if_pos (by omega)]

theorem cloneM_eq {l : List MsgT} (h : l.length ≤ 100000) : sol_slices_Clone_api_Message_api_Message (l, ()) = some ((l, ()), ((), ())) := by
  unfold sol_slices_Clone_api_Message_api_Message T_slices_Clone_api_Message_api_Message
  simp only [letR_eq]
  rw [roomyM (by omega), brR_dec]
  split
  · rename_i h0
    have : l = [] := List.length_eq_zero_iff.1 h0
    subst this
    exact bothR_eq rfl rfl
  · rfl

theorem oAll_eq {l : List MsgT} (h : l.length ≤ 100000) : sol_outbox_Outbox_All (some (obOf l), ()) = some ((l, ()), (some (obOf l), ())) := by
  unfold sol_outbox_Outbox_All T_outbox_Outbox_All
  simp only [optR_some, obOf]
  rw [cloneM_eq h]
  rfl

/-- The reference's verdict on a list. -/
theorem rValid_eq {l : List MsgT} (ha : AllM l) (hl : l.length ≤ 100000) : sol_ref24_ValidMessages (l, ()) = some ((okM l, ()), ((), ())) := by
  unfold sol_ref24_ValidMessages T_ref24_ValidMessages
  refine bigLoop_rule (I := fun x => ∃ i : Nat, i ≤ l.length ∧ x = (l, (((i : Nat) : Int), ())) ∧ ∀ j, j < i → goodM (l.getD j zeroMsg) j = true) (m := fun x => (((l.length : Nat) : Int) - x.2.1).toNat)
    (g := fun _ => some ((okM l, ()), ((), ()))) ?_ ⟨0, by omega, rfl, fun j hj => by omega⟩ (by rw [bigN_eq]; simp only; omega)
  rintro x again ⟨i, hi, rfl, hg⟩ hag
  simp only at hag ⊢
  unfold T_ref24_ValidMessages_loop0
  rw [show (Go.Pon.Ty.zero ((Go.Pon.Ty.int Go.IntKind.u64).pair ((Go.Pon.Ty.int Go.IntKind.u64).pair ((Go.Pon.Ty.arr 4 (Go.Pon.Ty.int Go.IntKind.u64)).pair Go.Pon.Ty.unit)))) = zeroMsg from rfl]
  simp only [letR_eq, brR_dec, brR_inR, brR_not]
  by_cases h1 : ((i : Nat) : Int) < ((l.length : Nat) : Int)
  · have hil : i < l.length := by omega
    have hin : (0 ≤ ((i : Nat) : Int) ∧ ((i : Nat) : Int) < ((l.length : Nat) : Int)) = True := eq_true ⟨by omega, by omega⟩
    rw [if_pos h1]
    simp only [hin, if_true, Int.toNat_natCast]
    rw [w_u64 (by omega) (by omega), w_i64 (by omega) (by omega)]
    have hm := ha.at hil zeroMsg
    have hb : goodM (l.getD i zeroMsg) i = false → okM l = false := fun hgi => by
      rw [Bool.eq_false_iff]
      intro h
      rw [okM_iff.1 h i hil] at hgi; cases hgi
    have hn : goodM (l.getD i zeroMsg) i = true → again (l, (((i : Nat) : Int) + 1, ())) = some ((okM l, ()), ((), ())) := fun hgi => hag _ ⟨i + 1, by omega, by rw [Int.natCast_add]; rfl, fun j hj => by
      by_cases e : j = i
      · rw [e]; exact hgi
      · exact hg j (by omega)⟩ (by simp only; omega)
    clear hag hg
    generalize l.getD i zeroMsg = m at hm hb hn ⊢
    obtain ⟨hs, ht, hv⟩ := hm
    rename_i s t v
    unfold goodM at hb hn
    simp only [val4_lim] at hb hn ⊢
    rw [show ([(0 : Int), (0 : Int), (0 : Int), (0 : Int)] : List Int) = lim 0 from rfl, eqD_lim, brR_dec]
    by_cases g1 : s = ((i : Nat) : Int)
    · rw [if_pos g1]
      by_cases g2 : t = 0
      · rw [if_pos g2, hb (by simp [g2])]
      · rw [if_neg g2]
        by_cases g3 : v = 0
        · rw [if_pos g3, hb (by simp [g3])]
        · rw [if_neg g3, hn (by simp [g1, g2, g3])]
    · rw [if_neg g1, hb (by simp [g1])]
  · have hil : i = l.length := by omega
    have : okM l = true := okM_iff.2 fun j hj => hg j (by omega)
    rw [if_neg h1, this]

theorem equalMessages_eq (a b : List MsgT) (ha : a.length ≤ 1000000000) : ∃ q : Bool, sol_law0_EqualMessages (a, (b, ())) = some ((q, ()), ((), ((), ()))) ∧ (q = true ↔ a = b) := by
  unfold sol_law0_EqualMessages T_law0_EqualMessages
  simp only [brR_dec, brR_not]
  by_cases hl : a.length = b.length
  · rw [if_pos (by omega)]
    by_cases hab : a = b
    · subst hab
      refine ⟨true, bigLoop_rule (I := fun x => ∃ i : Nat, i ≤ a.length ∧ x = (a, (a, (((i : Nat) : Int), ())))) (m := fun x => (((a.length : Nat) : Int) - x.2.2.1).toNat) (g := fun _ => some ((true, ()), ((), ((), ())))) ?_
        ⟨0, by omega, rfl⟩ (by simp only [bigN_eq]; omega), by simp⟩
      rintro x again ⟨i, hi, rfl⟩ hag
      simp only at hag ⊢
      simp only [T_law0_EqualMessages_loop0, letR_eq, brR_dec, brR_inR, brR_not, Int.toNat_natCast]
      by_cases h1 : ((i : Nat) : Int) < ((a.length : Nat) : Int)
      · rw [if_pos h1, if_pos (by omega), if_pos (by omega), show ∀ (t : Ty) (z : t.den), eqD t z z = true from fun t z => eqD_iff.2 rfl, brR_true, w_i64 (by omega) (by omega)]
        exact hag _ ⟨i + 1, by omega, by rw [Int.natCast_add]; rfl⟩ (by simp only; omega)
      · rw [if_neg h1]
    · obtain ⟨k, hk, hne⟩ : ∃ k, k < a.length ∧ a.getD k zeroMsg ≠ b.getD k zeroMsg := by
        refine Classical.byContradiction fun hn => hab (ext_getD (d := zeroMsg) hl fun k hk => Classical.byContradiction fun h => hn ⟨k, hk, h⟩)
      refine ⟨false, bigLoop_rule (I := fun x => ∃ i : Nat, i ≤ k ∧ x = (a, (b, (((i : Nat) : Int), ())))) (m := fun x => (((a.length : Nat) : Int) - x.2.2.1).toNat) (g := fun _ => some ((false, ()), ((), ((), ())))) ?_
        ⟨0, by omega, rfl⟩ (by simp only [bigN_eq]; omega), by simp [hab]⟩
      rintro x again ⟨i, hi, rfl⟩ hag
      simp only at hag ⊢
      simp only [T_law0_EqualMessages_loop0, letR_eq, brR_dec, brR_inR, brR_not, Int.toNat_natCast]
      rw [if_pos (by omega), if_pos (by omega), if_pos (by omega)]
      cases he : eqD ((Go.Pon.Ty.int Go.IntKind.u64).pair ((Go.Pon.Ty.int Go.IntKind.u64).pair ((Go.Pon.Ty.arr 4 (Go.Pon.Ty.int Go.IntKind.u64)).pair Go.Pon.Ty.unit))) (a.getD i zeroMsg) (b.getD i zeroMsg) with
      | false => rw [brR_false]
      | true =>
        rw [brR_true, w_i64 (by omega) (by omega)]
        have hik : i ≠ k := fun e => hne (by rw [← e]; exact eqD_iff.1 he)
        exact hag _ ⟨i + 1, by omega, by rw [Int.natCast_add]; rfl⟩ (by simp only; omega)
  · rw [if_neg (by omega)]
    exact ⟨false, rfl, by simp; intro h; exact hl (by rw [h])⟩

/-- Root and Proof agree with the reference's, whatever the arguments. -/
theorem root_agree {l : List MsgT} (ha : AllM l) (hl : l.length ≤ 100000) (n : Int) : ∃ r f, sol_outbox_Outbox_Root (some (obOf l), (n, ())) = some ((r, (f, ())), (some (obOf l), ((), ()))) ∧ sol_ref24_Root (l, (n, ())) = some ((r, (f, ())), ((), ((), ()))) := by
  by_cases h : n < 0 ∨ (l.length : Int) < n
  · exact ⟨_, _, oRoot_out h, r24Root_out h⟩
  · obtain ⟨k, rfl⟩ := Int.eq_ofNat_of_zero_le (show 0 ≤ n by omega)
    exact ⟨_, _, oRoot_in (by omega) (by omega), r24Root_in ha hl (by omega)⟩

theorem proof_agree {l : List MsgT} (ha : AllM l) (hl : l.length ≤ 100000) (i n : Int) : ∃ p f, p.length ≤ l.length ∧ sol_outbox_Outbox_Proof (some (obOf l), (i, (n, ()))) = some ((p, (f, ())), (some (obOf l), ((), ((), ())))) ∧
    sol_ref24_Proof (l, (i, (n, ()))) = some ((p, (f, ())), ((), ((), ((), ())))) := by
  by_cases h : i < 0 ∨ n ≤ i ∨ (l.length : Int) < n
  · exact ⟨_, _, by simp, oProof_out h, r24Proof_out h⟩
  · obtain ⟨k, rfl⟩ := Int.eq_ofNat_of_zero_le (show 0 ≤ n by omega)
    obtain ⟨j, rfl⟩ := Int.eq_ofNat_of_zero_le (show 0 ≤ i by omega)
    refine ⟨_, _, ?_, oProof_in (by omega) (by omega) (by omega), r24Proof_in ha hl (by omega) (by omega)⟩
    have := (proofH_facts _ ((l.map leafM).take k) j (Nat.le_refl _) ((allH_leafM l).take k)).1
    rw [List.length_take, List.length_map] at this
    omega

theorem oSend_bad {l : List MsgT} {to : Int} {v : Nat} (h : to = 0 ∨ v = 0) : sol_outbox_Outbox_Send (some (obOf l), (to, (lim v, ()))) = some ((zeroMsg, ((2 : Int), ())), (some (obOf l), ((), ((), ())))) := by
  unfold sol_outbox_Outbox_Send T_outbox_Outbox_Send
  simp only [optR_some, brR_dec]
  by_cases h0 : to = 0
  · rw [if_pos h0]
  · rw [if_neg h0, show ([(0 : Int), (0 : Int), (0 : Int), (0 : Int)] : List Int) = lim 0 from rfl, eqD_lim, brR_dec, if_pos (by omega)]
    rfl

end Go.Pon
/-
  The laws of chapter 24.
-/
set_option autoImplicit false
set_option linter.unusedVariables false
set_option linter.unusedSimpArgs false
namespace Go.Pon
open Go

theorem obOf_eta (l : List MsgT) : (((obOf l).1, (((obOf l).2.1.1, (obOf l).2.1.2), (obOf l).2.2)) : ObT) = obOf l := rfl

/-- The outbox of a list answers as the reference does of the list. -/
theorem agree_eq {l : List MsgT} (ha : AllM l) (hl : l.length ≤ 100000) (i n : Int) (hi : -9223372036854775808 ≤ i ∧ i ≤ 9223372036854775807) :
    sol_law24_agree (obOf l, (l, (i, (n, ())))) = some ((true, ()), (obOf l, ((), ((), ((), ()))))) := by
  obtain ⟨r, f, r1, r2⟩ := root_agree ha hl n
  obtain ⟨p, g, p0, p1, p2⟩ := proof_agree ha hl i n
  obtain ⟨q, q1, q2⟩ := equalMessages_eq l l (by omega)
  have hq : q = true := q2.2 rfl
  subst hq
  have e : ∀ (t : Ty) (x : t.den), eqD t x x = true := fun t x => eqD_iff.2 rfl
  unfold sol_law24_agree T_law24_agree
  simp only [letR_eq, obOf_eta]
  by_cases h : i < 0 ∨ (l.length : Int) ≤ i
  · rw [oGet_out h]
    simp only [bind_some', optR_some, obOf_eta]
    rw [r1, r2]
    simp only [bind_some', optR_some, obOf_eta]
    rw [p1, p2]
    simp only [bind_some', optR_some, obOf_eta, equalHashes_eq p p (by omega), decide_true, brR_true, e, oLen_eq, oAll_eq hl, q1, brR_not, brR_false, brR_dec, if_true]
    have h2 : ¬ i ≥ 0 ∨ ¬ i < (l.length : Int) := by omega
    by_cases c1 : i ≥ 0
    · rw [if_pos c1, show decide (i < (l.length : Int)) = false from decide_eq_false (by omega), e, brR_true]
    · rw [if_neg c1]
  · obtain ⟨k, rfl⟩ := Int.eq_ofNat_of_zero_le (show 0 ≤ i by omega)
    rw [oGet_in (by omega)]
    simp only [bind_some', optR_some, obOf_eta]
    rw [r1, r2]
    simp only [bind_some', optR_some, obOf_eta]
    rw [p1, p2]
    simp only [bind_some', optR_some, obOf_eta, equalHashes_eq p p (by omega), decide_true, brR_true, e, oLen_eq, oAll_eq hl, q1, brR_not, brR_false, brR_dec, if_true, brR_inR, Int.toNat_natCast]
    rw [if_pos (by omega), show decide (((k : Nat) : Int) < (l.length : Int)) = true from decide_eq_true (by omega), e, brR_true, if_pos (by omega)]

theorem awake24 : sol_law24_awake () = some ((true, ()), ()) := by
  unfold sol_law24_awake T_law24_awake
  rw [oNew_eq]
  simp only [bind_some', obOf_eta]
  rw [show ([(20 : Int), (0 : Int), (0 : Int), (0 : Int)] : List Int) = lim 20 from rfl, show ([(1 : Int), (0 : Int), (0 : Int), (0 : Int)] : List Int) = lim 1 from rfl, oSend_ok (by simp) (by omega) (by omega) (by omega) (by omega)]
  simp only [bind_some', optR_some, obOf_eta]
  rw [oSend_ok (by simp) (by omega) (by omega) (by omega) (by omega)]
  simp only [bind_some', optR_some, obOf_eta]
  rw [oSend_bad (.inl rfl)]
  simp only [bind_some', optR_some, obOf_eta, oLen_eq]
  rfl

/-! ### Lists of messages -/

abbrev SendT := Int × (List Int × (Bool × Unit))

abbrev zeroSend : SendT := Go.Pon.Ty.zero ((Go.Pon.Ty.int Go.IntKind.u64).pair ((Go.Pon.Ty.arr 4 (Go.Pon.Ty.int Go.IntKind.u64)).pair (Go.Pon.Ty.bool.pair Go.Pon.Ty.unit)))

def SendW (s : SendT) : Prop := (0 ≤ s.1 ∧ s.1 ≤ 18446744073709551615) ∧ ∃ v : Nat, v < 115792089237316195423570985008687907853269984665640564039457584007913129639936 ∧ s.2.1 = lim v

def mkM (s : SendT) (i : Nat) : MsgT := ((i : Int), (1 + s.1 % 6, ([1 + List.getD s.2.1 0 0 % 1000, 0, List.getD s.2.1 1 0 % 2, 0], ())))

theorem limb_u64 {v i : Nat} (hv : v < 115792089237316195423570985008687907853269984665640564039457584007913129639936) : 0 ≤ List.getD (lim v) i 0 ∧ List.getD (lim v) i 0 ≤ 18446744073709551615 := by
  unfold lim
  match i with
  | 0 => simp only [List.getD_cons_zero]; omega
  | 1 => simp only [List.getD_cons_succ, List.getD_cons_zero]; omega
  | 2 => simp only [List.getD_cons_succ, List.getD_cons_zero]; omega
  | 3 => simp only [List.getD_cons_succ, List.getD_cons_zero]; omega
  | n + 4 => simp

theorem mkM_good {s : SendT} (h : SendW s) {i : Nat} (hi : i ≤ 1000000) : MsgW (mkM s i) ∧ goodM (mkM s i) i = true := by
  obtain ⟨h1, v, hv, h2⟩ := h
  have a0 := @limb_u64 v 0 hv
  have a1 := @limb_u64 v 1 hv
  rw [← h2] at a0 a1
  obtain ⟨w, hw, e⟩ := lim_of (a := 1 + List.getD s.2.1 0 0 % 1000) (b := 0) (c := List.getD s.2.1 1 0 % 2) (d := 0) (by omega) (by omega) (by omega) (by omega)
  have hw0 : w ≠ 0 := by
    rintro rfl
    have : (1 + List.getD s.2.1 0 0 % 1000 : Int) = 0 := congrArg (fun l => List.getD l 0 (0 : Int)) e
    omega
  unfold mkM
  rw [e]
  refine ⟨.mk (by omega) (by omega) hw, ?_⟩
  unfold goodM
  simp only [val4_lim]
  have : ¬ (1 + s.1 % 6 = 0) := by omega
  simp [this, hw0]

def AllS (l : List SendT) : Prop := ∀ s ∈ l, SendW s

/-- The valid list that the law makes. -/
def vmsgs (l : List SendT) (n : Nat) : List MsgT := (List.range n).map fun i => mkM (List.getD l i zeroSend) i

theorem len_vmsgs (l : List SendT) (n : Nat) : (vmsgs l n).length = n := by simp [vmsgs]
theorem vmsgs_succ (l : List SendT) (n : Nat) : vmsgs l (n + 1) = vmsgs l n ++ [mkM (List.getD l n zeroSend) n] := by simp [vmsgs, List.range_succ]
theorem vmsgs_getD {l : List SendT} {n i : Nat} (h : i < n) (d : MsgT) : (vmsgs l n).getD i d = mkM (List.getD l i zeroSend) i := by
  simp [vmsgs, List.getD_eq_getElem?_getD, h]

theorem vmsgs_ok {l : List SendT} (ha : AllS l) (hl : l.length ≤ 1000000) : AllM (vmsgs l l.length) ∧ okM (vmsgs l l.length) = true := by
  refine ⟨fun m hm => ?_, okM_iff.2 fun i hi => ?_⟩
  · obtain ⟨i, hi, rfl⟩ := List.mem_map.1 hm
    have hi := List.mem_range.1 hi
    exact (mkM_good (ha _ (getD_mem hi)) (by omega)).1
  · rw [len_vmsgs] at hi
    rw [vmsgs_getD hi]
    exact (mkM_good (ha _ (getD_mem hi)) (by omega)).2

theorem lawValid_eq {l : List SendT} (ha : AllS l) (hl : l.length ≤ 10000) : sol_law24_ValidMessages (l, ()) = some ((vmsgs l l.length, ()), ((), ())) := by
  unfold sol_law24_ValidMessages T_law24_ValidMessages
  refine bigLoop_rule (I := fun x => ∃ i : Nat, i ≤ l.length ∧ x = (l, (vmsgs l i, (((i : Nat) : Int), ())))) (m := fun x => (((l.length : Nat) : Int) - x.2.2.1).toNat)
    (g := fun _ => some ((vmsgs l l.length, ()), ((), ()))) ?_ ⟨0, by omega, rfl⟩ (by rw [bigN_eq]; simp only; omega)
  rintro x again ⟨i, hi, rfl⟩ hag
  simp only at hag ⊢
  unfold T_law24_ValidMessages_loop0
  simp only [letR_eq, brR_dec, brR_inR]
  by_cases h1 : ((i : Nat) : Int) < ((l.length : Nat) : Int)
  · have hil : i < l.length := by omega
    rw [if_pos h1, if_pos (by omega), if_pos (by omega), if_pos (by omega), roomyM (by rw [len_vmsgs]; omega), Int.toNat_natCast, append_def]
    have hs := ha _ (getD_mem (d := zeroSend) hil)
    have e : (((IntKind.wrap .u64 ((i : Nat) : Int)), ((IntKind.wrap .u64 ((1 : Int) + (Int.tmod (List.getD l i zeroSend).1 (6 : Int)))), ([(IntKind.wrap .u64 ((1 : Int) + (Int.tmod (List.getD (List.getD l i zeroSend).2.1 0 (0 : Int)) (1000 : Int)))), (0 : Int), (Int.tmod (List.getD (List.getD l i zeroSend).2.1 1 (0 : Int)) (2 : Int)), (0 : Int)], ()))) : MsgT) = mkM (List.getD l i zeroSend) i := by
      obtain ⟨h1, v, hv, h2⟩ := hs
      have a0 := @limb_u64 v 0 hv
      have a1 := @limb_u64 v 1 hv
      rw [← h2] at a0 a1
      rw [tmod_pos h1.1, tmod_pos a0.1, tmod_pos a1.1, w_u64 (by omega) (by omega), w_u64 (by omega) (by omega), w_u64 (by omega) (by omega)]
      rfl
    rw [show (Go.Pon.Ty.zero ((Go.Pon.Ty.int Go.IntKind.u64).pair ((Go.Pon.Ty.arr 4 (Go.Pon.Ty.int Go.IntKind.u64)).pair (Go.Pon.Ty.bool.pair Go.Pon.Ty.unit))) : SendT) = zeroSend from rfl, e, ← vmsgs_succ, w_i64 (by omega) (by omega)]
    exact hag _ ⟨i + 1, by omega, by rw [Int.natCast_add]; rfl⟩ (by simp only; omega)
  · have hil : i = l.length := by omega
    rw [if_neg h1, hil]

theorem modR24 {x : Int} {n : Nat} (h0 : -9223372036854775808 ≤ x ∧ x ≤ 9223372036854775807) (h2 : 1 ≤ n) (h3 : n ≤ 9223372036854775807) :
    ∃ r : Nat, r < n ∧ sol_law0_Mod (x, (((n : Nat) : Int), ())) = some ((((r : Nat) : Int), ()), ((), ((), ()))) := by
  rw [mod_eq h0.1 h0.2 (by omega) (by omega)]
  have hm0 : 0 ≤ (x % 18446744073709551616) % ((n : Nat) : Int) := Int.emod_nonneg _ (by omega)
  have hm1 : (x % 18446744073709551616) % ((n : Nat) : Int) < ((n : Nat) : Int) := Int.emod_lt_of_pos _ (by omega)
  obtain ⟨r, hr⟩ := Int.eq_ofNat_of_zero_le hm0
  exact ⟨r, by omega, by rw [hr]⟩

theorem law_OutboxProofs_at (s : List SendT) (i n : Int) (hs : AllS s) (hi : -9223372036854775808 ≤ i ∧ i ≤ 9223372036854775807) (hn : -9223372036854775808 ≤ n ∧ n ≤ 9223372036854775807) :
    ∃ y, sol_law24_OutboxProofs (s, (i, (n, ()))) = some y ∧ y.1.1 = true := by
  unfold sol_law24_OutboxProofs T_law24_OutboxProofs
  simp only [letR_eq]
  rw [awake24]
  simp only [brR_dec, bind_some']
  by_cases c1 : ((s.length : Nat) : Int) > 30
  · rw [if_pos c1]; exact ⟨_, rfl, rfl⟩
  rw [if_neg c1]
  by_cases c2 : ((s.length : Nat) : Int) = 0
  · rw [if_pos c2]; exact ⟨_, rfl, rfl⟩
  rw [if_neg c2, lawValid_eq hs (by omega)]
  obtain ⟨ha, hok⟩ := vmsgs_ok hs (by omega)
  have hlen := len_vmsgs s s.length
  generalize vmsgs s s.length = l at ha hok hlen ⊢
  simp only [bind_some']
  rw [oLoad_eq ha (by omega), hok]
  simp only [bind_some', if_true, optR_some, obOf_eta, brR_not, brR_dec]
  obtain ⟨r, q1, q2⟩ := modR24 (n := l.length) hn (by omega) (by omega)
  rw [q2]
  simp only [bind_some']
  have ew : IntKind.wrap .i64 ((1 : Int) + ((r : Nat) : Int)) = ((r + 1 : Nat) : Int) := by rw [w_i64 (by omega) (by omega)]; omega
  obtain ⟨a, q3, q4⟩ := modR24 (n := r + 1) hi (by omega) (by omega)
  rw [ew, q4]
  simp only [bind_some']
  rw [oRoot_in (by omega) (by omega)]
  simp only [bind_some', optR_some, obOf_eta]
  rw [oProof_in (by omega) q3 (by omega)]
  simp only [bind_some', optR_some, brR_true, brR_inR, Int.toNat_natCast]
  rw [if_pos (by omega), oLeaf_eq (ha.at (by omega) _)]
  simp only [bind_some']
  have hp := proofH_facts (r + 1) ((l.map leafM).take (r + 1)) a (by rw [List.length_take]; omega) ((allH_leafM l).take _)
  have hlt : ((l.map leafM).take (r + 1)).length = r + 1 := by rw [List.length_take, List.length_map]; omega
  rw [verify_eq (by omega) (by omega) (h32_leafM _) hp.2]
  simp only [bind_some']
  have hv : verifyH (rootH ((l.map leafM).take (r + 1))) ((r + 1 : Nat) : Int) ((a : Nat) : Int) (leafM (l.getD a zeroMsg)) (proofH ((l.map leafM).take (r + 1)) a) = true := by
    have := up_proof (r + 1) ((l.map leafM).take (r + 1)) a (by omega) (by omega)
    rw [hlt] at this
    have e : ((l.map leafM).take (r + 1)).getD a Z32 = leafM (l.getD a zeroMsg) := by
      simp only [List.getD_eq_getElem?_getD, List.getElem?_take, List.getElem?_map]
      rw [if_pos q3, List.getElem?_eq_getElem (by omega)]
      rfl
    rw [e] at this
    unfold verifyH
    rw [Int.toNat_natCast, Int.toNat_natCast, this, decide_eq_true (by omega)]
    simp
  rw [hv, brR_true]
  exact ⟨_, rfl, rfl⟩

theorem allS_wf {s : List SendT} (h : (Ty.slice (.pair (.int .u64) (.pair (.arr 4 (.int .u64)) (.pair .bool .unit)))).wf s) : AllS s := fun x hx => by
  obtain ⟨a, v, b, _⟩ := x
  obtain ⟨h1, h2, _⟩ := h.2 _ hx
  obtain ⟨n, hn, rfl⟩ := u256_wf h2
  exact ⟨inK_u64.1 h1, n, hn, rfl⟩

theorem allM_wf {s : List MsgT} (h : (Ty.slice (.pair (.int .u64) (.pair (.int .u64) (.pair (.arr 4 (.int .u64)) .unit)))).wf s) : AllM s := fun x hx => by
  obtain ⟨a, b, v, _⟩ := x
  obtain ⟨h1, h2, h3, _⟩ := h.2 _ hx
  obtain ⟨n, hn, rfl⟩ := u256_wf h3
  exact .mk (inK_u64.1 h1) (inK_u64.1 h2) hn

theorem law_OutboxProofs : ∀ x, wfL s_law24_OutboxProofs.ins x → ∃ y, sol_law24_OutboxProofs x = some y ∧ y.1.1 = true :=
  fun ⟨s, i, n, _⟩ ⟨hs, hi, hn, _⟩ => law_OutboxProofs_at s i n (allS_wf hs) (inK_i64.1 hi) (inK_i64.1 hn)

/-! ### Later messages -/

theorem take_leafM_append {l e : List MsgT} {n : Nat} (hn : n ≤ l.length) : ((l ++ e).map leafM).take n = (l.map leafM).take n := by
  rw [List.map_append, List.take_append_of_le_length (by rw [List.length_map]; omega)]

theorem AllM.append {l e : List MsgT} (h : AllM l) (h2 : AllM e) : AllM (l ++ e) := fun x hx => by
  rcases List.mem_append.1 hx with h' | h'
  · exact h x h'
  · exact h2 x h'

theorem AllM.one {m : MsgT} (h : MsgW m) : AllM [m] := fun x hx => by
  rw [List.mem_singleton.1 hx]; exact h

/-- Sending a good message. -/
theorem oSend_good {l : List MsgT} {m : MsgT} {i : Nat} (hl : l.length ≤ 100000) (hm : MsgW m) (hg : goodM m i = true) :
    ∃ x, MsgW x ∧ sol_outbox_Outbox_Send (some (obOf l), (m.2.1, (m.2.2.1, ()))) = some ((x, ((0 : Int), ())), (some (obOf (l ++ [x])), ((), ((), ())))) := by
  obtain ⟨hs, ht, hv⟩ := hm
  rename_i s t v
  unfold goodM at hg
  simp only [val4_lim, Bool.and_eq_true, decide_eq_true_eq, Bool.not_eq_true', decide_eq_false_iff_not] at hg
  exact ⟨_, .mk ⟨by omega, by omega⟩ ht hv, oSend_ok hl ht hg.2.1 hv hg.2.2⟩

theorem law_OutboxPrefixStable_at (s t : List SendT) (i n : Int) (hs : AllS s) (ht : AllS t) (hi : -9223372036854775808 ≤ i ∧ i ≤ 9223372036854775807) (hn : -9223372036854775808 ≤ n ∧ n ≤ 9223372036854775807) :
    ∃ y, sol_law24_OutboxPrefixStable (s, (t, (i, (n, ())))) = some y ∧ y.1.1 = true := by
  unfold sol_law24_OutboxPrefixStable T_law24_OutboxPrefixStable
  simp only [letR_eq]
  rw [awake24]
  simp only [brR_dec, bind_some']
  by_cases c1 : ((s.length : Nat) : Int) > 20
  · rw [if_pos c1]; exact ⟨_, rfl, rfl⟩
  rw [if_neg c1]
  by_cases c3 : ((t.length : Nat) : Int) > 20
  · rw [if_pos c3]; exact ⟨_, rfl, rfl⟩
  rw [if_neg c3]
  by_cases c2 : ((s.length : Nat) : Int) = 0
  · rw [if_pos c2]; exact ⟨_, rfl, rfl⟩
  rw [if_neg c2, lawValid_eq hs (by omega)]
  obtain ⟨ha, hok⟩ := vmsgs_ok hs (by omega)
  have hlen := len_vmsgs s s.length
  generalize vmsgs s s.length = l at ha hok hlen ⊢
  simp only [bind_some']
  rw [oLoad_eq ha (by omega), hok]
  simp only [bind_some', if_true, optR_some, obOf_eta, brR_not, brR_dec]
  obtain ⟨r, q1, q2⟩ := modR24 (n := s.length) hn (by omega) (by omega)
  rw [q2]
  simp only [bind_some']
  have ew : IntKind.wrap .i64 ((1 : Int) + ((r : Nat) : Int)) = ((r + 1 : Nat) : Int) := by rw [w_i64 (by omega) (by omega)]; omega
  obtain ⟨a, q3, q4⟩ := modR24 (n := r + 1) hi (by omega) (by omega)
  rw [ew, q4]
  simp only [bind_some']
  rw [oRoot_in (by omega) (by omega)]
  simp only [bind_some', optR_some, obOf_eta]
  rw [oProof_in (by omega) q3 (by omega)]
  simp only [bind_some', optR_some, obOf_eta]
  rw [lawValid_eq ht (by omega)]
  obtain ⟨hb, hokb⟩ := vmsgs_ok ht (by omega)
  have hlenb := len_vmsgs t t.length
  generalize vmsgs t t.length = m at hb hokb hlenb ⊢
  simp only [bind_some']
  refine ⟨_, bigLoop_rule (I := fun x => ∃ e : List MsgT, e.length ≤ m.length ∧ AllM e ∧ x = (s, (t, (obOf (l ++ e), (((r + 1 : Nat) : Int), (((a : Nat) : Int), (rootH ((l.map leafM).take (r + 1)), (proofH ((l.map leafM).take (r + 1)) a, (m, (((e.length : Nat) : Int), ()))))))))))
    (m := fun x => (((m.length : Nat) : Int) - x.2.2.2.2.2.2.2.2.1).toNat) (g := fun _ => some ((true, ()), ((), ((), ((), ((), ())))))) ?_ ⟨[], by simp, fun x hx => (by cases hx), by rw [List.append_nil]; rfl⟩ (by rw [bigN_eq]; simp only; omega), rfl⟩
  rintro x again ⟨e, he, hae, rfl⟩ hag
  simp only at hag ⊢
  unfold T_law24_OutboxPrefixStable_loop0
  simp only [letR_eq, brR_dec, brR_inR]
  by_cases h1 : ((e.length : Nat) : Int) < ((m.length : Nat) : Int)
  · have hil : e.length < m.length := by omega
    rw [if_pos h1, if_pos (by omega), if_pos (by omega), Int.toNat_natCast]
    obtain ⟨x, hx, e1⟩ := oSend_good (l := l ++ e) (by rw [List.length_append]; omega) (hb.at hil zeroMsg) (okM_iff.1 hokb _ hil)
    rw [show (Go.Pon.Ty.zero ((Go.Pon.Ty.int Go.IntKind.u64).pair ((Go.Pon.Ty.int Go.IntKind.u64).pair ((Go.Pon.Ty.arr 4 (Go.Pon.Ty.int Go.IntKind.u64)).pair Go.Pon.Ty.unit))) : MsgT) = zeroMsg from rfl, obOf_eta, e1]
    simp only [bind_some', optR_some, obOf_eta]
    rw [w_i64 (by omega) (by omega), List.append_assoc]
    exact hag _ ⟨e ++ [x], by rw [List.length_append, List.length_singleton]; omega, hae.append (AllM.one hx), by rw [List.length_append, List.length_singleton, Int.natCast_add]; rfl⟩ (by simp only; omega)
  · rw [if_neg h1, obOf_eta, oRoot_in (by rw [List.length_append]; omega) (by rw [List.length_append]; omega), take_leafM_append (by omega)]
    simp only [bind_some', optR_some, obOf_eta]
    rw [oProof_in (by rw [List.length_append]; omega) q3 (by rw [List.length_append]; omega), take_leafM_append (by omega)]
    have hp := (proofH_facts _ ((l.map leafM).take (r + 1)) a (Nat.le_refl _) ((allH_leafM l).take _)).1
    rw [List.length_take, List.length_map] at hp
    simp only [bind_some', optR_some, obOf_eta, brR_true]
    rw [show ∀ (t : Ty) (z : t.den), eqD t z z = true from fun t z => eqD_iff.2 rfl, brR_true, equalHashes_eq _ _ (by omega), decide_eq_true rfl]
    simp only [bind_some', brR_true]
    rw [oLen_eq]
    simp only [bind_some', optR_some]
    rw [if_pos (by rw [w_i64 (by omega) (by omega), List.length_append]; omega), awake24]
    rfl

theorem law_OutboxPrefixStable : ∀ x, wfL s_law24_OutboxPrefixStable.ins x → ∃ y, sol_law24_OutboxPrefixStable x = some y ∧ y.1.1 = true :=
  fun ⟨s, t, i, n, _⟩ ⟨hs, ht, hi, hn, _⟩ => law_OutboxPrefixStable_at s t i n (allS_wf hs) (allS_wf ht) (inK_i64.1 hi) (inK_i64.1 hn)

theorem law_OutboxCalls_at (l : List SendT) (i n : Int) (hs : AllS l) (hi : -9223372036854775808 ≤ i ∧ i ≤ 9223372036854775807) (hn : -9223372036854775808 ≤ n ∧ n ≤ 9223372036854775807) :
    ∃ y, sol_law24_OutboxCalls (l, (i, (n, ()))) = some y ∧ y.1.1 = true := by
  have erfl : ∀ (t : Ty) (z : t.den), eqD t z z = true := fun t z => eqD_iff.2 rfl
  have hz : (((0 : Int), ((0 : Int), (lim 0, ()))) : MsgT) = zeroMsg := rfl
  unfold sol_law24_OutboxCalls T_law24_OutboxCalls
  rw [awake24]
  simp only [brR_dec, bind_some']
  by_cases c1 : ((l.length : Nat) : Int) > 30
  · rw [if_pos c1]; exact ⟨_, rfl, rfl⟩
  rw [if_neg c1, oNew_eq]
  simp only [bind_some', obOf_eta]
  refine ⟨_, bigLoop_rule (I := fun x => ∃ (k : Nat) (m : List MsgT), k ≤ l.length ∧ m.length ≤ k ∧ AllM m ∧ x = (l, (i, (n, (obOf m, (m, (((k : Nat) : Int), ())))))))
    (m := fun x => (((l.length : Nat) : Int) - x.2.2.2.2.2.1).toNat) (g := fun _ => some ((true, ()), ((), ((), ((), ()))))) ?_ ⟨0, [], by omega, by simp, fun x hx => (by cases hx), rfl⟩ (by rw [bigN_eq]; simp only; omega), rfl⟩
  rintro x again ⟨k, m, hk, hmk, hm, rfl⟩ hag
  simp only at hag ⊢
  unfold T_law24_OutboxCalls_loop0
  simp only [letR_eq, brR_dec, brR_inR]
  by_cases h1 : ((k : Nat) : Int) < ((l.length : Nat) : Int)
  · have hil : k < l.length := by omega
    rw [if_pos h1, if_pos (by omega), if_pos (by omega), if_pos (by omega), Int.toNat_natCast]
    rw [show (Go.Pon.Ty.zero ((Go.Pon.Ty.int Go.IntKind.u64).pair ((Go.Pon.Ty.arr 4 (Go.Pon.Ty.int Go.IntKind.u64)).pair (Go.Pon.Ty.bool.pair Go.Pon.Ty.unit))) : SendT) = zeroSend from rfl, obOf_eta]
    have hsk := hs _ (getD_mem (d := zeroSend) hil)
    generalize List.getD l k zeroSend = q at hsk ⊢
    obtain ⟨ht, v, hv, hqv⟩ := hsk
    rw [show ([(0 : Int), (0 : Int), (0 : Int), (0 : Int)] : List Int) = lim 0 from rfl]
    cases q.2.2.1 with
    | true =>
      rw [brR_true]
      have a0 := @limb_u64 v 0 hv
      rw [← hqv] at a0
      rw [tmod_pos ht.1, tmod_pos a0.1]
      obtain ⟨v', hv', e'⟩ := lim_of (a := List.getD q.2.1 0 0 % 3) (b := 0) (c := 0) (d := 0) (by omega) (by omega) (by omega) (by omega)
      rw [e']
      clear hqv a0 e'
      have ht' : 0 ≤ q.1 % 3 ∧ q.1 % 3 ≤ 18446744073709551615 := by omega
      clear ht
      generalize q.1 % 3 = to at ht' ⊢
      by_cases h0 : to = 0 ∨ v' = 0
      · rw [oSend_bad h0]
        simp only [bind_some', optR_some, obOf_eta, brR_dec, brR_not, if_true, hz, erfl, brR_true]
        rw [eqD_lim, brR_dec]
        have hn := hag (l, (i, (n, (obOf m, (m, (((k : Nat) : Int) + 1, ())))))) ⟨k + 1, m, by omega, by omega, hm, by rw [Int.natCast_add]; rfl⟩ (by simp only; omega)
        rw [w_i64 (by omega) (by omega), hn]
        by_cases g : to = 0
        · rw [if_pos g]
        · rw [if_neg g, if_pos (by omega)]
      · have hw : MsgW (((m.length : Nat) : Int), (to, (lim v', ()))) := .mk ⟨by omega, by omega⟩ ht' hv'
        rw [oSend_ok (by omega) ht' (by omega) hv' (by omega)]
        simp only [bind_some', optR_some, obOf_eta, brR_dec, brR_not, if_true]
        rw [if_neg (by omega), eqD_lim, brR_dec, if_neg (by omega), roomyM (by omega), w_u64 (by omega) (by omega), erfl, brR_true, oEncode_eq hw]
        simp only [bind_some']
        rw [rEncodeM_eq hw]
        simp only [bind_some']
        rw [equalBytes_eq, decide_eq_true rfl]
        simp only [bind_some', brR_true]
        rw [oLeaf_eq hw]
        simp only [bind_some']
        rw [rLeafM_eq hw]
        simp only [bind_some', append_def]
        rw [erfl, brR_true, w_i64 (by omega) (by omega)]
        exact hag _ ⟨k + 1, m ++ [(((m.length : Nat) : Int), (to, (lim v', ())))], by omega, by rw [List.length_append, List.length_singleton]; omega, hm.append (AllM.one hw), by rw [Int.natCast_add]; rfl⟩ (by simp only; omega)
    | false =>
      rw [brR_false, hqv]
      clear hqv
      generalize q.1 = to at ht ⊢
      by_cases h0 : to = 0 ∨ v = 0
      · rw [oSend_bad h0]
        simp only [bind_some', optR_some, obOf_eta, brR_dec, brR_not, if_true, hz, erfl, brR_true]
        rw [eqD_lim, brR_dec]
        have hn := hag (l, (i, (n, (obOf m, (m, (((k : Nat) : Int) + 1, ())))))) ⟨k + 1, m, by omega, by omega, hm, by rw [Int.natCast_add]; rfl⟩ (by simp only; omega)
        rw [w_i64 (by omega) (by omega), hn]
        by_cases g : to = 0
        · rw [if_pos g]
        · rw [if_neg g, if_pos (by omega)]
      · have hw : MsgW (((m.length : Nat) : Int), (to, (lim v, ()))) := .mk ⟨by omega, by omega⟩ ht hv
        rw [oSend_ok (by omega) ht (by omega) hv (by omega)]
        simp only [bind_some', optR_some, obOf_eta, brR_dec, brR_not, if_true]
        rw [if_neg (by omega), eqD_lim, brR_dec, if_neg (by omega), roomyM (by omega), w_u64 (by omega) (by omega), erfl, brR_true, oEncode_eq hw]
        simp only [bind_some']
        rw [rEncodeM_eq hw]
        simp only [bind_some']
        rw [equalBytes_eq, decide_eq_true rfl]
        simp only [bind_some', brR_true]
        rw [oLeaf_eq hw]
        simp only [bind_some']
        rw [rLeafM_eq hw]
        simp only [bind_some', append_def]
        rw [erfl, brR_true, w_i64 (by omega) (by omega)]
        exact hag _ ⟨k + 1, m ++ [(((m.length : Nat) : Int), (to, (lim v, ())))], by omega, by rw [List.length_append, List.length_singleton]; omega, hm.append (AllM.one hw), by rw [Int.natCast_add]; rfl⟩ (by simp only; omega)
  · rw [if_neg h1, obOf_eta, agree_eq hm (by omega) i n hi]
    simp only [bind_some', brR_true, obOf_eta]
    obtain ⟨a, q1, q2⟩ := modR24 (n := m.length + 1) hi (by omega) (by omega)
    obtain ⟨b, q3, q4⟩ := modR24 (n := m.length + 1) hn (by omega) (by omega)
    rw [w_i64 (by omega) (by omega), show ((m.length : Nat) : Int) + 1 = ((m.length + 1 : Nat) : Int) by omega, q2]
    simp only [bind_some']
    rw [q4]
    simp only [bind_some']
    rw [agree_eq hm (by omega) _ _ (by omega)]
    simp only [bind_some', brR_true, awake24]

theorem law_OutboxCalls : ∀ x, wfL s_law24_OutboxCalls.ins x → ∃ y, sol_law24_OutboxCalls x = some y ∧ y.1.1 = true :=
  fun ⟨s, i, n, _⟩ ⟨hs, hi, hn, _⟩ => law_OutboxCalls_at s i n (allS_wf hs) (inK_i64.1 hi) (inK_i64.1 hn)

/-! ### Loading -/

theorem loadLoop_eq {a b : List MsgT} (ha : AllM a) (hb : AllM b) (hal : a.length ≤ 1000) (hbl : b.length ≤ 1000) :
    bigLoop _ _ (fun again x => T_law24_OutboxLoad_loop0 sol_outbox_Load sol_ref24_ValidMessages sol_outbox_Outbox_Send sol_outbox_Outbox_Len sol_outbox_Outbox_All sol_law0_EqualMessages sol_law24_awake again x.1 x.2.1) ([a, b], ((0 : Int), ())) =
      some ((true, ()), ((), ((), ((), ((), ()))))) := by
  have erfl : ∀ (t : Ty) (z : t.den), eqD t z z = true := fun t z => eqD_iff.2 rfl
  refine bigLoop_rule (I := fun x => ∃ j : Nat, j ≤ 2 ∧ x = ([a, b], (((j : Nat) : Int), ())))
    (m := fun x => ((2 : Int) - x.2.1).toNat) (g := fun _ => some ((true, ()), ((), ((), ((), ((), ())))))) ?_ ⟨0, by omega, rfl⟩ (by rw [bigN_eq]; simp only; omega)
  rintro x again ⟨j, hj, rfl⟩ hag
  simp only at hag ⊢
  unfold T_law24_OutboxLoad_loop0
  simp only [letR_eq, brR_inR]
  by_cases h1 : ((j : Nat) : Int) < 2
  · rw [decide_eq_true h1, brR_true, if_pos (by omega), Int.toNat_natCast]
    have hc : AllM (List.getD [a, b] j []) ∧ (List.getD [a, b] j []).length ≤ 1000 := by
      match j, h1 with
      | 0, _ => exact ⟨ha, hal⟩
      | 1, _ => exact ⟨hb, hbl⟩
    have hn := hag ([a, b], (((j : Nat) : Int) + 1, ())) ⟨j + 1, by omega, by rw [Int.natCast_add]; rfl⟩ (by simp only; omega)
    rw [show IntKind.wrap .i64 (((j : Nat) : Int) + 1) = ((j : Nat) : Int) + 1 from w_i64 (by omega) (by omega), hn]
    generalize List.getD [a, b] j [] = c at hc ⊢
    obtain ⟨hc, hcl⟩ := hc
    rw [oLoad_eq hc (by omega), rValid_eq hc (by omega)]
    simp only [bind_some']
    cases h : okM c with
    | false =>
      simp only [Bool.false_eq_true, if_false, optR_none, show decide ((2 : Int) = 0) = false from rfl, show decide ((2 : Int) = 2) = true from rfl, Bool.not_false, Bool.not_true, erfl, brR_true, brR_false, decide_true]
    | true =>
      simp only [if_true, optR_some, obOf_eta]
      rw [show ([(4 : Int), (0 : Int), (0 : Int), (0 : Int)] : List Int) = lim 4 from rfl, oSend_ok (by omega) (by omega) (by omega) (by omega) (by omega)]
      have hlen : (c ++ [(((c.length : Nat) : Int), ((9 : Int), (lim 4, ())))]).length = c.length + 1 := by simp
      obtain ⟨q, q1, q2⟩ := equalMessages_eq c c (by omega)
      have hq : q = true := q2.2 rfl
      subst hq
      simp only [bind_some', optR_some, obOf_eta, oLen_eq, hlen]
      rw [oAll_eq (by omega)]
      simp only [bind_some', optR_some, obOf_eta, hlen, show decide ((0 : Int) = 0) = true from rfl, Bool.not_false, Bool.not_true, erfl, brR_true, brR_false]
      rw [w_u64 (by omega) (by omega), decide_eq_true rfl, w_i64 (by omega) (by omega), decide_eq_true (show ((c.length + 1 : Nat) : Int) = ((c.length : Nat) : Int) + 1 by omega), decide_eq_true (show (0 : Int) ≤ ((c.length : Nat) : Int) by omega), decide_eq_true (show ((c.length : Nat) : Int) ≤ ((c.length + 1 : Nat) : Int) by omega)]
      simp only [Bool.not_true, Bool.and_true, brR_true, brR_false, List.drop_zero, Nat.sub_zero, Int.toNat_natCast]
      rw [List.take_left, q1]
      rfl
  · rw [decide_eq_false h1, brR_false, awake24]
    rfl

theorem AllM.set {l : List MsgT} (h : AllM l) (k : Nat) {m : MsgT} (hm : MsgW m) : AllM (List.set l k m) := fun x hx => by
  rcases List.mem_or_eq_of_mem_set hx with h' | h'
  · exact h x h'
  · rw [h']; exact hm

theorem law_OutboxLoad_at (l : List MsgT) (s : List SendT) (i n : Int) (hl : AllM l) (hs : AllS s) (hi : -9223372036854775808 ≤ i ∧ i ≤ 9223372036854775807) (hn : -9223372036854775808 ≤ n ∧ n ≤ 9223372036854775807) :
    ∃ y, sol_law24_OutboxLoad (l, (s, (i, (n, ())))) = some y ∧ y.1.1 = true := by
  refine ⟨((true, ()), ((), ((), ((), ((), ()))))), ?_, rfl⟩
  unfold sol_law24_OutboxLoad T_law24_OutboxLoad
  rw [awake24]
  simp only [letR_eq, brR_dec, bind_some']
  by_cases c1 : ((l.length : Nat) : Int) > 30
  · rw [if_pos c1]
  rw [if_neg c1]
  by_cases c3 : ((s.length : Nat) : Int) > 30
  · rw [if_pos c3]
  rw [if_neg c3, lawValid_eq hs (by omega)]
  obtain ⟨ha, hok⟩ := vmsgs_ok hs (by omega)
  have hlen := len_vmsgs s s.length
  generalize vmsgs s s.length = m at ha hok hlen ⊢
  simp only [bind_some']
  by_cases c4 : ((m.length : Nat) : Int) > 0
  · rw [if_pos c4]
    obtain ⟨r, q1, q2⟩ := modR24 (n := m.length) hi (by omega) (by omega)
    obtain ⟨a, q3, q4⟩ := modR24 (n := 4) hn (by omega) (by omega)
    rw [q2]
    simp only [bind_some']
    rw [show ((4 : Int), ()) = ((((4 : Nat) : Int)), ()) from rfl, q4]
    simp only [bind_some', brR_inR, Int.toNat_natCast]
    rw [show (Go.Pon.Ty.zero ((Go.Pon.Ty.int Go.IntKind.u64).pair ((Go.Pon.Ty.int Go.IntKind.u64).pair ((Go.Pon.Ty.arr 4 (Go.Pon.Ty.int Go.IntKind.u64)).pair Go.Pon.Ty.unit))) : MsgT) = zeroMsg from rfl]
    have hm := ha.at q1 zeroMsg
    generalize m.getD r zeroMsg = z at hm ⊢
    obtain ⟨h1, h2, hv⟩ := hm
    rename_i s' t' v
    simp only
    by_cases d0 : ((a : Nat) : Int) = 0
    · rw [if_pos d0, if_pos (by omega), if_pos (by omega)]
      refine loadLoop_eq hl (ha.set r (.mk ?_ h2 hv)) (by omega) (by rw [List.length_set]; omega)
      rw [IntKind.wrap_u64]; omega
    rw [if_neg d0]
    by_cases d1 : ((a : Nat) : Int) = 1
    · rw [if_pos d1, if_pos (by omega)]
      exact loadLoop_eq hl (ha.set r (.mk h1 (by omega) hv)) (by omega) (by rw [List.length_set]; omega)
    rw [if_neg d1]
    by_cases d2 : ((a : Nat) : Int) = 2
    · rw [if_pos d2, if_pos (by omega)]
      exact loadLoop_eq hl (ha.set r (.mk (v := 0) h1 h2 (by omega))) (by omega) (by rw [List.length_set]; omega)
    rw [if_neg d2]
    exact loadLoop_eq hl ha (by omega) (by omega)
  · rw [if_neg c4]
    exact loadLoop_eq hl ha (by omega) (by omega)

theorem law_OutboxLoad : ∀ x, wfL s_law24_OutboxLoad.ins x → ∃ y, sol_law24_OutboxLoad x = some y ∧ y.1.1 = true :=
  fun ⟨l, s, i, n, _⟩ ⟨hl, hs, hi, hn, _⟩ => law_OutboxLoad_at l s i n (allM_wf hl) (allS_wf hs) (inK_i64.1 hi) (inK_i64.1 hn)

/-! ### Copies, and no outbox -/

theorem oCopy_eq {l : List MsgT} (ha : AllM l) (hl : l.length ≤ 100000) : sol_outbox_Outbox_Copy (some (obOf l), ()) = some ((some (obOf l), ()), (some (obOf l), ())) := by
  unfold sol_outbox_Outbox_Copy T_outbox_Outbox_Copy
  rw [oNew_eq]
  simp only [optR_some, bind_some', obOf_eta]
  refine bigLoop_rule (I := fun x => ∃ i : Nat, i ≤ l.length ∧ x = (obOf (l.take i), (((l.length : Nat) : Int), (((i : Nat) : Int), (obOf l, ()))))) (m := fun x => (((l.length : Nat) : Int) - x.2.2.1).toNat)
    (g := fun _ => some ((some (obOf l), ()), (some (obOf l), ()))) ?_ ⟨0, by omega, rfl⟩ (by rw [bigN_eq]; simp only [obOf]; omega)
  rintro x again ⟨i, hi, rfl⟩ hag
  simp only at hag ⊢
  unfold T_outbox_Outbox_Copy_loop0
  simp only [brR_dec, brR_inR]
  rw [show (obOf l).1 = l from rfl]
  by_cases h1 : ((i : Nat) : Int) < ((l.length : Nat) : Int)
  · have hil : i < l.length := by omega
    rw [if_pos h1, if_pos (by omega), Int.toNat_natCast]
    rw [show (((obOf (l.take i)).1, (((obOf (l.take i)).2.1.1, (obOf (l.take i)).2.1.2), (obOf (l.take i)).2.2)) : ObT) = obOf (l.take i) from rfl, push_eq (by rw [List.length_take]; omega) (ha.at hil _)]
    simp only [bind_some']
    rw [← take_succ' hil, w_i64 (by omega) (by omega)]
    exact hag (obOf (l.take (i + 1)), (((l.length : Nat) : Int), (((i : Nat) : Int) + 1, (obOf l, ())))) ⟨i + 1, by omega, by rw [Int.natCast_add]; rfl⟩ (by simp only; omega)
  · have hil : i = l.length := by omega
    rw [if_neg h1, hil, List.take_length]
    rfl

theorem oSend_nil (to : Int) (v : List Int) : sol_outbox_Outbox_Send (none, (to, (v, ()))) = some ((zeroMsg, ((1 : Int), ())), (none, ((), ((), ())))) := rfl
theorem oGet_nil (i : Int) (h : -9223372036854775808 ≤ i ∧ i ≤ 9223372036854775807) : sol_outbox_Outbox_Get (none, (i, ())) = some ((zeroMsg, (false, ())), (none, ((), ()))) := by
  unfold sol_outbox_Outbox_Get T_outbox_Outbox_Get
  rw [oLen_nil]
  simp only [optR_none, bind_some', brR_dec]
  by_cases h1 : i < 0
  · rw [if_pos h1]
  · rw [if_neg h1, if_pos (by omega)]
theorem oRoot_nil (i : Int) : sol_outbox_Outbox_Root (none, (i, ())) = some ((Z32, (false, ())), (none, ((), ()))) := rfl
theorem oProof_nil (i n : Int) : sol_outbox_Outbox_Proof (none, (i, (n, ()))) = some (([], (false, ())), (none, ((), ((), ())))) := rfl
theorem oAll_nil : sol_outbox_Outbox_All (none, ()) = some (([], ()), (none, ())) := rfl
theorem oCopy_nil : sol_outbox_Outbox_Copy (none, ()) = some ((none, ()), (none, ())) := rfl

theorem law_OutboxIndependence_at (s : List SendT) (to : Int) (v : List Int) (i : Int) (hs : AllS s) (hi : -9223372036854775808 ≤ i ∧ i ≤ 9223372036854775807) :
    ∃ y, sol_law24_OutboxIndependence (s, (to, (v, (i, ())))) = some y ∧ y.1.1 = true := by
  refine ⟨((true, ()), ((), ((), ((), ((), ()))))), ?_, rfl⟩
  unfold sol_law24_OutboxIndependence T_law24_OutboxIndependence
  rw [awake24]
  simp only [letR_eq, brR_dec, bind_some']
  by_cases c1 : ((s.length : Nat) : Int) > 20
  · rw [if_pos c1]
  rw [if_neg c1, lawValid_eq hs (by omega)]
  obtain ⟨ha, hok⟩ := vmsgs_ok hs (by omega)
  have hlen := len_vmsgs s s.length
  have h99 : (List.getD (vmsgs s s.length ++ [((((vmsgs s s.length).length : Nat) : Int), ((5 : Int), (lim 6, ())))]) 0 zeroMsg).2.1 ≠ 99 := by
    cases s with
    | nil => simp [vmsgs]
    | cons a t =>
      rw [List.getD_eq_getElem?_getD, List.getElem?_append_left (by rw [hlen]; simp), ← List.getD_eq_getElem?_getD, vmsgs_getD (by simp)]
      have := (hs a (by simp)).1
      simp only [mkM, List.getD_cons_zero]
      omega
  generalize vmsgs s s.length = m at ha hok hlen h99 ⊢
  have hl2 : (m ++ [(((m.length : Nat) : Int), ((5 : Int), (lim 6, ())))]).length = m.length + 1 := by simp
  obtain ⟨q, q1, q2⟩ := equalMessages_eq m m (by omega)
  have hq : q = true := q2.2 rfl
  subst hq
  simp only [bind_some']
  rw [oLoad_eq ha (by omega), hok]
  simp only [bind_some', if_true, optR_some, obOf_eta]
  rw [oCopy_eq ha (by omega)]
  simp only [bind_some', optR_some, obOf_eta]
  rw [show ([(6 : Int), (0 : Int), (0 : Int), (0 : Int)] : List Int) = lim 6 from rfl, oSend_ok (by omega) (by omega) (by omega) (by omega) (by omega)]
  simp only [bind_some', optR_some, obOf_eta]
  rw [oAll_eq (by omega)]
  simp only [bind_some', optR_some, obOf_eta, oSend_nil, oGet_nil i hi, oRoot_nil, oProof_nil, oAll_nil, oCopy_nil, oLen_nil, optR_none]
  rw [oAll_eq (by omega)]
  simp only [bind_some', optR_some, obOf_eta, q1, brR_true, oLen_eq, if_true]
  rw [w_i64 (by omega) (by omega), hl2, if_pos (by omega)]
  rw [show (Go.Pon.Ty.zero ((Go.Pon.Ty.int Go.IntKind.u64).pair ((Go.Pon.Ty.int Go.IntKind.u64).pair ((Go.Pon.Ty.arr 4 (Go.Pon.Ty.int Go.IntKind.u64)).pair Go.Pon.Ty.unit))) : MsgT) = zeroMsg from rfl]
  rw [brR_inR, if_pos (by omega), oAll_eq (by omega)]
  simp only [bind_some', optR_some]
  rw [decide_eq_false h99, hl2, brR_inR, if_pos (by omega)]
  rfl

theorem law_OutboxIndependence : ∀ x, wfL s_law24_OutboxIndependence.ins x → ∃ y, sol_law24_OutboxIndependence x = some y ∧ y.1.1 = true :=
  fun ⟨s, to, v, i, _⟩ ⟨hs, _, _, hi, _⟩ => law_OutboxIndependence_at s to v i (allS_wf hs) (inK_i64.1 hi)

end Go.Pon
