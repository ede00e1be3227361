/-
  Part of a proof: general lemmas, merged by a program of this work.
-/
import Derived.Test.YtjnjdkefncdlpaaPEscrowConservation1
set_option autoImplicit false
set_option linter.unusedVariables false
set_option linter.unusedSimpArgs false
set_option maxRecDepth 4000
namespace Go.Pon
open Go
theorem right_eq (x n : Nat) (h1 : 1 ≤ n) (h2 : n ≤ 31) : sol_ref7_right (((x : Nat) : Int), (((n : Nat) : Int), ())) = some ((((rotr x n : Nat) : Int), ()), ((), ((), ()))) := by
  unfold sol_ref7_right T_ref7_right
  simp only [letR_eq]
  rw [show (32 : Int) - ((n : Nat) : Int) = ((32 - n : Nat) : Int) by omega, w_u64 (by omega) (by omega), brR_dec, if_pos (by omega), brR_dec, if_pos (by omega)]
  simp only [Int.toNat_natCast]
  have p : ∀ k : Nat, (2 : Int) ^ k = ((2 ^ k : Nat) : Int) := fun k => by rw [Int.natCast_pow]; rfl
  rw [Nat.min_eq_left (by omega), Nat.min_eq_left (by omega), p, p, m32, d32, o32, or32_comm]
  rfl
theorem rr7 (x : Nat) : sol_ref7_right (((x : Nat) : Int), ((7 : Int), ())) = some ((((rotr x 7 : Nat) : Int), ()), ((), ((), ()))) := right_eq x 7 (by omega) (by omega)
theorem rr18 (x : Nat) : sol_ref7_right (((x : Nat) : Int), ((18 : Int), ())) = some ((((rotr x 18 : Nat) : Int), ()), ((), ((), ()))) := right_eq x 18 (by omega) (by omega)
theorem rr17 (x : Nat) : sol_ref7_right (((x : Nat) : Int), ((17 : Int), ())) = some ((((rotr x 17 : Nat) : Int), ()), ((), ((), ()))) := right_eq x 17 (by omega) (by omega)
theorem rr19 (x : Nat) : sol_ref7_right (((x : Nat) : Int), ((19 : Int), ())) = some ((((rotr x 19 : Nat) : Int), ()), ((), ((), ()))) := right_eq x 19 (by omega) (by omega)
theorem rr6 (x : Nat) : sol_ref7_right (((x : Nat) : Int), ((6 : Int), ())) = some ((((rotr x 6 : Nat) : Int), ()), ((), ((), ()))) := right_eq x 6 (by omega) (by omega)
theorem rr11 (x : Nat) : sol_ref7_right (((x : Nat) : Int), ((11 : Int), ())) = some ((((rotr x 11 : Nat) : Int), ()), ((), ((), ()))) := right_eq x 11 (by omega) (by omega)
theorem rr25 (x : Nat) : sol_ref7_right (((x : Nat) : Int), ((25 : Int), ())) = some ((((rotr x 25 : Nat) : Int), ()), ((), ((), ()))) := right_eq x 25 (by omega) (by omega)
theorem rr2 (x : Nat) : sol_ref7_right (((x : Nat) : Int), ((2 : Int), ())) = some ((((rotr x 2 : Nat) : Int), ()), ((), ((), ()))) := right_eq x 2 (by omega) (by omega)
theorem rr13 (x : Nat) : sol_ref7_right (((x : Nat) : Int), ((13 : Int), ())) = some ((((rotr x 13 : Nat) : Int), ()), ((), ((), ()))) := right_eq x 13 (by omega) (by omega)
theorem rr22 (x : Nat) : sol_ref7_right (((x : Nat) : Int), ((22 : Int), ())) = some ((((rotr x 22 : Nat) : Int), ()), ((), ((), ()))) := right_eq x 22 (by omega) (by omega)
theorem word_add {p q r s : Int} (hp : 0 ≤ p ∧ p ≤ 255) (hq : 0 ≤ q ∧ q ≤ 255) (hr : 0 ≤ r ∧ r ≤ 255) (hs : 0 ≤ s ∧ s ≤ 255) :
    IntKind.wrap .u32 (IntKind.wrap .u32 (IntKind.wrap .u32 (IntKind.wrap .u32 (IntKind.wrap .u32 p * 16777216) + IntKind.wrap .u32 (IntKind.wrap .u32 q * 65536)) + IntKind.wrap .u32 (IntKind.wrap .u32 r * 256)) + IntKind.wrap .u32 s) =
      ((p.toNat * 16777216 + q.toNat * 65536 + r.toNat * 256 + s.toNat : Nat) : Int) := by
  simp only [IntKind.wrap_u32]; omega
theorem words_eq : sol_ref7_words () = some ((castL kTab, ()), ()) := by
  unfold sol_ref7_words T_ref7_words; rfl
theorem block_third {s : List Nat} (hs : s.length = 8) (W : List Nat) (t2 : List Int) : bigLoop _ _ (fun again x => T_ref7_block_loop2 again x.1 x.2.1 x.2.2.1 x.2.2.2.1) (castL s, (t2, (castL (rounds (W) s 64), ((0 : Int), ())))) = some ((castL (addL (rounds W s 64) s 8), ()), ((), ((), ()))) := by
  refine bigLoop_rule (I := fun x => x.1 = castL s ∧ (0 : Int) ≤ x.2.2.2.1 ∧ x.2.2.2.1 ≤ (8 : Int) ∧ x.2.2.1 = castL (addL (rounds (W) s 64) s x.2.2.2.1.toNat)) (m := fun x => ((8 : Int) - x.2.2.2.1).toNat) (g := fun _ => some ((castL (addL (rounds W s 64) s 8), ()), ((), ((), ())))) ?_
    ⟨rfl, by simp only; omega, by simp only; omega, by simp only; rw [show (0 : Int).toNat = 0 from rfl, addL_zero (len_rounds hs 64)]⟩ (by simp only [bigN_eq]; omega)
  rintro ⟨s', t', t, i, _⟩ again ⟨e0, e1, e2, e3⟩ hag
  simp only at e0 e1 e2 e3 hag ⊢
  subst e0 e3
  obtain ⟨i, rfl⟩ := Int.eq_ofNat_of_zero_le e1
  simp only [T_ref7_block_loop2, letR_eq, brR_dec, brR_inR, Int.toNat_natCast]
  by_cases hi : i < 8
  · rw [if_pos (by omega), if_pos (by omega), if_pos (by omega), if_pos (by omega), castL_getD, castL_getD, a32, addL_getD hi, addL_set hi, w_i64 (by omega) (by omega)]
    exact hag _ ⟨rfl, by simp only; omega, by simp only; omega, by simp only; rw [show ((i : Int) + 1).toNat = i + 1 by omega]⟩ (by simp only; omega)
  · have : i = 8 := by omega
    subst this
    rw [if_neg (by omega)]
set_option maxHeartbeats 1000000 in
theorem block_second {s : List Nat} (hs : s.length = 8) (W : List Nat) (t2 : List Int) : bigLoop _ _ (fun again x => T_ref7_block_loop1 bigLoop sol_ref7_right again x.1 x.2.1 x.2.2.1 x.2.2.2.1 x.2.2.2.2.1 x.2.2.2.2.2.1) (castL s, (t2, (castL kTab, (castL (W), (castL s, ((0 : Int), ())))))) = some ((castL (addL (rounds W s 64) s 8), ()), ((), ((), ()))) := by
  refine bigLoop_rule (I := fun x => x.1 = castL s ∧ x.2.2.1 = castL kTab ∧ x.2.2.2.1 = castL (W) ∧ (0 : Int) ≤ x.2.2.2.2.2.1 ∧ x.2.2.2.2.2.1 ≤ (64 : Int) ∧ x.2.2.2.2.1 = castL (rounds (W) s x.2.2.2.2.2.1.toNat)) (m := fun x => ((64 : Int) - x.2.2.2.2.2.1).toNat) (g := fun _ => some ((castL (addL (rounds W s 64) s 8), ()), ((), ((), ())))) ?_
    ⟨rfl, rfl, rfl, by simp only; omega, by simp only; omega, rfl⟩ (by simp only [bigN_eq]; omega)
  rintro ⟨s', t', k', w', t, i, _⟩ again ⟨e0, e1, e2, e3, e4, e5⟩ hag
  simp only at e0 e1 e2 e3 e4 e5 hag ⊢
  subst e0 e1 e2 e5
  obtain ⟨i, rfl⟩ := Int.eq_ofNat_of_zero_le e3
  simp only [T_ref7_block_loop1, letR_eq, brR_dec, brR_inR, Int.toNat_natCast]
  by_cases hi : i < 64
  · have hin : (0 : Int) ≤ (i : Int) ∧ (i : Int) < ((64 : Nat) : Int) := by omega
    rw [if_pos (by omega)]
    simp only [castL_getD, rr6, rr11, rr25, rr2, rr13, rr22, bind_some', if_pos hin]
    rw [w_i64 (by omega) (by omega)]
    simp only [not32, x32, n32, a32]
    refine (congrArg again ?_).trans (hag (castL s, (t', (castL kTab, (castL (W), (castL (rounds (W) s (i + 1)), (((i : Int) + 1), ())))))) ⟨rfl, rfl, rfl, by simp only; omega, by simp only; omega, by simp only; rw [show ((i : Int) + 1).toNat = i + 1 by omega]⟩ (by simp only; omega))
    rw [rounds, rnd]
    simp only [castL, List.map_cons, List.map_nil, add32_assoc]
    rfl
  · have : i = 64 := by omega
    subst this
    rw [if_neg (by omega)]
    exact block_third hs W t'
set_option maxHeartbeats 1000000 in
theorem block_eq {s : List Nat} (hs : s.length = 8) {b : List Int} (hb : Bytes b) (hl : b.length = 64) : sol_ref7_block (castL s, (b, ())) = some ((castL (comp s b), ()), ((), ((), ()))) := by
  unfold sol_ref7_block T_ref7_block
  rw [words_eq]
  simp only [bind_some']
  refine bigLoop_rule (I := fun x => x.1 = b ∧ x.2.1 = castL s ∧ x.2.2.2.1 = castL kTab ∧ (0 : Int) ≤ x.2.2.2.2.2.1 ∧ x.2.2.2.2.2.1 ≤ (64 : Int) ∧ x.2.2.2.2.1 = part (sched b x.2.2.2.2.2.1.toNat) 64) (m := fun x => ((64 : Int) - x.2.2.2.2.2.1).toNat) (g := fun _ => some ((castL (comp s b), ()), ((), ((), ())))) ?_
    ⟨rfl, rfl, rfl, by simp only; omega, by simp only; omega, by simp only; exact part_nil.symm⟩ (by simp only [bigN_eq]; omega)
  rintro ⟨b', h', t, k', w, i, _⟩ again ⟨e0, e1, e2, e3, e4, e5⟩ hag
  simp only at e0 e1 e2 e3 e4 e5 hag ⊢
  subst e0 e1 e2 e5
  obtain ⟨i, rfl⟩ := Int.eq_ofNat_of_zero_le e3
  have hls := len_sched b' i
  simp only [T_ref7_block_loop0, letR_eq, brR_dec, brR_inR, Int.toNat_natCast]
  by_cases hi : i < 64
  · rw [if_pos (by omega)]
    by_cases h16 : i < 16
    · rw [if_pos (by omega), w_i64 (n := 4 * (i : Int)) (by omega) (by omega), w_i64 (n := 4 * (i : Int) + 3) (by omega) (by omega), w_i64 (n := 4 * (i : Int) + 2) (by omega) (by omega), w_i64 (n := 4 * (i : Int) + 1) (by omega) (by omega), w_i64 (n := (i : Int) + 1) (by omega) (by omega)]
      rw [show (4 * (i : Int)).toNat = 4 * i by omega, show (4 * (i : Int) + 1).toNat = 4 * i + 1 by omega, show (4 * (i : Int) + 2).toNat = 4 * i + 2 by omega, show (4 * (i : Int) + 3).toNat = 4 * i + 3 by omega]
      rw [if_pos (by omega), if_pos (by omega), if_pos (by omega), if_pos (by omega), if_pos (by omega), word_add (hb.at _) (hb.at _) (hb.at _) (hb.at _)]
      have es : (part (sched b' i) 64).set i ((word b' i : Nat) : Int) = part (sched b' (i + 1)) 64 := by
        have := part_set (l := sched b' i) (n := 64) (by omega) (word b' i)
        rw [hls] at this
        rw [this, sched, if_pos (by omega)]
      refine (congrArg again ?_).trans (hag (b', (castL s, (t, (castL kTab, (part (sched b' (i + 1)) 64, (((i : Int) + 1), ())))))) ⟨rfl, rfl, rfl, by simp only; omega, by simp only; omega, by simp only; rw [show ((i : Int) + 1).toNat = i + 1 by omega]⟩ (by simp only; omega))
      rw [← es]; rfl
    · rw [if_neg (by omega), w_i64 (n := (i : Int) - 7) (by omega) (by omega), w_i64 (n := (i : Int) - 16) (by omega) (by omega), w_i64 (n := (i : Int) - 2) (by omega) (by omega), w_i64 (n := (i : Int) - 15) (by omega) (by omega), w_i64 (n := (i : Int) + 1) (by omega) (by omega)]
      rw [show ((i : Int) - 7).toNat = i - 7 by omega, show ((i : Int) - 16).toNat = i - 16 by omega, show ((i : Int) - 2).toNat = i - 2 by omega, show ((i : Int) - 15).toNat = i - 15 by omega]
      rw [if_pos (by omega), if_pos (by omega), if_pos (by omega), part_getD (j := i - 7) (by omega), part_getD (j := i - 16) (by omega), part_getD (j := i - 2) (by omega), part_getD (j := i - 15) (by omega)]
      have hA : (0 : Int) ≤ (i : Int) - 7 ∧ (i : Int) - 7 < ((64 : Nat) : Int) := by omega
      have hB : (0 : Int) ≤ (i : Int) ∧ (i : Int) < ((64 : Nat) : Int) := by omega
      simp only [rr7, rr18, rr17, rr19, bind_some', if_pos hA, if_pos hB]
      simp only [x32, d32_8, d32_1024, a32]
      have es : (part (sched b' i) 64).set i ((nextW (sched b' i) i : Nat) : Int) = part (sched b' (i + 1)) 64 := by
        have := part_set (l := sched b' i) (n := 64) (by omega) (nextW (sched b' i) i)
        rw [hls] at this
        rw [this, sched, if_neg (by omega)]
      refine (congrArg again ?_).trans (hag (b', (castL s, (t, (castL kTab, (part (sched b' (i + 1)) 64, (((i : Int) + 1), ())))))) ⟨rfl, rfl, rfl, by simp only; omega, by simp only; omega, by simp only; rw [show ((i : Int) + 1).toNat = i + 1 by omega]⟩ (by simp only; omega))
      rw [← es]; rfl
  · have : i = 64 := by omega
    subst this
    rw [if_neg (by omega)]
    have := part_full (l := sched b' 64)
    rw [hls] at this
    rw [this]
    exact block_second hs (sched b' 64) t
theorem rsumOut_eq {s : List Nat} (t2 : List Int) : bigLoop _ _ (fun again x => T_ref7_Sum_loop3 again x.1 x.2.1 x.2.2.1 x.2.2.2.1) (t2, (castL s, (List.replicate 32 0, ((0 : Int), ())))) = some ((shaOut s, ()), ((), ())) := by
  refine bigLoop_rule (I := fun x => x.2.1 = castL s ∧ (0 : Int) ≤ x.2.2.2.1 ∧ x.2.2.2.1 ≤ (32 : Int) ∧ x.2.2.1 = part (outN s x.2.2.2.1.toNat) 32) (m := fun x => ((32 : Int) - x.2.2.2.1).toNat) (g := fun _ => some ((shaOut s, ()), ((), ()))) ?_
    ⟨rfl, by simp only; omega, by simp only; omega, part_nil.symm⟩ (by simp only [bigN_eq]; omega)
  rintro ⟨t, s', h, i, _⟩ again ⟨e0, e1, e2, e3⟩ hag
  simp only at e0 e1 e2 e3 hag ⊢
  subst e0 e3
  obtain ⟨i, rfl⟩ := Int.eq_ofNat_of_zero_le e1
  have hls := len_outN s i
  simp only [T_ref7_Sum_loop3, letR_eq, brR_dec, brR_inR, Int.toNat_natCast]
  by_cases hi : i < 32
  · rw [if_pos (by omega), tdiv_pos (by omega), tmod_pos (by omega), w_i64 (n := (i : Int) / 4) (by omega) (by omega), w_i64 (n := 8 * ((i : Int) % 4)) (by omega) (by omega), w_i64 (n := 24 - 8 * ((i : Int) % 4)) (by omega) (by omega), w_u64 (n := 24 - 8 * ((i : Int) % 4)) (by omega) (by omega), w_i64 (n := (i : Int) + 1) (by omega) (by omega), if_pos (by omega), if_pos (by omega), if_pos (by omega)]
    rw [show ((i : Int) / 4).toNat = i / 4 by omega, show (24 - 8 * ((i : Int) % 4)).toNat = 24 - 8 * (i % 4) by omega, Nat.min_eq_left (by omega), out_byte]
    have es := part_set (l := outN s i) (n := 32) (by omega) (s.getD (i / 4) 0 / 2 ^ (24 - 8 * (i % 4)) % 256)
    rw [hls, ← outN_succ] at es
    rw [es]
    exact hag _ ⟨rfl, by simp only; omega, by simp only; omega, by simp only; rw [show ((i : Int) + 1).toNat = i + 1 by omega]⟩ (by simp only; omega)
  · have : i = 32 := by omega
    subst this
    rw [if_neg (by omega)]
    have := part_full (l := outN s 32)
    rw [hls, outN_32] at this
    rw [this]
theorem rsumBlocks_eq {m : List Int} (hm : Bytes m) {n : Nat} (hn : m.length = 64 * n) (hl : m.length ≤ 1000000000) (t2 : List Int) :
    bigLoop _ _ (fun again x => T_ref7_Sum_loop2 bigLoop sol_ref7_block again x.1 x.2.1 x.2.2.1 x.2.2.2.1) (t2, (m, (castL iv, ((0 : Int), ())))) = some ((shaOut (states m n), ()), ((), ())) := by
  refine bigLoop_rule (I := fun x => x.2.1 = m ∧ ∃ i : Nat, i ≤ n ∧ x.2.2.2.1 = ((64 * i : Nat) : Int) ∧ x.2.2.1 = castL (states m i)) (m := fun x => ((m.length : Int) - x.2.2.2.1).toNat) (g := fun _ => some ((shaOut (states m n), ()), ((), ()))) ?_
    ⟨rfl, 0, by omega, rfl, rfl⟩ (by simp only [bigN_eq]; omega)
  rintro ⟨t, m', s, a, _⟩ again ⟨e0, i, hi, e2, e3⟩ hag
  simp only at e0 e2 e3 hag ⊢
  subst e0 e2 e3
  simp only [T_ref7_Sum_loop2, letR_eq, brR_dec, brR_and, Int.toNat_natCast]
  by_cases hc : i < n
  · rw [if_pos (by omega), w_i64 (by omega) (by omega), if_pos (by omega), if_pos (by omega), if_pos (by omega), show (((64 * i : Nat) : Int) + 64).toNat - 64 * i = 64 by omega,
      block_eq (len_states m' i) ((hm.drop _).take _) (by rw [List.length_take, List.length_drop]; omega)]
    simp only [bind_some']
    exact hag _ ⟨rfl, i + 1, by omega, by simp only; omega, rfl⟩ (by simp only; omega)
  · have : i = n := by omega
    subst this
    rw [if_neg (by omega)]
    exact rsumOut_eq t
theorem rsumLen_eq {l : List Int} (hb : Bytes l) {n k : Nat} (hn : n < 18446744073709551616) (hk : l.length + 8 = 64 * k) (hl : l.length ≤ 900000000) (t2 : List Int) :
    bigLoop _ _ (fun again x => T_ref7_Sum_loop1 bigLoop sol_ref7_block again x.1 x.2.1 x.2.2.1 x.2.2.2.1) (t2, (l, (((n : Nat) : Int), ((7 : Int), ())))) = some ((shaOut (states (l ++ beB 8 n) k), ()), ((), ())) := by
  refine Eq.trans (bigLoop_rule (I := fun x => x.2.2.1 = ((n : Nat) : Int) ∧ (-1 : Int) ≤ x.2.2.2.1 ∧ x.2.2.2.1 ≤ (7 : Int) ∧ Bytes x.2.1 ∧ (x.2.1.length : Int) + x.2.2.2.1 + 1 = ((64 * k : Nat) : Int)) (m := fun x => (x.2.2.2.1 + 1).toNat) (g := fun x => some ((shaOut (states (x.2.1 ++ beB (x.2.2.2.1 + 1).toNat n) k), ()), ((), ()))) ?_
    ⟨rfl, by simp only; omega, by simp only; omega, hb, by simp only; omega⟩ (by simp only [bigN_eq]; omega)) rfl
  rintro ⟨t, l', n', i, _⟩ again ⟨e0, e1, e2, e3, e4⟩ hag
  simp only at e0 e1 e2 e3 e4 hag ⊢
  subst e0
  simp only [T_ref7_Sum_loop1, letR_eq, brR_dec, append_def, ge_iff_le]
  by_cases hi : 0 ≤ i
  · obtain ⟨j, rfl⟩ := Int.eq_ofNat_of_zero_le hi
    rw [if_pos hi, w_i64 (n := 8 * (j : Int)) (by omega) (by omega), w_u64 (n := 8 * (j : Int)) (by omega) (by omega), if_pos (by omega), brR_room8 (by omega), w_i64 (by omega) (by omega), show (8 * (j : Int)).toNat = 8 * j by omega, Nat.min_eq_left (by omega)]
    have p : ∀ k : Nat, (2 : Int) ^ k = ((2 ^ k : Nat) : Int) := fun k => by rw [Int.natCast_pow]; rfl
    have hby : IntKind.wrap .u8 (Int.fdiv ((n : Nat) : Int) ((2 : Int) ^ (8 * j))) = ((n / 256 ^ j % 256 : Nat) : Int) := by
      rw [p, d32, IntKind.wrap_u8, pow256]; omega
    rw [hby, hag _ ⟨rfl, by simp only; omega, by simp only; omega, e3.append (by intro x hx; simp only [List.mem_singleton] at hx; subst hx; omega), by simp only [List.length_append, List.length_singleton]; omega⟩ (by simp only; omega)]
    simp only
    rw [show ((j : Int) - 1 + 1).toNat = j by omega, show ((j : Int) + 1).toNat = j + 1 by omega, beB]; simp
  · have : i = -1 := by omega
    subst this
    rw [if_neg hi]
    have := rsumBlocks_eq e3 (n := k) (by omega) (by omega) t
    refine Eq.trans this ?_
    simp [beB]
theorem rsum_eq {b : List Int} (hb : Bytes b) (hl : b.length ≤ 100000000) : sol_ref7_Sum (b, ()) = some ((sha b, ()), ((), ())) := by
  unfold sol_ref7_Sum T_ref7_Sum
  simp only [append_def]
  rw [brR_room8 (by omega), brR_room8 (by omega)]
  refine bigLoop_rule (I := fun x => x.1 = b ∧ ∃ j : Nat, j ≤ (119 - b.length % 64) % 64 ∧ x.2.2.1 = b ++ 128 :: List.replicate j 0) (m := fun x => b.length + 100 - x.2.2.1.length) (g := fun _ => some ((sha b, ()), ((), ()))) ?_
    ⟨rfl, 0, by omega, rfl⟩ (by simp only [bigN_eq]; omega)
  rintro ⟨b', t, l, _⟩ again ⟨e0, j, hj, e1⟩ hag
  simp only at e0 e1 hag ⊢
  subst e0 e1
  have hlen : (b' ++ 128 :: List.replicate j (0 : Int)).length = b'.length + 1 + j := by simp; omega
  simp only [T_ref7_Sum_loop0, letR_eq, brR_dec, brR_not, append_def]
  rw [tmod_pos (by omega), hlen, brR_room8 (by omega)]
  by_cases hc : j = (119 - b'.length % 64) % 64
  · rw [if_pos (by omega), w_u64 (n := ((b'.length : Nat) : Int)) (by omega) (by omega), w_u64 (by omega) (by omega), show ((b'.length : Nat) : Int) * 8 = ((b'.length * 8 : Nat) : Int) by omega]
    have hby : Bytes (b' ++ 128 :: List.replicate j (0 : Int)) := hb.append (by
      intro x hx
      rcases List.mem_cons.1 hx with rfl | hx
      · omega
      · rw [List.eq_of_mem_replicate hx]; omega)
    refine (rsumLen_eq hby (n := b'.length * 8) (k := (b'.length + 1 + j + 8) / 64) (by omega) (by omega) (by omega) t).trans ?_
    have hp : b' ++ 128 :: List.replicate j (0 : Int) ++ beB 8 (b'.length * 8) = padded b' := by simp [padded, hc]
    have hpl : (padded b').length = b'.length + 1 + j + 8 := by rw [← hp, List.length_append, hlen, len_beB]
    rw [hp, ← hpl]; rfl
  · rw [if_neg (by omega)]
    have e : b' ++ 128 :: List.replicate j (0 : Int) ++ [0] = b' ++ 128 :: List.replicate (j + 1) 0 := by
      rw [List.replicate_succ']; simp
    exact hag _ ⟨rfl, j + 1, by omega, by simp only; exact e⟩ (by simp only [e, hlen]; simp; omega)
end Go.Pon
set_option autoImplicit false
set_option linter.unusedVariables false
set_option linter.unusedSimpArgs false
set_option maxRecDepth 100000
namespace Go.Pon
open Go
def H32 (h : List Int) : Prop := h.length = 32 ∧ Bytes h
theorem h32_sha (b : List Int) : H32 (sha b) := ⟨len_sha b, bytes_sha b⟩
theorem h32_wf {h : List Int} (hw : (Ty.arr 32 (.int .u8)).wf h) : H32 h := ⟨hw.1, fun x hx => inK_u8.1 (hw.2 x hx)⟩
def leafH (b : List Int) : List Int := sha (0 :: b)
def nodeH (x y : List Int) : List Int := sha (1 :: (x ++ y))
theorem bytes_cons {x : Int} {b : List Int} (hx : 0 ≤ x ∧ x ≤ 255) (hb : Bytes b) : Bytes (x :: b) := fun y hy => by
  rcases List.mem_cons.1 hy with rfl | hy
  · exact hx
  · exact hb y hy
theorem leaf_eq {b : List Int} (hb : Bytes b) (hl : b.length ≤ 90000000) : sol_hash_Leaf (b, ()) = some ((leafH b, ()), ((), ())) := by
  unfold sol_hash_Leaf T_hash_Leaf
  rw [concat_eq (by simp; omega) (by simp)]
  simp only [bind_some', List.flatten_cons, List.flatten_nil, List.append_nil, List.cons_append, List.nil_append]
  rw [sum_eq (bytes_cons (by omega) hb) (by simp; omega)]
  rfl
theorem take32 {x : List Int} (h : x.length = 32) : List.take (32 - 0) (List.drop 0 x) = x := by
  rw [List.drop_zero, List.take_of_length_le (by omega)]
theorem node_eq {x y : List Int} (hx : H32 x) (hy : H32 y) : sol_hash_Node (x, (y, ())) = some ((nodeH x y, ()), ((), ((), ()))) := by
  unfold sol_hash_Node T_hash_Node
  simp only
  have h1 := hx.1
  have h2 := hy.1
  rw [take32 h1, take32 h2, concat_eq (by simp; omega) (by simp)]
  simp only [bind_some', List.flatten_cons, List.flatten_nil, List.append_nil, List.cons_append, List.nil_append]
  rw [sum_eq (bytes_cons (by omega) (hx.2.append hy.2)) (by simp; omega)]
  rfl
theorem rleaf_eq {b : List Int} (hb : Bytes b) (hl : b.length ≤ 90000000) : sol_ref7_Leaf (b, ()) = some ((leafH b, ()), ((), ())) := by
  unfold sol_ref7_Leaf T_ref7_Leaf
  simp only [append_def]
  rw [brR_room8 (by omega), rsum_eq (b := [0] ++ b) (bytes_cons (by omega) hb) (by simp; omega)]
  rfl
theorem rnode_eq {x y : List Int} (hx : H32 x) (hy : H32 y) : sol_ref7_Node (x, (y, ())) = some ((nodeH x y, ()), ((), ((), ()))) := by
  unfold sol_ref7_Node T_ref7_Node
  simp only [letR_eq, append_def]
  have h1 := hx.1
  have h2 := hy.1
  rw [take32 h1, take32 h2, brR_room8 (by omega), brR_room8 (by simp; omega), rsum_eq (b := [1] ++ x ++ y) (bytes_cons (by omega) (hx.2.append hy.2)) (by simp; omega)]
  rfl
theorem h32_node (x y : List Int) : H32 (nodeH x y) := h32_sha _
theorem h32_leaf (x : List Int) : H32 (leafH x) := h32_sha _
theorem eqD_h32 (x y : List Int) : eqD (.arr 32 (.int .u8)) x y = decide (x = y) := eqD_dec _ _ _
def hv (c : Int) : Int := if 48 ≤ c ∧ c ≤ 57 then c - 48 else if 97 ≤ c ∧ c ≤ 102 then c - 87 else -1
def Hex64 (s : List Int) : Prop := s.length = 64 ∧ ∀ i, i < 64 → 0 ≤ hv (s.getD i 0)
noncomputable instance (s : List Int) : Decidable (Hex64 s) := Classical.propDecidable _
end Go.Pon
set_option autoImplicit false
set_option linter.unusedVariables false
set_option linter.unusedSimpArgs false
set_option maxRecDepth 100000
namespace Go.Pon
open Go
def sp (n : Nat) : Nat := 2 ^ Nat.log2 (n - 1)
theorem sp_eq {j n : Nat} (h1 : 2 ^ j < n) (h2 : n ≤ 2 * 2 ^ j) : sp n = 2 ^ j := by
  have hp : 0 < 2 ^ j := Nat.two_pow_pos j
  have : Nat.log2 (n - 1) = j := (Nat.log2_eq_iff (by omega)).2 ⟨by omega, by rw [Nat.pow_succ]; omega⟩
  rw [sp, this]
theorem sp_facts {n : Nat} (h : 2 ≤ n) : 1 ≤ sp n ∧ sp n < n ∧ n ≤ 2 * sp n := by
  have h0 : n - 1 ≠ 0 := by omega
  have h1 := Nat.log2_self_le h0
  have h2 := @Nat.lt_log2_self (n - 1)
  rw [Nat.pow_succ] at h2
  have hp : 0 < 2 ^ Nat.log2 (n - 1) := Nat.two_pow_pos _
  unfold sp
  exact ⟨hp, by omega, by omega⟩
theorem splitPoint_eq {n : Nat} (h2 : 2 ≤ n) (h3 : n ≤ 9223372036854775807) : sol_merkle_splitPoint (((n : Nat) : Int), ()) = some ((((sp n : Nat) : Int), ()), ((), ())) := by
  unfold sol_merkle_splitPoint T_merkle_splitPoint
  refine bigLoop_rule (I := fun x => x.1 = ((n : Nat) : Int) ∧ ∃ j : Nat, x.2.1 = ((2 ^ j : Nat) : Int) ∧ 2 ^ j < n) (m := fun x => (((n : Nat) : Int) - x.2.1).toNat) (g := fun _ => some ((((sp n : Nat) : Int), ()), ((), ()))) ?_
    ⟨rfl, 0, rfl, by simp only [Nat.pow_zero]; omega⟩ (by simp only [bigN_eq]; omega)
  rintro ⟨n', k, _⟩ again ⟨e0, j, e1, e2⟩ hag
  simp only at e0 e1 hag ⊢
  subst e0 e1
  have hp : 0 < 2 ^ j := Nat.two_pow_pos j
  simp only [T_merkle_splitPoint_loop0, brR_dec]
  rw [w_i64 (by omega) (by omega)]
  by_cases hc : ((2 ^ j : Nat) : Int) < ((n : Nat) : Int) - ((2 ^ j : Nat) : Int)
  · rw [if_pos hc, w_i64 (by omega) (by omega)]
    exact hag _ ⟨rfl, j + 1, by simp only [Nat.pow_succ]; omega, by rw [Nat.pow_succ]; omega⟩ (by simp only; omega)
  · rw [if_neg hc, sp_eq e2 (by omega)]
theorem rsplitPoint_eq {n : Nat} (h2 : 2 ≤ n) (h3 : n ≤ 9223372036854775807) : sol_ref8_SplitPoint (((n : Nat) : Int), ()) = some ((((sp n : Nat) : Int), ()), ((), ())) := by
  unfold sol_ref8_SplitPoint T_ref8_SplitPoint
  refine bigLoop_rule (I := fun x => x.1 = ((n : Nat) : Int) ∧ ∃ j : Nat, x.2.1 = ((2 ^ j : Nat) : Int) ∧ 2 ^ j < n) (m := fun x => (((n : Nat) : Int) - x.2.1).toNat) (g := fun _ => some ((((sp n : Nat) : Int), ()), ((), ()))) ?_
    ⟨rfl, 0, rfl, by simp only [Nat.pow_zero]; omega⟩ (by simp only [bigN_eq]; omega)
  rintro ⟨n', k, _⟩ again ⟨e0, j, e1, e2⟩ hag
  simp only at e0 e1 hag ⊢
  subst e0 e1
  have hp : 0 < 2 ^ j := Nat.two_pow_pos j
  simp only [T_ref8_SplitPoint_loop0, brR_dec]
  rw [w_i64 (by omega) (by omega)]
  by_cases hc : ((2 ^ j : Nat) : Int) < ((n : Nat) : Int) - ((2 ^ j : Nat) : Int)
  · rw [if_pos hc, w_i64 (by omega) (by omega)]
    exact hag _ ⟨rfl, j + 1, by simp only [Nat.pow_succ]; omega, by rw [Nat.pow_succ]; omega⟩ (by simp only; omega)
  · rw [if_neg hc, sp_eq e2 (by omega)]
abbrev Z32 : List Int := List.replicate 32 0
theorem h32_zero : H32 Z32 := ⟨by simp, fun x hx => by rw [List.eq_of_mem_replicate hx]; omega⟩
def AllH (l : List (List Int)) : Prop := ∀ h ∈ l, H32 h
theorem AllH.take {l : List (List Int)} (h : AllH l) (i : Nat) : AllH (l.take i) := fun x hx => h x (List.mem_of_mem_take hx)
theorem AllH.drop {l : List (List Int)} (h : AllH l) (i : Nat) : AllH (l.drop i) := fun x hx => h x (List.mem_of_mem_drop hx)
theorem AllH.append {l m : List (List Int)} (h : AllH l) (k : AllH m) : AllH (l ++ m) := fun x hx => by
  rcases List.mem_append.1 hx with hx | hx
  · exact h x hx
  · exact k x hx
theorem AllH.at {l : List (List Int)} (h : AllH l) (i : Nat) : H32 (l.getD i Z32) := by
  rcases Nat.lt_or_ge i l.length with hi | hi
  · exact h _ (getD_mem hi)
  · rw [List.getD_eq_getElem?_getD, List.getElem?_eq_none hi]; exact h32_zero
theorem AllH.one {x : List Int} (h : H32 x) : AllH [x] := fun y hy => by simp only [List.mem_singleton] at hy; subst hy; exact h
def rootH (l : List (List Int)) : List Int :=
  if l.length = 0 then sha [] else if l.length = 1 then l.getD 0 Z32 else
    if h : 2 ≤ l.length then nodeH (rootH (l.take (sp l.length))) (rootH (l.drop (sp l.length))) else []
termination_by l.length
decreasing_by
  all_goals
    have := sp_facts h
    simp only [List.length_take, List.length_drop]
    omega
theorem rootH_zero {l : List (List Int)} (h : l.length = 0) : rootH l = sha [] := by rw [rootH, if_pos h]
theorem rootH_one {l : List (List Int)} (h : l.length = 1) : rootH l = l.getD 0 Z32 := by rw [rootH, if_neg (by omega), if_pos h]
theorem rootH_two {l : List (List Int)} (h : 2 ≤ l.length) : rootH l = nodeH (rootH (l.take (sp l.length))) (rootH (l.drop (sp l.length))) := by
  conv => lhs; rw [rootH]
  rw [if_neg (by omega), if_neg (by omega), dif_pos h]
theorem h32_root {l : List (List Int)} (h : AllH l) : H32 (rootH l) := by
  by_cases h0 : l.length = 0
  · rw [rootH_zero h0]; exact h32_sha _
  by_cases h1 : l.length = 1
  · rw [rootH_one h1]; exact h.at 0
  rw [rootH_two (by omega)]; exact h32_node _ _
theorem rrootN_eq : ∀ (f : Nat) (l : List (List Int)), l.length < f → l.length ≤ 1000000000 → AllH l → solN_ref8_RootOf f (l, ()) = some ((rootH l, ()), ((), ()))
  | 0, l, h, _, _ => by omega
  | f + 1, l, h, hl, ha => by
    unfold solN_ref8_RootOf T_ref8_RootOf
    simp only [letR_eq, brR_dec, brR_inR, brR_and]
    by_cases h0 : l.length = 0
    · rw [if_pos (by omega), rsum_eq (by intro x hx; cases hx) (by simp), rootH_zero h0]; rfl
    rw [if_neg (by omega)]
    by_cases h1 : l.length = 1
    · rw [if_pos (by omega), if_pos (by omega), rootH_one h1]
    have hs := sp_facts (n := l.length) (by omega)
    have t1 : List.take (sp l.length - 0) (List.drop 0 l) = l.take (sp l.length) := by simp
    have t2 : List.take (l.length - sp l.length) (List.drop (sp l.length) l) = l.drop (sp l.length) := List.take_of_length_le (by rw [List.length_drop]; omega)
    rw [if_neg (by omega), rsplitPoint_eq (by omega) (by omega)]
    simp only [bind_some', Int.toNat_natCast]
    rw [t1, t2, if_pos (by omega), if_pos (by omega), rrootN_eq f (l.take (sp l.length)) (by rw [List.length_take]; omega) (by rw [List.length_take]; omega) (ha.take _)]
    simp only [bind_some']
    rw [if_pos (by omega), if_pos (by omega), rrootN_eq f (l.drop (sp l.length)) (by rw [List.length_drop]; omega) (by rw [List.length_drop]; omega) (ha.drop _)]
    simp only [bind_some']
    rw [rnode_eq (h32_root (ha.take _)) (h32_root (ha.drop _)), rootH_two (l := l) (by omega)]
    rfl
theorem rrootOf_eq {l : List (List Int)} (hl : l.length ≤ 1000000000) (ha : AllH l) : sol_ref8_RootOf (l, ()) = some ((rootH l, ()), ((), ())) :=
  rrootN_eq bigF l (by rw [bigF_eq]; omega) hl ha
def proofH (l : List (List Int)) (i : Nat) : List (List Int) :=
  if h : 2 ≤ l.length then
    if i < sp l.length then proofH (l.take (sp l.length)) i ++ [rootH (l.drop (sp l.length))] else proofH (l.drop (sp l.length)) (i - sp l.length) ++ [rootH (l.take (sp l.length))]
  else []
termination_by l.length
decreasing_by
  all_goals
    have := sp_facts h
    simp only [List.length_take, List.length_drop]
    omega
theorem proofH_small {l : List (List Int)} {i : Nat} (h : l.length < 2) : proofH l i = [] := by rw [proofH, dif_neg (by omega)]
theorem proofH_left {l : List (List Int)} {i : Nat} (h : 2 ≤ l.length) (hi : i < sp l.length) : proofH l i = proofH (l.take (sp l.length)) i ++ [rootH (l.drop (sp l.length))] := by
  conv => lhs; rw [proofH]
  rw [dif_pos h, if_pos hi]
theorem proofH_right {l : List (List Int)} {i : Nat} (h : 2 ≤ l.length) (hi : ¬ i < sp l.length) : proofH l i = proofH (l.drop (sp l.length)) (i - sp l.length) ++ [rootH (l.take (sp l.length))] := by
  conv => lhs; rw [proofH]
  rw [dif_pos h, if_neg hi]
theorem proofH_facts : ∀ (n : Nat) (l : List (List Int)) (i : Nat), l.length ≤ n → AllH l → (proofH l i).length ≤ l.length ∧ AllH (proofH l i)
  | 0, l, i, h, _ => by rw [proofH_small (by omega)]; exact ⟨by simp, fun x hx => by cases hx⟩
  | n + 1, l, i, h, ha => by
    by_cases h2 : 2 ≤ l.length
    · have hs := sp_facts h2
      by_cases hi : i < sp l.length
      · obtain ⟨k1, k2⟩ := proofH_facts n (l.take (sp l.length)) i (by rw [List.length_take]; omega) (ha.take _)
        rw [proofH_left h2 hi]
        refine ⟨?_, k2.append (AllH.one (h32_root (ha.drop _)))⟩
        rw [List.length_take] at k1
        rw [List.length_append, List.length_singleton]; omega
      · obtain ⟨k1, k2⟩ := proofH_facts n (l.drop (sp l.length)) (i - sp l.length) (by rw [List.length_drop]; omega) (ha.drop _)
        rw [proofH_right h2 hi]
        refine ⟨?_, k2.append (AllH.one (h32_root (ha.take _)))⟩
        rw [List.length_drop] at k1
        rw [List.length_append, List.length_singleton]; omega
    · rw [proofH_small (by omega)]; exact ⟨by simp, fun x hx => by cases hx⟩
theorem brR_roomH {α : Type} {n : Nat} (h : n ≤ 100000000) (a b : Option α) : brR (roomy n (.arr 32 (.int .u8))) a b = a := by
  rw [brR_roomy, show (Ty.arr 32 (Ty.int IntKind.u8)).size = 32 from rfl, if_pos ⟨by omega, by omega⟩]
theorem rproofN_eq : ∀ (f : Nat) (l : List (List Int)) (i : Nat), l.length < f → 1 ≤ l.length → l.length ≤ 10000000 → i < l.length → AllH l → solN_ref8_Proof f (l, (((i : Nat) : Int), ())) = some ((proofH l i, ()), ((), ((), ())))
  | 0, l, i, h, _, _, _, _ => by omega
  | f + 1, l, i, h, hl0, hl, hi, ha => by
    unfold solN_ref8_Proof T_ref8_Proof
    simp only [letR_eq, brR_dec, brR_and]
    by_cases h1 : l.length = 1
    · rw [if_pos (by omega), proofH_small (by omega)]
    have hs := sp_facts (n := l.length) (by omega)
    have t1 : List.take (sp l.length - 0) (List.drop 0 l) = l.take (sp l.length) := by simp
    have t2 : List.take (l.length - sp l.length) (List.drop (sp l.length) l) = l.drop (sp l.length) := List.take_of_length_le (by rw [List.length_drop]; omega)
    have k1 := proofH_facts l.length (l.take (sp l.length)) i (by rw [List.length_take]; omega) (ha.take _)
    have k2 := proofH_facts l.length (l.drop (sp l.length)) (i - sp l.length) (by rw [List.length_drop]; omega) (ha.drop _)
    rw [List.length_take] at k1
    rw [List.length_drop] at k2
    rw [if_neg (by omega), rsplitPoint_eq (by omega) (by omega)]
    have g1 : (0 : Int) ≤ ((sp l.length : Nat) : Int) := by omega
    have g2 : ((sp l.length : Nat) : Int) ≤ ((l.length : Nat) : Int) := by omega
    simp only [bind_some', Int.toNat_natCast, if_pos g1, if_pos g2]
    rw [t1, t2]
    by_cases hc : i < sp l.length
    · rw [if_pos (by omega), rproofN_eq f (l.take (sp l.length)) i (by rw [List.length_take]; omega) (by rw [List.length_take]; omega) (by rw [List.length_take]; omega) (by rw [List.length_take]; omega) (ha.take _)]
      simp only [bind_some']
      rw [rrootOf_eq (by rw [List.length_drop]; omega) (ha.drop _)]
      simp only [bind_some']
      rw [brR_roomH (by omega), proofH_left (by omega) hc]; rfl
    · rw [if_neg (by omega), w_i64 (by omega) (by omega), show ((i : Nat) : Int) - ((sp l.length : Nat) : Int) = ((i - sp l.length : Nat) : Int) by omega,
        rproofN_eq f (l.drop (sp l.length)) (i - sp l.length) (by rw [List.length_drop]; omega) (by rw [List.length_drop]; omega) (by rw [List.length_drop]; omega) (by rw [List.length_drop]; omega) (ha.drop _)]
      simp only [bind_some']
      rw [rrootOf_eq (by rw [List.length_take]; omega) (ha.take _)]
      simp only [bind_some']
      rw [brR_roomH (by omega), proofH_right (by omega) hc]; rfl
theorem rproof_eq {l : List (List Int)} {i : Nat} (hl : l.length ≤ 10000000) (hi : i < l.length) (ha : AllH l) : sol_ref8_Proof (l, (((i : Nat) : Int), ())) = some ((proofH l i, ()), ((), ((), ()))) :=
  rproofN_eq bigF l i (by rw [bigF_eq]; omega) (by omega) hl hi ha
def upR : Nat → Nat → List Int → List (List Int) → Option (List Int)
  | n, i, leaf, [] => if n = 1 then some leaf else none
  | n, i, leaf, last :: rest => if n = 1 then none else
    if i < sp n then (upR (sp n) i leaf rest).map (fun h => nodeH h last) else (upR (n - sp n) (i - sp n) leaf rest).map (fun h => nodeH last h)
theorem last_split {p : List (List Int)} (h : p ≠ []) : ∃ rest last, p = rest ++ [last] ∧ p.reverse = last :: rest.reverse := by
  have e : p = p.dropLast ++ [p.getLast h] := (List.dropLast_concat_getLast h).symm
  refine ⟨p.dropLast, p.getLast h, e, ?_⟩
  conv => lhs; rw [e]
  rw [List.reverse_append]; rfl
theorem fromN_eq : ∀ (f : Nat) (p : List (List Int)) (n i : Nat) (leaf : List Int), p.length < f → p.length ≤ 1000000000 → 1 ≤ n → n ≤ 9223372036854775807 → i < n → H32 leaf → AllH p →
    ∃ h, H32 h ∧ solN_merkle_rootFrom f (((n : Nat) : Int), (((i : Nat) : Int), (leaf, (p, ())))) = some ((h, ((upR n i leaf p.reverse).isSome, ())), ((), ((), ((), ((), ()))))) ∧ ∀ r, upR n i leaf p.reverse = some r → h = r
  | 0, p, n, i, leaf, h, _, _, _, _, _, _ => by omega
  | f + 1, p, n, i, leaf, h, hl, hn1, hn2, hi, hf, ha => by
    unfold solN_merkle_rootFrom T_merkle_rootFrom
    simp only [letR_eq, brR_dec, brR_inR, brR_and]
    by_cases hp : p = []
    · subst hp
      by_cases h1 : n = 1
      · subst h1
        exact ⟨leaf, hf, by simp [upR], fun r hr => by simpa [upR] using hr⟩
      · refine ⟨Z32, h32_zero, ?_, fun r hr => by simp [upR, h1] at hr⟩
        rw [if_neg (by omega), if_pos (by simp)]
        simp [upR, h1, Z32]
    obtain ⟨rest, last, e1, e2⟩ := last_split hp
    have hlen : p.length = rest.length + 1 := by rw [e1]; simp
    rw [e2]
    by_cases h1 : n = 1
    · subst h1
      refine ⟨leaf, hf, ?_, fun r hr => by simp [upR] at hr⟩
      rw [if_pos (by omega)]
      simp [upR, hlen]; omega
    have hs := sp_facts (n := n) (by omega)
    rw [if_neg (by omega), if_neg (by omega), splitPoint_eq (by omega) hn2]
    simp only [bind_some']
    rw [w_i64 (n := ((p.length : Nat) : Int) - 1) (by omega) (by omega), if_pos (by omega), if_pos (by omega), if_pos (by omega), show (((p.length : Nat) : Int) - 1).toNat = rest.length by omega]
    have t1 : List.take (rest.length - 0) (List.drop 0 p) = rest := by rw [e1]; simp
    have t2 : p.getD rest.length Z32 = last := by rw [e1, List.getD_eq_getElem?_getD, List.getElem?_append_right (by omega)]; simp
    have hrest : AllH rest := fun x hx => ha x (by rw [e1]; simp [hx])
    have hlast : H32 last := ha last (by rw [e1]; simp)
    rw [t1, t2]
    by_cases hc : i < sp n
    · obtain ⟨h', q1, q2, q3⟩ := fromN_eq f rest (sp n) i leaf (by omega) (by omega) (by omega) (by omega) hc hf hrest
      rw [if_pos (by omega), q2]
      simp only [bind_some']
      rw [node_eq q1 hlast]
      refine ⟨nodeH h' last, h32_node _ _, by simp only [bind_some', upR]; rw [if_neg h1, if_pos hc]; simp, fun r hr => ?_⟩
      simp only [upR] at hr
      rw [if_neg h1, if_pos hc] at hr
      obtain ⟨r', hr1, rfl⟩ := Option.map_eq_some_iff.1 hr
      rw [q3 _ hr1]
    · obtain ⟨h', q1, q2, q3⟩ := fromN_eq f rest (n - sp n) (i - sp n) leaf (by omega) (by omega) (by omega) (by omega) (by omega) hf hrest
      rw [if_neg (by omega), w_i64 (n := (n : Int) - (sp n : Nat)) (by omega) (by omega), w_i64 (n := (i : Int) - (sp n : Nat)) (by omega) (by omega), show (n : Int) - ((sp n : Nat) : Int) = ((n - sp n : Nat) : Int) by omega, show (i : Int) - ((sp n : Nat) : Int) = ((i - sp n : Nat) : Int) by omega, q2]
      simp only [bind_some']
      rw [node_eq hlast q1]
      refine ⟨nodeH last h', h32_node _ _, by simp only [bind_some', upR]; rw [if_neg h1, if_neg hc]; simp, fun r hr => ?_⟩
      simp only [upR] at hr
      rw [if_neg h1, if_neg hc] at hr
      obtain ⟨r', hr1, rfl⟩ := Option.map_eq_some_iff.1 hr
      rw [q3 _ hr1]
noncomputable def verifyH (root : List Int) (n i : Int) (leaf : List Int) (p : List (List Int)) : Bool :=
  decide (0 ≤ i ∧ i < n) && decide (upR n.toNat i.toNat leaf p.reverse = some root)
theorem verify_eq {root leaf : List Int} {n i : Int} {p : List (List Int)} (hn : n ≤ 9223372036854775807) (hl : p.length ≤ 1000000000) (hf : H32 leaf) (ha : AllH p) :
    sol_merkle_Verify (root, (n, (i, (leaf, (p, ()))))) = some ((verifyH root n i leaf p, ()), ((), ((), ((), ((), ((), ())))))) := by
  unfold sol_merkle_Verify T_merkle_Verify verifyH
  simp only [brR_dec]
  by_cases h1 : i < 0
  · rw [if_pos h1, decide_eq_false (by omega)]; rfl
  rw [if_neg h1]
  by_cases h2 : i ≥ n
  · rw [if_pos h2, decide_eq_false (by omega)]; rfl
  rw [if_neg h2, decide_eq_true (by omega)]
  obtain ⟨i, rfl⟩ := Int.eq_ofNat_of_zero_le (show 0 ≤ i by omega)
  obtain ⟨n, rfl⟩ := Int.eq_ofNat_of_zero_le (show 0 ≤ n by omega)
  obtain ⟨h, q1, q2, q3⟩ := fromN_eq bigF p n i leaf (by rw [bigF_eq]; omega) hl (by omega) (by omega) (by omega) hf ha
  unfold sol_merkle_rootFrom
  rw [q2]
  simp only [bind_some', Int.toNat_natCast, Bool.true_and]
  by_cases hu : ∃ r, upR n i leaf p.reverse = some r
  · obtain ⟨r, hu⟩ := hu
    simp only [q3 r hu, hu, Option.isSome_some, brR_true, eqD_h32]
    simp
  · have hn : upR n i leaf p.reverse = none := by
      cases h0 : upR n i leaf p.reverse with
      | none => rfl
      | some r => exact absurd ⟨r, h0⟩ hu
    simp [hn, brR_false]
end Go.Pon
set_option autoImplicit false
set_option linter.unusedVariables false
set_option linter.unusedSimpArgs false
namespace Go.Pon
open Go
theorem bytes_enc {n : Nat} (h : bylen n ≤ 255) : Bytes (enc n) := by
  intro x hx
  rcases List.mem_cons.1 hx with rfl | hx
  · omega
  · exact beB_byte x hx
end Go.Pon
set_option autoImplicit false
set_option linter.unusedVariables false
set_option linter.unusedSimpArgs false
namespace Go.Pon
open Go
theorem bylen_eq {n i : Nat} (h1 : n < 256 ^ (i + 1)) (h2 : 256 ^ i ≤ n) : bylen n = i + 1 := by
  have a := bylen_le.2 h1
  rcases Nat.lt_or_ge i (bylen n) with h | h
  · omega
  · have := bylen_le.1 h; omega
theorem digits_eq {n : Nat} (hn : n < 115792089237316195423570985008687907853269984665640564039457584007913129639936) : sol_ref6_digits (lim n, ()) = some ((beB (bylen n) n, ()), ((), ())) := by
  unfold sol_ref6_digits T_ref6_digits
  refine Eq.trans (bigLoop_rule (I := fun x => x.1 = lim n ∧ (-1 : Int) ≤ x.2.2.1 ∧ x.2.2.1 ≤ (31 : Int) ∧ (x.2.1.length : Int) + x.2.2.1 ≤ (31 : Int) ∧ (x.2.1 = [] → n < 256 ^ (x.2.2.1 + 1).toNat)) (m := fun x => (x.2.2.1 + 1).toNat)
    (g := fun x => some ((x.2.1 ++ (if x.2.1 = [] then beB (bylen n) n else beB (x.2.2.1 + 1).toNat n), ()), ((), ()))) ?_
    ⟨rfl, by simp only; omega, by simp only; omega, by simp only [List.length_nil]; omega, fun _ => hn⟩ (by simp only [bigN_eq]; omega)) ?_
  · rintro ⟨l, o, i, _⟩ again ⟨h1, h2, h3, h4, h5⟩ hag
    simp only at h1 h2 h3 h4 h5 hag ⊢
    subst h1
    simp only [T_ref6_digits_loop0, letR_eq, brR_dec, brR_inR, ge_iff_le, append_def]
    by_cases hi : 0 ≤ i
    · obtain ⟨j, rfl⟩ := Int.eq_ofNat_of_zero_le hi
      have ej : ((j : Int) + 1).toNat = j + 1 := by omega
      rw [if_pos hi, tdiv_pos hi, tmod_pos hi, w_i64 (n := (j : Int) / 8) (by omega) (by omega), w_i64 (n := 8 * ((j : Int) % 8)) (by omega) (by omega), w_u64 (by omega) (by omega), if_pos (by omega), if_pos (by omega), brR_room8 (by omega), w_i64 (by omega) (by omega)]
      rw [show ((j : Int) / 8).toNat = j / 8 by omega, show (8 * ((j : Int) % 8)).toNat = 8 * (j % 8) by omega, byte_out hn (by omega)]
      have hb : beB (j + 1) n = ((n / 256 ^ j % 256 : Nat) : Int) :: beB j n := rfl
      rw [ej] at h5 ⊢
      have step : o.length > 0 ∨ n / 256 ^ j % 256 > 0 → again (lim n, (o ++ [((n / 256 ^ j % 256 : Nat) : Int)], ((j : Int) - 1, ()))) = some ((o ++ (if o = [] then beB (bylen n) n else beB (j + 1) n), ()), ((), ())) := by
        intro hc
        rw [hag _ ⟨rfl, by simp only; omega, by simp only; omega, by simp only [List.length_append, List.length_singleton]; omega, fun h => by simp at h⟩ (by simp only; omega)]
        simp only
        rw [if_neg (by simp), show ((j : Int) - 1 + 1).toNat = j by omega]
        by_cases ho : o = []
        · subst ho
          have h6 := h5 rfl
          have h7 : 256 ^ j ≤ n := by
            rcases Nat.lt_or_ge n (256 ^ j) with h | h
            · rw [Nat.div_eq_of_lt h] at hc; simp at hc
            · exact h
          rw [if_pos rfl, bylen_eq h6 h7, hb]; simp
        · rw [if_neg ho, hb]; simp
      by_cases c1 : (o.length : Int) > 0
      · rw [if_pos c1, step (.inl (by omega))]
      · rw [if_neg c1]
        have ho : o = [] := List.length_eq_zero_iff.1 (by omega)
        by_cases c2 : ((n / 256 ^ j % 256 : Nat) : Int) > 0
        · rw [if_pos c2, step (.inr (by omega))]
        · rw [if_neg c2]
          have h6 := h5 ho
          have hlt : n / 256 ^ j < 256 := by
            rw [Nat.div_lt_iff_lt_mul (Nat.pow_pos (by omega)), Nat.mul_comm, ← Nat.pow_succ]; exact h6
          have h7 : n < 256 ^ j := by
            rw [Nat.mod_eq_of_lt hlt] at c2
            have : n / 256 ^ j = 0 := by generalize n / 256 ^ j = q at *; omega
            exact (Nat.div_eq_zero_iff.1 this).resolve_left (by have := Nat.pow_pos (a := 256) (n := j) (by omega); omega)
          rw [hag _ ⟨rfl, by simp only; omega, by simp only; omega, by simp only; omega, fun _ => by simp only; rw [show ((j : Int) - 1 + 1).toNat = j by omega]; exact h7⟩ (by simp only; omega)]
          simp [ho]
    · have : i = -1 := by omega
      subst this
      rw [if_neg hi]
      by_cases ho : o = []
      · have h6 : n < 1 := h5 ho
        have : n = 0 := by omega
        subst this
        simp [bylen_zero, beB]
      · simp [ho, beB]
  · simp
theorem rAppendUint256_eq {b : List Int} (hb : b.length ≤ 1000000000) {n : Nat} (hn : n < 115792089237316195423570985008687907853269984665640564039457584007913129639936) :
    sol_ref6_AppendUint256 (b, (lim n, ())) = some ((b ++ enc n, ()), ((), ((), ()))) := by
  unfold sol_ref6_AppendUint256 T_ref6_AppendUint256 enc
  have h2 := bylen_256 hn
  rw [digits_eq hn]
  simp only [bind_some', letR_eq, append_def]
  rw [len_beB, w_u8 (by omega) (by omega), brR_room8 (by omega), brR_room8 (by omega), brR_room8 (by simp; omega)]
  simp
theorem rAppendUint64_eq {b : List Int} (hb : b.length ≤ 1000000000) {n : Int} (h0 : 0 ≤ n) (h1 : n ≤ 18446744073709551615) :
    sol_ref6_AppendUint64 (b, (n, ())) = some ((b ++ enc n.toNat, ()), ((), ((), ()))) := by
  unfold sol_ref6_AppendUint64 T_ref6_AppendUint64
  simp only
  rw [lim_small h0 h1, rAppendUint256_eq hb (by omega)]
  rfl
end Go.Pon
set_option autoImplicit false
set_option linter.unusedVariables false
set_option linter.unusedSimpArgs false
namespace Go.Pon
open Go
abbrev MsgT := Int × (Int × (List Int × Unit))
inductive MsgW : MsgT → Prop
  | mk {s t : Int} {v : Nat} (hs : 0 ≤ s ∧ s ≤ 18446744073709551615) (ht : 0 ≤ t ∧ t ≤ 18446744073709551615) (hv : v < 115792089237316195423570985008687907853269984665640564039457584007913129639936) : MsgW (s, (t, (lim v, ())))
abbrev zeroMsg : MsgT := ((0 : Int), ((0 : Int), ([(0 : Int), (0 : Int), (0 : Int), (0 : Int)], ())))
def encMsg (m : MsgT) : List Int := enc m.1.toNat ++ (enc m.2.1.toNat ++ enc (val4 m.2.2.1))
def leafM (m : MsgT) : List Int := leafH (encMsg m)
theorem h32_leafM (m : MsgT) : H32 (leafM m) := h32_leaf _
theorem len_encMsg {m : MsgT} (h : MsgW m) : (encMsg m).length ≤ 1000 ∧ Bytes (encMsg m) := by
  obtain ⟨hs, ht, hv⟩ := h
  rename_i s t v
  have := @bylen_64 s.toNat (by omega); have := @bylen_64 t.toNat (by omega); have := bylen_256 hv
  unfold encMsg
  simp only [val4_lim]
  refine ⟨by simp only [List.length_append, len_enc]; omega, (bytes_enc (by omega)).append ((bytes_enc (by omega)).append (bytes_enc (by omega)))⟩
theorem oEncode_eq {m : MsgT} (h : MsgW m) : sol_outbox_Encode (m, ()) = some ((encMsg m, ()), ((), ())) := by
  obtain ⟨hs, ht, hv⟩ := h
  rename_i s t v
  have := @bylen_64 s.toNat (by omega); have := @bylen_64 t.toNat (by omega); have := bylen_256 hv
  unfold sol_outbox_Encode T_outbox_Encode
  simp only
  rw [appendUint64_eq (by simp) hs.1 hs.2]; simp only [bind_some']
  rw [appendUint64_eq (by simp [len_enc]; omega) ht.1 ht.2]; simp only [bind_some']
  rw [appendUint256_eq (by simp [len_enc]; omega) hv]; simp only [bind_some']
  simp only [encMsg, val4_lim, List.nil_append, List.append_assoc]
theorem rEncodeM_eq {m : MsgT} (h : MsgW m) : sol_ref24_Encode (m, ()) = some ((encMsg m, ()), ((), ())) := by
  obtain ⟨hs, ht, hv⟩ := h
  rename_i s t v
  have := @bylen_64 s.toNat (by omega); have := @bylen_64 t.toNat (by omega); have := bylen_256 hv
  unfold sol_ref24_Encode T_ref24_Encode
  simp only
  rw [rAppendUint64_eq (by simp) hs.1 hs.2]; simp only [bind_some']
  rw [rAppendUint64_eq (by simp [len_enc]; omega) ht.1 ht.2]; simp only [bind_some']
  rw [rAppendUint256_eq (by simp [len_enc]; omega) hv]; simp only [bind_some']
  simp only [encMsg, val4_lim, List.nil_append, List.append_assoc]
theorem oLeaf_eq {m : MsgT} (h : MsgW m) : sol_outbox_Leaf (m, ()) = some ((leafM m, ()), ((), ())) := by
  obtain ⟨h1, h2⟩ := len_encMsg h
  unfold sol_outbox_Leaf T_outbox_Leaf
  simp only
  rw [oEncode_eq h]; simp only [bind_some']
  rw [leaf_eq h2 (by omega)]; simp only [bind_some']
  rfl
theorem rLeafM_eq {m : MsgT} (h : MsgW m) : sol_ref24_Leaf (m, ()) = some ((leafM m, ()), ((), ())) := by
  obtain ⟨h1, h2⟩ := len_encMsg h
  unfold sol_ref24_Leaf T_ref24_Leaf
  simp only
  rw [rEncodeM_eq h]; simp only [bind_some']
  rw [rleaf_eq h2 (by omega)]; simp only [bind_some']
  rfl
def AllM (l : List MsgT) : Prop := ∀ m ∈ l, MsgW m
theorem allH_leafM (l : List MsgT) : AllH (l.map leafM) := fun x hx => by
  obtain ⟨m, _, rfl⟩ := List.mem_map.1 hx
  exact h32_leafM m
theorem AllM.at {l : List MsgT} (h : AllM l) {i : Nat} (hi : i < l.length) (d : MsgT) : MsgW (l.getD i d) := h _ (getD_mem hi)
theorem roomyM {n : Nat} (h : n ≤ 1000000) {α : Type} (a b : Option α) : brR (roomy n (.pair (.int .u64) (.pair (.int .u64) (.pair (.arr 4 (.int .u64)) .unit)))) a b = a := by
  rw [brR_roomy, if_pos ⟨by decide, by simp only [Ty.size]; omega⟩]
def goodM (m : MsgT) (i : Nat) : Bool := decide (m.1 = (i : Int)) && (!decide (m.2.1 = 0) && !decide (val4 m.2.2.1 = 0))
def okM (l : List MsgT) : Bool := (List.range l.length).all fun i => goodM (l.getD i zeroMsg) i
theorem okM_iff {l : List MsgT} : okM l = true ↔ ∀ i, i < l.length → goodM (l.getD i zeroMsg) i = true := by
  unfold okM
  simp only [List.all_eq_true, List.mem_range]
theorem rLeaves_eq {l : List MsgT} (ha : AllM l) (hl : l.length ≤ 100000) {n : Nat} (hn : n ≤ l.length) : sol_ref24_Leaves (l, (((n : Nat) : Int), ())) = some (((l.map leafM).take n, ()), ((), ((), ()))) := by
  unfold sol_ref24_Leaves T_ref24_Leaves
  refine bigLoop_rule (I := fun x => ∃ i : Nat, i ≤ n ∧ x = (l, (((n : Nat) : Int), ((l.map leafM).take i, (((i : Nat) : Int), ()))))) (m := fun x => (((n : Nat) : Int) - x.2.2.2.1).toNat)
    (g := fun _ => some (((l.map leafM).take n, ()), ((), ((), ())))) ?_ ⟨0, by omega, rfl⟩ (by rw [bigN_eq]; simp only; omega)
  rintro x again ⟨i, hi, rfl⟩ hag
  simp only at hag ⊢
  unfold T_ref24_Leaves_loop0
  simp only [brR_dec, brR_inR]
  by_cases h1 : ((i : Nat) : Int) < ((n : Nat) : Int)
  · have hil : i < l.length := by omega
    rw [if_pos h1, if_pos (by omega), Int.toNat_natCast, rLeafM_eq (ha.at hil _)]
    simp only [bind_some', append_def]
    rw [brR_roomH (by simp; omega), w_i64 (by omega) (by omega)]
    have e : (l.map leafM).take i ++ [leafM (l.getD i zeroMsg)] = (l.map leafM).take (i + 1) := by
      rw [← List.map_take, ← List.map_take, take_map_succ hil]
    rw [e]
    rw [hag (l, (((n : Nat) : Int), ((l.map leafM).take (i + 1), (((i : Nat) : Int) + 1, ())))) ⟨i + 1, by omega, by rw [Int.natCast_add]; rfl⟩ (by simp only; omega)]
  · have hil : i = n := by omega
    rw [if_neg h1, hil]
theorem r24Root_in {l : List MsgT} (ha : AllM l) (hl : l.length ≤ 100000) {n : Nat} (hn : n ≤ l.length) : sol_ref24_Root (l, (((n : Nat) : Int), ())) = some ((rootH ((l.map leafM).take n), (true, ())), ((), ((), ()))) := by
  unfold sol_ref24_Root T_ref24_Root
  simp only [brR_dec]
  rw [if_neg (by omega), if_neg (by omega), rLeaves_eq ha hl hn]
  simp only [bind_some']
  rw [rrootOf_eq (by rw [List.length_take]; omega) ((allH_leafM l).take n)]
  rfl
theorem r24Proof_in {l : List MsgT} (ha : AllM l) (hl : l.length ≤ 100000) {i n : Nat} (hi : i < n) (hn : n ≤ l.length) : sol_ref24_Proof (l, (((i : Nat) : Int), (((n : Nat) : Int), ()))) = some ((proofH ((l.map leafM).take n) i, (true, ())), ((), ((), ((), ())))) := by
  unfold sol_ref24_Proof T_ref24_Proof
  simp only [brR_dec]
  rw [if_neg (by omega), if_neg (by omega), if_neg (by omega), rLeaves_eq ha hl hn]
  simp only [bind_some']
  rw [rproof_eq (by rw [List.length_take]; omega) (by rw [List.length_take, List.length_map]; omega) ((allH_leafM l).take n)]
  rfl
end Go.Pon
set_option autoImplicit false
set_option linter.unusedVariables false
set_option linter.unusedSimpArgs false
namespace Go.Pon
open Go
theorem isNaN_eq (x : Int) : sol_cmp_isNaN_api_Address (x, ()) = some ((false, ()), ((), ())) := by
  unfold sol_cmp_isNaN_api_Address T_cmp_isNaN_api_Address
  simp
def cmpI (x y : Int) : Int := if x < y then -1 else if x > y then 1 else 0
theorem compare_eq (x y : Int) : sol_cmp_Compare_api_Address (x, (y, ())) = some ((cmpI x y, ()), ((), ((), ()))) := by
  unfold sol_cmp_Compare_api_Address T_cmp_Compare_api_Address
  rw [isNaN_eq, isNaN_eq]
  simp only [bind_some', brR_false, brR_dec]
  unfold cmpI
  by_cases h : x < y
  · rw [if_pos h, if_pos h]
  · rw [if_neg h, if_neg h]
    by_cases h2 : x > y
    · rw [if_pos h2, if_pos h2]
    · rw [if_neg h2, if_neg h2]
theorem half_eq {i j : Nat} (h : i + j ≤ 4000000) : IntKind.wrap .i64 (Int.fdiv (IntKind.wrap .u64 (IntKind.wrap .i64 (((i : Nat) : Int) + ((j : Nat) : Int)))) 2) = (((i + j) / 2 : Nat) : Int) := by
  rw [w_i64 (n := ((i : Nat) : Int) + ((j : Nat) : Int)) (by omega) (by omega), w_u64 (by omega) (by omega), Int.fdiv_eq_ediv_of_nonneg _ (by omega), w_i64 (by omega) (by omega)]
  omega
def okA (l : List AccT) (i : Nat) : Prop := (l.getD i zAcc).1 ≠ 0 ∧ ¬ isE (l.getD i zAcc) ∧ (0 < i → (l.getD (i - 1) zAcc).1 < (l.getD i zAcc).1)
def VA (l : List AccT) : Prop := ∀ i, i < l.length → okA l i
theorem VA.srt {l : List AccT} (h : VA l) : Srt l := by
  refine List.pairwise_iff_getElem.2 fun i j hi hj hij => ?_
  have key : ∀ d, i + 1 + d < l.length → (l.getD i zAcc).1 < (l.getD (i + 1 + d) zAcc).1 := by
    intro d
    induction d with
    | zero => intro hd; exact (h (i + 1) (by omega)).2.2 (by omega)
    | succ d ih =>
      intro hd
      have h1 := ih (by omega)
      have h2 := (h (i + 1 + (d + 1)) hd).2.2 (by omega)
      rw [show i + 1 + (d + 1) - 1 = i + 1 + d by omega] at h2
      omega
  have := key (j - i - 1) (by omega)
  rw [show i + 1 + (j - i - 1) = j by omega, List.getD_eq_getElem?_getD, List.getElem?_eq_getElem hi, List.getD_eq_getElem?_getD, List.getElem?_eq_getElem hj] at this
  exact this
theorem mem_getD {l : List AccT} {x : AccT} (h : x ∈ l) : ∃ i, i < l.length ∧ l.getD i zAcc = x := by
  obtain ⟨i, hi, rfl⟩ := List.getElem_of_mem h
  exact ⟨i, hi, by rw [List.getD_eq_getElem?_getD, List.getElem?_eq_getElem hi]; rfl⟩
theorem VA.ne {l : List AccT} (h : VA l) : NE l := fun x hx => by
  obtain ⟨i, hi, rfl⟩ := mem_getD hx
  exact (h i hi).2.1
end Go.Pon
set_option autoImplicit false
set_option linter.unusedVariables false
set_option linter.unusedSimpArgs false
namespace Go.Pon
open Go
theorem zP2_eq : (((0 : Int), ([(0 : Int), (0 : Int), (0 : Int), (0 : Int)], ())) : PayT) = zPay := rfl
abbrev EscT := List (List Int) × (List Bool × (List Int × (List PayT × Unit)))
abbrev esc (r : List (List Int)) (cl : List Bool) (h : Nat) (p : List PayT) : EscT := (r, (cl, (lim h, (p, ()))))
theorem roomyQ {n : Nat} (h : n ≤ 1000000) : roomy n (.pair (.int .u64) (.pair (.arr 4 (.int .u64)) .unit)) = true := by
  rw [roomy_dec, decide_eq_true_eq]
  exact ⟨by decide, by simp only [Ty.size]; omega⟩
theorem roomyBo {n : Nat} (h : n ≤ 1000000) : roomy n .bool = true := by
  rw [roomy_dec, decide_eq_true_eq]
  exact ⟨by decide, by simp only [Ty.size]; omega⟩
theorem roomyHa {n : Nat} (h : n ≤ 1000000) : roomy n (.arr 32 (.int .u8)) = true := by
  rw [roomy_dec, decide_eq_true_eq]
  exact ⟨by decide, by simp only [Ty.size]; omega⟩
theorem clonePay_eq {l : List PayT} (h : l.length ≤ 1000000) : sol_slices_Clone_api_Payment_api_Payment (l, ()) = some ((l, ()), ((), ())) := by
  unfold sol_slices_Clone_api_Payment_api_Payment T_slices_Clone_api_Payment_api_Payment
  try simp only [letR_eq]
  rw [roomyQ (by omega), brR_true, brR_dec]
  split
  · rename_i h0
    have : l = [] := List.length_eq_zero_iff.1 h0
    subst this
    exact bothR_eq rfl rfl
  · rfl
theorem cloneBo_eq {l : List Bool} (h : l.length ≤ 1000000) : sol_slices_Clone_bool_bool (l, ()) = some ((l, ()), ((), ())) := by
  unfold sol_slices_Clone_bool_bool T_slices_Clone_bool_bool
  try simp only [letR_eq]
  rw [roomyBo (by omega), brR_true, brR_dec]
  split
  · rename_i h0
    have : l = [] := List.length_eq_zero_iff.1 h0
    subst this
    exact bothR_eq rfl rfl
  · rfl
theorem cloneHa_eq {l : List (List Int)} (h : l.length ≤ 1000000) : sol_slices_Clone_api_Hash_api_Hash (l, ()) = some ((l, ()), ((), ())) := by
  unfold sol_slices_Clone_api_Hash_api_Hash T_slices_Clone_api_Hash_api_Hash
  try simp only [letR_eq]
  rw [roomyHa (by omega), brR_true, brR_dec]
  split
  · rename_i h0
    have : l = [] := List.length_eq_zero_iff.1 h0
    subst this
    exact bothR_eq rfl rfl
  · rfl
theorem insertPay_eq {l : List PayT} {p : PayT} {i : Nat} (h : l.length ≤ 999990) (hi : i ≤ l.length) : sol_slices_Insert_api_Payment_api_Payment (l, (((i : Nat) : Int), ([p], ()))) = some ((l.take i ++ (p :: l.drop i), ()), ((), ((), ((), ())))) := by
  unfold sol_slices_Insert_api_Payment_api_Payment T_slices_Insert_api_Payment_api_Payment insF
  have hr : roomy (List.length l + List.length [p]) (.pair (.int .u64) (.pair (.arr 4 (.int .u64)) .unit)) = true := roomyQ (by simp; omega)
  have hc : (0 : Int) ≤ ((i : Nat) : Int) ∧ ((i : Nat) : Int) ≤ ((List.length l : Nat) : Int) ∧ 0 < List.length [p] ∧ roomy (List.length l + List.length [p]) (.pair (.int .u64) (.pair (.arr 4 (.int .u64)) .unit)) = true := ⟨by omega, by omega, by simp, hr⟩
  simp only
  rw [if_pos hc, Int.toNat_natCast]
  rfl
theorem efind1_eq (x : PayT) (a : Int) : sol_escrow_Escrow_find_1 (x, (a, ())) = some ((cmpI x.1 a, ()), ((), ((), ()))) := by
  unfold sol_escrow_Escrow_find_1 T_escrow_Escrow_find_1
  rw [compare_eq]; rfl
theorem bsP_eq {l : List PayT} {a : Int} (hs : SrtP l) (hl : l.length ≤ 1000000) :
    sol_slices_BinarySearchFunc_api_Payment_api_Payment_api_Address (l, (a, ((), ()))) = some ((((cntQ l a : Nat) : Int), (decide (foundQ l a), ())), ((), ((), ((), ())))) := by
  unfold sol_slices_BinarySearchFunc_api_Payment_api_Payment_api_Address T_slices_BinarySearchFunc_api_Payment_api_Payment_api_Address
  try simp only [letR_eq]
  have hc := cntQ_le a l
  refine bigLoop_rule (I := fun x => ∃ i j : Nat, i ≤ cntQ l a ∧ cntQ l a ≤ j ∧ j ≤ l.length ∧ x = (l, (a, ((), (((l.length : Nat) : Int), (((i : Nat) : Int), (((j : Nat) : Int), ()))))))) (m := fun x => (x.2.2.2.2.2.1 - x.2.2.2.2.1).toNat)
    (g := fun _ => some ((((cntQ l a : Nat) : Int), (decide (foundQ l a), ())), ((), ((), ((), ()))))) ?_ ⟨0, l.length, by omega, hc, by omega, rfl⟩ (by rw [bigN_eq]; simp only; omega)
  rintro x again ⟨i, j, h1, h2, h3, rfl⟩ hag
  simp only at hag ⊢
  unfold T_slices_BinarySearchFunc_api_Payment_api_Payment_api_Address_loop0
  rw [zP2_eq]
  simp only [letR_eq, brR_dec, brR_inR]
  rw [half_eq (by omega)]
  by_cases hij : ((i : Nat) : Int) < ((j : Nat) : Int)
  · have hm : (i + j) / 2 < l.length := by omega
    rw [if_pos hij, if_pos (by omega), Int.toNat_natCast, efind1_eq]
    simp only [bind_some', brR_dec]
    unfold cmpI
    generalize hk : (i + j) / 2 = k at *
    by_cases hlt : (l.getD k zPay).1 < a
    · rw [if_pos (by rw [if_pos hlt]; decide), w_i64 (by omega) (by omega)]
      have : k < cntQ l a := by
        rcases Nat.lt_or_ge k (cntQ l a) with h | h
        · exact h
        · have := cntQ_ge hs h hm; omega
      exact hag _ ⟨k + 1, j, by omega, h2, h3, by rw [Int.natCast_add]; rfl⟩ (by simp only; omega)
    · rw [if_neg (by rw [if_neg hlt]; split <;> decide)]
      have : cntQ l a ≤ k := by
        rcases Nat.lt_or_ge k (cntQ l a) with h | h
        · exact absurd (cntQ_lt h) hlt
        · exact h
      exact hag _ ⟨i, k, h1, this, by omega, rfl⟩ (by simp only; omega)
  · have hi : i = cntQ l a := by omega
    subst hi
    rw [if_neg hij]
    by_cases hin : ((cntQ l a : Nat) : Int) < ((l.length : Nat) : Int)
    · rw [if_pos hin, if_pos (by omega), Int.toNat_natCast, efind1_eq]
      simp only [bind_some']
      have hge := cntQ_at (l := l) (a := a) (by omega)
      unfold cmpI foundQ
      by_cases he : (l.getD (cntQ l a) zPay).1 = a
      · rw [decide_eq_true (show cntQ l a < l.length ∧ (l.getD (cntQ l a) zPay).1 = a from ⟨by omega, he⟩), if_neg (by omega), if_neg (by omega)]; rfl
      · rw [decide_eq_false (show ¬ (cntQ l a < l.length ∧ (l.getD (cntQ l a) zPay).1 = a) from fun h => he h.2), if_neg (by omega), if_pos (by omega)]; rfl
    · rw [if_neg hin]
      unfold foundQ
      rw [decide_eq_false (show ¬ (cntQ l a < l.length ∧ (l.getD (cntQ l a) zPay).1 = a) from fun h => by omega)]
theorem efind_eq {r : List (List Int)} {cl : List Bool} {h : List Int} {l : List PayT} {a : Int} (hs : SrtP l) (hl : l.length ≤ 1000000) :
    sol_escrow_Escrow_find ((r, (cl, (h, (l, ())))), (a, ())) = some ((((cntQ l a : Nat) : Int), (decide (foundQ l a), ())), ((r, (cl, (h, (l, ())))), ((), ()))) := by
  unfold sol_escrow_Escrow_find T_escrow_Escrow_find
  simp only
  rw [bsP_eq hs hl]; rfl
theorem l1bal_eq {r : List (List Int)} {cl : List Bool} {h : List Int} {l : List PayT} {a : Int} (hs : SrtP l) (hl : l.length ≤ 1000000) :
    sol_escrow_Escrow_L1Balance (some (r, (cl, (h, (l, ())))), (a, ())) = some (((pget l a).2.1, ()), (some (r, (cl, (h, (l, ())))), ((), ()))) := by
  unfold sol_escrow_Escrow_L1Balance T_escrow_Escrow_L1Balance
  simp only [optR_some]
  rw [efind_eq hs hl]
  simp only [bind_some', brR_dec, brR_inR]
  rw [zP2_eq, pget_cnt hs]
  by_cases hf : foundQ l a
  · rw [if_pos hf, if_pos hf]
    have := hf.1
    rw [if_pos (by omega), Int.toNat_natCast]
  · rw [if_neg hf, if_neg hf]
abbrev pbal (l : List PayT) (a : Int) : Nat := val4 (pget l a).2.1
theorem pget_mk {l : List PayT} {a : Int} (h : AllPay l) (ha : U64 a) : pget l a = (a, (lim (pbal l a), ())) ∧ B256 (pbal l a) := by
  have hw := pgetW h ha
  have hf := pget_fst l a
  unfold pbal
  generalize pget l a = x at hw hf ⊢
  obtain ⟨h1, h2⟩ := hw
  simp only at hf ⊢
  subst hf
  rw [val4_lim]
  exact ⟨rfl, h2⟩
structure EInv (r : List (List Int)) (cl : List Bool) (h : Nat) (p : List PayT) : Prop where
  len : cl.length = r.length
  held : B256 h
  srt : SrtP p
  ne : NEP p
  all : AllPay p
theorem enew_eq : sol_escrow_New () = some ((esc [] [] 0 [], ()), ()) := rfl
theorem einv_nil : EInv [] [] 0 [] := ⟨rfl, by unfold B256; omega, List.Pairwise.nil, fun x h => by simp at h, fun x h => by simp at h⟩
theorem deposit_eq {r : List (List Int)} {cl : List Bool} {h : Nat} {p : List PayT} {n : Nat} (hh : B256 h) (hn : B256 n) :
    sol_escrow_Escrow_Deposit (some (esc r cl h p), (lim n, ())) = some (((if n = 0 then (2 : Int) else if h + n < 115792089237316195423570985008687907853269984665640564039457584007913129639936 then 0 else 4), ()),
      (some (esc r cl (if n = 0 then h else if h + n < 115792089237316195423570985008687907853269984665640564039457584007913129639936 then h + n else h) p), ((), ()))) := by
  unfold sol_escrow_Escrow_Deposit T_escrow_Escrow_Deposit
  simp only [optR_some]
  rw [← lim0, eqD_lim, brR_dec]
  by_cases c : n = 0
  · simp only [if_pos c]
  simp only [if_neg c]
  rw [uAdd_eq hh hn]
  simp only [bind_some', brR_not, brR_dec]
  by_cases c2 : h + n < 115792089237316195423570985008687907853269984665640564039457584007913129639936
  · simp only [if_pos c2, if_true]
  · simp only [if_neg c2]
    rw [if_neg (by decide)]
theorem appendRoot_eq {r : List (List Int)} {cl : List Bool} {h : Nat} {p : List PayT} {x : List Int} (hl : r.length ≤ 999990) (hc : cl.length = r.length) :
    sol_escrow_Escrow_AppendRoot (some (esc r cl h p), (x, ())) = some ((((r.length + 1 : Nat) : Int), ()), (some (esc (r ++ [x]) (cl ++ [false]) h p), ((), ()))) := by
  unfold sol_escrow_Escrow_AppendRoot T_escrow_Escrow_AppendRoot
  simp only [letR_eq, optR_some]
  rw [roomyHa (by omega), brR_true, roomyBo (by omega), brR_true, append_def, append_def, List.length_append, List.length_singleton]
theorem ebal_eq (r : List (List Int)) (cl : List Bool) (h : Nat) (p : List PayT) : sol_escrow_Escrow_Balance (some (esc r cl h p), ()) = some ((lim h, ()), (some (esc r cl h p), ())) := rfl
theorem l1bals_eq {r : List (List Int)} {cl : List Bool} {h : Nat} {p : List PayT} (hl : p.length ≤ 1000000) : sol_escrow_Escrow_L1Balances (some (esc r cl h p), ()) = some ((p, ()), (some (esc r cl h p), ())) := by
  unfold sol_escrow_Escrow_L1Balances T_escrow_Escrow_L1Balances
  simp only [optR_some]
  rw [clonePay_eq hl]; rfl
theorem ecopy_eq {r : List (List Int)} {cl : List Bool} {h : Nat} {p : List PayT} (hr : r.length ≤ 1000000) (hc : cl.length = r.length) (hl : p.length ≤ 1000000) :
    sol_escrow_Escrow_Copy (some (esc r cl h p), ()) = some ((some (esc r cl h p), ()), (some (esc r cl h p), ())) := by
  unfold sol_escrow_Escrow_Copy T_escrow_Escrow_Copy
  simp only [optR_some]
  rw [cloneHa_eq hr]
  simp only [bind_some']
  rw [cloneBo_eq (by omega)]
  simp only [bind_some']
  rw [clonePay_eq hl]; rfl
abbrev ClmT := Int × (Int × (Int × (List Int × (List (List Int) × Unit))))
inductive ClmW : ClmT → Prop
  | mk {s z t : Int} {n : Nat} {p : List (List Int)} (hs : U64 s) (hz : U64 z) (ht : U64 t) (hn : B256 n) (hp : AllH p) : ClmW (s, (z, (t, (lim n, (p, ())))))
noncomputable def chkC (r : List (List Int)) (cl : List Bool) (s z t : Int) (n : Nat) (p : List (List Int)) : Int :=
  if t = 0 ∨ n = 0 ∨ 64 < p.length then 2 else if z < 1 ∨ ((r.length : Nat) : Int) < z ∨ z ≤ s then 8 else if cl.getD s.toNat false = true then 9 else
    if verifyH (r.getD (z - 1).toNat Z32) z s (leafM (s, (t, (lim n, ())))) p = true then 0 else 16
theorem checkClaim_eq {r : List (List Int)} {cl : List Bool} {h : Nat} {q : List PayT} {s z t : Int} {n : Nat} {p : List (List Int)} (hc : cl.length = r.length) (hr : r.length ≤ 1000000) (hw : ClmW (s, (z, (t, (lim n, (p, ())))))) :
    sol_escrow_Escrow_checkClaim (some (esc r cl h q), ((s, (z, (t, (lim n, (p, ()))))), ())) = some ((chkC r cl s z t n p, ()), (some (esc r cl h q), ((), ()))) := by
  generalize hcc : (s, (z, (t, (lim n, (p, ()))))) = c at hw
  obtain ⟨hs, hz, ht, hn, hp⟩ := hw
  rename_i s' z' t' n' p'
  obtain ⟨rfl, rfl, rfl, h4, rfl⟩ : s = s' ∧ z = z' ∧ t = t' ∧ lim n = lim n' ∧ p = p' := by
    have := hcc
    simp only [Prod.mk.injEq, and_true] at this
    exact this
  have h4 := lim_inj.1 h4
  subst h4
  clear hcc
  unfold U64 at hs hz ht
  unfold sol_escrow_Escrow_checkClaim T_escrow_Escrow_checkClaim chkC
  simp only [letR_eq, optR_some]
  rw [brR_dec]
  by_cases c1 : t = 0
  · rw [if_pos c1, if_pos (.inl c1)]
  rw [if_neg c1, ← lim0, eqD_lim, brR_dec]
  by_cases c2 : n = 0
  · rw [if_pos c2, if_pos (.inr (.inl c2))]
  rw [if_neg c2, brR_dec]
  by_cases c3 : ((p.length : Nat) : Int) > 64
  · rw [if_pos c3, if_pos (.inr (.inr (by omega)))]
  rw [if_neg c3, if_neg (by omega), brR_dec]
  by_cases c4 : z < 1
  · rw [if_pos c4, if_pos (.inl c4)]
  rw [if_neg c4, brR_dec, w_u64 (n := ((r.length : Nat) : Int)) (by omega) (by omega)]
  by_cases c5 : z > ((r.length : Nat) : Int)
  · rw [if_pos c5, if_pos (.inr (.inl c5))]
  rw [if_neg c5, brR_dec]
  by_cases c6 : s ≥ z
  · rw [if_pos c6, if_pos (.inr (.inr c6))]
  rw [if_neg c6, if_neg (by omega), brR_inR, if_pos (by omega), brR_ite]
  by_cases c7 : cl.getD s.toNat false = true
  · rw [if_pos c7, if_pos c7]
  rw [if_neg c7, if_neg c7, oLeaf_eq (MsgW.mk hs ht hn)]
  simp only [bind_some']
  rw [brR_inR, w_u64 (by omega) (by omega), if_pos (by omega), w_i64 (n := z) (by omega) (by omega), w_i64 (n := s) (by omega) (by omega), verify_eq (by omega) (by omega) (h32_leafM _) hp]
  simp only [bind_some']
  rw [brR_not, brR_ite]
  split <;> rfl
noncomputable def clmS (r : List (List Int)) (cl : List Bool) (h : Nat) (q : List PayT) (s z t : Int) (n : Nat) (p : List (List Int)) : Int × (List Bool × (Nat × List PayT)) :=
  if chkC r cl s z t n p = 0 then (if n ≤ h then (if pbal q t + n < 115792089237316195423570985008687907853269984665640564039457584007913129639936 then (0, (cl.set s.toNat true, (h - n, pput q (t, (lim (pbal q t + n), ()))))) else (4, (cl, (h, q)))) else (10, (cl, (h, q))))
  else (chkC r cl s z t n p, (cl, (h, q)))
theorem chkC_zero {r : List (List Int)} {cl : List Bool} {s z t : Int} {n : Nat} {p : List (List Int)} (h : chkC r cl s z t n p = 0) : t ≠ 0 ∧ n ≠ 0 ∧ 1 ≤ z ∧ z ≤ ((r.length : Nat) : Int) ∧ s < z ∧ cl.getD s.toNat false = false := by
  unfold chkC at h
  split at h
  · omega
  · split at h
    · omega
    · split at h
      · omega
      · rename_i h1 h2 h3
        refine ⟨by omega, by omega, by omega, by omega, by omega, by simpa using h3⟩
theorem claim_eq {r : List (List Int)} {cl : List Bool} {h : Nat} {q : List PayT} {s z t : Int} {n : Nat} {p : List (List Int)} (hi : EInv r cl h q) (hr : r.length ≤ 1000000) (hq : q.length ≤ 999000) (hw : ClmW (s, (z, (t, (lim n, (p, ())))))) (hs : U64 s) (ht : U64 t) (hn : B256 n) :
    sol_escrow_Escrow_Claim (some (esc r cl h q), ((s, (z, (t, (lim n, (p, ()))))), ())) = some (((clmS r cl h q s z t n p).1, ()), (some (esc r (clmS r cl h q s z t n p).2.1 (clmS r cl h q s z t n p).2.2.1 (clmS r cl h q s z t n p).2.2.2), ((), ()))) := by
  have hc := hi.len
  unfold sol_escrow_Escrow_Claim T_escrow_Escrow_Claim clmS
  simp only [optR_some]
  rw [checkClaim_eq hc hr hw]
  simp only [bind_some', optR_some]
  rw [brR_not, brR_dec]
  by_cases c : chkC r cl s z t n p = 0
  case neg => simp only [if_neg c]
  obtain ⟨z1, z2, z3, z4, z5, z6⟩ := chkC_zero c
  unfold U64 at hs
  simp only [if_pos c]
  have hh := hi.held
  by_cases c2 : n ≤ h
  case neg =>
    simp only [if_neg c2]
    rw [uSub_bad (by omega) hn]
    simp only [bind_some']
    rw [brR_not, brR_dec, if_neg (by decide)]
  simp only [if_pos c2]
  rw [uSub_ok hh c2]
  simp only [bind_some']
  rw [brR_not, brR_dec, if_pos trivial, l1bal_eq hi.srt (by omega)]
  obtain ⟨e, hb⟩ := pget_mk hi.all ht
  have e1 : (pget q t).2.1 = lim (pbal q t) := by rw [e]
  clear e
  generalize pbal q t = m at *
  simp only [bind_some', optR_some]
  rw [e1, uAdd_eq hb hn, bind_some']
  dsimp only
  rw [brR_not, brR_dec]
  by_cases c3 : m + n < 115792089237316195423570985008687907853269984665640564039457584007913129639936
  case neg =>
    simp only [if_neg c3]
    rw [if_neg (by decide)]
  simp only [if_pos c3, if_true]
  rw [brR_inR, if_pos (by omega), efind_eq hi.srt (by omega)]
  simp only [bind_some']
  rw [brR_dec, zP2_eq, pput_cnt]
  have hne : ¬ isEP (t, (lim (m + n), ())) := by
    unfold isEP
    simp only [Prod.mk.injEq, true_and, and_true]
    rw [← lim0, lim_inj]
    omega
  rw [if_neg hne, if_neg hne]
  by_cases c4 : foundQ q t
  · have h1 := c4.1
    have h2 := c4.2
    rw [if_pos c4, if_pos c4, brR_inR, if_pos (by omega), Int.toNat_natCast, h2]
  · have hcn := cntQ_le t q
    rw [if_neg c4, if_neg c4, insertPay_eq (by omega) hcn]
    rfl
end Go.Pon
set_option autoImplicit false
set_option linter.unusedVariables false
set_option linter.unusedSimpArgs false
namespace Go.Pon
open Go
structure ERel (r : List (List Int)) (cl : List Bool) (h : Nat) (p : List PayT) (cs : List Int) (m : List PayT) : Prop where
  inv : EInv r cl h p
  cls : ∀ s : Int, 0 ≤ s → (s ∈ cs ↔ cl.getD s.toNat false = true)
  dist : DistP m
  all : AllPay m
  ne : NEP m
  sort : psort m = p
theorem ERel.pget {r : List (List Int)} {cl : List Bool} {h : Nat} {p : List PayT} {cs : List Int} {m : List PayT} (e : ERel r cl h p cs m) (a : Int) : Go.Pon.pget m a = Go.Pon.pget p a := by
  rw [← e.sort, pget_psort e.dist]
end Go.Pon
set_option autoImplicit false
set_option linter.unusedVariables false
set_option linter.unusedSimpArgs false
namespace Go.Pon
open Go
abbrev SendT := Int × (List Int × (Bool × Unit))
abbrev zeroSend : SendT := Go.Pon.Ty.zero ((Go.Pon.Ty.int Go.IntKind.u64).pair ((Go.Pon.Ty.arr 4 (Go.Pon.Ty.int Go.IntKind.u64)).pair (Go.Pon.Ty.bool.pair Go.Pon.Ty.unit)))
def SendW (s : SendT) : Prop := (0 ≤ s.1 ∧ s.1 ≤ 18446744073709551615) ∧ ∃ v : Nat, v < 115792089237316195423570985008687907853269984665640564039457584007913129639936 ∧ s.2.1 = lim v
def mkM (s : SendT) (i : Nat) : MsgT := ((i : Int), (1 + s.1 % 6, ([1 + List.getD s.2.1 0 0 % 1000, 0, List.getD s.2.1 1 0 % 2, 0], ())))
theorem limb_u64 {v i : Nat} (hv : v < 115792089237316195423570985008687907853269984665640564039457584007913129639936) : 0 ≤ List.getD (lim v) i 0 ∧ List.getD (lim v) i 0 ≤ 18446744073709551615 := by
  unfold lim
  match i with
  | 0 => simp only [List.getD_cons_zero]; omega
  | 1 => simp only [List.getD_cons_succ, List.getD_cons_zero]; omega
  | 2 => simp only [List.getD_cons_succ, List.getD_cons_zero]; omega
  | 3 => simp only [List.getD_cons_succ, List.getD_cons_zero]; omega
  | n + 4 => simp
theorem mkM_good {s : SendT} (h : SendW s) {i : Nat} (hi : i ≤ 1000000) : MsgW (mkM s i) ∧ goodM (mkM s i) i = true := by
  obtain ⟨h1, v, hv, h2⟩ := h
  have a0 := @limb_u64 v 0 hv
  have a1 := @limb_u64 v 1 hv
  rw [← h2] at a0 a1
  obtain ⟨w, hw, e⟩ := lim_of (a := 1 + List.getD s.2.1 0 0 % 1000) (b := 0) (c := List.getD s.2.1 1 0 % 2) (d := 0) (by omega) (by omega) (by omega) (by omega)
  have hw0 : w ≠ 0 := by
    rintro rfl
    have : (1 + List.getD s.2.1 0 0 % 1000 : Int) = 0 := congrArg (fun l => List.getD l 0 (0 : Int)) e
    omega
  unfold mkM
  rw [e]
  refine ⟨.mk (by omega) (by omega) hw, ?_⟩
  unfold goodM
  simp only [val4_lim]
  have : ¬ (1 + s.1 % 6 = 0) := by omega
  simp [this, hw0]
def AllS (l : List SendT) : Prop := ∀ s ∈ l, SendW s
def vmsgs (l : List SendT) (n : Nat) : List MsgT := (List.range n).map fun i => mkM (List.getD l i zeroSend) i
theorem len_vmsgs (l : List SendT) (n : Nat) : (vmsgs l n).length = n := by simp [vmsgs]
theorem vmsgs_succ (l : List SendT) (n : Nat) : vmsgs l (n + 1) = vmsgs l n ++ [mkM (List.getD l n zeroSend) n] := by simp [vmsgs, List.range_succ]
theorem vmsgs_getD {l : List SendT} {n i : Nat} (h : i < n) (d : MsgT) : (vmsgs l n).getD i d = mkM (List.getD l i zeroSend) i := by
  simp [vmsgs, List.getD_eq_getElem?_getD, h]
theorem vmsgs_ok {l : List SendT} (ha : AllS l) (hl : l.length ≤ 1000000) : AllM (vmsgs l l.length) ∧ okM (vmsgs l l.length) = true := by
  refine ⟨fun m hm => ?_, okM_iff.2 fun i hi => ?_⟩
  · obtain ⟨i, hi, rfl⟩ := List.mem_map.1 hm
    have hi := List.mem_range.1 hi
    exact (mkM_good (ha _ (getD_mem hi)) (by omega)).1
  · rw [len_vmsgs] at hi
    rw [vmsgs_getD hi]
    exact (mkM_good (ha _ (getD_mem hi)) (by omega)).2
theorem lawValid_eq {l : List SendT} (ha : AllS l) (hl : l.length ≤ 10000) : sol_law24_ValidMessages (l, ()) = some ((vmsgs l l.length, ()), ((), ())) := by
  unfold sol_law24_ValidMessages T_law24_ValidMessages
  refine bigLoop_rule (I := fun x => ∃ i : Nat, i ≤ l.length ∧ x = (l, (vmsgs l i, (((i : Nat) : Int), ())))) (m := fun x => (((l.length : Nat) : Int) - x.2.2.1).toNat)
    (g := fun _ => some ((vmsgs l l.length, ()), ((), ()))) ?_ ⟨0, by omega, rfl⟩ (by rw [bigN_eq]; simp only; omega)
  rintro x again ⟨i, hi, rfl⟩ hag
  simp only at hag ⊢
  unfold T_law24_ValidMessages_loop0
  simp only [letR_eq, brR_dec, brR_inR]
  by_cases h1 : ((i : Nat) : Int) < ((l.length : Nat) : Int)
  · have hil : i < l.length := by omega
    rw [if_pos h1, if_pos (by omega), if_pos (by omega), if_pos (by omega), roomyM (by rw [len_vmsgs]; omega), Int.toNat_natCast, append_def]
    have hs := ha _ (getD_mem (d := zeroSend) hil)
    have e : (((IntKind.wrap .u64 ((i : Nat) : Int)), ((IntKind.wrap .u64 ((1 : Int) + (Int.tmod (List.getD l i zeroSend).1 (6 : Int)))), ([(IntKind.wrap .u64 ((1 : Int) + (Int.tmod (List.getD (List.getD l i zeroSend).2.1 0 (0 : Int)) (1000 : Int)))), (0 : Int), (Int.tmod (List.getD (List.getD l i zeroSend).2.1 1 (0 : Int)) (2 : Int)), (0 : Int)], ()))) : MsgT) = mkM (List.getD l i zeroSend) i := by
      obtain ⟨h1, v, hv, h2⟩ := hs
      have a0 := @limb_u64 v 0 hv
      have a1 := @limb_u64 v 1 hv
      rw [← h2] at a0 a1
      rw [tmod_pos h1.1, tmod_pos a0.1, tmod_pos a1.1, w_u64 (by omega) (by omega), w_u64 (by omega) (by omega), w_u64 (by omega) (by omega)]
      rfl
    rw [show (Go.Pon.Ty.zero ((Go.Pon.Ty.int Go.IntKind.u64).pair ((Go.Pon.Ty.arr 4 (Go.Pon.Ty.int Go.IntKind.u64)).pair (Go.Pon.Ty.bool.pair Go.Pon.Ty.unit))) : SendT) = zeroSend from rfl, e, ← vmsgs_succ, w_i64 (by omega) (by omega)]
    exact hag _ ⟨i + 1, by omega, by rw [Int.natCast_add]; rfl⟩ (by simp only; omega)
  · have hil : i = l.length := by omega
    rw [if_neg h1, hil]
theorem allS_wf {s : List SendT} (h : (Ty.slice (.pair (.int .u64) (.pair (.arr 4 (.int .u64)) (.pair .bool .unit)))).wf s) : AllS s := fun x hx => by
  obtain ⟨a, v, b, _⟩ := x
  obtain ⟨h1, h2, _⟩ := h.2 _ hx
  obtain ⟨n, hn, rfl⟩ := u256_wf h2
  exact ⟨inK_u64.1 h1, n, hn, rfl⟩
theorem AllM.append {l e : List MsgT} (h : AllM l) (h2 : AllM e) : AllM (l ++ e) := fun x hx => by
  rcases List.mem_append.1 hx with h' | h'
  · exact h x h'
  · exact h2 x h'
theorem AllM.one {m : MsgT} (h : MsgW m) : AllM [m] := fun x hx => by
  rw [List.mem_singleton.1 hx]; exact h
theorem AllM.set {l : List MsgT} (h : AllM l) (k : Nat) {m : MsgT} (hm : MsgW m) : AllM (List.set l k m) := fun x hx => by
  rcases List.mem_or_eq_of_mem_set hx with h' | h'
  · exact h x h'
  · rw [h']; exact hm
end Go.Pon
set_option autoImplicit false
set_option linter.unusedVariables false
set_option linter.unusedSimpArgs false
set_option maxRecDepth 100000
namespace Go.Pon
open Go
theorem allH_wf {l : List (List Int)} (h : (Ty.slice (.arr 32 (.int .u8))).wf l) : AllH l := fun x hx => h32_wf (h.2 x hx)
end Go.Pon
set_option autoImplicit false
namespace Go.Pon
open Go
theorem bigLoop_pred {ω δ : Type} {round : (δ → Option ω) → δ → Option ω} (I : δ → Prop) (m : δ → Nat) (P : Option ω → Prop)
    (h : ∀ x (again : δ → Option ω), I x → (∀ y, I y → m y < m x → P (again y)) → P (round again x)) {x : δ} (hx : I x) (hm : m x < bigN) : P (bigLoop ω δ round x) := by
  have key : ∀ n x, I x → m x < n → P (loopN round n x) := by
    intro n
    induction n with
    | zero => intro x _ hm; omega
    | succ n ih =>
      intro x hx hm
      rw [loopN_succ]
      exact h x _ hx fun y hy hlt => ih y hy (by omega)
  rw [bigLoop_def]
  exact key bigN x hx hm
end Go.Pon
set_option autoImplicit false
set_option linter.unusedVariables false
set_option linter.unusedSimpArgs false
namespace Go.Pon
open Go
abbrev ECall := Int × (Int × (Int × (Int × (List Int × (List Int × (ClmT × Unit))))))
abbrev zECall : ECall := ((0 : Int), ((0 : Int), ((0 : Int), ((0 : Int), ([(0 : Int), (0 : Int), (0 : Int), (0 : Int)], ((List.replicate (32 : Nat) (0 : Int)), (((0 : Int), ((0 : Int), ((0 : Int), ([(0 : Int), (0 : Int), (0 : Int), (0 : Int)], (([] : List (List Int)), ()))))), ())))))))
inductive ECallW : ECall → Prop
  | mk {o i z w : Int} {n : Nat} {h : List Int} {c : ClmT} (ho : -9223372036854775808 ≤ o ∧ o ≤ 9223372036854775807) (hi : -9223372036854775808 ≤ i ∧ i ≤ 9223372036854775807) (hz : -9223372036854775808 ≤ z ∧ z ≤ 9223372036854775807) (hw : -9223372036854775808 ≤ w ∧ w ≤ 9223372036854775807)
      (hn : B256 n) (hh : H32 h) (hc : ClmW c) : ECallW (o, (i, (z, (w, (lim n, (h, (c, ())))))))
def AllE (l : List ECall) : Prop := ∀ x ∈ l, ECallW x
theorem hash_wf {h : List Int} (w : (Ty.arr 32 (.int .u8)).wf h) : H32 h := ⟨w.1, fun x hx => inK_u8.1 (w.2 x hx)⟩
theorem clm_wf {c : ClmT} (h : (Ty.pair (.int .u64) (.pair (.int .u64) (.pair (.int .u64) (.pair (.arr 4 (.int .u64)) (.pair (.slice (.arr 32 (.int .u8))) .unit))))).wf c) : ClmW c := by
  obtain ⟨s, z, t, n, p, u⟩ := c
  obtain ⟨h1, h2, h3, h4, h5, _⟩ := h
  obtain ⟨k, hk, e⟩ := u256_wf h4
  have e : n = lim k := e
  subst e
  exact ClmW.mk (inK_u64.1 h1) (inK_u64.1 h2) (inK_u64.1 h3) hk (allH_wf h5)
theorem ecall_wf {d : ECall} (h : (Ty.pair (.int .i64) (.pair (.int .i64) (.pair (.int .i64) (.pair (.int .i64) (.pair (.arr 4 (.int .u64)) (.pair (.arr 32 (.int .u8)) (.pair (.pair (.int .u64) (.pair (.int .u64) (.pair (.int .u64) (.pair (.arr 4 (.int .u64)) (.pair (.slice (.arr 32 (.int .u8))) .unit))))) .unit))))))).wf d) : ECallW d := by
  obtain ⟨o, i, z, w, n, x, c, u⟩ := d
  obtain ⟨h1, h2, h3, h4, h5, h6, h7, _⟩ := h
  obtain ⟨k, hk, e⟩ := u256_wf h5
  have e : n = lim k := e
  subst e
  exact ECallW.mk (inK_i64.1 h1) (inK_i64.1 h2) (inK_i64.1 h3) (inK_i64.1 h4) hk (hash_wf h6) (clm_wf h7)
theorem zMsg_eq : (((0 : Int), ((0 : Int), ([(0 : Int), (0 : Int), (0 : Int), (0 : Int)], ()))) : MsgT) = zeroMsg := rfl
theorem AllH.set {l : List (List Int)} {x : List Int} {i : Nat} (h : AllH l) (hx : H32 x) : AllH (l.set i x) := fun y hy => by
  rcases List.mem_or_eq_of_mem_set hy with hy | rfl
  · exact h y hy
  · exact hx
theorem proofH_len {l : List (List Int)} (h : AllH l) (i : Nat) : (proofH l i).length ≤ l.length ∧ AllH (proofH l i) := proofH_facts l.length l i (Nat.le_refl _) h
theorem lclaim_eq {m : List MsgT} {d : ECall} (ha : AllM m) (hl : m.length ≤ 1000) (hd : ECallW d) : ∃ c, ClmW c ∧ sol_law25_claim (m, (d, ())) = some ((c, ()), ((), ((), ()))) := by
  obtain ⟨ho, hi, hz, hw, hn, hh, hc⟩ := hd
  rename_i o i z w n h c
  unfold sol_law25_claim T_law25_claim
  rw [zMsg_eq]
  simp only [letR_eq]
  rw [brR_dec]
  by_cases c1 : ((m.length : Nat) : Int) = 0
  · rw [if_pos c1]; exact ⟨c, hc, rfl⟩
  rw [if_neg c1, brR_dec]
  by_cases c2 : Int.tmod w 11 = 10
  · rw [if_pos c2]; exact ⟨c, hc, rfl⟩
  rw [if_neg c2, mod_eq hz.1 hz.2 (by omega) (by omega), bind_some']
  have m1 := mod_range (x := z) (n := ((m.length : Nat) : Int)) (by omega)
  dsimp only
  generalize z % 18446744073709551616 % ((m.length : Nat) : Int) = z' at *
  rw [w_i64 (n := 1 + z') (by omega) (by omega), mod_eq hi.1 hi.2 (by omega) (by omega), bind_some']
  have m2 := mod_range (x := i) (n := 1 + z') (by omega)
  dsimp only
  generalize i % 18446744073709551616 % (1 + z') = k at *
  obtain ⟨kn, rfl⟩ := Int.eq_ofNat_of_zero_le m2.1
  obtain ⟨zn, rfl⟩ := Int.eq_ofNat_of_zero_le m1.1
  rw [show (1 + ((zn : Nat) : Int)) = ((1 + zn : Nat) : Int) by omega, r24Proof_in ha (by omega) (by omega) (by omega), bind_some']
  dsimp only
  have hpa := proofH_len ((allH_leafM m).take (1 + zn)) kn
  generalize proofH ((m.map leafM).take (1 + zn)) kn = p at *
  have hpl : p.length ≤ 1000 := by have := hpa.1; rw [List.length_take, List.length_map] at this; omega
  have hpH := hpa.2
  have hkm : kn < m.length := by omega
  rw [brR_inR, if_pos (by omega), brR_inR, if_pos (by omega), mod_eq hw.1 hw.2 (by omega) (by omega), bind_some', Int.toNat_natCast]
  dsimp only
  have hmw := ha.at hkm zeroMsg
  generalize m.getD kn zeroMsg = mm at hmw
  obtain ⟨q1, q2, q3⟩ := hmw
  rename_i ms mt mv
  dsimp only
  have uk : U64 (IntKind.wrap .u64 ((kn : Nat) : Int)) := by rw [w_u64 (by omega) (by omega)]; unfold U64; omega
  have uz : U64 (IntKind.wrap .u64 ((1 + zn : Nat) : Int)) := by rw [w_u64 (by omega) (by omega)]; unfold U64; omega
  have ut : U64 mt := q2
  have uw : ∀ x y : Int, 1 ≤ y → y ≤ 2000 → U64 (IntKind.wrap .u64 (x % 18446744073709551616 % y)) := fun x y h1 h2 => by
    have := mod_range (x := x) (n := y) h1
    rw [w_u64 (by omega) (by omega)]; unfold U64; omega
  have base := ClmW.mk uk uz ut q3 hpH
  generalize w % 18446744073709551616 % 16 = w' at *
  rw [brR_dec]
  by_cases d0 : w' = 0
  · rw [if_pos d0, w_i64 (by omega) (by omega), mod_eq hz.1 hz.2 (by omega) (by omega), bind_some']
    exact ⟨_, ClmW.mk (uw _ _ (by omega) (by omega)) uz ut q3 hpH, rfl⟩
  rw [if_neg d0, brR_dec]
  by_cases d1 : w' = 1
  · rw [if_pos d1, w_i64 (by omega) (by omega), mod_eq hi.1 hi.2 (by omega) (by omega), bind_some']
    exact ⟨_, ClmW.mk uk (uw _ _ (by omega) (by omega)) ut q3 hpH, rfl⟩
  rw [if_neg d1, brR_dec]
  by_cases d2 : w' = 2
  · rw [if_pos d2, mod_eq hi.1 hi.2 (by omega) (by omega), bind_some']
    exact ⟨_, ClmW.mk uk uz (uw _ _ (by omega) (by omega)) q3 hpH, rfl⟩
  rw [if_neg d2, brR_dec]
  by_cases d3 : w' = 3
  · rw [if_pos d3, mod_eq hi.1 hi.2 (by omega) (by omega), bind_some']
    have h3 := uw i 3 (by omega) (by omega)
    dsimp only
    generalize IntKind.wrap .u64 (i % 18446744073709551616 % 3) = y at *
    unfold U64 at h3
    rw [lim_small h3.1 h3.2]
    exact ⟨_, ClmW.mk uk uz ut (by unfold B256; omega) hpH, rfl⟩
  rw [if_neg d3, brR_dec]
  by_cases d4 : w' = 4
  · rw [if_pos d4, roomyHa (by omega), brR_true, append_def]
    exact ⟨_, ClmW.mk uk uz ut q3 (hpH.append (AllH.one hh)), rfl⟩
  rw [if_neg d4, brR_dec]
  by_cases d5 : w' = 5
  · rw [if_pos d5, brR_dec]
    by_cases e : ((p.length : Nat) : Int) > 0
    · rw [if_pos e, mod_eq hi.1 hi.2 (by omega) (by omega), bind_some']
      have mr := mod_range (x := i) (n := ((p.length : Nat) : Int)) (by omega)
      dsimp only
      rw [brR_inR, if_pos mr]
      exact ⟨_, ClmW.mk uk uz ut q3 (hpH.set hh), rfl⟩
    · rw [if_neg e]; exact ⟨_, base, rfl⟩
  rw [if_neg d5, brR_dec]
  by_cases d6 : w' = 6
  · rw [if_pos d6, brR_dec]
    by_cases e : ((p.length : Nat) : Int) > 0
    · rw [if_pos e, brR_dec, if_pos (by omega)]
      exact ⟨_, ClmW.mk uk uz ut q3 ((hpH.drop 1).take _), rfl⟩
    · rw [if_neg e]; exact ⟨_, base, rfl⟩
  · rw [if_neg d6]; exact ⟨_, base, rfl⟩
theorem equalPayments_eq (a : List PayT) (ha : a.length ≤ 1000000000) : sol_law0_EqualPayments (a, (a, ())) = some ((true, ()), ((), ((), ()))) := by
  unfold sol_law0_EqualPayments T_law0_EqualPayments
  simp only
  rw [brR_not, brR_dec, if_pos trivial]
  refine bigLoop_rule (I := fun x => ∃ i : Nat, i ≤ a.length ∧ x = (a, (a, (((i : Nat) : Int), ())))) (m := fun x => (((a.length : Nat) : Int) - x.2.2.1).toNat) (g := fun _ => some ((true, ()), ((), ((), ())))) ?_
    ⟨0, by omega, rfl⟩ (by simp only [bigN_eq]; omega)
  rintro x again ⟨i, hi, rfl⟩ hag
  simp only at hag ⊢
  unfold T_law0_EqualPayments_loop0
  simp only [letR_eq]
  rw [brR_dec]
  by_cases h : ((i : Nat) : Int) < ((a.length : Nat) : Int)
  · rw [if_pos h, brR_inR, if_pos (by omega), brR_inR, if_pos (by omega), Int.toNat_natCast, eqD_iff.2 rfl, brR_not, brR_true, w_i64 (by omega) (by omega)]
    exact hag _ ⟨i + 1, by omega, by rw [Int.natCast_add]; rfl⟩ (by simp only; omega)
  · rw [if_neg h]
theorem leafM_ne : leafM (0, (7, (lim 21, ()))) ≠ leafM (0, (7, (lim 20, ()))) := by
  have : decide (leafM (0, (7, (lim 21, ()))) = leafM (0, (7, (lim 20, ())))) = false := by kernel_rfl
  exact of_decide_eq_false this
theorem verify_one (x y : List Int) : verifyH x 1 0 y [] = decide (y = x) := by
  unfold verifyH
  simp [upR]
theorem awake25 : sol_law25_awake () = some ((true, ()), ()) := by
  have l50 : ([(50 : Int), 0, 0, 0] : List Int) = lim 50 := rfl
  have l21 : ([(21 : Int), 0, 0, 0] : List Int) = lim 21 := rfl
  have l20 : ([(20 : Int), 0, 0, 0] : List Int) = lim 20 := rfl
  have l30 : ([(30 : Int), 0, 0, 0] : List Int) = lim 30 := rfl
  have u0 : U64 0 := by unfold U64; omega
  have u1 : U64 1 := by unfold U64; omega
  have u7 : U64 7 := by unfold U64; omega
  have b20 : B256 20 := by unfold B256; omega
  have b21 : B256 21 := by unfold B256; omega
  have hnil : AllH [] := fun x h => by simp at h
  unfold sol_law25_awake T_law25_awake
  rw [l50, l21, l20, l30, enew_eq]
  simp only [bind_some']
  rw [deposit_eq (by unfold B256; omega) (by unfold B256; omega)]
  simp only [bind_some', optR_some]
  rw [rLeafM_eq (MsgW.mk u0 u7 b20)]
  simp only [bind_some']
  rw [appendRoot_eq (by simp) rfl]
  simp only [bind_some', optR_some]
  have hi : EInv ([] ++ [leafM (0, (7, (lim 20, ())))]) ([] ++ [false]) 50 [] := ⟨rfl, by unfold B256; omega, List.Pairwise.nil, fun x h => by simp at h, fun x h => by simp at h⟩
  have hif : (if (50 : Nat) = 0 then 0 else if 0 + 50 < 115792089237316195423570985008687907853269984665640564039457584007913129639936 then 0 + 50 else 0) = 50 := by decide
  rw [hif]
  have hck1 : chkC ([] ++ [leafM (0, (7, (lim 20, ())))]) ([] ++ [false]) 0 1 7 21 [] = 16 := by
    unfold chkC
    rw [if_neg (by decide), if_neg (by decide), if_neg (by decide), if_neg]
    show ¬ verifyH (leafM (0, (7, (lim 20, ())))) 1 0 (leafM (0, (7, (lim 21, ())))) [] = true
    rw [verify_one, decide_eq_true_eq]
    exact leafM_ne
  have hck2 : chkC ([] ++ [leafM (0, (7, (lim 20, ())))]) ([] ++ [false]) 0 1 7 20 [] = 0 := by
    unfold chkC
    rw [if_neg (by decide), if_neg (by decide), if_neg (by decide), if_pos]
    show verifyH (leafM (0, (7, (lim 20, ())))) 1 0 (leafM (0, (7, (lim 20, ())))) [] = true
    rw [verify_one, decide_eq_true rfl]
  have s1 : clmS ([] ++ [leafM (0, (7, (lim 20, ())))]) ([] ++ [false]) 50 [] 0 1 7 21 [] = (16, ([] ++ [false], (50, []))) := by
    unfold clmS; rw [hck1]; rfl
  have s2 : clmS ([] ++ [leafM (0, (7, (lim 20, ())))]) ([] ++ [false]) 50 [] 0 1 7 20 [] = (0, ([true], (30, [(7, (lim 20, ()))]))) := by
    unfold clmS; rw [hck2, if_pos rfl, if_pos (by decide), if_pos (by decide)]; kernel_rfl
  rw [claim_eq hi (by simp) (by simp) (ClmW.mk u0 u1 u7 b21 hnil) u0 u7 b21, s1]
  simp only [bind_some', optR_some]
  rw [claim_eq hi (by simp) (by simp) (ClmW.mk u0 u1 u7 b20 hnil) u0 u7 b20, s2]
  simp only [bind_some', optR_some]
  have hi2 : EInv ([] ++ [leafM (0, (7, (lim 20, ())))]) [true] 30 [(7, (lim 20, ()))] := ⟨rfl, by unfold B256; omega, List.pairwise_singleton _ _, fun x h => by
    have : x = (7, (lim 20, ())) := by simpa using h
    subst this
    unfold isEP
    simp only [Prod.mk.injEq, true_and, and_true]
    rw [← lim0, lim_inj]
    omega, fun x h => by
    have : x = (7, (lim 20, ())) := by simpa using h
    subst this
    exact PayW.mk u7 b20⟩
  have hck3 : chkC ([] ++ [leafM (0, (7, (lim 20, ())))]) [true] 0 1 7 20 [] = 9 := by
    unfold chkC
    rw [if_neg (by decide), if_neg (by decide), if_pos (by decide)]
  have s3 : clmS ([] ++ [leafM (0, (7, (lim 20, ())))]) [true] 30 [(7, (lim 20, ()))] 0 1 7 20 [] = (9, ([true], (30, [(7, (lim 20, ()))]))) := by
    unfold clmS; rw [hck3]; rfl
  rw [claim_eq hi2 (by simp) (by simp) (ClmW.mk u0 u1 u7 b20 hnil) u0 u7 b20, s3]
  simp only [bind_some', optR_some]
  rw [brR_dec, if_pos (by decide), brR_dec, if_pos (by decide), brR_dec, if_pos trivial, brR_dec, if_pos trivial, brR_dec, if_pos trivial, ebal_eq]
  simp only [bind_some', optR_some]
  rw [eqD_iff.2 rfl, brR_true, l1bal_eq hi2.srt (by simp)]
  simp only [bind_some', optR_some]
  rw [eqD_iff.2 (by rfl)]
end Go.Pon
set_option autoImplicit false
set_option linter.unusedVariables false
set_option linter.unusedSimpArgs false
namespace Go.Pon
open Go
theorem ERel.root {r : List (List Int)} {cl : List Bool} {h : Nat} {p : List PayT} {cs : List Int} {m : List PayT} (e : ERel r cl h p cs m) (x : List Int) : ERel (r ++ [x]) (cl ++ [false]) h p cs m := by
  refine ⟨⟨by rw [List.length_append, List.length_append, e.inv.len]; rfl, e.inv.held, e.inv.srt, e.inv.ne, e.inv.all⟩, fun y hy => ?_, e.dist, e.all, e.ne, e.sort⟩
  rw [e.cls y hy]
  have : (cl ++ [false]).getD y.toNat false = cl.getD y.toNat false := by
    rw [List.getD_eq_getElem?_getD, List.getD_eq_getElem?_getD, List.getElem?_append]
    split
    · rfl
    · rename_i hxx
      rw [List.getElem?_eq_none (l := cl) (by omega)]
      cases hk : y.toNat - cl.length with
      | zero => rfl
      | succ k => rfl
  rw [this]
def okQ (l : List PayT) (i : Nat) : Prop := (l.getD i zPay).1 ≠ 0 ∧ ¬ isEP (l.getD i zPay) ∧ (0 < i → (l.getD (i - 1) zPay).1 < (l.getD i zPay).1)
def VP (l : List PayT) : Prop := ∀ i, i < l.length → okQ l i
theorem VP.srt {l : List PayT} (h : VP l) : SrtP l := by
  refine List.pairwise_iff_getElem.2 fun i j hi hj hij => ?_
  have key : ∀ d, i + 1 + d < l.length → (l.getD i zPay).1 < (l.getD (i + 1 + d) zPay).1 := by
    intro d
    induction d with
    | zero => intro hd; exact (h (i + 1) (by omega)).2.2 (by omega)
    | succ d ih =>
      intro hd
      have h1 := ih (by omega)
      have h2 := (h (i + 1 + (d + 1)) hd).2.2 (by omega)
      rw [show i + 1 + (d + 1) - 1 = i + 1 + d by omega] at h2
      omega
  have := key (j - i - 1) (by omega)
  rw [show i + 1 + (j - i - 1) = j by omega, List.getD_eq_getElem?_getD, List.getElem?_eq_getElem hi, List.getD_eq_getElem?_getD, List.getElem?_eq_getElem hj] at this
  exact this
theorem VP.ne {l : List PayT} (h : VP l) : NEP l := fun x hx => by
  obtain ⟨i, hi, rfl⟩ := List.getElem_of_mem hx
  have := (h i hi).2.1
  rw [List.getD_eq_getElem?_getD, List.getElem?_eq_getElem hi] at this
  exact this
end Go.Pon
set_option autoImplicit false
set_option linter.unusedVariables false
set_option linter.unusedSimpArgs false
namespace Go.Pon
open Go
abbrev tm (m : List MsgT) (k : Nat) : Int := (m.getD k zeroMsg).2.1
noncomputable abbrev am (m : List MsgT) (k : Nat) : Nat := val4 (m.getD k zeroMsg).2.2.1
theorem small_val {a c : Int} (ha : 0 ≤ a ∧ a ≤ 5000) (hc : 0 ≤ c ∧ c ≤ 2) : val4 [a, 0, c, 0] < 1361129467683753853853498429727072845824 := by
  obtain ⟨x, rfl⟩ := Int.eq_ofNat_of_zero_le ha.1
  obtain ⟨y, rfl⟩ := Int.eq_ofNat_of_zero_le hc.1
  have e : val4 [((x : Nat) : Int), 0, ((y : Nat) : Int), 0] = x + y * 340282366920938463463374607431768211456 := by
    unfold val4
    simp only [List.getD_cons_zero, List.getD_cons_succ, Int.toNat_natCast, Int.toNat_zero]
    omega
  rw [e]
  omega
noncomputable def addP (q : List PayT) (t : Int) (n : Nat) : List PayT := pput q (t, (lim (pbal q t + n), ()))
theorem sum_addP {q : List PayT} {t : Int} {n : Nat} (hs : SrtP q) : sumP (addP q t n) = sumP q + n := by
  have := sum_pput (y := (t, (lim (pbal q t + n), ()))) hs
  unfold addP
  simp only [val4_lim] at this
  unfold pbal at *
  omega
theorem EInv.addP {r : List (List Int)} {cl : List Bool} {h : Nat} {q : List PayT} {t : Int} {n : Nat} (e : EInv r cl h q) (ht : U64 t) (hn : n ≤ h) (hb : pbal q t + n < 115792089237316195423570985008687907853269984665640564039457584007913129639936) (k : Nat) :
    EInv r (cl.set k true) (h - n) (addP q t n) := by
  have := e.held
  unfold B256 at this
  exact ⟨by rw [List.length_set]; exact e.len, by unfold B256; omega, srt_pput e.srt, ne_pput e.ne, all_pput e.all (PayW.mk ht hb)⟩
noncomputable abbrev own (m : List MsgT) (k n : Nat) : ClmT := (((k : Nat) : Int), (((n : Nat) : Int), (tm m k, (lim (am m k), (proofH ((m.map leafM).take n) k, ())))))
theorem clmS_inv {r : List (List Int)} {cl : List Bool} {h : Nat} {q : List PayT} {s z t : Int} {n : Nat} {p : List (List Int)} (e : EInv r cl h q) (ht : U64 t) (hn : B256 n) :
    EInv r (clmS r cl h q s z t n p).2.1 (clmS r cl h q s z t n p).2.2.1 (clmS r cl h q s z t n p).2.2.2 ∧ (clmS r cl h q s z t n p).2.2.1 + sumP (clmS r cl h q s z t n p).2.2.2 = h + sumP q ∧
      ((clmS r cl h q s z t n p).1 ≠ 0 → (clmS r cl h q s z t n p).2 = (cl, (h, q))) ∧ (clmS r cl h q s z t n p).2.2.2.length ≤ q.length + 1 := by
  have keep : ∀ c : Int, c ≠ 0 → clmS r cl h q s z t n p = (c, (cl, (h, q))) → EInv r (clmS r cl h q s z t n p).2.1 (clmS r cl h q s z t n p).2.2.1 (clmS r cl h q s z t n p).2.2.2 ∧ (clmS r cl h q s z t n p).2.2.1 + sumP (clmS r cl h q s z t n p).2.2.2 = h + sumP q ∧
      ((clmS r cl h q s z t n p).1 ≠ 0 → (clmS r cl h q s z t n p).2 = (cl, (h, q))) ∧ (clmS r cl h q s z t n p).2.2.2.length ≤ q.length + 1 := fun c hc hk => by
    rw [hk]
    exact ⟨e, rfl, fun _ => rfl, by simp only; omega⟩
  by_cases c : chkC r cl s z t n p = 0
  case neg => exact keep _ c (by unfold clmS; rw [if_neg c])
  by_cases c2 : n ≤ h
  case neg => exact keep 10 (by decide) (by unfold clmS; rw [if_pos c, if_neg c2])
  by_cases c3 : pbal q t + n < 115792089237316195423570985008687907853269984665640564039457584007913129639936
  case neg => exact keep 4 (by decide) (by unfold clmS; rw [if_pos c, if_pos c2, if_neg c3])
  have hk : clmS r cl h q s z t n p = (0, (cl.set s.toNat true, (h - n, addP q t n))) := by
    unfold clmS; rw [if_pos c, if_pos c2, if_pos c3]; rfl
  rw [hk]
  have hs := sum_addP (t := t) (n := n) e.srt
  refine ⟨e.addP ht c2 c3 _, ?_, fun h => absurd rfl h, len_pput _ _⟩
  show h - n + sumP (addP q t n) = h + sumP q
  omega
theorem step_le {x k i B : Nat} (h : x ≤ i * B) (hk : k ≤ B) : x + k ≤ (i + 1) * B := by
  rw [Nat.add_mul, Nat.one_mul]
  exact Nat.add_le_add h hk
abbrev YE3 := (Bool × Unit) × (Unit × (Unit × Unit))
theorem sumP_take {q : List PayT} {k : Nat} (h : k < q.length) : sumP (q.take (k + 1)) = sumP (q.take k) + val4 (q.getD k zPay).2.1 := by
  rw [take_succ' (d := zPay) h, sumP_append, sumP_cons, sumP_nil, Nat.add_zero]
theorem sumP_take_le (q : List PayT) (k : Nat) : sumP (q.take k) ≤ sumP q := by
  have : sumP q = sumP (q.take k) + sumP (q.drop k) := by rw [← sumP_append, List.take_append_drop]
  omega
theorem small_lim3 {n : Nat} (hn : B256 n) : ∃ k : Nat, k < 1361129467683753853853498429727072845824 ∧ ([Int.tmod (List.getD (lim n) 0 0) 4000, (0 : Int), Int.tmod (List.getD (lim n) 1 0) 2, (0 : Int)] : List Int) = lim k := by
  have h0 := limb_u64 (v := n) (i := 0) hn
  have h2 := limb_u64 (v := n) (i := 1) hn
  have a : 0 ≤ Int.tmod (List.getD (lim n) 0 0) 4000 ∧ Int.tmod (List.getD (lim n) 0 0) 4000 < 4000 := by
    rw [tmod_pos h0.1]; omega
  have b : 0 ≤ Int.tmod (List.getD (lim n) 1 0) 2 ∧ Int.tmod (List.getD (lim n) 1 0) 2 < 2 := by
    rw [tmod_pos h2.1]; omega
  obtain ⟨k, hk, e⟩ := lim_of (a := Int.tmod (List.getD (lim n) 0 0) 4000) (b := 0) (c := Int.tmod (List.getD (lim n) 1 0) 2) (d := 0) (by omega) (by omega) (by omega) (by omega)
  refine ⟨k, ?_, e⟩
  have := small_val (a := Int.tmod (List.getD (lim n) 0 0) 4000) (c := Int.tmod (List.getD (lim n) 1 0) 2) (by omega) (by omega)
  rw [e, val4_lim] at this
  exact this
theorem law_EscrowConservation_at (l : List ECall) (s : List SendT) (hl : AllE l) (hs : AllS s) : ∃ y, sol_law25_EscrowConservation (l, (s, ())) = some y ∧ y.1.1 = true := by
  unfold sol_law25_EscrowConservation T_law25_EscrowConservation
  simp only
  rw [awake25, brR_dec]
  by_cases c0 : ((l.length : Nat) : Int) > 30
  · rw [if_pos c0]; exact ⟨_, rfl, rfl⟩
  rw [if_neg c0, brR_dec]
  by_cases c1 : ((s.length : Nat) : Int) > 12
  · rw [if_pos c1]; exact ⟨_, rfl, rfl⟩
  rw [if_neg c1, joinR_eq]
  unfold T_law25_EscrowConservation_join0
  simp only
  rw [lawValid_eq hs (by omega), bind_some', enew_eq, bind_some']
  have hv := vmsgs_ok hs (by omega)
  have hvl := len_vmsgs s s.length
  generalize vmsgs s s.length = m at *
  simp only
  refine bigLoop_pred (I := fun x => ∃ (k : Nat) (r : List (List Int)) (cl : List Bool), k ≤ m.length ∧ r.length = k ∧ EInv r cl 0 [] ∧ x = (l, (m, (esc r cl 0 [], (((k : Nat) : Int), ())))))
    (m := fun x => (((m.length : Nat) : Int) - x.2.2.2.1).toNat) (P := fun r => ∃ y : YE3, r = some y ∧ y.1.1 = true) ?_
    ⟨0, [], [], by omega, rfl, einv_nil, rfl⟩ (by simp only [bigN_eq]; omega)
  rintro x again ⟨k, r, cl, hk, hrl, e, rfl⟩ hag
  simp only at hag ⊢
  unfold T_law25_EscrowConservation_loop1
  simp only [letR_eq]
  rw [brR_dec]
  by_cases c : ((k : Nat) : Int) < ((m.length : Nat) : Int)
  · have hw1 : IntKind.wrap .i64 (((k : Nat) : Int) + 1) = ((k + 1 : Nat) : Int) := by rw [w_i64 (by omega) (by omega), Int.natCast_add]; rfl
    rw [if_pos c, hw1, r24Root_in hv.1 (by omega) (by omega), bind_some', appendRoot_eq (by omega) e.len, bind_some']
    dsimp only
    rw [optR_some]
    exact hag _ ⟨k + 1, _, _, by omega, by rw [List.length_append, List.length_singleton, hrl], ⟨by rw [List.length_append, List.length_append, e.len]; rfl, e.held, e.srt, e.ne, e.all⟩, rfl⟩ (by simp only; omega)
  rw [if_neg c]
  clear hag again
  rw [← lim0]
  refine bigLoop_pred (I := fun x => ∃ (i : Nat) (cl : List Bool) (h : Nat) (q : List PayT), i ≤ l.length ∧ EInv r cl h q ∧ q.length ≤ i ∧ h + sumP q ≤ i * 1361129467683753853853498429727072845824 ∧ x = (l, (m, (esc r cl h q, (lim (h + sumP q), (((i : Nat) : Int), ()))))))
    (m := fun x => (((l.length : Nat) : Int) - x.2.2.2.2.1).toNat) (P := fun r => ∃ y : YE3, r = some y ∧ y.1.1 = true) ?_
    ⟨0, cl, 0, [], by omega, e, by simp, by simp [sumP_nil], rfl⟩ (by simp only [bigN_eq]; omega)
  clear e cl
  rintro x again ⟨i, cl, h, q, hi, e, hql, hsum, rfl⟩ hag
  simp only at hag ⊢
  unfold T_law25_EscrowConservation_loop2
  simp only [letR_eq]
  rw [brR_dec]
  by_cases c : ((i : Nat) : Int) < ((l.length : Nat) : Int)
  case neg =>
    rw [if_neg c, awake25]
    exact ⟨_, rfl, rfl⟩
  rw [if_pos c, brR_inR, if_pos (by omega), brR_inR, if_pos (by omega), Int.toNat_natCast]
  have hd : ECallW (l.getD i zECall) := hl _ (getD_mem (by omega))
  generalize l.getD i zECall = d at hd
  -- the end of a round
  have j4 : ∀ (cl : List Bool) (h : Nat) (q : List PayT), EInv r cl h q → q.length ≤ i + 1 → h + sumP q ≤ (i + 1) * 1361129467683753853853498429727072845824 →
      ∃ y : YE3, T_law25_EscrowConservation_join4 bigLoop sol_escrow_Escrow_Balance sol_escrow_Escrow_L1Balances sol_uint256_SaturatingAdd again l m (esc r cl h q) (lim (h + sumP q)) ((i : Nat) : Int) = some y ∧ y.1.1 = true := fun cl h q e hql hsum => by
    unfold T_law25_EscrowConservation_join4
    simp only
    rw [ebal_eq, bind_some']
    dsimp only
    rw [optR_some, l1bals_eq (p := q) (by omega), bind_some']
    dsimp only
    rw [optR_some]
    refine bigLoop_pred (I := fun x => ∃ k : Nat, k ≤ q.length ∧ x = (l, (m, (esc r cl h q, (lim (h + sumP q), (((i : Nat) : Int), (lim (h + sumP (q.take k)), (q, (((k : Nat) : Int), ())))))))))
      (m := fun x => (((q.length : Nat) : Int) - x.2.2.2.2.2.2.2.1).toNat) (P := fun r => ∃ y : YE3, r = some y ∧ y.1.1 = true) ?_
      ⟨0, by omega, by rw [List.take_zero, sumP_nil, Nat.add_zero]; rfl⟩ (by simp only [bigN_eq]; omega)
    rintro x again5 ⟨k, hk, rfl⟩ hag5
    simp only at hag5 ⊢
    unfold T_law25_EscrowConservation_loop5
    simp only [letR_eq]
    rw [brR_dec]
    by_cases ck : ((k : Nat) : Int) < ((q.length : Nat) : Int)
    · have hst := sumP_take (q := q) (k := k) (by omega)
      have hsl := sumP_take_le q (k + 1)
      have hpw := e.all.at k
      rw [if_pos ck, brR_inR, if_pos (by omega), Int.toNat_natCast]
      have ev : (q.getD k zPay).2.1 = lim (val4 (q.getD k zPay).2.1) := by
        generalize q.getD k zPay = w at hpw
        obtain ⟨w1, w2⟩ := hpw
        simp only [val4_lim]
      rw [ev]
      generalize val4 (q.getD k zPay).2.1 = v at *
      rw [satAdd_eq (by unfold B256; omega) (by unfold B256; omega), bind_some', sat_of (by omega)]
      dsimp only
      rw [w_i64 (by omega) (by omega)]
      exact hag5 _ ⟨k + 1, by omega, by rw [hst, Int.natCast_add, Nat.add_assoc]; rfl⟩ (by simp only; omega)
    · rw [if_neg ck, List.take_of_length_le (by omega), eqD_iff.2 rfl, brR_not, brR_true, w_i64 (n := ((i : Nat) : Int) + 1) (by omega) (by omega)]
      exact hag _ ⟨i + 1, cl, h, q, by omega, e, hql, hsum, by rw [Int.natCast_add]; rfl⟩ (by simp only; omega)
  have j3 : ∀ (cl' : List Bool) (h' : Nat) (q' : List PayT) (f : Int) (w : List Int), EInv r cl' h' q' → q'.length ≤ i + 1 → h' + sumP q' ≤ (i + 1) * 1361129467683753853853498429727072845824 → (f ≠ 0 → h' = h ∧ q' = q) → w = lim (h' + sumP q') →
      ∃ y : YE3, T_law25_EscrowConservation_join3 bigLoop sol_escrow_Escrow_Balance sol_escrow_Escrow_L1Balances sol_law0_EqualPayments sol_uint256_SaturatingAdd again l m (esc r cl' h' q') w ((i : Nat) : Int) (lim h) q (some (esc r cl h q)) f = some y ∧ y.1.1 = true := fun cl' h' q' f w e' hql' hsum' hf hw => by
    subst hw
    have hj := j4 cl' h' q' e' hql' hsum'
    unfold T_law25_EscrowConservation_join3
    simp only
    rw [optR_some, ebal_eq, bind_some']
    dsimp only
    rw [optR_some, eqD_iff.2 rfl, brR_not, brR_true, l1bals_eq (p := q) (by omega), bind_some']
    dsimp only
    rw [optR_some, equalPayments_eq q (by omega), bind_some']
    dsimp only
    rw [brR_not, brR_true, brR_not, brR_dec]
    by_cases cf : f = 0
    · rw [if_pos cf, joinR_eq]; exact hj
    · obtain ⟨rfl, rfl⟩ := hf cf
      rw [if_neg cf, ebal_eq, bind_some']
      dsimp only
      rw [optR_some, eqD_iff.2 rfl, brR_not, brR_true, l1bals_eq (p := q') (by omega), bind_some']
      dsimp only
      rw [optR_some, equalPayments_eq q' (by omega), bind_some']
      dsimp only
      rw [brR_not, brR_true, joinR_eq]
      exact hj
  clear j4
  have hS1 : h + sumP q ≤ (i + 1) * 1361129467683753853853498429727072845824 := Nat.le_trans hsum (Nat.mul_le_mul_right _ (Nat.le_succ i))
  have hS2 : ∀ k : Nat, k < 1361129467683753853853498429727072845824 → h + k + sumP q ≤ (i + 1) * 1361129467683753853853498429727072845824 ∧ h + k + sumP q < 115792089237316195423570985008687907853269984665640564039457584007913129639936 := fun k hk => by
    have := step_le hsum (Nat.le_of_lt hk)
    rw [show h + k + sumP q = h + sumP q + k by omega]
    exact ⟨this, by omega⟩
  have hdd := hd
  obtain ⟨ho, hii, hz, hw, hn, hh, hc⟩ := hdd
  rename_i o ix z w n hx cc
  rw [ebal_eq, bind_some']
  dsimp only
  rw [optR_some, l1bals_eq (p := q) (by omega), bind_some']
  dsimp only
  rw [optR_some, ecopy_eq (r := r) (p := q) (by omega) e.len (by omega), bind_some']
  dsimp only
  rw [optR_some, optR_some, brR_inR, if_pos (by omega), mod_eq ho.1 ho.2 (by omega) (by omega), bind_some']
  dsimp only
  rw [brR_dec]
  by_cases k3 : o % 18446744073709551616 % 3 = 0
  · obtain ⟨k, hk, ek⟩ := small_lim3 hn
    rw [if_pos k3, ek]
    clear k3
    have hS3 := hS2 k hk
    have eh := e.held
    rw [deposit_eq eh (by unfold B256; omega), bind_some']
    dsimp only
    rw [optR_some, brR_dec]
    by_cases k0 : k = 0
    · simp only [if_pos k0]
      rw [if_neg (by decide), joinR_eq]
      exact j3 cl h q 2 _ e (Nat.le_succ_of_le hql) hS1 (fun _ => ⟨rfl, rfl⟩) rfl
    · have hb : h + k < 115792089237316195423570985008687907853269984665640564039457584007913129639936 := by omega
      simp only [if_neg k0, if_pos hb, if_true]
      have hS : B256 (h + sumP q) := by unfold B256; omega
      have hK : B256 k := by unfold B256; omega
      have hT : h + sumP q + k = h + k + sumP q := by omega
      rw [satAdd_eq hS hK, bind_some', hT, sat_of (by omega), joinR_eq]
      exact j3 cl (h + k) q 0 _ ⟨e.len, by unfold B256; omega, e.srt, e.ne, e.all⟩ (Nat.le_succ_of_le hql) hS3.1 (fun h => absurd rfl h) rfl
  · rw [if_neg k3, brR_inR, if_pos (by omega)]
    obtain ⟨c2, hc2, ec⟩ := lclaim_eq (m := m) (d := (o, (ix, (z, (w, (lim n, (hx, (cc, ()))))))))  hv.1 (by omega) hd
    rw [ec, bind_some']
    have hc3 := hc2
    obtain ⟨q1, q2, q3, q4, q5⟩ := hc2
    rename_i s' z' t' n' p'
    dsimp only
    rw [claim_eq e (by omega) (by omega) hc3 q1 q3 q4, bind_some']
    obtain ⟨i1, i2, i3, i4⟩ := clmS_inv (s := s') (z := z') (p := p') e q3 q4
    dsimp only
    rw [optR_some, joinR_eq]
    generalize clmS r cl h q s' z' t' n' p' = st at *
    obtain ⟨f, cl2, h2, q2⟩ := st
    dsimp only at *
    refine j3 cl2 h2 q2 f _ i1 (by omega) (by rw [i2]; exact hS1) (fun hf => ?_) (by rw [i2])
    have := i3 hf
    simp only [Prod.mk.injEq] at this
    exact ⟨this.2.1, this.2.2⟩
theorem law_EscrowConservation : ∀ x, wfL s_law25_EscrowConservation.ins x → ∃ y, sol_law25_EscrowConservation x = some y ∧ y.1.1 = true :=
  fun ⟨l, s, _⟩ ⟨hl, hs, _⟩ => law_EscrowConservation_at l s (fun x hx => ecall_wf (hl.2 x hx)) (allS_wf hs)
end Go.Pon
