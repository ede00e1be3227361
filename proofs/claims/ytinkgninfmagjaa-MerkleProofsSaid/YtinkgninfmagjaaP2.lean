/-
  Part of a proof: general lemmas, merged by a program of this work.
-/
import Derived.Test.YtinkgninfmagjaaP1
/-
  What package hash computes.
-/
set_option autoImplicit false
set_option linter.unusedVariables false
set_option linter.unusedSimpArgs false
set_option maxRecDepth 4000
namespace Go.Pon
open Go

def castL (l : List Nat) : List Int := l.map fun n => ((n : Nat) : Int)

theorem len_castL {l : List Nat} : (castL l).length = l.length := by simp [castL]
theorem castL_append {l m : List Nat} : castL (l ++ m) = castL l ++ castL m := by simp [castL]
theorem castL_getD {l : List Nat} {i : Nat} : (castL l).getD i 0 = ((l.getD i 0 : Nat) : Int) := by
  simp only [castL, List.getD_eq_getElem?_getD, List.getElem?_map]
  cases l[i]? <;> rfl

/-- Words up to place i, zeros behind. -/
def part (l : List Nat) (n : Nat) : List Int := castL l ++ List.replicate (n - l.length) 0

theorem part_getD {l : List Nat} {n j : Nat} (h : j < l.length) : (part l n).getD j 0 = ((l.getD j 0 : Nat) : Int) := by
  rw [part, List.getD_eq_getElem?_getD, List.getElem?_append_left (by rw [len_castL]; exact h), ← List.getD_eq_getElem?_getD, castL_getD]

theorem part_set {l : List Nat} {n : Nat} (h : l.length < n) (x : Nat) : (part l n).set l.length ((x : Nat) : Int) = part (l ++ [x]) n := by
  have e : n - l.length = (n - (l.length + 1)) + 1 := by omega
  simp only [part, castL_append, List.length_append, List.length_singleton]
  rw [List.set_append, if_neg (by rw [len_castL]; omega), len_castL, Nat.sub_self, e, List.replicate_succ, List.set_cons_zero]
  simp [castL]

theorem part_full {l : List Nat} : part l l.length = castL l := by simp [part]
theorem part_nil {n : Nat} : part [] n = List.replicate n 0 := by simp [part, castL]

theorem len_sched (b : List Int) : ∀ i, (sched b i).length = i
  | 0 => rfl
  | i + 1 => by simp [sched, len_sched b i]

theorem rotl_eq (x n : Nat) (h1 : 1 ≤ n) (h2 : n ≤ 31) : sol_math_bits_RotateLeft32 (((x : Nat) : Int), (-((n : Nat) : Int), ())) = some ((((rotr x n : Nat) : Int), ()), ((), ((), ()))) := by
  unfold sol_math_bits_RotateLeft32 T_math_bits_RotateLeft32
  simp only [letR_eq]
  have e : ∀ n, n < 32 → 1 ≤ n → IntKind.wrap .u64 ((BitVec.toNat (BitVec.ofInt 64 (IntKind.wrap .u64 (-((n : Nat) : Int))) &&& BitVec.ofInt 64 31) : Nat) : Int) = ((32 - n : Nat) : Int) := by decide
  rw [e n (by omega) h1, brR_dec, if_pos (by omega), show (32 : Int) - ((32 - n : Nat) : Int) = ((n : Nat) : Int) by omega, w_u64 (by omega) (by omega), brR_dec, if_pos (by omega)]
  simp only [Int.toNat_natCast]
  have p : ∀ k : Nat, (2 : Int) ^ k = ((2 ^ k : Nat) : Int) := fun k => by rw [Int.natCast_pow]; rfl
  rw [Nat.min_eq_left (by omega), Nat.min_eq_left (by omega), p, p, m32, d32, o32]
  rfl

theorem rot7 (x : Nat) : sol_math_bits_RotateLeft32 (((x : Nat) : Int), ((-7 : Int), ())) = some ((((rotr x 7 : Nat) : Int), ()), ((), ((), ()))) := rotl_eq x 7 (by omega) (by omega)
theorem rot18 (x : Nat) : sol_math_bits_RotateLeft32 (((x : Nat) : Int), ((-18 : Int), ())) = some ((((rotr x 18 : Nat) : Int), ()), ((), ((), ()))) := rotl_eq x 18 (by omega) (by omega)
theorem rot17 (x : Nat) : sol_math_bits_RotateLeft32 (((x : Nat) : Int), ((-17 : Int), ())) = some ((((rotr x 17 : Nat) : Int), ()), ((), ((), ()))) := rotl_eq x 17 (by omega) (by omega)
theorem rot19 (x : Nat) : sol_math_bits_RotateLeft32 (((x : Nat) : Int), ((-19 : Int), ())) = some ((((rotr x 19 : Nat) : Int), ()), ((), ((), ()))) := rotl_eq x 19 (by omega) (by omega)
theorem rot6 (x : Nat) : sol_math_bits_RotateLeft32 (((x : Nat) : Int), ((-6 : Int), ())) = some ((((rotr x 6 : Nat) : Int), ()), ((), ((), ()))) := rotl_eq x 6 (by omega) (by omega)
theorem rot11 (x : Nat) : sol_math_bits_RotateLeft32 (((x : Nat) : Int), ((-11 : Int), ())) = some ((((rotr x 11 : Nat) : Int), ()), ((), ((), ()))) := rotl_eq x 11 (by omega) (by omega)
theorem rot25 (x : Nat) : sol_math_bits_RotateLeft32 (((x : Nat) : Int), ((-25 : Int), ())) = some ((((rotr x 25 : Nat) : Int), ()), ((), ((), ()))) := rotl_eq x 25 (by omega) (by omega)
theorem rot2 (x : Nat) : sol_math_bits_RotateLeft32 (((x : Nat) : Int), ((-2 : Int), ())) = some ((((rotr x 2 : Nat) : Int), ()), ((), ((), ()))) := rotl_eq x 2 (by omega) (by omega)
theorem rot13 (x : Nat) : sol_math_bits_RotateLeft32 (((x : Nat) : Int), ((-13 : Int), ())) = some ((((rotr x 13 : Nat) : Int), ()), ((), ((), ()))) := rotl_eq x 13 (by omega) (by omega)
theorem rot22 (x : Nat) : sol_math_bits_RotateLeft32 (((x : Nat) : Int), ((-22 : Int), ())) = some ((((rotr x 22 : Nat) : Int), ()), ((), ((), ()))) := rotl_eq x 22 (by omega) (by omega)

theorem d32_8 (x : Nat) : Int.fdiv ((x : Nat) : Int) 8 = ((x / 8 : Nat) : Int) := d32 x 8
theorem d32_1024 (x : Nat) : Int.fdiv ((x : Nat) : Int) 1024 = ((x / 1024 : Nat) : Int) := d32 x 1024
theorem not32 (x : Nat) : IntKind.wrap .u32 ((BitVec.toNat (BitVec.ofInt 32 4294967295 ^^^ BitVec.ofInt 32 ((x : Nat) : Int)) : Nat) : Int) = ((xor32 4294967295 x : Nat) : Int) := x32 4294967295 x

/-- Four bytes as a word, put together by 'or'. -/
theorem word_or {p q r s : Int} (hp : 0 ≤ p ∧ p ≤ 255) (hq : 0 ≤ q ∧ q ≤ 255) (hr : 0 ≤ r ∧ r ≤ 255) (hs : 0 ≤ s ∧ s ≤ 255) :
    IntKind.wrap .u32 ((BitVec.toNat (BitVec.ofInt 32 (IntKind.wrap .u32 ((BitVec.toNat (BitVec.ofInt 32 (IntKind.wrap .u32 ((BitVec.toNat (BitVec.ofInt 32 (IntKind.wrap .u32 (IntKind.wrap .u32 p * 16777216)) ||| BitVec.ofInt 32 (IntKind.wrap .u32 (IntKind.wrap .u32 q * 65536))) : Nat) : Int)) |||
      BitVec.ofInt 32 (IntKind.wrap .u32 (IntKind.wrap .u32 r * 256))) : Nat) : Int)) ||| BitVec.ofInt 32 (IntKind.wrap .u32 s)) : Nat) : Int) = ((p.toNat * 16777216 + q.toNat * 65536 + r.toNat * 256 + s.toNat : Nat) : Int) := by
  obtain ⟨p, rfl⟩ := Int.eq_ofNat_of_zero_le hp.1
  obtain ⟨q, rfl⟩ := Int.eq_ofNat_of_zero_le hq.1
  obtain ⟨r, rfl⟩ := Int.eq_ofNat_of_zero_le hr.1
  obtain ⟨s, rfl⟩ := Int.eq_ofNat_of_zero_le hs.1
  rw [w_u32 (n := (p : Int)) (by omega) (by omega), w_u32 (n := (q : Int)) (by omega) (by omega), w_u32 (n := (r : Int)) (by omega) (by omega), w_u32 (n := (s : Int)) (by omega) (by omega)]
  rw [show ((p : Nat) : Int) * 16777216 = ((p * 16777216 : Nat) : Int) by omega, show ((q : Nat) : Int) * 65536 = ((q * 65536 : Nat) : Int) by omega, show ((r : Nat) : Int) * 256 = ((r * 256 : Nat) : Int) by omega]
  rw [w_u32 (n := ((p * 16777216 : Nat) : Int)) (by omega) (by omega), w_u32 (n := ((q * 65536 : Nat) : Int)) (by omega) (by omega), w_u32 (n := ((r * 256 : Nat) : Int)) (by omega) (by omega), o32, o32, o32]
  have o : ∀ (a b i : Nat), b < 2 ^ i → 2 ^ i * a + b < 4294967296 → or32 (2 ^ i * a) b = 2 ^ i * a + b := fun a b i h1 h2 => by
    unfold or32
    rw [Nat.mod_eq_of_lt (by omega), Nat.mod_eq_of_lt (by omega), Nat.two_pow_add_eq_or_of_lt h1]
  have e1 := o p (q * 65536) 24 (by omega) (by omega)
  have e2 := o (p * 256 + q) (r * 256) 16 (by omega) (by omega)
  have e3 := o (p * 65536 + q * 256 + r) s 8 (by omega) (by omega)
  rw [show p * 16777216 = 2 ^ 24 * p by omega, e1, show 2 ^ 24 * p + q * 65536 = 2 ^ 16 * (p * 256 + q) by omega, e2, show 2 ^ 16 * (p * 256 + q) + r * 256 = 2 ^ 8 * (p * 65536 + q * 256 + r) by omega, e3]
  simp only [Int.toNat_natCast]; omega

theorem schedule_eq {b : List Int} (hb : Bytes b) (hl : b.length = 64) : sol_hash_schedule (b, ()) = some ((castL (sched b 64), ()), ((), ())) := by
  unfold sol_hash_schedule T_hash_schedule
  have second : ∀ t2 : List Int, bigLoop _ _ (fun again x => T_hash_schedule_loop1 sol_math_bits_RotateLeft32 again x.1 x.2.1 x.2.2.1) (t2, (part (sched b 16) 64, ((16 : Int), ()))) = some ((castL (sched b 64), ()), ((), ())) := by
    intro t2
    refine bigLoop_rule (I := fun x => (16 : Int) ≤ x.2.2.1 ∧ x.2.2.1 ≤ (64 : Int) ∧ x.2.1 = part (sched b x.2.2.1.toNat) 64) (m := fun x => ((64 : Int) - x.2.2.1).toNat) (g := fun _ => some ((castL (sched b 64), ()), ((), ()))) ?_
      ⟨by simp only; omega, by simp only; omega, rfl⟩ (by simp only [bigN_eq]; omega)
    rintro ⟨t, w, i, _⟩ again ⟨e1, e2, e3⟩ hag
    simp only at e1 e2 e3 hag ⊢
    subst e3
    obtain ⟨i, rfl⟩ := Int.eq_ofNat_of_zero_le (show 0 ≤ i by omega)
    have hls := len_sched b i
    simp only [T_hash_schedule_loop1, letR_eq, brR_dec, brR_inR, Int.toNat_natCast]
    by_cases hi : i < 64
    · rw [if_pos (by omega), w_i64 (n := (i : Int) - 7) (by omega) (by omega), w_i64 (n := (i : Int) - 16) (by omega) (by omega), w_i64 (n := (i : Int) - 2) (by omega) (by omega), w_i64 (n := (i : Int) - 15) (by omega) (by omega), w_i64 (n := (i : Int) + 1) (by omega) (by omega)]
      rw [show ((i : Int) - 7).toNat = i - 7 by omega, show ((i : Int) - 16).toNat = i - 16 by omega, show ((i : Int) - 2).toNat = i - 2 by omega, show ((i : Int) - 15).toNat = i - 15 by omega]
      rw [if_pos (by omega), if_pos (by omega), part_getD (j := i - 7) (by omega), part_getD (j := i - 16) (by omega), part_getD (j := i - 2) (by omega), part_getD (j := i - 15) (by omega)]
      simp only [rot7, rot18, rot17, rot19, bind_some']
      rw [if_pos (by omega), if_pos (by omega), if_pos (by omega)]
      simp only [x32, d32_8, d32_1024, a32]
      have es : (part (sched b i) 64).set i ((nextW (sched b i) i : Nat) : Int) = part (sched b (i + 1)) 64 := by
        have := part_set (l := sched b i) (n := 64) (by omega) (nextW (sched b i) i)
        rw [hls] at this
        rw [this, sched, if_neg (by omega)]
      refine (congrArg again ?_).trans (hag (t, (part (sched b (i + 1)) 64, (((i : Int) + 1), ()))) ⟨by simp only; omega, by simp only; omega, by simp only; rw [show ((i : Int) + 1).toNat = i + 1 by omega]⟩ (by simp only; omega))
      rw [← es]; rfl
    · have : i = 64 := by omega
      subst this
      rw [if_neg (by omega)]
      have := part_full (l := sched b 64)
      rw [hls] at this
      rw [this]
  refine bigLoop_rule (I := fun x => x.1 = b ∧ (0 : Int) ≤ x.2.2.2.1 ∧ x.2.2.2.1 ≤ (16 : Int) ∧ x.2.2.1 = part (sched b x.2.2.2.1.toNat) 64) (m := fun x => ((16 : Int) - x.2.2.2.1).toNat) (g := fun _ => some ((castL (sched b 64), ()), ((), ()))) ?_
    ⟨rfl, by simp only; omega, by simp only; omega, by simp only; exact part_nil.symm⟩ (by simp only [bigN_eq]; omega)
  rintro ⟨b', t, w, i, _⟩ again ⟨e0, e1, e2, e3⟩ hag
  simp only at e0 e1 e2 e3 hag ⊢
  subst e0 e3
  obtain ⟨i, rfl⟩ := Int.eq_ofNat_of_zero_le e1
  have hls := len_sched b' i
  simp only [T_hash_schedule_loop0, letR_eq, brR_dec, brR_inR, Int.toNat_natCast]
  by_cases hi : i < 16
  · rw [if_pos (by omega), w_i64 (n := 4 * (i : Int)) (by omega) (by omega), w_i64 (n := 4 * (i : Int) + 3) (by omega) (by omega), w_i64 (n := 4 * (i : Int) + 2) (by omega) (by omega), w_i64 (n := 4 * (i : Int) + 1) (by omega) (by omega), w_i64 (n := (i : Int) + 1) (by omega) (by omega)]
    rw [show (4 * (i : Int)).toNat = 4 * i by omega, show (4 * (i : Int) + 1).toNat = 4 * i + 1 by omega, show (4 * (i : Int) + 2).toNat = 4 * i + 2 by omega, show (4 * (i : Int) + 3).toNat = 4 * i + 3 by omega]
    rw [if_pos (by omega), if_pos (by omega), if_pos (by omega), if_pos (by omega), if_pos (by omega), word_or (hb.at _) (hb.at _) (hb.at _) (hb.at _)]
    have es : (part (sched b' i) 64).set i ((word b' i : Nat) : Int) = part (sched b' (i + 1)) 64 := by
      have := part_set (l := sched b' i) (n := 64) (by omega) (word b' i)
      rw [hls] at this
      rw [this, sched, if_pos (by omega)]
    refine (congrArg again ?_).trans (hag (b', (t, (part (sched b' (i + 1)) 64, (((i : Int) + 1), ())))) ⟨rfl, by simp only; omega, by simp only; omega, by simp only; rw [show ((i : Int) + 1).toNat = i + 1 by omega]⟩ (by simp only; omega))
    rw [← es]; rfl
  · have : i = 16 := by omega
    subst this
    rw [if_neg (by omega)]
    exact second t

theorem len_rnd (t : List Nat) (k w : Nat) : (rnd t k w).length = 8 := rfl

theorem len_rounds {w s : List Nat} (h : s.length = 8) : ∀ i, (rounds w s i).length = 8
  | 0 => h
  | i + 1 => rfl

theorem addL_set {t s : List Nat} {i : Nat} (hi : i < 8) : (castL (addL t s i)).set i ((add32 (t.getD i 0) (s.getD i 0) : Nat) : Int) = castL (addL t s (i + 1)) := by
  apply List.ext_getElem
  · simp [castL, addL]
  · intro j h1 h2
    have hj : j < 8 := by simpa [castL, addL] using h2
    simp only [List.getElem_set, castL, addL, List.getElem_map, List.getElem_range]
    by_cases hc : i = j
    · subst hc; simp
    · rw [if_neg hc]
      by_cases h3 : j < i
      · rw [if_pos h3, if_pos (by omega)]
      · rw [if_neg h3, if_neg (by omega)]

theorem addL_zero {t s : List Nat} (h : t.length = 8) : addL t s 0 = t := by
  apply List.ext_getElem
  · simp [addL, h]
  · intro j h1 h2
    simp only [addL, List.getElem_map, List.getElem_range]
    rw [if_neg (by omega), List.getD_eq_getElem?_getD, List.getElem?_eq_getElem h2]; rfl

theorem addL_getD {t s : List Nat} {i : Nat} (hi : i < 8) : (addL t s i).getD i 0 = t.getD i 0 := by
  rw [addL, List.getD_eq_getElem?_getD, List.getElem?_map, List.getElem?_range hi]
  simp

theorem compress_eq {s w : List Nat} (hs : s.length = 8) : sol_hash_compress (castL s, (castL w, (castL kTab, ()))) = some ((castL (addL (rounds w s 64) s 8), ()), ((), ((), ((), ())))) := by
  unfold sol_hash_compress T_hash_compress
  have second : ∀ t2 : List Int, bigLoop _ _ (fun again x => T_hash_compress_loop1 again x.1 x.2.1 x.2.2.1 x.2.2.2.1) (castL s, (t2, (castL (rounds w s 64), ((0 : Int), ())))) = some ((castL (addL (rounds w s 64) s 8), ()), ((), ((), ((), ())))) := by
    intro t2
    refine bigLoop_rule (I := fun x => x.1 = castL s ∧ (0 : Int) ≤ x.2.2.2.1 ∧ x.2.2.2.1 ≤ (8 : Int) ∧ x.2.2.1 = castL (addL (rounds w s 64) s x.2.2.2.1.toNat)) (m := fun x => ((8 : Int) - x.2.2.2.1).toNat) (g := fun _ => some ((castL (addL (rounds w s 64) s 8), ()), ((), ((), ((), ()))))) ?_
      ⟨rfl, by simp only; omega, by simp only; omega, by simp only; rw [show (0 : Int).toNat = 0 from rfl, addL_zero (len_rounds hs 64)]⟩ (by simp only [bigN_eq]; omega)
    rintro ⟨s', t', t, i, _⟩ again ⟨e0, e1, e2, e3⟩ hag
    simp only at e0 e1 e2 e3 hag ⊢
    subst e0 e3
    obtain ⟨i, rfl⟩ := Int.eq_ofNat_of_zero_le e1
    simp only [T_hash_compress_loop1, letR_eq, brR_dec, brR_inR, Int.toNat_natCast]
    by_cases hi : i < 8
    · rw [if_pos (by omega), if_pos (by omega), if_pos (by omega), if_pos (by omega), castL_getD, castL_getD, a32, addL_getD hi, addL_set hi, w_i64 (by omega) (by omega)]
      exact hag _ ⟨rfl, by simp only; omega, by simp only; omega, by simp only; rw [show ((i : Int) + 1).toNat = i + 1 by omega]⟩ (by simp only; omega)
    · have : i = 8 := by omega
      subst this
      rw [if_neg (by omega)]
  refine bigLoop_rule (I := fun x => x.1 = castL s ∧ x.2.1 = castL w ∧ x.2.2.1 = castL kTab ∧ (0 : Int) ≤ x.2.2.2.2.2.1 ∧ x.2.2.2.2.2.1 ≤ (64 : Int) ∧ x.2.2.2.2.1 = castL (rounds w s x.2.2.2.2.2.1.toNat)) (m := fun x => ((64 : Int) - x.2.2.2.2.2.1).toNat) (g := fun _ => some ((castL (addL (rounds w s 64) s 8), ()), ((), ((), ((), ()))))) ?_
    ⟨rfl, rfl, rfl, by simp only; omega, by simp only; omega, rfl⟩ (by simp only [bigN_eq]; omega)
  rintro ⟨s', w', k', t', t, i, _⟩ again ⟨e0, e1, e2, e3, e4, e5⟩ hag
  simp only at e0 e1 e2 e3 e4 e5 hag ⊢
  subst e0 e1 e2 e5
  obtain ⟨i, rfl⟩ := Int.eq_ofNat_of_zero_le e3
  simp only [T_hash_compress_loop0, letR_eq, brR_dec, brR_inR, Int.toNat_natCast]
  by_cases hi : i < 64
  · rw [if_pos (by omega)]
    simp only [castL_getD, rot6, rot11, rot25, rot2, rot13, rot22, bind_some']
    rw [if_pos (by omega), if_pos (by omega), w_i64 (by omega) (by omega)]
    simp only [not32, x32, n32, a32]
    refine (congrArg again ?_).trans (hag (castL s, (castL w, (castL kTab, (t', (castL (rounds w s (i + 1)), (((i : Int) + 1), ())))))) ⟨rfl, rfl, rfl, by simp only; omega, by simp only; omega, by simp only; rw [show ((i : Int) + 1).toNat = i + 1 by omega]⟩ (by simp only; omega))
    rw [rounds, rnd]
    simp only [castL, List.map_cons, List.map_nil]
    rfl
  · have : i = 64 := by omega
    subst this
    rw [if_neg (by omega)]
    exact second t'

/-! ### The whole sum -/

theorem len_addL (t s : List Nat) (i : Nat) : (addL t s i).length = 8 := by simp [addL]

theorem len_states (m : List Int) : ∀ i, (states m i).length = 8
  | 0 => rfl
  | i + 1 => by rw [states, comp, len_addL]

theorem roundConstants_eq : sol_hash_roundConstants () = some ((castL kTab, ()), ()) := by
  unfold sol_hash_roundConstants T_hash_roundConstants; rfl

/-- The bytes that are written out: up to place i. -/
def outN (s : List Nat) (i : Nat) : List Nat := (List.range i).map fun i => s.getD (i / 4) 0 / 2 ^ (24 - 8 * (i % 4)) % 256

theorem len_outN (s : List Nat) (i : Nat) : (outN s i).length = i := by simp [outN]
theorem outN_succ (s : List Nat) (i : Nat) : outN s (i + 1) = outN s i ++ [s.getD (i / 4) 0 / 2 ^ (24 - 8 * (i % 4)) % 256] := by simp [outN, List.range_succ]
theorem outN_32 (s : List Nat) : castL (outN s 32) = shaOut s := by
  simp only [castL, outN, shaOut, List.map_map]; rfl

theorem out_byte {s : List Nat} {i : Nat} : IntKind.wrap .u8 (Int.fdiv ((castL s).getD (i / 4) 0) ((2 : Int) ^ (24 - 8 * (i % 4)))) = ((s.getD (i / 4) 0 / 2 ^ (24 - 8 * (i % 4)) % 256 : Nat) : Int) := by
  have p : ∀ k : Nat, (2 : Int) ^ k = ((2 ^ k : Nat) : Int) := fun k => by rw [Int.natCast_pow]; rfl
  rw [castL_getD, p, d32, IntKind.wrap_u8]; omega

theorem sumOut_eq {s : List Nat} (t2 : List Int) : bigLoop _ _ (fun again x => T_hash_Sum_loop3 again x.1 x.2.1 x.2.2.1 x.2.2.2.1) (t2, (castL s, (List.replicate 32 0, ((0 : Int), ())))) = some ((shaOut s, ()), ((), ())) := by
  refine bigLoop_rule (I := fun x => x.2.1 = castL s ∧ (0 : Int) ≤ x.2.2.2.1 ∧ x.2.2.2.1 ≤ (32 : Int) ∧ x.2.2.1 = part (outN s x.2.2.2.1.toNat) 32) (m := fun x => ((32 : Int) - x.2.2.2.1).toNat) (g := fun _ => some ((shaOut s, ()), ((), ()))) ?_
    ⟨rfl, by simp only; omega, by simp only; omega, part_nil.symm⟩ (by simp only [bigN_eq]; omega)
  rintro ⟨t, s', h, i, _⟩ again ⟨e0, e1, e2, e3⟩ hag
  simp only at e0 e1 e2 e3 hag ⊢
  subst e0 e3
  obtain ⟨i, rfl⟩ := Int.eq_ofNat_of_zero_le e1
  have hls := len_outN s i
  simp only [T_hash_Sum_loop3, letR_eq, brR_dec, brR_inR, Int.toNat_natCast]
  by_cases hi : i < 32
  · rw [if_pos (by omega), tdiv_pos (by omega), tmod_pos (by omega), w_i64 (n := (i : Int) / 4) (by omega) (by omega), w_i64 (n := 8 * ((i : Int) % 4)) (by omega) (by omega), w_i64 (n := 24 - 8 * ((i : Int) % 4)) (by omega) (by omega), w_i64 (n := (i : Int) + 1) (by omega) (by omega), if_pos (by omega), if_pos (by omega), if_pos (by omega)]
    rw [show ((i : Int) / 4).toNat = i / 4 by omega, show (24 - 8 * ((i : Int) % 4)).toNat = 24 - 8 * (i % 4) by omega, Nat.min_eq_left (by omega), out_byte]
    have es := part_set (l := outN s i) (n := 32) (by omega) (s.getD (i / 4) 0 / 2 ^ (24 - 8 * (i % 4)) % 256)
    rw [hls, ← outN_succ] at es
    rw [es]
    exact hag _ ⟨rfl, by simp only; omega, by simp only; omega, by simp only; rw [show ((i : Int) + 1).toNat = i + 1 by omega]⟩ (by simp only; omega)
  · have : i = 32 := by omega
    subst this
    rw [if_neg (by omega)]
    have := part_full (l := outN s 32)
    rw [hls, outN_32] at this
    rw [this]

theorem sumBlocks_eq {m : List Int} (hm : Bytes m) {n : Nat} (hn : m.length = 64 * n) (hl : m.length ≤ 1000000000) (t2 : List Int) :
    bigLoop _ _ (fun again x => T_hash_Sum_loop2 bigLoop sol_hash_schedule sol_hash_compress again x.1 x.2.1 x.2.2.1 x.2.2.2.1 x.2.2.2.2.1) (t2, (m, (castL iv, (castL kTab, ((0 : Int), ()))))) = some ((shaOut (states m n), ()), ((), ())) := by
  refine bigLoop_rule (I := fun x => x.2.1 = m ∧ x.2.2.2.1 = castL kTab ∧ ∃ i : Nat, i ≤ n ∧ x.2.2.2.2.1 = ((64 * i : Nat) : Int) ∧ x.2.2.1 = castL (states m i)) (m := fun x => ((m.length : Int) - x.2.2.2.2.1).toNat) (g := fun _ => some ((shaOut (states m n), ()), ((), ()))) ?_
    ⟨rfl, rfl, 0, by omega, rfl, rfl⟩ (by simp only [bigN_eq]; omega)
  rintro ⟨t, m', s, k, a, _⟩ again ⟨e0, e1, i, hi, e2, e3⟩ hag
  simp only at e0 e1 e2 e3 hag ⊢
  subst e0 e1 e2 e3
  simp only [T_hash_Sum_loop2, letR_eq, brR_dec, brR_and, Int.toNat_natCast]
  by_cases hc : i < n
  · rw [if_pos (by omega), w_i64 (by omega) (by omega), if_pos (by omega), if_pos (by omega), if_pos (by omega), show (((64 * i : Nat) : Int) + 64).toNat - 64 * i = 64 by omega,
      schedule_eq ((hm.drop _).take _) (by rw [List.length_take, List.length_drop]; omega)]
    simp only [bind_some']
    rw [compress_eq (len_states m' i)]
    simp only [bind_some']
    exact hag _ ⟨rfl, rfl, i + 1, by omega, by simp only; omega, rfl⟩ (by simp only; omega)
  · have : i = n := by omega
    subst this
    rw [if_neg (by omega)]
    exact sumOut_eq t

theorem sumLen_eq {l : List Int} (hb : Bytes l) {n k : Nat} (hn : n < 18446744073709551616) (hk : l.length + 8 = 64 * k) (hl : l.length ≤ 900000000) (t2 : List Int) :
    bigLoop _ _ (fun again x => T_hash_Sum_loop1 bigLoop sol_hash_roundConstants sol_hash_schedule sol_hash_compress again x.1 x.2.1 x.2.2.1 x.2.2.2.1) (t2, (((n : Nat) : Int), (l, ((7 : Int), ())))) = some ((shaOut (states (l ++ beB 8 n) k), ()), ((), ())) := by
  refine Eq.trans (bigLoop_rule (I := fun x => x.2.1 = ((n : Nat) : Int) ∧ (-1 : Int) ≤ x.2.2.2.1 ∧ x.2.2.2.1 ≤ (7 : Int) ∧ Bytes x.2.2.1 ∧ (x.2.2.1.length : Int) + x.2.2.2.1 + 1 = ((64 * k : Nat) : Int)) (m := fun x => (x.2.2.2.1 + 1).toNat) (g := fun x => some ((shaOut (states (x.2.2.1 ++ beB (x.2.2.2.1 + 1).toNat n) k), ()), ((), ()))) ?_
    ⟨rfl, by simp only; omega, by simp only; omega, hb, by simp only; omega⟩ (by simp only [bigN_eq]; omega)) rfl
  rintro ⟨t, n', l', i, _⟩ again ⟨e0, e1, e2, e3, e4⟩ hag
  simp only at e0 e1 e2 e3 e4 hag ⊢
  subst e0
  simp only [T_hash_Sum_loop1, letR_eq, brR_dec, append_def, ge_iff_le]
  by_cases hi : 0 ≤ i
  · obtain ⟨j, rfl⟩ := Int.eq_ofNat_of_zero_le hi
    rw [if_pos hi, w_i64 (n := 8 * (j : Int)) (by omega) (by omega), if_pos (by omega), brR_room8 (by omega), w_i64 (by omega) (by omega), show (8 * (j : Int)).toNat = 8 * j by omega, Nat.min_eq_left (by omega)]
    have p : ∀ k : Nat, (2 : Int) ^ k = ((2 ^ k : Nat) : Int) := fun k => by rw [Int.natCast_pow]; rfl
    have hby : IntKind.wrap .u8 (Int.fdiv ((n : Nat) : Int) ((2 : Int) ^ (8 * j))) = ((n / 256 ^ j % 256 : Nat) : Int) := by
      rw [p, d32, IntKind.wrap_u8, pow256]; omega
    rw [hby, hag _ ⟨rfl, by simp only; omega, by simp only; omega, e3.append (by intro x hx; simp only [List.mem_singleton] at hx; subst hx; omega), by simp only [List.length_append, List.length_singleton]; omega⟩ (by simp only; omega)]
    simp only
    rw [show ((j : Int) - 1 + 1).toNat = j by omega, show ((j : Int) + 1).toNat = j + 1 by omega, beB]; simp
  · have : i = -1 := by omega
    subst this
    rw [if_neg hi, roundConstants_eq]
    simp only [bind_some']
    have := sumBlocks_eq e3 (n := k) (by omega) (by omega) t
    refine Eq.trans this ?_
    simp [beB]

theorem sum_eq {b : List Int} (hb : Bytes b) (hl : b.length ≤ 100000000) : sol_hash_Sum (b, ()) = some ((sha b, ()), ((), ())) := by
  unfold sol_hash_Sum T_hash_Sum
  simp only
  rw [concat_eq (by simp; omega) (by simp), w_u64 (n := ((b.length : Nat) : Int)) (by omega) (by omega), w_u64 (by omega) (by omega), show ((b.length : Nat) : Int) * 8 = ((b.length * 8 : Nat) : Int) by omega]
  simp only [bind_some', List.flatten_cons, List.flatten_nil, List.append_nil]
  refine bigLoop_rule (I := fun x => x.2.1 = ((b.length * 8 : Nat) : Int) ∧ ∃ j : Nat, j ≤ (119 - b.length % 64) % 64 ∧ x.2.2.1 = b ++ 128 :: List.replicate j 0) (m := fun x => b.length + 100 - x.2.2.1.length) (g := fun _ => some ((sha b, ()), ((), ()))) ?_
    ⟨rfl, 0, by omega, rfl⟩ (by simp only [bigN_eq]; omega)
  rintro ⟨t, n, l, _⟩ again ⟨e0, j, hj, e1⟩ hag
  simp only at e0 e1 hag ⊢
  subst e0 e1
  have hlen : (b ++ 128 :: List.replicate j (0 : Int)).length = b.length + 1 + j := by simp; omega
  simp only [T_hash_Sum_loop0, letR_eq, brR_dec, brR_not, append_def]
  rw [tmod_pos (by omega), hlen, brR_room8 (by omega)]
  by_cases hc : j = (119 - b.length % 64) % 64
  · rw [if_pos (by omega)]
    have hby : Bytes (b ++ 128 :: List.replicate j (0 : Int)) := hb.append (by
      intro x hx
      rcases List.mem_cons.1 hx with rfl | hx
      · omega
      · rw [List.eq_of_mem_replicate hx]; omega)
    refine (sumLen_eq hby (n := b.length * 8) (k := (b.length + 1 + j + 8) / 64) (by omega) (by omega) (by omega) t).trans ?_
    have hp : b ++ 128 :: List.replicate j (0 : Int) ++ beB 8 (b.length * 8) = padded b := by simp [padded, hc]
    have hpl : (padded b).length = b.length + 1 + j + 8 := by rw [← hp, List.length_append, hlen, len_beB]
    rw [hp, ← hpl]; rfl
  · rw [if_neg (by omega)]
    have e : b ++ 128 :: List.replicate j (0 : Int) ++ [0] = b ++ 128 :: List.replicate (j + 1) 0 := by
      rw [List.replicate_succ']; simp
    exact hag _ ⟨rfl, j + 1, by omega, by simp only; exact e⟩ (by simp only [e, hlen]; simp; omega)

end Go.Pon
/-
  What the reference of chapter 7 computes: the sum.
-/
set_option autoImplicit false
set_option linter.unusedVariables false
set_option linter.unusedSimpArgs false
set_option maxRecDepth 4000
namespace Go.Pon
open Go

theorem right_eq (x n : Nat) (h1 : 1 ≤ n) (h2 : n ≤ 31) : sol_ref7_right (((x : Nat) : Int), (((n : Nat) : Int), ())) = some ((((rotr x n : Nat) : Int), ()), ((), ((), ()))) := by
  unfold sol_ref7_right T_ref7_right
  simp only [letR_eq]
  rw [show (32 : Int) - ((n : Nat) : Int) = ((32 - n : Nat) : Int) by omega, w_u64 (by omega) (by omega), brR_dec, if_pos (by omega), brR_dec, if_pos (by omega)]
  simp only [Int.toNat_natCast]
  have p : ∀ k : Nat, (2 : Int) ^ k = ((2 ^ k : Nat) : Int) := fun k => by rw [Int.natCast_pow]; rfl
  rw [Nat.min_eq_left (by omega), Nat.min_eq_left (by omega), p, p, m32, d32, o32, or32_comm]
  rfl

theorem rr7 (x : Nat) : sol_ref7_right (((x : Nat) : Int), ((7 : Int), ())) = some ((((rotr x 7 : Nat) : Int), ()), ((), ((), ()))) := right_eq x 7 (by omega) (by omega)
theorem rr18 (x : Nat) : sol_ref7_right (((x : Nat) : Int), ((18 : Int), ())) = some ((((rotr x 18 : Nat) : Int), ()), ((), ((), ()))) := right_eq x 18 (by omega) (by omega)
theorem rr17 (x : Nat) : sol_ref7_right (((x : Nat) : Int), ((17 : Int), ())) = some ((((rotr x 17 : Nat) : Int), ()), ((), ((), ()))) := right_eq x 17 (by omega) (by omega)
theorem rr19 (x : Nat) : sol_ref7_right (((x : Nat) : Int), ((19 : Int), ())) = some ((((rotr x 19 : Nat) : Int), ()), ((), ((), ()))) := right_eq x 19 (by omega) (by omega)
theorem rr6 (x : Nat) : sol_ref7_right (((x : Nat) : Int), ((6 : Int), ())) = some ((((rotr x 6 : Nat) : Int), ()), ((), ((), ()))) := right_eq x 6 (by omega) (by omega)
theorem rr11 (x : Nat) : sol_ref7_right (((x : Nat) : Int), ((11 : Int), ())) = some ((((rotr x 11 : Nat) : Int), ()), ((), ((), ()))) := right_eq x 11 (by omega) (by omega)
theorem rr25 (x : Nat) : sol_ref7_right (((x : Nat) : Int), ((25 : Int), ())) = some ((((rotr x 25 : Nat) : Int), ()), ((), ((), ()))) := right_eq x 25 (by omega) (by omega)
theorem rr2 (x : Nat) : sol_ref7_right (((x : Nat) : Int), ((2 : Int), ())) = some ((((rotr x 2 : Nat) : Int), ()), ((), ((), ()))) := right_eq x 2 (by omega) (by omega)
theorem rr13 (x : Nat) : sol_ref7_right (((x : Nat) : Int), ((13 : Int), ())) = some ((((rotr x 13 : Nat) : Int), ()), ((), ((), ()))) := right_eq x 13 (by omega) (by omega)
theorem rr22 (x : Nat) : sol_ref7_right (((x : Nat) : Int), ((22 : Int), ())) = some ((((rotr x 22 : Nat) : Int), ()), ((), ((), ()))) := right_eq x 22 (by omega) (by omega)

theorem word_add {p q r s : Int} (hp : 0 ≤ p ∧ p ≤ 255) (hq : 0 ≤ q ∧ q ≤ 255) (hr : 0 ≤ r ∧ r ≤ 255) (hs : 0 ≤ s ∧ s ≤ 255) :
    IntKind.wrap .u32 (IntKind.wrap .u32 (IntKind.wrap .u32 (IntKind.wrap .u32 (IntKind.wrap .u32 p * 16777216) + IntKind.wrap .u32 (IntKind.wrap .u32 q * 65536)) + IntKind.wrap .u32 (IntKind.wrap .u32 r * 256)) + IntKind.wrap .u32 s) =
      ((p.toNat * 16777216 + q.toNat * 65536 + r.toNat * 256 + s.toNat : Nat) : Int) := by
  simp only [IntKind.wrap_u32]; omega

theorem words_eq : sol_ref7_words () = some ((castL kTab, ()), ()) := by
  unfold sol_ref7_words T_ref7_words; rfl

theorem block_third {s : List Nat} (hs : s.length = 8) (W : List Nat) (t2 : List Int) : bigLoop _ _ (fun again x => T_ref7_block_loop2 again x.1 x.2.1 x.2.2.1 x.2.2.2.1) (castL s, (t2, (castL (rounds (W) s 64), ((0 : Int), ())))) = some ((castL (addL (rounds W s 64) s 8), ()), ((), ((), ()))) := by
  refine bigLoop_rule (I := fun x => x.1 = castL s ∧ (0 : Int) ≤ x.2.2.2.1 ∧ x.2.2.2.1 ≤ (8 : Int) ∧ x.2.2.1 = castL (addL (rounds (W) s 64) s x.2.2.2.1.toNat)) (m := fun x => ((8 : Int) - x.2.2.2.1).toNat) (g := fun _ => some ((castL (addL (rounds W s 64) s 8), ()), ((), ((), ())))) ?_
    ⟨rfl, by simp only; omega, by simp only; omega, by simp only; rw [show (0 : Int).toNat = 0 from rfl, addL_zero (len_rounds hs 64)]⟩ (by simp only [bigN_eq]; omega)
  rintro ⟨s', t', t, i, _⟩ again ⟨e0, e1, e2, e3⟩ hag
  simp only at e0 e1 e2 e3 hag ⊢
  subst e0 e3
  obtain ⟨i, rfl⟩ := Int.eq_ofNat_of_zero_le e1
  simp only [T_ref7_block_loop2, letR_eq, brR_dec, brR_inR, Int.toNat_natCast]
  by_cases hi : i < 8
  · rw [if_pos (by omega), if_pos (by omega), if_pos (by omega), if_pos (by omega), castL_getD, castL_getD, a32, addL_getD hi, addL_set hi, w_i64 (by omega) (by omega)]
    exact hag _ ⟨rfl, by simp only; omega, by simp only; omega, by simp only; rw [show ((i : Int) + 1).toNat = i + 1 by omega]⟩ (by simp only; omega)
  · have : i = 8 := by omega
    subst this
    rw [if_neg (by omega)]

set_option maxHeartbeats 1000000 in
theorem block_second {s : List Nat} (hs : s.length = 8) (W : List Nat) (t2 : List Int) : bigLoop _ _ (fun again x => T_ref7_block_loop1 bigLoop sol_ref7_right again x.1 x.2.1 x.2.2.1 x.2.2.2.1 x.2.2.2.2.1 x.2.2.2.2.2.1) (castL s, (t2, (castL kTab, (castL (W), (castL s, ((0 : Int), ())))))) = some ((castL (addL (rounds W s 64) s 8), ()), ((), ((), ()))) := by
  refine bigLoop_rule (I := fun x => x.1 = castL s ∧ x.2.2.1 = castL kTab ∧ x.2.2.2.1 = castL (W) ∧ (0 : Int) ≤ x.2.2.2.2.2.1 ∧ x.2.2.2.2.2.1 ≤ (64 : Int) ∧ x.2.2.2.2.1 = castL (rounds (W) s x.2.2.2.2.2.1.toNat)) (m := fun x => ((64 : Int) - x.2.2.2.2.2.1).toNat) (g := fun _ => some ((castL (addL (rounds W s 64) s 8), ()), ((), ((), ())))) ?_
    ⟨rfl, rfl, rfl, by simp only; omega, by simp only; omega, rfl⟩ (by simp only [bigN_eq]; omega)
  rintro ⟨s', t', k', w', t, i, _⟩ again ⟨e0, e1, e2, e3, e4, e5⟩ hag
  simp only at e0 e1 e2 e3 e4 e5 hag ⊢
  subst e0 e1 e2 e5
  obtain ⟨i, rfl⟩ := Int.eq_ofNat_of_zero_le e3
  simp only [T_ref7_block_loop1, letR_eq, brR_dec, brR_inR, Int.toNat_natCast]
  by_cases hi : i < 64
  · have hin : (0 : Int) ≤ (i : Int) ∧ (i : Int) < ((64 : Nat) : Int) := by omega
    rw [if_pos (by omega)]
    simp only [castL_getD, rr6, rr11, rr25, rr2, rr13, rr22, bind_some', if_pos hin]
    rw [w_i64 (by omega) (by omega)]
    simp only [not32, x32, n32, a32]
    refine (congrArg again ?_).trans (hag (castL s, (t', (castL kTab, (castL (W), (castL (rounds (W) s (i + 1)), (((i : Int) + 1), ())))))) ⟨rfl, rfl, rfl, by simp only; omega, by simp only; omega, by simp only; rw [show ((i : Int) + 1).toNat = i + 1 by omega]⟩ (by simp only; omega))
    rw [rounds, rnd]
    simp only [castL, List.map_cons, List.map_nil, add32_assoc]
    rfl
  · have : i = 64 := by omega
    subst this
    rw [if_neg (by omega)]
    exact block_third hs W t'

set_option maxHeartbeats 1000000 in
theorem block_eq {s : List Nat} (hs : s.length = 8) {b : List Int} (hb : Bytes b) (hl : b.length = 64) : sol_ref7_block (castL s, (b, ())) = some ((castL (comp s b), ()), ((), ((), ()))) := by
  unfold sol_ref7_block T_ref7_block
  rw [words_eq]
  simp only [bind_some']
  refine bigLoop_rule (I := fun x => x.1 = b ∧ x.2.1 = castL s ∧ x.2.2.2.1 = castL kTab ∧ (0 : Int) ≤ x.2.2.2.2.2.1 ∧ x.2.2.2.2.2.1 ≤ (64 : Int) ∧ x.2.2.2.2.1 = part (sched b x.2.2.2.2.2.1.toNat) 64) (m := fun x => ((64 : Int) - x.2.2.2.2.2.1).toNat) (g := fun _ => some ((castL (comp s b), ()), ((), ((), ())))) ?_
    ⟨rfl, rfl, rfl, by simp only; omega, by simp only; omega, by simp only; exact part_nil.symm⟩ (by simp only [bigN_eq]; omega)
  rintro ⟨b', h', t, k', w, i, _⟩ again ⟨e0, e1, e2, e3, e4, e5⟩ hag
  simp only at e0 e1 e2 e3 e4 e5 hag ⊢
  subst e0 e1 e2 e5
  obtain ⟨i, rfl⟩ := Int.eq_ofNat_of_zero_le e3
  have hls := len_sched b' i
  simp only [T_ref7_block_loop0, letR_eq, brR_dec, brR_inR, Int.toNat_natCast]
  by_cases hi : i < 64
  · rw [if_pos (by omega)]
    by_cases h16 : i < 16
    · rw [if_pos (by omega), w_i64 (n := 4 * (i : Int)) (by omega) (by omega), w_i64 (n := 4 * (i : Int) + 3) (by omega) (by omega), w_i64 (n := 4 * (i : Int) + 2) (by omega) (by omega), w_i64 (n := 4 * (i : Int) + 1) (by omega) (by omega), w_i64 (n := (i : Int) + 1) (by omega) (by omega)]
      rw [show (4 * (i : Int)).toNat = 4 * i by omega, show (4 * (i : Int) + 1).toNat = 4 * i + 1 by omega, show (4 * (i : Int) + 2).toNat = 4 * i + 2 by omega, show (4 * (i : Int) + 3).toNat = 4 * i + 3 by omega]
      rw [if_pos (by omega), if_pos (by omega), if_pos (by omega), if_pos (by omega), if_pos (by omega), word_add (hb.at _) (hb.at _) (hb.at _) (hb.at _)]
      have es : (part (sched b' i) 64).set i ((word b' i : Nat) : Int) = part (sched b' (i + 1)) 64 := by
        have := part_set (l := sched b' i) (n := 64) (by omega) (word b' i)
        rw [hls] at this
        rw [this, sched, if_pos (by omega)]
      refine (congrArg again ?_).trans (hag (b', (castL s, (t, (castL kTab, (part (sched b' (i + 1)) 64, (((i : Int) + 1), ())))))) ⟨rfl, rfl, rfl, by simp only; omega, by simp only; omega, by simp only; rw [show ((i : Int) + 1).toNat = i + 1 by omega]⟩ (by simp only; omega))
      rw [← es]; rfl
    · rw [if_neg (by omega), w_i64 (n := (i : Int) - 7) (by omega) (by omega), w_i64 (n := (i : Int) - 16) (by omega) (by omega), w_i64 (n := (i : Int) - 2) (by omega) (by omega), w_i64 (n := (i : Int) - 15) (by omega) (by omega), w_i64 (n := (i : Int) + 1) (by omega) (by omega)]
      rw [show ((i : Int) - 7).toNat = i - 7 by omega, show ((i : Int) - 16).toNat = i - 16 by omega, show ((i : Int) - 2).toNat = i - 2 by omega, show ((i : Int) - 15).toNat = i - 15 by omega]
      rw [if_pos (by omega), if_pos (by omega), if_pos (by omega), part_getD (j := i - 7) (by omega), part_getD (j := i - 16) (by omega), part_getD (j := i - 2) (by omega), part_getD (j := i - 15) (by omega)]
      have hA : (0 : Int) ≤ (i : Int) - 7 ∧ (i : Int) - 7 < ((64 : Nat) : Int) := by omega
      have hB : (0 : Int) ≤ (i : Int) ∧ (i : Int) < ((64 : Nat) : Int) := by omega
      simp only [rr7, rr18, rr17, rr19, bind_some', if_pos hA, if_pos hB]
      simp only [x32, d32_8, d32_1024, a32]
      have es : (part (sched b' i) 64).set i ((nextW (sched b' i) i : Nat) : Int) = part (sched b' (i + 1)) 64 := by
        have := part_set (l := sched b' i) (n := 64) (by omega) (nextW (sched b' i) i)
        rw [hls] at this
        rw [this, sched, if_neg (by omega)]
      refine (congrArg again ?_).trans (hag (b', (castL s, (t, (castL kTab, (part (sched b' (i + 1)) 64, (((i : Int) + 1), ())))))) ⟨rfl, rfl, rfl, by simp only; omega, by simp only; omega, by simp only; rw [show ((i : Int) + 1).toNat = i + 1 by omega]⟩ (by simp only; omega))
      rw [← es]; rfl
  · have : i = 64 := by omega
    subst this
    rw [if_neg (by omega)]
    have := part_full (l := sched b' 64)
    rw [hls] at this
    rw [this]
    exact block_second hs (sched b' 64) t

theorem rsumOut_eq {s : List Nat} (t2 : List Int) : bigLoop _ _ (fun again x => T_ref7_Sum_loop3 again x.1 x.2.1 x.2.2.1 x.2.2.2.1) (t2, (castL s, (List.replicate 32 0, ((0 : Int), ())))) = some ((shaOut s, ()), ((), ())) := by
  refine bigLoop_rule (I := fun x => x.2.1 = castL s ∧ (0 : Int) ≤ x.2.2.2.1 ∧ x.2.2.2.1 ≤ (32 : Int) ∧ x.2.2.1 = part (outN s x.2.2.2.1.toNat) 32) (m := fun x => ((32 : Int) - x.2.2.2.1).toNat) (g := fun _ => some ((shaOut s, ()), ((), ()))) ?_
    ⟨rfl, by simp only; omega, by simp only; omega, part_nil.symm⟩ (by simp only [bigN_eq]; omega)
  rintro ⟨t, s', h, i, _⟩ again ⟨e0, e1, e2, e3⟩ hag
  simp only at e0 e1 e2 e3 hag ⊢
  subst e0 e3
  obtain ⟨i, rfl⟩ := Int.eq_ofNat_of_zero_le e1
  have hls := len_outN s i
  simp only [T_ref7_Sum_loop3, letR_eq, brR_dec, brR_inR, Int.toNat_natCast]
  by_cases hi : i < 32
  · rw [if_pos (by omega), tdiv_pos (by omega), tmod_pos (by omega), w_i64 (n := (i : Int) / 4) (by omega) (by omega), w_i64 (n := 8 * ((i : Int) % 4)) (by omega) (by omega), w_i64 (n := 24 - 8 * ((i : Int) % 4)) (by omega) (by omega), w_u64 (n := 24 - 8 * ((i : Int) % 4)) (by omega) (by omega), w_i64 (n := (i : Int) + 1) (by omega) (by omega), if_pos (by omega), if_pos (by omega), if_pos (by omega)]
    rw [show ((i : Int) / 4).toNat = i / 4 by omega, show (24 - 8 * ((i : Int) % 4)).toNat = 24 - 8 * (i % 4) by omega, Nat.min_eq_left (by omega), out_byte]
    have es := part_set (l := outN s i) (n := 32) (by omega) (s.getD (i / 4) 0 / 2 ^ (24 - 8 * (i % 4)) % 256)
    rw [hls, ← outN_succ] at es
    rw [es]
    exact hag _ ⟨rfl, by simp only; omega, by simp only; omega, by simp only; rw [show ((i : Int) + 1).toNat = i + 1 by omega]⟩ (by simp only; omega)
  · have : i = 32 := by omega
    subst this
    rw [if_neg (by omega)]
    have := part_full (l := outN s 32)
    rw [hls, outN_32] at this
    rw [this]

theorem rsumBlocks_eq {m : List Int} (hm : Bytes m) {n : Nat} (hn : m.length = 64 * n) (hl : m.length ≤ 1000000000) (t2 : List Int) :
    bigLoop _ _ (fun again x => T_ref7_Sum_loop2 bigLoop sol_ref7_block again x.1 x.2.1 x.2.2.1 x.2.2.2.1) (t2, (m, (castL iv, ((0 : Int), ())))) = some ((shaOut (states m n), ()), ((), ())) := by
  refine bigLoop_rule (I := fun x => x.2.1 = m ∧ ∃ i : Nat, i ≤ n ∧ x.2.2.2.1 = ((64 * i : Nat) : Int) ∧ x.2.2.1 = castL (states m i)) (m := fun x => ((m.length : Int) - x.2.2.2.1).toNat) (g := fun _ => some ((shaOut (states m n), ()), ((), ()))) ?_
    ⟨rfl, 0, by omega, rfl, rfl⟩ (by simp only [bigN_eq]; omega)
  rintro ⟨t, m', s, a, _⟩ again ⟨e0, i, hi, e2, e3⟩ hag
  simp only at e0 e2 e3 hag ⊢
  subst e0 e2 e3
  simp only [T_ref7_Sum_loop2, letR_eq, brR_dec, brR_and, Int.toNat_natCast]
  by_cases hc : i < n
  · rw [if_pos (by omega), w_i64 (by omega) (by omega), if_pos (by omega), if_pos (by omega), if_pos (by omega), show (((64 * i : Nat) : Int) + 64).toNat - 64 * i = 64 by omega,
      block_eq (len_states m' i) ((hm.drop _).take _) (by rw [List.length_take, List.length_drop]; omega)]
    simp only [bind_some']
    exact hag _ ⟨rfl, i + 1, by omega, by simp only; omega, rfl⟩ (by simp only; omega)
  · have : i = n := by omega
    subst this
    rw [if_neg (by omega)]
    exact rsumOut_eq t

theorem rsumLen_eq {l : List Int} (hb : Bytes l) {n k : Nat} (hn : n < 18446744073709551616) (hk : l.length + 8 = 64 * k) (hl : l.length ≤ 900000000) (t2 : List Int) :
    bigLoop _ _ (fun again x => T_ref7_Sum_loop1 bigLoop sol_ref7_block again x.1 x.2.1 x.2.2.1 x.2.2.2.1) (t2, (l, (((n : Nat) : Int), ((7 : Int), ())))) = some ((shaOut (states (l ++ beB 8 n) k), ()), ((), ())) := by
  refine Eq.trans (bigLoop_rule (I := fun x => x.2.2.1 = ((n : Nat) : Int) ∧ (-1 : Int) ≤ x.2.2.2.1 ∧ x.2.2.2.1 ≤ (7 : Int) ∧ Bytes x.2.1 ∧ (x.2.1.length : Int) + x.2.2.2.1 + 1 = ((64 * k : Nat) : Int)) (m := fun x => (x.2.2.2.1 + 1).toNat) (g := fun x => some ((shaOut (states (x.2.1 ++ beB (x.2.2.2.1 + 1).toNat n) k), ()), ((), ()))) ?_
    ⟨rfl, by simp only; omega, by simp only; omega, hb, by simp only; omega⟩ (by simp only [bigN_eq]; omega)) rfl
  rintro ⟨t, l', n', i, _⟩ again ⟨e0, e1, e2, e3, e4⟩ hag
  simp only at e0 e1 e2 e3 e4 hag ⊢
  subst e0
  simp only [T_ref7_Sum_loop1, letR_eq, brR_dec, append_def, ge_iff_le]
  by_cases hi : 0 ≤ i
  · obtain ⟨j, rfl⟩ := Int.eq_ofNat_of_zero_le hi
    rw [if_pos hi, w_i64 (n := 8 * (j : Int)) (by omega) (by omega), w_u64 (n := 8 * (j : Int)) (by omega) (by omega), if_pos (by omega), brR_room8 (by omega), w_i64 (by omega) (by omega), show (8 * (j : Int)).toNat = 8 * j by omega, Nat.min_eq_left (by omega)]
    have p : ∀ k : Nat, (2 : Int) ^ k = ((2 ^ k : Nat) : Int) := fun k => by rw [Int.natCast_pow]; rfl
    have hby : IntKind.wrap .u8 (Int.fdiv ((n : Nat) : Int) ((2 : Int) ^ (8 * j))) = ((n / 256 ^ j % 256 : Nat) : Int) := by
      rw [p, d32, IntKind.wrap_u8, pow256]; omega
    rw [hby, hag _ ⟨rfl, by simp only; omega, by simp only; omega, e3.append (by intro x hx; simp only [List.mem_singleton] at hx; subst hx; omega), by simp only [List.length_append, List.length_singleton]; omega⟩ (by simp only; omega)]
    simp only
    rw [show ((j : Int) - 1 + 1).toNat = j by omega, show ((j : Int) + 1).toNat = j + 1 by omega, beB]; simp
  · have : i = -1 := by omega
    subst this
    rw [if_neg hi]
    have := rsumBlocks_eq e3 (n := k) (by omega) (by omega) t
    refine Eq.trans this ?_
    simp [beB]

theorem rsum_eq {b : List Int} (hb : Bytes b) (hl : b.length ≤ 100000000) : sol_ref7_Sum (b, ()) = some ((sha b, ()), ((), ())) := by
  unfold sol_ref7_Sum T_ref7_Sum
  simp only [append_def]
  rw [brR_room8 (by omega), brR_room8 (by omega)]
  refine bigLoop_rule (I := fun x => x.1 = b ∧ ∃ j : Nat, j ≤ (119 - b.length % 64) % 64 ∧ x.2.2.1 = b ++ 128 :: List.replicate j 0) (m := fun x => b.length + 100 - x.2.2.1.length) (g := fun _ => some ((sha b, ()), ((), ()))) ?_
    ⟨rfl, 0, by omega, rfl⟩ (by simp only [bigN_eq]; omega)
  rintro ⟨b', t, l, _⟩ again ⟨e0, j, hj, e1⟩ hag
  simp only at e0 e1 hag ⊢
  subst e0 e1
  have hlen : (b' ++ 128 :: List.replicate j (0 : Int)).length = b'.length + 1 + j := by simp; omega
  simp only [T_ref7_Sum_loop0, letR_eq, brR_dec, brR_not, append_def]
  rw [tmod_pos (by omega), hlen, brR_room8 (by omega)]
  by_cases hc : j = (119 - b'.length % 64) % 64
  · rw [if_pos (by omega), w_u64 (n := ((b'.length : Nat) : Int)) (by omega) (by omega), w_u64 (by omega) (by omega), show ((b'.length : Nat) : Int) * 8 = ((b'.length * 8 : Nat) : Int) by omega]
    have hby : Bytes (b' ++ 128 :: List.replicate j (0 : Int)) := hb.append (by
      intro x hx
      rcases List.mem_cons.1 hx with rfl | hx
      · omega
      · rw [List.eq_of_mem_replicate hx]; omega)
    refine (rsumLen_eq hby (n := b'.length * 8) (k := (b'.length + 1 + j + 8) / 64) (by omega) (by omega) (by omega) t).trans ?_
    have hp : b' ++ 128 :: List.replicate j (0 : Int) ++ beB 8 (b'.length * 8) = padded b' := by simp [padded, hc]
    have hpl : (padded b').length = b'.length + 1 + j + 8 := by rw [← hp, List.length_append, hlen, len_beB]
    rw [hp, ← hpl]; rfl
  · rw [if_neg (by omega)]
    have e : b' ++ 128 :: List.replicate j (0 : Int) ++ [0] = b' ++ 128 :: List.replicate (j + 1) 0 := by
      rw [List.replicate_succ']; simp
    exact hag _ ⟨rfl, j + 1, by omega, by simp only; exact e⟩ (by simp only [e, hlen]; simp; omega)

end Go.Pon
/-
  What package hash and its reference compute: leaves, nodes, the hexadecimal form.
-/
set_option autoImplicit false
set_option linter.unusedVariables false
set_option linter.unusedSimpArgs false
set_option maxRecDepth 100000
namespace Go.Pon
open Go

/-- A hash. -/
def H32 (h : List Int) : Prop := h.length = 32 ∧ Bytes h

theorem h32_sha (b : List Int) : H32 (sha b) := ⟨len_sha b, bytes_sha b⟩
theorem h32_wf {h : List Int} (hw : (Ty.arr 32 (.int .u8)).wf h) : H32 h := ⟨hw.1, fun x hx => inK_u8.1 (hw.2 x hx)⟩

def leafH (b : List Int) : List Int := sha (0 :: b)
def nodeH (x y : List Int) : List Int := sha (1 :: (x ++ y))

theorem bytes_cons {x : Int} {b : List Int} (hx : 0 ≤ x ∧ x ≤ 255) (hb : Bytes b) : Bytes (x :: b) := fun y hy => by
  rcases List.mem_cons.1 hy with rfl | hy
  · exact hx
  · exact hb y hy

theorem leaf_eq {b : List Int} (hb : Bytes b) (hl : b.length ≤ 90000000) : sol_hash_Leaf (b, ()) = some ((leafH b, ()), ((), ())) := by
  unfold sol_hash_Leaf T_hash_Leaf
  rw [concat_eq (by simp; omega) (by simp)]
  simp only [bind_some', List.flatten_cons, List.flatten_nil, List.append_nil, List.cons_append, List.nil_append]
  rw [sum_eq (bytes_cons (by omega) hb) (by simp; omega)]
  rfl

theorem take32 {x : List Int} (h : x.length = 32) : List.take (32 - 0) (List.drop 0 x) = x := by
  rw [List.drop_zero, List.take_of_length_le (by omega)]

theorem node_eq {x y : List Int} (hx : H32 x) (hy : H32 y) : sol_hash_Node (x, (y, ())) = some ((nodeH x y, ()), ((), ((), ()))) := by
  unfold sol_hash_Node T_hash_Node
  simp only
  have h1 := hx.1
  have h2 := hy.1
  rw [take32 h1, take32 h2, concat_eq (by simp; omega) (by simp)]
  simp only [bind_some', List.flatten_cons, List.flatten_nil, List.append_nil, List.cons_append, List.nil_append]
  rw [sum_eq (bytes_cons (by omega) (hx.2.append hy.2)) (by simp; omega)]
  rfl

theorem rleaf_eq {b : List Int} (hb : Bytes b) (hl : b.length ≤ 90000000) : sol_ref7_Leaf (b, ()) = some ((leafH b, ()), ((), ())) := by
  unfold sol_ref7_Leaf T_ref7_Leaf
  simp only [append_def]
  rw [brR_room8 (by omega), rsum_eq (b := [0] ++ b) (bytes_cons (by omega) hb) (by simp; omega)]
  rfl

theorem rnode_eq {x y : List Int} (hx : H32 x) (hy : H32 y) : sol_ref7_Node (x, (y, ())) = some ((nodeH x y, ()), ((), ((), ()))) := by
  unfold sol_ref7_Node T_ref7_Node
  simp only [letR_eq, append_def]
  have h1 := hx.1
  have h2 := hy.1
  rw [take32 h1, take32 h2, brR_room8 (by omega), brR_room8 (by simp; omega), rsum_eq (b := [1] ++ x ++ y) (bytes_cons (by omega) (hx.2.append hy.2)) (by simp; omega)]
  rfl

theorem h32_node (x y : List Int) : H32 (nodeH x y) := h32_sha _
theorem h32_leaf (x : List Int) : H32 (leafH x) := h32_sha _

theorem eqD_h32 (x y : List Int) : eqD (.arr 32 (.int .u8)) x y = decide (x = y) := eqD_dec _ _ _

/-! ### The hexadecimal form -/

def hexc : List Int := [48, 49, 50, 51, 52, 53, 54, 55, 56, 57, 97, 98, 99, 100, 101, 102]

def hex2 (x : Int) : List Int := [hexc.getD (x.toNat / 16) 0, hexc.getD (x.toNat % 16) 0]

def fmtH (h : List Int) : List Int := h.flatMap hex2

theorem len_fmtH : ∀ h : List Int, (fmtH h).length = 2 * h.length
  | [] => rfl
  | x :: h => by
    have := len_fmtH h
    simp only [fmtH, List.flatMap_cons, List.length_append, List.length_cons] at this ⊢
    simp only [hex2, List.length_cons, List.length_nil] at this ⊢
    omega

theorem fmtH_take {h : List Int} {i : Nat} (hi : i < h.length) : fmtH (h.take (i + 1)) = fmtH (h.take i) ++ hex2 (h.getD i 0) := by
  rw [List.take_succ_eq_append_getElem hi, fmtH, List.flatMap_append, List.getD_eq_getElem?_getD, List.getElem?_eq_getElem hi]; simp [fmtH]

theorem and15 {x : Int} (h : 0 ≤ x ∧ x ≤ 255) : IntKind.wrap .u8 ((BitVec.toNat (BitVec.ofInt 8 x &&& BitVec.ofInt 8 15) : Nat) : Int) = ((x.toNat % 16 : Nat) : Int) := by
  have key : ∀ n, n < 256 → IntKind.wrap .u8 ((BitVec.toNat (BitVec.ofInt 8 ((n : Nat) : Int) &&& BitVec.ofInt 8 15) : Nat) : Int) = ((n % 16 : Nat) : Int) := by decide
  obtain ⟨n, rfl⟩ := Int.eq_ofNat_of_zero_le h.1
  exact key n (by omega)

theorem format_eq {h : List Int} (hh : H32 h) : sol_hash_Format (h, ()) = some ((fmtH h, ()), ((), ())) := by
  unfold sol_hash_Format T_hash_Format
  obtain ⟨h1, h2⟩ := hh
  refine bigLoop_rule (I := fun x => x.2.1 = h ∧ (0 : Int) ≤ x.2.2.1 ∧ x.2.2.1 ≤ (32 : Int) ∧ x.1 = fmtH (h.take x.2.2.1.toNat)) (m := fun x => ((32 : Int) - x.2.2.1).toNat) (g := fun _ => some ((fmtH h, ()), ((), ()))) ?_
    ⟨rfl, by simp only; omega, by simp only; omega, rfl⟩ (by simp only [bigN_eq]; omega)
  rintro ⟨o, h', i, _⟩ again ⟨e0, e1, e2, e3⟩ hag
  simp only at e0 e1 e2 e3 hag ⊢
  subst e0 e3
  obtain ⟨i, rfl⟩ := Int.eq_ofNat_of_zero_le e1
  simp only [T_hash_Format_loop0, letR_eq, brR_dec, brR_inR, append_def, Int.toNat_natCast]
  by_cases hi : i < 32
  · have hb := h2.at i
    have hle : (fmtH (h'.take i)).length ≤ 64 := by rw [len_fmtH, List.length_take]; omega
    rw [if_pos (by omega), if_pos (by omega), and15 hb, Int.fdiv_eq_ediv_of_nonneg _ (by omega), if_pos (by omega), if_pos (by omega), brR_room8 (by omega), w_i64 (by omega) (by omega), show (h'.getD i 0 / 16).toNat = (h'.getD i 0).toNat / 16 by omega, Int.toNat_natCast]
    exact hag _ ⟨rfl, by simp only; omega, by simp only; omega, by simp only; rw [show ((i : Int) + 1).toNat = i + 1 by omega, fmtH_take (by omega)]; rfl⟩ (by simp only; omega)
  · have : i = 32 := by omega
    subst this
    rw [if_neg (by omega), List.take_of_length_le (by omega)]

theorem hexc_cut : ∀ m, m < 16 → (hexc.drop m).take (m + 1 - m) = [hexc.getD m 0] := by decide

theorem rformat_eq {h : List Int} (hh : H32 h) : sol_ref7_Format (h, ()) = some ((fmtH h, ()), ((), ())) := by
  unfold sol_ref7_Format T_ref7_Format
  obtain ⟨h1, h2⟩ := hh
  refine bigLoop_rule (I := fun x => x.1 = h ∧ (0 : Int) ≤ x.2.2.1 ∧ x.2.2.1 ≤ (32 : Int) ∧ x.2.1 = fmtH (h.take x.2.2.1.toNat)) (m := fun x => ((32 : Int) - x.2.2.1).toNat) (g := fun _ => some ((fmtH h, ()), ((), ()))) ?_
    ⟨rfl, by simp only; omega, by simp only; omega, rfl⟩ (by simp only [bigN_eq]; omega)
  rintro ⟨h', o, i, _⟩ again ⟨e0, e1, e2, e3⟩ hag
  simp only at e0 e1 e2 e3 hag ⊢
  subst e0 e3
  obtain ⟨i, rfl⟩ := Int.eq_ofNat_of_zero_le e1
  simp only [T_ref7_Format_loop0, letR_eq, brR_dec, brR_inR, brR_and, append_def, Int.toNat_natCast]
  by_cases hi : i < 32
  · have hb := h2.at i
    have hle : (fmtH (h'.take i)).length ≤ 64 := by rw [len_fmtH, List.length_take]; omega
    rw [if_pos (by omega), if_pos (by omega), if_pos (by omega), tdiv_pos hb.1, tmod_pos hb.1, w_u8 (n := h'.getD i 0 / 16) (by omega) (by omega), w_u8 (n := h'.getD i 0 / 16 + 1) (by omega) (by omega), w_u8 (n := h'.getD i 0 % 16 + 1) (by omega) (by omega)]
    have c1 := hexc_cut ((h'.getD i 0).toNat / 16) (by omega)
    have c2 := hexc_cut ((h'.getD i 0).toNat % 16) (by omega)
    rw [show (h'.getD i 0 / 16 + 1).toNat = (h'.getD i 0).toNat / 16 + 1 by omega, show (h'.getD i 0 / 16).toNat = (h'.getD i 0).toNat / 16 by omega, show (h'.getD i 0 % 16 + 1).toNat = (h'.getD i 0).toNat % 16 + 1 by omega, show (h'.getD i 0 % 16).toNat = (h'.getD i 0).toNat % 16 by omega]
    rw [show ([48, 49, 50, 51, 52, 53, 54, 55, 56, 57, 97, 98, 99, 100, 101, 102] : List Int) = hexc from rfl, c1, c2, if_pos (by omega), if_pos (by omega), if_pos (by omega), if_pos (by simp; omega), if_pos (by omega), if_pos (by omega), if_pos (by omega), if_pos (by simp; omega), w_i64 (by omega) (by omega)]
    exact hag _ ⟨rfl, by simp only; omega, by simp only; omega, by simp only; rw [show ((i : Int) + 1).toNat = i + 1 by omega, fmtH_take (by omega), List.append_assoc]; rfl⟩ (by simp only; omega)
  · have : i = 32 := by omega
    subst this
    rw [if_neg (by omega), List.take_of_length_le (by omega)]

/-- The value of a hexadecimal digit, or -1. -/
def hv (c : Int) : Int := if 48 ≤ c ∧ c ≤ 57 then c - 48 else if 97 ≤ c ∧ c ≤ 102 then c - 87 else -1

theorem hv_lt (c : Int) : -1 ≤ hv c ∧ hv c ≤ 15 := by unfold hv; split <;> (try split) <;> omega

theorem digit_eq (c : Int) : sol_hash_digit (c, ()) = some ((if hv c < 0 then 0 else hv c, (decide (0 ≤ hv c), ())), ((), ())) := by
  unfold sol_hash_digit T_hash_digit hv
  simp only [brR_dec, ge_iff_le]
  by_cases h1 : 48 ≤ c <;> by_cases h2 : c ≤ 57 <;> by_cases h3 : 97 ≤ c <;> by_cases h4 : c ≤ 102 <;> simp only [h1, h2, h3, h4, if_true, if_false, true_and, false_and, and_true, and_false]
  all_goals try omega
  all_goals try rfl
  all_goals first
    | (rw [w_u8 (n := c - 48) (by omega) (by omega), if_neg (by omega), decide_eq_true (by omega)]; done)
    | (rw [w_u8 (n := c - 97) (by omega) (by omega), w_u8 (by omega) (by omega), if_neg (by omega), decide_eq_true (by omega), show c - 97 + 10 = c - 87 by omega])

theorem hexDigit_eq (c : Int) : sol_ref7_HexDigit (c, ()) = some ((hv c, ()), ((), ())) := by
  unfold sol_ref7_HexDigit T_ref7_HexDigit hv
  simp only [brR_dec, ge_iff_le]
  by_cases h1 : 48 ≤ c <;> by_cases h2 : c ≤ 57 <;> by_cases h3 : 97 ≤ c <;> by_cases h4 : c ≤ 102 <;> simp only [h1, h2, h3, h4, if_true, if_false, true_and, false_and, and_true, and_false]
  all_goals try omega
  all_goals try rfl
  all_goals first
    | (rw [w_u8 (n := c - 48) (by omega) (by omega), w_i64 (by omega) (by omega)]; done)
    | (rw [w_u8 (n := c - 97) (by omega) (by omega), w_i64 (n := c - 97) (by omega) (by omega), w_i64 (by omega) (by omega), show c - 97 + 10 = c - 87 by omega])

/-- The bytes that the first i digits give. -/
def hN (s : List Int) (i : Nat) : List Int := (List.range 32).map fun k => if 2 * k + 1 < i then hv (s.getD (2 * k) 0) * 16 + hv (s.getD (2 * k + 1) 0) else if 2 * k < i then hv (s.getD (2 * k) 0) else 0

theorem len_hN (s : List Int) (i : Nat) : (hN s i).length = 32 := by simp [hN]

theorem hN_getD {s : List Int} {i k : Nat} (hk : k < 32) : (hN s i).getD k 0 = if 2 * k + 1 < i then hv (s.getD (2 * k) 0) * 16 + hv (s.getD (2 * k + 1) 0) else if 2 * k < i then hv (s.getD (2 * k) 0) else 0 := by
  rw [hN, List.getD_eq_getElem?_getD, List.getElem?_map, List.getElem?_range hk]; rfl

theorem hN_ext {s : List Int} {l : List Int} {i : Nat} (hl : l.length = 32) (h : ∀ k, k < 32 → l.getD k 0 = (hN s i).getD k 0) : l = hN s i := by
  apply List.ext_getElem
  · rw [hl, len_hN]
  · intro k h1 h2
    have := h k (by omega)
    rw [List.getD_eq_getElem?_getD, List.getElem?_eq_getElem h1, List.getD_eq_getElem?_getD, List.getElem?_eq_getElem h2] at this
    exact this

theorem lgetD_set {l : List Int} {i k : Nat} {x : Int} (hi : i < l.length) : (l.set i x).getD k 0 = if k = i then x else l.getD k 0 := by
  rw [List.getD_eq_getElem?_getD, List.getElem?_set]
  by_cases h : i = k
  · subst h; rw [if_pos rfl, if_pos hi, if_pos rfl]; rfl
  · rw [if_neg h, if_neg (fun e => h e.symm), List.getD_eq_getElem?_getD]

/-- Sixty-four hexadecimal digits. -/
def Hex64 (s : List Int) : Prop := s.length = 64 ∧ ∀ i, i < 64 → 0 ≤ hv (s.getD i 0)

noncomputable instance (s : List Int) : Decidable (Hex64 s) := Classical.propDecidable _

/-- What Parse gives. -/
noncomputable def parseH (s : List Int) : List Int × (Int × Unit) :=
  if Hex64 s then (hN s 64, (0, ())) else (List.replicate 32 0, (3, ()))

theorem hN_zero (s : List Int) : hN s 0 = List.replicate 32 0 := by
  symm
  refine hN_ext (by simp) fun k hk => ?_
  rw [hN_getD hk, if_neg (by omega), if_neg (by omega), List.getD_eq_getElem?_getD, List.getElem?_replicate, if_pos hk]; rfl

theorem parse_eq (s : List Int) (hs : s.length ≤ 1000000000) : sol_hash_Parse (s, ()) = some (parseH s, ((), ())) := by
  unfold sol_hash_Parse T_hash_Parse parseH
  simp only [brR_not, brR_dec]
  by_cases hl : s.length = 64
  · rw [if_pos (by omega)]
    refine bigLoop_rule (I := fun x => x.1 = s ∧ (0 : Int) ≤ x.2.2.2.1 ∧ x.2.2.2.1 ≤ (32 : Int) ∧ x.2.2.1 = hN s (2 * x.2.2.2.1.toNat) ∧ ∀ i, i < 2 * x.2.2.2.1.toNat → 0 ≤ hv (s.getD i 0)) (m := fun x => ((32 : Int) - x.2.2.2.1).toNat)
      (g := fun _ => some (if Hex64 s then (hN s 64, (0, ())) else (List.replicate 32 0, (3, ())), ((), ()))) ?_
      ⟨rfl, by simp only; omega, by simp only; omega, (hN_zero s).symm, fun i hi => by simp at hi⟩ (by simp only [bigN_eq]; omega)
    rintro ⟨s', t, h, i, _⟩ again ⟨e0, e1, e2, e3, e4⟩ hag
    simp only at e0 e1 e2 e3 e4 hag ⊢
    subst e0 e3
    obtain ⟨i, rfl⟩ := Int.eq_ofNat_of_zero_le e1
    simp only [Int.toNat_natCast] at e4
    simp only [T_hash_Parse_loop0, letR_eq, brR_dec, brR_inR, brR_not, Int.toNat_natCast]
    by_cases hi : i < 32
    · rw [if_pos (by omega), w_i64 (n := 2 * (i : Int)) (by omega) (by omega), w_i64 (n := 2 * (i : Int) + 1) (by omega) (by omega), if_pos (by omega), show (2 * (i : Int)).toNat = 2 * i by omega, show (2 * (i : Int) + 1).toNat = 2 * i + 1 by omega, digit_eq, digit_eq]
      simp only [bind_some']
      rw [if_pos (by omega), brR_dec, brR_dec]
      have b1 := hv_lt (s'.getD (2 * i) 0)
      have b2 := hv_lt (s'.getD (2 * i + 1) 0)
      by_cases c1 : 0 ≤ hv (s'.getD (2 * i) 0)
      · rw [if_pos c1]
        by_cases c2 : 0 ≤ hv (s'.getD (2 * i + 1) 0)
        · rw [if_pos c2, if_pos (by omega), if_neg (by omega), if_neg (by omega), w_i64 (by omega) (by omega)]
          have key : ∀ p, p < 16 → ∀ q, q < 16 → IntKind.wrap .u8 ((BitVec.toNat (BitVec.ofInt 8 (IntKind.wrap .u8 (((p : Nat) : Int) * 16)) ||| BitVec.ofInt 8 ((q : Nat) : Int)) : Nat) : Int) = ((p : Nat) : Int) * 16 + ((q : Nat) : Int) := by decide
          have kk := key (hv (s'.getD (2 * i) 0)).toNat (by omega) (hv (s'.getD (2 * i + 1) 0)).toNat (by omega)
          rw [show (((hv (s'.getD (2 * i) 0)).toNat : Nat) : Int) = hv (s'.getD (2 * i) 0) by omega, show (((hv (s'.getD (2 * i + 1) 0)).toNat : Nat) : Int) = hv (s'.getD (2 * i + 1) 0) by omega] at kk
          rw [kk]
          refine hag _ ⟨rfl, by simp only; omega, by simp only; omega, ?_, ?_⟩ (by simp only; omega)
          · simp only
            rw [show ((i : Int) + 1).toNat = i + 1 by omega]
            refine hN_ext (by rw [List.length_set, len_hN]) fun k hk => ?_
            rw [lgetD_set (by rw [len_hN]; omega), hN_getD hk, hN_getD hk]
            by_cases hki : k = i
            · subst hki; rw [if_pos rfl, if_pos (by omega)]
            · rw [if_neg hki]
              by_cases hlt : k < i
              · rw [if_pos (by omega), if_pos (by omega)]
              · rw [if_neg (by omega), if_neg (by omega), if_neg (by omega), if_neg (by omega)]
          · simp only
            rw [show ((i : Int) + 1).toNat = i + 1 by omega]
            intro k hk
            have : k < 2 * i ∨ k = 2 * i ∨ k = 2 * i + 1 := by omega
            rcases this with h | rfl | rfl
            · exact e4 k h
            · exact c1
            · exact c2
        · rw [if_neg c2, if_neg (fun h => c2 (h.2 _ (by omega)))]
      · rw [if_neg c1, if_neg (fun h => c1 (h.2 _ (by omega)))]
    · have : i = 32 := by omega
      subst this
      rw [if_neg (by omega), if_pos ⟨hl, fun k hk => e4 k (by omega)⟩]
  · rw [if_neg (by omega), if_neg (fun h => hl h.1)]

theorem rparse_eq (s : List Int) (hs : s.length ≤ 1000000000) : sol_ref7_Parse (s, ()) = some (parseH s, ((), ())) := by
  unfold sol_ref7_Parse T_ref7_Parse parseH
  simp only [brR_not, brR_dec]
  by_cases hl : s.length = 64
  · rw [if_pos (by omega)]
    refine bigLoop_rule (I := fun x => x.1 = s ∧ (0 : Int) ≤ x.2.2.2.1 ∧ x.2.2.2.1 ≤ (64 : Int) ∧ x.2.2.1 = hN s x.2.2.2.1.toNat ∧ ∀ i, i < x.2.2.2.1.toNat → 0 ≤ hv (s.getD i 0)) (m := fun x => ((64 : Int) - x.2.2.2.1).toNat)
      (g := fun _ => some (if Hex64 s then (hN s 64, (0, ())) else (List.replicate 32 0, (3, ())), ((), ()))) ?_
      ⟨rfl, by simp only; omega, by simp only; omega, (hN_zero s).symm, fun i hi => by simp at hi⟩ (by simp only [bigN_eq]; omega)
    rintro ⟨s', t, h, i, _⟩ again ⟨e0, e1, e2, e3, e4⟩ hag
    simp only at e0 e1 e2 e3 e4 hag ⊢
    subst e0 e3
    obtain ⟨i, rfl⟩ := Int.eq_ofNat_of_zero_le e1
    simp only [Int.toNat_natCast] at e4
    simp only [T_ref7_Parse_loop0, letR_eq, brR_dec, brR_inR, brR_not, Int.toNat_natCast]
    by_cases hi : i < 64
    · have hA : (0 : Int) ≤ (i : Int) ∧ (i : Int) < ((s'.length : Nat) : Int) := by omega
      rw [if_pos (by omega), if_pos hA, hexDigit_eq]
      simp only [bind_some']
      have b1 := hv_lt (s'.getD i 0)
      by_cases c1 : hv (s'.getD i 0) < 0
      · rw [if_pos c1, if_neg (fun h => absurd (h.2 i hi) (by omega))]
      · rw [if_neg c1, tdiv_pos (by omega), w_i64 (n := (i : Int) / 2) (by omega) (by omega), if_pos (by omega), if_pos (by omega), if_pos (by omega), show ((i : Int) / 2).toNat = i / 2 by omega, w_i64 (by omega) (by omega)]
        have b2 := hv_lt (s'.getD (2 * (i / 2)) 0)
        have hset : (hN s' i).set (i / 2) (IntKind.wrap .u8 (IntKind.wrap .u8 ((hN s' i).getD (i / 2) 0 * 16) + IntKind.wrap .u8 (hv (s'.getD i 0)))) = hN s' (i + 1) := by
          refine hN_ext (by rw [List.length_set, len_hN]) fun k hk => ?_
          rw [lgetD_set (by rw [len_hN]; omega), hN_getD (k := k) hk]
          by_cases hki : k = i / 2
          · rw [if_pos hki, hN_getD (by omega)]
            subst hki
            rcases Nat.mod_two_eq_zero_or_one i with hm | hm
            · rw [hN_getD (by omega), if_neg (by omega), if_neg (by omega), if_neg (by omega), if_pos (by omega), w_u8 (n := 0 * 16) (by omega) (by omega), w_u8 (n := hv (s'.getD i 0)) (by omega) (by omega), w_u8 (by omega) (by omega), show 2 * (i / 2) = i by omega]; omega
            · have h0 := e4 (2 * (i / 2)) (by omega)
              rw [hN_getD (by omega), if_neg (by omega), if_pos (by omega), if_pos (by omega), w_u8 (n := hv (s'.getD (2 * (i / 2)) 0) * 16) (by omega) (by omega), w_u8 (n := hv (s'.getD i 0)) (by omega) (by omega), w_u8 (by omega) (by omega), show 2 * (i / 2) + 1 = i by omega]
          · rw [if_neg hki, hN_getD hk]
            by_cases hlt : k < i / 2
            · rw [if_pos (by omega), if_pos (by omega)]
            · rw [if_neg (by omega), if_neg (by omega), if_neg (by omega), if_neg (by omega)]
        rw [hset]
        refine hag _ ⟨rfl, by simp only; omega, by simp only; omega, ?_, ?_⟩ (by simp only; omega)
        · simp only
          rw [show ((i : Int) + 1).toNat = i + 1 by omega]
        · simp only
          rw [show ((i : Int) + 1).toNat = i + 1 by omega]
          intro k hk
          have : k < i ∨ k = i := by omega
          rcases this with h | rfl
          · exact e4 k h
          · omega
    · have : i = 64 := by omega
      subst this
      rw [if_neg (by omega), if_pos ⟨hl, fun k hk => e4 k (by omega)⟩]
  · rw [if_neg (by omega), if_neg (fun h => hl h.1)]

theorem fmtH_getD : ∀ {h : List Int} {k : Nat}, k < h.length → (fmtH h).getD (2 * k) 0 = hexc.getD ((h.getD k 0).toNat / 16) 0 ∧ (fmtH h).getD (2 * k + 1) 0 = hexc.getD ((h.getD k 0).toNat % 16) 0
  | [], k, hk => by simp at hk
  | x :: h, 0, _ => ⟨rfl, rfl⟩
  | x :: h, k + 1, hk => by
    have := fmtH_getD (h := h) (k := k) (by simpa using hk)
    have e : fmtH (x :: h) = hexc.getD (x.toNat / 16) 0 :: hexc.getD (x.toNat % 16) 0 :: fmtH h := rfl
    rw [e, show 2 * (k + 1) = 2 * k + 1 + 1 by omega]
    simp only [List.getD_cons_succ]
    exact this

theorem hv_hexc : ∀ m, m < 16 → hv (hexc.getD m 0) = ((m : Nat) : Int) := by decide

theorem parse_format {h : List Int} (hh : H32 h) : parseH (fmtH h) = (h, (0, ())) := by
  obtain ⟨h1, h2⟩ := hh
  unfold parseH
  have hdig : ∀ k, k < 32 → hv ((fmtH h).getD (2 * k) 0) = (((h.getD k 0).toNat / 16 : Nat) : Int) ∧ hv ((fmtH h).getD (2 * k + 1) 0) = (((h.getD k 0).toNat % 16 : Nat) : Int) := fun k hk => by
    have hb := h2.at k
    obtain ⟨g1, g2⟩ := fmtH_getD (h := h) (k := k) (by omega)
    rw [g1, g2, hv_hexc _ (by omega), hv_hexc _ (by omega)]
    exact ⟨rfl, rfl⟩
  have h64 : Hex64 (fmtH h) := by
    refine ⟨by rw [len_fmtH]; omega, fun i hi => ?_⟩
    obtain ⟨g1, g2⟩ := hdig (i / 2) (by omega)
    rcases Nat.mod_two_eq_zero_or_one i with hm | hm
    · rw [show 2 * (i / 2) = i by omega] at g1; rw [g1]; omega
    · rw [show 2 * (i / 2) + 1 = i by omega] at g2; rw [g2]; omega
  rw [if_pos h64]
  congr 1
  symm
  refine hN_ext h1 fun k hk => ?_
  have hb := h2.at k
  obtain ⟨g1, g2⟩ := hdig k hk
  rw [hN_getD hk, if_pos (by omega), g1, g2]; omega

end Go.Pon
/-
  What package merkle and its reference compute.
-/
set_option autoImplicit false
set_option linter.unusedVariables false
set_option linter.unusedSimpArgs false
set_option maxRecDepth 100000
namespace Go.Pon
open Go

/-- The greatest power of two below n. -/
def sp (n : Nat) : Nat := 2 ^ Nat.log2 (n - 1)

theorem sp_eq {j n : Nat} (h1 : 2 ^ j < n) (h2 : n ≤ 2 * 2 ^ j) : sp n = 2 ^ j := by
  have hp : 0 < 2 ^ j := Nat.two_pow_pos j
  have : Nat.log2 (n - 1) = j := (Nat.log2_eq_iff (by omega)).2 ⟨by omega, by rw [Nat.pow_succ]; omega⟩
  rw [sp, this]

theorem sp_facts {n : Nat} (h : 2 ≤ n) : 1 ≤ sp n ∧ sp n < n ∧ n ≤ 2 * sp n := by
  have h0 : n - 1 ≠ 0 := by omega
  have h1 := Nat.log2_self_le h0
  have h2 := @Nat.lt_log2_self (n - 1)
  rw [Nat.pow_succ] at h2
  have hp : 0 < 2 ^ Nat.log2 (n - 1) := Nat.two_pow_pos _
  unfold sp
  exact ⟨hp, by omega, by omega⟩

theorem splitPoint_eq {n : Nat} (h2 : 2 ≤ n) (h3 : n ≤ 9223372036854775807) : sol_merkle_splitPoint (((n : Nat) : Int), ()) = some ((((sp n : Nat) : Int), ()), ((), ())) := by
  unfold sol_merkle_splitPoint T_merkle_splitPoint
  refine bigLoop_rule (I := fun x => x.1 = ((n : Nat) : Int) ∧ ∃ j : Nat, x.2.1 = ((2 ^ j : Nat) : Int) ∧ 2 ^ j < n) (m := fun x => (((n : Nat) : Int) - x.2.1).toNat) (g := fun _ => some ((((sp n : Nat) : Int), ()), ((), ()))) ?_
    ⟨rfl, 0, rfl, by simp only [Nat.pow_zero]; omega⟩ (by simp only [bigN_eq]; omega)
  rintro ⟨n', k, _⟩ again ⟨e0, j, e1, e2⟩ hag
  simp only at e0 e1 hag ⊢
  subst e0 e1
  have hp : 0 < 2 ^ j := Nat.two_pow_pos j
  simp only [T_merkle_splitPoint_loop0, brR_dec]
  rw [w_i64 (by omega) (by omega)]
  by_cases hc : ((2 ^ j : Nat) : Int) < ((n : Nat) : Int) - ((2 ^ j : Nat) : Int)
  · rw [if_pos hc, w_i64 (by omega) (by omega)]
    exact hag _ ⟨rfl, j + 1, by simp only [Nat.pow_succ]; omega, by rw [Nat.pow_succ]; omega⟩ (by simp only; omega)
  · rw [if_neg hc, sp_eq e2 (by omega)]

theorem rsplitPoint_eq {n : Nat} (h2 : 2 ≤ n) (h3 : n ≤ 9223372036854775807) : sol_ref8_SplitPoint (((n : Nat) : Int), ()) = some ((((sp n : Nat) : Int), ()), ((), ())) := by
  unfold sol_ref8_SplitPoint T_ref8_SplitPoint
  refine bigLoop_rule (I := fun x => x.1 = ((n : Nat) : Int) ∧ ∃ j : Nat, x.2.1 = ((2 ^ j : Nat) : Int) ∧ 2 ^ j < n) (m := fun x => (((n : Nat) : Int) - x.2.1).toNat) (g := fun _ => some ((((sp n : Nat) : Int), ()), ((), ()))) ?_
    ⟨rfl, 0, rfl, by simp only [Nat.pow_zero]; omega⟩ (by simp only [bigN_eq]; omega)
  rintro ⟨n', k, _⟩ again ⟨e0, j, e1, e2⟩ hag
  simp only at e0 e1 hag ⊢
  subst e0 e1
  have hp : 0 < 2 ^ j := Nat.two_pow_pos j
  simp only [T_ref8_SplitPoint_loop0, brR_dec]
  rw [w_i64 (by omega) (by omega)]
  by_cases hc : ((2 ^ j : Nat) : Int) < ((n : Nat) : Int) - ((2 ^ j : Nat) : Int)
  · rw [if_pos hc, w_i64 (by omega) (by omega)]
    exact hag _ ⟨rfl, j + 1, by simp only [Nat.pow_succ]; omega, by rw [Nat.pow_succ]; omega⟩ (by simp only; omega)
  · rw [if_neg hc, sp_eq e2 (by omega)]

abbrev Z32 : List Int := List.replicate 32 0

theorem h32_zero : H32 Z32 := ⟨by simp, fun x hx => by rw [List.eq_of_mem_replicate hx]; omega⟩

def AllH (l : List (List Int)) : Prop := ∀ h ∈ l, H32 h

theorem AllH.take {l : List (List Int)} (h : AllH l) (i : Nat) : AllH (l.take i) := fun x hx => h x (List.mem_of_mem_take hx)
theorem AllH.drop {l : List (List Int)} (h : AllH l) (i : Nat) : AllH (l.drop i) := fun x hx => h x (List.mem_of_mem_drop hx)
theorem AllH.append {l m : List (List Int)} (h : AllH l) (k : AllH m) : AllH (l ++ m) := fun x hx => by
  rcases List.mem_append.1 hx with hx | hx
  · exact h x hx
  · exact k x hx
theorem AllH.at {l : List (List Int)} (h : AllH l) (i : Nat) : H32 (l.getD i Z32) := by
  rcases Nat.lt_or_ge i l.length with hi | hi
  · exact h _ (getD_mem hi)
  · rw [List.getD_eq_getElem?_getD, List.getElem?_eq_none hi]; exact h32_zero
theorem AllH.one {x : List Int} (h : H32 x) : AllH [x] := fun y hy => by simp only [List.mem_singleton] at hy; subst hy; exact h

/-- The root of a list of hashes. -/
def rootH (l : List (List Int)) : List Int :=
  if l.length = 0 then sha [] else if l.length = 1 then l.getD 0 Z32 else
    if h : 2 ≤ l.length then nodeH (rootH (l.take (sp l.length))) (rootH (l.drop (sp l.length))) else []
termination_by l.length
decreasing_by
  all_goals
    have := sp_facts h
    simp only [List.length_take, List.length_drop]
    omega

theorem rootH_zero {l : List (List Int)} (h : l.length = 0) : rootH l = sha [] := by rw [rootH, if_pos h]
theorem rootH_one {l : List (List Int)} (h : l.length = 1) : rootH l = l.getD 0 Z32 := by rw [rootH, if_neg (by omega), if_pos h]
theorem rootH_two {l : List (List Int)} (h : 2 ≤ l.length) : rootH l = nodeH (rootH (l.take (sp l.length))) (rootH (l.drop (sp l.length))) := by
  conv => lhs; rw [rootH]
  rw [if_neg (by omega), if_neg (by omega), dif_pos h]

theorem h32_root {l : List (List Int)} (h : AllH l) : H32 (rootH l) := by
  by_cases h0 : l.length = 0
  · rw [rootH_zero h0]; exact h32_sha _
  by_cases h1 : l.length = 1
  · rw [rootH_one h1]; exact h.at 0
  rw [rootH_two (by omega)]; exact h32_node _ _

theorem rootN_eq : ∀ (f : Nat) (l : List (List Int)), l.length < f → l.length ≤ 1000000000 → AllH l → solN_merkle_RootOf f (l, ()) = some ((rootH l, ()), ((), ()))
  | 0, l, h, _, _ => by omega
  | f + 1, l, h, hl, ha => by
    unfold solN_merkle_RootOf T_merkle_RootOf
    simp only [letR_eq, brR_dec, brR_inR, brR_and]
    by_cases h0 : l.length = 0
    · rw [if_pos (by omega), sum_eq (by intro x hx; cases hx) (by simp), rootH_zero h0]; rfl
    rw [if_neg (by omega)]
    by_cases h1 : l.length = 1
    · rw [if_pos (by omega), if_pos (by omega), rootH_one h1]
    have hs := sp_facts (n := l.length) (by omega)
    have t1 : List.take (sp l.length - 0) (List.drop 0 l) = l.take (sp l.length) := by simp
    have t2 : List.take (l.length - sp l.length) (List.drop (sp l.length) l) = l.drop (sp l.length) := List.take_of_length_le (by rw [List.length_drop]; omega)
    rw [if_neg (by omega), splitPoint_eq (by omega) (by omega)]
    simp only [bind_some', Int.toNat_natCast]
    rw [t1, t2, if_pos (by omega), if_pos (by omega), rootN_eq f (l.take (sp l.length)) (by rw [List.length_take]; omega) (by rw [List.length_take]; omega) (ha.take _)]
    simp only [bind_some']
    rw [if_pos (by omega), if_pos (by omega), rootN_eq f (l.drop (sp l.length)) (by rw [List.length_drop]; omega) (by rw [List.length_drop]; omega) (ha.drop _)]
    simp only [bind_some']
    rw [node_eq (h32_root (ha.take _)) (h32_root (ha.drop _)), rootH_two (l := l) (by omega)]
    rfl

theorem rootOf_eq {l : List (List Int)} (hl : l.length ≤ 1000000000) (ha : AllH l) : sol_merkle_RootOf (l, ()) = some ((rootH l, ()), ((), ())) :=
  rootN_eq bigF l (by rw [bigF_eq]; omega) hl ha

theorem rrootN_eq : ∀ (f : Nat) (l : List (List Int)), l.length < f → l.length ≤ 1000000000 → AllH l → solN_ref8_RootOf f (l, ()) = some ((rootH l, ()), ((), ()))
  | 0, l, h, _, _ => by omega
  | f + 1, l, h, hl, ha => by
    unfold solN_ref8_RootOf T_ref8_RootOf
    simp only [letR_eq, brR_dec, brR_inR, brR_and]
    by_cases h0 : l.length = 0
    · rw [if_pos (by omega), rsum_eq (by intro x hx; cases hx) (by simp), rootH_zero h0]; rfl
    rw [if_neg (by omega)]
    by_cases h1 : l.length = 1
    · rw [if_pos (by omega), if_pos (by omega), rootH_one h1]
    have hs := sp_facts (n := l.length) (by omega)
    have t1 : List.take (sp l.length - 0) (List.drop 0 l) = l.take (sp l.length) := by simp
    have t2 : List.take (l.length - sp l.length) (List.drop (sp l.length) l) = l.drop (sp l.length) := List.take_of_length_le (by rw [List.length_drop]; omega)
    rw [if_neg (by omega), rsplitPoint_eq (by omega) (by omega)]
    simp only [bind_some', Int.toNat_natCast]
    rw [t1, t2, if_pos (by omega), if_pos (by omega), rrootN_eq f (l.take (sp l.length)) (by rw [List.length_take]; omega) (by rw [List.length_take]; omega) (ha.take _)]
    simp only [bind_some']
    rw [if_pos (by omega), if_pos (by omega), rrootN_eq f (l.drop (sp l.length)) (by rw [List.length_drop]; omega) (by rw [List.length_drop]; omega) (ha.drop _)]
    simp only [bind_some']
    rw [rnode_eq (h32_root (ha.take _)) (h32_root (ha.drop _)), rootH_two (l := l) (by omega)]
    rfl

theorem rrootOf_eq {l : List (List Int)} (hl : l.length ≤ 1000000000) (ha : AllH l) : sol_ref8_RootOf (l, ()) = some ((rootH l, ()), ((), ())) :=
  rrootN_eq bigF l (by rw [bigF_eq]; omega) hl ha

/-! ### Proofs -/

/-- The proof of leaf i. -/
def proofH (l : List (List Int)) (i : Nat) : List (List Int) :=
  if h : 2 ≤ l.length then
    if i < sp l.length then proofH (l.take (sp l.length)) i ++ [rootH (l.drop (sp l.length))] else proofH (l.drop (sp l.length)) (i - sp l.length) ++ [rootH (l.take (sp l.length))]
  else []
termination_by l.length
decreasing_by
  all_goals
    have := sp_facts h
    simp only [List.length_take, List.length_drop]
    omega

theorem proofH_small {l : List (List Int)} {i : Nat} (h : l.length < 2) : proofH l i = [] := by rw [proofH, dif_neg (by omega)]
theorem proofH_left {l : List (List Int)} {i : Nat} (h : 2 ≤ l.length) (hi : i < sp l.length) : proofH l i = proofH (l.take (sp l.length)) i ++ [rootH (l.drop (sp l.length))] := by
  conv => lhs; rw [proofH]
  rw [dif_pos h, if_pos hi]
theorem proofH_right {l : List (List Int)} {i : Nat} (h : 2 ≤ l.length) (hi : ¬ i < sp l.length) : proofH l i = proofH (l.drop (sp l.length)) (i - sp l.length) ++ [rootH (l.take (sp l.length))] := by
  conv => lhs; rw [proofH]
  rw [dif_pos h, if_neg hi]

theorem proofH_facts : ∀ (n : Nat) (l : List (List Int)) (i : Nat), l.length ≤ n → AllH l → (proofH l i).length ≤ l.length ∧ AllH (proofH l i)
  | 0, l, i, h, _ => by rw [proofH_small (by omega)]; exact ⟨by simp, fun x hx => by cases hx⟩
  | n + 1, l, i, h, ha => by
    by_cases h2 : 2 ≤ l.length
    · have hs := sp_facts h2
      by_cases hi : i < sp l.length
      · obtain ⟨k1, k2⟩ := proofH_facts n (l.take (sp l.length)) i (by rw [List.length_take]; omega) (ha.take _)
        rw [proofH_left h2 hi]
        refine ⟨?_, k2.append (AllH.one (h32_root (ha.drop _)))⟩
        rw [List.length_take] at k1
        rw [List.length_append, List.length_singleton]; omega
      · obtain ⟨k1, k2⟩ := proofH_facts n (l.drop (sp l.length)) (i - sp l.length) (by rw [List.length_drop]; omega) (ha.drop _)
        rw [proofH_right h2 hi]
        refine ⟨?_, k2.append (AllH.one (h32_root (ha.take _)))⟩
        rw [List.length_drop] at k1
        rw [List.length_append, List.length_singleton]; omega
    · rw [proofH_small (by omega)]; exact ⟨by simp, fun x hx => by cases hx⟩

theorem brR_roomH {α : Type} {n : Nat} (h : n ≤ 100000000) (a b : Option α) : brR (roomy n (.arr 32 (.int .u8))) a b = a := by
  rw [brR_roomy, show (Ty.arr 32 (Ty.int IntKind.u8)).size = 32 from rfl, if_pos ⟨by omega, by omega⟩]

theorem proofN_eq : ∀ (f : Nat) (l : List (List Int)) (i : Nat), l.length < f → 1 ≤ l.length → l.length ≤ 10000000 → i < l.length → AllH l → solN_merkle_proof f (l, (((i : Nat) : Int), ())) = some ((proofH l i, ()), ((), ((), ())))
  | 0, l, i, h, _, _, _, _ => by omega
  | f + 1, l, i, h, hl0, hl, hi, ha => by
    unfold solN_merkle_proof T_merkle_proof
    simp only [letR_eq, brR_dec, brR_and]
    by_cases h1 : l.length = 1
    · rw [if_pos (by omega), proofH_small (by omega)]
    have hs := sp_facts (n := l.length) (by omega)
    have t1 : List.take (sp l.length - 0) (List.drop 0 l) = l.take (sp l.length) := by simp
    have t2 : List.take (l.length - sp l.length) (List.drop (sp l.length) l) = l.drop (sp l.length) := List.take_of_length_le (by rw [List.length_drop]; omega)
    have k1 := proofH_facts l.length (l.take (sp l.length)) i (by rw [List.length_take]; omega) (ha.take _)
    have k2 := proofH_facts l.length (l.drop (sp l.length)) (i - sp l.length) (by rw [List.length_drop]; omega) (ha.drop _)
    rw [List.length_take] at k1
    rw [List.length_drop] at k2
    rw [if_neg (by omega), splitPoint_eq (by omega) (by omega)]
    have g1 : (0 : Int) ≤ ((sp l.length : Nat) : Int) := by omega
    have g2 : ((sp l.length : Nat) : Int) ≤ ((l.length : Nat) : Int) := by omega
    simp only [bind_some', Int.toNat_natCast, if_pos g1, if_pos g2]
    rw [t1, t2]
    by_cases hc : i < sp l.length
    · rw [if_pos (by omega), proofN_eq f (l.take (sp l.length)) i (by rw [List.length_take]; omega) (by rw [List.length_take]; omega) (by rw [List.length_take]; omega) (by rw [List.length_take]; omega) (ha.take _)]
      simp only [bind_some']
      rw [rootOf_eq (by rw [List.length_drop]; omega) (ha.drop _)]
      simp only [bind_some']
      rw [brR_roomH (by omega), proofH_left (by omega) hc]; rfl
    · rw [if_neg (by omega), w_i64 (by omega) (by omega), show ((i : Nat) : Int) - ((sp l.length : Nat) : Int) = ((i - sp l.length : Nat) : Int) by omega,
        proofN_eq f (l.drop (sp l.length)) (i - sp l.length) (by rw [List.length_drop]; omega) (by rw [List.length_drop]; omega) (by rw [List.length_drop]; omega) (by rw [List.length_drop]; omega) (ha.drop _)]
      simp only [bind_some']
      rw [rootOf_eq (by rw [List.length_take]; omega) (ha.take _)]
      simp only [bind_some']
      rw [brR_roomH (by omega), proofH_right (by omega) hc]; rfl

theorem proof_eq {l : List (List Int)} {i : Nat} (hl : l.length ≤ 10000000) (hi : i < l.length) (ha : AllH l) : sol_merkle_proof (l, (((i : Nat) : Int), ())) = some ((proofH l i, ()), ((), ((), ()))) :=
  proofN_eq bigF l i (by rw [bigF_eq]; omega) (by omega) hl hi ha

theorem rproofN_eq : ∀ (f : Nat) (l : List (List Int)) (i : Nat), l.length < f → 1 ≤ l.length → l.length ≤ 10000000 → i < l.length → AllH l → solN_ref8_Proof f (l, (((i : Nat) : Int), ())) = some ((proofH l i, ()), ((), ((), ())))
  | 0, l, i, h, _, _, _, _ => by omega
  | f + 1, l, i, h, hl0, hl, hi, ha => by
    unfold solN_ref8_Proof T_ref8_Proof
    simp only [letR_eq, brR_dec, brR_and]
    by_cases h1 : l.length = 1
    · rw [if_pos (by omega), proofH_small (by omega)]
    have hs := sp_facts (n := l.length) (by omega)
    have t1 : List.take (sp l.length - 0) (List.drop 0 l) = l.take (sp l.length) := by simp
    have t2 : List.take (l.length - sp l.length) (List.drop (sp l.length) l) = l.drop (sp l.length) := List.take_of_length_le (by rw [List.length_drop]; omega)
    have k1 := proofH_facts l.length (l.take (sp l.length)) i (by rw [List.length_take]; omega) (ha.take _)
    have k2 := proofH_facts l.length (l.drop (sp l.length)) (i - sp l.length) (by rw [List.length_drop]; omega) (ha.drop _)
    rw [List.length_take] at k1
    rw [List.length_drop] at k2
    rw [if_neg (by omega), rsplitPoint_eq (by omega) (by omega)]
    have g1 : (0 : Int) ≤ ((sp l.length : Nat) : Int) := by omega
    have g2 : ((sp l.length : Nat) : Int) ≤ ((l.length : Nat) : Int) := by omega
    simp only [bind_some', Int.toNat_natCast, if_pos g1, if_pos g2]
    rw [t1, t2]
    by_cases hc : i < sp l.length
    · rw [if_pos (by omega), rproofN_eq f (l.take (sp l.length)) i (by rw [List.length_take]; omega) (by rw [List.length_take]; omega) (by rw [List.length_take]; omega) (by rw [List.length_take]; omega) (ha.take _)]
      simp only [bind_some']
      rw [rrootOf_eq (by rw [List.length_drop]; omega) (ha.drop _)]
      simp only [bind_some']
      rw [brR_roomH (by omega), proofH_left (by omega) hc]; rfl
    · rw [if_neg (by omega), w_i64 (by omega) (by omega), show ((i : Nat) : Int) - ((sp l.length : Nat) : Int) = ((i - sp l.length : Nat) : Int) by omega,
        rproofN_eq f (l.drop (sp l.length)) (i - sp l.length) (by rw [List.length_drop]; omega) (by rw [List.length_drop]; omega) (by rw [List.length_drop]; omega) (by rw [List.length_drop]; omega) (ha.drop _)]
      simp only [bind_some']
      rw [rrootOf_eq (by rw [List.length_take]; omega) (ha.take _)]
      simp only [bind_some']
      rw [brR_roomH (by omega), proofH_right (by omega) hc]; rfl

theorem rproof_eq {l : List (List Int)} {i : Nat} (hl : l.length ≤ 10000000) (hi : i < l.length) (ha : AllH l) : sol_ref8_Proof (l, (((i : Nat) : Int), ())) = some ((proofH l i, ()), ((), ((), ()))) :=
  rproofN_eq bigF l i (by rw [bigF_eq]; omega) (by omega) hl hi ha

/-! ### The tree -/

theorem new_eq : sol_merkle_New () = some ((([], ()), ()), ()) := rfl

theorem append_eq {l : List (List Int)} {h : List Int} (hl : l.length ≤ 10000000) : sol_merkle_Tree_Append ((l, ()), (h, ())) = some ((((l.length : Nat) : Int), ()), ((l ++ [h], ()), ((), ()))) := by
  unfold sol_merkle_Tree_Append T_merkle_Tree_Append
  simp only [letR_eq, append_def]
  rw [brR_roomH (by omega), w_i64 (by rw [List.length_append, List.length_singleton]; omega) (by rw [List.length_append, List.length_singleton]; omega)]
  simp

theorem treeLen_eq {l : List (List Int)} : sol_merkle_Tree_Len ((l, ()), ()) = some ((((l.length : Nat) : Int), ()), ((l, ()), ())) := rfl

theorem treeRoot_in {l : List (List Int)} {n : Nat} (hl : l.length ≤ 10000000) (ha : AllH l) (hn : n ≤ l.length) : sol_merkle_Tree_Root ((l, ()), (((n : Nat) : Int), ())) = some ((rootH (l.take n), (true, ())), ((l, ()), ((), ()))) := by
  unfold sol_merkle_Tree_Root T_merkle_Tree_Root
  simp only [letR_eq, brR_dec, brR_and, Int.toNat_natCast, List.drop_zero, Nat.sub_zero]
  rw [if_neg (by omega), if_neg (by omega), if_pos (by omega), if_pos (by omega), rootOf_eq (by rw [List.length_take]; omega) (ha.take _)]
  rfl

theorem treeRoot_out {l : List (List Int)} {n : Int} (hn : n < 0 ∨ (l.length : Int) < n) : sol_merkle_Tree_Root ((l, ()), (n, ())) = some ((Z32, (false, ())), ((l, ()), ((), ()))) := by
  unfold sol_merkle_Tree_Root T_merkle_Tree_Root
  simp only [letR_eq, brR_dec, brR_and]
  by_cases h : n < 0
  · rw [if_pos h]
  · rw [if_neg h, if_pos (by omega)]

theorem clip_eq (l : List (List Int)) : sol_slices_Clip_api_Hash_api_Hash (l, ()) = some ((l, ()), ((), ())) := by
  unfold sol_slices_Clip_api_Hash_api_Hash T_slices_Clip_api_Hash_api_Hash
  simp only [letR_eq, brR_dec, brR_and]
  rw [if_pos trivial, if_pos (by omega), if_pos (by omega)]
  simp

theorem treeProof_in {l : List (List Int)} {i n : Nat} (hl : l.length ≤ 10000000) (ha : AllH l) (hi : i < n) (hn : n ≤ l.length) :
    sol_merkle_Tree_Proof ((l, ()), (((i : Nat) : Int), (((n : Nat) : Int), ()))) = some ((proofH (l.take n) i, (true, ())), ((l, ()), ((), ((), ())))) := by
  unfold sol_merkle_Tree_Proof T_merkle_Tree_Proof
  simp only [letR_eq, brR_dec, brR_and, Int.toNat_natCast, List.drop_zero, Nat.sub_zero]
  rw [if_neg (by omega), if_neg (by omega), if_neg (by omega), if_pos (by omega), if_pos (by omega), proof_eq (by rw [List.length_take]; omega) (by rw [List.length_take]; omega) (ha.take _)]
  simp only [bind_some']
  rw [clip_eq]
  rfl

theorem treeProof_out {l : List (List Int)} {i n : Int} (h : i < 0 ∨ n ≤ i ∨ (l.length : Int) < n) : sol_merkle_Tree_Proof ((l, ()), (i, (n, ()))) = some (([], (false, ())), ((l, ()), ((), ((), ())))) := by
  unfold sol_merkle_Tree_Proof T_merkle_Tree_Proof
  simp only [letR_eq, brR_dec, brR_and]
  by_cases h1 : i < 0
  · rw [if_pos h1]
  rw [if_neg h1]
  by_cases h2 : n ≤ i
  · rw [if_pos (by omega)]
  rw [if_neg (by omega), if_pos (by omega)]

/-! ### Verification -/

/-- The root that a leaf and a proof (the last element first) yield. -/
def upR : Nat → Nat → List Int → List (List Int) → Option (List Int)
  | n, i, leaf, [] => if n = 1 then some leaf else none
  | n, i, leaf, last :: rest => if n = 1 then none else
    if i < sp n then (upR (sp n) i leaf rest).map (fun h => nodeH h last) else (upR (n - sp n) (i - sp n) leaf rest).map (fun h => nodeH last h)

theorem last_split {p : List (List Int)} (h : p ≠ []) : ∃ rest last, p = rest ++ [last] ∧ p.reverse = last :: rest.reverse := by
  have e : p = p.dropLast ++ [p.getLast h] := (List.dropLast_concat_getLast h).symm
  refine ⟨p.dropLast, p.getLast h, e, ?_⟩
  conv => lhs; rw [e]
  rw [List.reverse_append]; rfl

theorem fromN_eq : ∀ (f : Nat) (p : List (List Int)) (n i : Nat) (leaf : List Int), p.length < f → p.length ≤ 1000000000 → 1 ≤ n → n ≤ 9223372036854775807 → i < n → H32 leaf → AllH p →
    ∃ h, H32 h ∧ solN_merkle_rootFrom f (((n : Nat) : Int), (((i : Nat) : Int), (leaf, (p, ())))) = some ((h, ((upR n i leaf p.reverse).isSome, ())), ((), ((), ((), ((), ()))))) ∧ ∀ r, upR n i leaf p.reverse = some r → h = r
  | 0, p, n, i, leaf, h, _, _, _, _, _, _ => by omega
  | f + 1, p, n, i, leaf, h, hl, hn1, hn2, hi, hf, ha => by
    unfold solN_merkle_rootFrom T_merkle_rootFrom
    simp only [letR_eq, brR_dec, brR_inR, brR_and]
    by_cases hp : p = []
    · subst hp
      by_cases h1 : n = 1
      · subst h1
        exact ⟨leaf, hf, by simp [upR], fun r hr => by simpa [upR] using hr⟩
      · refine ⟨Z32, h32_zero, ?_, fun r hr => by simp [upR, h1] at hr⟩
        rw [if_neg (by omega), if_pos (by simp)]
        simp [upR, h1, Z32]
    obtain ⟨rest, last, e1, e2⟩ := last_split hp
    have hlen : p.length = rest.length + 1 := by rw [e1]; simp
    rw [e2]
    by_cases h1 : n = 1
    · subst h1
      refine ⟨leaf, hf, ?_, fun r hr => by simp [upR] at hr⟩
      rw [if_pos (by omega)]
      simp [upR, hlen]; omega
    have hs := sp_facts (n := n) (by omega)
    rw [if_neg (by omega), if_neg (by omega), splitPoint_eq (by omega) hn2]
    simp only [bind_some']
    rw [w_i64 (n := ((p.length : Nat) : Int) - 1) (by omega) (by omega), if_pos (by omega), if_pos (by omega), if_pos (by omega), show (((p.length : Nat) : Int) - 1).toNat = rest.length by omega]
    have t1 : List.take (rest.length - 0) (List.drop 0 p) = rest := by rw [e1]; simp
    have t2 : p.getD rest.length Z32 = last := by rw [e1, List.getD_eq_getElem?_getD, List.getElem?_append_right (by omega)]; simp
    have hrest : AllH rest := fun x hx => ha x (by rw [e1]; simp [hx])
    have hlast : H32 last := ha last (by rw [e1]; simp)
    rw [t1, t2]
    by_cases hc : i < sp n
    · obtain ⟨h', q1, q2, q3⟩ := fromN_eq f rest (sp n) i leaf (by omega) (by omega) (by omega) (by omega) hc hf hrest
      rw [if_pos (by omega), q2]
      simp only [bind_some']
      rw [node_eq q1 hlast]
      refine ⟨nodeH h' last, h32_node _ _, by simp only [bind_some', upR]; rw [if_neg h1, if_pos hc]; simp, fun r hr => ?_⟩
      simp only [upR] at hr
      rw [if_neg h1, if_pos hc] at hr
      obtain ⟨r', hr1, rfl⟩ := Option.map_eq_some_iff.1 hr
      rw [q3 _ hr1]
    · obtain ⟨h', q1, q2, q3⟩ := fromN_eq f rest (n - sp n) (i - sp n) leaf (by omega) (by omega) (by omega) (by omega) (by omega) hf hrest
      rw [if_neg (by omega), w_i64 (n := (n : Int) - (sp n : Nat)) (by omega) (by omega), w_i64 (n := (i : Int) - (sp n : Nat)) (by omega) (by omega), show (n : Int) - ((sp n : Nat) : Int) = ((n - sp n : Nat) : Int) by omega, show (i : Int) - ((sp n : Nat) : Int) = ((i - sp n : Nat) : Int) by omega, q2]
      simp only [bind_some']
      rw [node_eq hlast q1]
      refine ⟨nodeH last h', h32_node _ _, by simp only [bind_some', upR]; rw [if_neg h1, if_neg hc]; simp, fun r hr => ?_⟩
      simp only [upR] at hr
      rw [if_neg h1, if_neg hc] at hr
      obtain ⟨r', hr1, rfl⟩ := Option.map_eq_some_iff.1 hr
      rw [q3 _ hr1]

theorem upN_eq : ∀ (f : Nat) (p : List (List Int)) (n i : Nat) (leaf : List Int), p.length < f → p.length ≤ 1000000000 → 1 ≤ n → n ≤ 9223372036854775807 → i < n → H32 leaf → AllH p →
    ∃ h, H32 h ∧ solN_ref8_up f (((n : Nat) : Int), (((i : Nat) : Int), (leaf, (p, ())))) = some ((h, ((upR n i leaf p.reverse).isSome, ())), ((), ((), ((), ((), ()))))) ∧ ∀ r, upR n i leaf p.reverse = some r → h = r
  | 0, p, n, i, leaf, h, _, _, _, _, _, _ => by omega
  | f + 1, p, n, i, leaf, h, hl, hn1, hn2, hi, hf, ha => by
    unfold solN_ref8_up T_ref8_up
    simp only [letR_eq, brR_dec, brR_inR, brR_and]
    by_cases hp : p = []
    · subst hp
      by_cases h1 : n = 1
      · subst h1
        exact ⟨leaf, hf, by simp [upR], fun r hr => by simpa [upR] using hr⟩
      · refine ⟨leaf, hf, ?_, fun r hr => by simp [upR, h1] at hr⟩
        rw [if_neg (by omega), if_pos (by simp)]
        simp [upR, h1, Z32]
    obtain ⟨rest, last, e1, e2⟩ := last_split hp
    have hlen : p.length = rest.length + 1 := by rw [e1]; simp
    rw [e2]
    by_cases h1 : n = 1
    · subst h1
      refine ⟨leaf, hf, ?_, fun r hr => by simp [upR] at hr⟩
      rw [if_pos (by omega)]
      simp [upR, hlen]; omega
    have hs := sp_facts (n := n) (by omega)
    rw [if_neg (by omega), if_neg (by omega), rsplitPoint_eq (by omega) hn2]
    simp only [bind_some']
    rw [w_i64 (n := ((p.length : Nat) : Int) - 1) (by omega) (by omega), if_pos (by omega), show (((p.length : Nat) : Int) - 1).toNat = rest.length by omega]
    have g1 : (0 : Int) ≤ ((p.length : Nat) : Int) - 1 := by omega
    have g2 : ((p.length : Nat) : Int) - 1 ≤ ((p.length : Nat) : Int) := by omega
    simp only [if_pos g1, if_pos g2]
    have t1 : List.take (rest.length - 0) (List.drop 0 p) = rest := by rw [e1]; simp
    have t2 : p.getD rest.length Z32 = last := by rw [e1, List.getD_eq_getElem?_getD, List.getElem?_append_right (by omega)]; simp
    have hrest : AllH rest := fun x hx => ha x (by rw [e1]; simp [hx])
    have hlast : H32 last := ha last (by rw [e1]; simp)
    rw [t1, t2]
    by_cases hc : i < sp n
    · obtain ⟨h', q1, q2, q3⟩ := upN_eq f rest (sp n) i leaf (by omega) (by omega) (by omega) (by omega) hc hf hrest
      rw [if_pos (by omega), q2]
      simp only [bind_some']
      rw [rnode_eq q1 hlast]
      refine ⟨nodeH h' last, h32_node _ _, by simp only [bind_some', upR]; rw [if_neg h1, if_pos hc]; simp, fun r hr => ?_⟩
      simp only [upR] at hr
      rw [if_neg h1, if_pos hc] at hr
      obtain ⟨r', hr1, rfl⟩ := Option.map_eq_some_iff.1 hr
      rw [q3 _ hr1]
    · obtain ⟨h', q1, q2, q3⟩ := upN_eq f rest (n - sp n) (i - sp n) leaf (by omega) (by omega) (by omega) (by omega) (by omega) hf hrest
      rw [if_neg (by omega), w_i64 (n := (n : Int) - (sp n : Nat)) (by omega) (by omega), w_i64 (n := (i : Int) - (sp n : Nat)) (by omega) (by omega), show (n : Int) - ((sp n : Nat) : Int) = ((n - sp n : Nat) : Int) by omega, show (i : Int) - ((sp n : Nat) : Int) = ((i - sp n : Nat) : Int) by omega, q2]
      simp only [bind_some']
      rw [rnode_eq hlast q1]
      refine ⟨nodeH last h', h32_node _ _, by simp only [bind_some', upR]; rw [if_neg h1, if_neg hc]; simp, fun r hr => ?_⟩
      simp only [upR] at hr
      rw [if_neg h1, if_neg hc] at hr
      obtain ⟨r', hr1, rfl⟩ := Option.map_eq_some_iff.1 hr
      rw [q3 _ hr1]

/-- Does a proof show a leaf? -/
noncomputable def verifyH (root : List Int) (n i : Int) (leaf : List Int) (p : List (List Int)) : Bool :=
  decide (0 ≤ i ∧ i < n) && decide (upR n.toNat i.toNat leaf p.reverse = some root)

theorem verify_eq {root leaf : List Int} {n i : Int} {p : List (List Int)} (hn : n ≤ 9223372036854775807) (hl : p.length ≤ 1000000000) (hf : H32 leaf) (ha : AllH p) :
    sol_merkle_Verify (root, (n, (i, (leaf, (p, ()))))) = some ((verifyH root n i leaf p, ()), ((), ((), ((), ((), ((), ())))))) := by
  unfold sol_merkle_Verify T_merkle_Verify verifyH
  simp only [brR_dec]
  by_cases h1 : i < 0
  · rw [if_pos h1, decide_eq_false (by omega)]; rfl
  rw [if_neg h1]
  by_cases h2 : i ≥ n
  · rw [if_pos h2, decide_eq_false (by omega)]; rfl
  rw [if_neg h2, decide_eq_true (by omega)]
  obtain ⟨i, rfl⟩ := Int.eq_ofNat_of_zero_le (show 0 ≤ i by omega)
  obtain ⟨n, rfl⟩ := Int.eq_ofNat_of_zero_le (show 0 ≤ n by omega)
  obtain ⟨h, q1, q2, q3⟩ := fromN_eq bigF p n i leaf (by rw [bigF_eq]; omega) hl (by omega) (by omega) (by omega) hf ha
  unfold sol_merkle_rootFrom
  rw [q2]
  simp only [bind_some', Int.toNat_natCast, Bool.true_and]
  by_cases hu : ∃ r, upR n i leaf p.reverse = some r
  · obtain ⟨r, hu⟩ := hu
    simp only [q3 r hu, hu, Option.isSome_some, brR_true, eqD_h32]
    simp
  · have hn : upR n i leaf p.reverse = none := by
      cases h0 : upR n i leaf p.reverse with
      | none => rfl
      | some r => exact absurd ⟨r, h0⟩ hu
    simp [hn, brR_false]

theorem rverify_eq {root leaf : List Int} {n i : Int} {p : List (List Int)} (hn : n ≤ 9223372036854775807) (hl : p.length ≤ 64) (hf : H32 leaf) (ha : AllH p) :
    sol_ref8_Verify (root, (n, (i, (leaf, (p, ()))))) = some ((verifyH root n i leaf p, ()), ((), ((), ((), ((), ((), ())))))) := by
  unfold sol_ref8_Verify T_ref8_Verify verifyH
  simp only [brR_dec]
  by_cases h1 : i < 0
  · rw [if_pos h1, decide_eq_false (by omega)]; rfl
  rw [if_neg h1]
  by_cases h2 : i ≥ n
  · rw [if_pos h2, decide_eq_false (by omega)]; rfl
  rw [if_neg h2, if_neg (by omega), decide_eq_true (by omega)]
  obtain ⟨i, rfl⟩ := Int.eq_ofNat_of_zero_le (show 0 ≤ i by omega)
  obtain ⟨n, rfl⟩ := Int.eq_ofNat_of_zero_le (show 0 ≤ n by omega)
  obtain ⟨h, q1, q2, q3⟩ := upN_eq bigF p n i leaf (by rw [bigF_eq]; omega) (by omega) (by omega) (by omega) (by omega) hf ha
  unfold sol_ref8_up
  rw [q2]
  simp only [bind_some', Int.toNat_natCast, Bool.true_and]
  by_cases hu : ∃ r, upR n i leaf p.reverse = some r
  · obtain ⟨r, hu⟩ := hu
    simp only [q3 r hu, hu, Option.isSome_some, brR_true, eqD_h32]
    simp
  · have hn : upR n i leaf p.reverse = none := by
      cases h0 : upR n i leaf p.reverse with
      | none => rfl
      | some r => exact absurd ⟨r, h0⟩ hu
    simp [hn, brR_false]

/-- Every proof shows its leaf. -/
theorem up_proof : ∀ (m : Nat) (l : List (List Int)) (i : Nat), l.length ≤ m → i < l.length → upR l.length i (l.getD i Z32) (proofH l i).reverse = some (rootH l)
  | 0, l, i, h, hi => by omega
  | m + 1, l, i, h, hi => by
    by_cases h2 : 2 ≤ l.length
    · have hs := sp_facts h2
      rw [rootH_two h2]
      by_cases hc : i < sp l.length
      · have ih := up_proof m (l.take (sp l.length)) i (by rw [List.length_take]; omega) (by rw [List.length_take]; omega)
        have e1 : (l.take (sp l.length)).length = sp l.length := by rw [List.length_take]; omega
        have e2 : (l.take (sp l.length)).getD i Z32 = l.getD i Z32 := by
          rw [List.getD_eq_getElem?_getD, List.getElem?_take, if_pos hc, List.getD_eq_getElem?_getD]
        rw [e1, e2] at ih
        rw [proofH_left h2 hc, List.reverse_append, List.reverse_singleton, List.singleton_append, upR, if_neg (by omega), if_pos hc, ih]; rfl
      · have ih := up_proof m (l.drop (sp l.length)) (i - sp l.length) (by rw [List.length_drop]; omega) (by rw [List.length_drop]; omega)
        have e2 : (l.drop (sp l.length)).getD (i - sp l.length) Z32 = l.getD i Z32 := by
          rw [List.getD_eq_getElem?_getD, List.getElem?_drop, List.getD_eq_getElem?_getD, show sp l.length + (i - sp l.length) = i by omega]
        rw [List.length_drop, e2] at ih
        rw [proofH_right h2 hc, List.reverse_append, List.reverse_singleton, List.singleton_append, upR, if_neg (by omega), if_neg hc, ih]; rfl
    · have h1 : l.length = 1 := by omega
      have : i = 0 := by omega
      subst this
      rw [proofH_small (by omega), rootH_one h1, h1]; rfl

end Go.Pon
/-
  Helpers of the laws.
-/
set_option autoImplicit false
set_option linter.unusedVariables false
set_option linter.unusedSimpArgs false
namespace Go.Pon
open Go

theorem bytes_wf {b : List Int} (h : (Ty.slice (.int .u8)).wf b) : Bytes b := fun x hx => inK_u8.1 (h.2 x hx)

theorem equalBytes_eq (a b : List Int) : sol_law0_EqualBytes (a, (b, ())) = some ((decide (a = b), ()), ((), ((), ()))) := by
  unfold sol_law0_EqualBytes T_law0_EqualBytes
  rfl

theorem mod_eq {x n : Int} (h0 : -9223372036854775808 ≤ x) (h1 : x ≤ 9223372036854775807) (h2 : 1 ≤ n) (h3 : n ≤ 9223372036854775807) :
    sol_law0_Mod (x, (n, ())) = some ((((x % 18446744073709551616) % n, ()), ((), ((), ())))) := by
  unfold sol_law0_Mod T_law0_Mod
  simp only [letR_eq, brR_dec]
  rw [w_u64 (n := n) (by omega) (by omega), if_pos (by omega), IntKind.wrap_u64, tmod_pos (by omega), w_i64]
  · have := Int.emod_nonneg (x % 18446744073709551616) (b := n) (by omega); omega
  · have := Int.emod_lt_of_pos (x % 18446744073709551616) (b := n) (by omega); omega

theorem lim_of {a b c d : Int} (ha : 0 ≤ a ∧ a ≤ 18446744073709551615) (hb : 0 ≤ b ∧ b ≤ 18446744073709551615) (hc : 0 ≤ c ∧ c ≤ 18446744073709551615) (hd : 0 ≤ d ∧ d ≤ 18446744073709551615) :
    ∃ n, n < 115792089237316195423570985008687907853269984665640564039457584007913129639936 ∧ [a, b, c, d] = lim n :=
  u256_wf (l := [a, b, c, d]) ⟨rfl, by
    intro y hy
    simp only [List.mem_cons, List.not_mem_nil, or_false] at hy
    rcases hy with rfl | rfl | rfl | rfl <;> exact inK_u64.2 (by assumption)⟩

theorem edge_ok {a b s : Int} (ha : 0 ≤ a ∧ a ≤ 18446744073709551615) (hb : 0 ≤ b ∧ b ≤ 18446744073709551615) (hs : -9223372036854775808 ≤ s ∧ s ≤ 9223372036854775807) :
    ∃ n, n < 115792089237316195423570985008687907853269984665640564039457584007913129639936 ∧ sol_law0_EdgeUint256 (a, (b, (s, ()))) = some ((lim n, ()), ((), ((), ((), ())))) := by
  have key : ∀ {p q r t : Int}, 0 ≤ p ∧ p ≤ 18446744073709551615 → 0 ≤ q ∧ q ≤ 18446744073709551615 → 0 ≤ r ∧ r ≤ 18446744073709551615 → 0 ≤ t ∧ t ≤ 18446744073709551615 →
      ∃ n, n < 115792089237316195423570985008687907853269984665640564039457584007913129639936 ∧ (some (([p, q, r, t], ()), ((), ((), ((), ())))) : Option ((List Int × Unit) × (Unit × (Unit × (Unit × Unit))))) = some ((lim n, ()), ((), ((), ((), ())))) := fun h1 h2 h3 h4 => by
    obtain ⟨n, k1, k2⟩ := lim_of h1 h2 h3 h4
    exact ⟨n, k1, by rw [k2]⟩
  unfold sol_law0_EdgeUint256 T_law0_EdgeUint256
  rw [mod_eq hs.1 hs.2 (by omega) (by omega)]
  simp only [bind_some', brR_dec, tmod_pos ha.1, tmod_pos hb.1]
  repeat' split
  all_goals try apply key
  all_goals try omega
  · rw [IntKind.wrap_u64]; omega
  · rw [IntKind.wrap_u64]; omega
  · rw [IntKind.wrap_u64]; omega

end Go.Pon
/-
  Helpers of the laws: hashes that contain numbers, lists of hashes.
-/
set_option autoImplicit false
set_option linter.unusedVariables false
set_option linter.unusedSimpArgs false
set_option maxRecDepth 100000
namespace Go.Pon
open Go

def hofN (n : Int) (i : Nat) : List Int := (List.range 32).map fun k => if k < i then (((n % 18446744073709551616).toNat / 256 ^ k % 256 : Nat) : Int) else 0

/-- The hash that contains a number. -/
def hof (n : Int) : List Int := hofN n 8

theorem len_hofN (n : Int) (i : Nat) : (hofN n i).length = 32 := by simp [hofN]

theorem hofN_getD {n : Int} {i k : Nat} (hk : k < 32) : (hofN n i).getD k 0 = if k < i then (((n % 18446744073709551616).toNat / 256 ^ k % 256 : Nat) : Int) else 0 := by
  rw [hofN, List.getD_eq_getElem?_getD, List.getElem?_map, List.getElem?_range hk]; rfl

theorem ext32 {l m : List Int} (hl : l.length = 32) (hm : m.length = 32) (h : ∀ k, k < 32 → l.getD k 0 = m.getD k 0) : l = m := by
  apply List.ext_getElem
  · omega
  · intro k h1 h2
    have := h k (by omega)
    rw [List.getD_eq_getElem?_getD, List.getElem?_eq_getElem h1, List.getD_eq_getElem?_getD, List.getElem?_eq_getElem h2] at this
    exact this

theorem h32_hof (n : Int) : H32 (hof n) := by
  refine ⟨len_hofN n 8, fun x hx => ?_⟩
  simp only [hof, hofN, List.mem_map] at hx
  obtain ⟨k, _, rfl⟩ := hx
  split <;> omega

theorem hashOf_eq (n : Int) : sol_law0_HashOf (n, ()) = some ((hof n, ()), ((), ())) := by
  unfold sol_law0_HashOf T_law0_HashOf
  refine bigLoop_rule (I := fun x => x.1 = n ∧ (0 : Int) ≤ x.2.2.2.1 ∧ x.2.2.2.1 ≤ (8 : Int) ∧ x.2.2.1 = hofN n x.2.2.2.1.toNat) (m := fun x => ((8 : Int) - x.2.2.2.1).toNat) (g := fun _ => some ((hof n, ()), ((), ()))) ?_
    ⟨rfl, by simp only; omega, by simp only; omega, ?_⟩ (by simp only [bigN_eq]; omega)
  · rintro ⟨n', t, h, i, _⟩ again ⟨e0, e1, e2, e3⟩ hag
    simp only at e0 e1 e2 e3 hag ⊢
    subst e0 e3
    obtain ⟨i, rfl⟩ := Int.eq_ofNat_of_zero_le e1
    simp only [T_law0_HashOf_loop0, letR_eq, brR_dec, brR_inR, Int.toNat_natCast]
    by_cases hi : i < 8
    · rw [if_pos (by omega), w_i64 (n := 8 * (i : Int)) (by omega) (by omega), w_u64 (n := 8 * (i : Int)) (by omega) (by omega), if_pos (by omega), if_pos (by omega), w_i64 (by omega) (by omega), show (8 * (i : Int)).toNat = 8 * i by omega, Nat.min_eq_left (by omega)]
      have hb : IntKind.wrap .u8 (Int.fdiv (IntKind.wrap .u64 n') ((2 : Int) ^ (8 * i))) = (((n' % 18446744073709551616).toNat / 256 ^ i % 256 : Nat) : Int) := by
        have p : ∀ k : Nat, (2 : Int) ^ k = ((2 ^ k : Nat) : Int) := fun k => by rw [Int.natCast_pow]; rfl
        have e : IntKind.wrap .u64 n' = (((n' % 18446744073709551616).toNat : Nat) : Int) := by rw [IntKind.wrap_u64]; omega
        rw [e, p, d32, IntKind.wrap_u8, pow256]; omega
      rw [hb]
      refine hag _ ⟨rfl, by simp only; omega, by simp only; omega, ?_⟩ (by simp only; omega)
      simp only
      rw [show ((i : Int) + 1).toNat = i + 1 by omega]
      refine ext32 (by rw [List.length_set, len_hofN]) (len_hofN _ _) fun k hk => ?_
      rw [lgetD_set (by rw [len_hofN]; omega), hofN_getD hk, hofN_getD hk]
      by_cases hki : k = i
      · subst hki; rw [if_pos rfl, if_pos (by omega)]
      · rw [if_neg hki]
        by_cases hlt : k < i
        · rw [if_pos hlt, if_pos (by omega)]
        · rw [if_neg hlt, if_neg (by omega)]
    · have : i = 8 := by omega
      subst this
      rw [if_neg (by omega)]; rfl
  · simp only
    refine ext32 (by simp) (len_hofN _ _) fun k hk => ?_
    rw [hofN_getD hk, show (0 : Int).toNat = 0 from rfl, if_neg (by omega), List.getD_eq_getElem?_getD, List.getElem?_replicate, if_pos hk]; rfl

/-- Lists that agree place by place are one. -/
theorem ext_getD {α : Type} {l m : List α} {d : α} (hl : l.length = m.length) (h : ∀ k, k < l.length → l.getD k d = m.getD k d) : l = m := by
  apply List.ext_getElem hl
  intro k h1 h2
  have := h k h1
  rw [List.getD_eq_getElem?_getD, List.getElem?_eq_getElem h1, List.getD_eq_getElem?_getD, List.getElem?_eq_getElem h2] at this
  exact this

theorem equalHashes_eq (a b : List (List Int)) (ha : a.length ≤ 1000000000) : sol_law0_EqualHashes (a, (b, ())) = some ((decide (a = b), ()), ((), ((), ()))) := by
  unfold sol_law0_EqualHashes T_law0_EqualHashes
  simp only [brR_dec, brR_not]
  by_cases hl : a.length = b.length
  · rw [if_pos (by omega)]
    refine bigLoop_rule (I := fun x => x.1 = a ∧ x.2.1 = b ∧ (0 : Int) ≤ x.2.2.1 ∧ x.2.2.1 ≤ ((a.length : Nat) : Int) ∧ ∀ k, k < x.2.2.1.toNat → a.getD k Z32 = b.getD k Z32) (m := fun x => (((a.length : Nat) : Int) - x.2.2.1).toNat) (g := fun _ => some ((decide (a = b), ()), ((), ((), ())))) ?_
      ⟨rfl, rfl, by simp only; omega, by simp only; omega, fun k hk => by simp at hk⟩ (by simp only [bigN_eq]; omega)
    rintro ⟨a', b', i, _⟩ again ⟨e0, e1, e2, e3, e4⟩ hag
    simp only at e0 e1 e2 e3 e4 hag ⊢
    subst e0 e1
    obtain ⟨i, rfl⟩ := Int.eq_ofNat_of_zero_le e2
    simp only [T_law0_EqualHashes_loop0, brR_dec, brR_inR, brR_not, eqD_h32, Int.toNat_natCast]
    by_cases hi : i < a'.length
    · rw [if_pos (by omega), if_pos (by omega), if_pos (by omega)]
      by_cases hc : a'.getD i Z32 = b'.getD i Z32
      · rw [if_pos hc, w_i64 (by omega) (by omega)]
        refine hag _ ⟨rfl, rfl, by simp only; omega, by simp only; omega, fun k hk => ?_⟩ (by simp only; omega)
        simp only at hk
        rw [show ((i : Int) + 1).toNat = i + 1 by omega] at hk
        rcases Nat.lt_or_ge k i with h | h
        · exact e4 k (by simpa using h)
        · rw [show k = i by omega]; exact hc
      · rw [if_neg hc, decide_eq_false (fun h => hc (by rw [h]))]
    · rw [if_neg (by omega), decide_eq_true (ext_getD hl fun k hk => e4 k (by simp; omega))]
  · rw [if_neg (by omega), decide_eq_false (fun h => hl (by rw [h]))]

theorem take_map_succ {α β : Type} {f : α → β} {l : List α} {d : α} {i : Nat} (h : i < l.length) : (l.take (i + 1)).map f = (l.take i).map f ++ [f (l.getD i d)] := by
  rw [List.take_succ_eq_append_getElem h, List.map_append, List.getD_eq_getElem?_getD, List.getElem?_eq_getElem h]; rfl

theorem take_succ' {α : Type} {l : List α} {d : α} {i : Nat} (h : i < l.length) : l.take (i + 1) = l.take i ++ [l.getD i d] := by
  rw [List.take_succ_eq_append_getElem h, List.getD_eq_getElem?_getD, List.getElem?_eq_getElem h]; rfl

theorem allH_map (v : List Int) : AllH (v.map hof) := fun x hx => by
  obtain ⟨n, _, rfl⟩ := List.mem_map.1 hx
  exact h32_hof n

end Go.Pon
/-
  The laws of chapter 8.
-/
set_option autoImplicit false
set_option linter.unusedVariables false
set_option linter.unusedSimpArgs false
set_option maxRecDepth 100000
namespace Go.Pon
open Go

theorem leaves_eq {v : List Int} (hl : v.length ≤ 1000000) : sol_law8_leaves (v, ()) = some ((v.map hof, ()), ((), ())) := by
  unfold sol_law8_leaves T_law8_leaves
  refine bigLoop_rule (I := fun x => x.1 = v ∧ (0 : Int) ≤ x.2.2.1 ∧ x.2.2.1 ≤ ((v.length : Nat) : Int) ∧ x.2.1 = (v.take x.2.2.1.toNat).map hof) (m := fun x => (((v.length : Nat) : Int) - x.2.2.1).toNat) (g := fun _ => some ((v.map hof, ()), ((), ()))) ?_
    ⟨rfl, by simp only; omega, by simp only; omega, by simp⟩ (by simp only [bigN_eq]; omega)
  rintro ⟨v', o, i, _⟩ again ⟨e0, e1, e2, e3⟩ hag
  simp only at e0 e1 e2 e3 hag ⊢
  subst e0 e3
  obtain ⟨i, rfl⟩ := Int.eq_ofNat_of_zero_le e1
  simp only [T_law8_leaves_loop0, brR_dec, brR_inR, append_def, Int.toNat_natCast]
  by_cases hi : i < v'.length
  · have h := take_map_succ (f := hof) (d := (0 : Int)) hi
    rw [if_pos (by omega), if_pos (by omega), hashOf_eq]
    simp only [bind_some']
    rw [brR_roomH (by simp only [List.length_map, List.length_take]; omega), ← h, w_i64 (by omega) (by omega)]
    exact hag _ ⟨rfl, by simp only; omega, by simp only; omega, by simp only; rw [show ((i : Int) + 1).toNat = i + 1 by omega]⟩ (by simp only; omega)
  · rw [if_neg (by omega), List.take_of_length_le (by omega)]

theorem sp2 : sp 2 = 1 := by decide
theorem sp3 : sp 3 = 2 := by decide

theorem root2 (x y : List Int) : rootH [x, y] = nodeH x y := by
  rw [rootH_two (by simp), show [x, y].length = 2 from rfl, sp2, rootH_one (l := List.take 1 [x, y]) (by simp), rootH_one (l := List.drop 1 [x, y]) (by simp)]; rfl

theorem root3 (x y z : List Int) : rootH [x, y, z] = nodeH (nodeH x y) z := by
  rw [rootH_two (by simp), show [x, y, z].length = 3 from rfl, sp3, rootH_one (l := List.drop 2 [x, y, z]) (by simp)]
  simp only [List.take_succ_cons, List.take_zero]
  rw [root2]; rfl

theorem proof3 (x y z : List Int) : proofH [x, y, z] 2 = [nodeH x y] := by
  rw [proofH_right (by simp) (by rw [show [x, y, z].length = 3 from rfl, sp3]; omega), show [x, y, z].length = 3 from rfl, sp3, proofH_small (by simp)]
  simp only [List.take_succ_cons, List.take_zero]
  rw [root2]; rfl

theorem awake8 : sol_law8_awake () = some ((true, ()), ()) := by
  unfold sol_law8_awake T_law8_awake
  rw [hashOf_eq, hashOf_eq, hashOf_eq]
  have h1 := h32_hof 1
  have h2 := h32_hof 2
  have h3 := h32_hof 3
  have ha : AllH [hof 1, hof 2, hof 3] := fun x hx => by
    simp only [List.mem_cons, List.not_mem_nil, or_false] at hx
    rcases hx with rfl | rfl | rfl <;> assumption
  generalize hof 1 = a at *
  generalize hof 2 = b at *
  generalize hof 3 = c at *
  simp only [bind_some', letR_eq, new_eq]
  rw [append_eq (by simp)]
  simp only [bind_some']
  rw [append_eq (by simp)]
  simp only [bind_some']
  rw [append_eq (by simp)]
  simp only [bind_some', List.nil_append, List.cons_append]
  rw [show (3 : Int) = ((3 : Nat) : Int) from rfl, treeRoot_in (by simp) ha (by simp)]
  simp only [bind_some']
  rw [show (2 : Int) = ((2 : Nat) : Int) from rfl, treeProof_in (by simp) ha (by simp) (by simp)]
  simp only [bind_some', List.take_succ_cons, List.take_zero, root3, proof3]
  rw [node_eq h1 h2]
  simp only [bind_some']
  rw [node_eq (h32_node _ _) h3]
  simp only [bind_some', brR_dec, brR_inR, eqD_h32, decide_true, brR_true, List.length_cons, List.length_nil]
  simp

theorem law_MerkleSubtrees_at (v : List Int) (h : List Int) (hh : H32 h) : ∃ y, sol_law8_MerkleSubtrees (v, (h, ())) = some y ∧ y.1.1 = true := by
  unfold sol_law8_MerkleSubtrees T_law8_MerkleSubtrees
  simp only [letR_eq, append_def]
  rw [awake8]
  simp only [brR_dec, bind_some']
  by_cases c1 : (List.length v : Int) > 60
  · rw [if_pos c1]; exact ⟨_, rfl, rfl⟩
  rw [if_neg c1, leaves_eq (by omega)]
  simp only [bind_some']
  have hlen : (v.map hof ++ [h]).length = v.length + 1 := by simp
  have ha : AllH (v.map hof ++ [h]) := (allH_map v).append (AllH.one hh)
  rw [brR_roomH (by simp; omega)]
  by_cases c2 : v.length = 0
  · rw [if_pos (by omega), rootOf_eq (by omega) ha, rootH_one (by omega)]
    have : v = [] := List.length_eq_zero_iff.1 c2
    subst this
    simp only [bind_some', eqD_h32, List.map_nil, List.nil_append, List.getD_cons_zero, decide_true, brR_true]
    exact ⟨_, rfl, rfl⟩
  rw [if_neg (by omega)]
  generalize v.map hof ++ [h] = l at *
  refine ⟨_, bigLoop_rule (I := fun x => x.1 = l ∧ ∃ j : Nat, x.2.1 = ((2 ^ j : Nat) : Int) ∧ 2 ^ j < l.length) (m := fun x => (((l.length : Nat) : Int) - x.2.1).toNat) (g := fun _ => some ((true, ()), ((), ((), ())))) ?_
    ⟨rfl, 0, rfl, by simp only [Nat.pow_zero]; omega⟩ (by simp only [bigN_eq]; omega), rfl⟩
  rintro ⟨l', k, _⟩ again ⟨e0, j, e1, e2⟩ hag
  simp only at e0 e1 hag ⊢
  subst e0 e1
  have hp : 0 < 2 ^ j := Nat.two_pow_pos j
  simp only [T_law8_MerkleSubtrees_loop0, letR_eq, brR_dec, brR_and, Int.toNat_natCast]
  rw [w_i64 (by omega) (by omega)]
  by_cases hc : (2 : Int) * ((2 ^ j : Nat) : Int) < ((l'.length : Nat) : Int)
  · rw [if_pos hc]
    exact hag _ ⟨rfl, j + 1, by simp only [Nat.pow_succ]; omega, by rw [Nat.pow_succ]; omega⟩ (by simp only; omega)
  · have hsp : sp l'.length = 2 ^ j := sp_eq e2 (by omega)
    rw [if_neg hc, rootOf_eq (by omega) ha]
    have t1 : List.take (2 ^ j - 0) (List.drop 0 l') = l'.take (2 ^ j) := by simp
    have t2 : List.take (l'.length - 2 ^ j) (List.drop (2 ^ j) l') = l'.drop (2 ^ j) := List.take_of_length_le (by rw [List.length_drop]; omega)
    simp only [bind_some']
    rw [t1, t2, rootOf_eq (by rw [List.length_take]; omega) (ha.take _), rootOf_eq (by rw [List.length_drop]; omega) (ha.drop _), if_pos (by omega), if_pos (by omega)]
    have g1 : (0 : Int) ≤ ((2 ^ j : Nat) : Int) := by omega
    have g2 : ((2 ^ j : Nat) : Int) ≤ ((l'.length : Nat) : Int) := by omega
    simp only [bind_some', if_pos g1, if_pos g2]
    rw [node_eq (h32_root (ha.take _)) (h32_root (ha.drop _)), rootH_two (l := l') (by omega), hsp, awake8]
    simp only [bind_some', eqD_h32, decide_true, brR_true]

theorem law_MerkleSubtrees : ∀ x, wfL s_law8_MerkleSubtrees.ins x → ∃ y, sol_law8_MerkleSubtrees x = some y ∧ y.1.1 = true :=
  fun ⟨v, h, _⟩ ⟨hv, hh, _⟩ => law_MerkleSubtrees_at v h (h32_wf hh)

theorem eqD_bool (x y : Bool) : eqD .bool x y = decide (x = y) := eqD_dec _ _ _

theorem allH_wf {l : List (List Int)} (h : (Ty.slice (.arr 32 (.int .u8))).wf l) : AllH l := fun x hx => h32_wf (h.2 x hx)

theorem law_MerkleRoots_at (l : List (List Int)) (n : Int) (ha : AllH l) : ∃ y, sol_law8_MerkleRoots (l, (n, ())) = some y ∧ y.1.1 = true := by
  unfold sol_law8_MerkleRoots T_law8_MerkleRoots
  simp only
  rw [awake8]
  simp only [brR_dec, bind_some', new_eq]
  by_cases c1 : (List.length l : Int) > 40
  · rw [if_pos c1]; exact ⟨_, rfl, rfl⟩
  rw [if_neg c1]
  have second : bigLoop _ _ (fun again x => T_law8_MerkleRoots_loop1 sol_merkle_Tree_Root sol_ref8_RootOf sol_merkle_RootOf sol_law8_awake again x.1 x.2.1 x.2.2.1 x.2.2.2.1) (l, (n, ((l, ()), ((-1 : Int), ())))) = some ((true, ()), ((), ((), ()))) := by
    refine bigLoop_rule (I := fun x => x.1 = l ∧ x.2.1 = n ∧ x.2.2.1 = (l, ()) ∧ (-1 : Int) ≤ x.2.2.2.1 ∧ x.2.2.2.1 ≤ ((l.length : Nat) : Int) + 2) (m := fun x => (((l.length : Nat) : Int) + 2 - x.2.2.2.1).toNat) (g := fun _ => some ((true, ()), ((), ((), ())))) ?_
      ⟨rfl, rfl, rfl, by simp only; omega, by simp only; omega⟩ (by simp only [bigN_eq]; omega)
    rintro ⟨l', n', t, k, _⟩ again ⟨e0, e1, e2, e3, e4⟩ hag
    simp only at e0 e1 e2 e3 e4 hag ⊢
    subst e0 e1 e2
    simp only [T_law8_MerkleRoots_loop1, letR_eq, brR_dec, brR_and, brR_not, eqD_bool, eqD_h32]
    rw [w_i64 (n := ((l'.length : Nat) : Int) + 1) (by omega) (by omega), w_i64 (n := k + 1) (by omega) (by omega)]
    have next : again (l', (n', ((l', ()), (k + 1, ())))) = some ((true, ()), ((), ((), ()))) ∨ ¬ k ≤ ((l'.length : Nat) : Int) + 1 := by
      by_cases h : k ≤ ((l'.length : Nat) : Int) + 1
      · exact .inl (hag _ ⟨rfl, rfl, rfl, by simp only; omega, by simp only; omega⟩ (by simp only; omega))
      · exact .inr h
    by_cases hk : k ≤ ((l'.length : Nat) : Int) + 1
    · have next := next.resolve_right (fun h => h hk)
      rw [if_pos hk]
      by_cases h0 : 0 ≤ k
      · obtain ⟨k, rfl⟩ := Int.eq_ofNat_of_zero_le h0
        by_cases h1 : k ≤ l'.length
        · rw [treeRoot_in (by omega) ha h1]
          have g : ((k : Nat) : Int) ≤ ((l'.length : Nat) : Int) := by omega
          have g0 : ((k : Nat) : Int) ≥ 0 := h0
          have g0' : (0 : Int) ≤ ((k : Nat) : Int) := h0
          simp only [bind_some', g, g0, g0', decide_true, if_true, Int.toNat_natCast, List.drop_zero, Nat.sub_zero]
          rw [rrootOf_eq (by rw [List.length_take]; omega) (ha.take _)]
          simp only [bind_some', if_true]
          exact next
        · rw [treeRoot_out (.inr (by omega))]
          have g : ¬ ((k : Nat) : Int) ≤ ((l'.length : Nat) : Int) := by omega
          have g0 : ((k : Nat) : Int) ≥ 0 := h0
          simp only [bind_some', g, g0, decide_true, decide_false, if_true, if_false]
          exact next
      · rw [treeRoot_out (.inl (by omega))]
        have g0 : ¬ k ≥ 0 := by omega
        simp only [bind_some', g0, if_true, if_false]
        exact next
    · rw [if_neg hk, awake8, rootOf_eq (by omega) ha, rrootOf_eq (by omega) ha]
      by_cases h0 : 0 ≤ n'
      · obtain ⟨q, rfl⟩ := Int.eq_ofNat_of_zero_le h0
        have g0 : ((q : Nat) : Int) ≥ 0 := h0
        by_cases h1 : q ≤ l'.length
        · rw [treeRoot_in (by omega) ha h1]
          have g : ((q : Nat) : Int) ≤ ((l'.length : Nat) : Int) := by omega
          simp only [bind_some', g, g0, decide_true, if_true]
        · rw [treeRoot_out (.inr (by omega))]
          have g : ¬ ((q : Nat) : Int) ≤ ((l'.length : Nat) : Int) := by omega
          simp only [bind_some', g, g0, decide_false, if_true]
      · rw [treeRoot_out (.inl (by omega))]
        have g0 : ¬ n' ≥ 0 := by omega
        simp only [bind_some', g0, if_true, if_false]
  refine ⟨_, bigLoop_rule (I := fun x => x.1 = l ∧ x.2.1 = n ∧ (0 : Int) ≤ x.2.2.2.1 ∧ x.2.2.2.1 ≤ ((l.length : Nat) : Int) ∧ x.2.2.1 = (l.take x.2.2.2.1.toNat, ())) (m := fun x => (((l.length : Nat) : Int) - x.2.2.2.1).toNat) (g := fun _ => some ((true, ()), ((), ((), ())))) ?_
    ⟨rfl, rfl, by simp only; omega, by simp only; omega, by simp⟩ (by simp only [bigN_eq]; omega), rfl⟩
  rintro ⟨l', n', t, i, _⟩ again ⟨e0, e1, e2, e3, e4⟩ hag
  simp only at e0 e1 e2 e3 e4 hag ⊢
  subst e0 e1 e4
  obtain ⟨i, rfl⟩ := Int.eq_ofNat_of_zero_le e2
  simp only [T_law8_MerkleRoots_loop0, letR_eq, brR_dec, brR_inR, brR_not, Int.toNat_natCast]
  by_cases hi : i < l'.length
  · have ht : (l'.take i).length = i := by rw [List.length_take]; omega
    rw [if_pos (by omega), if_pos (by omega), append_eq (by omega)]
    simp only [bind_some']
    rw [ht, if_pos rfl, ← take_succ' (d := Z32) hi, treeLen_eq, w_i64 (by omega) (by omega)]
    simp only [bind_some']
    rw [if_pos (by rw [List.length_take]; omega)]
    exact hag _ ⟨rfl, rfl, by simp only; omega, by simp only; omega, by simp only; rw [show ((i : Int) + 1).toNat = i + 1 by omega]⟩ (by simp only; omega)
  · rw [if_neg (by omega), List.take_of_length_le (by omega)]
    exact second

theorem law_MerkleRoots : ∀ x, wfL s_law8_MerkleRoots.ins x → ∃ y, sol_law8_MerkleRoots x = some y ∧ y.1.1 = true :=
  fun ⟨l, n, _⟩ ⟨hl, hn, _⟩ => law_MerkleRoots_at l n (allH_wf hl)

/-! ### Proofs -/

theorem modR {x : Int} {n : Nat} (h0 : -9223372036854775808 ≤ x ∧ x ≤ 9223372036854775807) (h2 : 1 ≤ n) (h3 : n ≤ 9223372036854775807) :
    ∃ r : Nat, r < n ∧ sol_law0_Mod (x, (((n : Nat) : Int), ())) = some ((((r : Nat) : Int), ()), ((), ((), ()))) := by
  rw [mod_eq h0.1 h0.2 (by omega) (by omega)]
  have hm0 : 0 ≤ (x % 18446744073709551616) % ((n : Nat) : Int) := Int.emod_nonneg _ (by omega)
  have hm1 : (x % 18446744073709551616) % ((n : Nat) : Int) < ((n : Nat) : Int) := Int.emod_lt_of_pos _ (by omega)
  obtain ⟨r, hr⟩ := Int.eq_ofNat_of_zero_le hm0
  exact ⟨r, by omega, by rw [hr]⟩

theorem law_MerkleProofs_at (v : List Int) (i n : Int) (hi : -9223372036854775808 ≤ i ∧ i ≤ 9223372036854775807) (hn : -9223372036854775808 ≤ n ∧ n ≤ 9223372036854775807) : ∃ y, sol_law8_MerkleProofs (v, (i, (n, ()))) = some y ∧ y.1.1 = true := by
  unfold sol_law8_MerkleProofs T_law8_MerkleProofs
  simp only
  rw [awake8]
  simp only [brR_dec, bind_some', new_eq]
  by_cases c1 : (List.length v : Int) > 70
  · rw [if_pos c1]; exact ⟨_, rfl, rfl⟩
  rw [if_neg c1, leaves_eq (by omega)]
  simp only [bind_some']
  have ha := allH_map v
  have hl : (v.map hof).length ≤ 70 := by rw [List.length_map]; omega
  generalize v.map hof = l at *
  have second : bigLoop _ _ (fun again x => T_law8_MerkleProofs_loop1 sol_merkle_Tree_Proof sol_ref8_Proof sol_law0_EqualHashes sol_law0_Mod sol_law8_awake again x.1 x.2.1 x.2.2.1 x.2.2.2.1 x.2.2.2.2.1) (i, (n, (l, ((l, ()), ((0 : Int), ()))))) = some ((true, ()), ((), ((), ((), ())))) := by
    refine bigLoop_rule (I := fun x => (-9223372036854775808 ≤ x.1 ∧ x.1 ≤ 9223372036854775807) ∧ (-9223372036854775808 ≤ x.2.1 ∧ x.2.1 ≤ 9223372036854775807) ∧ x.2.2.1 = l ∧ x.2.2.2.1 = (l, ()) ∧ (0 : Int) ≤ x.2.2.2.2.1 ∧ x.2.2.2.2.1 ≤ (2 : Int)) (m := fun x => ((2 : Int) - x.2.2.2.2.1).toNat) (g := fun _ => some ((true, ()), ((), ((), ((), ()))))) ?_
      ⟨hi, hn, rfl, rfl, by simp only; omega, by simp only; omega⟩ (by simp only [bigN_eq]; omega)
    rintro ⟨i', n', l', t, k, _⟩ again ⟨e0, e1, e2, e3, e4, e5⟩ hag
    simp only at e0 e1 e2 e3 e4 e5 hag ⊢
    subst e2 e3
    simp only [T_law8_MerkleProofs_loop1, letR_eq, brR_dec, brR_and, brR_not, eqD_bool]
    by_cases hk : k < 2
    · rw [if_pos hk]
      obtain ⟨r1, q1, q2⟩ := modR (n := l'.length + 1) e1 (by omega) (by omega)
      obtain ⟨r2, q3, q4⟩ := modR (n := r1 + 1) e0 (by omega) (by omega)
      have ew1 : IntKind.wrap .i64 (((l'.length : Nat) : Int) + 1) = ((l'.length + 1 : Nat) : Int) := by rw [w_i64 (by omega) (by omega)]; omega
      have ew2 : IntKind.wrap .i64 (((r1 : Nat) : Int) + 1) = ((r1 + 1 : Nat) : Int) := by rw [w_i64 (by omega) (by omega)]; omega
      have ew3 : IntKind.wrap .i64 (k + 1) = k + 1 := w_i64 (by omega) (by omega)
      have next : again (((r2 : Nat) : Int), (((r1 : Nat) : Int), (l', ((l', ()), (k + 1, ()))))) = some ((true, ()), ((), ((), ((), ())))) :=
        hag _ ⟨⟨by simp only; omega, by simp only; omega⟩, ⟨by simp only; omega, by simp only; omega⟩, rfl, rfl, by simp only; omega, by simp only; omega⟩ (by simp only; omega)
      rw [ew1, q2]
      by_cases h0 : 0 ≤ i'
      · by_cases h1 : i' < n'
        · obtain ⟨a, rfl⟩ := Int.eq_ofNat_of_zero_le h0
          obtain ⟨b, rfl⟩ := Int.eq_ofNat_of_zero_le (show 0 ≤ n' by omega)
          have g0 : ((a : Nat) : Int) ≥ 0 := h0
          have g0' : (0 : Int) ≤ ((b : Nat) : Int) := by omega
          by_cases h2 : b ≤ l'.length
          · have g : ((b : Nat) : Int) ≤ ((l'.length : Nat) : Int) := by omega
            rw [treeProof_in (by omega) ha (by omega) h2]
            simp only [bind_some', g, g0, g0', h1, decide_true, if_true, Int.toNat_natCast, List.drop_zero, Nat.sub_zero]
            rw [rproof_eq (by rw [List.length_take]; omega) (by rw [List.length_take]; omega) (ha.take _)]
            simp only [bind_some']
            rw [equalHashes_eq _ _ (by have := (proofH_facts l'.length (l'.take b) a (by rw [List.length_take]; omega) (ha.take _)).1; rw [List.length_take] at this; omega)]
            simp only [bind_some', decide_true, brR_true, ew2, q4, ew3]
            exact next
          · have g : ¬ ((b : Nat) : Int) ≤ ((l'.length : Nat) : Int) := by omega
            rw [treeProof_out (.inr (.inr (by omega)))]
            simp only [bind_some', g, g0, h1, decide_false, if_true, if_false, ew2, q4, ew3]
            rw [if_neg (by simp)]
            exact next
        · rw [treeProof_out (.inr (.inl (by omega)))]
          have g0 : i' ≥ 0 := h0
          simp only [bind_some', g0, h1, if_true, if_false, ew2, q4, ew3]
          rw [if_neg (by simp)]
          exact next
      · rw [treeProof_out (.inl (by omega))]
        have g0 : ¬ i' ≥ 0 := by omega
        simp only [bind_some', g0, if_true, if_false, ew2, q4, ew3]
        rw [if_neg (by simp)]
        exact next
    · rw [if_neg hk, awake8]
      simp only [bind_some']
  refine ⟨_, bigLoop_rule (I := fun x => x.1 = i ∧ x.2.1 = n ∧ x.2.2.1 = l ∧ (0 : Int) ≤ x.2.2.2.2.1 ∧ x.2.2.2.2.1 ≤ ((l.length : Nat) : Int) ∧ x.2.2.2.1 = (l.take x.2.2.2.2.1.toNat, ())) (m := fun x => (((l.length : Nat) : Int) - x.2.2.2.2.1).toNat) (g := fun _ => some ((true, ()), ((), ((), ((), ()))))) ?_
    ⟨rfl, rfl, rfl, by simp only; omega, by simp only; omega, by simp⟩ (by simp only [bigN_eq]; omega), rfl⟩
  rintro ⟨i', n', l', t, k, _⟩ again ⟨e0, e1, e2, e3, e4, e5⟩ hag
  simp only at e0 e1 e2 e3 e4 e5 hag ⊢
  subst e0 e1 e2 e5
  obtain ⟨k, rfl⟩ := Int.eq_ofNat_of_zero_le e3
  simp only [T_law8_MerkleProofs_loop0, letR_eq, brR_dec, brR_inR, Int.toNat_natCast]
  by_cases hk : k < l'.length
  · rw [if_pos (by omega), if_pos (by omega), append_eq (by rw [List.length_take]; omega)]
    simp only [bind_some']
    rw [← take_succ' (d := Z32) hk, w_i64 (by omega) (by omega)]
    exact hag _ ⟨rfl, rfl, rfl, by simp only; omega, by simp only; omega, by simp only; rw [show ((k : Int) + 1).toNat = k + 1 by omega]⟩ (by simp only; omega)
  · rw [if_neg (by omega), List.take_of_length_le (by omega)]
    exact second

theorem law_MerkleProofs : ∀ x, wfL s_law8_MerkleProofs.ins x → ∃ y, sol_law8_MerkleProofs x = some y ∧ y.1.1 = true :=
  fun ⟨v, i, n, _⟩ ⟨hv, hi, hn, _⟩ => law_MerkleProofs_at v i n (inK_i64.1 hi) (inK_i64.1 hn)

/-! ### Completeness -/

theorem hof_getD {v : List Int} {i : Nat} (h : i < v.length) : (v.map hof).getD i Z32 = hof (v.getD i 0) := by
  rw [List.getD_eq_getElem?_getD, List.getElem?_map, List.getElem?_eq_getElem h, List.getD_eq_getElem?_getD, List.getElem?_eq_getElem h]; rfl

theorem verify_proof {l : List (List Int)} {i n : Nat} (hi : i < n) (hn : n ≤ l.length) : verifyH (rootH (l.take n)) ((n : Nat) : Int) ((i : Nat) : Int) (l.getD i Z32) (proofH (l.take n) i) = true := by
  have e1 : (l.take n).length = n := by rw [List.length_take]; omega
  have e2 : (l.take n).getD i Z32 = l.getD i Z32 := by
    rw [List.getD_eq_getElem?_getD, List.getElem?_take, if_pos hi, List.getD_eq_getElem?_getD]
  have := up_proof n (l.take n) i (by omega) (by omega)
  rw [e1, e2] at this
  unfold verifyH
  rw [decide_eq_true (by omega), Int.toNat_natCast, Int.toNat_natCast, this]
  simp

theorem law_MerkleCompleteness_at (v : List Int) (i n : Int) (hi : -9223372036854775808 ≤ i ∧ i ≤ 9223372036854775807) (hn : -9223372036854775808 ≤ n ∧ n ≤ 9223372036854775807) : ∃ y, sol_law8_MerkleCompleteness (v, (i, (n, ()))) = some y ∧ y.1.1 = true := by
  unfold sol_law8_MerkleCompleteness T_law8_MerkleCompleteness
  simp only
  rw [awake8]
  simp only [brR_dec, bind_some', new_eq]
  by_cases c1 : (List.length v : Int) > 60
  · rw [if_pos c1]; exact ⟨_, rfl, rfl⟩
  rw [if_neg c1]
  by_cases c2 : (List.length v : Int) = 0
  · rw [if_pos c2]; exact ⟨_, rfl, rfl⟩
  rw [if_neg c2]
  have ha := allH_map v
  have hl : (v.map hof).length = v.length := List.length_map ..
  refine ⟨_, bigLoop_rule (I := fun x => x.1 = v ∧ x.2.1 = i ∧ x.2.2.1 = n ∧ (0 : Int) ≤ x.2.2.2.2.1 ∧ x.2.2.2.2.1 ≤ ((v.length : Nat) : Int) ∧ x.2.2.2.1 = ((v.take x.2.2.2.2.1.toNat).map hof, ())) (m := fun x => (((v.length : Nat) : Int) - x.2.2.2.2.1).toNat) (g := fun _ => some ((true, ()), ((), ((), ((), ()))))) ?_
    ⟨rfl, rfl, rfl, by simp only; omega, by simp only; omega, by simp⟩ (by simp only [bigN_eq]; omega), rfl⟩
  rintro ⟨v', i', n', t, k, _⟩ again ⟨e0, e1, e2, e3, e4, e5⟩ hag
  simp only at e0 e1 e2 e3 e4 e5 hag ⊢
  subst e0 e1 e2 e5
  obtain ⟨k, rfl⟩ := Int.eq_ofNat_of_zero_le e3
  simp only [T_law8_MerkleCompleteness_loop0, letR_eq, brR_dec, brR_inR, brR_not, Int.toNat_natCast]
  by_cases hk : k < v'.length
  · rw [if_pos (by omega), if_pos (by omega), hashOf_eq]
    simp only [bind_some']
    rw [append_eq (by rw [List.length_map, List.length_take]; omega)]
    simp only [bind_some']
    rw [← take_map_succ (f := hof) (d := (0 : Int)) hk, w_i64 (by omega) (by omega)]
    exact hag _ ⟨rfl, rfl, rfl, by simp only; omega, by simp only; omega, by simp only; rw [show ((k : Int) + 1).toNat = k + 1 by omega]⟩ (by simp only; omega)
  · rw [if_neg (by omega), List.take_of_length_le (show v'.length ≤ k by omega)]
    obtain ⟨r, q1, q2⟩ := modR (n := v'.length) hn (by omega) (by omega)
    rw [q2]
    simp only [bind_some']
    obtain ⟨a, q3, q4⟩ := modR (n := r + 1) hi (by omega) (by omega)
    have ew : IntKind.wrap .i64 ((1 : Int) + ((r : Nat) : Int)) = ((r + 1 : Nat) : Int) := by rw [w_i64 (by omega) (by omega)]; omega
    rw [ew, q4]
    simp only [bind_some']
    rw [treeRoot_in (by omega) ha (by omega)]
    simp only [bind_some']
    rw [treeProof_in (by omega) ha q3 (by omega)]
    simp only [bind_some', brR_true, Int.toNat_natCast]
    have hp := proofH_facts (r + 1) ((v'.map hof).take (r + 1)) a (by rw [List.length_take]; omega) (ha.take _)
    have hpl : (proofH ((v'.map hof).take (r + 1)) a).length ≤ 1000000000 := by
      have := hp.1
      rw [List.length_take] at this; omega
    have hg : (0 : Int) ≤ ((a : Nat) : Int) ∧ ((a : Nat) : Int) < ((v'.length : Nat) : Int) := by omega
    simp only [if_pos hg, hashOf_eq, bind_some']
    rw [verify_eq (by omega) hpl (h32_hof _) hp.2, ← hof_getD (by omega), verify_proof q3 (by omega)]
    simp only [bind_some', brR_true]
    rw [verify_eq (by omega) hpl (ha.at _) hp.2, verify_eq (by omega) hpl (ha.at _) hp.2]
    have o1 : verifyH (rootH ((v'.map hof).take (r + 1))) ((r + 1 : Nat) : Int) ((r + 1 : Nat) : Int) ((v'.map hof).getD a Z32) (proofH ((v'.map hof).take (r + 1)) a) = false := by
      unfold verifyH; rw [decide_eq_false (by omega)]; rfl
    have o2 : verifyH (rootH ((v'.map hof).take (r + 1))) ((r + 1 : Nat) : Int) (-1) ((v'.map hof).getD a Z32) (proofH ((v'.map hof).take (r + 1)) a) = false := by
      unfold verifyH; rw [decide_eq_false (by omega)]; rfl
    rw [o1, o2, awake8]
    simp only [bind_some', brR_false]

theorem law_MerkleCompleteness : ∀ x, wfL s_law8_MerkleCompleteness.ins x → ∃ y, sol_law8_MerkleCompleteness x = some y ∧ y.1.1 = true :=
  fun ⟨v, i, n, _⟩ ⟨hv, hi, hn, _⟩ => law_MerkleCompleteness_at v i n (inK_i64.1 hi) (inK_i64.1 hn)

/-! ### Appending changes nothing -/

theorem law_MerkleAppendOnly_at (v w : List Int) (i : Int) (hi : -9223372036854775808 ≤ i ∧ i ≤ 9223372036854775807) : ∃ y, sol_law8_MerkleAppendOnly (v, (w, (i, ()))) = some y ∧ y.1.1 = true := by
  unfold sol_law8_MerkleAppendOnly T_law8_MerkleAppendOnly
  simp only
  rw [awake8]
  simp only [brR_dec, bind_some', new_eq]
  by_cases c1 : (List.length v : Int) > 40
  · rw [if_pos c1]; exact ⟨_, rfl, rfl⟩
  rw [if_neg c1]
  by_cases c2 : (List.length v : Int) = 0
  · rw [if_pos c2]; exact ⟨_, rfl, rfl⟩
  rw [if_neg c2]
  by_cases c3 : (List.length w : Int) > 40
  · rw [if_pos c3]; exact ⟨_, rfl, rfl⟩
  rw [if_neg c3]
  have ha := allH_map v
  have hl : (v.map hof).length = v.length := List.length_map ..
  refine ⟨_, bigLoop_rule (I := fun x => x.1 = v ∧ x.2.1 = w ∧ x.2.2.1 = i ∧ (0 : Int) ≤ x.2.2.2.2.1 ∧ x.2.2.2.2.1 ≤ ((v.length : Nat) : Int) ∧ x.2.2.2.1 = ((v.take x.2.2.2.2.1.toNat).map hof, ())) (m := fun x => (((v.length : Nat) : Int) - x.2.2.2.2.1).toNat) (g := fun _ => some ((true, ()), ((), ((), ((), ()))))) ?_
    ⟨rfl, rfl, rfl, by simp only; omega, by simp only; omega, by simp⟩ (by simp only [bigN_eq]; omega), rfl⟩
  rintro ⟨v', w', i', t, k, _⟩ again ⟨e0, e1, e2, e3, e4, e5⟩ hag
  simp only at e0 e1 e2 e3 e4 e5 hag ⊢
  subst e0 e1 e2 e5
  obtain ⟨k, rfl⟩ := Int.eq_ofNat_of_zero_le e3
  simp only [T_law8_MerkleAppendOnly_loop0, letR_eq, brR_dec, brR_inR, brR_not, Int.toNat_natCast]
  by_cases hk : k < v'.length
  · rw [if_pos (by omega), if_pos (by omega), hashOf_eq]
    simp only [bind_some']
    rw [append_eq (by rw [List.length_map, List.length_take]; omega)]
    simp only [bind_some']
    rw [← take_map_succ (f := hof) (d := (0 : Int)) hk, w_i64 (by omega) (by omega)]
    exact hag _ ⟨rfl, rfl, rfl, by simp only; omega, by simp only; omega, by simp only; rw [show ((k : Int) + 1).toNat = k + 1 by omega]⟩ (by simp only; omega)
  · rw [if_neg (by omega), List.take_of_length_le (show v'.length ≤ k by omega)]
    obtain ⟨a, q1, q2⟩ := modR (n := v'.length) hi (by omega) (by omega)
    rw [q2]
    simp only [bind_some']
    rw [treeRoot_in (by omega) ha (by omega)]
    simp only [bind_some']
    rw [treeProof_in (by omega) ha q1 (by omega)]
    simp only [bind_some']
    rw [List.take_of_length_le (show (v'.map hof).length ≤ v'.length by omega)]
    refine bigLoop_rule (I := fun x => x.1 = v' ∧ x.2.1 = w' ∧ x.2.2.2.1 = ((a : Nat) : Int) ∧ x.2.2.2.2.1 = rootH (v'.map hof) ∧ x.2.2.2.2.2.1 = proofH (v'.map hof) a ∧ (0 : Int) ≤ x.2.2.2.2.2.2.1 ∧ x.2.2.2.2.2.2.1 ≤ ((w'.length : Nat) : Int) ∧ x.2.2.1 = (v'.map hof ++ (w'.take x.2.2.2.2.2.2.1.toNat).map hof, ())) (m := fun x => (((w'.length : Nat) : Int) - x.2.2.2.2.2.2.1).toNat) (g := fun _ => some ((true, ()), ((), ((), ((), ()))))) ?_
      ⟨rfl, rfl, rfl, rfl, rfl, by simp only; omega, by simp only; omega, by simp⟩ (by simp only [bigN_eq]; omega)
    rintro ⟨v2, w2, t, k2, r, p, j, _⟩ again2 ⟨e0, e1, e2, e6, e7, e8, e9, e5⟩ hag2
    simp only at e0 e1 e2 e6 e7 e8 e9 e5 hag2 ⊢
    subst e0 e1 e2 e6 e7 e5
    obtain ⟨j, rfl⟩ := Int.eq_ofNat_of_zero_le e8
    simp only [T_law8_MerkleAppendOnly_loop1, letR_eq, brR_dec, brR_inR, brR_not, Int.toNat_natCast]
    by_cases hj : j < w2.length
    · rw [if_pos (by omega), if_pos (by omega), hashOf_eq]
      simp only [bind_some']
      rw [append_eq (by simp only [List.length_append, List.length_map, List.length_take]; omega)]
      simp only [bind_some']
      rw [List.append_assoc, ← take_map_succ (f := hof) (d := (0 : Int)) hj, w_i64 (by omega) (by omega)]
      exact hag2 _ ⟨rfl, rfl, rfl, rfl, rfl, by simp only; omega, by simp only; omega, by simp only; rw [show ((j : Int) + 1).toNat = j + 1 by omega]⟩ (by simp only; omega)
    · have hall : AllH (v2.map hof ++ w2.map hof) := ha.append (allH_map w2)
      have hlen : (v2.map hof ++ w2.map hof).length = v2.length + w2.length := by simp
      rw [if_neg (by omega), List.take_of_length_le (show w2.length ≤ j by omega), treeRoot_in (by omega) hall (by omega)]
      simp only [bind_some']
      rw [treeProof_in (by omega) hall q1 (by omega)]
      have htk : (v2.map hof ++ w2.map hof).take v2.length = v2.map hof := List.take_left' hl
      rw [htk]
      have hp := proofH_facts v2.length (v2.map hof) a (by omega) ha
      simp only [bind_some', brR_true, eqD_h32, decide_true]
      rw [equalHashes_eq _ _ (by omega), treeLen_eq, w_i64 (by omega) (by omega), awake8]
      simp only [bind_some', decide_true, brR_true]
      rw [if_pos (by omega)]

theorem law_MerkleAppendOnly : ∀ x, wfL s_law8_MerkleAppendOnly.ins x → ∃ y, sol_law8_MerkleAppendOnly x = some y ∧ y.1.1 = true :=
  fun ⟨v, w, i, _⟩ ⟨hv, hw, hi, _⟩ => law_MerkleAppendOnly_at v w i (inK_i64.1 hi)

/-! ### Verification -/

theorem both {r l : List Int} {n i : Int} {p : List (List Int)} (hn : n ≤ 9223372036854775807) (hp : p.length ≤ 64) (hf : H32 l) (ha : AllH p) :
    ∃ b, sol_merkle_Verify (r, (n, (i, (l, (p, ()))))) = some ((b, ()), ((), ((), ((), ((), ((), ())))))) ∧ sol_ref8_Verify (r, (n, (i, (l, (p, ()))))) = some ((b, ()), ((), ((), ((), ((), ((), ())))))) :=
  ⟨_, verify_eq hn (by omega) hf ha, rverify_eq hn hp hf ha⟩

set_option maxHeartbeats 4000000 in
theorem law_MerkleVerify_at (v : List Int) (i n : Int) (root leaf : List Int) (proof : List (List Int)) (how at_ : Int) (hi : -9223372036854775808 ≤ i ∧ i ≤ 9223372036854775807) (hn : -9223372036854775808 ≤ n ∧ n ≤ 9223372036854775807)
    (hl : H32 leaf) (hp : AllH proof) (hh : -9223372036854775808 ≤ how ∧ how ≤ 9223372036854775807) (hat : -9223372036854775808 ≤ at_ ∧ at_ ≤ 9223372036854775807) :
    ∃ y, sol_law8_MerkleVerify (v, (i, (n, (root, (leaf, (proof, (how, (at_, ())))))))) = some y ∧ y.1.1 = true := by
  unfold sol_law8_MerkleVerify T_law8_MerkleVerify
  simp only [letR_eq]
  rw [awake8]
  simp only [brR_dec, bind_some']
  by_cases c1 : (List.length v : Int) > 40
  · rw [if_pos c1]; exact ⟨_, rfl, rfl⟩
  rw [if_neg c1]
  by_cases c2 : (List.length v : Int) = 0
  · rw [if_pos c2]; exact ⟨_, rfl, rfl⟩
  rw [if_neg c2]
  by_cases c3 : (List.length proof : Int) > 40
  · rw [if_pos c3]; exact ⟨_, rfl, rfl⟩
  rw [if_neg c3, leaves_eq (by omega)]
  simp only [bind_some']
  have ha := allH_map v
  have hlen : (v.map hof).length = v.length := List.length_map ..
  obtain ⟨b0, v1, v2⟩ := both (r := root) (n := n) (i := i) hn.2 (by omega) hl hp
  rw [v1, v2]
  simp only [bind_some', eqD_bool, decide_true, Bool.not_true, brR_false, brR_and, brR_dec, brR_inR, hlen]
  obtain ⟨r, q1, q2⟩ := modR (n := v.length) hn (by omega) (by omega)
  rw [q2]
  simp only [bind_some']
  obtain ⟨k, q3, q4⟩ := modR (n := r + 1) hi (by omega) (by omega)
  have ew : IntKind.wrap .i64 ((1 : Int) + ((r : Nat) : Int)) = ((r + 1 : Nat) : Int) := by rw [w_i64 (by omega) (by omega)]; omega
  rw [ew, q4]
  simp only [bind_some', Int.toNat_natCast, List.drop_zero, Nat.sub_zero]
  have hpf := proofH_facts (r + 1) ((v.map hof).take (r + 1)) k (by rw [List.length_take]; omega) (ha.take _)
  have hpl : (proofH ((v.map hof).take (r + 1)) k).length ≤ 41 := by
    have := hpf.1
    rw [List.length_take] at this; omega
  rw [if_pos (by omega), if_pos (by omega), rrootOf_eq (by rw [List.length_take]; omega) (ha.take _)]
  have g1 : (0 : Int) ≤ ((k : Nat) : Int) ∧ ((k : Nat) : Int) < ((v.length : Nat) : Int) := by omega
  have g2 : (0 : Int) ≤ ((r + 1 : Nat) : Int) := by omega
  have g3 : ((r + 1 : Nat) : Int) ≤ ((v.length : Nat) : Int) := by omega
  simp only [bind_some', if_pos g1, if_pos g2, if_pos g3]
  rw [rproof_eq (by rw [List.length_take]; omega) (by rw [List.length_take]; omega) (ha.take _)]
  simp only [bind_some']
  obtain ⟨h, z1, z2⟩ := modR (n := 7) hh (by omega) (by omega)
  rw [show (7 : Int) = ((7 : Nat) : Int) from rfl, z2]
  simp only [bind_some']
  have hp2 := hpf.2
  generalize proofH ((v.map hof).take (r + 1)) k = p at *
  generalize rootH ((v.map hof).take (r + 1)) = rt at *
  have hx := ha.at k
  generalize (v.map hof).getD k Z32 = x at *
  have fin : ∀ (r' : List Int) (n' i' : Int) (l' : List Int) (p' : List (List Int)), n' ≤ 9223372036854775807 → p'.length ≤ 64 → H32 l' → AllH p' →
      ∃ y, (Option.bind (sol_merkle_Verify (r', (n', (i', (l', (p', ())))))) fun y_20 => Option.bind (sol_ref8_Verify (r', (n', (i', (l', (p', ())))))) fun y_21 =>
        if y_20.1.1 = y_21.1.1 then (some ((true, ()), ((), ((), ((), ((), ((), ((), ((), ((), ()))))))))) : Option ((Bool × Unit) × (Unit × (Unit × (Unit × (Unit × (Unit × (Unit × (Unit × (Unit × Unit)))))))))) else some ((false, ()), ((), ((), ((), ((), ((), ((), ((), ((), ())))))))))) = some y ∧ y.1.1 = true := by
    intro r' n' i' l' p' h1 h2 h3 h4
    obtain ⟨b, w1, w2⟩ := both (r := r') (n := n') (i := i') h1 h2 h3 h4
    rw [w1, w2]
    simp only [bind_some', if_true]
    exact ⟨_, rfl, rfl⟩
  by_cases t0 : ((h : Nat) : Int) = 0
  · rw [if_pos t0]; exact fin _ _ _ _ _ (by omega) (by omega) hl hp2
  rw [if_neg t0]
  by_cases t1 : ((h : Nat) : Int) = 1
  · rw [if_pos t1]; exact fin _ _ _ _ _ (by omega) (by omega) hx hp2
  rw [if_neg t1]
  by_cases t2 : ((h : Nat) : Int) = 2
  · rw [if_pos t2, brR_roomH (by omega)]
    exact fin _ _ _ _ _ (by omega) (by simp [append_def]; omega) hx (hp2.append (AllH.one hl))
  rw [if_neg t2]
  by_cases t3 : ((h : Nat) : Int) = 3
  · rw [if_pos t3]
    by_cases hpos : ((p.length : Nat) : Int) > 0
    · rw [if_pos hpos, if_pos (by omega)]
      exact fin _ _ _ _ _ (by omega) (by rw [List.length_take, List.length_drop]; omega) hx ((hp2.drop _).take _)
    · rw [if_neg hpos]
      exact fin _ _ _ _ _ (by omega) (by omega) hx hp2
  rw [if_neg t3]
  by_cases t4 : ((h : Nat) : Int) = 4
  · rw [if_pos t4]
    by_cases hpos : ((p.length : Nat) : Int) > 0
    · obtain ⟨j, y1, y2⟩ := modR (n := p.length) hat (by omega) (by omega)
      rw [if_pos hpos, y2]
      simp only [bind_some', Int.toNat_natCast]
      rw [if_pos (by omega)]
      refine fin _ _ _ _ _ (by omega) (by rw [List.length_set]; omega) hx fun y hy => ?_
      rcases List.mem_or_eq_of_mem_set hy with hh | rfl
      · exact hp2 y hh
      · exact hl
    · rw [if_neg hpos]
      exact fin _ _ _ _ _ (by omega) (by omega) hx hp2
  rw [if_neg t4]
  have ew2 : IntKind.wrap .i64 (((v.length : Nat) : Int) + 2) = ((v.length + 2 : Nat) : Int) := by rw [w_i64 (by omega) (by omega)]; omega
  by_cases t5 : ((h : Nat) : Int) = 5
  · obtain ⟨j, y1, y2⟩ := modR (n := v.length + 2) hat (by omega) (by omega)
    rw [if_pos t5, ew2, y2]
    simp only [bind_some']
    rw [w_i64 (by omega) (by omega)]
    exact fin _ _ _ _ _ (by omega) (by omega) hx hp2
  rw [if_neg t5]
  by_cases t6 : ((h : Nat) : Int) = 6
  · obtain ⟨j, y1, y2⟩ := modR (n := v.length + 2) hat (by omega) (by omega)
    rw [if_pos t6, ew2, y2]
    simp only [bind_some']
    exact fin _ _ _ _ _ (by omega) (by omega) hx hp2
  · rw [if_neg t6]
    exact fin _ _ _ _ _ (by omega) (by omega) hx hp2

theorem law_MerkleVerify : ∀ x, wfL s_law8_MerkleVerify.ins x → ∃ y, sol_law8_MerkleVerify x = some y ∧ y.1.1 = true :=
  fun ⟨v, i, n, root, leaf, proof, how, at_, _⟩ ⟨hv, hi, hn, hr, hl, hp, hh, ha, _⟩ => law_MerkleVerify_at v i n root leaf proof how at_ (inK_i64.1 hi) (inK_i64.1 hn) (h32_wf hl) (allH_wf hp) (inK_i64.1 hh) (inK_i64.1 ha)

end Go.Pon
