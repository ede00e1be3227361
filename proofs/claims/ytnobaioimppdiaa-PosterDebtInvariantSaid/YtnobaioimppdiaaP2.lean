/-
  Part of a proof: general lemmas, merged by a program of this work.
-/
import Derived.Test.YtnobaioimppdiaaP1
/-
  Plain lemmas: numbers in four limbs, their bytes, their length in bits.
-/
set_option autoImplicit false
set_option linter.unusedVariables false
namespace Go.Pon
open Go

/-! ### The length in bits -/

def bitlen (n : Nat) : Nat := if n = 0 then 0 else Nat.log2 n + 1

theorem bitlen_zero : bitlen 0 = 0 := rfl

theorem lt_bitlen (n : Nat) : n < 2 ^ bitlen n := by
  unfold bitlen
  by_cases h : n = 0
  · subst h; simp
  · rw [if_neg h]; exact Nat.lt_log2_self

theorem bitlen_le {n b : Nat} : bitlen n ≤ b ↔ n < 2 ^ b := by
  unfold bitlen
  by_cases h : n = 0
  · subst h; simp [Nat.two_pow_pos]
  · rw [if_neg h, Nat.succ_le_iff, Nat.log2_lt h]

theorem bitlen_pos {n : Nat} : 0 < bitlen n ↔ n ≠ 0 := by
  unfold bitlen
  by_cases h : n = 0 <;> simp [h]

/-- The one length that fits. -/
theorem bitlen_eq {n b : Nat} (h1 : n < 2 ^ b) (h2 : ∀ c, c < b → 2 ^ c ≤ n) : bitlen n = b := by
  rcases Nat.lt_trichotomy (bitlen n) b with h | h | h
  · have := h2 _ h
    have := lt_bitlen n
    omega
  · exact h
  · have := bitlen_le.2 h1
    omega

theorem bitlen_div {n k : Nat} (h : 2 ^ k ≤ n) : bitlen n = k + bitlen (n / 2 ^ k) := by
  have hpos : 0 < 2 ^ k := Nat.two_pow_pos k
  have h1 : n / 2 ^ k ≠ 0 := by
    have : 1 ≤ n / 2 ^ k := (Nat.le_div_iff_mul_le hpos).2 (by omega)
    omega
  refine bitlen_eq ?_ fun c hc => ?_
  · have := lt_bitlen (n / 2 ^ k)
    rw [Nat.div_lt_iff_lt_mul hpos, ← Nat.pow_add] at this
    rwa [Nat.add_comm] at this
  · rcases Nat.lt_or_ge c k with hck | hck
    · exact Nat.le_trans (Nat.pow_le_pow_right (by omega) (by omega)) h
    · have h2 : ¬ (n / 2 ^ k) < 2 ^ (c - k) := fun hh => by
        have := bitlen_le.2 hh
        omega
      have h3 : 2 ^ (c - k) ≤ n / 2 ^ k := by omega
      rw [Nat.le_div_iff_mul_le hpos, ← Nat.pow_add] at h3
      rwa [Nat.sub_add_cancel hck] at h3

/-! ### Four limbs -/

def lim (n : Nat) : List Int := [((n % 18446744073709551616 : Nat) : Int), ((n / 18446744073709551616 % 18446744073709551616 : Nat) : Int), ((n / 340282366920938463463374607431768211456 % 18446744073709551616 : Nat) : Int), ((n / 6277101735386680763835789423207666416102355444464034512896 : Nat) : Int)]

/-- The number that four limbs hold. -/
def val4 (l : List Int) : Nat := (l.getD 0 0).toNat + (l.getD 1 0).toNat * 18446744073709551616 + (l.getD 2 0).toNat * 340282366920938463463374607431768211456 + (l.getD 3 0).toNat * 6277101735386680763835789423207666416102355444464034512896

theorem val4_lim {n : Nat} : val4 (lim n) = n := by
  simp only [val4, lim, List.getD_cons_zero, List.getD_cons_succ, Int.toNat_natCast]
  omega

theorem lim_inj {n m : Nat} : lim n = lim m ↔ n = m := ⟨fun h => by rw [← val4_lim (n := n), h, val4_lim], fun h => by rw [h]⟩

theorem len_lim {n : Nat} : (lim n).length = 4 := rfl

theorem list4 {α : Type} {l : List α} (h : l.length = 4) : ∃ a b c d, l = [a, b, c, d] := by
  match l, h with
  | [a, b, c, d], _ => exact ⟨a, b, c, d, rfl⟩

/-- Whatever four limbs hold is a number. -/
theorem u256_wf {l : List Int} (h : (Ty.arr 4 (.int .u64)).wf l) : ∃ n, n < 115792089237316195423570985008687907853269984665640564039457584007913129639936 ∧ l = lim n := by
  obtain ⟨h1, h2⟩ := h
  obtain ⟨a, b, c, d, rfl⟩ := list4 (α := Int) h1
  have ha := inK_u64.1 (h2 a (by simp))
  have hb := inK_u64.1 (h2 b (by simp))
  have hc := inK_u64.1 (h2 c (by simp))
  have hd := inK_u64.1 (h2 d (by simp))
  refine ⟨a.toNat + b.toNat * 18446744073709551616 + c.toNat * 340282366920938463463374607431768211456 + d.toNat * 6277101735386680763835789423207666416102355444464034512896, by omega, ?_⟩
  simp only [lim, List.cons.injEq, and_true]
  refine ⟨?_, ?_, ?_, ?_⟩ <;> omega

theorem lim_small {x : Int} (h1 : 0 ≤ x) (h2 : x ≤ 18446744073709551615) : ([x, 0, 0, 0] : List Int) = lim x.toNat := by
  simp only [lim, List.cons.injEq, and_true]
  refine ⟨?_, ?_, ?_, ?_⟩ <;> omega

theorem lim_zero : lim 0 = [0, 0, 0, 0] := rfl

/-- Limb i. -/
theorem lim_getD {n i : Nat} (hn : n < 115792089237316195423570985008687907853269984665640564039457584007913129639936) (hi : i < 4) : (lim n).getD i 0 = ((n / 18446744073709551616 ^ i % 18446744073709551616 : Nat) : Int) := by
  match i, hi with
  | 0, _ => simp [lim]
  | 1, _ => simp [lim]
  | 2, _ => simp [lim]
  | 3, _ =>
    simp only [lim, List.getD_cons_zero, List.getD_cons_succ]
    have : n / 6277101735386680763835789423207666416102355444464034512896 % 18446744073709551616 = n / 6277101735386680763835789423207666416102355444464034512896 := Nat.mod_eq_of_lt (by omega)
    rw [show (18446744073709551616 : Nat) ^ 3 = 6277101735386680763835789423207666416102355444464034512896 from rfl, this]

/-! ### Bytes -/

/-- k bytes, the greatest first. -/
def beB : Nat → Nat → List Int
  | 0, _ => []
  | k + 1, n => ((n / 256 ^ k % 256 : Nat) : Int) :: beB k n

theorem len_beB : ∀ {k n : Nat}, (beB k n).length = k
  | 0, _ => rfl
  | k + 1, n => by simp [beB, len_beB]

theorem beB_byte : ∀ {k n : Nat}, ∀ x ∈ beB k n, 0 ≤ x ∧ x ≤ 255
  | 0, _, x, h => by simp [beB] at h
  | k + 1, n, x, h => by
    rcases List.mem_cons.1 h with rfl | h
    · have := Nat.mod_lt (n / 256 ^ k) (show 0 < 256 by omega)
      omega
    · exact beB_byte x h

/-- How many bytes count. -/
def bylen (n : Nat) : Nat := (bitlen n + 7) / 8

theorem pow256 (k : Nat) : 256 ^ k = 2 ^ (8 * k) := by rw [show (256 : Nat) = 2 ^ 8 from rfl, ← Nat.pow_mul]

theorem bylen_le {n k : Nat} : bylen n ≤ k ↔ n < 256 ^ k := by
  rw [pow256, ← bitlen_le]; unfold bylen; omega

theorem bylen_256 {n : Nat} (h : n < 115792089237316195423570985008687907853269984665640564039457584007913129639936) : bylen n ≤ 32 := bylen_le.2 h
theorem bylen_64 {n : Nat} (h : n < 18446744073709551616) : bylen n ≤ 8 := bylen_le.2 h

theorem bylen_pos {n : Nat} : 0 < bylen n ↔ n ≠ 0 := by
  have := @bitlen_pos n
  unfold bylen; omega

theorem bylen_zero : bylen 0 = 0 := rfl

/-- The number of bytes. -/
def beV (l : List Int) : Nat := l.foldl (fun v x => v * 256 + x.toNat) 0

theorem beV_append (l : List Int) (x : Int) : beV (l ++ [x]) = beV l * 256 + x.toNat := by simp [beV]
theorem beV_nil : beV [] = 0 := rfl

theorem snoc_ind {α : Type} {motive : List α → Prop} (l : List α) (nil : motive []) (append : ∀ l x, motive l → motive (l ++ [x])) : motive l := by
  have : motive l.reverse.reverse := by
    induction l.reverse with
    | nil => exact nil
    | cons a m ih => rw [List.reverse_cons]; exact append _ _ ih
  simpa using this

theorem beV_lt (l : List Int) : (∀ x ∈ l, 0 ≤ x ∧ x ≤ 255) → beV l < 256 ^ l.length := by
  refine snoc_ind (motive := fun l => (∀ x ∈ l, 0 ≤ x ∧ x ≤ 255) → beV l < 256 ^ l.length) l ?_ ?_
  · intro _; simp [beV]
  · intro l x ih h
    have h1 := ih fun y hy => h y (by simp [hy])
    have h2 := h x (by simp)
    rw [beV_append, List.length_append, List.length_singleton, Nat.pow_succ]
    omega

/-! ### Setting a byte -/

theorem or_bits {x y : Nat} (hx : x < 18446744073709551616) (hy : y < 18446744073709551616) : (((BitVec.ofInt 64 ((x : Nat) : Int) ||| BitVec.ofInt 64 ((y : Nat) : Int)).toNat : Nat) : Int) = ((x ||| y : Nat) : Int) := by
  rw [BitVec.toNat_or, BitVec.ofInt_natCast, BitVec.ofInt_natCast, BitVec.toNat_ofNat, BitVec.toNat_ofNat, Nat.mod_eq_of_lt hx, Nat.mod_eq_of_lt hy]

theorem byte_bits {b i : Nat} (hb : b < 256) (hi : 8 ≤ i) : b.testBit i = false :=
  Nat.testBit_lt_two_pow (Nat.lt_of_lt_of_le hb (by rw [show (256 : Nat) = 2 ^ 8 from rfl]; exact Nat.pow_le_pow_right (by omega) hi))

theorem limb_or {a b j q : Nat} (hb : b < 256) :
    (a * 256 ^ (j + 1) + b * 256 ^ j) / 18446744073709551616 ^ q % 18446744073709551616 =
      (a * 256 ^ (j + 1) / 18446744073709551616 ^ q % 18446744073709551616) ||| (if q = j / 8 then b * 2 ^ (8 * (j % 8)) else 0) := by
  have h1 : a * 256 ^ (j + 1) + b * 256 ^ j = (a * 256 ^ (j + 1)) ||| (b <<< (8 * j)) := by
    rw [Nat.shiftLeft_eq, pow256, pow256, Nat.mul_comm a, Nat.mul_comm b, ← Nat.two_pow_add_eq_or_of_lt]
    rw [show 8 * (j + 1) = 8 * j + 8 by omega, Nat.pow_add, Nat.mul_comm (2 ^ (8 * j)) b, Nat.mul_comm (2 ^ (8 * j)) (2 ^ 8)]
    exact Nat.mul_lt_mul_of_pos_right hb (Nat.two_pow_pos _)
  rw [h1, show (18446744073709551616 : Nat) ^ q = 2 ^ (64 * q) by rw [show (18446744073709551616 : Nat) = 2 ^ 64 from rfl, ← Nat.pow_mul], show (18446744073709551616 : Nat) = 2 ^ 64 from rfl]
  generalize a * 256 ^ (j + 1) = m
  apply Nat.eq_of_testBit_eq
  intro t
  simp only [Nat.testBit_mod_two_pow, Nat.testBit_div_two_pow, Nat.testBit_or, Nat.testBit_shiftLeft]
  by_cases hq : q = j / 8
  · subst hq
    rw [if_pos rfl, ← Nat.shiftLeft_eq, Nat.testBit_shiftLeft]
    by_cases ht : t < 64
    · rw [show t + 64 * (j / 8) - 8 * j = t - 8 * (j % 8) by omega, show decide (t + 64 * (j / 8) ≥ 8 * j) = decide (t ≥ 8 * (j % 8)) by simp; omega]
      simp [ht]
    · rw [byte_bits hb (i := t - 8 * (j % 8)) (by omega)]; simp [ht]
  · rw [if_neg hq, Nat.zero_testBit, Bool.or_false]
    by_cases ht : t < 64
    · by_cases h : 8 * j ≤ t + 64 * q
      · rw [byte_bits hb (i := t + 64 * q - 8 * j) (by omega)]; simp [ht]
      · simp [ht, h]
    · simp [ht]

theorem limb_sum {a b j : Nat} (hb : b < 256) :
    (a * 256 ^ (j + 1) / 18446744073709551616 ^ (j / 8) % 18446744073709551616) ||| (b * 2 ^ (8 * (j % 8))) = a * 256 ^ (j + 1) / 18446744073709551616 ^ (j / 8) % 18446744073709551616 + b * 2 ^ (8 * (j % 8)) := by
  have h1 : a * 256 ^ (j + 1) / 18446744073709551616 ^ (j / 8) % 18446744073709551616 = 2 ^ (8 * (j % 8) + 8) * (a % 2 ^ (56 - 8 * (j % 8))) := by
    rw [show (18446744073709551616 : Nat) ^ (j / 8) = 2 ^ (64 * (j / 8)) by rw [show (18446744073709551616 : Nat) = 2 ^ 64 from rfl, ← Nat.pow_mul], pow256,
      show 8 * (j + 1) = (8 * (j % 8) + 8) + 64 * (j / 8) by omega, Nat.pow_add 2 _ (64 * (j / 8)), ← Nat.mul_assoc, Nat.mul_div_cancel _ (Nat.two_pow_pos _),
      show (18446744073709551616 : Nat) = 2 ^ (8 * (j % 8) + 8) * 2 ^ (56 - 8 * (j % 8)) by rw [← Nat.pow_add, show 8 * (j % 8) + 8 + (56 - 8 * (j % 8)) = 64 by omega], Nat.mul_comm a, Nat.mul_mod_mul_left]
  rw [h1, Nat.two_pow_add_eq_or_of_lt]
  rw [Nat.pow_add, Nat.mul_comm (2 ^ (8 * (j % 8)))]
  exact Nat.mul_lt_mul_of_pos_right hb (Nat.two_pow_pos _)

theorem lim_set {a b j : Nat} (hj : j < 32) (hb : b < 256) (h : a * 256 ^ (j + 1) + b * 256 ^ j < 115792089237316195423570985008687907853269984665640564039457584007913129639936) {y : Int}
    (hy : y = (((a * 256 ^ (j + 1) / 18446744073709551616 ^ (j / 8) % 18446744073709551616) ||| (b * 2 ^ (8 * (j % 8))) : Nat) : Int)) :
    (lim (a * 256 ^ (j + 1))).set (j / 8) y = lim (a * 256 ^ (j + 1) + b * 256 ^ j) := by
  apply List.ext_getElem
  · simp [len_lim]
  · intro q h1 h2
    have hq : q < 4 := h2
    have e : ∀ n, n < 115792089237316195423570985008687907853269984665640564039457584007913129639936 → (hh : q < (lim n).length) → (lim n)[q] = ((n / 18446744073709551616 ^ q % 18446744073709551616 : Nat) : Int) := fun n hn hh => by
      rw [← lim_getD hn hq, List.getD_eq_getElem?_getD, List.getElem?_eq_getElem hh]; rfl
    rw [e _ h, limb_or hb, List.getElem_set]
    by_cases hc : j / 8 = q
    · rw [if_pos hc, if_pos hc.symm, hy, hc]
    · rw [if_neg hc, if_neg (fun h => hc h.symm), e _ (by omega), Nat.or_zero]

end Go.Pon
/-
  What math/bits.Len64 and uint256.BitLen compute.
-/
set_option autoImplicit false
set_option linter.unusedVariables false
set_option linter.unusedSimpArgs false
set_option maxRecDepth 10000
namespace Go.Pon
open Go

def len8 : List Int := [0, 1, 2, 2, 3, 3, 3, 3, 4, 4, 4, 4, 4, 4, 4, 4, 5, 5, 5, 5, 5, 5, 5, 5, 5, 5, 5, 5, 5, 5, 5, 5, 6, 6, 6, 6, 6, 6, 6, 6, 6, 6, 6, 6, 6, 6, 6, 6, 6, 6, 6, 6, 6, 6, 6, 6, 6, 6, 6, 6, 6, 6, 6, 6, 7, 7, 7, 7, 7, 7, 7, 7, 7, 7, 7, 7, 7, 7, 7, 7, 7, 7, 7, 7, 7, 7, 7, 7, 7, 7, 7, 7, 7, 7, 7, 7, 7, 7, 7, 7, 7, 7, 7, 7, 7, 7, 7, 7, 7, 7, 7, 7, 7, 7, 7, 7, 7, 7, 7, 7, 7, 7, 7, 7, 7, 7, 7, 7, 8, 8, 8, 8, 8, 8, 8, 8, 8, 8, 8, 8, 8, 8, 8, 8, 8, 8, 8, 8, 8, 8, 8, 8, 8, 8, 8, 8, 8, 8, 8, 8, 8, 8, 8, 8, 8, 8, 8, 8, 8, 8, 8, 8, 8, 8, 8, 8, 8, 8, 8, 8, 8, 8, 8, 8, 8, 8, 8, 8, 8, 8, 8, 8, 8, 8, 8, 8, 8, 8, 8, 8, 8, 8, 8, 8, 8, 8, 8, 8, 8, 8, 8, 8, 8, 8, 8, 8, 8, 8, 8, 8, 8, 8, 8, 8, 8, 8, 8, 8, 8, 8, 8, 8, 8, 8, 8, 8, 8, 8, 8, 8, 8, 8, 8, 8, 8, 8, 8, 8, 8, 8, 8, 8, 8, 8, 8, 8]

theorem len8_at : ∀ i, i < 256 → len8.getD i 0 = ((bitlen i : Nat) : Int) := by decide

theorem len8_int {x : Int} (h1 : 0 ≤ x) (h2 : x < 256) : len8.getD x.toNat 0 = ((bitlen x.toNat : Nat) : Int) := len8_at _ (by omega)

theorem bitlen_small {n : Nat} (h : n < 256) : bitlen n ≤ 8 := bitlen_le.2 (by omega)

theorem len64_case {x : Int} (k : Nat) (q : Int) (hk : k ≤ 56) (h0 : 0 ≤ x) (h1 : ((2 ^ k : Nat) : Int) ≤ x ∨ k = 0) (hq : q = x / ((2 ^ k : Nat) : Int)) (h2 : q < 256) :
    brR (inR (IntKind.wrap .u8 q) 256) (some ((IntKind.wrap .i64 ((k : Int) + IntKind.wrap .i64 (List.getD len8 (Int.toNat (IntKind.wrap .u8 q)) 0)), ()), ((), ()))) (none : Option ((Int × Unit) × (Unit × Unit))) = some ((((bitlen x.toNat : Nat) : Int), ()), ((), ())) := by
  obtain ⟨n, rfl⟩ := Int.eq_ofNat_of_zero_le h0
  have hq0 : 0 ≤ q := by rw [hq]; exact Int.ediv_nonneg h0 (Int.natCast_nonneg _)
  have hqn : q.toNat = n / 2 ^ k := by rw [hq, ← Int.natCast_ediv, Int.toNat_natCast]
  rw [w_u8 hq0 (by omega), brR_inR, if_pos ⟨hq0, h2⟩, len8_int hq0 h2, hqn]
  have hs : bitlen (n / 2 ^ k) ≤ 8 := bitlen_small (by omega)
  rw [w_i64 (n := ((bitlen (n / 2 ^ k) : Nat) : Int)) (by omega) (by omega), w_i64 (by omega) (by omega), Int.toNat_natCast]
  have : bitlen n = k + bitlen (n / 2 ^ k) := by
    rcases h1 with h1 | rfl
    · exact bitlen_div (by omega)
    · simp
  rw [this]; simp

theorem fdiv_pos {a b : Int} (h : 0 ≤ b) : Int.fdiv a b = a / b := Int.fdiv_eq_ediv_of_nonneg _ h

theorem len64_eq {x : Int} (h0 : 0 ≤ x) (h1 : x ≤ 18446744073709551615) : sol_math_bits_Len64 (x, ()) = some ((((bitlen x.toNat : Nat) : Int), ()), ((), ())) := by
  unfold sol_math_bits_Len64 T_math_bits_Len64
  simp only [letR_eq, brR_dec, ge_iff_le, fdiv_pos (show (0 : Int) ≤ 4294967296 by omega), fdiv_pos (show (0 : Int) ≤ 65536 by omega), fdiv_pos (show (0 : Int) ≤ 256 by omega)]
  repeat' split
  · exact len64_case 56 _ (by omega) h0 (.inl (by omega)) (by omega) (by omega)
  · exact len64_case 48 _ (by omega) h0 (.inl (by omega)) (by omega) (by omega)
  · exact len64_case 40 _ (by omega) h0 (.inl (by omega)) (by omega) (by omega)
  · exact len64_case 32 _ (by omega) h0 (.inl (by omega)) (by omega) (by omega)
  · exact len64_case 24 _ (by omega) h0 (.inl (by omega)) (by omega) (by omega)
  · exact len64_case 16 _ (by omega) h0 (.inl (by omega)) (by omega) (by omega)
  · exact len64_case 8 _ (by omega) h0 (.inl (by omega)) (by omega) (by omega)
  · exact len64_case 0 _ (by omega) h0 (.inr rfl) (by omega) (by omega)

theorem bitlen_256 {n : Nat} (h : n < 115792089237316195423570985008687907853269984665640564039457584007913129639936) : bitlen n ≤ 256 := bitlen_le.2 h

theorem pow64 (k : Nat) : 18446744073709551616 ^ k = 2 ^ (64 * k) := by rw [show (18446744073709551616 : Nat) = 2 ^ 64 from rfl, ← Nat.pow_mul]

theorem bitLen_eq {n : Nat} (hn : n < 115792089237316195423570985008687907853269984665640564039457584007913129639936) : sol_uint256_BitLen (lim n, ()) = some ((((bitlen n : Nat) : Int), ()), ((), ())) := by
  unfold sol_uint256_BitLen T_uint256_BitLen
  refine bigLoop_rule (I := fun x => x.1 = lim n ∧ -1 ≤ x.2.1 ∧ x.2.1 ≤ 3 ∧ n < 18446744073709551616 ^ (x.2.1 + 1).toNat) (m := fun x => (x.2.1 + 1).toNat) (g := fun _ => some ((((bitlen n : Nat) : Int), ()), ((), ()))) ?_ ⟨rfl, by simp only; omega, by simp only; omega, hn⟩ (by simp only [bigN_eq]; omega)
  rintro ⟨a, i, _⟩ again ⟨h1, h2, h3, h4⟩ hag
  simp only at h1 h2 h3 h4 hag ⊢
  subst h1
  simp only [T_uint256_BitLen_loop0, brR_dec, brR_not, brR_inR, ge_iff_le]
  by_cases hi : 0 ≤ i
  · obtain ⟨j, rfl⟩ := Int.eq_ofNat_of_zero_le hi
    have e1 : ((j : Int) + 1).toNat = j + 1 := by omega
    rw [e1] at h4
    rw [if_pos hi, if_pos ⟨hi, by omega⟩, Int.toNat_natCast, lim_getD hn (by omega)]
    have hp : 0 < 18446744073709551616 ^ j := Nat.pow_pos (by omega)
    have hlt : n / 18446744073709551616 ^ j < 18446744073709551616 := by
      rw [Nat.div_lt_iff_lt_mul hp, Nat.mul_comm, ← Nat.pow_succ]; exact h4
    rw [Nat.mod_eq_of_lt hlt]
    by_cases hz : n / 18446744073709551616 ^ j = 0
    · rw [if_pos (by omega), w_i64 (by omega) (by omega)]
      refine hag _ ⟨rfl, by simp only; omega, by simp only; omega, ?_⟩ (by simp only; omega)
      simp only
      rw [show ((j : Int) - 1 + 1).toNat = j by omega]
      exact (Nat.div_eq_zero_iff.1 hz).resolve_left (by omega)
    · have hge : 2 ^ (64 * j) ≤ n := by
        rw [← pow64]
        rcases Nat.lt_or_ge n (18446744073709551616 ^ j) with h | h
        · exact absurd (Nat.div_eq_of_lt h) hz
        · exact h
      have hb := bitlen_div hge
      have := bitlen_256 hn
      rw [← pow64] at hb
      generalize n / 18446744073709551616 ^ j = q at *
      rw [if_neg (by omega), if_pos ⟨hi, by omega⟩, len64_eq (by omega) (by omega)]
      simp only [bind_some']
      rw [Int.toNat_natCast, w_i64 (n := 64 * (j : Int)) (by omega) (by omega), w_i64 (by omega) (by omega), hb]
      simp
  · have hz : i = -1 := by omega
    subst hz
    have : n = 0 := by simpa using h4
    subst this
    simp [bitlen_zero]

theorem fromUint64_eq {x : Int} (h0 : 0 ≤ x) (h1 : x ≤ 18446744073709551615) : sol_uint256_FromUint64 (x, ()) = some ((lim x.toNat, ()), ((), ())) := by
  unfold sol_uint256_FromUint64 T_uint256_FromUint64
  rw [lim_small h0 h1]

end Go.Pon
/-
  What slices.Concat, slices.Grow and slices.Clone of bytes compute.
-/
set_option autoImplicit false
set_option linter.unusedVariables false
set_option linter.unusedSimpArgs false
namespace Go.Pon
open Go

theorem u8_size : (Ty.int IntKind.u8).size = 1 := rfl

theorem brR_room8 {α : Type} {n : Nat} (h : n ≤ 1099511627776) (a b : Option α) : brR (roomy n (.int .u8)) a b = a := by
  rw [brR_roomy, u8_size, if_pos ⟨by omega, by omega⟩]

theorem grow_eq {n : Int} (h0 : 0 ≤ n) (h1 : n ≤ 1099511627776) : sol_slices_Grow_byte_byte ((), (n, ())) = some (([], ()), ((), ((), ()))) := by
  unfold sol_slices_Grow_byte_byte T_slices_Grow_byte_byte
  simp only [letR_eq, brR_dec, brR_and, Int.sub_zero]
  rw [if_neg (by omega), w_i64 (n := n) (by omega) (by omega)]
  split
  · rw [brR_room8 (by omega), brR_true, if_pos (by omega)]; rfl
  · rfl

theorem take_succ_flatten {ls : List (List Int)} {i : Nat} (h : i < ls.length) : (ls.take (i + 1)).flatten = (ls.take i).flatten ++ ls.getD i [] := by
  rw [List.take_succ_eq_append_getElem h, List.flatten_append, List.getD_eq_getElem?_getD, List.getElem?_eq_getElem h]; simp

theorem take_flatten_le (ls : List (List Int)) (i : Nat) : (ls.take i).flatten.length ≤ ls.flatten.length := by
  have : (ls.take i ++ ls.drop i).flatten = ls.flatten := by rw [List.take_append_drop]
  rw [← this, List.flatten_append, List.length_append]; omega

theorem concat_loop {ls : List (List Int)} (h : ls.flatten.length ≤ 1099511627776) (hn : ls.length ≤ 1099511627776) :
    bigLoop _ _ (fun again x => T_slices_Concat_byte_byte_loop1 again x.1 x.2.1 x.2.2.1 x.2.2.2.1) (([] : List Int), (ls, (((ls.length : Nat) : Int), ((0 : Int), ())))) = some ((ls.flatten, ()), ((), ())) := by
  refine bigLoop_rule (I := fun x => x.2.1 = ls ∧ x.2.2.1 = ((ls.length : Nat) : Int) ∧ (0 : Int) ≤ x.2.2.2.1 ∧ x.2.2.2.1 ≤ ((ls.length : Nat) : Int) ∧ x.1 = (ls.take x.2.2.2.1.toNat).flatten) (m := fun x => ((ls.length : Int) - x.2.2.2.1).toNat) (g := fun _ => some ((ls.flatten, ()), ((), ()))) ?_ ⟨rfl, rfl, by simp only; omega, by simp only; omega, rfl⟩ (by simp only [bigN_eq]; omega)
  rintro ⟨new, l, n, i, _⟩ again ⟨h1, h2, h3, h4, h5⟩ hag
  simp only at h1 h2 h3 h4 h5 hag ⊢
  subst h1 h2 h5
  obtain ⟨j, rfl⟩ := Int.eq_ofNat_of_zero_le h3
  simp only [T_slices_Concat_byte_byte_loop1, brR_dec, brR_inR, Int.toNat_natCast, append_def]
  by_cases hi : j < l.length
  · have e := take_succ_flatten hi
    have hle := take_flatten_le l (j + 1)
    rw [e] at hle
    rw [if_pos (by omega), if_pos ⟨h3, by omega⟩, brR_room8 (by rw [← List.length_append]; omega), ← e, w_i64 (by omega) (by omega)]
    exact hag _ ⟨rfl, rfl, by simp only; omega, by simp only; omega, rfl⟩ (by simp only; omega)
  · rw [if_neg (by omega), List.take_of_length_le (by omega)]

theorem concat_eq {ls : List (List Int)} (h : ls.flatten.length ≤ 1099511627776) (hn : ls.length ≤ 1099511627776) : sol_slices_Concat_byte_byte (ls, ()) = some ((ls.flatten, ()), ((), ())) := by
  unfold sol_slices_Concat_byte_byte T_slices_Concat_byte_byte
  refine bigLoop_rule (I := fun x => x.1 = ls ∧ x.2.2.1 = ls ∧ x.2.2.2.1 = ((ls.length : Nat) : Int) ∧ (0 : Int) ≤ x.2.2.2.2.1 ∧ x.2.2.2.2.1 ≤ ((ls.length : Nat) : Int) ∧ x.2.1 = (((ls.take x.2.2.2.2.1.toNat).flatten.length : Nat) : Int)) (m := fun x => ((ls.length : Int) - x.2.2.2.2.1).toNat) (g := fun _ => some ((ls.flatten, ()), ((), ()))) ?_
    ⟨rfl, rfl, rfl, by simp only; omega, by simp only; omega, rfl⟩ (by simp only [bigN_eq]; omega)
  rintro ⟨l, size, l', n, i, _⟩ again ⟨h1, h2, h3, h4, h5, h6⟩ hag
  simp only at h1 h2 h3 h4 h5 h6 hag ⊢
  subst h2 h1 h3 h6
  obtain ⟨j, rfl⟩ := Int.eq_ofNat_of_zero_le h4
  simp only [T_slices_Concat_byte_byte_loop0, letR_eq, brR_dec, brR_inR, Int.toNat_natCast]
  by_cases hi : j < l.length
  · have e := take_succ_flatten hi
    have hle := take_flatten_le l (j + 1)
    rw [e, List.length_append] at hle
    rw [if_pos (by omega), if_pos ⟨h4, by omega⟩, w_i64 (by omega) (by omega), if_neg (by omega), w_i64 (by omega) (by omega)]
    refine hag _ ⟨rfl, rfl, rfl, by simp only; omega, by simp only; omega, ?_⟩ (by simp only; omega)
    simp only
    rw [show ((j : Int) + 1).toNat = j + 1 by omega, e, List.length_append]; omega
  · have hle := take_flatten_le l j
    rw [if_neg (by omega), grow_eq (by omega) (by omega)]
    simp only [bind_some']
    exact concat_loop h hn

theorem clone_eq {l : List Int} (h : l.length ≤ 1099511627776) : sol_slices_Clone_byte_byte (l, ()) = some ((l, ()), ((), ())) := by
  unfold sol_slices_Clone_byte_byte T_slices_Clone_byte_byte
  simp only
  rw [brR_room8 (by omega), brR_dec]
  split
  · rename_i h0
    have : l = [] := List.length_eq_zero_iff.1 h0
    subst this
    exact bothR_eq rfl rfl
  · rfl

end Go.Pon
/- What the functions of package int256 compute (printed by a program of this work).
-/
set_option autoImplicit false
set_option linter.unusedVariables false
set_option maxRecDepth 100000
namespace Go.Pon
open Go

/-- pontage/int256.Valid -/
abbrev s_int256_Valid : Sig := ⟨[(.ro true (.pair .bool (.pair (.arr 4 (.int .u64)) .unit)))], [(.ro true .bool)]⟩
abbrev F_int256_Valid := ((Bool × ((List Int) × Unit)) × Unit) → Option ((Bool × Unit) × (Unit × Unit))

noncomputable def T_int256_Valid (L : LoopD) (a_ : (Bool × ((List Int) × Unit))) : Option ((Bool × Unit) × (Unit × Unit)) := (brR (!a_.1) (some ((true, ()), ((), ()))) (some (((!(eqD (Ty.arr 4 (Ty.int IntKind.u64)) a_.2.1 [(0 : Int), (0 : Int), (0 : Int), (0 : Int)])), ()), ((), ()))))

noncomputable def sol_int256_Valid : F_int256_Valid := fun x => T_int256_Valid bigLoop x.1

end Go.Pon
/- What the functions of package wire compute (printed by a program of this work).
-/
set_option autoImplicit false
set_option linter.unusedVariables false
set_option maxRecDepth 100000
namespace Go.Pon
open Go

/-- pontage/wire.encode -/
abbrev s_wire_encode : Sig := ⟨[(.ro true (.arr 4 (.int .u64)))], [(.own true (.int .u8))]⟩
abbrev F_wire_encode := ((List Int) × Unit) → Option (((List Int) × Unit) × (Unit × Unit))

noncomputable def T_wire_encode_loop0 (again_2 : ((List Int) × ((List Int) × (Int × Unit))) → Option (((List Int) × Unit) × (Unit × Unit))) (n_3 : (List Int)) (out_4 : (List Int)) (i_5 : Int) : Option (((List Int) × Unit) × (Unit × Unit)) := (letR (IntKind.wrap (IntKind.i64) ((8 : Int) * (Int.tmod i_5 (8 : Int)))) fun (v_6 : Int) => (brR (decide (i_5 ≥ (0 : Int))) (brR (inR (IntKind.wrap (IntKind.i64) (Int.tdiv i_5 (8 : Int))) (4 : Nat)) (brR (decide ((0 : Int) ≤ v_6)) (brR (roomy ((List.length out_4) + (1 : Nat)) (Ty.int IntKind.u8)) (again_2 (n_3, ((List.append out_4 [(IntKind.wrap (IntKind.u8) (Int.fdiv (List.getD n_3 (Int.toNat (IntKind.wrap (IntKind.i64) (Int.tdiv i_5 (8 : Int)))) (0 : Int)) ((2 : Int) ^ (min (Int.toNat v_6) (64 : Nat)))))]), ((IntKind.wrap (IntKind.i64) (i_5 - (1 : Int))), ())))) none) none) none) (some ((out_4, ()), ((), ())))))

noncomputable def T_wire_encode (L : LoopD) (c_uint256_BitLen : F_uint256_BitLen) (n_ : (List Int)) : Option (((List Int) × Unit) × (Unit × Unit)) := (Option.bind (c_uint256_BitLen (n_, ())) (fun (y_0 : ((Int × Unit) × (Unit × Unit))) => (letR (IntKind.wrap (IntKind.i64) (Int.tdiv (IntKind.wrap (IntKind.i64) (y_0.1.1 + (7 : Int))) (8 : Int))) fun (v_1 : Int) => (L _ _ (fun again x => T_wire_encode_loop0 again x.1 x.2.1 x.2.2.1) (n_, ([(IntKind.wrap (IntKind.u8) v_1)], ((IntKind.wrap (IntKind.i64) (v_1 - (1 : Int))), ())))))))

noncomputable def sol_wire_encode : F_wire_encode := fun x => T_wire_encode bigLoop sol_uint256_BitLen x.1

/-- pontage/wire.AppendUint256 -/
abbrev s_wire_AppendUint256 : Sig := ⟨[(.ro false (.slice (.int .u8))), (.ro true (.arr 4 (.int .u64)))], [(.own true (.int .u8))]⟩
abbrev F_wire_AppendUint256 := ((List Int) × ((List Int) × Unit)) → Option (((List Int) × Unit) × (Unit × (Unit × Unit)))

noncomputable def T_wire_AppendUint256 (L : LoopD) (c_wire_encode : F_wire_encode) (c_slices_Concat_byte_byte : F_slices_Concat_byte_byte) (b_ : (List Int)) (n_ : (List Int)) : Option (((List Int) × Unit) × (Unit × (Unit × Unit))) := (Option.bind (c_wire_encode (n_, ())) (fun (y_0 : (((List Int) × Unit) × (Unit × Unit))) => (Option.bind (c_slices_Concat_byte_byte ([b_, y_0.1.1], ())) (fun (y_1 : (((List Int) × Unit) × (Unit × Unit))) => (some ((y_1.1.1, ()), ((), ((), ()))))))))

noncomputable def sol_wire_AppendUint256 : F_wire_AppendUint256 := fun x => T_wire_AppendUint256 bigLoop sol_wire_encode sol_slices_Concat_byte_byte x.1 x.2.1

/-- pontage/wire.AppendUint64 -/
abbrev s_wire_AppendUint64 : Sig := ⟨[(.ro false (.slice (.int .u8))), (.ro true (.int .u64))], [(.own true (.int .u8))]⟩
abbrev F_wire_AppendUint64 := ((List Int) × (Int × Unit)) → Option (((List Int) × Unit) × (Unit × (Unit × Unit)))

noncomputable def T_wire_AppendUint64 (L : LoopD) (c_uint256_FromUint64 : F_uint256_FromUint64) (c_wire_AppendUint256 : F_wire_AppendUint256) (b_ : (List Int)) (n_ : Int) : Option (((List Int) × Unit) × (Unit × (Unit × Unit))) := (Option.bind (c_uint256_FromUint64 (n_, ())) (fun (y_0 : (((List Int) × Unit) × (Unit × Unit))) => (Option.bind (c_wire_AppendUint256 (b_, (y_0.1.1, ()))) (fun (y_1 : (((List Int) × Unit) × (Unit × (Unit × Unit)))) => (some ((y_1.1.1, ()), ((), ((), ()))))))))

noncomputable def sol_wire_AppendUint64 : F_wire_AppendUint64 := fun x => T_wire_AppendUint64 bigLoop sol_uint256_FromUint64 sol_wire_AppendUint256 x.1 x.2.1

/-- pontage/wire.AppendBytes -/
abbrev s_wire_AppendBytes : Sig := ⟨[(.ro false (.slice (.int .u8))), (.ro false (.slice (.int .u8)))], [(.own true (.int .u8))]⟩
abbrev F_wire_AppendBytes := ((List Int) × ((List Int) × Unit)) → Option (((List Int) × Unit) × (Unit × (Unit × Unit)))

noncomputable def T_wire_AppendBytes (L : LoopD) (c_uint256_FromUint64 : F_uint256_FromUint64) (c_wire_encode : F_wire_encode) (c_slices_Concat_byte_byte : F_slices_Concat_byte_byte) (b_ : (List Int)) (x_ : (List Int)) : Option (((List Int) × Unit) × (Unit × (Unit × Unit))) := (Option.bind (c_uint256_FromUint64 ((IntKind.wrap (IntKind.u64) (((List.length x_) : Nat) : Int)), ())) (fun (y_0 : (((List Int) × Unit) × (Unit × Unit))) => (Option.bind (c_wire_encode (y_0.1.1, ())) (fun (y_1 : (((List Int) × Unit) × (Unit × Unit))) => (Option.bind (c_slices_Concat_byte_byte ([b_, y_1.1.1, x_], ())) (fun (y_2 : (((List Int) × Unit) × (Unit × Unit))) => (some ((y_2.1.1, ()), ((), ((), ()))))))))))

noncomputable def sol_wire_AppendBytes : F_wire_AppendBytes := fun x => T_wire_AppendBytes bigLoop sol_uint256_FromUint64 sol_wire_encode sol_slices_Concat_byte_byte x.1 x.2.1

/-- pontage/wire.readUint -/
abbrev s_wire_readUint : Sig := ⟨[(.ro false (.slice (.int .u8))), (.ro true (.int .i64)), (.ro true (.int .i64))], [(.ro true (.arr 4 (.int .u64))), (.ro true (.int .i64)), (.ro true (.int .i64))]⟩
abbrev F_wire_readUint := ((List Int) × (Int × (Int × Unit))) → Option (((List Int) × (Int × (Int × Unit))) × (Unit × (Unit × (Unit × Unit))))

noncomputable def T_wire_readUint_loop0 (again_6 : (Int × ((List Int) × ((List Int) × (Int × ((List Int) × (Int × (Int × Unit))))))) → Option (((List Int) × (Int × (Int × Unit))) × (Unit × (Unit × (Unit × Unit))))) (at_7 : Int) (t6_8 : (List Int)) (rest_9 : (List Int)) (k_10 : Int) (n_11 : (List Int)) (t56_12 : Int) (t57_13 : Int) : Option (((List Int) × (Int × (Int × Unit))) × (Unit × (Unit × (Unit × Unit)))) := (letR (IntKind.wrap (IntKind.i64) ((IntKind.wrap (IntKind.i64) (k_10 - (1 : Int))) - t57_13)) fun (v_14 : Int) => (letR (IntKind.wrap (IntKind.i64) (Int.tdiv v_14 (8 : Int))) fun (v_15 : Int) => (letR (IntKind.wrap (IntKind.i64) ((8 : Int) * (Int.tmod v_14 (8 : Int)))) fun (v_16 : Int) => (brR (decide (t57_13 < t56_12)) (brR (inR v_15 (4 : Nat)) (brR (inR t57_13 (List.length rest_9)) (brR (decide ((0 : Int) ≤ v_16)) (brR (inR v_15 (4 : Nat)) (again_6 (at_7, (t6_8, (rest_9, (k_10, ((List.set n_11 (Int.toNat v_15) (IntKind.wrap (IntKind.u64) (((BitVec.toNat ((BitVec.ofInt (64 : Nat) (List.getD n_11 (Int.toNat v_15) (0 : Int))) ||| (BitVec.ofInt (64 : Nat) (IntKind.wrap (IntKind.u64) ((IntKind.wrap (IntKind.u64) (List.getD rest_9 (Int.toNat t57_13) (0 : Int))) * ((2 : Int) ^ (min (Int.toNat v_16) (64 : Nat)))))))) : Nat) : Int))), (t56_12, ((IntKind.wrap (IntKind.i64) (t57_13 + (1 : Int))), ())))))))) none) none) none) none) (some ((n_11, ((IntKind.wrap (IntKind.i64) ((IntKind.wrap (IntKind.i64) (at_7 + (1 : Int))) + k_10)), ((0 : Int), ()))), ((), ((), ((), ())))))))))

noncomputable def T_wire_readUint (L : LoopD) (b_ : (List Int)) (at_ : Int) (most_ : Int) : Option (((List Int) × (Int × (Int × Unit))) × (Unit × (Unit × (Unit × Unit)))) := (letR (List.take ((List.length b_) - (Int.toNat at_)) (List.drop (Int.toNat at_) b_)) fun (v_0 : (List Int)) => (letR (List.length v_0) fun (v_1 : Nat) => (letR ((v_1 : Nat) : Int) fun (v_2 : Int) => (letR (IntKind.wrap (IntKind.i64) (List.getD v_0 (0 : Nat) (0 : Int))) fun (v_3 : Int) => (letR (List.take (v_1 - (1 : Nat)) (List.drop (1 : Nat) v_0)) fun (v_4 : (List Int)) => (letR (List.length v_4) fun (v_5 : Nat) => (brR (decide (at_ < (0 : Int))) (some (([(0 : Int), (0 : Int), (0 : Int), (0 : Int)], ((0 : Int), ((2 : Int), ()))), ((), ((), ((), ()))))) (brR (decide (at_ > (((List.length b_) : Nat) : Int))) (some (([(0 : Int), (0 : Int), (0 : Int), (0 : Int)], ((0 : Int), ((2 : Int), ()))), ((), ((), ((), ()))))) (brR ((decide ((0 : Int) ≤ at_)) && (decide (at_ ≤ (((List.length b_) : Nat) : Int)))) (brR (decide (v_2 = (0 : Int))) (some (([(0 : Int), (0 : Int), (0 : Int), (0 : Int)], ((0 : Int), ((3 : Int), ()))), ((), ((), ((), ()))))) (brR (inR (0 : Int) v_1) (brR (decide ((1 : Int) ≤ v_2)) (brR (decide (v_3 > most_)) (some (([(0 : Int), (0 : Int), (0 : Int), (0 : Int)], ((0 : Int), ((3 : Int), ()))), ((), ((), ((), ()))))) (brR (decide (v_3 > ((v_5 : Nat) : Int))) (some (([(0 : Int), (0 : Int), (0 : Int), (0 : Int)], ((0 : Int), ((3 : Int), ()))), ((), ((), ((), ()))))) (brR (decide (v_3 > (0 : Int))) (brR (inR (0 : Int) v_5) (brR (decide ((List.getD v_4 (0 : Nat) (0 : Int)) = (0 : Int))) (some (([(0 : Int), (0 : Int), (0 : Int), (0 : Int)], ((0 : Int), ((3 : Int), ()))), ((), ((), ((), ()))))) (L _ _ (fun again x => T_wire_readUint_loop0 again x.1 x.2.1 x.2.2.1 x.2.2.2.1 x.2.2.2.2.1 x.2.2.2.2.2.1 x.2.2.2.2.2.2.1) (at_, ([(0 : Int), (0 : Int), (0 : Int), (0 : Int)], (v_4, (v_3, ([(0 : Int), (0 : Int), (0 : Int), (0 : Int)], (v_3, ((0 : Int), ()))))))))) none) (L _ _ (fun again x => T_wire_readUint_loop0 again x.1 x.2.1 x.2.2.1 x.2.2.2.1 x.2.2.2.2.1 x.2.2.2.2.2.1 x.2.2.2.2.2.2.1) (at_, ([(0 : Int), (0 : Int), (0 : Int), (0 : Int)], (v_4, (v_3, ([(0 : Int), (0 : Int), (0 : Int), (0 : Int)], (v_3, ((0 : Int), ()))))))))))) none) none)) none)))))))))

noncomputable def sol_wire_readUint : F_wire_readUint := fun x => T_wire_readUint bigLoop x.1 x.2.1 x.2.2.1

/-- pontage/wire.ReadUint64 -/
abbrev s_wire_ReadUint64 : Sig := ⟨[(.ro false (.slice (.int .u8))), (.ro true (.int .i64))], [(.ro true (.int .u64)), (.ro true (.int .i64)), (.ro true (.int .i64))]⟩
abbrev F_wire_ReadUint64 := ((List Int) × (Int × Unit)) → Option ((Int × (Int × (Int × Unit))) × (Unit × (Unit × Unit)))

noncomputable def T_wire_ReadUint64 (L : LoopD) (c_wire_readUint : F_wire_readUint) (b_ : (List Int)) (at_ : Int) : Option ((Int × (Int × (Int × Unit))) × (Unit × (Unit × Unit))) := (Option.bind (c_wire_readUint (b_, (at_, ((8 : Int), ())))) (fun (y_0 : (((List Int) × (Int × (Int × Unit))) × (Unit × (Unit × (Unit × Unit))))) => (some (((List.getD y_0.1.1 (0 : Nat) (0 : Int)), (y_0.1.2.1, (y_0.1.2.2.1, ()))), ((), ((), ()))))))

noncomputable def sol_wire_ReadUint64 : F_wire_ReadUint64 := fun x => T_wire_ReadUint64 bigLoop sol_wire_readUint x.1 x.2.1

/-- pontage/wire.ReadUint256 -/
abbrev s_wire_ReadUint256 : Sig := ⟨[(.ro false (.slice (.int .u8))), (.ro true (.int .i64))], [(.ro true (.arr 4 (.int .u64))), (.ro true (.int .i64)), (.ro true (.int .i64))]⟩
abbrev F_wire_ReadUint256 := ((List Int) × (Int × Unit)) → Option (((List Int) × (Int × (Int × Unit))) × (Unit × (Unit × Unit)))

noncomputable def T_wire_ReadUint256 (L : LoopD) (c_wire_readUint : F_wire_readUint) (b_ : (List Int)) (at_ : Int) : Option (((List Int) × (Int × (Int × Unit))) × (Unit × (Unit × Unit))) := (Option.bind (c_wire_readUint (b_, (at_, ((32 : Int), ())))) (fun (y_0 : (((List Int) × (Int × (Int × Unit))) × (Unit × (Unit × (Unit × Unit))))) => (some ((y_0.1.1, (y_0.1.2.1, (y_0.1.2.2.1, ()))), ((), ((), ()))))))

noncomputable def sol_wire_ReadUint256 : F_wire_ReadUint256 := fun x => T_wire_ReadUint256 bigLoop sol_wire_readUint x.1 x.2.1

/-- pontage/wire.ReadBytes -/
abbrev s_wire_ReadBytes : Sig := ⟨[(.ro false (.slice (.int .u8))), (.ro true (.int .i64))], [(.own true (.int .u8)), (.ro true (.int .i64)), (.ro true (.int .i64))]⟩
abbrev F_wire_ReadBytes := ((List Int) × (Int × Unit)) → Option (((List Int) × (Int × (Int × Unit))) × (Unit × (Unit × Unit)))

noncomputable def T_wire_ReadBytes (L : LoopD) (c_wire_ReadUint64 : F_wire_ReadUint64) (c_slices_Clone_byte_byte : F_slices_Clone_byte_byte) (b_ : (List Int)) (at_ : Int) : Option (((List Int) × (Int × (Int × Unit))) × (Unit × (Unit × Unit))) := (Option.bind (c_wire_ReadUint64 (b_, (at_, ()))) (fun (y_0 : ((Int × (Int × (Int × Unit))) × (Unit × (Unit × Unit)))) => (letR (IntKind.wrap (IntKind.i64) (y_0.1.2.1 + (IntKind.wrap (IntKind.i64) y_0.1.1))) fun (v_1 : Int) => (brR (!(decide (y_0.1.2.2.1 = (0 : Int)))) (some ((([] : List Int), ((0 : Int), (y_0.1.2.2.1, ()))), ((), ((), ())))) (brR (decide (y_0.1.1 > (IntKind.wrap (IntKind.u64) (IntKind.wrap (IntKind.i64) ((((List.length b_) : Nat) : Int) - y_0.1.2.1))))) (some ((([] : List Int), ((0 : Int), ((3 : Int), ()))), ((), ((), ())))) (brR (((decide ((0 : Int) ≤ y_0.1.2.1)) && (decide (y_0.1.2.1 ≤ v_1))) && (decide (v_1 ≤ (((List.length b_) : Nat) : Int)))) (Option.bind (c_slices_Clone_byte_byte ((List.take ((Int.toNat v_1) - (Int.toNat y_0.1.2.1)) (List.drop (Int.toNat y_0.1.2.1) b_)), ())) (fun (y_2 : (((List Int) × Unit) × (Unit × Unit))) => (some ((y_2.1.1, (v_1, ((0 : Int), ()))), ((), ((), ())))))) none))))))

noncomputable def sol_wire_ReadBytes : F_wire_ReadBytes := fun x => T_wire_ReadBytes bigLoop sol_wire_ReadUint64 sol_slices_Clone_byte_byte x.1 x.2.1

/-- pontage/wire.AppendInt256 -/
abbrev s_wire_AppendInt256 : Sig := ⟨[(.ro false (.slice (.int .u8))), (.ro true (.pair .bool (.pair (.arr 4 (.int .u64)) .unit)))], [(.own true (.int .u8))]⟩
abbrev F_wire_AppendInt256 := ((List Int) × ((Bool × ((List Int) × Unit)) × Unit)) → Option (((List Int) × Unit) × (Unit × (Unit × Unit)))

noncomputable def T_wire_AppendInt256 (L : LoopD) (c_int256_Valid : F_int256_Valid) (c_slices_Clone_byte_byte : F_slices_Clone_byte_byte) (c_wire_encode : F_wire_encode) (c_slices_Concat_byte_byte : F_slices_Concat_byte_byte) (b_ : (List Int)) (a_ : (Bool × ((List Int) × Unit))) : Option (((List Int) × Unit) × (Unit × (Unit × Unit))) := (Option.bind (c_int256_Valid (a_, ())) (fun (y_0 : ((Bool × Unit) × (Unit × Unit))) => (brR (!y_0.1.1) (Option.bind (c_slices_Clone_byte_byte (b_, ())) (fun (y_1 : (((List Int) × Unit) × (Unit × Unit))) => (some ((y_1.1.1, ()), ((), ((), ())))))) (brR a_.1 (Option.bind (c_wire_encode (a_.2.1, ())) (fun (y_2 : (((List Int) × Unit) × (Unit × Unit))) => (Option.bind (c_slices_Concat_byte_byte ([b_, [(1 : Int)], y_2.1.1], ())) (fun (y_3 : (((List Int) × Unit) × (Unit × Unit))) => (some ((y_3.1.1, ()), ((), ((), ())))))))) (Option.bind (c_wire_encode (a_.2.1, ())) (fun (y_4 : (((List Int) × Unit) × (Unit × Unit))) => (Option.bind (c_slices_Concat_byte_byte ([b_, [(0 : Int)], y_4.1.1], ())) (fun (y_5 : (((List Int) × Unit) × (Unit × Unit))) => (some ((y_5.1.1, ()), ((), ((), ()))))))))))))

noncomputable def sol_wire_AppendInt256 : F_wire_AppendInt256 := fun x => T_wire_AppendInt256 bigLoop sol_int256_Valid sol_slices_Clone_byte_byte sol_wire_encode sol_slices_Concat_byte_byte x.1 x.2.1

/-- pontage/wire.ReadInt256 -/
abbrev s_wire_ReadInt256 : Sig := ⟨[(.ro false (.slice (.int .u8))), (.ro true (.int .i64))], [(.ro true (.pair .bool (.pair (.arr 4 (.int .u64)) .unit))), (.ro true (.int .i64)), (.ro true (.int .i64))]⟩
abbrev F_wire_ReadInt256 := ((List Int) × (Int × Unit)) → Option (((Bool × ((List Int) × Unit)) × (Int × (Int × Unit))) × (Unit × (Unit × Unit)))

noncomputable def T_wire_ReadInt256 (L : LoopD) (c_wire_ReadUint256 : F_wire_ReadUint256) (c_int256_Valid : F_int256_Valid) (b_ : (List Int)) (at_ : Int) : Option (((Bool × ((List Int) × Unit)) × (Int × (Int × Unit))) × (Unit × (Unit × Unit))) := (brR (decide (at_ < (0 : Int))) (some (((false, ([(0 : Int), (0 : Int), (0 : Int), (0 : Int)], ())), ((0 : Int), ((2 : Int), ()))), ((), ((), ())))) (brR (decide (at_ > (((List.length b_) : Nat) : Int))) (some (((false, ([(0 : Int), (0 : Int), (0 : Int), (0 : Int)], ())), ((0 : Int), ((2 : Int), ()))), ((), ((), ())))) (brR (decide (at_ = (((List.length b_) : Nat) : Int))) (some (((false, ([(0 : Int), (0 : Int), (0 : Int), (0 : Int)], ())), ((0 : Int), ((3 : Int), ()))), ((), ((), ())))) (brR (inR at_ (List.length b_)) (brR (decide ((List.getD b_ (Int.toNat at_) (0 : Int)) > (1 : Int))) (some (((false, ([(0 : Int), (0 : Int), (0 : Int), (0 : Int)], ())), ((0 : Int), ((3 : Int), ()))), ((), ((), ())))) (Option.bind (c_wire_ReadUint256 (b_, ((IntKind.wrap (IntKind.i64) (at_ + (1 : Int))), ()))) (fun (y_0 : (((List Int) × (Int × (Int × Unit))) × (Unit × (Unit × Unit)))) => (brR (inR at_ (List.length b_)) (brR (!(decide (y_0.1.2.2.1 = (0 : Int)))) (some (((false, ([(0 : Int), (0 : Int), (0 : Int), (0 : Int)], ())), ((0 : Int), ((3 : Int), ()))), ((), ((), ())))) (Option.bind (c_int256_Valid (((decide ((List.getD b_ (Int.toNat at_) (0 : Int)) = (1 : Int))), (y_0.1.1, ())), ())) (fun (y_1 : ((Bool × Unit) × (Unit × Unit))) => (brR (!y_1.1.1) (some (((false, ([(0 : Int), (0 : Int), (0 : Int), (0 : Int)], ())), ((0 : Int), ((3 : Int), ()))), ((), ((), ())))) (some ((((decide ((List.getD b_ (Int.toNat at_) (0 : Int)) = (1 : Int))), (y_0.1.1, ())), (y_0.1.2.1, ((0 : Int), ()))), ((), ((), ())))))))) none)))) none))))

noncomputable def sol_wire_ReadInt256 : F_wire_ReadInt256 := fun x => T_wire_ReadInt256 bigLoop sol_wire_ReadUint256 sol_int256_Valid x.1 x.2.1

end Go.Pon
/-
  What package wire computes.
-/
set_option autoImplicit false
set_option linter.unusedVariables false
set_option linter.unusedSimpArgs false
namespace Go.Pon
open Go

theorem limb_byte (n j : Nat) : (n / 18446744073709551616 ^ (j / 8) % 18446744073709551616) / 2 ^ (8 * (j % 8)) % 256 = n / 256 ^ j % 256 := by
  rw [pow64, pow256, show (18446744073709551616 : Nat) = 2 ^ 64 from rfl, show (256 : Nat) = 2 ^ 8 from rfl]
  apply Nat.eq_of_testBit_eq
  intro k
  simp only [Nat.testBit_mod_two_pow, Nat.testBit_div_two_pow]
  by_cases hk : k < 8
  · rw [show decide (k + 8 * (j % 8) < 64) = true by simp; omega, show k + 8 * (j % 8) + 64 * (j / 8) = k + 8 * j by omega]; simp
  · simp [hk]

/-- Byte j of a number, as both programs take it out of its limbs. -/
theorem byte_out {n j : Nat} (hn : n < 115792089237316195423570985008687907853269984665640564039457584007913129639936) (hj : j < 32) :
    IntKind.wrap .u8 (Int.fdiv ((lim n).getD (j / 8) 0) ((2 : Int) ^ (min (8 * (j % 8)) 64))) = ((n / 256 ^ j % 256 : Nat) : Int) := by
  rw [lim_getD hn (by omega), Nat.min_eq_left (by omega), IntKind.wrap_u8, Int.fdiv_eq_ediv_of_nonneg _ (Int.pow_nonneg (by omega)), ← limb_byte n j]
  rfl

theorem encode_loop {n : Nat} (hn : n < 115792089237316195423570985008687907853269984665640564039457584007913129639936) {k : Nat} (hk : k ≤ 32) {out : List Int} (ho : out.length ≤ 100) :
    bigLoop _ _ (fun again x => T_wire_encode_loop0 again x.1 x.2.1 x.2.2.1) (lim n, (out, (((k : Nat) : Int) - 1, ()))) = some ((out ++ beB k n, ()), ((), ())) := by
  refine Eq.trans (bigLoop_rule (I := fun x => x.1 = lim n ∧ (-1 : Int) ≤ x.2.2.1 ∧ x.2.2.1 ≤ (31 : Int) ∧ (x.2.1.length : Int) + x.2.2.1 ≤ (131 : Int)) (m := fun x => (x.2.2.1 + 1).toNat) (g := fun x => some ((x.2.1 ++ beB (x.2.2.1 + 1).toNat n, ()), ((), ()))) ?_
    ⟨rfl, by simp only; omega, by simp only; omega, by simp only; omega⟩ (by simp only [bigN_eq]; omega)) ?_
  · rintro ⟨l, o, i, _⟩ again ⟨h1, h2, h3, h4⟩ hag
    simp only at h1 h2 h3 h4 hag ⊢
    subst h1
    simp only [T_wire_encode_loop0, letR_eq, brR_dec, brR_inR, ge_iff_le, append_def]
    by_cases hi : 0 ≤ i
    · obtain ⟨j, rfl⟩ := Int.eq_ofNat_of_zero_le hi
      rw [if_pos hi, tdiv_pos hi, tmod_pos hi, w_i64 (n := (j : Int) / 8) (by omega) (by omega), w_i64 (n := 8 * ((j : Int) % 8)) (by omega) (by omega), if_pos (by omega), if_pos (by omega), brR_room8 (by omega), w_i64 (by omega) (by omega)]
      rw [show ((j : Int) / 8).toNat = j / 8 by omega, show (8 * ((j : Int) % 8)).toNat = 8 * (j % 8) by omega, byte_out hn (by omega)]
      rw [hag _ ⟨rfl, by simp only; omega, by simp only; omega, by simp only [List.length_append, List.length_singleton]; omega⟩ (by simp only; omega)]
      simp only
      rw [show ((j : Int) - 1 + 1).toNat = j by omega, show ((j : Int) + 1).toNat = j + 1 by omega, beB]; simp
    · have : i = -1 := by omega
      subst this
      simp [beB]
  · simp only
    rw [show ((k : Int) - 1 + 1).toNat = k by omega]

/-- A number's encoding. -/
def enc (n : Nat) : List Int := ((bylen n : Nat) : Int) :: beB (bylen n) n

theorem len_enc {n : Nat} : (enc n).length = 1 + bylen n := by simp [enc, len_beB]; omega

theorem encode_eq {n : Nat} (hn : n < 115792089237316195423570985008687907853269984665640564039457584007913129639936) : sol_wire_encode (lim n, ()) = some ((enc n, ()), ((), ())) := by
  unfold sol_wire_encode T_wire_encode
  have h1 := bitlen_256 hn
  have h2 := bylen_256 hn
  have h3 : ((bitlen n : Nat) : Int) + 7 = ((bitlen n + 7 : Nat) : Int) := by omega
  rw [bitLen_eq hn]
  simp only [bind_some', letR_eq]
  rw [w_i64 (n := ((bitlen n : Nat) : Int) + 7) (by omega) (by omega), tdiv_pos (by omega), w_i64 (n := (((bitlen n : Nat) : Int) + 7) / 8) (by omega) (by omega), w_i64 (by omega) (by omega), w_u8 (by omega) (by omega)]
  rw [show (((bitlen n : Nat) : Int) + 7) / 8 = ((bylen n : Nat) : Int) by unfold bylen; omega]
  exact encode_loop hn h2 (by simp)

theorem appendUint256_eq {b : List Int} (hb : b.length ≤ 1000000000) {n : Nat} (hn : n < 115792089237316195423570985008687907853269984665640564039457584007913129639936) :
    sol_wire_AppendUint256 (b, (lim n, ())) = some ((b ++ enc n, ()), ((), ((), ()))) := by
  unfold sol_wire_AppendUint256 T_wire_AppendUint256
  have h2 := bylen_256 hn
  rw [encode_eq hn]
  simp only [bind_some']
  rw [concat_eq (by simp [len_enc]; omega) (by simp)]
  simp [bind_some']

theorem appendUint64_eq {b : List Int} (hb : b.length ≤ 1000000000) {n : Int} (h0 : 0 ≤ n) (h1 : n ≤ 18446744073709551615) :
    sol_wire_AppendUint64 (b, (n, ())) = some ((b ++ enc n.toNat, ()), ((), ((), ()))) := by
  unfold sol_wire_AppendUint64 T_wire_AppendUint64
  rw [fromUint64_eq h0 h1]
  simp only [bind_some']
  rw [appendUint256_eq hb (by omega)]
  simp [bind_some']

theorem appendBytes_eq {b x : List Int} (hb : b.length ≤ 1000000000) (hx : x.length ≤ 1000000000) :
    sol_wire_AppendBytes (b, (x, ())) = some ((b ++ (enc x.length ++ x), ()), ((), ((), ()))) := by
  unfold sol_wire_AppendBytes T_wire_AppendBytes
  have h2 := @bylen_64 x.length (by omega)
  simp only [letR_eq]
  rw [w_u64 (by omega) (by omega), fromUint64_eq (by omega) (by omega)]
  simp only [bind_some', Int.toNat_natCast]
  rw [encode_eq (by omega)]
  simp only [bind_some']
  rw [concat_eq (by simp [len_enc]; omega) (by simp)]
  simp [bind_some']

/-! ### Reading -/

def Bytes (b : List Int) : Prop := ∀ x ∈ b, 0 ≤ x ∧ x ≤ 255

theorem Bytes.drop {b : List Int} (h : Bytes b) (i : Nat) : Bytes (b.drop i) := fun x hx => h x (List.mem_of_mem_drop hx)
theorem Bytes.take {b : List Int} (h : Bytes b) (i : Nat) : Bytes (b.take i) := fun x hx => h x (List.mem_of_mem_take hx)
theorem Bytes.at {b : List Int} (h : Bytes b) (i : Nat) : 0 ≤ b.getD i 0 ∧ b.getD i 0 ≤ 255 := getD_all (p := fun x => 0 ≤ x ∧ x ≤ 255) h (by omega) i
theorem Bytes.append {a b : List Int} (ha : Bytes a) (hb : Bytes b) : Bytes (a ++ b) := fun x hx => by
  rcases List.mem_append.1 hx with h | h
  · exact ha x h
  · exact hb x h
theorem bytes_beB {k n : Nat} : Bytes (beB k n) := fun x hx => beB_byte x hx

theorem beV_take_succ {r : List Int} {i : Nat} (h : i < r.length) : beV (r.take (i + 1)) = beV (r.take i) * 256 + (r.getD i 0).toNat := by
  rw [List.take_succ_eq_append_getElem h, beV_append, List.getD_eq_getElem?_getD, List.getElem?_eq_getElem h]; rfl

theorem beV_take_lt {r : List Int} (hr : Bytes r) {i : Nat} (h : i ≤ r.length) : beV (r.take i) < 256 ^ i := by
  have := beV_lt (r.take i) (hr.take i)
  rwa [List.length_take, Nat.min_eq_left h] at this

theorem readUint_loop {r : List Int} (hr : Bytes r) {k : Nat} (hk : k ≤ 32) (hkr : k ≤ r.length) {at_ : Int} (h0 : 0 ≤ at_) (h1 : at_ ≤ 1099511627776) (t6 : List Int) :
    bigLoop _ _ (fun again x => T_wire_readUint_loop0 again x.1 x.2.1 x.2.2.1 x.2.2.2.1 x.2.2.2.2.1 x.2.2.2.2.2.1 x.2.2.2.2.2.2.1) (at_, (t6, (r, (((k : Nat) : Int), (lim 0, (((k : Nat) : Int), ((0 : Int), ()))))))) =
      some ((lim (beV (r.take k)), (at_ + 1 + k, ((0 : Int), ()))), ((), ((), ((), ())))) := by
  refine bigLoop_rule (I := fun x => x.1 = at_ ∧ x.2.2.1 = r ∧ x.2.2.2.1 = ((k : Nat) : Int) ∧ x.2.2.2.2.2.1 = ((k : Nat) : Int) ∧ (0 : Int) ≤ x.2.2.2.2.2.2.1 ∧ x.2.2.2.2.2.2.1 ≤ ((k : Nat) : Int) ∧ x.2.2.2.2.1 = lim (beV (r.take x.2.2.2.2.2.2.1.toNat) * 256 ^ (k - x.2.2.2.2.2.2.1.toNat)))
    (m := fun x => (((k : Nat) : Int) - x.2.2.2.2.2.2.1).toNat) (g := fun _ => some ((lim (beV (r.take k)), (at_ + 1 + k, ((0 : Int), ()))), ((), ((), ((), ()))))) ?_
    ⟨rfl, rfl, rfl, rfl, by simp only; omega, by simp only; omega, by simp [beV_nil]⟩ (by simp only [bigN_eq]; omega)
  rintro ⟨a, t, r', k', l, k2, i, _⟩ again ⟨e1, e2, e3, e4, e5, e6, e7⟩ hag
  simp only at e1 e2 e3 e4 e5 e6 e7 hag ⊢
  subst e1 e2 e3 e4 e7
  obtain ⟨i, rfl⟩ := Int.eq_ofNat_of_zero_le e5
  simp only [T_wire_readUint_loop0, letR_eq, brR_dec, brR_inR, Int.toNat_natCast]
  by_cases hi : i < k
  · obtain ⟨j, hj⟩ : ∃ j, k = i + 1 + j := ⟨k - i - 1, by omega⟩
    have e : ((k : Nat) : Int) - 1 - i = (j : Int) := by omega
    have hb := hr.at i
    have hA := beV_take_lt hr (i := i + 1) (by omega)
    have hs := beV_take_succ (r := r') (i := i) (by omega)
    rw [hs] at hA
    rw [if_pos (by omega), w_i64 (n := ((k : Nat) : Int) - 1) (by omega) (by omega), e, w_i64 (n := (j : Int)) (by omega) (by omega), tdiv_pos (by omega), tmod_pos (by omega), w_i64 (n := (j : Int) / 8) (by omega) (by omega),
      w_i64 (n := 8 * ((j : Int) % 8)) (by omega) (by omega), if_pos (by omega), if_pos (by omega), if_pos (by omega), if_pos (by omega), w_i64 (by omega) (by omega)]
    rw [show ((j : Int) / 8).toNat = j / 8 by omega, show (8 * ((j : Int) % 8)).toNat = 8 * (j % 8) by omega, show k - i = j + 1 by omega, w_u64 (n := r'.getD i 0) (by omega) (by omega)]
    obtain ⟨c, hc⟩ := Int.eq_ofNat_of_zero_le hb.1
    rw [hc] at hb hs hA ⊢
    rw [Int.toNat_natCast] at hs hA
    generalize hv : beV (r'.take i) = v at *
    have hp : 0 < 256 ^ j := Nat.pow_pos (by omega)
    have h3 : (v * 256 + c) * 256 ^ j < 256 ^ (i + 1) * 256 ^ j := Nat.mul_lt_mul_of_pos_right hA hp
    rw [← Nat.pow_add] at h3
    have h4 : (256 : Nat) ^ (i + 1 + j) ≤ 256 ^ 32 := Nat.pow_le_pow_right (by omega) (by omega)
    have h5 : v * 256 ^ (j + 1) + c * 256 ^ j = (v * 256 + c) * 256 ^ j := by rw [Nat.add_mul, Nat.pow_succ, Nat.mul_assoc v, Nat.mul_comm 256]
    have h6 : v * 256 ^ (j + 1) + c * 256 ^ j < 115792089237316195423570985008687907853269984665640564039457584007913129639936 := by
      rw [h5]; exact Nat.lt_of_lt_of_le h3 h4
    rw [lim_getD (by omega) (by omega), Nat.min_eq_left (by omega)]
    have h7 : (2 : Nat) ^ (8 * (j % 8)) ≤ 72057594037927936 := Nat.pow_le_pow_right (n := 2) (j := 56) (by omega) (by omega)
    have h8 : ((c : Nat) : Int) * 2 ^ (8 * (j % 8)) = ((c * 2 ^ (8 * (j % 8)) : Nat) : Int) := by rw [Int.natCast_mul, Int.natCast_pow]; rfl
    have h9 : c * 2 ^ (8 * (j % 8)) ≤ 255 * 72057594037927936 := Nat.mul_le_mul (by omega) h7
    have h10 : v * 256 ^ (j + 1) / 18446744073709551616 ^ (j / 8) % 18446744073709551616 < 18446744073709551616 := Nat.mod_lt _ (by omega)
    have h11 : v * 256 ^ (j + 1) / 18446744073709551616 ^ (j / 8) % 18446744073709551616 ||| c * 2 ^ (8 * (j % 8)) < 18446744073709551616 := Nat.or_lt_two_pow (n := 64) h10 (by omega)
    rw [h8, w_u64 (n := ((c * 2 ^ (8 * (j % 8)) : Nat) : Int)) (by omega) (by omega), or_bits h10 (by omega), w_u64 (by omega) (by omega), lim_set (by omega) (by omega) h6 rfl, h5]
    refine hag _ ⟨rfl, rfl, rfl, rfl, by simp only; omega, by simp only; omega, ?_⟩ (by simp only; omega)
    simp only
    rw [show ((i : Int) + 1).toNat = i + 1 by omega, hs, show k - (i + 1) = j by omega]
  · have : i = k := by omega
    subst this
    rw [if_neg (by omega), Nat.sub_self, Nat.pow_zero, Nat.mul_one, w_i64 (n := a + 1) (by omega) (by omega), w_i64 (by omega) (by omega)]

/-- A number of at most so many bytes at an offset, and the offset behind it. -/
def rdU (b : List Int) (i : Nat) (most : Nat) : Option (Nat × Nat) :=
  match b.drop i with
  | [] => none
  | k :: r => if most < k.toNat ∨ r.length < k.toNat ∨ (0 < k.toNat ∧ r.getD 0 0 = 0) then none else some (beV (r.take k.toNat), i + 1 + k.toNat)

/-- What a reader gives. -/
def readR (b : List Int) (at_ : Int) (most : Nat) : List Int × (Int × (Int × Unit)) :=
  if at_ < 0 ∨ b.length < at_ then (lim 0, (0, (2, ()))) else
    match rdU b at_.toNat most with
    | none => (lim 0, (0, (3, ())))
    | some (v, j) => (lim v, (j, (0, ())))

theorem readUint_eq {b : List Int} (hb : Bytes b) (hl : b.length ≤ 1000000000) {at_ : Int} (h1 : -9223372036854775808 ≤ at_) (h2 : at_ ≤ 9223372036854775807) {most : Nat} (hm : most ≤ 32) :
    sol_wire_readUint (b, (at_, (((most : Nat) : Int), ()))) = some (readR b at_ most, ((), ((), ((), ())))) := by
  unfold sol_wire_readUint T_wire_readUint readR
  simp only [letR_eq, brR_dec, brR_and]
  by_cases c1 : at_ < 0
  · rw [if_pos c1, if_pos (.inl c1)]; rfl
  rw [if_neg c1]
  by_cases c2 : b.length < at_
  · rw [if_pos (by omega), if_pos (.inr c2)]; rfl
  rw [if_neg (show ¬ at_ > (b.length : Int) by omega), if_neg (show ¬ (at_ < 0 ∨ (b.length : Int) < at_) by omega), if_pos (by omega), if_pos (by omega)]
  obtain ⟨i, rfl⟩ := Int.eq_ofNat_of_zero_le (show 0 ≤ at_ by omega)
  have hd := hb.drop i
  have hlen : (b.drop i).length = b.length - i := List.length_drop
  rw [Int.toNat_natCast, List.take_of_length_le (by omega)]
  unfold rdU
  generalize b.drop i = rest at *
  cases rest with
  | nil => rw [if_pos (by simp)]; rfl
  | cons k r =>
    have hk := hd k (by simp)
    have hr : Bytes r := fun x hx => hd x (by simp [hx])
    obtain ⟨k, rfl⟩ := Int.eq_ofNat_of_zero_le hk.1
    simp only [List.length_cons] at hlen
    rw [if_neg (by simp; omega), brR_inR, if_pos ⟨by omega, by simp⟩, if_pos (by simp; omega)]
    simp only [List.getD_cons_zero, List.drop_succ_cons, List.drop_zero, List.length_cons, Nat.add_sub_cancel, List.take_length]
    rw [w_i64 (by omega) (by omega)]
    by_cases c3 : most < k
    · rw [if_pos (by omega), if_pos (by omega)]; rfl
    rw [if_neg (by omega)]
    by_cases c4 : r.length < k
    · rw [if_pos (by omega), if_pos (by omega)]; rfl
    rw [if_neg (by omega)]
    have loop := readUint_loop hr (k := k) (by omega) (by omega) (at_ := (i : Int)) (by omega) (by omega)
    by_cases c5 : 0 < k
    · rw [if_pos (by omega), brR_inR, if_pos (by omega)]
      by_cases c6 : r.getD 0 0 = 0
      · rw [if_pos c6, if_pos (by simp only [Int.toNat_natCast]; omega)]; rfl
      · rw [if_neg c6, if_neg (by simp only [Int.toNat_natCast]; omega)]
        refine (loop _).trans ?_
        simp only [Int.toNat_natCast]
        rw [show ((i + 1 + k : Nat) : Int) = (i : Int) + 1 + k by omega]
    · rw [if_neg (by omega), if_neg (by simp only [Int.toNat_natCast]; omega)]
      refine (loop _).trans ?_
      simp only [Int.toNat_natCast]
      rw [show ((i + 1 + k : Nat) : Int) = (i : Int) + 1 + k by omega]

theorem readUint256_eq {b : List Int} (hb : Bytes b) (hl : b.length ≤ 1000000000) {at_ : Int} (h1 : -9223372036854775808 ≤ at_) (h2 : at_ ≤ 9223372036854775807) :
    sol_wire_ReadUint256 (b, (at_, ())) = some (readR b at_ 32, ((), ((), ()))) := by
  unfold sol_wire_ReadUint256 T_wire_ReadUint256
  rw [show ((32 : Int)) = ((32 : Nat) : Int) from rfl, readUint_eq hb hl h1 h2 (by omega)]
  simp only [bind_some']

theorem readR_bounds {b : List Int} (hb : Bytes b) (at_ : Int) {most : Nat} (hm : most ≤ 32) : ∃ v, v < 256 ^ most ∧ (readR b at_ most).1 = lim v ∧ 0 ≤ (readR b at_ most).2.1 ∧ (readR b at_ most).2.1 ≤ b.length ∧
    ((readR b at_ most).2.2.1 = 0 ∨ (readR b at_ most).2.2.1 = 2 ∨ (readR b at_ most).2.2.1 = 3) := by
  unfold readR
  have h0 : 0 < 256 ^ most := Nat.pow_pos (by omega)
  split
  · exact ⟨0, h0, rfl, by simp, by simp only; omega, by simp⟩
  · split
    · exact ⟨0, h0, rfl, by simp, by simp only; omega, by simp⟩
    · rename_i hc _ v j hv
      unfold rdU at hv
      split at hv
      · cases hv
      · rename_i k r hr
        split at hv
        · cases hv
        · rename_i hk
          cases hv
          have hl := congrArg List.length hr
          simp only [List.length_drop, List.length_cons] at hl
          have hbr : Bytes r := fun x hx => (hb.drop at_.toNat) x (by rw [hr]; simp [hx])
          refine ⟨_, Nat.lt_of_lt_of_le (beV_take_lt hbr (by omega)) (Nat.pow_le_pow_right (by omega) (by omega)), rfl, by simp only; omega, by simp only; omega, by simp⟩

theorem readUint64_eq {b : List Int} (hb : Bytes b) (hl : b.length ≤ 1000000000) {at_ : Int} (h1 : -9223372036854775808 ≤ at_) (h2 : at_ ≤ 9223372036854775807) :
    sol_wire_ReadUint64 (b, (at_, ())) = some ((((val4 (readR b at_ 8).1 : Nat) : Int), (readR b at_ 8).2), ((), ((), ()))) := by
  unfold sol_wire_ReadUint64 T_wire_ReadUint64
  obtain ⟨v, v1, v2, _⟩ := readR_bounds hb at_ (most := 8) (by omega)
  rw [show ((8 : Int)) = ((8 : Nat) : Int) from rfl, readUint_eq hb hl h1 h2 (by omega)]
  simp only [bind_some']
  have : (readR b at_ 8).1.getD 0 0 = ((val4 (readR b at_ 8).1 : Nat) : Int) := by
    rw [v2, val4_lim]; simp only [lim, List.getD_cons_zero]; omega
  rw [this]

/-- What ReadBytes gives. -/
def readB (b : List Int) (at_ : Int) : List Int × (Int × (Int × Unit)) :=
  if at_ < 0 ∨ b.length < at_ then ([], (0, (2, ()))) else
    match rdU b at_.toNat 8 with
    | none => ([], (0, (3, ())))
    | some (n, j) => if b.length - j < n then ([], (0, (3, ()))) else ((b.drop j).take n, ((j + n : Nat), (0, ())))

theorem rdU_le {b : List Int} {i most v j : Nat} (h : rdU b i most = some (v, j)) (hb : Bytes b) : i < j ∧ j ≤ b.length ∧ v < 256 ^ most ∧ j ≤ i + 1 + most := by
  unfold rdU at h
  split at h
  · cases h
  · rename_i k r hr
    split at h
    · cases h
    · rename_i hk
      cases h
      have hl := congrArg List.length hr
      simp only [List.length_drop, List.length_cons] at hl
      have hbr : Bytes r := fun x hx => (hb.drop i) x (by rw [hr]; simp [hx])
      exact ⟨by omega, by omega, Nat.lt_of_lt_of_le (beV_take_lt hbr (by omega)) (Nat.pow_le_pow_right (by omega) (by omega)), by omega⟩

theorem readBytes_eq {b : List Int} (hb : Bytes b) (hl : b.length ≤ 1000000000) {at_ : Int} (h1 : -9223372036854775808 ≤ at_) (h2 : at_ ≤ 9223372036854775807) :
    sol_wire_ReadBytes (b, (at_, ())) = some (readB b at_, ((), ((), ()))) := by
  unfold sol_wire_ReadBytes T_wire_ReadBytes readB
  rw [readUint64_eq hb hl h1 h2]
  simp only [bind_some', letR_eq, brR_dec, brR_not, brR_and]
  unfold readR
  by_cases c1 : at_ < 0 ∨ (b.length : Int) < at_
  · rw [if_pos c1, if_pos c1]; rfl
  rw [if_neg c1, if_neg c1]
  cases h : rdU b at_.toNat 8 with
  | none => rfl
  | some p =>
    obtain ⟨n, j⟩ := p
    obtain ⟨r1, r2, r3, _⟩ := rdU_le h hb
    have r3 : n < 18446744073709551616 := r3
    simp only [val4_lim]
    rw [if_pos trivial, w_i64 (n := (b.length : Int) - (j : Int)) (by omega) (by omega), w_u64 (by omega) (by omega)]
    by_cases c2 : b.length - j < n
    · rw [if_pos (by omega), if_pos c2]
    · rw [if_neg (by omega), if_neg c2, w_i64 (n := (n : Int)) (by omega) (by omega), w_i64 (n := (j : Int) + (n : Int)) (by omega) (by omega), if_pos (by omega), if_pos (by omega), if_pos (by omega)]
      rw [show ((j : Int) + (n : Int)).toNat - (j : Int).toNat = n by omega, Int.toNat_natCast, clone_eq (by rw [List.length_take, List.length_drop]; omega)]
      simp only [bind_some']
      rw [show ((j : Int) + (n : Int)) = ((j + n : Nat) : Int) by omega]

abbrev I256 := Bool × (List Int × Unit)

theorem i256_wf {a : I256} (h : (Ty.pair .bool (.pair (.arr 4 (.int .u64)) .unit)).wf a) : ∃ s n, n < 115792089237316195423570985008687907853269984665640564039457584007913129639936 ∧ a = (s, (lim n, ())) := by
  obtain ⟨s, l, _⟩ := a
  obtain ⟨_, h2, _⟩ := h
  obtain ⟨n, h3, h4⟩ := u256_wf h2
  exact ⟨s, n, h3, by rw [show l = lim n from h4]⟩

theorem eqD_lim (n m : Nat) : eqD (.arr 4 (.int .u64)) (lim n) (lim m) = decide (n = m) := by
  rw [Bool.eq_iff_iff, eqD_iff]; exact lim_inj.trans (by simp)

theorem valid_eq (s : Bool) (n : Nat) : sol_int256_Valid ((s, (lim n, ())), ()) = some ((!s || !decide (n = 0), ()), ((), ())) := by
  unfold sol_int256_Valid T_int256_Valid
  simp only [brR_not]
  rw [← lim_zero, eqD_lim]
  cases s <;> rfl

/-- The encoding of a signed number. -/
def encI (s : Bool) (n : Nat) : List Int := if s = true ∧ n = 0 then [] else (if s then 1 else 0) :: enc n

theorem appendInt256_eq {b : List Int} (hb : b.length ≤ 1000000000) {s : Bool} {n : Nat} (hn : n < 115792089237316195423570985008687907853269984665640564039457584007913129639936) :
    sol_wire_AppendInt256 (b, ((s, (lim n, ())), ())) = some ((b ++ encI s n, ()), ((), ((), ()))) := by
  unfold sol_wire_AppendInt256 T_wire_AppendInt256 encI
  have h2 := bylen_256 hn
  rw [valid_eq]
  simp only [bind_some', brR_not]
  rw [encode_eq hn]
  simp only [bind_some']
  rw [concat_eq (by simp [len_enc]; omega) (by simp), concat_eq (by simp [len_enc]; omega) (by simp), clone_eq (by omega)]
  simp only [bind_some']
  cases s
  · simp [brR_true, brR_false]
  · by_cases h0 : n = 0
    · simp [h0, brR_false]
    · simp [h0, brR_true]

/-- What ReadInt256 gives. -/
def readI (b : List Int) (at_ : Int) : I256 × (Int × (Int × Unit)) :=
  if at_ < 0 ∨ b.length < at_ then ((false, (lim 0, ())), (0, (2, ()))) else
    if b.length = at_.toNat ∨ 1 < b.getD at_.toNat 0 then ((false, (lim 0, ())), (0, (3, ()))) else
      match rdU b (at_.toNat + 1) 32 with
      | none => ((false, (lim 0, ())), (0, (3, ())))
      | some (n, j) => if b.getD at_.toNat 0 = 1 ∧ n = 0 then ((false, (lim 0, ())), (0, (3, ()))) else ((decide (b.getD at_.toNat 0 = 1), (lim n, ())), (j, (0, ())))

theorem readInt256_eq {b : List Int} (hb : Bytes b) (hl : b.length ≤ 1000000000) {at_ : Int} (h1 : -9223372036854775808 ≤ at_) (h2 : at_ ≤ 9223372036854775807) :
    sol_wire_ReadInt256 (b, (at_, ())) = some (readI b at_, ((), ((), ()))) := by
  unfold sol_wire_ReadInt256 T_wire_ReadInt256 readI
  simp only [letR_eq, brR_dec, brR_inR, brR_not]
  by_cases c1 : at_ < 0
  · rw [if_pos c1, if_pos (.inl c1)]; rfl
  rw [if_neg c1]
  by_cases c2 : b.length < at_
  · rw [if_pos (by omega), if_pos (.inr c2)]; rfl
  obtain ⟨i, rfl⟩ := Int.eq_ofNat_of_zero_le (show 0 ≤ at_ by omega)
  rw [if_neg (show ¬ (i : Int) > (b.length : Int) by omega), if_neg (show ¬ ((i : Int) < 0 ∨ (b.length : Int) < (i : Int)) by omega)]
  simp only [Int.toNat_natCast]
  by_cases c3 : b.length = i
  · rw [if_pos (by omega), if_pos (.inl c3)]; rfl
  rw [if_neg (by omega), if_pos (by omega)]
  by_cases c4 : 1 < b.getD i 0
  · rw [if_pos (by omega), if_pos (.inr c4)]; rfl
  rw [if_neg (show ¬ b.getD i 0 > 1 by omega), if_neg (show ¬ (b.length = i ∨ 1 < b.getD i 0) by omega), w_i64 (by omega) (by omega), show ((i : Int) + 1) = ((i + 1 : Nat) : Int) by omega, readUint256_eq hb hl (by omega) (by omega)]
  simp only [bind_some']
  unfold readR
  rw [if_neg (show ¬ (((i + 1 : Nat) : Int) < 0 ∨ (b.length : Int) < ((i + 1 : Nat) : Int)) by omega), Int.toNat_natCast, if_pos (by omega)]
  cases h : rdU b (i + 1) 32 with
  | none =>
    rw [valid_eq]
    rfl
  | some p =>
    obtain ⟨n, j⟩ := p
    simp only
    rw [valid_eq]
    simp only [bind_some', if_pos]
    rw [brR_or, brR_not, brR_not, brR_dec, brR_dec]
    by_cases c5 : b.getD i 0 = 1 <;> by_cases c6 : n = 0 <;> simp [c5, c6, lim_zero, -List.getD_eq_getElem?_getD]

end Go.Pon
/-
  Helpers of the laws.
-/
set_option autoImplicit false
set_option linter.unusedVariables false
set_option linter.unusedSimpArgs false
namespace Go.Pon
open Go

theorem bytes_wf {b : List Int} (h : (Ty.slice (.int .u8)).wf b) : Bytes b := fun x hx => inK_u8.1 (h.2 x hx)

theorem equalBytes_eq (a b : List Int) : sol_law0_EqualBytes (a, (b, ())) = some ((decide (a = b), ()), ((), ((), ()))) := by
  unfold sol_law0_EqualBytes T_law0_EqualBytes
  rfl

theorem mod_eq {x n : Int} (h0 : -9223372036854775808 ≤ x) (h1 : x ≤ 9223372036854775807) (h2 : 1 ≤ n) (h3 : n ≤ 9223372036854775807) :
    sol_law0_Mod (x, (n, ())) = some ((((x % 18446744073709551616) % n, ()), ((), ((), ())))) := by
  unfold sol_law0_Mod T_law0_Mod
  simp only [letR_eq, brR_dec]
  rw [w_u64 (n := n) (by omega) (by omega), if_pos (by omega), IntKind.wrap_u64, tmod_pos (by omega), w_i64]
  · have := Int.emod_nonneg (x % 18446744073709551616) (b := n) (by omega); omega
  · have := Int.emod_lt_of_pos (x % 18446744073709551616) (b := n) (by omega); omega

theorem lim_of {a b c d : Int} (ha : 0 ≤ a ∧ a ≤ 18446744073709551615) (hb : 0 ≤ b ∧ b ≤ 18446744073709551615) (hc : 0 ≤ c ∧ c ≤ 18446744073709551615) (hd : 0 ≤ d ∧ d ≤ 18446744073709551615) :
    ∃ n, n < 115792089237316195423570985008687907853269984665640564039457584007913129639936 ∧ [a, b, c, d] = lim n :=
  u256_wf (l := [a, b, c, d]) ⟨rfl, by
    intro y hy
    simp only [List.mem_cons, List.not_mem_nil, or_false] at hy
    rcases hy with rfl | rfl | rfl | rfl <;> exact inK_u64.2 (by assumption)⟩

theorem edge_ok {a b s : Int} (ha : 0 ≤ a ∧ a ≤ 18446744073709551615) (hb : 0 ≤ b ∧ b ≤ 18446744073709551615) (hs : -9223372036854775808 ≤ s ∧ s ≤ 9223372036854775807) :
    ∃ n, n < 115792089237316195423570985008687907853269984665640564039457584007913129639936 ∧ sol_law0_EdgeUint256 (a, (b, (s, ()))) = some ((lim n, ()), ((), ((), ((), ())))) := by
  have key : ∀ {p q r t : Int}, 0 ≤ p ∧ p ≤ 18446744073709551615 → 0 ≤ q ∧ q ≤ 18446744073709551615 → 0 ≤ r ∧ r ≤ 18446744073709551615 → 0 ≤ t ∧ t ≤ 18446744073709551615 →
      ∃ n, n < 115792089237316195423570985008687907853269984665640564039457584007913129639936 ∧ (some (([p, q, r, t], ()), ((), ((), ((), ())))) : Option ((List Int × Unit) × (Unit × (Unit × (Unit × Unit))))) = some ((lim n, ()), ((), ((), ((), ())))) := fun h1 h2 h3 h4 => by
    obtain ⟨n, k1, k2⟩ := lim_of h1 h2 h3 h4
    exact ⟨n, k1, by rw [k2]⟩
  unfold sol_law0_EdgeUint256 T_law0_EdgeUint256
  rw [mod_eq hs.1 hs.2 (by omega) (by omega)]
  simp only [bind_some', brR_dec, tmod_pos ha.1, tmod_pos hb.1]
  repeat' split
  all_goals try apply key
  all_goals try omega
  · rw [IntKind.wrap_u64]; omega
  · rw [IntKind.wrap_u64]; omega
  · rw [IntKind.wrap_u64]; omega

end Go.Pon
/-
  256 bits: addition and subtraction, limb by limb.
-/
set_option autoImplicit false
set_option linter.unusedVariables false
set_option linter.unusedSimpArgs false
namespace Go.Pon
open Go

theorem add64_eq {x y c : Int} (hc : c ≤ 1) : sol_math_bits_Add64 (x, (y, (c, ()))) = some (((x + y + c) % 18446744073709551616, ((x + y + c) / 18446744073709551616, ())), ((), ((), ((), ())))) := by
  unfold sol_math_bits_Add64 T_math_bits_Add64 addC
  simp only
  rw [if_pos hc]
  rfl

theorem sub64_eq {x y c : Int} (hc : c ≤ 1) : sol_math_bits_Sub64 (x, (y, (c, ()))) = some (((x - y - c) % 18446744073709551616, ((if x < y + c then 1 else 0), ())), ((), ((), ((), ())))) := by
  unfold sol_math_bits_Sub64 T_math_bits_Sub64 subC
  simp only
  rw [if_pos hc]
  rfl

/-- The number of a 64-bit limb. -/
def lb (n i : Nat) : Nat := n / 18446744073709551616 ^ i % 18446744073709551616

theorem lb_get {n q : Nat} (hn : n < 115792089237316195423570985008687907853269984665640564039457584007913129639936) (hq : q < 4) : List.getD (lim n) q 0 = ((lb n q : Nat) : Int) := by
  unfold lim lb
  match q, hq with
  | 0, _ => simp
  | 1, _ => simp
  | 2, _ => simp only [List.getD_cons_succ, List.getD_cons_zero, Nat.reducePow]
  | 3, _ =>
    simp only [List.getD_cons_succ, List.getD_cons_zero, Nat.reducePow]
    omega

/-- So many limbs, then zeros. -/
def limbs (k i n : Nat) : List Int := ((List.range i).map fun j => ((lb n j : Nat) : Int)) ++ List.replicate (k - i) 0

theorem limbs_zero (k n : Nat) : limbs k 0 n = List.replicate k 0 := by simp [limbs]

theorem limbs_set {k i n : Nat} (h : i < k) : List.set (limbs k i n) i ((lb n i : Nat) : Int) = limbs k (i + 1) n := by
  unfold limbs
  rw [List.set_append, if_neg (by simp), List.length_map, List.length_range, Nat.sub_self, show k - i = (k - (i + 1)) + 1 by omega, List.replicate_succ, List.set_cons_zero, List.range_succ]
  simp

theorem limbs_lim {n : Nat} (hn : n < 115792089237316195423570985008687907853269984665640564039457584007913129639936) : limbs 4 4 n = lim n := by
  refine ext_getD (d := 0) (by simp [limbs, lim]) fun j hj => ?_
  have hj4 : j < 4 := by simpa [limbs] using hj
  rw [lb_get hn hj4]
  simp [limbs, List.getD_eq_getElem?_getD, hj4]

theorem limbs_mod {n : Nat} : limbs 4 4 (n % 115792089237316195423570985008687907853269984665640564039457584007913129639936) = limbs 4 4 n := by
  unfold limbs lb
  simp only [List.range_succ, List.range_zero, List.nil_append, List.map_append, List.map_cons, List.map_nil, List.append_assoc, List.cons_append, Nat.pow_zero, Nat.pow_one, Nat.reducePow, Nat.div_one, List.cons.injEq, Nat.sub_self, List.replicate_zero, and_true]
  refine ⟨?_, ?_, ?_, ?_⟩ <;> omega

theorem pow_step (n i : Nat) : n / 18446744073709551616 ^ (i + 1) = n / 18446744073709551616 ^ i / 18446744073709551616 := by rw [Nat.pow_succ, Nat.div_div_eq_div_mul]

theorem pow4 : (18446744073709551616 : Nat) ^ 4 = 115792089237316195423570985008687907853269984665640564039457584007913129639936 := by decide

/-- One limb of a sum. -/
theorem add_step {a b c i : Nat} (hc : c ≤ 1) (h : (a + b) / 18446744073709551616 ^ i = a / 18446744073709551616 ^ i + b / 18446744073709551616 ^ i + c) :
    (lb a i + lb b i + c) % 18446744073709551616 = lb (a + b) i ∧ (lb a i + lb b i + c) / 18446744073709551616 ≤ 1 ∧
      (a + b) / 18446744073709551616 ^ (i + 1) = a / 18446744073709551616 ^ (i + 1) + b / 18446744073709551616 ^ (i + 1) + (lb a i + lb b i + c) / 18446744073709551616 := by
  unfold lb
  rw [pow_step, pow_step, pow_step, h]
  generalize a / 18446744073709551616 ^ i = x
  generalize b / 18446744073709551616 ^ i = y
  refine ⟨by omega, by omega, by omega⟩

theorem add_cast {x y c : Nat} : ((((x : Nat) : Int) + ((y : Nat) : Int) + ((c : Nat) : Int)) % 18446744073709551616 = (((x + y + c) % 18446744073709551616 : Nat) : Int)) ∧ ((((x : Nat) : Int) + ((y : Nat) : Int) + ((c : Nat) : Int)) / 18446744073709551616 = (((x + y + c) / 18446744073709551616 : Nat) : Int)) := by omega

theorem uAdd_eq {a b : Nat} (ha : a < 115792089237316195423570985008687907853269984665640564039457584007913129639936) (hb : b < 115792089237316195423570985008687907853269984665640564039457584007913129639936) :
    sol_uint256_Add (lim a, (lim b, ())) = some ((if a + b < 115792089237316195423570985008687907853269984665640564039457584007913129639936 then (lim (a + b), ((0 : Int), ())) else ([(0 : Int), (0 : Int), (0 : Int), (0 : Int)], ((4 : Int), ()))), ((), ((), ()))) := by
  unfold sol_uint256_Add T_uint256_Add
  refine bigLoop_rule (I := fun x => ∃ i c : Nat, i ≤ 4 ∧ c ≤ 1 ∧ (a + b) / 18446744073709551616 ^ i = a / 18446744073709551616 ^ i + b / 18446744073709551616 ^ i + c ∧
      x = (lim a, (lim b, ([(0 : Int), (0 : Int), (0 : Int), (0 : Int)], (limbs 4 i (a + b), (((c : Nat) : Int), (((i : Nat) : Int), ())))))))
    (m := fun x => ((4 : Int) - x.2.2.2.2.2.1).toNat) (g := fun _ => some ((if a + b < 115792089237316195423570985008687907853269984665640564039457584007913129639936 then (lim (a + b), ((0 : Int), ())) else ([(0 : Int), (0 : Int), (0 : Int), (0 : Int)], ((4 : Int), ()))), ((), ((), ())))) ?_
    ⟨0, 0, by omega, by omega, by simp, by rw [limbs_zero]; rfl⟩ (by rw [bigN_eq]; simp only; omega)
  rintro x again ⟨i, c, hi, hc, hd, rfl⟩ hag
  simp only at hag ⊢
  unfold T_uint256_Add_loop0
  simp only [brR_dec, brR_inR, brR_not]
  by_cases h1 : ((i : Nat) : Int) < 4
  · obtain ⟨s1, s2, s3⟩ := add_step hc hd
    rw [if_pos h1, if_pos (by omega), if_pos (by omega), Int.toNat_natCast, lb_get ha (by omega), lb_get hb (by omega), add64_eq (by omega)]
    simp only [bind_some']
    rw [if_pos (by omega), add_cast.1, add_cast.2, s1, limbs_set (by omega), w_i64 (by omega) (by omega)]
    exact hag _ ⟨i + 1, _, by omega, s2, s3, by rw [Int.natCast_add]; rfl⟩ (by simp only; omega)
  · have hi4 : i = 4 := by omega
    subst hi4
    rw [pow4] at hd
    rw [if_neg h1]
    by_cases hs : a + b < 115792089237316195423570985008687907853269984665640564039457584007913129639936
    · rw [if_pos hs, if_pos (by omega), limbs_lim hs]
    · rw [if_neg hs, if_neg (by omega)]

/-- Five limbs hold the sum of two numbers. -/
theorem psum_eq {a b : Nat} (ha : a < 115792089237316195423570985008687907853269984665640564039457584007913129639936) (hb : b < 115792089237316195423570985008687907853269984665640564039457584007913129639936) :
    sol_poster_sum (lim a, (lim b, ())) = some ((limbs 5 5 (a + b), ()), ((), ((), ()))) := by
  unfold sol_poster_sum T_poster_sum
  refine bigLoop_rule (I := fun x => ∃ i c : Nat, i ≤ 4 ∧ c ≤ 1 ∧ (a + b) / 18446744073709551616 ^ i = a / 18446744073709551616 ^ i + b / 18446744073709551616 ^ i + c ∧
      x = (lim a, (lim b, ([(0 : Int), (0 : Int), (0 : Int), (0 : Int), (0 : Int)], (limbs 5 i (a + b), (((c : Nat) : Int), (((i : Nat) : Int), ())))))))
    (m := fun x => ((4 : Int) - x.2.2.2.2.2.1).toNat) (g := fun _ => some ((limbs 5 5 (a + b), ()), ((), ((), ())))) ?_
    ⟨0, 0, by omega, by omega, by simp, by rw [limbs_zero]; rfl⟩ (by rw [bigN_eq]; simp only; omega)
  rintro x again ⟨i, c, hi, hc, hd, rfl⟩ hag
  simp only at hag ⊢
  unfold T_poster_sum_loop0
  simp only [brR_dec, brR_inR, brR_not]
  by_cases h1 : ((i : Nat) : Int) < 4
  · obtain ⟨s1, s2, s3⟩ := add_step hc hd
    rw [if_pos h1, if_pos (by omega), if_pos (by omega), Int.toNat_natCast, lb_get ha (by omega), lb_get hb (by omega), add64_eq (by omega)]
    simp only [bind_some']
    rw [if_pos (by omega), add_cast.1, add_cast.2, s1, limbs_set (by omega), w_i64 (by omega) (by omega)]
    exact hag _ ⟨i + 1, _, by omega, s2, s3, by rw [Int.natCast_add]; rfl⟩ (by simp only; omega)
  · have hi4 : i = 4 := by omega
    subst hi4
    rw [if_neg h1]
    have e : c = lb (a + b) 4 := by
      unfold lb
      rw [hd, pow4]
      omega
    rw [e, limbs_set (by omega)]

theorem limbs5_inj {x y : Nat} (hx : x < 231584178474632390847141970017375815706539969331281128078915168015826259279872) (hy : y < 231584178474632390847141970017375815706539969331281128078915168015826259279872) : limbs 5 5 x = limbs 5 5 y ↔ x = y := by
  constructor
  · intro h
    unfold limbs lb at h
    simp only [List.range_succ, List.range_zero, List.nil_append, List.map_append, List.map_cons, List.map_nil, List.append_assoc, List.cons_append, Nat.pow_zero, Nat.pow_one, Nat.reducePow, Nat.div_one, List.cons.injEq, Nat.sub_self, List.replicate_zero, and_true] at h
    omega
  · intro h; rw [h]

theorem uSub_ok {a b : Nat} (ha : a < 115792089237316195423570985008687907853269984665640564039457584007913129639936) (hb : b ≤ a) :
    sol_uint256_Sub (lim a, (lim b, ())) = some ((lim (a - b), ((0 : Int), ())), ((), ((), ()))) := by
  obtain ⟨d, rfl⟩ := Nat.exists_eq_add_of_le hb
  rw [Nat.add_sub_cancel_left]
  unfold sol_uint256_Sub T_uint256_Sub
  refine bigLoop_rule (I := fun x => ∃ i c : Nat, i ≤ 4 ∧ c ≤ 1 ∧ (b + d) / 18446744073709551616 ^ i = b / 18446744073709551616 ^ i + d / 18446744073709551616 ^ i + c ∧
      x = (lim (b + d), (lim b, ([(0 : Int), (0 : Int), (0 : Int), (0 : Int)], (limbs 4 i d, (((c : Nat) : Int), (((i : Nat) : Int), ())))))))
    (m := fun x => ((4 : Int) - x.2.2.2.2.2.1).toNat) (g := fun _ => some ((lim d, ((0 : Int), ())), ((), ((), ())))) ?_
    ⟨0, 0, by omega, by omega, by simp, by rw [limbs_zero]; rfl⟩ (by rw [bigN_eq]; simp only; omega)
  rintro x again ⟨i, c, hi, hc, hd, rfl⟩ hag
  simp only at hag ⊢
  unfold T_uint256_Sub_loop0
  simp only [brR_dec, brR_inR, brR_not]
  by_cases h1 : ((i : Nat) : Int) < 4
  · have key : (((lb (b + d) i : Nat) : Int) - ((lb b i : Nat) : Int) - ((c : Nat) : Int)) % 18446744073709551616 = ((lb d i : Nat) : Int) ∧
        ∃ c' : Nat, c' ≤ 1 ∧ (if ((lb (b + d) i : Nat) : Int) < ((lb b i : Nat) : Int) + ((c : Nat) : Int) then (1 : Int) else 0) = ((c' : Nat) : Int) ∧ (b + d) / 18446744073709551616 ^ (i + 1) = b / 18446744073709551616 ^ (i + 1) + d / 18446744073709551616 ^ (i + 1) + c' := by
      unfold lb
      rw [pow_step, pow_step, pow_step, hd]
      generalize b / 18446744073709551616 ^ i = x
      generalize d / 18446744073709551616 ^ i = y
      refine ⟨by omega, ?_⟩
      by_cases hlt : (((x + y + c) % 18446744073709551616 : Nat) : Int) < ((x % 18446744073709551616 : Nat) : Int) + ((c : Nat) : Int)
      · exact ⟨1, by omega, by rw [if_pos hlt]; rfl, by omega⟩
      · exact ⟨0, by omega, by rw [if_neg hlt]; rfl, by omega⟩
    obtain ⟨s1, c', s2, s4, s3⟩ := key
    rw [if_pos h1, if_pos (by omega), if_pos (by omega), Int.toNat_natCast, lb_get ha (by omega), lb_get (by omega) (by omega), sub64_eq (by omega)]
    simp only [bind_some']
    rw [if_pos (by omega), s1, s4, limbs_set (by omega), w_i64 (by omega) (by omega)]
    exact hag _ ⟨i + 1, c', by omega, s2, s3, by rw [Int.natCast_add]; rfl⟩ (by simp only; omega)
  · have hi4 : i = 4 := by omega
    subst hi4
    rw [pow4] at hd
    rw [if_neg h1, if_pos (by omega), limbs_lim (by omega)]

theorem uSub_bad {a b : Nat} (ha : a < b) (hb : b < 115792089237316195423570985008687907853269984665640564039457584007913129639936) :
    sol_uint256_Sub (lim a, (lim b, ())) = some (([(0 : Int), (0 : Int), (0 : Int), (0 : Int)], ((4 : Int), ())), ((), ((), ()))) := by
  have ha2 : a < 115792089237316195423570985008687907853269984665640564039457584007913129639936 := by omega
  unfold sol_uint256_Sub T_uint256_Sub
  -- the borrow: what the low limbs lack
  refine bigLoop_rule (I := fun x => ∃ (i c : Nat) (s : List Int), i ≤ 4 ∧ s.length = 4 ∧ c ≤ 1 ∧ (c = 1 ↔ a % 18446744073709551616 ^ i < b % 18446744073709551616 ^ i) ∧
      x = (lim a, (lim b, ([(0 : Int), (0 : Int), (0 : Int), (0 : Int)], (s, (((c : Nat) : Int), (((i : Nat) : Int), ())))))))
    (m := fun x => ((4 : Int) - x.2.2.2.2.2.1).toNat) (g := fun _ => some (([(0 : Int), (0 : Int), (0 : Int), (0 : Int)], ((4 : Int), ())), ((), ((), ())))) ?_
    ⟨0, 0, [0, 0, 0, 0], by omega, rfl, by omega, by simp [Nat.mod_one], rfl⟩ (by rw [bigN_eq]; simp only; omega)
  rintro x again ⟨i, c, s, hi, hs, hc, hd, rfl⟩ hag
  simp only at hag ⊢
  unfold T_uint256_Sub_loop0
  simp only [brR_dec, brR_inR, brR_not]
  by_cases h1 : ((i : Nat) : Int) < 4
  · have ma : a % 18446744073709551616 ^ (i + 1) = a % 18446744073709551616 ^ i + 18446744073709551616 ^ i * lb a i := by rw [Nat.pow_succ, Nat.mod_mul]; rfl
    have mb : b % 18446744073709551616 ^ (i + 1) = b % 18446744073709551616 ^ i + 18446744073709551616 ^ i * lb b i := by rw [Nat.pow_succ, Nat.mod_mul]; rfl
    have p0 : 0 < 18446744073709551616 ^ i := Nat.pow_pos (by omega)
    have ra := Nat.mod_lt a p0; have rb := Nat.mod_lt b p0
    have hcmp : (((lb a i : Nat) : Int) < ((lb b i : Nat) : Int) + ((c : Nat) : Int)) ↔ a % 18446744073709551616 ^ (i + 1) < b % 18446744073709551616 ^ (i + 1) := by
      rw [ma, mb]
      generalize a % 18446744073709551616 ^ i = x at *
      generalize b % 18446744073709551616 ^ i = y at *
      generalize 18446744073709551616 ^ i = p at *
      generalize lb a i = u at *
      generalize lb b i = v at *
      rcases Nat.lt_trichotomy u v with h | h | h
      · have : p * (u + 1) ≤ p * v := Nat.mul_le_mul_left p h
        rw [Nat.mul_add, Nat.mul_one] at this
        constructor
        · intro _; omega
        · intro _; omega
      · subst h
        constructor
        · intro h; have : c = 1 := by omega
          have := hd.1 this; omega
        · intro h; have := hd.2 (by omega); omega
      · have : p * (v + 1) ≤ p * u := Nat.mul_le_mul_left p h
        rw [Nat.mul_add, Nat.mul_one] at this
        constructor
        · intro h'; omega
        · intro h'; omega
    rw [if_pos h1, if_pos (by omega), if_pos (by omega), Int.toNat_natCast, lb_get ha2 (by omega), lb_get hb (by omega), sub64_eq (by omega)]
    simp only [bind_some']
    rw [if_pos (by omega), w_i64 (by omega) (by omega)]
    by_cases hlt : ((lb a i : Nat) : Int) < ((lb b i : Nat) : Int) + ((c : Nat) : Int)
    · rw [if_pos hlt]
      exact hag _ ⟨i + 1, 1, (List.set s i ((((lb a i : Nat) : Int) - ((lb b i : Nat) : Int) - ((c : Nat) : Int)) % 18446744073709551616)), by omega, by rw [List.length_set]; exact hs, by omega, ⟨fun _ => hcmp.1 hlt, fun _ => rfl⟩, by rw [Int.natCast_add]; rfl⟩ (by simp only; omega)
    · rw [if_neg hlt]
      exact hag _ ⟨i + 1, 0, (List.set s i ((((lb a i : Nat) : Int) - ((lb b i : Nat) : Int) - ((c : Nat) : Int)) % 18446744073709551616)), by omega, by rw [List.length_set]; exact hs, by omega, ⟨fun h => by omega, fun h => absurd (hcmp.2 h) hlt⟩, by rw [Int.natCast_add]; rfl⟩ (by simp only; omega)
  · have hi4 : i = 4 := by omega
    subst hi4
    rw [pow4, Nat.mod_eq_of_lt ha2, Nat.mod_eq_of_lt hb] at hd
    have := hd.2 ha
    rw [if_neg h1, if_neg (by omega)]

end Go.Pon
/-
  The reference's numbers of any size: digits in base 65536.
-/
set_option autoImplicit false
set_option linter.unusedVariables false
set_option linter.unusedSimpArgs false
namespace Go.Pon
open Go

/-- The digits of a number, the least significant first, without a zero at the end. -/
def dg (n : Nat) : List Int := if h : n = 0 then [] else ((n % 65536 : Nat) : Int) :: dg (n / 65536)
termination_by n
decreasing_by omega

theorem dg_zero : dg 0 = [] := by rw [dg]; rfl
theorem dg_pos {n : Nat} (h : n ≠ 0) : dg n = ((n % 65536 : Nat) : Int) :: dg (n / 65536) := by rw [dg, dif_neg h]

theorem div_pow_succ (n i : Nat) : n / 65536 ^ (i + 1) = n / 65536 / 65536 ^ i := by rw [Nat.pow_succ, Nat.mul_comm, Nat.div_div_eq_div_mul]
theorem div_pow_succ' (n i : Nat) : n / 65536 ^ (i + 1) = n / 65536 ^ i / 65536 := by rw [Nat.pow_succ, Nat.div_div_eq_div_mul]

theorem dg_get : ∀ (i n : Nat), List.getD (dg n) i 0 = ((n / 65536 ^ i % 65536 : Nat) : Int)
  | i, n => by
    by_cases h : n = 0
    · subst h; rw [dg_zero]; simp
    · rw [dg_pos h]
      cases i with
      | zero => simp
      | succ i => rw [List.getD_cons_succ, dg_get i, div_pow_succ]

theorem dg_len : ∀ (i n : Nat), i < (dg n).length ↔ 0 < n / 65536 ^ i
  | i, n => by
    by_cases h : n = 0
    · subst h; rw [dg_zero]; simp
    · rw [dg_pos h]
      cases i with
      | zero => simp; omega
      | succ i => rw [List.length_cons, Nat.add_lt_add_iff_right, dg_len i, div_pow_succ]

theorem dg_digit (n i : Nat) : 0 ≤ List.getD (dg n) i 0 ∧ List.getD (dg n) i 0 ≤ 65535 := by rw [dg_get]; omega

/-- So many digits. -/
def lo (i n : Nat) : List Int := (List.range i).map fun k => ((n / 65536 ^ k % 65536 : Nat) : Int)

theorem lo_len (i n : Nat) : (lo i n).length = i := by simp [lo]
theorem lo_succ (i n : Nat) : lo (i + 1) n = lo i n ++ [((n / 65536 ^ i % 65536 : Nat) : Int)] := by simp [lo, List.range_succ]
theorem lo_get {i n k : Nat} (h : k < i) : List.getD (lo i n) k 0 = ((n / 65536 ^ k % 65536 : Nat) : Int) := by simp [lo, List.getD_eq_getElem?_getD, h]

theorem lo_dg {i n : Nat} (h1 : n / 65536 ^ i = 0) (h2 : i = 0 ∨ 0 < n / 65536 ^ (i - 1)) : lo i n = dg n := by
  have hl : (dg n).length = i := by
    have a := dg_len i n
    rw [h1] at a
    rcases h2 with rfl | h2
    · omega
    · have b := (dg_len (i - 1) n).2 h2
      omega
  refine ext_getD (d := 0) (by rw [lo_len, hl]) fun k hk => ?_
  rw [lo_len] at hk
  rw [lo_get hk, dg_get]

theorem div_mono0 {n i j : Nat} (h : n / 65536 ^ i = 0) (hij : i ≤ j) : n / 65536 ^ j = 0 := by
  obtain ⟨d, rfl⟩ := Nat.exists_eq_add_of_le hij
  rw [Nat.pow_add, ← Nat.div_div_eq_div_mul, h, Nat.zero_div]

theorem dg_len_le {n k : Nat} : (dg n).length ≤ k ↔ n / 65536 ^ k = 0 := by
  have := dg_len k n
  generalize n / 65536 ^ k = q at *
  constructor
  · intro h; omega
  · intro h; omega

theorem norm_lo {k n : Nat} (hk : k ≤ 1000000) (h : n / 65536 ^ k = 0) : sol_ref1_norm (lo k n, ()) = some ((dg n, ()), ((), ())) := by
  unfold sol_ref1_norm T_ref1_norm
  rw [lo_len]
  refine bigLoop_rule (I := fun x => ∃ j : Nat, j ≤ k ∧ n / 65536 ^ j = 0 ∧ x = (lo k n, (((j : Nat) : Int), ()))) (m := fun x => x.2.1.toNat) (g := fun _ => some ((dg n, ()), ((), ()))) ?_ ⟨k, Nat.le_refl _, h, rfl⟩ (by rw [bigN_eq]; simp only; omega)
  rintro x again ⟨j, hj, h0, rfl⟩ hag
  simp only at hag ⊢
  unfold T_ref1_norm_loop0
  have htake : List.take (Int.toNat ((j : Nat) : Int) - 0) (List.drop 0 (lo k n)) = lo j n := by
    rw [Int.toNat_natCast, Nat.sub_zero, List.drop_zero]
    refine ext_getD (d := 0) (by rw [List.length_take, lo_len, lo_len]; omega) fun i hi => ?_
    rw [List.length_take, lo_len] at hi
    rw [lo_get (by omega), List.getD_eq_getElem?_getD, List.getElem?_take, if_pos (by omega), ← List.getD_eq_getElem?_getD, lo_get (by omega)]
  simp only [letR_eq, brR_and, brR_dec, brR_inR, lo_len]
  by_cases h1 : ((j : Nat) : Int) > 0
  · rw [if_pos h1, w_i64 (by omega) (by omega), if_pos (by omega), show (((j : Nat) : Int) - 1).toNat = j - 1 by omega, lo_get (by omega)]
    by_cases h2 : ((n / 65536 ^ (j - 1) % 65536 : Nat) : Int) = 0
    · rw [if_pos h2]
      have h3 : n / 65536 ^ (j - 1) = 0 := by
        have e := div_pow_succ' n (j - 1)
        rw [show j - 1 + 1 = j by omega, h0] at e
        omega
      exact hag _ ⟨j - 1, by omega, h3, by rw [show ((j - 1 : Nat) : Int) = (j : Int) - 1 by omega]⟩ (by simp only; omega)
    · rw [if_neg h2, if_pos (by omega), if_pos (by omega), htake, lo_dg h0 (.inr (Nat.pos_of_ne_zero fun h => h2 (by rw [h]; rfl)))]
  · have : j = 0 := by omega
    subst this
    rw [if_neg h1, if_pos (by omega), if_pos (by omega), htake, lo_dg h0 (.inl rfl)]

/-! ### Addition -/

theorem and65535 {n : Nat} (h : n < 18446744073709551616) : (((BitVec.toNat ((BitVec.ofInt 64 ((n : Nat) : Int)) &&& (BitVec.ofInt 64 65535)) : Nat) : Int)) = ((n % 65536 : Nat) : Int) := by
  rw [BitVec.toNat_and, show BitVec.toNat (BitVec.ofInt 64 65535) = 2 ^ 16 - 1 from rfl, Nat.and_two_pow_sub_one_eq_mod, BitVec.ofInt_natCast, BitVec.toNat_ofNat, show n % 2 ^ 64 = n from Nat.mod_eq_of_lt (by omega)]

theorem i64_size : (Ty.int IntKind.i64).size = 1 := rfl

theorem brR_roomI {α : Type} {n : Nat} (h : n ≤ 1000000000) (a b : Option α) : brR (roomy n (.int .i64)) a b = a := by
  rw [brR_roomy, i64_size, if_pos ⟨by omega, by omega⟩]

theorem add_loop_eq {A B : Nat} (hA : (dg A).length ≤ 1000) (hB : (dg B).length ≤ 1000) : sol_ref1_Add (dg A, (dg B, ())) = some ((dg (A + B), ()), ((), ((), ()))) := by
  unfold sol_ref1_Add T_ref1_Add
  have hm : (dg (A + B)).length ≤ 1002 := by
    refine dg_len_le.2 ?_
    have h1 := div_mono0 (dg_len_le.1 hA) (show 1000 ≤ 1001 by omega)
    have h2 := div_mono0 (dg_len_le.1 hB) (show 1000 ≤ 1001 by omega)
    generalize hK : (1001 : Nat) = K at h1 h2
    rw [show (1002 : Nat) = K + 1 by omega, Nat.pow_succ]
    have p0 : 0 < 65536 ^ K := Nat.pow_pos (by omega)
    have a1 := (Nat.div_eq_zero_iff_lt p0).1 h1
    have a2 := (Nat.div_eq_zero_iff_lt p0).1 h2
    exact Nat.div_eq_of_lt (by omega)
  refine bigLoop_rule (I := fun x => ∃ (i c : Nat), c ≤ 1 ∧ (A + B) / 65536 ^ i = A / 65536 ^ i + B / 65536 ^ i + c ∧ (i = 0 ∨ 0 < (A + B) / 65536 ^ (i - 1)) ∧ x = (dg A, (dg B, (lo i (A + B), (((c : Nat) : Int), (((i : Nat) : Int), ()))))))
    (m := fun x => ((1003 : Int) - x.2.2.2.2.1).toNat) (g := fun _ => some ((dg (A + B), ()), ((), ((), ())))) ?_ ⟨0, 0, by omega, by simp, .inl rfl, rfl⟩ (by rw [bigN_eq]; simp only; omega)
  rintro x again ⟨i, c, hc, hd, hz, rfl⟩ hag
  have hi : i ≤ 1002 := by
    rcases hz with rfl | hz
    · omega
    · have := (dg_len _ _).2 hz; omega
  simp only at hag ⊢
  have la := dg_len i A; have lb := dg_len i B
  have ga := dg_get i A; have gb := dg_get i B
  have sa := div_pow_succ' A i; have sb := div_pow_succ' B i; have ss := div_pow_succ' (A + B) i
  have hls := lo_succ i (A + B)
  have hpos : (0 < A / 65536 ^ i ∨ 0 < B / 65536 ^ i ∨ 0 < c) → 0 < (A + B) / 65536 ^ i := fun h => by
    rw [hd]
    generalize A / 65536 ^ i = q1 at *
    generalize B / 65536 ^ i = q2 at *
    omega
  have hnx : (A + B) / 65536 ^ (i + 1) = A / 65536 ^ (i + 1) + B / 65536 ^ (i + 1) + (c + A / 65536 ^ i % 65536 + B / 65536 ^ i % 65536) / 65536 := by
    rw [sa, sb, ss, hd]
    generalize A / 65536 ^ i = q1 at *
    generalize B / 65536 ^ i = q2 at *
    omega
  have step : (0 < A / 65536 ^ i ∨ 0 < B / 65536 ^ i ∨ 0 < c) → again (dg A, (dg B, (lo (i + 1) (A + B), ((((c + A / 65536 ^ i % 65536 + B / 65536 ^ i % 65536) / 65536 : Nat) : Int), (((i : Nat) : Int) + 1, ()))))) = some ((dg (A + B), ()), ((), ((), ()))) := fun h =>
    hag _ ⟨i + 1, (c + A / 65536 ^ i % 65536 + B / 65536 ^ i % 65536) / 65536, by omega, hnx, .inr (by rw [Nat.add_sub_cancel]; exact hpos h), by rw [Int.natCast_add]; rfl⟩ (by simp only; omega)
  have fin : A / 65536 ^ i = 0 → B / 65536 ^ i = 0 → c = 0 → lo i (A + B) = dg (A + B) := fun h1 h2 h3 => lo_dg (by omega) hz
  clear hag hm hA hB
  unfold T_ref1_Add_loop0
  simp only [letR_eq, brR_dec, brR_inR, append_def, Int.toNat_natCast, lo_len, ga, gb]
  generalize A / 65536 ^ i = a1 at *
  generalize B / 65536 ^ i = b1 at *
  generalize (A + B) / 65536 ^ i = s1 at *
  generalize hla : (dg A).length = nla at *
  generalize hlb : (dg B).length = nlb at *
  have hroom : ∀ {α : Type} (a b : Option α), brR (roomy (i + 1) (.int .i64)) a b = a := fun a b => brR_roomI (by omega) a b
  simp only [hroom]
  have hv6 : IntKind.wrap .i64 (((c : Nat) : Int) + ((a1 % 65536 : Nat) : Int)) = ((c + a1 % 65536 : Nat) : Int) := by rw [w_i64 (by omega) (by omega)]; omega
  have hv7 : IntKind.wrap .i64 (((c : Nat) : Int) + ((b1 % 65536 : Nat) : Int)) = ((c + b1 % 65536 : Nat) : Int) := by rw [w_i64 (by omega) (by omega)]; omega
  have hv8 : IntKind.wrap .i64 (((c + a1 % 65536 : Nat) : Int) + ((b1 % 65536 : Nat) : Int)) = ((c + a1 % 65536 + b1 % 65536 : Nat) : Int) := by rw [w_i64 (by omega) (by omega)]; omega
  have hwi : IntKind.wrap .i64 (((i : Nat) : Int) + 1) = ((i : Nat) : Int) + 1 := w_i64 (by omega) (by omega)
  have hfd : ∀ k : Nat, Int.fdiv ((k : Nat) : Int) 65536 = ((k / 65536 : Nat) : Int) := fun k => by rw [Int.fdiv_eq_ediv_of_nonneg _ (by omega)]; omega
  have hwm : ∀ k : Nat, IntKind.wrap .i64 (((k % 65536 : Nat) : Int)) = ((k % 65536 : Nat) : Int) := fun k => w_i64 (by omega) (by omega)
  simp only [hv6, hv7, hv8, hwi]
  rw [and65535 (n := c + a1 % 65536 + b1 % 65536) (by omega), and65535 (n := c + a1 % 65536) (by omega), and65535 (n := c + b1 % 65536) (by omega), and65535 (n := c) (by omega)]
  simp only [hfd, hwm]
  rw [hls] at step
  have ed : s1 % 65536 = (c + a1 % 65536 + b1 % 65536) % 65536 := by omega
  rw [ed] at step
  by_cases ca : ((i : Nat) : Int) < ((nla : Nat) : Int)
  · have ia : (0 : Int) ≤ ((i : Nat) : Int) ∧ ((i : Nat) : Int) < ((nla : Nat) : Int) := by omega
    simp only [if_pos ca, if_pos ia]
    by_cases cb : ((i : Nat) : Int) < ((nlb : Nat) : Int)
    · have ib : (0 : Int) ≤ ((i : Nat) : Int) ∧ ((i : Nat) : Int) < ((nlb : Nat) : Int) := by omega
      simp only [if_pos cb, if_pos ib]
      exact step (by omega)
    · simp only [if_neg cb]
      have : b1 = 0 := by omega
      subst this
      have := step (by omega)
      simp only [Nat.zero_mod, Nat.add_zero] at this
      exact this
  · have ha0 : a1 = 0 := by omega
    subst ha0
    simp only [if_neg ca]
    by_cases cb : ((i : Nat) : Int) < ((nlb : Nat) : Int)
    · have ib : (0 : Int) ≤ ((i : Nat) : Int) ∧ ((i : Nat) : Int) < ((nlb : Nat) : Int) := by omega
      simp only [if_pos cb, if_pos ib]
      have := step (by omega)
      simp only [Nat.zero_mod, Nat.add_zero] at this
      exact this
    · have hb0 : b1 = 0 := by omega
      subst hb0
      simp only [if_neg cb]
      by_cases cc : ((c : Nat) : Int) > 0
      · simp only [if_pos cc]
        have := step (by omega)
        simp only [Nat.zero_mod, Nat.add_zero] at this
        exact this
      · rw [if_neg cc, fin rfl rfl (by omega)]

/-! ### From and to 256 bits -/

theorem limb_get {n q : Nat} (hn : n < 115792089237316195423570985008687907853269984665640564039457584007913129639936) (hq : q < 4) : List.getD (lim n) q 0 = ((n / 18446744073709551616 ^ q % 18446744073709551616 : Nat) : Int) := by
  unfold lim
  match q, hq with
  | 0, _ => simp
  | 1, _ => simp
  | 2, _ => simp only [List.getD_cons_succ, List.getD_cons_zero, Nat.reducePow]
  | 3, _ =>
    simp only [List.getD_cons_succ, List.getD_cons_zero, Nat.reducePow]
    omega

theorem pow16 (r : Nat) : (65536 : Nat) ^ r = 2 ^ (16 * r) := by rw [Nat.pow_mul]

/-- A digit out of a limb. -/
theorem digit_of {n i : Nat} (hi : i < 16) : n / 18446744073709551616 ^ (i / 4) % 18446744073709551616 / 2 ^ (16 * (i % 4)) % 65536 = n / 65536 ^ i % 65536 := by
  have e : (65536 : Nat) ^ i = 18446744073709551616 ^ (i / 4) * 2 ^ (16 * (i % 4)) := by
    rw [show (18446744073709551616 : Nat) = 65536 ^ 4 from by decide, ← Nat.pow_mul, ← pow16, ← Nat.pow_add]
    congr 1
    omega
  rw [e, ← Nat.div_div_eq_div_mul]
  generalize n / 18446744073709551616 ^ (i / 4) = Y
  have : i % 4 = 0 ∨ i % 4 = 1 ∨ i % 4 = 2 ∨ i % 4 = 3 := by omega
  rcases this with h | h | h | h
  all_goals
    rw [h]
    simp only [Nat.reduceMul, Nat.reducePow]
    omega

theorem from_eq {n : Nat} (hn : n < 115792089237316195423570985008687907853269984665640564039457584007913129639936) : sol_ref1_FromUint256 (lim n, ()) = some ((dg n, ()), ((), ())) := by
  unfold sol_ref1_FromUint256 T_ref1_FromUint256
  have h16 : n / 65536 ^ 16 = 0 := Nat.div_eq_of_lt (by rw [show (65536 : Nat) ^ 16 = 115792089237316195423570985008687907853269984665640564039457584007913129639936 from by decide]; exact hn)
  refine bigLoop_rule (I := fun x => ∃ i : Nat, i ≤ 16 ∧ x = (lim n, (lo i n ++ List.replicate (16 - i) 0, (((i : Nat) : Int), ())))) (m := fun x => ((16 : Int) - x.2.2.1).toNat) (g := fun _ => some ((dg n, ()), ((), ()))) ?_ ⟨0, by omega, rfl⟩ (by rw [bigN_eq]; simp only; omega)
  rintro x again ⟨i, hi, rfl⟩ hag
  simp only at hag ⊢
  unfold T_ref1_FromUint256_loop0
  simp only [letR_eq, brR_dec, brR_inR]
  by_cases h1 : ((i : Nat) : Int) < 16
  · have hi16 : i < 16 := by omega
    have t1 : Int.tmod ((i : Nat) : Int) 4 = ((i % 4 : Nat) : Int) := by rw [tmod_pos (by omega)]; omega
    have t2 : Int.tdiv ((i : Nat) : Int) 4 = ((i / 4 : Nat) : Int) := by rw [tdiv_pos (by omega)]; omega
    have t3 : IntKind.wrap .i64 ((16 : Int) * ((i % 4 : Nat) : Int)) = ((16 * (i % 4) : Nat) : Int) := by rw [w_i64 (by omega) (by omega)]; omega
    have t4 : IntKind.wrap .u64 (((16 * (i % 4) : Nat) : Int)) = ((16 * (i % 4) : Nat) : Int) := w_u64 (by omega) (by omega)
    have t5 : IntKind.wrap .i64 (((i / 4 : Nat) : Int)) = ((i / 4 : Nat) : Int) := w_i64 (by omega) (by omega)
    have t6 : IntKind.wrap .i64 (((i : Nat) : Int) + 1) = ((i : Nat) : Int) + 1 := w_i64 (by omega) (by omega)
    simp only [t1, t2, t3, t4, t5, t6]
    rw [if_pos h1, if_pos (by omega), if_pos (by omega), if_pos (by rw [List.length_append, lo_len, List.length_replicate]; omega), Int.toNat_natCast, Int.toNat_natCast, Int.toNat_natCast, limb_get hn (by omega), Nat.min_eq_left (by omega)]
    have hq : Int.fdiv ((n / 18446744073709551616 ^ (i / 4) % 18446744073709551616 : Nat) : Int) ((2 : Int) ^ (16 * (i % 4))) = ((n / 18446744073709551616 ^ (i / 4) % 18446744073709551616 / 2 ^ (16 * (i % 4)) : Nat) : Int) := by
      rw [Int.fdiv_eq_ediv_of_nonneg _ (Int.le_of_lt (Int.pow_pos (by omega)))]
      rw [Int.natCast_ediv, Int.natCast_pow]
      rfl
    rw [hq, and65535 (by
      refine Nat.lt_of_le_of_lt (Nat.div_le_self _ _) ?_
      exact Nat.mod_lt _ (by omega)), digit_of hi16]
    have hset : List.set (lo i n ++ List.replicate (16 - i) 0) i ((n / 65536 ^ i % 65536 : Nat) : Int) = lo (i + 1) n ++ List.replicate (16 - (i + 1)) 0 := by
      rw [List.set_append, if_neg (by rw [lo_len]; omega), lo_len, Nat.sub_self, show 16 - i = (16 - (i + 1)) + 1 by omega, List.replicate_succ, List.set_cons_zero, lo_succ]
      simp
    have hw : IntKind.wrap .i64 (IntKind.wrap .u64 (((n / 65536 ^ i % 65536 : Nat) : Int))) = ((n / 65536 ^ i % 65536 : Nat) : Int) := by
      have := Nat.mod_lt (n / 65536 ^ i) (show 0 < 65536 by omega)
      rw [w_u64 (by omega) (by omega), w_i64 (by omega) (by omega)]
    rw [hw, hset]
    exact hag _ ⟨i + 1, by omega, by rw [Int.natCast_add]; rfl⟩ (by simp only; omega)
  · have hi16 : i = 16 := by omega
    subst hi16
    rw [if_neg h1, Nat.sub_self, List.replicate_zero, List.append_nil, norm_lo (by omega) h16]
    rfl

theorem fits_iff {n : Nat} : (dg n).length ≤ 16 ↔ n < 115792089237316195423570985008687907853269984665640564039457584007913129639936 := by
  rw [dg_len_le, show (65536 : Nat) ^ 16 = 115792089237316195423570985008687907853269984665640564039457584007913129639936 from by decide]
  omega

theorem fits_eq (n : Nat) : sol_ref1_Fits (dg n, ()) = some ((decide (n < 115792089237316195423570985008687907853269984665640564039457584007913129639936), ()), ((), ())) := by
  unfold sol_ref1_Fits T_ref1_Fits
  simp only
  by_cases h : n < 115792089237316195423570985008687907853269984665640564039457584007913129639936
  · rw [decide_eq_true h, decide_eq_true (by have := fits_iff.2 h; omega)]
  · rw [decide_eq_false h, decide_eq_false (by
      intro h2
      exact h (fits_iff.1 (by omega)))]

theorem lim_step {n i : Nat} (hi : i < 16) : List.set (lim (n % 65536 ^ i)) (i / 4) ((((n % 65536 ^ i) / 18446744073709551616 ^ (i / 4) % 18446744073709551616 + (n / 65536 ^ i % 65536) * 2 ^ (16 * (i % 4))) % 18446744073709551616 : Nat) : Int) = lim (n % 65536 ^ (i + 1)) := by
  have key : n % 65536 ^ (i + 1) = n % 65536 ^ i + 65536 ^ i * (n / 65536 ^ i % 65536) := by rw [Nat.pow_succ, Nat.mod_mul]
  rw [key]
  have hd := Nat.mod_lt (n / 65536 ^ i) (show 0 < 65536 by omega)
  have hm := Nat.mod_lt n (show 0 < 65536 ^ i from Nat.pow_pos (by omega))
  generalize n / 65536 ^ i % 65536 = d at hd ⊢
  generalize n % 65536 ^ i = m at hm ⊢
  have hc : i = 0 ∨ i = 1 ∨ i = 2 ∨ i = 3 ∨ i = 4 ∨ i = 5 ∨ i = 6 ∨ i = 7 ∨ i = 8 ∨ i = 9 ∨ i = 10 ∨ i = 11 ∨ i = 12 ∨ i = 13 ∨ i = 14 ∨ i = 15 := by omega
  unfold lim
  rcases hc with rfl | rfl | rfl | rfl | rfl | rfl | rfl | rfl | rfl | rfl | rfl | rfl | rfl | rfl | rfl | rfl
  all_goals
    simp only [Nat.reduceDiv, Nat.reduceMod, Nat.reduceMul, Nat.reducePow, Nat.pow_zero, Nat.div_one, Nat.mul_one, List.set_cons_zero, List.set_cons_succ, List.cons.injEq, and_true] at hm ⊢
    refine ⟨?_, ?_, ?_, ?_⟩ <;> omega

theorem lim0 : lim 0 = [(0 : Int), (0 : Int), (0 : Int), (0 : Int)] := rfl

theorem to_eq {n : Nat} (hn : n < 115792089237316195423570985008687907853269984665640564039457584007913129639936) : sol_ref1_ToUint256 (dg n, ()) = some ((lim n, ()), ((), ())) := by
  unfold sol_ref1_ToUint256 T_ref1_ToUint256
  have hl := fits_iff.2 hn
  have hend : n % 65536 ^ (dg n).length = n := by
    have := (dg_len_le (n := n) (k := (dg n).length)).1 (Nat.le_refl _)
    exact Nat.mod_eq_of_lt ((Nat.div_eq_zero_iff_lt (Nat.pow_pos (by omega))).1 this)
  refine bigLoop_rule (I := fun x => ∃ i : Nat, i ≤ (dg n).length ∧ x = (dg n, ([(0 : Int), (0 : Int), (0 : Int), (0 : Int)], (lim (n % 65536 ^ i), (((i : Nat) : Int), ()))))) (m := fun x => ((17 : Int) - x.2.2.2.1).toNat) (g := fun _ => some ((lim n, ()), ((), ()))) ?_
    ⟨0, by omega, by rw [Nat.pow_zero, Nat.mod_one, lim0]; rfl⟩ (by rw [bigN_eq]; simp only; omega)
  rintro x again ⟨i, hi, rfl⟩ hag
  simp only at hag ⊢
  unfold T_ref1_ToUint256_loop0
  simp only [letR_eq, brR_dec, brR_inR]
  by_cases h1 : ((i : Nat) : Int) < (((dg n).length : Nat) : Int)
  · have hi16 : i < 16 := by omega
    have t1 : Int.tmod ((i : Nat) : Int) 4 = ((i % 4 : Nat) : Int) := by rw [tmod_pos (by omega)]; omega
    have t2 : Int.tdiv ((i : Nat) : Int) 4 = ((i / 4 : Nat) : Int) := by rw [tdiv_pos (by omega)]; omega
    have t3 : IntKind.wrap .i64 ((16 : Int) * ((i % 4 : Nat) : Int)) = ((16 * (i % 4) : Nat) : Int) := by rw [w_i64 (by omega) (by omega)]; omega
    have t4 : IntKind.wrap .u64 (((16 * (i % 4) : Nat) : Int)) = ((16 * (i % 4) : Nat) : Int) := w_u64 (by omega) (by omega)
    have t5 : IntKind.wrap .i64 (((i / 4 : Nat) : Int)) = ((i / 4 : Nat) : Int) := w_i64 (by omega) (by omega)
    have t6 : IntKind.wrap .i64 (((i : Nat) : Int) + 1) = ((i : Nat) : Int) + 1 := w_i64 (by omega) (by omega)
    simp only [t1, t2, t3, t4, t5, t6]
    have hd := Nat.mod_lt (n / 65536 ^ i) (show 0 < 65536 by omega)
    have hmn : n % 65536 ^ i < 115792089237316195423570985008687907853269984665640564039457584007913129639936 := Nat.lt_of_le_of_lt (Nat.mod_le _ _) hn
    rw [if_pos h1, if_pos (by omega), if_pos (by omega), if_pos (by omega), if_pos (by omega), if_pos (by omega), Int.toNat_natCast, Int.toNat_natCast, Int.toNat_natCast, limb_get hmn (by omega), dg_get, Nat.min_eq_left (by omega)]
    have hw1 : IntKind.wrap .u64 (((n / 65536 ^ i % 65536 : Nat) : Int)) = ((n / 65536 ^ i % 65536 : Nat) : Int) := w_u64 (by omega) (by omega)
    have hr : 2 ^ (16 * (i % 4)) ≤ 281474976710656 := by
      have : i % 4 = 0 ∨ i % 4 = 1 ∨ i % 4 = 2 ∨ i % 4 = 3 := by omega
      rcases this with h | h | h | h <;> rw [h] <;> decide
    have hw2 : IntKind.wrap .u64 (((n / 65536 ^ i % 65536 : Nat) : Int) * (2 : Int) ^ (16 * (i % 4))) = (((n / 65536 ^ i % 65536) * 2 ^ (16 * (i % 4)) : Nat) : Int) := by
      have h65 : (n / 65536 ^ i % 65536) * 2 ^ (16 * (i % 4)) ≤ 65535 * 281474976710656 := Nat.mul_le_mul (by omega) hr
      have e : ((n / 65536 ^ i % 65536 : Nat) : Int) * (2 : Int) ^ (16 * (i % 4)) = (((n / 65536 ^ i % 65536) * 2 ^ (16 * (i % 4)) : Nat) : Int) := by
        rw [Int.natCast_mul, Int.natCast_pow]; rfl
      rw [e, w_u64 (by omega) (by omega)]
    have hw3 : ∀ a b : Nat, IntKind.wrap .u64 (((a : Nat) : Int) + ((b : Nat) : Int)) = (((a + b) % 18446744073709551616 : Nat) : Int) := fun a b => by rw [IntKind.wrap_u64]; omega
    rw [hw1, hw2, hw3, lim_step hi16]
    exact hag _ ⟨i + 1, by omega, by rw [Int.natCast_add]; rfl⟩ (by simp only; omega)
  · have hie : i = (dg n).length := by omega
    rw [if_neg h1, hie, hend]

theorem checked_eq (n : Nat) : sol_ref1_Checked (dg n, ()) = some ((if n < 115792089237316195423570985008687907853269984665640564039457584007913129639936 then (lim n, ((0 : Int), ())) else ([(0 : Int), (0 : Int), (0 : Int), (0 : Int)], ((4 : Int), ()))), ((), ())) := by
  unfold sol_ref1_Checked T_ref1_Checked
  rw [fits_eq]
  simp only [bind_some', brR_not, brR_dec]
  by_cases h : n < 115792089237316195423570985008687907853269984665640564039457584007913129639936
  · rw [if_pos h, if_pos h, to_eq h]
    rfl
  · rw [if_neg h, if_neg h]

theorem add256_eq {a b : Nat} (ha : a < 115792089237316195423570985008687907853269984665640564039457584007913129639936) (hb : b < 115792089237316195423570985008687907853269984665640564039457584007913129639936) :
    sol_ref1_Add256 (lim a, (lim b, ())) = some ((if a + b < 115792089237316195423570985008687907853269984665640564039457584007913129639936 then (lim (a + b), ((0 : Int), ())) else ([(0 : Int), (0 : Int), (0 : Int), (0 : Int)], ((4 : Int), ()))), ((), ((), ()))) := by
  have la := fits_iff.2 ha; have lb := fits_iff.2 hb
  unfold sol_ref1_Add256 T_ref1_Add256
  rw [from_eq ha]; simp only [bind_some']
  rw [from_eq hb]; simp only [bind_some']
  rw [add_loop_eq (by omega) (by omega)]; simp only [bind_some']
  rw [checked_eq]
  rfl

/-! ### Comparison -/

def cmpN (a b : Nat) : Int := if a < b then -1 else if b < a then 1 else 0

theorem cmp_eq {a b : Nat} (ha : (dg a).length ≤ 1000) (hb : (dg b).length ≤ 1000) : sol_ref1_Cmp (dg a, (dg b, ())) = some ((cmpN a b, ()), ((), ((), ()))) := by
  have ltl : ∀ {x y : Nat}, (dg x).length < (dg y).length → x < y := fun {x y} h => by
    have h1 := (dg_len_le (n := x) (k := (dg x).length)).1 (Nat.le_refl _)
    have h2 := (dg_len (dg x).length y).1 h
    have p0 : 0 < 65536 ^ (dg x).length := Nat.pow_pos (by omega)
    have h3 := (Nat.div_eq_zero_iff_lt p0).1 h1
    rcases Nat.lt_or_ge x y with h | h
    · exact h
    · have : y / 65536 ^ (dg x).length ≤ x / 65536 ^ (dg x).length := Nat.div_le_div_right h
      omega
  unfold sol_ref1_Cmp T_ref1_Cmp
  simp only [brR_not, brR_dec]
  by_cases hl : (((dg a).length : Nat) : Int) = (((dg b).length : Nat) : Int)
  · rw [if_pos hl]
    have hl' : (dg a).length = (dg b).length := by omega
    rw [w_i64 (by omega) (by omega)]
    refine bigLoop_rule (I := fun x => ∃ i : Nat, i ≤ (dg a).length ∧ a / 65536 ^ i = b / 65536 ^ i ∧ x = (dg a, (dg b, (((i : Nat) : Int) - 1, ())))) (m := fun x => (x.2.2.1 + 1).toNat) (g := fun _ => some ((cmpN a b, ()), ((), ((), ())))) ?_
      ⟨(dg a).length, Nat.le_refl _, by rw [(dg_len_le (n := a)).1 (Nat.le_refl _), hl', (dg_len_le (n := b)).1 (Nat.le_refl _)], rfl⟩ (by rw [bigN_eq]; simp only; omega)
    rintro x again ⟨i, hi, he, rfl⟩ hag
    simp only at hag ⊢
    unfold T_ref1_Cmp_loop0
    simp only [brR_dec, brR_inR]
    by_cases h1 : ((i : Nat) : Int) - 1 ≥ 0
    · have hti : (((i : Nat) : Int) - 1).toNat = i - 1 := by omega
      have ea := div_pow_succ' a (i - 1); have eb := div_pow_succ' b (i - 1)
      rw [show i - 1 + 1 = i by omega] at ea eb
      have lta : a / 65536 ^ (i - 1) < b / 65536 ^ (i - 1) → a < b := fun h => by
        rcases Nat.lt_or_ge a b with h' | h'
        · exact h'
        · have : b / 65536 ^ (i - 1) ≤ a / 65536 ^ (i - 1) := Nat.div_le_div_right h'
          omega
      have ltb : b / 65536 ^ (i - 1) < a / 65536 ^ (i - 1) → b < a := fun h => by
        rcases Nat.lt_or_ge b a with h' | h'
        · exact h'
        · have : a / 65536 ^ (i - 1) ≤ b / 65536 ^ (i - 1) := Nat.div_le_div_right h'
          omega
      have hnx : a / 65536 ^ (i - 1) = b / 65536 ^ (i - 1) → again (dg a, (dg b, (((i : Nat) : Int) - 1 - 1, ()))) = some ((cmpN a b, ()), ((), ((), ()))) := fun h =>
        hag _ ⟨i - 1, by omega, h, by rw [show ((i - 1 : Nat) : Int) = (i : Int) - 1 by omega]⟩ (by simp only; omega)
      have iA : (0 : Int) ≤ ((i : Nat) : Int) - 1 ∧ ((i : Nat) : Int) - 1 < (((dg a).length : Nat) : Int) := by omega
      have iB : (0 : Int) ≤ ((i : Nat) : Int) - 1 ∧ ((i : Nat) : Int) - 1 < (((dg b).length : Nat) : Int) := by omega
      simp only [if_pos h1, if_pos iA, if_pos iB]
      rw [hti, dg_get, dg_get, w_i64 (by omega) (by omega)]
      rw [ea, eb] at he
      clear hag
      generalize a / 65536 ^ (i - 1) = qa at *
      generalize b / 65536 ^ (i - 1) = qb at *
      by_cases c1 : ((qa % 65536 : Nat) : Int) < ((qb % 65536 : Nat) : Int)
      · rw [if_pos c1]
        unfold cmpN
        rw [if_pos (lta (by omega))]
      · rw [if_neg c1]
        by_cases c2 : ((qa % 65536 : Nat) : Int) > ((qb % 65536 : Nat) : Int)
        · rw [if_pos c2]
          have := ltb (by omega)
          unfold cmpN
          rw [if_neg (by omega), if_pos this]
        · rw [if_neg c2]
          exact hnx (by omega)
    · have : i = 0 := by omega
      subst this
      rw [if_neg h1]
      simp only [Nat.pow_zero, Nat.div_one] at he
      subst he
      unfold cmpN
      simp
  · rw [if_neg hl]
    by_cases hlt : (((dg a).length : Nat) : Int) < (((dg b).length : Nat) : Int)
    · rw [if_pos hlt]
      unfold cmpN
      rw [if_pos (ltl (by omega))]
    · rw [if_neg hlt]
      have := ltl (x := b) (y := a) (by omega)
      unfold cmpN
      rw [if_neg (by omega), if_pos this]

/-! ### Subtraction -/

theorem sub_loop_eq {A D B : Nat} (hD : A = B + D) (hA : (dg A).length ≤ 1000) : sol_ref1_Sub (dg A, (dg B, ())) = some ((dg D, ()), ((), ((), ()))) := by
  unfold sol_ref1_Sub T_ref1_Sub
  have hend : A / 65536 ^ (dg A).length = 0 := (dg_len_le (n := A)).1 (Nat.le_refl _)
  have hDend : D / 65536 ^ (dg A).length = 0 := by
    have : D / 65536 ^ (dg A).length ≤ A / 65536 ^ (dg A).length := Nat.div_le_div_right (by omega)
    rw [hend] at this
    exact Nat.le_zero.1 this
  rw [decide_eq_true (show (0 : Int) ≤ (((dg A).length : Nat) : Int) by omega), decide_eq_true (Int.le_refl _), Int.toNat_natCast]
  simp only [Bool.and_self, Bool.true_and, Bool.and_true]
  rw [brR_roomI (by omega)]
  refine bigLoop_rule (I := fun x => ∃ (i u : Nat), i ≤ (dg A).length ∧ u ≤ 1 ∧ A / 65536 ^ i = B / 65536 ^ i + D / 65536 ^ i + u ∧ x = (dg A, (dg B, (lo i D ++ List.replicate ((dg A).length - i) 0, (((u : Nat) : Int), (((i : Nat) : Int), ()))))))
    (m := fun x => ((1001 : Int) - x.2.2.2.2.1).toNat) (g := fun _ => some ((dg D, ()), ((), ((), ())))) ?_ ⟨0, 0, by omega, by omega, by simp [hD], rfl⟩ (by rw [bigN_eq]; simp only; omega)
  rintro x again ⟨i, u, hi, hu, hd, rfl⟩ hag
  simp only at hag ⊢
  have la := dg_len i A; have lb := dg_len i B
  have ga := dg_get i A; have gb := dg_get i B
  have sa := div_pow_succ' A i; have sb := div_pow_succ' B i; have sd := div_pow_succ' D i
  have hset : i < (dg A).length → List.set (lo i D ++ List.replicate ((dg A).length - i) 0) i ((D / 65536 ^ i % 65536 : Nat) : Int) = lo (i + 1) D ++ List.replicate ((dg A).length - (i + 1)) 0 := fun h => by
    rw [List.set_append, if_neg (by rw [lo_len]; omega), lo_len, Nat.sub_self, show (dg A).length - i = ((dg A).length - (i + 1)) + 1 by omega, List.replicate_succ, List.set_cons_zero, lo_succ]
    simp
  have hol : (lo i D ++ List.replicate ((dg A).length - i) 0).length = (dg A).length := by rw [List.length_append, lo_len, List.length_replicate]; omega
  have step : ∀ u' : Nat, u' ≤ 1 → A / 65536 ^ i / 65536 = B / 65536 ^ i / 65536 + D / 65536 ^ i / 65536 + u' → i < (dg A).length → again (dg A, (dg B, (lo (i + 1) D ++ List.replicate ((dg A).length - (i + 1)) 0, (((u' : Nat) : Int), (((i : Nat) : Int) + 1, ()))))) = some ((dg D, ()), ((), ((), ()))) := fun u' h1 h2 h3 =>
    hag _ ⟨i + 1, u', by omega, h1, by rw [sa, sb, sd]; exact h2, by rw [Int.natCast_add]; rfl⟩ (by simp only; omega)
  clear hag
  unfold T_ref1_Sub_loop0
  simp only [letR_eq, brR_dec, brR_inR, Int.toNat_natCast, ga, gb, hol]
  by_cases h1 : ((i : Nat) : Int) < (((dg A).length : Nat) : Int)
  · have hil : i < (dg A).length := by omega
    have hset := hset hil
    have step := fun u' h1 h2 => step u' h1 h2 hil
    have iA : (0 : Int) ≤ ((i : Nat) : Int) ∧ ((i : Nat) : Int) < (((dg A).length : Nat) : Int) := by omega
    have hwi : IntKind.wrap .i64 (((i : Nat) : Int) + 1) = ((i : Nat) : Int) + 1 := w_i64 (by omega) (by omega)
    simp only [if_pos h1, if_pos iA, hwi]
    generalize A / 65536 ^ i = a1 at *
    generalize B / 65536 ^ i = b1 at *
    generalize D / 65536 ^ i = d1 at *
    generalize (dg A).length = nla at *
    generalize (dg B).length = nlb at *
    have hv6 : IntKind.wrap .i64 (((a1 % 65536 : Nat) : Int) - ((u : Nat) : Int)) = ((a1 % 65536 : Nat) : Int) - ((u : Nat) : Int) := w_i64 (by omega) (by omega)
    have hv7 : IntKind.wrap .i64 (((a1 % 65536 : Nat) : Int) - ((u : Nat) : Int) - ((b1 % 65536 : Nat) : Int)) = ((a1 % 65536 : Nat) : Int) - ((u : Nat) : Int) - ((b1 % 65536 : Nat) : Int) := w_i64 (by omega) (by omega)
    have hv8 : IntKind.wrap .i64 (((a1 % 65536 : Nat) : Int) - ((u : Nat) : Int) + 65536) = ((a1 % 65536 : Nat) : Int) - ((u : Nat) : Int) + 65536 := w_i64 (by omega) (by omega)
    have hv9 : IntKind.wrap .i64 (((a1 % 65536 : Nat) : Int) - ((u : Nat) : Int) - ((b1 % 65536 : Nat) : Int) + 65536) = ((a1 % 65536 : Nat) : Int) - ((u : Nat) : Int) - ((b1 % 65536 : Nat) : Int) + 65536 := w_i64 (by omega) (by omega)
    simp only [hv6, hv7, hv8, hv9]
    by_cases cb : ((i : Nat) : Int) < ((nlb : Nat) : Int)
    · have iB : (0 : Int) ≤ ((i : Nat) : Int) ∧ ((i : Nat) : Int) < ((nlb : Nat) : Int) := by omega
      simp only [if_pos cb, if_pos iB]
      by_cases cn : ((a1 % 65536 : Nat) : Int) - ((u : Nat) : Int) - ((b1 % 65536 : Nat) : Int) < 0
      · rw [if_pos cn, show ((a1 % 65536 : Nat) : Int) - ((u : Nat) : Int) - ((b1 % 65536 : Nat) : Int) + 65536 = ((d1 % 65536 : Nat) : Int) by omega, hset]
        exact step 1 (by omega) (by omega)
      · rw [if_neg cn, show ((a1 % 65536 : Nat) : Int) - ((u : Nat) : Int) - ((b1 % 65536 : Nat) : Int) = ((d1 % 65536 : Nat) : Int) by omega, hset]
        exact step 0 (by omega) (by omega)
    · have hb0 : b1 = 0 := by omega
      subst hb0
      simp only [if_neg cb]
      by_cases cn : ((a1 % 65536 : Nat) : Int) - ((u : Nat) : Int) < 0
      · rw [if_pos cn, show ((a1 % 65536 : Nat) : Int) - ((u : Nat) : Int) + 65536 = ((d1 % 65536 : Nat) : Int) by omega, hset]
        exact step 1 (by omega) (by omega)
      · rw [if_neg cn, show ((a1 % 65536 : Nat) : Int) - ((u : Nat) : Int) = ((d1 % 65536 : Nat) : Int) by omega, hset]
        exact step 0 (by omega) (by omega)
  · have hie : i = (dg A).length := by omega
    rw [if_neg h1]
    subst hie
    rw [Nat.sub_self, List.replicate_zero, List.append_nil, norm_lo (by omega) hDend]
    rfl

theorem sub256_eq {a b : Nat} (ha : a < 115792089237316195423570985008687907853269984665640564039457584007913129639936) (hb : b < 115792089237316195423570985008687907853269984665640564039457584007913129639936) :
    sol_ref1_Sub256 (lim a, (lim b, ())) = some ((if b ≤ a then (lim (a - b), ((0 : Int), ())) else ([(0 : Int), (0 : Int), (0 : Int), (0 : Int)], ((4 : Int), ()))), ((), ((), ()))) := by
  have la := fits_iff.2 ha; have lb := fits_iff.2 hb
  unfold sol_ref1_Sub256 T_ref1_Sub256
  rw [from_eq ha]; simp only [bind_some']
  rw [from_eq hb]; simp only [bind_some']
  rw [cmp_eq (by omega) (by omega)]; simp only [bind_some', brR_dec]
  unfold cmpN
  by_cases h : b ≤ a
  · rw [if_neg (show ¬ a < b by omega), if_neg (by split <;> omega), if_pos h, sub_loop_eq (A := a) (B := b) (D := a - b) (by omega) (by omega)]
    simp only [bind_some']
    rw [to_eq (by omega)]
    rfl
  · rw [if_pos (show a < b by omega), if_pos (by omega), if_neg h]

theorem isZero_eq (n : Nat) : sol_ref1_IsZero (lim n, ()) = some ((decide (n = 0), ()), ((), ())) := by
  unfold sol_ref1_IsZero T_ref1_IsZero
  rw [← lim0, eqD_lim]

end Go.Pon
/-
  Tables of posters: what the package's functions and the reference's compute.
-/
set_option autoImplicit false
set_option linter.unusedVariables false
set_option linter.unusedSimpArgs false
namespace Go.Pon
open Go

abbrev PosterT := Int × (List Int × (List Int × (List Int × (List Int × (Int × Unit)))))
abbrev zPoster : PosterT := ((0 : Int), ([(0 : Int), (0 : Int), (0 : Int), (0 : Int)], ([(0 : Int), (0 : Int), (0 : Int), (0 : Int)], ([(0 : Int), (0 : Int), (0 : Int), (0 : Int)], ([(0 : Int), (0 : Int), (0 : Int), (0 : Int)], ((0 : Int), ()))))))
abbrev newP (a : Int) : PosterT := (a, ([(0 : Int), (0 : Int), (0 : Int), (0 : Int)], ([(0 : Int), (0 : Int), (0 : Int), (0 : Int)], ([(0 : Int), (0 : Int), (0 : Int), (0 : Int)], ([(0 : Int), (0 : Int), (0 : Int), (0 : Int)], ((0 : Int), ()))))))

theorem zP_eq : (Ty.zero (.pair (.int .u64) (.pair (.arr 4 (.int .u64)) (.pair (.arr 4 (.int .u64)) (.pair (.arr 4 (.int .u64)) (.pair (.arr 4 (.int .u64)) (.pair (.int .u64) .unit)))))) : PosterT) = zPoster := rfl

inductive PosterW : PosterT → Prop
  | mk {a : Int} {d c r p : Nat} {s : Int} (ha : U64 a) (hd : B256 d) (hc : B256 c) (hr : B256 r) (hp : B256 p) (hs : U64 s) : PosterW (a, (lim d, (lim c, (lim r, (lim p, (s, ()))))))

def AllP (l : List PosterT) : Prop := ∀ p ∈ l, PosterW p

theorem zPosterW : PosterW zPoster := by
  have := PosterW.mk (a := 0) (d := 0) (c := 0) (r := 0) (p := 0) (s := 0) (by unfold U64; omega) (by unfold B256; omega) (by unfold B256; omega) (by unfold B256; omega) (by unfold B256; omega) (by unfold U64; omega)
  exact this

theorem newPW {a : Int} (h : U64 a) : PosterW (newP a) := by
  have := PosterW.mk (a := a) (d := 0) (c := 0) (r := 0) (p := 0) (s := 0) h (by unfold B256; omega) (by unfold B256; omega) (by unfold B256; omega) (by unfold B256; omega) (by unfold U64; omega)
  exact this

theorem AllP.at {l : List PosterT} (h : AllP l) (i : Nat) : PosterW (l.getD i zPoster) := by
  rcases Nat.lt_or_ge i l.length with hi | hi
  · exact h _ (getD_mem hi)
  · rw [List.getD_eq_getElem?_getD, List.getElem?_eq_none hi]; exact zPosterW

/-- Is an entry good? -/
def goodP (p : PosterT) : Bool := decide (p.1 ≠ 0) && (decide (val4 p.2.1 + val4 p.2.2.2.2.1 = val4 p.2.2.1 + val4 p.2.2.2.1) && decide ((p.2.2.2.2.2.1 = 0) ↔ (val4 p.2.1 = 0)))

def okAt (l : List PosterT) (i : Nat) : Prop := goodP (l.getD i zPoster) = true ∧ (0 < i → (l.getD (i - 1) zPoster).1 < (l.getD i zPoster).1)

def PVal (l : List PosterT) : Prop := l.length ≤ 64 ∧ ∀ i, i < l.length → okAt l i

open Classical in
noncomputable def pvalid (l : List PosterT) : Bool := decide (PVal l)
theorem pvalid_iff {l : List PosterT} : pvalid l = true ↔ PVal l := by unfold pvalid; simp only [decide_eq_true_eq]
theorem pvalid_ne {l : List PosterT} (h : ¬ PVal l) : pvalid l = false := by unfold pvalid; simp only [decide_eq_false_iff_not]; exact h

theorem goodP_mk {a : Int} {d c r p : Nat} {s : Int} : goodP (a, (lim d, (lim c, (lim r, (lim p, (s, ())))))) = (decide (a ≠ 0) && (decide (d + p = c + r) && decide ((s = 0) ↔ (d = 0)))) := by
  unfold goodP
  simp only [val4_lim]

theorem posterIsZero_eq (n : Nat) : sol_poster_isZero (lim n, ()) = some ((decide (n = 0), ()), ((), ())) := by
  unfold sol_poster_isZero T_poster_isZero
  rw [← lim0, eqD_lim]

theorem eqB_iff {p q : Prop} [Decidable p] [Decidable q] : eqD .bool (decide p) (decide q) = decide (p ↔ q) := by
  rw [Bool.eq_iff_iff, eqD_iff]
  by_cases hp : p <;> by_cases hq : q <;> simp [hp, hq]

theorem posterValid_eq {l : List PosterT} (ha : AllP l) (hl : l.length ≤ 1000000) : sol_poster_Valid (l, ()) = some ((pvalid l, ()), ((), ())) := by
  unfold sol_poster_Valid T_poster_Valid
  refine bigLoop_rule (I := fun x => ∃ i : Nat, i ≤ l.length ∧ (∀ j, j < i → okAt l j) ∧ x = (l, (l, (((l.length : Nat) : Int), (((i : Nat) : Int), ()))))) (m := fun x => (((l.length : Nat) : Int) - x.2.2.2.1).toNat)
    (g := fun _ => some ((pvalid l, ()), ((), ()))) ?_ ⟨0, by omega, fun j hj => by omega, rfl⟩ (by rw [bigN_eq]; simp only; omega)
  rintro x again ⟨i, hi, hok, rfl⟩ hag
  simp only at hag ⊢
  unfold T_poster_Valid_loop0
  rw [zP_eq]
  simp only [letR_eq]
  by_cases h1 : ((i : Nat) : Int) < ((l.length : Nat) : Int)
  · have hil : i < l.length := by omega
    have ii : (0 : Int) ≤ ((i : Nat) : Int) ∧ ((i : Nat) : Int) < ((l.length : Nat) : Int) := by omega
    have bad : ¬ okAt l i → pvalid l = false := fun h => pvalid_ne fun hv => h (hv.2 i hil)
    have hnx : okAt l i → again (l, (l, (((l.length : Nat) : Int), (((i : Nat) : Int) + 1, ())))) = some ((pvalid l, ()), ((), ())) := fun h =>
      hag _ ⟨i + 1, by omega, fun j hj => by
        by_cases e : j = i
        · rw [e]; exact h
        · exact hok j (by omega), by rw [Int.natCast_add]; rfl⟩ (by simp only; omega)
    clear hag
    have hp := ha.at i
    have hwi : IntKind.wrap .i64 (((i : Nat) : Int) + 1) = ((i : Nat) : Int) + 1 := w_i64 (by omega) (by omega)
    have hwj : IntKind.wrap .i64 (((i : Nat) : Int) - 1) = ((i : Nat) : Int) - 1 := w_i64 (by omega) (by omega)
    have htj : (((i : Nat) : Int) - 1).toNat = i - 1 := by omega
    unfold okAt at bad hnx
    rw [hwi, hwj, htj, Int.toNat_natCast]
    generalize l.getD i zPoster = p at hp bad hnx ⊢
    generalize l.getD (i - 1) zPoster = q at bad hnx ⊢
    obtain ⟨h2, hd, hc, hr, hpd, hs⟩ := hp
    rename_i a d c r pd s
    rw [goodP_mk] at bad hnx
    simp only at bad hnx ⊢
    simp only [brR_dec, brR_inR, brR_not, if_pos h1, if_pos ii]
    unfold B256 at hd hc hr hpd
    rw [psum_eq hd hpd, psum_eq hc hr, posterIsZero_eq]
    simp only [bind_some']
    rw [eqB_iff, brR_dec]
    have e5 : eqD (.arr 5 (.int .u64)) (limbs 5 5 (d + pd)) (limbs 5 5 (c + r)) = decide (d + pd = c + r) := by
      rw [Bool.eq_iff_iff, eqD_iff, decide_eq_true_eq]
      exact limbs5_inj (by omega) (by omega)
    rw [e5, brR_dec]
    by_cases ca : a = 0
    · rw [if_pos ca, bad (by simp [ca])]
    rw [if_neg ca]
    have tail : (0 < i → q.1 < a) → (if d + pd = c + r then (if (s = 0 ↔ d = 0) then again (l, (l, (((l.length : Nat) : Int), (((i : Nat) : Int) + 1, ())))) else some ((false, ()), ((), ()))) else some ((false, ()), ((), ()))) = some ((pvalid l, ()), ((), ())) := fun hq => by
      by_cases c1 : d + pd = c + r
      · rw [if_pos c1]
        by_cases c2 : (s = 0 ↔ d = 0)
        · rw [if_pos c2]
          exact hnx ⟨by simp [ca, c1, c2], hq⟩
        · rw [if_neg c2, bad (by simp [c2])]
      · rw [if_neg c1, bad (by simp [c1])]
    by_cases c3 : ((i : Nat) : Int) > 0
    · have ij : (0 : Int) ≤ ((i : Nat) : Int) - 1 ∧ ((i : Nat) : Int) - 1 < ((l.length : Nat) : Int) := by omega
      rw [if_pos c3, if_pos ij]
      by_cases c4 : a ≤ q.1
      · rw [if_pos c4, bad (fun h => by have := h.2 (by omega); omega)]
      · rw [if_neg c4]
        exact tail fun _ => by omega
    · rw [if_neg c3]
      exact tail fun h => by omega
  · have hie : i = l.length := by omega
    rw [decide_eq_false h1, brR_false]
    by_cases h64 : ((l.length : Nat) : Int) ≤ 64
    · rw [decide_eq_true h64, pvalid_iff.2 ⟨by omega, fun j hj => hok j (by omega)⟩]
    · rw [decide_eq_false h64, pvalid_ne fun h => by have := h.1; omega]

theorem validPoster_eq {p : PosterT} (hp : PosterW p) : sol_ref16_ValidPoster (p, ()) = some ((goodP p, ()), ((), ())) := by
  obtain ⟨h2, hd, hc, hr, hpd, hs⟩ := hp
  rename_i a d c r pd s
  rw [goodP_mk]
  unfold B256 at hd hc hr hpd
  have ld := fits_iff.2 hd; have lc := fits_iff.2 hc; have lr := fits_iff.2 hr; have lp := fits_iff.2 hpd
  unfold sol_ref16_ValidPoster T_ref16_ValidPoster
  simp only
  rw [from_eq hd, from_eq hpd]; simp only [bind_some']
  rw [add_loop_eq (by omega) (by omega)]; simp only [bind_some']
  rw [from_eq hc, from_eq hr]; simp only [bind_some']
  rw [add_loop_eq (by omega) (by omega)]; simp only [bind_some']
  have l17 : ∀ x y : Nat, x < 115792089237316195423570985008687907853269984665640564039457584007913129639936 → y < 115792089237316195423570985008687907853269984665640564039457584007913129639936 → (dg (x + y)).length ≤ 17 := fun x y hx hy =>
    dg_len_le.2 (Nat.div_eq_of_lt (by rw [show (65536 : Nat) ^ 17 = 7588550360256754183279148073529370729071901715047420004889892225542594864082845696 from by decide]; omega))
  have q1 := l17 d pd hd hpd; have q2 := l17 c r hc hr
  rw [cmp_eq (by omega) (by omega), isZero_eq]
  simp only [bind_some', brR_not, brR_dec]
  rw [eqB_iff]
  unfold cmpN
  by_cases ca : a = 0
  · rw [if_pos ca]; simp [ca]
  rw [if_neg ca]
  by_cases c1 : d + pd = c + r
  · rw [if_pos (by rw [if_neg (by omega), if_neg (by omega)])]
    simp [ca, c1]
  · have hcn : ¬ ((if d + pd < c + r then (-1 : Int) else if c + r < d + pd then 1 else 0) = 0) := by
      by_cases c2 : d + pd < c + r
      · rw [if_pos c2]; decide
      · rw [if_neg c2, if_pos (by omega)]; decide
    rw [if_neg hcn]
    simp [c1]

theorem rValidP_eq {l : List PosterT} (ha : AllP l) (hl : l.length ≤ 1000000) : sol_ref16_Valid (l, ()) = some ((pvalid l, ()), ((), ())) := by
  unfold sol_ref16_Valid T_ref16_Valid
  simp only [brR_dec]
  by_cases h64 : ((l.length : Nat) : Int) > 64
  · rw [if_pos h64, pvalid_ne fun h => by have := h.1; omega]
  rw [if_neg h64]
  refine bigLoop_rule (I := fun x => ∃ i : Nat, i ≤ l.length ∧ (∀ j, j < i → okAt l j) ∧ x = (l, (((i : Nat) : Int), ()))) (m := fun x => (((l.length : Nat) : Int) - x.2.1).toNat)
    (g := fun _ => some ((pvalid l, ()), ((), ()))) ?_ ⟨0, by omega, fun j hj => by omega, rfl⟩ (by rw [bigN_eq]; simp only; omega)
  rintro x again ⟨i, hi, hok, rfl⟩ hag
  simp only at hag ⊢
  unfold T_ref16_Valid_loop0
  rw [zP_eq]
  simp only [letR_eq, brR_dec, brR_inR, brR_not]
  by_cases h1 : ((i : Nat) : Int) < ((l.length : Nat) : Int)
  · have hil : i < l.length := by omega
    have ii : (0 : Int) ≤ ((i : Nat) : Int) ∧ ((i : Nat) : Int) < ((l.length : Nat) : Int) := by omega
    have bad : ¬ okAt l i → pvalid l = false := fun h => pvalid_ne fun hv => h (hv.2 i hil)
    have hnx : okAt l i → again (l, (((i : Nat) : Int) + 1, ())) = some ((pvalid l, ()), ((), ())) := fun h =>
      hag _ ⟨i + 1, by omega, fun j hj => by
        by_cases e : j = i
        · rw [e]; exact h
        · exact hok j (by omega), by rw [Int.natCast_add]; rfl⟩ (by simp only; omega)
    clear hag
    have hwi : IntKind.wrap .i64 (((i : Nat) : Int) + 1) = ((i : Nat) : Int) + 1 := w_i64 (by omega) (by omega)
    have hwj : IntKind.wrap .i64 (((i : Nat) : Int) - 1) = ((i : Nat) : Int) - 1 := w_i64 (by omega) (by omega)
    have htj : (((i : Nat) : Int) - 1).toNat = i - 1 := by omega
    unfold okAt at bad hnx
    simp only [if_pos h1, if_pos ii, hwi, hwj, htj, Int.toNat_natCast]
    rw [validPoster_eq (ha.at i)]
    simp only [bind_some']
    cases hg : goodP (l.getD i zPoster) with
    | false => rw [brR_false, bad (fun h => by rw [hg] at h; cases h.1)]
    | true =>
      rw [brR_true]
      by_cases c3 : ((i : Nat) : Int) > 0
      · have ij : (0 : Int) ≤ ((i : Nat) : Int) - 1 ∧ ((i : Nat) : Int) - 1 < ((l.length : Nat) : Int) := by omega
        rw [if_pos c3, if_pos ij]
        by_cases c4 : (l.getD i zPoster).1 ≤ (l.getD (i - 1) zPoster).1
        · rw [if_pos c4, bad (fun h => by have := h.2 (by omega); omega)]
        · rw [if_neg c4]
          exact hnx ⟨hg, fun _ => by omega⟩
      · rw [if_neg c3]
        exact hnx ⟨hg, fun h => by omega⟩
  · rw [if_neg h1, pvalid_iff.2 ⟨by omega, fun j hj => hok j (by omega)⟩]

/-! ### Finding -/

def pfindA : List PosterT → Int → Nat → Int
  | [], _, _ => -1
  | p :: l, a, k => if p.1 = a then ((k : Nat) : Int) else pfindA l a (k + 1)

def pfind (l : List PosterT) (a : Int) : Int := pfindA l a 0

theorem pfindA_spec (a : Int) : ∀ (l : List PosterT) (k : Nat), (pfindA l a k = -1 ∧ ∀ i, i < l.length → (l.getD i zPoster).1 ≠ a) ∨ ∃ j, j < l.length ∧ pfindA l a k = ((k + j : Nat) : Int) ∧ (l.getD j zPoster).1 = a
  | [], k => .inl ⟨rfl, fun i hi => by simp at hi⟩
  | p :: l, k => by
    unfold pfindA
    by_cases h : p.1 = a
    · rw [if_pos h]
      exact .inr ⟨0, by simp, rfl, h⟩
    · rw [if_neg h]
      rcases pfindA_spec a l (k + 1) with ⟨h1, h2⟩ | ⟨j, h1, h2, h3⟩
      · refine .inl ⟨h1, fun i hi => ?_⟩
        cases i with
        | zero => exact h
        | succ i => exact h2 i (by simpa using hi)
      · exact .inr ⟨j + 1, by simpa using h1, by rw [h2]; omega, h3⟩

theorem pfind_spec (l : List PosterT) (a : Int) : (pfind l a = -1 ∧ ∀ i, i < l.length → (l.getD i zPoster).1 ≠ a) ∨ ∃ j : Nat, j < l.length ∧ pfind l a = ((j : Nat) : Int) ∧ (l.getD j zPoster).1 = a := by
  have := pfindA_spec a l 0
  simpa [pfind] using this

theorem drop_cons {l : List PosterT} {i : Nat} (h : i < l.length) : l.drop i = l.getD i zPoster :: l.drop (i + 1) := by
  rw [List.drop_eq_getElem_cons h, List.getD_eq_getElem?_getD, List.getElem?_eq_getElem h]
  rfl

theorem posterFind_eq {l : List PosterT} {a : Int} (hl : l.length ≤ 1000000) : sol_poster_Find (l, (a, ())) = some ((pfind l a, ()), ((), ((), ()))) := by
  have h : sol_slices_IndexFunc_api_Poster_api_Poster (l, ((a, ()), ())) = some ((pfind l a, ()), ((), ((), ()))) := by
    unfold sol_slices_IndexFunc_api_Poster_api_Poster T_slices_IndexFunc_api_Poster_api_Poster
    refine bigLoop_rule (I := fun x => ∃ i : Nat, i ≤ l.length ∧ pfind l a = pfindA (l.drop i) a i ∧ x = (l, ((a, ()), (((l.length : Nat) : Int), (((i : Nat) : Int), ()))))) (m := fun x => (((l.length : Nat) : Int) - x.2.2.2.1).toNat)
      (g := fun _ => some ((pfind l a, ()), ((), ((), ())))) ?_ ⟨0, by omega, rfl, rfl⟩ (by rw [bigN_eq]; simp only; omega)
    rintro x again ⟨i, hi, hf, rfl⟩ hag
    simp only at hag ⊢
    unfold T_slices_IndexFunc_api_Poster_api_Poster_loop0
    simp only [brR_dec, brR_inR]
    by_cases h1 : ((i : Nat) : Int) < ((l.length : Nat) : Int)
    · have hil : i < l.length := by omega
      rw [if_pos h1, if_pos (by omega), Int.toNat_natCast]
      unfold sol_poster_Find_1 T_poster_Find_1
      simp only [bind_some', brR_dec]
      rw [drop_cons hil] at hf
      unfold pfindA at hf
      by_cases he : (l.getD i zPoster).1 = a
      · rw [if_pos he] at hf ⊢
        rw [hf]
      · rw [if_neg he] at hf ⊢
        rw [w_i64 (by omega) (by omega)]
        exact hag _ ⟨i + 1, by omega, hf, by rw [Int.natCast_add]; rfl⟩ (by simp only; omega)
    · rw [if_neg h1]
      rw [List.drop_of_length_le (by omega)] at hf
      rw [hf]
      rfl
  unfold sol_poster_Find T_poster_Find
  rw [h]
  rfl

theorem rFind_eq {l : List PosterT} {a : Int} (hl : l.length ≤ 1000000) : sol_ref16_Find (l, (a, ())) = some ((pfind l a, ()), ((), ((), ()))) := by
  unfold sol_ref16_Find T_ref16_Find
  refine bigLoop_rule (I := fun x => ∃ i : Nat, i ≤ l.length ∧ pfind l a = pfindA (l.drop i) a i ∧ x = (l, (a, (((i : Nat) : Int), ())))) (m := fun x => (((l.length : Nat) : Int) - x.2.2.1).toNat)
    (g := fun _ => some ((pfind l a, ()), ((), ((), ())))) ?_ ⟨0, by omega, rfl, rfl⟩ (by rw [bigN_eq]; simp only; omega)
  rintro x again ⟨i, hi, hf, rfl⟩ hag
  simp only at hag ⊢
  unfold T_ref16_Find_loop0
  rw [zP_eq]
  simp only [letR_eq, brR_dec, brR_inR]
  by_cases h1 : ((i : Nat) : Int) < ((l.length : Nat) : Int)
  · have hil : i < l.length := by omega
    rw [if_pos h1, if_pos (by omega), Int.toNat_natCast]
    rw [drop_cons hil] at hf
    unfold pfindA at hf
    by_cases he : (l.getD i zPoster).1 = a
    · rw [if_pos he] at hf ⊢
      rw [hf]
    · rw [if_neg he] at hf ⊢
      rw [w_i64 (by omega) (by omega)]
      exact hag _ ⟨i + 1, by omega, hf, by rw [Int.natCast_add]; rfl⟩ (by simp only; omega)
  · rw [if_neg h1]
    rw [List.drop_of_length_le (by omega)] at hf
    rw [hf]
    rfl

end Go.Pon
/-
  Tables of posters: sums and new entries.
-/
set_option autoImplicit false
set_option linter.unusedVariables false
set_option linter.unusedSimpArgs false
namespace Go.Pon
open Go

/-! ### Sums -/

/-- What an entry owes. -/
def dueN (p : PosterT) : Nat := val4 p.2.1

def psum : List PosterT → Nat
  | [] => 0
  | p :: l => dueN p + psum l
theorem psum_nil : psum [] = 0 := rfl
theorem psum_cons (p : PosterT) (l : List PosterT) : psum (p :: l) = dueN p + psum l := rfl

theorem psum_append (l m : List PosterT) : psum (l ++ m) = psum l + psum m := by
  induction l with
  | nil => rw [List.nil_append, psum_nil, Nat.zero_add]
  | cons p l ih => rw [List.cons_append, psum_cons, psum_cons, ih, Nat.add_assoc]

theorem psum_take {l : List PosterT} {i : Nat} (h : i < l.length) : psum (l.take (i + 1)) = psum (l.take i) + dueN (l.getD i zPoster) := by
  rw [List.take_add_one, List.getElem?_eq_getElem h, psum_append, List.getD_eq_getElem?_getD, List.getElem?_eq_getElem h, Option.toList_some, Option.getD_some, psum_cons, psum_nil, Nat.add_zero]

theorem psum_le (l : List PosterT) (i : Nat) : psum (l.take i) ≤ psum l := by
  have := psum_append (l.take i) (l.drop i)
  rw [List.take_append_drop] at this
  omega

theorem posterDue {p : PosterT} (h : PosterW p) : p.2.1 = lim (dueN p) ∧ dueN p < 115792089237316195423570985008687907853269984665640564039457584007913129639936 := by
  obtain ⟨_, hd, _, _, _, _⟩ := h
  unfold B256 at hd
  unfold dueN
  simp only [val4_lim, true_and]
  exact hd

theorem psum_bound {l : List PosterT} {M : Nat} (h : ∀ i, dueN (l.getD i zPoster) ≤ M) : ∀ i, i ≤ l.length → psum (l.take i) ≤ M * i := by
  intro i
  induction i with
  | zero => intro _; rw [List.take_zero, psum_nil]; exact Nat.zero_le _
  | succ i ih =>
    intro hi
    rw [psum_take (by omega), Nat.mul_succ]
    exact Nat.add_le_add (ih (by omega)) (h i)

noncomputable def ptotal (l : List PosterT) : List Int × (Int × Unit) :=
  if pvalid l = true then (if psum l < 115792089237316195423570985008687907853269984665640564039457584007913129639936 then (lim (psum l), ((0 : Int), ())) else ([(0 : Int), (0 : Int), (0 : Int), (0 : Int)], ((4 : Int), ()))) else ([(0 : Int), (0 : Int), (0 : Int), (0 : Int)], ((2 : Int), ()))

theorem posterTotal_eq {l : List PosterT} (ha : AllP l) (hl : l.length ≤ 1000000) : sol_poster_TotalDue (l, ()) = some ((ptotal l), ((), ())) := by
  unfold sol_poster_TotalDue T_poster_TotalDue ptotal
  rw [posterValid_eq ha hl]
  simp only [bind_some', brR_not]
  by_cases hv : PVal l
  case neg => rw [pvalid_ne hv, brR_false, if_neg (by simp)]
  rw [pvalid_iff.2 hv, brR_true, if_pos rfl]
  have hadd := fun a b ha hb => @uAdd_eq a b ha hb
  have hdue := fun i => posterDue (ha.at i)
  have h0 : (0 : Nat) < 115792089237316195423570985008687907853269984665640564039457584007913129639936 := by omega
  generalize (115792089237316195423570985008687907853269984665640564039457584007913129639936 : Nat) = M at hadd hdue h0 ⊢
  refine bigLoop_rule (I := fun x => ∃ i : Nat, i ≤ l.length ∧ psum (l.take i) < M ∧ x = ([(0 : Int), (0 : Int), (0 : Int), (0 : Int)], (lim (psum (l.take i)), (l, (((l.length : Nat) : Int), (((i : Nat) : Int), ()))))))
    (m := fun x => (((l.length : Nat) : Int) - x.2.2.2.2.1).toNat) (g := fun _ => some ((if psum l < M then (lim (psum l), ((0 : Int), ())) else ([(0 : Int), (0 : Int), (0 : Int), (0 : Int)], ((4 : Int), ()))), ((), ()))) ?_
    ⟨0, by omega, by rw [List.take_zero, psum_nil]; exact h0, by rw [List.take_zero, psum_nil, lim0]; rfl⟩ (by rw [bigN_eq]; simp only; omega)
  rintro x again ⟨i, hi, hs, rfl⟩ hag
  simp only at hag ⊢
  unfold T_poster_TotalDue_loop0
  rw [zP_eq]
  simp only [brR_dec, brR_inR, brR_not]
  by_cases h1 : ((i : Nat) : Int) < ((l.length : Nat) : Int)
  · have hil : i < l.length := by omega
    obtain ⟨d1, d2⟩ := hdue i
    rw [if_pos h1, if_pos (by omega), Int.toNat_natCast, d1, hadd _ _ hs d2]
    have hst := psum_take hil
    by_cases hf : psum (l.take i) + dueN (l.getD i zPoster) < M
    · rw [if_pos hf, bind_some', if_pos rfl, w_i64 (by omega) (by omega)]
      have e : psum (l.take (i + 1)) < M := by rw [hst]; exact hf
      rw [← hst]
      exact hag ([(0 : Int), (0 : Int), (0 : Int), (0 : Int)], (lim (psum (l.take (i + 1))), (l, (((l.length : Nat) : Int), (((i : Nat) : Int) + 1, ()))))) ⟨i + 1, by omega, e, by rw [Int.natCast_add]; rfl⟩ (by simp only; omega)
    · have := psum_le l (i + 1)
      have hn : ¬ psum l < M := by omega
      rw [if_neg hf, bind_some', if_neg (by decide), if_neg hn]
  · have hie : i = l.length := by omega
    subst hie
    rw [List.take_length] at hs ⊢
    rw [if_neg h1, if_pos hs]

theorem rTotal_eq {l : List PosterT} (ha : AllP l) (hl : l.length ≤ 1000000) : sol_ref16_TotalDue (l, ()) = some ((ptotal l), ((), ())) := by
  unfold sol_ref16_TotalDue T_ref16_TotalDue ptotal
  rw [rValidP_eq ha hl]
  simp only [bind_some', brR_not]
  by_cases hv : PVal l
  case neg => rw [pvalid_ne hv, brR_false, if_neg (by simp)]
  rw [pvalid_iff.2 hv, brR_true, if_pos rfl]
  have hl64 := hv.1
  refine bigLoop_rule (I := fun x => ∃ i : Nat, i ≤ l.length ∧ x = (l, ([(0 : Int), (0 : Int), (0 : Int), (0 : Int)], (dg (psum (l.take i)), (((i : Nat) : Int), ())))))
    (m := fun x => (((l.length : Nat) : Int) - x.2.2.2.1).toNat) (g := fun _ => some ((if psum l < 115792089237316195423570985008687907853269984665640564039457584007913129639936 then (lim (psum l), ((0 : Int), ())) else ([(0 : Int), (0 : Int), (0 : Int), (0 : Int)], ((4 : Int), ()))), ((), ()))) ?_
    ⟨0, by omega, by rw [List.take_zero, psum_nil, dg_zero]; rfl⟩ (by rw [bigN_eq]; simp only; omega)
  rintro x again ⟨i, hi, rfl⟩ hag
  simp only at hag ⊢
  unfold T_ref16_TotalDue_loop0
  rw [zP_eq]
  simp only [letR_eq, brR_dec, brR_inR, brR_not]
  by_cases h1 : ((i : Nat) : Int) < ((l.length : Nat) : Int)
  · have hil : i < l.length := by omega
    obtain ⟨d1, d2⟩ := posterDue (ha.at i)
    have hb := psum_bound (l := l) (M := 115792089237316195423570985008687907853269984665640564039457584007913129639935) (fun j => Nat.le_of_lt_succ (posterDue (ha.at j)).2) i (by omega)
    have hb2 : psum (l.take i) ≤ 115792089237316195423570985008687907853269984665640564039457584007913129639935 * 64 := Nat.le_trans hb (Nat.mul_le_mul_left _ (by omega))
    rw [show 115792089237316195423570985008687907853269984665640564039457584007913129639935 * 64 = 7410693711188236507108543040556026102609279018600996098525285376506440296955840 from by decide] at hb2
    clear hb
    rw [if_pos h1, if_pos (by omega), Int.toNat_natCast, d1, from_eq d2]
    have hst := psum_take hil
    have ld := fits_iff.2 d2
    simp only [bind_some']
    have h17 : (dg (psum (l.take i))).length ≤ 17 := dg_len_le.2 (Nat.div_eq_of_lt (by rw [show (65536 : Nat) ^ 17 = 7588550360256754183279148073529370729071901715047420004889892225542594864082845696 from by decide]; omega))
    rw [add_loop_eq (by omega) (by omega)]
    simp only [bind_some']
    rw [← hst, w_i64 (by omega) (by omega)]
    exact hag _ ⟨i + 1, by omega, by rw [Int.natCast_add]; rfl⟩ (by simp only; omega)
  · have hie : i = l.length := by omega
    subst hie
    rw [if_neg h1, List.take_length, checked_eq]
    rfl

/-! ### A new entry -/

/-- So many entries stand ahead of an address. -/
def cntP : List PosterT → Int → Nat
  | [], _ => 0
  | p :: l, a => if p.1 < a then cntP l a + 1 else 0

theorem cntP_cons (p : PosterT) (l : List PosterT) (a : Int) : cntP (p :: l) a = if p.1 < a then cntP l a + 1 else 0 := rfl

theorem cntP_le (a : Int) : ∀ l : List PosterT, cntP l a ≤ l.length
  | [] => by simp [cntP]
  | p :: l => by
    have := cntP_le a l
    unfold cntP
    split
    · simp; omega
    · simp

/-- The table with a new entry. -/
def pins (l : List PosterT) (a : Int) : List PosterT := l.take (cntP l a) ++ (newP a :: l.drop (cntP l a))

noncomputable def padd (l : List PosterT) (a : Int) : List PosterT × (Int × Unit) :=
  if pvalid l = true then (if a = 0 then ([], ((2 : Int), ())) else if pfind l a ≥ 0 then ([], ((9 : Int), ())) else if l.length = 64 then ([], ((7 : Int), ())) else (pins l a, ((0 : Int), ()))) else ([], ((2 : Int), ()))

theorem roomyP {n : Nat} (h : n ≤ 1000000) : roomy n (.pair (.int .u64) (.pair (.arr 4 (.int .u64)) (.pair (.arr 4 (.int .u64)) (.pair (.arr 4 (.int .u64)) (.pair (.arr 4 (.int .u64)) (.pair (.int .u64) .unit)))))) = true := by
  rw [roomy_dec, decide_eq_true_eq]
  exact ⟨by decide, by simp only [Ty.size]; omega⟩

theorem cloneP_eq {l : List PosterT} (h : l.length ≤ 1000000) : sol_slices_Clone_api_Poster_api_Poster (l, ()) = some ((l, ()), ((), ())) := by
  unfold sol_slices_Clone_api_Poster_api_Poster T_slices_Clone_api_Poster_api_Poster
  simp only [letR_eq]
  rw [roomyP (by omega), brR_true, brR_dec]
  split
  · rename_i h0
    have : l = [] := List.length_eq_zero_iff.1 h0
    subst this
    exact bothR_eq rfl rfl
  · rfl

theorem insertP_eq {l : List PosterT} {p : PosterT} {i : Nat} (h : l.length ≤ 999990) (hi : i ≤ l.length) : sol_slices_Insert_api_Poster_api_Poster (l, (((i : Nat) : Int), ([p], ()))) = some ((l.take i ++ (p :: l.drop i), ()), ((), ((), ((), ())))) := by
  unfold sol_slices_Insert_api_Poster_api_Poster T_slices_Insert_api_Poster_api_Poster insF
  have hr : roomy (List.length l + List.length [p]) (.pair (.int .u64) (.pair (.arr 4 (.int .u64)) (.pair (.arr 4 (.int .u64)) (.pair (.arr 4 (.int .u64)) (.pair (.arr 4 (.int .u64)) (.pair (.int .u64) .unit)))))) = true := roomyP (by simp; omega)
  have hc : (0 : Int) ≤ ((i : Nat) : Int) ∧ ((i : Nat) : Int) ≤ ((List.length l : Nat) : Int) ∧ 0 < List.length [p] ∧ roomy (List.length l + List.length [p]) (.pair (.int .u64) (.pair (.arr 4 (.int .u64)) (.pair (.arr 4 (.int .u64)) (.pair (.arr 4 (.int .u64)) (.pair (.arr 4 (.int .u64)) (.pair (.int .u64) .unit)))))) = true := ⟨by omega, by omega, by simp, hr⟩
  simp only
  rw [if_pos hc, Int.toNat_natCast]
  rfl

theorem posterAdd_eq {l : List PosterT} {a : Int} (ha : AllP l) (hl : l.length ≤ 100000) : sol_poster_Add (l, (a, ())) = some ((padd l a), ((), ((), ()))) := by
  unfold sol_poster_Add T_poster_Add padd
  rw [posterValid_eq ha (by omega)]
  simp only [bind_some', brR_not, brR_dec]
  cases hv : pvalid l with
  | false => rw [brR_false, if_neg (by simp)]
  | true =>
    rw [brR_true, if_pos rfl]
    by_cases h0 : a = 0
    · rw [if_pos h0, if_pos h0]
    rw [if_neg h0, if_neg h0, posterFind_eq (by omega)]
    simp only [bind_some', brR_dec]
    by_cases h1 : pfind l a ≥ 0
    · rw [if_pos h1, if_pos h1]
    rw [if_neg h1, if_neg h1]
    by_cases h2 : l.length = 64
    · rw [if_pos (show ((l.length : Nat) : Int) = 64 by omega), if_pos h2]
    rw [if_neg (show ¬ ((l.length : Nat) : Int) = 64 by omega), if_neg h2]
    refine bigLoop_rule (I := fun x => ∃ i : Nat, i ≤ l.length ∧ cntP l a = i + cntP (l.drop i) a ∧ x = (l, (a, (((i : Nat) : Int), ())))) (m := fun x => (((l.length : Nat) : Int) - x.2.2.1).toNat)
      (g := fun _ => some ((pins l a, ((0 : Int), ())), ((), ((), ())))) ?_ ⟨0, by omega, by simp, rfl⟩ (by rw [bigN_eq]; simp only; omega)
    rintro x again ⟨i, hi, hc, rfl⟩ hag
    simp only at hag ⊢
    unfold T_poster_Add_loop0
    rw [zP_eq]
    simp only [letR_eq, brR_dec, brR_inR]
    rw [cloneP_eq (by omega)]
    simp only [bind_some']
    rw [insertP_eq (by omega) hi]
    simp only [bind_some']
    by_cases g1 : ((i : Nat) : Int) < ((l.length : Nat) : Int)
    · have hil : i < l.length := by omega
      rw [if_pos g1, if_pos (by omega), Int.toNat_natCast]
      rw [drop_cons hil, cntP_cons] at hc
      by_cases g2 : (l.getD i zPoster).1 < a
      · rw [if_pos g2] at hc ⊢
        rw [w_i64 (by omega) (by omega)]
        exact hag _ ⟨i + 1, by omega, by omega, by rw [Int.natCast_add]; rfl⟩ (by simp only; omega)
      · rw [if_neg g2] at hc ⊢
        have hci : cntP l a = i := hc
        unfold pins
        rw [hci]
    · rw [if_neg g1]
      rw [List.drop_of_length_le (by omega)] at hc
      have hci : cntP l a = i := hc
      unfold pins
      rw [hci]

end Go.Pon
/-
  Tables of posters: debts and payments.
-/
set_option autoImplicit false
set_option linter.unusedVariables false
set_option linter.unusedSimpArgs false
namespace Go.Pon
open Go

theorem uAdd_ok {a b : Nat} (ha : B256 a) (hb : B256 b) (h : B256 (a + b)) : sol_uint256_Add (lim a, (lim b, ())) = some ((lim (a + b), ((0 : Int), ())), ((), ((), ()))) := by
  have h' := h
  unfold B256 at h'
  rw [uAdd_eq ha hb, if_pos h']

theorem uAdd_bad {a b : Nat} (ha : B256 a) (hb : B256 b) (h : ¬ B256 (a + b)) : sol_uint256_Add (lim a, (lim b, ())) = some (([(0 : Int), (0 : Int), (0 : Int), (0 : Int)], ((4 : Int), ())), ((), ((), ()))) := by
  have h' := h
  unfold B256 at h'
  rw [uAdd_eq ha hb, if_neg h']

/-- The entry with a debt more. -/
noncomputable def accP (p : PosterT) (d c r : Nat) (cost reward : Nat) (since : Int) : PosterT :=
  (p.1, (lim (d + (cost + reward)), (lim (c + cost), (lim (r + reward), (p.2.2.2.2.1, ((if d = 0 ∧ cost + reward ≠ 0 then since else p.2.2.2.2.2.1), ()))))))

/-- What Accrue gives, at the entry that it finds. -/
inductive AccR (l : List PosterT) (a : Int) (cost reward : Nat) (since : Int) : List PosterT × (Int × Unit) → Prop
  | invalid (h : pvalid l = false ∨ since = 0) : AccR l a cost reward since ([], ((2 : Int), ()))
  | absent (h1 : pvalid l = true) (h2 : since ≠ 0) (h : pfind l a = -1) : AccR l a cost reward since ([], ((8 : Int), ()))
  | over (h1 : pvalid l = true) (h2 : since ≠ 0) (k : Nat) (hk : k < l.length) (h : pfind l a = ((k : Nat) : Int)) (d c r pd : Nat) (s : Int) (hp : l.getD k zPoster = ((l.getD k zPoster).1, (lim d, (lim c, (lim r, (lim pd, (s, ()))))))) (hd : B256 d) (hc : B256 c) (hr : B256 r)
      (hov : ¬ B256 (d + (cost + reward)) ∨ ¬ B256 (c + cost) ∨ ¬ B256 (r + reward)) : AccR l a cost reward since ([], ((4 : Int), ()))
  | done (h1 : pvalid l = true) (h2 : since ≠ 0) (k : Nat) (hk : k < l.length) (h : pfind l a = ((k : Nat) : Int)) (d c r pd : Nat) (s : Int) (hp : l.getD k zPoster = ((l.getD k zPoster).1, (lim d, (lim c, (lim r, (lim pd, (s, ()))))))) (hd : B256 d) (hc : B256 c) (hr : B256 r) (hpd : B256 pd)
      (h3 : B256 (d + (cost + reward))) (h4 : B256 (c + cost)) (h5 : B256 (r + reward)) :
      AccR l a cost reward since (List.set l k ((l.getD k zPoster).1, (lim (d + (cost + reward)), (lim (c + cost), (lim (r + reward), (lim pd, ((if d = 0 ∧ cost + reward ≠ 0 then since else s), ())))))), ((0 : Int), ()))

theorem posterAccrue_eq {l : List PosterT} {a : Int} {cost reward : Nat} {since : Int} (ha : AllP l) (hl : l.length ≤ 100000) (hco : B256 cost) (hre : B256 reward) :
    ∃ y, AccR l a cost reward since y ∧ sol_poster_Accrue (l, (a, (lim cost, (lim reward, (since, ()))))) = some (y, ((), ((), ((), ((), ((), ())))))) := by
  unfold sol_poster_Accrue T_poster_Accrue
  simp only
  rw [posterFind_eq (by omega), posterValid_eq ha (by omega), bind_some', bind_some']
  simp only [brR_not, brR_dec]
  cases hv : pvalid l with
  | false => rw [brR_false]; exact ⟨_, .invalid (.inl hv), rfl⟩
  | true =>
    rw [brR_true]
    by_cases hs : since = 0
    · rw [if_pos hs]; exact ⟨_, .invalid (.inr hs), rfl⟩
    rw [if_neg hs]
    rcases pfind_spec l a with ⟨h1, h2⟩ | ⟨k, hk, h1, h2⟩
    · rw [h1, if_pos (by decide)]
      exact ⟨_, .absent hv hs h1, rfl⟩
    rw [h1, if_neg (by omega), brR_inR, if_pos (by omega), Int.toNat_natCast, cloneP_eq (by omega), zP_eq]
    have hp := ha.at k
    generalize hpk : l.getD k zPoster = p at hp ⊢
    obtain ⟨g1, hd, hc, hr, hpd, g2⟩ := hp
    rename_i ad d c r pd s
    simp only
    have over : (¬ B256 (d + (cost + reward)) ∨ ¬ B256 (c + cost) ∨ ¬ B256 (r + reward)) → ∃ y, AccR l a cost reward since y ∧ (some ((([] : List PosterT), ((4 : Int), ())), ((), ((), ((), ((), ((), ())))))) : Option ((List PosterT × (Int × Unit)) × (Unit × (Unit × (Unit × (Unit × (Unit × Unit))))))) = some (y, ((), ((), ((), ((), ((), ())))))) := fun h =>
      ⟨_, .over hv hs k hk h1 d c r pd s (by rw [hpk]) hd hc hr h, rfl⟩
    by_cases c1 : B256 (cost + reward)
    case neg =>
      rw [uAdd_bad hco hre c1, bind_some']
      have h0 : B256 (d + 0) := by rw [Nat.add_zero]; exact hd
      rw [show ([(0 : Int), (0 : Int), (0 : Int), (0 : Int)] : List Int) = lim 0 from rfl, uAdd_ok hd (by unfold B256; omega) h0, bind_some']
      have hov : ¬ B256 (d + (cost + reward)) := by unfold B256 at *; omega
      by_cases q1 : B256 (c + cost) <;> by_cases q2 : B256 (r + reward)
      all_goals first
        | rw [uAdd_ok hc hco q1, bind_some'] | rw [uAdd_bad hc hco q1, bind_some']
      all_goals first
        | rw [uAdd_ok hr hre q2, bind_some'] | rw [uAdd_bad hr hre q2, bind_some']
      all_goals
        rw [if_neg (by decide)]
        exact over (.inl hov)
    rw [uAdd_ok hco hre c1, bind_some']
    by_cases c2 : B256 (d + (cost + reward))
    case neg =>
      rw [uAdd_bad hd c1 c2, bind_some']
      by_cases q1 : B256 (c + cost) <;> by_cases q2 : B256 (r + reward)
      all_goals first
        | rw [uAdd_ok hc hco q1, bind_some'] | rw [uAdd_bad hc hco q1, bind_some']
      all_goals first
        | rw [uAdd_ok hr hre q2, bind_some'] | rw [uAdd_bad hr hre q2, bind_some']
      all_goals
        rw [if_pos rfl, if_neg (by decide)]
        exact over (.inl c2)
    rw [uAdd_ok hd c1 c2, bind_some']
    by_cases c3 : B256 (c + cost)
    case neg =>
      rw [uAdd_bad hc hco c3, bind_some']
      by_cases q2 : B256 (r + reward)
      all_goals first
        | rw [uAdd_ok hr hre q2, bind_some'] | rw [uAdd_bad hr hre q2, bind_some']
      all_goals
        rw [if_pos rfl, if_pos rfl, if_neg (by decide)]
        exact over (.inr (.inl c3))
    rw [uAdd_ok hc hco c3, bind_some']
    by_cases c4 : B256 (r + reward)
    case neg =>
      rw [uAdd_bad hr hre c4, bind_some', if_pos rfl, if_pos rfl, if_pos rfl, if_neg (by decide)]
      exact over (.inr (.inr c4))
    rw [uAdd_ok hr hre c4, bind_some', if_pos rfl, if_pos rfl, if_pos rfl, if_pos rfl, posterIsZero_eq, bind_some']
    have fin := AccR.done (l := l) (a := a) hv hs k hk h1 d c r pd s (by rw [hpk]) hd hc hr hpd c2 c3 c4
    rw [hpk] at fin
    refine ⟨_, fin, ?_⟩
    have ik : (0 : Int) ≤ ((k : Nat) : Int) ∧ ((k : Nat) : Int) < ((l.length : Nat) : Int) := by omega
    simp only [brR_inR, if_pos ik]
    rw [brR_dec]
    by_cases d0 : d = 0
    · rw [if_pos d0, posterIsZero_eq, bind_some', brR_dec]
      by_cases e0 : d + (cost + reward) = 0
      · rw [if_pos e0, if_neg (by omega), bind_some', if_pos ik]
      · rw [if_neg e0, if_pos (by omega), bind_some', if_pos ik]
    · rw [if_neg d0, if_neg (by omega), bind_some', if_pos ik]

/-- What Settle gives. -/
inductive SetR (l : List PosterT) (a : Int) (n : Nat) : List PosterT × (Int × Unit) → Prop
  | invalid (h : pvalid l = false) : SetR l a n ([], ((2 : Int), ()))
  | absent (h1 : pvalid l = true) (h : pfind l a = -1) : SetR l a n ([], ((8 : Int), ()))
  | funds (h1 : pvalid l = true) (k : Nat) (hk : k < l.length) (h : pfind l a = ((k : Nat) : Int)) (d c r pd : Nat) (s : Int) (hp : l.getD k zPoster = ((l.getD k zPoster).1, (lim d, (lim c, (lim r, (lim pd, (s, ()))))))) (hd : B256 d) (hf : d < n) : SetR l a n ([], ((10 : Int), ()))
  | over (h1 : pvalid l = true) (k : Nat) (hk : k < l.length) (h : pfind l a = ((k : Nat) : Int)) (d c r pd : Nat) (s : Int) (hp : l.getD k zPoster = ((l.getD k zPoster).1, (lim d, (lim c, (lim r, (lim pd, (s, ()))))))) (hd : B256 d) (hpd : B256 pd) (hf : n ≤ d) (ho : ¬ B256 (pd + n)) : SetR l a n ([], ((4 : Int), ()))
  | done (h1 : pvalid l = true) (k : Nat) (hk : k < l.length) (h : pfind l a = ((k : Nat) : Int)) (d c r pd : Nat) (s : Int) (hp : l.getD k zPoster = ((l.getD k zPoster).1, (lim d, (lim c, (lim r, (lim pd, (s, ()))))))) (hd : B256 d) (hc : B256 c) (hr : B256 r) (hpd : B256 pd) (hf : n ≤ d) (ho : B256 (pd + n)) :
      SetR l a n (List.set l k ((l.getD k zPoster).1, (lim (d - n), (lim c, (lim r, (lim (pd + n), ((if d - n = 0 then 0 else s), ())))))), ((0 : Int), ()))

theorem posterSettle_eq {l : List PosterT} {a : Int} {n : Nat} (ha : AllP l) (hl : l.length ≤ 100000) (hn : B256 n) :
    ∃ y, SetR l a n y ∧ sol_poster_Settle (l, (a, (lim n, ()))) = some (y, ((), ((), ((), ())))) := by
  unfold sol_poster_Settle T_poster_Settle
  simp only
  rw [posterFind_eq (by omega), posterValid_eq ha (by omega), bind_some', bind_some']
  simp only [brR_not, brR_dec]
  cases hv : pvalid l with
  | false => rw [brR_false]; exact ⟨_, .invalid hv, rfl⟩
  | true =>
    rw [brR_true]
    rcases pfind_spec l a with ⟨h1, h2⟩ | ⟨k, hk, h1, h2⟩
    · rw [h1, if_pos (by decide)]
      exact ⟨_, .absent hv h1, rfl⟩
    rw [h1, if_neg (by omega), brR_inR, if_pos (by omega), Int.toNat_natCast, cloneP_eq (by omega), zP_eq]
    have hp := ha.at k
    generalize hpk : l.getD k zPoster = p at hp ⊢
    obtain ⟨g1, hd, hc, hr, hpd, g2⟩ := hp
    rename_i ad d c r pd s
    simp only
    by_cases c1 : n ≤ d
    case neg =>
      rw [uSub_bad (by omega) hn, bind_some', if_neg (by decide)]
      exact ⟨_, .funds hv k hk h1 d c r pd s (by rw [hpk]) hd (by omega), rfl⟩
    rw [uSub_ok hd c1, bind_some', if_pos rfl]
    by_cases c2 : B256 (pd + n)
    case neg =>
      rw [uAdd_bad hpd hn c2, bind_some', if_neg (by decide)]
      exact ⟨_, .over hv k hk h1 d c r pd s (by rw [hpk]) hd hpd c1 c2, rfl⟩
    rw [uAdd_ok hpd hn c2, bind_some', if_pos rfl, posterIsZero_eq, bind_some']
    have fin := SetR.done (l := l) (a := a) hv k hk h1 d c r pd s (by rw [hpk]) hd hc hr hpd c1 c2
    rw [hpk] at fin
    refine ⟨_, fin, ?_⟩
    have ik : (0 : Int) ≤ ((k : Nat) : Int) ∧ ((k : Nat) : Int) < ((l.length : Nat) : Int) := by omega
    simp only [brR_inR, if_pos ik]
    rw [brR_dec]
    by_cases d0 : d - n = 0
    · rw [if_pos d0, if_pos d0, bind_some', if_pos ik]
    · rw [if_neg d0, if_neg d0, bind_some', if_pos ik]

end Go.Pon
/-
  Tables of posters: the document's answer.
-/
set_option autoImplicit false
set_option linter.unusedVariables false
set_option linter.unusedSimpArgs false
namespace Go.Pon
open Go

theorem rep0P (l : List PosterT) : List.append (List.replicate 0 zPoster) l = l := rfl
theorem getD_set_self {l : List PosterT} {k : Nat} {x z : PosterT} (h : k < l.length) : List.getD (List.set l k x) k z = x := by
  simp [List.getD_eq_getElem?_getD, h]
theorem set_setP {l : List PosterT} {k : Nat} {x y : PosterT} : List.set (List.set l k x) k y = List.set l k y := by simp

theorem dg_pos_len {n : Nat} : (((dg n).length : Nat) : Int) > 0 ↔ n ≠ 0 := by
  have := dg_len 0 n
  simp at this
  omega

theorem dg_small {n : Nat} (h : n < 115792089237316195423570985008687907853269984665640564039457584007913129639936 * 4) : (dg n).length ≤ 1000 := by
  have : (dg n).length ≤ 17 := dg_len_le.2 (by
    rw [show (65536 : Nat) ^ 17 = 7588550360256754183279148073529370729071901715047420004889892225542594864082845696 from by decide]
    exact Nat.div_eq_of_lt (by omega))
  omega

theorem rAccrue_found {l : List PosterT} {a : Int} {cost reward : Nat} {since : Int} (ha : AllP l) (hl : l.length ≤ 100000) (hco : B256 cost) (hre : B256 reward) (hv : pvalid l = true) (hs : since ≠ 0) {k : Nat} (hk : k < l.length) (h1 : pfind l a = ((k : Nat) : Int))
    {ad : Int} {d c r pd : Nat} {s : Int} (hp : l.getD k zPoster = (ad, (lim d, (lim c, (lim r, (lim pd, (s, ()))))))) (hd : B256 d) (hc : B256 c) (hr : B256 r) :
    (¬ (B256 (d + (cost + reward)) ∧ B256 (c + cost) ∧ B256 (r + reward)) → sol_ref16_Accrue (l, (a, (lim cost, (lim reward, (since, ()))))) = some (([], ((4 : Int), ())), ((), ((), ((), ((), ((), ()))))))) ∧
    (B256 (d + (cost + reward)) → B256 (c + cost) → B256 (r + reward) → sol_ref16_Accrue (l, (a, (lim cost, (lim reward, (since, ()))))) = some ((List.set l k (ad, (lim (d + (cost + reward)), (lim (c + cost), (lim (r + reward), (lim pd, ((if d = 0 ∧ cost + reward ≠ 0 then since else s), ())))))), ((0 : Int), ())), ((), ((), ((), ((), ((), ()))))))) := by
  generalize hX : sol_ref16_Accrue (l, (a, (lim cost, (lim reward, (since, ()))))) = X
  unfold sol_ref16_Accrue T_ref16_Accrue at hX
  simp only at hX
  rw [zP_eq] at hX
  rw [letR_eq, letR_eq, rep0P, rValidP_eq ha (by omega), bind_some'] at hX
  simp only [brR_not, hv] at hX
  rw [brR_true, brR_dec, if_neg hs, rFind_eq (by omega), bind_some'] at hX
  simp only [h1] at hX
  rw [letR_eq, brR_dec, if_neg (by omega), Nat.zero_add, roomyP (by omega), brR_true, brR_inR, if_pos (by omega), Int.toNat_natCast, hp] at hX
  simp only at hX
  have e1 := from_eq hd
  have e2 := from_eq hc
  have e3 := from_eq hr
  have e4 := from_eq hco
  have e5 := from_eq hre
  rw [e1, bind_some', e4, bind_some', e5, bind_some'] at hX
  unfold B256 at hd hc hr hco hre
  rw [add_loop_eq (dg_small (by omega)) (dg_small (by omega)), bind_some', add_loop_eq (dg_small (by omega)) (dg_small (by omega)), bind_some'] at hX
  rw [e2, bind_some', bind_some', add_loop_eq (dg_small (by omega)) (dg_small (by omega)), bind_some'] at hX
  rw [e3, bind_some', bind_some', add_loop_eq (dg_small (by omega)) (dg_small (by omega)), bind_some'] at hX
  rw [fits_eq, bind_some', brR_dec] at hX
  subst hX
  constructor
  · intro hn
    by_cases c2 : B256 (d + (cost + reward))
    case neg => unfold B256 at c2; rw [if_neg c2]
    have c2' := c2
    unfold B256 at c2'
    rw [if_pos c2', fits_eq, bind_some', brR_dec]
    by_cases c3 : B256 (c + cost)
    case neg => unfold B256 at c3; rw [if_neg c3]
    have c3' := c3
    unfold B256 at c3'
    rw [if_pos c3', fits_eq, bind_some', brR_dec]
    have c4 : ¬ B256 (r + reward) := fun h => hn ⟨c2, c3, h⟩
    unfold B256 at c4
    rw [if_neg c4]
  · intro c2 c3 c4
    have t2 := to_eq c2
    have t3 := to_eq c3
    have t4 := to_eq c4
    unfold B256 at c2 c3 c4
    rw [if_pos c2, fits_eq, bind_some', brR_dec, if_pos c3, fits_eq, bind_some', brR_dec, if_pos c4, isZero_eq, bind_some', brR_dec]
    by_cases d0 : d = 0
    · rw [if_pos d0, brR_dec]
      by_cases e0 : cost + reward = 0
      · rw [if_neg (by rw [dg_pos_len]; omega), t2, bind_some', letR_eq, t3, bind_some', t4, bind_some']
        simp only [getD_set_self hk, set_setP, List.length_set, hk]
        rw [if_neg (by omega)]
      · rw [if_pos (by rw [dg_pos_len]; omega), t2, bind_some', letR_eq, t3, bind_some', t4, bind_some']
        simp only [getD_set_self, set_setP, List.length_set, hk]
        rw [if_pos ⟨d0, e0⟩]
    · rw [if_neg d0, t2, bind_some', letR_eq, t3, bind_some', t4, bind_some']
      simp only [getD_set_self, set_setP, List.length_set, hk]
      rw [if_neg (by omega)]

theorem rAccrue_eq {l : List PosterT} {a : Int} {cost reward : Nat} {since : Int} {y : List PosterT × (Int × Unit)} (ha : AllP l) (hl : l.length ≤ 100000) (hco : B256 cost) (hre : B256 reward)
    (h : AccR l a cost reward since y) : sol_ref16_Accrue (l, (a, (lim cost, (lim reward, (since, ()))))) = some (y, ((), ((), ((), ((), ((), ())))))) := by
  cases h with
  | invalid h =>
    unfold sol_ref16_Accrue T_ref16_Accrue
    simp only
    rw [letR_eq, letR_eq, rValidP_eq ha (by omega), bind_some', brR_not]
    cases hv : pvalid l with
    | false => rw [brR_false]
    | true =>
      have hs : since = 0 := by rw [hv] at h; simpa using h
      rw [brR_true, brR_dec, if_pos hs]
  | absent h1 h2 h =>
    unfold sol_ref16_Accrue T_ref16_Accrue
    simp only
    rw [letR_eq, letR_eq, rValidP_eq ha (by omega), bind_some', brR_not, h1, brR_true, brR_dec, if_neg h2, rFind_eq (by omega), bind_some', h, letR_eq, brR_dec, if_pos (by decide)]
  | over h1 h2 k hk h d c r pd s hp hd hc hr hov =>
    exact (rAccrue_found ha hl hco hre h1 h2 hk h hp hd hc hr).1 (by rintro ⟨q1, q2, q3⟩; rcases hov with q | q | q <;> exact q (by assumption))
  | done h1 h2 k hk h d c r pd s hp hd hc hr hpd h3 h4 h5 =>
    exact (rAccrue_found ha hl hco hre h1 h2 hk h hp hd hc hr).2 h3 h4 h5

theorem rSettle_eq {l : List PosterT} {a : Int} {n : Nat} {y : List PosterT × (Int × Unit)} (ha : AllP l) (hl : l.length ≤ 100000) (hn : B256 n)
    (h : SetR l a n y) : sol_ref16_Settle (l, (a, (lim n, ()))) = some (y, ((), ((), ((), ())))) := by
  cases h with
  | invalid h =>
    unfold sol_ref16_Settle T_ref16_Settle
    simp only
    rw [letR_eq, letR_eq, rValidP_eq ha (by omega), bind_some', brR_not, h, brR_false]
  | absent h1 h =>
    unfold sol_ref16_Settle T_ref16_Settle
    simp only
    rw [letR_eq, letR_eq, rValidP_eq ha (by omega), bind_some', brR_not, h1, brR_true, rFind_eq (by omega), bind_some', h, brR_dec, if_pos (by decide)]
  | funds h1 k hk h d c r pd s hp hd hf =>
    unfold sol_ref16_Settle T_ref16_Settle
    simp only
    rw [zP_eq]
    rw [letR_eq, letR_eq, rep0P, rValidP_eq ha (by omega), bind_some', brR_not, h1, brR_true, rFind_eq (by omega), bind_some']
    simp only [h]
    rw [brR_dec, if_neg (by omega), Nat.zero_add, roomyP (by omega), brR_true, brR_inR, if_pos (by omega), Int.toNat_natCast, hp]
    simp only
    have hd' := hd
    have hn' := hn
    unfold B256 at hd' hn'
    rw [sub256_eq hd' hn', if_neg (by omega), bind_some', letR_eq, letR_eq]
    rw [brR_not, brR_dec, if_neg (by decide)]
  | over h1 k hk h d c r pd s hp hd hpd hf ho =>
    unfold sol_ref16_Settle T_ref16_Settle
    simp only
    rw [zP_eq]
    rw [letR_eq, letR_eq, rep0P, rValidP_eq ha (by omega), bind_some', brR_not, h1, brR_true, rFind_eq (by omega), bind_some']
    simp only [h]
    rw [brR_dec, if_neg (by omega), Nat.zero_add, roomyP (by omega), brR_true, brR_inR, if_pos (by omega), Int.toNat_natCast, hp]
    simp only
    have hd' := hd
    have hn' := hn
    have hpd' := hpd
    have ho' := ho
    unfold B256 at hd' hn' hpd' ho'
    rw [sub256_eq hd' hn', if_pos hf, bind_some', letR_eq, letR_eq]
    rw [brR_not, brR_dec, if_pos rfl, add256_eq hpd' hn', if_neg ho', bind_some', letR_eq, brR_not, brR_dec, if_neg (by decide)]
  | done h1 k hk h d c r pd s hp hd hc hr hpd hf ho =>
    unfold sol_ref16_Settle T_ref16_Settle
    simp only
    rw [zP_eq]
    rw [letR_eq, letR_eq, rep0P, rValidP_eq ha (by omega), bind_some', brR_not, h1, brR_true, rFind_eq (by omega), bind_some']
    simp only [h]
    rw [brR_dec, if_neg (by omega), Nat.zero_add, roomyP (by omega), brR_true, brR_inR, if_pos (by omega), Int.toNat_natCast, hp]
    simp only
    have hd' := hd
    have hn' := hn
    have hpd' := hpd
    have ho' := ho
    unfold B256 at hd' hn' hpd' ho'
    rw [sub256_eq hd' hn', if_pos hf, bind_some', letR_eq, letR_eq]
    rw [brR_not, brR_dec, if_pos rfl, add256_eq hpd' hn', if_pos ho', bind_some', letR_eq, brR_not, brR_dec, if_pos rfl, isZero_eq, bind_some', brR_dec]
    by_cases d0 : d - n = 0
    · rw [if_pos d0, if_pos d0]
      simp only [getD_set_self, set_setP, List.length_set, hk]
    · rw [if_neg d0, if_neg d0]
      simp only [getD_set_self, set_setP, List.length_set, hk]

/-! ### Add -/

theorem take_snoc {l : List PosterT} {i : Nat} (h : i < l.length) : l.take (i + 1) = l.take i ++ [l.getD i zPoster] := by
  rw [List.take_add_one, List.getD_eq_getElem?_getD, List.getElem?_eq_getElem h]
  rfl

theorem cntP_take {l : List PosterT} {a : Int} : ∀ i, i < cntP l a → (l.getD i zPoster).1 < a := by
  induction l with
  | nil => intro i h; simp [cntP] at h
  | cons p l ih =>
    intro i h
    rw [cntP_cons] at h
    by_cases g : p.1 < a
    · rw [if_pos g] at h
      cases i with
      | zero => exact g
      | succ i => exact ih i (by omega)
    · rw [if_neg g] at h; omega

theorem cntP_at {l : List PosterT} {a : Int} (h : cntP l a < l.length) : a ≤ (l.getD (cntP l a) zPoster).1 := by
  induction l with
  | nil => simp at h
  | cons p l ih =>
    rw [cntP_cons] at h ⊢
    by_cases g : p.1 < a
    · rw [if_pos g] at h ⊢
      exact ih (by simpa using h)
    · rw [if_neg g]
      show a ≤ p.1
      omega

/-- What the loop of the document's Add has gathered. -/
def raOut (l : List PosterT) (a : Int) (i : Nat) : List PosterT := if i ≤ cntP l a then l.take i else l.take (cntP l a) ++ (newP a :: (l.take i).drop (cntP l a))

theorem rAdd_eq {l : List PosterT} {a : Int} (ha : AllP l) (hl : l.length ≤ 100000) : sol_ref16_Add (l, (a, ())) = some ((padd l a), ((), ((), ()))) := by
  unfold sol_ref16_Add T_ref16_Add padd
  rw [rValidP_eq ha (by omega)]
  simp only [bind_some', brR_not, brR_dec]
  cases hv : pvalid l with
  | false => rw [brR_false, if_neg (by simp)]
  | true =>
    rw [brR_true, if_pos rfl]
    by_cases h0 : a = 0
    · rw [if_pos h0, if_pos h0]
    rw [if_neg h0, if_neg h0, rFind_eq (by omega)]
    simp only [bind_some', brR_dec]
    by_cases h1 : pfind l a ≥ 0
    · rw [if_pos h1, if_pos h1]
    rw [if_neg h1, if_neg h1]
    have hlv := (pvalid_iff.1 hv).1
    by_cases h2 : l.length = 64
    · rw [if_pos (show ((l.length : Nat) : Int) ≥ 64 by omega), if_pos h2]
    rw [if_neg (show ¬ ((l.length : Nat) : Int) ≥ 64 by omega), if_neg h2]
    have hne : ∀ i, i < l.length → (l.getD i zPoster).1 ≠ a := by
      rcases pfind_spec l a with ⟨q1, q2⟩ | ⟨k, hk, q1, q2⟩
      · exact q2
      · omega
    have hcl := cntP_le a l
    have hasc : ∀ i, cntP l a ≤ i → i < l.length → a < (l.getD i zPoster).1 := by
      intro i
      induction i with
      | zero =>
        intro q1 q2
        have q3 := cntP_at (l := l) (a := a) (by omega)
        have : cntP l a = 0 := by omega
        rw [this] at q3
        have := hne 0 q2
        omega
      | succ i ih =>
        intro q1 q2
        by_cases q : cntP l a = i + 1
        · have q3 := cntP_at (l := l) (a := a) (by omega)
          rw [q] at q3
          have := hne (i + 1) q2
          omega
        · have := ih (by omega) (by omega)
          have := ((pvalid_iff.1 hv).2 (i + 1) q2).2 (by omega)
          rw [Nat.add_sub_cancel] at this
          omega
    refine bigLoop_rule (I := fun x => ∃ i : Nat, i ≤ l.length ∧ x = (l, (a, (raOut l a i, (decide (cntP l a < i), (((i : Nat) : Int), ())))))) (m := fun x => (((l.length : Nat) : Int) - x.2.2.2.2.1).toNat)
      (g := fun _ => some ((pins l a, ((0 : Int), ())), ((), ((), ())))) ?_ ⟨0, by omega, by simp [raOut]⟩ (by rw [bigN_eq]; simp only; omega)
    rintro x again ⟨i, hi, rfl⟩ hag
    simp only at hag ⊢
    unfold T_ref16_Add_loop0
    rw [zP_eq]
    simp only [letR_eq]
    rw [brR_dec]
    by_cases g1 : ((i : Nat) : Int) < ((l.length : Nat) : Int)
    · have hil : i < l.length := by omega
      have ik : (0 : Int) ≤ ((i : Nat) : Int) ∧ ((i : Nat) : Int) < ((l.length : Nat) : Int) := by omega
      have hlen : (raOut l a i).length ≤ 1000 := by unfold raOut; split <;> simp <;> omega
      rw [if_pos g1, brR_not, Int.toNat_natCast, w_i64 (by omega) (by omega)]
      simp only [brR_inR, if_pos ik, brR_dec]
      have hcast : ((i : Nat) : Int) + 1 = ((i + 1 : Nat) : Int) := by omega
      rw [hcast]
      by_cases g2 : cntP l a < i
      · rw [if_pos g2, roomyP (by omega), brR_true]
        refine hag _ ⟨i + 1, by omega, ?_⟩ (by simp only; omega)
        rw [decide_eq_true g2, decide_eq_true (show cntP l a < i + 1 by omega)]
        have : List.append (raOut l a i) [l.getD i zPoster] = raOut l a (i + 1) := by
          unfold raOut
          rw [if_neg (by omega), if_neg (by omega), take_snoc hil, List.drop_append_of_le_length (by simp; omega)]
          show l.take (cntP l a) ++ (newP a :: _) ++ _ = _
          simp
        rw [this]
      · rw [if_neg g2]
        by_cases g3 : (l.getD i zPoster).1 > a
        · have hci : cntP l a = i := by
            by_cases q : i < cntP l a
            · have := cntP_take i q; omega
            · omega
          rw [if_pos g3, roomyP (by omega), brR_true]
          have hlen2 : (List.append (raOut l a i) [(a, ([(0 : Int), (0 : Int), (0 : Int), (0 : Int)], ([(0 : Int), (0 : Int), (0 : Int), (0 : Int)], ([(0 : Int), (0 : Int), (0 : Int), (0 : Int)], ([(0 : Int), (0 : Int), (0 : Int), (0 : Int)], ((0 : Int), ()))))))]).length ≤ 1001 := by show (raOut l a i ++ [newP a]).length ≤ 1001; simp; omega
          rw [roomyP (by omega), brR_true]
          refine hag _ ⟨i + 1, by omega, ?_⟩ (by simp only; omega)
          rw [decide_eq_true (show cntP l a < i + 1 by omega)]
          have : List.append (List.append (raOut l a i) [newP a]) [l.getD i zPoster] = raOut l a (i + 1) := by
            show raOut l a i ++ [newP a] ++ [l.getD i zPoster] = _
            unfold raOut
            rw [if_pos (by omega), if_neg (by omega), take_snoc hil, List.drop_append_of_le_length (by simp; omega), hci]
            simp
          rw [this]
        · have hci : i < cntP l a := by
            by_cases q : i < cntP l a
            · exact q
            · have := hasc i (by omega) hil; omega
          rw [if_neg g3, roomyP (by omega), brR_true]
          refine hag _ ⟨i + 1, by omega, ?_⟩ (by simp only; omega)
          rw [decide_eq_false (show ¬ cntP l a < i + 1 by omega), decide_eq_false (show ¬ cntP l a < i by omega)]
          have : List.append (raOut l a i) [l.getD i zPoster] = raOut l a (i + 1) := by
            show raOut l a i ++ [l.getD i zPoster] = _
            unfold raOut
            rw [if_pos (by omega), if_pos (by omega), take_snoc hil]
          rw [this]
    · have hil : i = l.length := by omega
      subst hil
      rw [if_neg g1, brR_not, brR_dec]
      by_cases g2 : cntP l a < l.length
      · rw [if_pos g2]
        unfold raOut pins
        rw [if_neg (by omega), List.take_length]
      · have hci : cntP l a = l.length := by omega
        have hlen : (raOut l a l.length).length ≤ 1000 := by unfold raOut; split <;> simp <;> omega
        rw [if_neg g2, roomyP (by omega), brR_true]
        have : List.append (raOut l a l.length) [newP a] = pins l a := by
          show raOut l a l.length ++ [newP a] = _
          unfold raOut pins
          rw [if_pos (by omega), hci, List.take_length, List.drop_length]
        exact congrArg (fun z : List PosterT => some ((z, ((0 : Int), ())), ((), ((), ())))) this

end Go.Pon
/-
  Loops: a property of the result.
-/
set_option autoImplicit false
namespace Go.Pon
open Go

theorem bigLoop_pred {ω δ : Type} {round : (δ → Option ω) → δ → Option ω} (I : δ → Prop) (m : δ → Nat) (P : Option ω → Prop)
    (h : ∀ x (again : δ → Option ω), I x → (∀ y, I y → m y < m x → P (again y)) → P (round again x)) {x : δ} (hx : I x) (hm : m x < bigN) : P (bigLoop ω δ round x) := by
  have key : ∀ n x, I x → m x < n → P (loopN round n x) := by
    intro n
    induction n with
    | zero => intro x _ hm; omega
    | succ n ih =>
      intro x hx hm
      rw [loopN_succ]
      exact h x _ hx fun y hy hlt => ih y hy (by omega)
  rw [bigLoop_def]
  exact key bigN x hx hm

end Go.Pon
/-
  What the law's own functions for posters compute.
-/
set_option autoImplicit false
set_option linter.unusedVariables false
set_option linter.unusedSimpArgs false
namespace Go.Pon
open Go

abbrev CallT := Int × (Int × (List Int × (List Int × (Bool × (Bool × (Int × Unit))))))

inductive CallW : CallT → Prop
  | mk {op a : Int} {n r : Nat} {sm wh : Bool} {s : Int} (h1 : -9223372036854775808 ≤ op ∧ op ≤ 9223372036854775807) (h2 : U64 a) (h3 : B256 n) (h4 : B256 r) (h5 : U64 s) : CallW (op, (a, (lim n, (lim r, (sm, (wh, (s, ())))))))

abbrev zCall : CallT := ((0 : Int), ((0 : Int), ([(0 : Int), (0 : Int), (0 : Int), (0 : Int)], ([(0 : Int), (0 : Int), (0 : Int), (0 : Int)], (false, (false, ((0 : Int), ())))))))

def AllC (l : List CallT) : Prop := ∀ p ∈ l, CallW p

/-! ### Valid tables -/

theorem PVal.len {l : List PosterT} (h : PVal l) : l.length ≤ 64 := h.1

theorem PVal.asc {l : List PosterT} (h : PVal l) : ∀ (j i : Nat), i < j → j < l.length → (l.getD i zPoster).1 < (l.getD j zPoster).1 := by
  intro j
  induction j with
  | zero => intro i h1; omega
  | succ j ih =>
    intro i h1 h2
    have := (h.2 (j + 1) h2).2 (by omega)
    rw [Nat.add_sub_cancel] at this
    by_cases q : i = j
    · rw [q]; exact this
    · have := ih i (by omega) (by omega); omega

theorem PVal.find {l : List PosterT} (h : PVal l) {j : Nat} (hj : j < l.length) : pfind l (l.getD j zPoster).1 = ((j : Nat) : Int) := by
  rcases pfind_spec l (l.getD j zPoster).1 with ⟨h1, h2⟩ | ⟨k, hk, h1, h2⟩
  · exact absurd rfl (h2 j hj)
  · rw [h1]
    by_cases q : k = j
    · rw [q]
    · rcases Nat.lt_or_gt_of_ne q with q | q
      · have := h.asc j k q hj; omega
      · have := h.asc k j q hk; omega

theorem getD_setP {l : List PosterT} {k i : Nat} {p : PosterT} (hk : k < l.length) : (List.set l k p).getD i zPoster = if i = k then p else l.getD i zPoster := by
  by_cases h : i = k
  · subst h; rw [if_pos rfl, getD_set_self hk]
  · rw [if_neg h]
    simp [List.getD_eq_getElem?_getD, List.getElem?_set, Ne.symm h]

theorem PVal.set {l : List PosterT} (h : PVal l) {k : Nat} (hk : k < l.length) {p : PosterT} (hp : goodP p = true) (ha : p.1 = (l.getD k zPoster).1) : PVal (List.set l k p) := by
  refine ⟨by rw [List.length_set]; exact h.1, fun i hi => ?_⟩
  rw [List.length_set] at hi
  have hx : ∀ j, ((List.set l k p).getD j zPoster).1 = (l.getD j zPoster).1 := fun j => by
    rw [getD_setP hk]
    by_cases q : j = k
    · rw [if_pos q, ha, q]
    · rw [if_neg q]
  refine ⟨?_, fun h0 => ?_⟩
  · rw [getD_setP hk]
    by_cases q : i = k
    · rw [if_pos q]; exact hp
    · rw [if_neg q]; exact (h.2 i hi).1
  · rw [hx, hx]; exact (h.2 i hi).2 h0

theorem AllP.set {l : List PosterT} (h : AllP l) {k : Nat} {p : PosterT} (hp : PosterW p) : AllP (List.set l k p) := fun q hq => by
  rcases List.mem_or_eq_of_mem_set hq with hq | hq
  · exact h q hq
  · rw [hq]; exact hp

theorem pins_len (l : List PosterT) (a : Int) : (pins l a).length = l.length + 1 := by
  have := cntP_le a l
  unfold pins
  simp
  omega

theorem getD_pins {l : List PosterT} {a : Int} (i : Nat) : (pins l a).getD i zPoster = if i < cntP l a then l.getD i zPoster else if i = cntP l a then newP a else l.getD (i - 1) zPoster := by
  have hc := cntP_le a l
  unfold pins
  by_cases h1 : i < cntP l a
  · rw [if_pos h1, List.getD_eq_getElem?_getD, List.getElem?_append_left (by simp; omega), List.getElem?_take, if_pos h1, ← List.getD_eq_getElem?_getD]
  · rw [if_neg h1, List.getD_eq_getElem?_getD, List.getElem?_append_right (by simp; omega)]
    have : (l.take (cntP l a)).length = cntP l a := by simp; omega
    rw [this]
    by_cases h2 : i = cntP l a
    · rw [if_pos h2, h2, Nat.sub_self]; rfl
    · rw [if_neg h2]
      obtain ⟨m, hm⟩ : ∃ m, i - cntP l a = m + 1 := ⟨i - cntP l a - 1, by omega⟩
      rw [hm, List.getElem?_cons_succ, List.getElem?_drop, show cntP l a + m = i - 1 by omega, ← List.getD_eq_getElem?_getD]

theorem PVal.pins {l : List PosterT} (h : PVal l) {a : Int} (ha : a ≠ 0) (hne : ∀ i, i < l.length → (l.getD i zPoster).1 ≠ a) (hl : l.length ≠ 64) : PVal (pins l a) := by
  have hl' := h.1
  have hc := cntP_le a l
  refine ⟨by rw [pins_len]; omega, fun i hi => ?_⟩
  rw [pins_len] at hi
  unfold okAt
  rw [getD_pins, getD_pins]
  by_cases h1 : i < cntP l a
  · rw [if_pos h1, if_pos (by omega)]
    exact h.2 i (by omega)
  rw [if_neg h1]
  by_cases h2 : i = cntP l a
  · rw [if_pos h2]
    refine ⟨?_, fun h0 => ?_⟩
    · rw [show newP a = (a, (lim 0, (lim 0, (lim 0, (lim 0, ((0 : Int), ())))))) from rfl, goodP_mk]
      simp [ha]
    · rw [if_pos (by omega)]
      exact cntP_take (l := l) (a := a) (i - 1) (by omega)
  · rw [if_neg h2]
    refine ⟨(h.2 (i - 1) (by omega)).1, fun h0 => ?_⟩
    rw [if_neg (by omega)]
    by_cases h3 : i - 1 = cntP l a
    · rw [if_pos h3]
      show a < _
      have q1 := cntP_at (l := l) (a := a) (by omega)
      rw [h3]
      have q2 := hne (cntP l a) (by omega)
      omega
    · rw [if_neg h3]
      exact (h.2 (i - 1) (by omega)).2 (by omega)

theorem AllP.pins {l : List PosterT} (h : AllP l) {a : Int} (ha : U64 a) : AllP (pins l a) := fun q hq => by
  unfold Go.Pon.pins at hq
  rcases List.mem_append.1 hq with hq | hq
  · exact h q (List.mem_of_mem_take hq)
  · rcases List.mem_cons.1 hq with hq | hq
    · rw [hq]; exact newPW ha
    · exact h q (List.mem_of_mem_drop hq)

/-! ### What a call does -/

structure PStp (l : List PosterT) (a : Int) (y : List PosterT × (Int × Unit)) : Prop where
  val : PVal l
  val' : PVal y.1
  all : AllP y.1
  len : l.length ≤ y.1.length
  old : ∀ k, k < y.1.length → (y.1.getD k zPoster).1 ≠ a → ∃ j : Nat, j < l.length ∧ pfind l (y.1.getD k zPoster).1 = ((j : Nat) : Int) ∧ l.getD j zPoster = y.1.getD k zPoster

theorem stp_set {l : List PosterT} {a : Int} (hv : PVal l) (ha : AllP l) {k : Nat} (hk : k < l.length) (hf : pfind l a = ((k : Nat) : Int)) {p : PosterT} (hp : goodP p = true) (hw : PosterW p) (hpa : p.1 = (l.getD k zPoster).1) {e : Int} :
    PStp l a (List.set l k p, (e, ())) := by
  have hka : (l.getD k zPoster).1 = a := by
    rcases pfind_spec l a with ⟨h1, h2⟩ | ⟨j, hj, h1, h2⟩
    · omega
    · rw [show k = j by omega]; exact h2
  refine ⟨hv, hv.set hk hp hpa, ha.set hw, by simp, fun i hi hne => ?_⟩
  simp only [List.length_set] at hi
  simp only [getD_setP hk] at hne ⊢
  by_cases q : i = k
  · rw [if_pos q, hpa, hka] at hne; exact absurd rfl hne
  · rw [if_neg q]
    exact ⟨i, hi, hv.find hi, rfl⟩

theorem padd_stp {l : List PosterT} {a : Int} (ha : AllP l) (hU : U64 a) (h : (padd l a).2.1 = 0) : PStp l a (padd l a) ∧ padd l a = (pins l a, ((0 : Int), ())) := by
  unfold padd at h ⊢
  by_cases h1 : pvalid l = true
  case neg => rw [if_neg h1] at h; simp at h
  rw [if_pos h1] at h ⊢
  by_cases h2 : a = 0
  · rw [if_pos h2] at h; simp at h
  rw [if_neg h2] at h ⊢
  by_cases h3 : pfind l a ≥ 0
  · rw [if_pos h3] at h; simp at h
  rw [if_neg h3] at h ⊢
  by_cases h4 : l.length = 64
  · rw [if_pos h4] at h; simp at h
  rw [if_neg h4]
  have hv := pvalid_iff.1 h1
  have hne : ∀ i, i < l.length → (l.getD i zPoster).1 ≠ a := by
    rcases pfind_spec l a with ⟨q1, q2⟩ | ⟨k, hk, q1, q2⟩
    · exact q2
    · omega
  refine ⟨⟨hv, hv.pins h2 hne h4, ha.pins hU, by rw [pins_len]; omega, fun k hk hn => ?_⟩, rfl⟩
  have hc := cntP_le a l
  simp only [pins_len] at hk
  simp only [getD_pins] at hn ⊢
  by_cases q1 : k < cntP l a
  · rw [if_pos q1]
    exact ⟨k, by omega, hv.find (by omega), rfl⟩
  rw [if_neg q1] at hn ⊢
  by_cases q2 : k = cntP l a
  · rw [if_pos q2] at hn; exact absurd rfl hn
  rw [if_neg q2]
  exact ⟨k - 1, by omega, hv.find (by omega), rfl⟩

theorem AccR.stp {l : List PosterT} {a : Int} {cost reward : Nat} {since : Int} {y : List PosterT × (Int × Unit)} (ha : AllP l) (hs : U64 since) (hr : AccR l a cost reward since y) (h : y.2.1 = 0) : PStp l a y := by
  cases hr with
  | invalid _ => simp at h
  | absent _ _ _ => simp at h
  | over => simp at h
  | done h1 h2 k hk hf d c r pd s hp hd hc hr hpd h3 h4 h5 =>
    have hv := pvalid_iff.1 h1
    have hg := (hv.2 k hk).1
    rw [hp, goodP_mk] at hg
    simp only [Bool.and_eq_true, decide_eq_true_eq] at hg
    have hw := ha.at k
    rw [hp] at hw
    refine stp_set (p := (_, _)) hv ha hk hf ?_ ?_ (by rfl)
    · rw [goodP_mk]
      simp only [Bool.and_eq_true, decide_eq_true_eq]
      refine ⟨hg.1, by omega, ?_⟩
      by_cases q : d = 0 ∧ cost + reward ≠ 0
      · rw [if_pos q]; constructor
        · intro h; exact absurd h h2
        · intro h; omega
      · rw [if_neg q]
        rw [hg.2.2]
        omega
    · have ha' : U64 (l.getD k zPoster).1 := by
        have := ha.at k
        generalize l.getD k zPoster = p at this
        cases this; assumption
      have hs' : U64 s := by
        have := ha.at k
        generalize hq : l.getD k zPoster = p at this hp
        cases this with
        | mk q1 q2 q3 q4 q5 q6 =>
          have := congrArg (fun p : PosterT => p.2.2.2.2.2.1) hp
          simp only at this
          rw [← this]; exact q6
      refine .mk ha' h3 h4 h5 hpd ?_
      split
      · exact hs
      · exact hs'

theorem SetR.stp {l : List PosterT} {a : Int} {n : Nat} {y : List PosterT × (Int × Unit)} (ha : AllP l) (hr : SetR l a n y) (h : y.2.1 = 0) : PStp l a y := by
  cases hr with
  | invalid _ => simp at h
  | absent _ _ => simp at h
  | funds => simp at h
  | over => simp at h
  | done h1 k hk hf d c r pd s hp hd hc hr hpd h3 h4 =>
    have hv := pvalid_iff.1 h1
    have hg := (hv.2 k hk).1
    rw [hp, goodP_mk] at hg
    simp only [Bool.and_eq_true, decide_eq_true_eq] at hg
    refine stp_set (p := (_, _)) hv ha hk hf ?_ ?_ (by rfl)
    · rw [goodP_mk]
      simp only [Bool.and_eq_true, decide_eq_true_eq]
      refine ⟨hg.1, by omega, ?_⟩
      by_cases q : d - n = 0
      · rw [if_pos q]; constructor <;> intro _ <;> first | exact q | rfl
      · rw [if_neg q]
        rw [hg.2.2]
        omega
    · have ha' : U64 (l.getD k zPoster).1 := by
        have := ha.at k
        generalize l.getD k zPoster = p at this
        cases this; assumption
      have hs' : U64 s := by
        have := ha.at k
        generalize hq : l.getD k zPoster = p at this hp
        cases this with
        | mk q1 q2 q3 q4 q5 q6 =>
          have := congrArg (fun p : PosterT => p.2.2.2.2.2.1) hp
          simp only at this
          rw [← this]; exact q6
      refine .mk ha' (by unfold B256 at *; omega) hc hr h4 ?_
      split
      · unfold U64; omega
      · exact hs'

/-! ### The law's own functions -/

theorem wrapU {n : Int} : U64 (IntKind.wrap .u64 n) := by
  rw [IntKind.wrap_u64]; unfold U64; omega

theorem limSmall (x : Nat) {m : Int} (h0 : 0 < m) (hm : m ≤ 10000) : ∃ n, B256 n ∧ [Int.tmod (List.getD (lim x) 0 0) m, 0, 0, 0] = lim n := by
  have hx : 0 ≤ List.getD (lim x) 0 0 := by unfold lim; simp; omega
  have h1 := Int.emod_nonneg (List.getD (lim x) 0 0) (b := m) (by omega)
  have h2 := Int.emod_lt_of_pos (List.getD (lim x) 0 0) (b := m) h0
  rw [tmod_pos hx]
  obtain ⟨n, k1, k2⟩ := lim_of (a := List.getD (lim x) 0 0 % m) (b := 0) (c := 0) (d := 0) (by omega) (by omega) (by omega) (by omega)
  exact ⟨n, k1, k2⟩

theorem norm16_eq {d : CallT} (hd : CallW d) {i : Int} (h0 : 0 ≤ i) (h1 : i ≤ 1000) : ∃ d', CallW d' ∧ sol_law16_Normalize (d, (i, ())) = some ((d', ()), ((), ((), ()))) := by
  cases hd with
  | mk g1 g2 g3 g4 g5 =>
    rename_i op a n r sm wh s
    unfold sol_law16_Normalize T_law16_Normalize
    simp only [letR_eq]
    rw [mod_eq g1.1 g1.2 (by omega) (by omega), bind_some']
    have hop : -9223372036854775808 ≤ op % 18446744073709551616 % 8 ∧ op % 18446744073709551616 % 8 ≤ 9223372036854775807 := by omega
    have hA : U64 (Int.tmod a 7) := by unfold U64 at g2 ⊢; rw [tmod_pos (by omega)]; omega
    obtain ⟨n', hn', en⟩ := limSmall n (m := 1000) (by omega) (by omega)
    obtain ⟨r', hr', er⟩ := limSmall r (m := 10) (by omega) (by omega)
    rw [en, er]
    simp only [brR_dec]
    have hw := @wrapU (1 + IntKind.wrap .u64 (Int.tdiv (IntKind.wrap .u64 i) 2))
    generalize IntKind.wrap .u64 (1 + IntKind.wrap .u64 (Int.tdiv (IntKind.wrap .u64 i) 2)) = w at hw ⊢
    by_cases c1 : Int.tmod i 6 < 5
    · rw [if_pos c1]
      cases sm with
      | true =>
        rw [brR_true]
        by_cases c2 : Int.tmod i 9 > 0
        · rw [if_pos c2]; exact ⟨_, .mk hop hA hn' hr' hw, rfl⟩
        · rw [if_neg c2]; exact ⟨_, .mk hop hA hn' hr' g5, rfl⟩
      | false =>
        rw [brR_false]
        by_cases c2 : Int.tmod i 9 > 0
        · rw [if_pos c2]; exact ⟨_, .mk hop hA g3 g4 hw, rfl⟩
        · rw [if_neg c2]; exact ⟨_, .mk hop hA g3 g4 g5, rfl⟩
    · rw [if_neg c1]
      cases sm with
      | true =>
        rw [brR_true]
        by_cases c2 : Int.tmod i 9 > 0
        · rw [if_pos c2]; exact ⟨_, .mk hop g2 hn' hr' hw, rfl⟩
        · rw [if_neg c2]; exact ⟨_, .mk hop g2 hn' hr' g5, rfl⟩
      | false =>
        rw [brR_false]
        by_cases c2 : Int.tmod i 9 > 0
        · rw [if_pos c2]; exact ⟨_, .mk hop g2 g3 g4 hw, rfl⟩
        · rw [if_neg c2]; exact ⟨_, .mk hop g2 g3 g4 g5, rfl⟩

theorem apply16_eq {l : List PosterT} (ha : AllP l) (hl : l.length ≤ 100000) {d : CallT} (hd : CallW d) :
    ∃ y, (y.2.1 = 0 → PStp l d.2.1 y) ∧ y.1.length ≤ l.length + 1 ∧ sol_law16_apply (l, (d, ())) = some (y, ((), ((), ()))) ∧ sol_law16_ReferenceApply (l, (d, ())) = some (y, ((), ((), ()))) := by
  cases hd with
  | mk g1 g2 g3 g4 g5 =>
    rename_i op a n r sm wh s
    have main : ∀ m, B256 m → ∃ y : List PosterT × (Int × Unit), (y.2.1 = 0 → PStp l a y) ∧ y.1.length ≤ l.length + 1 ∧
        (if op = 0 then (Option.bind (sol_poster_Add (l, (a, ()))) (fun y_1 => (some ((y_1.1.1, (y_1.1.2.1, ())), ((), ((), ()))) : Option ((List PosterT × (Int × Unit)) × (Unit × (Unit × Unit)))))) else
          if op < 5 then (Option.bind (sol_poster_Accrue (l, (a, (lim n, (lim r, (s, ())))))) (fun y_2 => (some ((y_2.1.1, (y_2.1.2.1, ())), ((), ((), ())))))) else
            (Option.bind (sol_poster_Settle (l, (a, (lim m, ())))) (fun y_3 => (some ((y_3.1.1, (y_3.1.2.1, ())), ((), ((), ()))))))) = some (y, ((), ((), ()))) ∧
        (if op = 0 then (Option.bind (sol_ref16_Add (l, (a, ()))) (fun y_1 => (some ((y_1.1.1, (y_1.1.2.1, ())), ((), ((), ()))) : Option ((List PosterT × (Int × Unit)) × (Unit × (Unit × Unit)))))) else
          if op < 5 then (Option.bind (sol_ref16_Accrue (l, (a, (lim n, (lim r, (s, ())))))) (fun y_2 => (some ((y_2.1.1, (y_2.1.2.1, ())), ((), ((), ())))))) else
            (Option.bind (sol_ref16_Settle (l, (a, (lim m, ())))) (fun y_3 => (some ((y_3.1.1, (y_3.1.2.1, ())), ((), ((), ()))))))) = some (y, ((), ((), ()))) := by
      intro m hm
      by_cases c1 : op = 0
      · rw [if_pos c1, if_pos c1, posterAdd_eq ha hl, rAdd_eq ha hl, bind_some']
        refine ⟨padd l a, fun h => (padd_stp ha g2 h).1, ?_, rfl, rfl⟩
        by_cases h : (padd l a).2.1 = 0
        · rw [(padd_stp ha g2 h).2]; simp only [pins_len]; omega
        · unfold padd at h ⊢
          repeat' split
          all_goals first | simp | skip
          simp_all
      rw [if_neg c1, if_neg c1]
      by_cases c2 : op < 5
      · rw [if_pos c2, if_pos c2]
        obtain ⟨y, hy, e⟩ := posterAccrue_eq (a := a) (since := s) ha hl g3 g4
        rw [e, rAccrue_eq ha hl g3 g4 hy, bind_some']
        exact ⟨y, hy.stp ha g5, by cases hy <;> simp, rfl, rfl⟩
      · rw [if_neg c2, if_neg c2]
        obtain ⟨y, hy, e⟩ := posterSettle_eq (a := a) ha hl hm
        rw [e, rSettle_eq ha hl hm hy, bind_some']
        exact ⟨y, hy.stp ha, by cases hy <;> simp, rfl, rfl⟩
    unfold sol_law16_apply T_law16_apply sol_law16_ReferenceApply T_law16_ReferenceApply
    simp only
    rw [rFind_eq (by omega), bind_some', bind_some']
    rw [zP_eq]
    simp only [brR_dec]
    cases wh with
    | false => rw [brR_false, brR_false]; exact main n g3
    | true =>
      rw [brR_true, brR_true]
      rcases pfind_spec l a with ⟨h1, h2⟩ | ⟨k, hk, h1, h2⟩
      · have hm1 : ¬ ((-1 : Int) ≥ 0) := by decide
        simp only [h1, if_neg hm1]; exact main n g3
      · have hm1 : ((k : Nat) : Int) ≥ 0 := by omega
        have hm2 : (0 : Int) ≤ ((k : Nat) : Int) ∧ ((k : Nat) : Int) < ((l.length : Nat) : Int) := by omega
        simp only [h1, if_pos hm1, brR_inR, if_pos hm2, Int.toNat_natCast]
        have hp := ha.at k
        generalize l.getD k zPoster = p at hp
        cases hp with
        | mk q1 q2 q3 q4 q5 q6 => exact main _ q2

theorem equalPosters_eq (a : List PosterT) (ha : a.length ≤ 1000000000) : sol_law0_EqualPosters (a, (a, ())) = some ((true, ()), ((), ((), ()))) := by
  unfold sol_law0_EqualPosters T_law0_EqualPosters
  simp only
  rw [brR_not, brR_dec, if_pos trivial]
  refine bigLoop_rule (I := fun x => ∃ i : Nat, i ≤ a.length ∧ x = (a, (a, (((i : Nat) : Int), ())))) (m := fun x => (((a.length : Nat) : Int) - x.2.2.1).toNat) (g := fun _ => some ((true, ()), ((), ((), ())))) ?_
    ⟨0, by omega, rfl⟩ (by simp only [bigN_eq]; omega)
  rintro x again ⟨i, hi, rfl⟩ hag
  simp only at hag ⊢
  unfold T_law0_EqualPosters_loop0
  simp only [letR_eq]
  rw [brR_dec]
  by_cases h : ((i : Nat) : Int) < ((a.length : Nat) : Int)
  · rw [if_pos h, brR_inR, if_pos (by omega), brR_inR, if_pos (by omega), Int.toNat_natCast, eqD_iff.2 rfl, brR_not, brR_true, w_i64 (by omega) (by omega)]
    exact hag _ ⟨i + 1, by omega, by rw [Int.natCast_add]; rfl⟩ (by simp only; omega)
  · rw [if_neg h]

/-! ### Awake -/

theorem pval_nil : PVal [] := ⟨by simp, fun i hi => by simp at hi⟩
theorem all_nil : AllP [] := fun p hp => by simp at hp

theorem pval7 : PVal [newP 7] := ⟨by simp, fun i hi => by
  have : i = 0 := by simp at hi; exact hi
  subst this
  refine ⟨?_, fun h => by omega⟩
  rw [show List.getD [newP 7] 0 zPoster = (7, (lim 0, (lim 0, (lim 0, (lim 0, ((0 : Int), ())))))) from rfl, goodP_mk]
  simp⟩

theorem awake16 : sol_law16_awake () = some ((true, ()), ()) := by
  have h50 : ([(50 : Int), 0, 0, 0] : List Int) = lim 50 := rfl
  have h2 : ([(2 : Int), 0, 0, 0] : List Int) = lim 2 := rfl
  have h53 : ([(53 : Int), 0, 0, 0] : List Int) = lim 53 := rfl
  have h52 : ([(52 : Int), 0, 0, 0] : List Int) = lim 52 := rfl
  have h0 : ([(0 : Int), 0, 0, 0] : List Int) = lim 0 := rfl
  have hadd : padd [] 7 = ([newP 7], ((0 : Int), ())) := by
    unfold padd
    rw [if_pos (pvalid_iff.2 pval_nil), if_neg (by decide), if_neg (by decide), if_neg (by decide)]
    rfl
  have all7 : AllP [newP 7] := fun p hp => by
    have : p = newP 7 := by simpa using hp
    rw [this]; exact newPW (by unfold U64; omega)
  have f7 : pfind [newP 7] 7 = 0 := rfl
  unfold sol_law16_awake T_law16_awake
  rw [posterAdd_eq all_nil (by simp), bind_some', hadd]
  simp only
  rw [h50, h2, h53]
  obtain ⟨y, hy, e⟩ := posterAccrue_eq (a := 7) (cost := 50) (reward := 2) (since := 1) all7 (by simp) (by unfold B256; omega) (by unfold B256; omega)
  rw [e, bind_some']
  have hst : y = ([(7, (lim 52, (lim 50, (lim 2, (lim 0, ((1 : Int), ()))))))], ((0 : Int), ())) := by
    cases hy with
    | invalid h => rcases h with h | h
                   · rw [pvalid_iff.2 pval7] at h; simp at h
                   · simp at h
    | absent h1 h2 h => rw [f7] at h; simp at h
    | over h1 h2 k hk h d c r pd s hp hd hc hr hov =>
      have : k = 0 := by simp at hk; exact hk
      subst this
      have e1 := congrArg (fun p : PosterT => (val4 p.2.1, val4 p.2.2.1, val4 p.2.2.2.1)) hp
      rw [show List.getD [newP 7] 0 zPoster = (7, (lim 0, (lim 0, (lim 0, (lim 0, ((0 : Int), ())))))) from rfl] at e1
      simp only [val4_lim, Prod.mk.injEq] at e1
      unfold B256 at hov
      omega
    | done h1 h2 k hk h d c r pd s hp hd hc hr hpd h3 h4 h5 =>
      have : k = 0 := by simp at hk; exact hk
      subst this
      have e1 := congrArg (fun p : PosterT => (val4 p.2.1, val4 p.2.2.1, val4 p.2.2.2.1, val4 p.2.2.2.2.1)) hp
      rw [show List.getD [newP 7] 0 zPoster = (7, (lim 0, (lim 0, (lim 0, (lim 0, ((0 : Int), ())))))) from rfl] at e1
      simp only [val4_lim, Prod.mk.injEq] at e1
      obtain ⟨q1, q2, q3, q4⟩ := e1
      subst q1 q2 q3 q4
      rw [if_pos ⟨rfl, by omega⟩]
      rfl
  have st := AccR.stp all7 (by unfold U64; omega) hy (by rw [hst])
  subst hst
  rw [letR_eq]
  obtain ⟨z, hz, e2⟩ := posterSettle_eq (a := 7) (n := 53) st.all (by simp) (by unfold B256; omega)
  simp only at e2 hz
  simp only
  rw [e2, bind_some']
  have hz2 : z.2.1 = 10 := by
    have f7' : pfind [((7 : Int), (lim 52, (lim 50, (lim 2, (lim 0, ((1 : Int), ()))))))] 7 = 0 := rfl
    cases hz with
    | invalid h => rw [pvalid_iff.2 st.val'] at h; simp at h
    | absent h1 h => rw [f7'] at h; simp at h
    | funds => rfl
    | over h1 k hk h d c r pd s hp hd hpd hf ho =>
      have : k = 0 := by simp at hk; exact hk
      subst this
      have e1 := congrArg (fun p : PosterT => val4 p.2.1) hp
      simp only [List.getD_cons_zero, val4_lim] at e1
      omega
    | done h1 k hk h d c r pd s hp hd hc hr hpd hf ho =>
      have : k = 0 := by simp at hk; exact hk
      subst this
      have e1 := congrArg (fun p : PosterT => val4 p.2.1) hp
      simp only [List.getD_cons_zero, val4_lim] at e1
      omega
  rw [hz2, h52, h0]
  have i0 : (0 : Int) ≤ 0 ∧ (0 : Int) < ((1 : Nat) : Int) := by decide
  simp only [decide_true, brR_true, List.length_cons, List.length_nil, Nat.zero_add, brR_inR, if_pos i0, List.getD_cons_zero]
  rw [eqD_iff.2 rfl]
  rfl

/-! ### Generate -/

theorem generate16_eq {l : List CallT} (hl : AllC l) : ∃ o : List PosterT, PVal o ∧ AllP o ∧ 5 ≤ o.length ∧ sol_law16_Generate (l, ()) = some ((o, ()), ((), ())) := by
  unfold sol_law16_Generate T_law16_Generate
  refine bigLoop_pred (I := fun x => ∃ (i : Nat) (o : List PosterT), i ≤ 5 ∧ PVal o ∧ AllP o ∧ o.length = i ∧ (∀ k, k < o.length → (o.getD k zPoster).1 < ((i + 1 : Nat) : Int)) ∧ x = (l, (o, (((i + 1 : Nat) : Int), ())))) (m := fun x => ((6 : Int) - x.2.2.1).toNat)
    (P := fun r => ∃ o : List PosterT, PVal o ∧ AllP o ∧ 5 ≤ o.length ∧ r = some ((o, ()), ((), ()))) ?_ ⟨0, [], by omega, pval_nil, all_nil, rfl, fun k hk => by simp at hk, rfl⟩ (by simp only [bigN_eq]; omega)
  rintro x again ⟨i, o, hi, hv, hall, hlen, hlt, rfl⟩ hag
  simp only at hag ⊢
  unfold T_law16_Generate_loop0
  rw [brR_dec]
  by_cases c : ((i + 1 : Nat) : Int) < 6
  · rw [if_pos c, rAdd_eq hall (by omega), bind_some']
    have hf : pfind o ((i + 1 : Nat) : Int) = -1 := by
      rcases pfind_spec o ((i + 1 : Nat) : Int) with ⟨q1, q2⟩ | ⟨k, hk, q1, q2⟩
      · exact q1
      · have := hlt k hk; omega
    have hp : padd o ((i + 1 : Nat) : Int) = (pins o ((i + 1 : Nat) : Int), ((0 : Int), ())) := by
      unfold padd
      rw [if_pos (pvalid_iff.2 hv), if_neg (by omega), if_neg (by omega), if_neg (by omega)]
    have hs := (padd_stp (a := ((i + 1 : Nat) : Int)) hall (by unfold U64; omega) (by rw [hp])).1
    rw [hp] at hs ⊢
    rw [w_u64 (by omega) (by omega)]
    refine hag _ ⟨i + 1, pins o ((i + 1 : Nat) : Int), by omega, hs.val', hs.all, by rw [pins_len]; omega, fun k hk => ?_, by rw [Int.natCast_add]; rfl⟩ (by simp only; omega)
    rw [getD_pins]
    rw [pins_len] at hk
    have hcl := cntP_le ((i + 1 : Nat) : Int) o
    split
    · have := hlt k (by omega); omega
    · split
      · show ((i + 1 : Nat) : Int) < _; omega
      · have := hlt (k - 1) (by omega); omega
  · rw [if_neg c]
    have hi5 : i = 5 := by omega
    refine bigLoop_pred (I := fun x => ∃ (j : Nat) (o : List PosterT), j ≤ l.length ∧ j ≤ 30 ∧ PVal o ∧ AllP o ∧ 5 ≤ o.length ∧ x = (l, (o, (((j : Nat) : Int), ())))) (m := fun x => ((30 : Int) - x.2.2.1).toNat)
      (P := fun r => ∃ o : List PosterT, PVal o ∧ AllP o ∧ 5 ≤ o.length ∧ r = some ((o, ()), ((), ()))) ?_ ⟨0, o, by omega, by omega, hv, hall, by omega, rfl⟩ (by simp only [bigN_eq]; omega)
    rintro x again ⟨j, o, hj, hj2, hv, hall, hlen, rfl⟩ hag
    simp only at hag ⊢
    unfold T_law16_Generate_loop1
    simp only [letR_eq]
    rw [brR_dec]
    by_cases c1 : ((j : Nat) : Int) < ((l.length : Nat) : Int)
    · rw [if_pos c1, brR_dec]
      by_cases c2 : ((j : Nat) : Int) < 30
      · rw [if_pos c2, brR_inR, if_pos (by omega), Int.toNat_natCast]
        have hd : CallW (l.getD j zCall) := hl _ (getD_mem (by omega))
        obtain ⟨d', hd', e⟩ := norm16_eq hd (i := ((j : Nat) : Int)) (by omega) (by omega)
        rw [e, bind_some']
        have := hv.1
        obtain ⟨y, h1, h2, h3, h4⟩ := apply16_eq hall (by omega) hd'
        simp only
        rw [h4, bind_some', brR_dec]
        rw [w_i64 (by omega) (by omega)]
        by_cases c3 : y.2.1 = 0
        · rw [if_pos c3]
          have hs := h1 c3
          exact hag _ ⟨j + 1, y.1, by omega, by omega, hs.val', hs.all, by have := hs.len; omega, by rw [Int.natCast_add]; rfl⟩ (by simp only; omega)
        · rw [if_neg c3]
          exact hag _ ⟨j + 1, o, by omega, by omega, hv, hall, hlen, by rw [Int.natCast_add]; rfl⟩ (by simp only; omega)
      · rw [if_neg c2]
        exact ⟨o, hv, hall, hlen, rfl⟩
    · rw [if_neg c1]
      exact ⟨o, hv, hall, hlen, rfl⟩

end Go.Pon
/-
  The laws of posters.
-/
set_option autoImplicit false
set_option linter.unusedVariables false
set_option linter.unusedSimpArgs false
namespace Go.Pon
open Go

theorem pins_head {l : List PosterT} {a : Int} (h : cntP l a = 0) : pins l a = newP a :: l := by unfold pins; rw [h]; rfl

theorem cntP_zero {l : List PosterT} {a : Int} (h : ∀ k, k < l.length → a < (l.getD k zPoster).1) : cntP l a = 0 := by
  cases l with
  | nil => rfl
  | cons p l =>
    rw [cntP_cons, if_neg]
    have := h 0 (by simp)
    simp only [List.getD_cons_zero] at this
    omega

theorem law_PosterCapacity_at (step more : Int) (h1 : U64 step) (h2 : U64 more) : ∃ y, sol_law16_PosterCapacity (step, (more, ())) = some y ∧ y.1.1 = true := by
  unfold sol_law16_PosterCapacity T_law16_PosterCapacity
  simp only
  have hs0 : ∃ s : Nat, IntKind.wrap .u64 (1 + Int.tmod step 1000) = ((s : Nat) : Int) ∧ 1 ≤ s ∧ s ≤ 1000 := by
    unfold U64 at h1
    rw [tmod_pos (by omega), w_u64 (by omega) (by omega)]
    exact ⟨(1 + step % 1000).toNat, by omega, by omega, by omega⟩
  obtain ⟨s, hs, hs1, hs2⟩ := hs0
  rw [hs]
  refine bigLoop_pred (I := fun x => ∃ (i : Nat) (l : List PosterT), i ≤ 64 ∧ PVal l ∧ AllP l ∧ l.length + i = 64 ∧ (∀ k, k < l.length → ((i * s : Nat) : Int) < (l.getD k zPoster).1) ∧ (i < 64 → (l.getD 0 zPoster).1 = (((i + 1) * s : Nat) : Int)) ∧ x = (more, (l, (((s : Nat) : Int), (((i : Nat) : Int), ()))))) (m := fun x => (x.2.2.2.1).toNat)
    (P := fun r => ∃ y : (Bool × Unit) × (Unit × (Unit × Unit)), r = some y ∧ y.1.1 = true) ?_ ⟨64, [], by omega, pval_nil, all_nil, rfl, fun k hk => by simp at hk, fun h => by omega, rfl⟩ (by simp only [bigN_eq]; omega)
  rintro x again ⟨i, l, hi, hv, hall, hlen, hgt, h0, rfl⟩ hag
  simp only at hag ⊢
  unfold T_law16_PosterCapacity_loop0
  rw [zP_eq]
  simp only [letR_eq]
  rw [brR_dec]
  by_cases c : ((i : Nat) : Int) > 0
  · rw [if_pos c]
    obtain ⟨j, rfl⟩ : ∃ j, i = j + 1 := ⟨i - 1, by omega⟩
    have hm : (((j + 1 : Nat) : Int) * ((s : Nat) : Int)) = (((j + 1) * s : Nat) : Int) := by rw [Int.natCast_mul]
    have hb : (j + 1) * s ≤ 64 * 1000 := Nat.mul_le_mul (by omega) (by omega)
    have hb0 : 1 ≤ (j + 1) * s := Nat.mul_le_mul (show 1 ≤ j + 1 by omega) hs1
    rw [hm, w_u64 (by omega) (by omega), posterAdd_eq hall (by omega), bind_some']
    have hf : pfind l (((j + 1) * s : Nat) : Int) = -1 := by
      rcases pfind_spec l (((j + 1) * s : Nat) : Int) with ⟨q1, q2⟩ | ⟨k, hk, q1, q2⟩
      · exact q1
      · have := hgt k hk; omega
    have hp : padd l (((j + 1) * s : Nat) : Int) = (pins l (((j + 1) * s : Nat) : Int), ((0 : Int), ())) := by
      unfold padd
      rw [if_pos (pvalid_iff.2 hv), if_neg (by omega), if_neg (by omega), if_neg (by omega)]
    have hst := (padd_stp (a := (((j + 1) * s : Nat) : Int)) hall (by unfold U64; omega) (by rw [hp])).1
    have hpi := pins_head (cntP_zero hgt)
    rw [hp] at hst ⊢
    rw [brR_not, brR_dec, if_pos rfl]
    rw [show ((j + 1 : Nat) : Int) - 1 = ((j : Nat) : Int) by omega, w_u64 (by omega) (by omega)]
    refine hag _ ⟨j, pins l (((j + 1) * s : Nat) : Int), by omega, hst.val', hst.all, by rw [pins_len]; omega, fun k hk => ?_, fun _ => ?_, rfl⟩ (by simp only; omega)
    · rw [hpi]
      have hjs : j * s < (j + 1) * s := Nat.mul_lt_mul_of_pos_right (by omega) (by omega)
      cases k with
      | zero => show _ < (((j + 1) * s : Nat) : Int); omega
      | succ k =>
        rw [List.getD_cons_succ]
        have := hgt k (by rw [pins_len] at hk; omega)
        omega
    · rw [hpi]; rfl
  · rw [if_neg c]
    have hi0 : i = 0 := by omega
    subst hi0
    have hl64 : l.length = 64 := by omega
    have h00 := h0 (by omega)
    rw [Nat.zero_add, Nat.one_mul] at h00
    rw [posterAdd_eq hall (by omega), bind_some', posterAdd_eq hall (by omega), bind_some', posterValid_eq hall (by omega), posterFind_eq (by omega)]
    have hfs : pfind l ((s : Nat) : Int) = 0 := by
      have := hv.find (j := 0) (by omega)
      rw [h00] at this
      exact this
    have e2 : padd l ((s : Nat) : Int) = ([], ((9 : Int), ())) := by
      unfold padd
      rw [if_pos (pvalid_iff.2 hv), if_neg (by omega), hfs, if_pos (by decide)]
    rw [e2, pvalid_iff.2 hv, awake16]
    have t1 : ((9 : Int) = 9) = True := by simp
    have i0 : (0 : Int) ≤ 0 ∧ (0 : Int) < ((l.length : Nat) : Int) := by omega
    have t2 : (((l.length : Nat) : Int) = 64) = True := by simp [hl64]
    simp only [bind_some', brR_true, brR_inR, if_pos i0, h00, decide_true, t1, t2]
    rw [brR_dec]
    by_cases m0 : more = 0
    · have e1 : padd l more = ([], ((2 : Int), ())) := by
        unfold padd
        rw [if_pos (pvalid_iff.2 hv), if_pos m0]
      rw [if_pos m0, e1]
      exact ⟨_, rfl, rfl⟩
    rw [if_neg m0, brR_dec]
    by_cases m1 : pfind l more ≥ 0
    · have e1 : padd l more = ([], ((9 : Int), ())) := by
        unfold padd
        rw [if_pos (pvalid_iff.2 hv), if_neg m0, if_pos m1]
      rw [if_pos m1, e1]
      simp only [t1, decide_true, brR_true]
      exact ⟨_, rfl, rfl⟩
    · have e1 : padd l more = ([], ((7 : Int), ())) := by
        unfold padd
        rw [if_pos (pvalid_iff.2 hv), if_neg m0, if_neg m1, if_pos hl64]
      rw [if_neg m1, e1]
      simp only [decide_true, brR_true]
      exact ⟨_, rfl, rfl⟩

theorem law_PosterCapacity : ∀ x, wfL s_law16_PosterCapacity.ins x → ∃ y, sol_law16_PosterCapacity x = some y ∧ y.1.1 = true :=
  fun ⟨a, b, _⟩ ⟨ha, hb, _⟩ => law_PosterCapacity_at a b (inK_u64.1 ha) (inK_u64.1 hb)

end Go.Pon
/-
  The laws of posters: sequences of calls.
-/
set_option autoImplicit false
set_option linter.unusedVariables false
set_option linter.unusedSimpArgs false
namespace Go.Pon
open Go

theorem law_PosterCalls_at (l : List CallT) (hl : AllC l) : ∃ y, sol_law16_PosterCalls (l, ()) = some y ∧ y.1.1 = true := by
  unfold sol_law16_PosterCalls T_law16_PosterCalls
  simp only
  rw [awake16, brR_dec]
  by_cases c0 : ((l.length : Nat) : Int) > 60
  · rw [if_pos c0]; exact ⟨_, rfl, rfl⟩
  rw [if_neg c0]
  refine bigLoop_pred (I := fun x => ∃ (i : Nat) (p : List PosterT), i ≤ l.length ∧ PVal p ∧ AllP p ∧ x = (l, (p, (((i : Nat) : Int), ())))) (m := fun x => (((l.length : Nat) : Int) - x.2.2.1).toNat)
    (P := fun r => ∃ y : (Bool × Unit) × (Unit × Unit), r = some y ∧ y.1.1 = true) ?_ ⟨0, [], by omega, pval_nil, all_nil, rfl⟩ (by simp only [bigN_eq]; omega)
  rintro x again ⟨i, p, hi, hv, hall, rfl⟩ hag
  simp only at hag ⊢
  unfold T_law16_PosterCalls_loop0
  simp only [letR_eq]
  rw [brR_dec]
  by_cases c : ((i : Nat) : Int) < ((l.length : Nat) : Int)
  · rw [if_pos c, brR_inR, if_pos (by omega), Int.toNat_natCast]
    have hd : CallW (l.getD i zCall) := hl _ (getD_mem (by omega))
    obtain ⟨d', hd', e⟩ := norm16_eq hd (i := ((i : Nat) : Int)) (by omega) (by omega)
    have hpl := hv.1
    obtain ⟨y, h1, h2, h3, h4⟩ := apply16_eq hall (by omega) hd'
    rw [e, bind_some']
    simp only
    rw [h3, bind_some', h4, bind_some', brR_not, brR_dec, if_pos rfl, equalPosters_eq y.1 (by omega), bind_some', brR_not, brR_true, brR_dec]
    rw [w_i64 (by omega) (by omega)]
    by_cases c3 : y.2.1 = 0
    · rw [if_pos c3]
      have hs := h1 c3
      have hl1 : y.1.length ≤ 1000 := by omega
      simp only
      rw [posterTotal_eq hs.all (by omega), rTotal_eq hs.all (by omega), posterValid_eq hs.all (by omega), pvalid_iff.2 hs.val', posterFind_eq (l := y.1) (by omega), rFind_eq (l := y.1) (by omega), bind_some', bind_some', bind_some', bind_some', bind_some', brR_not, eqD_iff.2 rfl, brR_true, brR_not, brR_dec, if_pos rfl, brR_not, brR_true, brR_not, brR_dec, if_pos rfl]
      exact hag _ ⟨i + 1, y.1, by omega, hs.val', hs.all, by rw [Int.natCast_add]; rfl⟩ (by simp only; omega)
    · rw [if_neg c3]
      rw [posterTotal_eq hall (by omega), rTotal_eq hall (by omega), posterValid_eq hall (by omega), pvalid_iff.2 hv, posterFind_eq (by omega), rFind_eq (by omega), bind_some', bind_some', bind_some', bind_some', bind_some', brR_not, eqD_iff.2 rfl, brR_true, brR_not, brR_dec, if_pos rfl, brR_not, brR_true, brR_not, brR_dec, if_pos rfl]
      exact hag _ ⟨i + 1, p, by omega, hv, hall, by rw [Int.natCast_add]; rfl⟩ (by simp only; omega)
  · rw [if_neg c, awake16]
    exact ⟨_, rfl, rfl⟩

theorem call_wf {d : CallT} (h : (Ty.pair (.int .i64) (.pair (.int .u64) (.pair (.arr 4 (.int .u64)) (.pair (.arr 4 (.int .u64)) (.pair .bool (.pair .bool (.pair (.int .u64) .unit))))))).wf d) : CallW d := by
  obtain ⟨a, b, n, r, sm, wh, s, _⟩ := d
  obtain ⟨h1, h2, h3, h4, h5, h6, h7, _⟩ := h
  obtain ⟨n, hn, rfl⟩ := u256_wf h3
  obtain ⟨r, hr, rfl⟩ := u256_wf h4
  exact .mk (inK_i64.1 h1) (inK_u64.1 h2) hn hr (inK_u64.1 h7)

theorem poster_wf {p : PosterT} (h : (Ty.pair (.int .u64) (.pair (.arr 4 (.int .u64)) (.pair (.arr 4 (.int .u64)) (.pair (.arr 4 (.int .u64)) (.pair (.arr 4 (.int .u64)) (.pair (.int .u64) .unit)))))).wf p) : PosterW p := by
  obtain ⟨a, d, c, r, q, s, _⟩ := p
  obtain ⟨h1, h2, h3, h4, h5, h6, _⟩ := h
  obtain ⟨n, hn, rfl⟩ := u256_wf h2
  obtain ⟨m, hm, rfl⟩ := u256_wf h3
  obtain ⟨r, hr, rfl⟩ := u256_wf h4
  obtain ⟨q, hq, rfl⟩ := u256_wf h5
  exact .mk (inK_u64.1 h1) hn hm hr hq (inK_u64.1 h6)

theorem law_PosterCalls : ∀ x, wfL s_law16_PosterCalls.ins x → ∃ y, sol_law16_PosterCalls x = some y ∧ y.1.1 = true :=
  fun ⟨l, _⟩ ⟨hl, _⟩ => law_PosterCalls_at l (fun x hx => call_wf (hl.2 x hx))

/-! ### Arbitrary tables -/

theorem tables_loop {l m : List PosterT} {d : CallT} (hd : CallW d) (hl : AllP l) (hm : AllP m) (h1 : l.length ≤ 1000) (h2 : m.length ≤ 1000) :
    ∃ y : (Bool × Unit) × (Unit × (Unit × (Unit × (Unit × (Unit × (Unit × Unit)))))), bigLoop _ _ (fun again x => T_law16_PosterArbitraryTables_loop0 sol_law16_Normalize sol_law16_apply sol_law16_ReferenceApply sol_poster_TotalDue sol_ref16_TotalDue sol_poster_Valid sol_ref16_Valid sol_law0_EqualPosters sol_poster_Find sol_ref16_Find sol_law16_awake again x.1 x.2.1 x.2.2.1) (d, ([l, m], ((0 : Int), ()))) = some y ∧ y.1.1 = true := by
  refine bigLoop_pred (I := fun x => ∃ i : Nat, i ≤ 2 ∧ x = (d, ([l, m], (((i : Nat) : Int), ())))) (m := fun x => ((2 : Int) - x.2.2.1).toNat)
    (P := fun r => ∃ y : (Bool × Unit) × (Unit × (Unit × (Unit × (Unit × (Unit × (Unit × Unit)))))), r = some y ∧ y.1.1 = true) ?_ ⟨0, by omega, rfl⟩ (by simp only [bigN_eq]; omega)
  rintro x again ⟨i, hi, rfl⟩ hag
  simp only at hag ⊢
  unfold T_law16_PosterArbitraryTables_loop0
  simp only [letR_eq]
  rw [brR_dec]
  by_cases c : ((i : Nat) : Int) < 2
  · have hx : AllP (List.getD [l, m] i []) ∧ (List.getD [l, m] i []).length ≤ 1000 := by
      rcases (show i = 0 ∨ i = 1 by omega) with rfl | rfl
      · exact ⟨hl, h1⟩
      · exact ⟨hm, h2⟩
    rw [if_pos c, brR_inR, if_pos (by omega), Int.toNat_natCast]
    generalize List.getD [l, m] i [] = p at hx
    obtain ⟨hall, hpl⟩ := hx
    obtain ⟨d', hd', e⟩ := norm16_eq hd (i := 1) (by omega) (by omega)
    obtain ⟨y, q1, q2, q3, q4⟩ := apply16_eq hall (by omega) hd'
    rw [e, bind_some']
    simp only
    rw [q3, bind_some', bind_some', q4, bind_some', posterTotal_eq hall (by omega), bind_some', rTotal_eq hall (by omega), bind_some', posterValid_eq hall (by omega), bind_some', rValidP_eq hall (by omega), bind_some',
      brR_not, eqD_iff.2 rfl, brR_true, brR_not, brR_dec, if_pos rfl, equalPosters_eq y.1 (by omega), bind_some', brR_not, brR_true, brR_not, eqD_iff.2 rfl, brR_true, brR_not, brR_dec, if_pos rfl, posterFind_eq (by omega), bind_some', rFind_eq (by omega), bind_some', brR_not, brR_dec, if_pos rfl]
    rw [w_i64 (by omega) (by omega)]
    exact hag _ ⟨i + 1, by omega, by rw [Int.natCast_add]; rfl⟩ (by simp only; omega)
  · rw [if_neg c, awake16]
    exact ⟨_, rfl, rfl⟩

theorem law_PosterArbitraryTables_at (l : List PosterT) (d : CallT) (m : List CallT) (at_ field : Int) (to : Nat) (hl : AllP l) (hd : CallW d) (hm : AllC m) (ha : -9223372036854775808 ≤ at_ ∧ at_ ≤ 9223372036854775807) (hf : -9223372036854775808 ≤ field ∧ field ≤ 9223372036854775807) (hto : B256 to) :
    ∃ y, sol_law16_PosterArbitraryTables (l, (d, (m, (at_, (field, (lim to, ())))))) = some y ∧ y.1.1 = true := by
  unfold sol_law16_PosterArbitraryTables T_law16_PosterArbitraryTables
  simp only
  rw [zP_eq]
  rw [letR_eq, awake16, brR_dec]
  by_cases c0 : ((l.length : Nat) : Int) > 70
  · rw [if_pos c0]; exact ⟨_, rfl, rfl⟩
  rw [if_neg c0]
  obtain ⟨o, hv, hall, hlen, e⟩ := generate16_eq hm
  have h64 := hv.1
  rw [e, bind_some', letR_eq, mod_eq ha.1 ha.2 (by simp only; omega) (by simp only; omega), bind_some']
  simp only
  obtain ⟨k, hk, hkl⟩ : ∃ k : Nat, at_ % 18446744073709551616 % ((o.length : Nat) : Int) = ((k : Nat) : Int) ∧ k < o.length := by
    have h1 := Int.emod_nonneg (at_ % 18446744073709551616) (b := ((o.length : Nat) : Int)) (by omega)
    have h2 := Int.emod_lt_of_pos (at_ % 18446744073709551616) (b := ((o.length : Nat) : Int)) (by omega)
    exact ⟨(at_ % 18446744073709551616 % ((o.length : Nat) : Int)).toNat, by omega, by omega⟩
  rw [hk, Int.toNat_natCast, letR_eq, mod_eq hf.1 hf.2 (by omega) (by omega), bind_some']
  simp only [brR_inR, List.length_set]
  have i0 : (0 : Int) ≤ ((k : Nat) : Int) ∧ ((k : Nat) : Int) < ((o.length : Nat) : Int) := by omega
  simp only [if_pos i0, getD_set_self hkl, set_setP]
  generalize field % 18446744073709551616 % 6 = fld
  have hx : 0 ≤ List.getD (lim to) 0 0 ∧ List.getD (lim to) 0 0 ≤ 18446744073709551615 := by unfold lim; simp; omega
  generalize List.getD (lim to) 0 0 = x0 at hx ⊢
  have hp := hall.at k
  have hset : ∀ q, PosterW q → ∃ y : (Bool × Unit) × (Unit × (Unit × (Unit × (Unit × (Unit × (Unit × Unit)))))), bigLoop _ _ (fun again x => T_law16_PosterArbitraryTables_loop0 sol_law16_Normalize sol_law16_apply sol_law16_ReferenceApply sol_poster_TotalDue sol_ref16_TotalDue sol_poster_Valid sol_ref16_Valid sol_law0_EqualPosters sol_poster_Find sol_ref16_Find sol_law16_awake again x.1 x.2.1 x.2.2.1) (d, ([l, List.set o k q], ((0 : Int), ()))) = some y ∧ y.1.1 = true :=
    fun q hq => tables_loop hd hl (hall.set hq) (by omega) (by rw [List.length_set]; omega)
  generalize o.getD k zPoster = p at hp ⊢
  cases hp with
  | mk g1 g2 g3 g4 g5 g6 =>
    simp only
    rw [brR_dec, brR_dec, brR_dec, brR_dec, brR_dec]
    by_cases f0 : fld = 0
    · rw [if_pos f0]
      exact hset _ (.mk (by unfold U64; rw [tmod_pos (by omega)]; omega) g2 g3 g4 g5 g6)
    rw [if_neg f0]
    by_cases f1 : fld = 1
    · rw [if_pos f1]
      exact hset _ (.mk g1 hto g3 g4 g5 g6)
    rw [if_neg f1]
    by_cases f2 : fld = 2
    · rw [if_pos f2]
      exact hset _ (.mk g1 g2 hto g4 g5 g6)
    rw [if_neg f2]
    by_cases f3 : fld = 3
    · rw [if_pos f3]
      exact hset _ (.mk g1 g2 g3 g4 g5 (by unfold U64; rw [tmod_pos (by omega)]; omega))
    rw [if_neg f3]
    by_cases f4 : fld = 4
    · rw [if_pos f4]
      exact hset _ (.mk g1 g2 g3 hto hto g6)
    rw [if_neg f4]
    exact tables_loop hd hl hall (by omega) (by omega)

end Go.Pon
/-
  The laws of posters: debts.
-/
set_option autoImplicit false
set_option linter.unusedVariables false
set_option linter.unusedSimpArgs false
namespace Go.Pon
open Go

theorem entry_eq {q : PosterT} (hw : PosterW q) (hg : goodP q = true) : ∃ z : List Int × (Int × Unit), sol_uint256_Add (q.2.1, (q.2.2.2.2.1, ())) = some (z, ((), ((), ()))) ∧ sol_uint256_Add (q.2.2.1, (q.2.2.2.1, ())) = some (z, ((), ((), ()))) ∧
    eqD .bool (decide (q.2.2.2.2.2.1 = 0)) (eqD (.arr 4 (.int .u64)) q.2.1 [(0 : Int), (0 : Int), (0 : Int), (0 : Int)]) = true := by
  cases hw with
  | mk h1 h2 h3 h4 h5 h6 =>
    rename_i a d c r p s
    rw [goodP_mk] at hg
    simp only [Bool.and_eq_true, decide_eq_true_eq] at hg
    simp only
    have e3 : eqD .bool (decide (s = 0)) (eqD (.arr 4 (.int .u64)) (lim d) [(0 : Int), (0 : Int), (0 : Int), (0 : Int)]) = true := by
      rw [← lim0, eqD_lim, eqB_iff, decide_eq_true_eq]
      exact hg.2.2
    by_cases b : B256 (d + p)
    · have b' : B256 (c + r) := by rw [← hg.2.1]; exact b
      exact ⟨_, uAdd_ok h2 h5 b, by rw [uAdd_ok h3 h4 b', hg.2.1], e3⟩
    · have b' : ¬ B256 (c + r) := by rw [← hg.2.1]; exact b
      exact ⟨_, uAdd_bad h2 h5 b, uAdd_bad h3 h4 b', e3⟩

theorem law_PosterDebtInvariant_at (l : List CallT) (hl : AllC l) : ∃ y, sol_law16_PosterDebtInvariant (l, ()) = some y ∧ y.1.1 = true := by
  unfold sol_law16_PosterDebtInvariant T_law16_PosterDebtInvariant
  simp only
  rw [awake16, brR_dec]
  by_cases c0 : ((l.length : Nat) : Int) > 60
  · rw [if_pos c0]; exact ⟨_, rfl, rfl⟩
  rw [if_neg c0]
  obtain ⟨o, hv, hall, hlen, e⟩ := generate16_eq (l := []) (fun x hx => by simp at hx)
  rw [e, bind_some']
  refine bigLoop_pred (I := fun x => ∃ (i : Nat) (p : List PosterT), i ≤ l.length ∧ PVal p ∧ AllP p ∧ x = (l, (p, (((i : Nat) : Int), ())))) (m := fun x => (((l.length : Nat) : Int) - x.2.2.1).toNat)
    (P := fun r => ∃ y : (Bool × Unit) × (Unit × Unit), r = some y ∧ y.1.1 = true) ?_ ⟨0, o, by omega, hv, hall, rfl⟩ (by simp only [bigN_eq]; omega)
  clear hv hall hlen e
  rintro x again ⟨i, p, hi, hv, hall, rfl⟩ hag
  simp only at hag ⊢
  unfold T_law16_PosterDebtInvariant_loop0
  simp only [letR_eq]
  rw [brR_dec]
  by_cases c : ((i : Nat) : Int) < ((l.length : Nat) : Int)
  · rw [if_pos c, brR_inR, if_pos (by omega), Int.toNat_natCast]
    have hd : CallW (l.getD i zCall) := hl _ (getD_mem (by omega))
    obtain ⟨d', hd', e⟩ := norm16_eq hd (i := ((i : Nat) : Int)) (by omega) (by omega)
    have hpl := hv.1
    obtain ⟨y, h1, h2, h3, h4⟩ := apply16_eq hall (by omega) hd'
    rw [e, bind_some', roomyP (by omega), brR_true]
    simp only
    rw [h3, bind_some', equalPosters_eq p (by omega), bind_some', brR_not, brR_true, brR_not, brR_dec]
    by_cases c3 : y.2.1 = 0
    case neg =>
      rw [if_neg c3, w_i64 (by omega) (by omega)]
      exact hag _ ⟨i + 1, p, by omega, hv, hall, by rw [Int.natCast_add]; rfl⟩ (by simp only; omega)
    rw [if_pos c3]
    have hs := h1 c3
    have hyl := hs.val'.1
    refine bigLoop_pred (I := fun x => ∃ k : Nat, k ≤ y.1.length ∧ x = (l, (((i : Nat) : Int), (d', (p, (y.1, (((k : Nat) : Int), ()))))))) (m := fun x => (((y.1.length : Nat) : Int) - x.2.2.2.2.2.1).toNat)
      (P := fun r => ∃ y : (Bool × Unit) × (Unit × Unit), r = some y ∧ y.1.1 = true) ?_ ⟨0, by omega, rfl⟩ (by simp only [bigN_eq]; omega)
    rintro x again2 ⟨k, hk, rfl⟩ hag2
    simp only at hag2 ⊢
    unfold T_law16_PosterDebtInvariant_loop1
    rw [zP_eq]
    simp only [letR_eq]
    rw [brR_dec]
    by_cases ck : ((k : Nat) : Int) < ((y.1.length : Nat) : Int)
    · have ik : (0 : Int) ≤ ((k : Nat) : Int) ∧ ((k : Nat) : Int) < ((y.1.length : Nat) : Int) := by omega
      rw [if_pos ck]
      rw [posterFind_eq (by omega)]
      simp only [brR_inR, if_pos ik, Int.toNat_natCast, bind_some']
      have hold := hs.old k (by omega)
      have hw := hs.all.at k
      have hg := (hs.val'.2 k (by omega)).1
      obtain ⟨z, z1, z2, z3⟩ := entry_eq hw hg
      rw [brR_not, brR_dec, z1, z2]
      simp only [bind_some']
      have hgo : ∃ yy : (Bool × Unit) × (Unit × Unit), again2 (l, (((i : Nat) : Int), (d', (p, (y.1, (IntKind.wrap .i64 (((k : Nat) : Int) + 1), ())))))) = some yy ∧ yy.1.1 = true := by
        rw [w_i64 (by omega) (by omega)]
        exact hag2 _ ⟨k + 1, by omega, by rw [Int.natCast_add]; rfl⟩ (by simp only; omega)
      by_cases ca : (y.1.getD k zPoster).1 = d'.2.1
      · rw [if_pos ca, brR_not, brR_dec, if_pos trivial, brR_not, eqD_iff.2 rfl, brR_true, brR_not, z3, brR_true]
        exact hgo
      · rw [if_neg ca]
        obtain ⟨j, hj, f1, f2⟩ := hold ca
        rw [f1, brR_dec, if_neg (by omega), if_pos (by omega), Int.toNat_natCast, brR_not, eqD_iff.2 f2, brR_true, brR_not, brR_dec, if_pos trivial, brR_not, eqD_iff.2 rfl, brR_true, brR_not, z3, brR_true]
        exact hgo
    · rw [if_neg ck, w_i64 (by omega) (by omega)]
      exact hag _ ⟨i + 1, y.1, by omega, hs.val', hs.all, by rw [Int.natCast_add]; rfl⟩ (by simp only; omega)
  · rw [if_neg c, awake16]
    exact ⟨_, rfl, rfl⟩

theorem law_PosterDebtInvariant : ∀ x, wfL s_law16_PosterDebtInvariant.ins x → ∃ y, sol_law16_PosterDebtInvariant x = some y ∧ y.1.1 = true :=
  fun ⟨l, _⟩ ⟨hl, _⟩ => law_PosterDebtInvariant_at l (fun x hx => call_wf (hl.2 x hx))

theorem law_PosterArbitraryTables : ∀ x, wfL s_law16_PosterArbitraryTables.ins x → ∃ y, sol_law16_PosterArbitraryTables x = some y ∧ y.1.1 = true :=
  fun ⟨l, d, m, a, f, t, _⟩ ⟨hl, hd, hm, ha, hf, ht, _⟩ => by
    obtain ⟨n, hn, rfl⟩ := u256_wf ht
    exact law_PosterArbitraryTables_at l d m a f n (fun x hx => poster_wf (hl.2 x hx)) (call_wf hd) (fun x hx => call_wf (hm.2 x hx)) (inK_i64.1 ha) (inK_i64.1 hf) hn

theorem law_PosterSettleAll_at (d : List CallT) (which : Int) (hd : AllC d) (hw : -9223372036854775808 ≤ which ∧ which ≤ 9223372036854775807) : ∃ y, sol_law16_PosterSettleAll (d, (which, ())) = some y ∧ y.1.1 = true := by
  unfold sol_law16_PosterSettleAll T_law16_PosterSettleAll
  simp only
  rw [zP_eq]
  rw [awake16, brR_dec]
  by_cases c0 : ((d.length : Nat) : Int) > 30
  · rw [if_pos c0]; exact ⟨_, rfl, rfl⟩
  rw [if_neg c0]
  obtain ⟨o, hv, hall, hlen, e⟩ := generate16_eq hd
  have h64 := hv.1
  rw [e, bind_some', letR_eq, letR_eq, mod_eq hw.1 hw.2 (by simp only; omega) (by simp only; omega), bind_some']
  simp only
  obtain ⟨k, hk, hkl⟩ : ∃ k : Nat, which % 18446744073709551616 % ((o.length : Nat) : Int) = ((k : Nat) : Int) ∧ k < o.length := by
    have h1 := Int.emod_nonneg (which % 18446744073709551616) (b := ((o.length : Nat) : Int)) (by omega)
    have h2 := Int.emod_lt_of_pos (which % 18446744073709551616) (b := ((o.length : Nat) : Int)) (by omega)
    exact ⟨(which % 18446744073709551616 % ((o.length : Nat) : Int)).toNat, by omega, by omega⟩
  rw [hk, Int.toNat_natCast]
  have i0 : (0 : Int) ≤ ((k : Nat) : Int) ∧ ((k : Nat) : Int) < ((o.length : Nat) : Int) := by omega
  simp only [brR_inR, if_pos i0]
  have hp := hall.at k
  have hg := (hv.2 k hkl).1
  have hf := hv.find hkl
  generalize hpk : o.getD k zPoster = p at hp hg hf ⊢
  cases hp with
  | mk g1 g2 g3 g4 g5 g6 =>
    rename_i a n c r q s
    rw [goodP_mk] at hg
    simp only [Bool.and_eq_true, decide_eq_true_eq] at hg
    simp only at hf
    obtain ⟨y, hy, e2⟩ := posterSettle_eq (a := a) (n := n) hall (by omega) g2
    simp only
    rw [e2, bind_some']
    cases hy with
    | invalid h => rw [pvalid_iff.2 hv] at h; simp at h
    | absent h1 h => rw [hf] at h; omega
    | funds h1 k' hk' h d c r pd s hp hd' hff =>
      have : k' = k := by omega
      subst this
      rw [hpk] at hp
      have := congrArg (fun p : PosterT => val4 p.2.1) hp
      simp only [val4_lim] at this
      omega
    | over h1 k' hk' h d' c' r' pd s' hp hd' hpd hff ho =>
      have : k' = k := by omega
      subst this
      rw [hpk] at hp
      have e3 := congrArg (fun p : PosterT => (val4 p.2.1, val4 p.2.2.2.2.1)) hp
      simp only [val4_lim, Prod.mk.injEq] at e3
      have hb : ¬ B256 (c + r) := by
        rw [← hg.2.1, e3.2, Nat.add_comm]; exact ho
      rw [uAdd_bad g3 g4 hb, bind_some']
      exact ⟨_, rfl, rfl⟩
    | done h1 k' hk' h d' c' r' pd s' hp hd' hc hr hpd hff ho =>
      have : k' = k := by omega
      subst this
      rw [hpk] at hp
      have e3 := congrArg (fun p : PosterT => (val4 p.2.1, val4 p.2.2.1, val4 p.2.2.2.1, val4 p.2.2.2.2.1)) hp
      simp only [val4_lim, Prod.mk.injEq] at e3
      obtain ⟨rfl, rfl, rfl, rfl⟩ := e3
      have hb : B256 (c + r) := by
        rw [← hg.2.1, Nat.add_comm]; exact ho
      rw [uAdd_ok g3 g4 hb, bind_some', brR_not, brR_dec, if_pos rfl, brR_not, brR_dec, if_pos (by simp), hpk, Nat.sub_self, if_pos rfl]
      simp only
      generalize hx : List.set o k' (a, (lim 0, (lim c, (lim r, (lim (q + n), ((0 : Int), ())))))) = x
      have hxl : x.length = o.length := by rw [← hx, List.length_set]
      refine bigLoop_pred (I := fun w => ∃ i : Nat, i ≤ o.length ∧ w = (o, (((k' : Nat) : Int), (x, ((0 : Int), ((a, ([(0 : Int), (0 : Int), (0 : Int), (0 : Int)], (lim c, (lim r, (lim (c + r), ((0 : Int), ())))))), (((i : Nat) : Int), ()))))))) (m := fun w => (((o.length : Nat) : Int) - w.2.2.2.2.2.1).toNat)
        (P := fun r => ∃ y : (Bool × Unit) × (Unit × (Unit × Unit)), r = some y ∧ y.1.1 = true) ?_ ⟨0, by omega, rfl⟩ (by simp only [bigN_eq]; omega)
      rintro w again ⟨i, hi, rfl⟩ hag
      simp only at hag ⊢
      unfold T_law16_PosterSettleAll_loop0
      simp only [letR_eq, brR_inR, Int.toNat_natCast, hxl, if_pos i0]
      rw [brR_dec]
      by_cases ci : ((i : Nat) : Int) < ((o.length : Nat) : Int)
      · have ii : (0 : Int) ≤ ((i : Nat) : Int) ∧ ((i : Nat) : Int) < ((o.length : Nat) : Int) := by omega
        have hgo : ∃ yy : (Bool × Unit) × (Unit × (Unit × Unit)), again (o, (((k' : Nat) : Int), (x, ((0 : Int), ((a, ([(0 : Int), (0 : Int), (0 : Int), (0 : Int)], (lim c, (lim r, (lim (c + r), ((0 : Int), ())))))), (IntKind.wrap .i64 (((i : Nat) : Int) + 1), ())))))) = some yy ∧ yy.1.1 = true := by
          rw [w_i64 (by omega) (by omega)]
          exact hag _ ⟨i + 1, by omega, by rw [Int.natCast_add]; rfl⟩ (by simp only; omega)
        rw [if_pos ci, brR_not, brR_dec]
        by_cases ck : ((i : Nat) : Int) = ((k' : Nat) : Int)
        · rw [if_pos ck]; exact hgo
        · simp only [if_neg ck, if_pos ii]
          have : x.getD i zPoster = o.getD i zPoster := by rw [← hx, getD_setP hkl, if_neg (by omega)]
          rw [this, brR_not, eqD_iff.2 rfl, brR_true]
          exact hgo
      · rw [if_neg ci]
        have : x.getD k' zPoster = (a, ([(0 : Int), (0 : Int), (0 : Int), (0 : Int)], (lim c, (lim r, (lim (c + r), ((0 : Int), ())))))) := by
          rw [← hx, getD_setP hkl, if_pos rfl, ← hg.2.1, Nat.add_comm]; rfl
        rw [this, eqD_iff.2 rfl, awake16]
        exact ⟨_, rfl, rfl⟩

theorem law_PosterSettleAll : ∀ x, wfL s_law16_PosterSettleAll.ins x → ∃ y, sol_law16_PosterSettleAll x = some y ∧ y.1.1 = true :=
  fun ⟨d, w, _⟩ ⟨hd, hw, _⟩ => law_PosterSettleAll_at d w (fun x hx => call_wf (hd.2 x hx)) (inK_i64.1 hw)

end Go.Pon
