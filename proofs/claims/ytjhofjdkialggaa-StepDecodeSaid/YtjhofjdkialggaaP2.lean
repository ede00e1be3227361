/-
  Part of a proof: general lemmas, merged by a program of this work.
-/
import Derived.Test.YtjhofjdkialggaaP1
/-
  Plain lemmas: branches, loops, numbers of a kind, lists.
-/
set_option autoImplicit false
set_option linter.unusedVariables false
namespace Go.Pon
open Go

/-! ### Branches -/

theorem brR_ite {α : Type} (c : Bool) (t e : Option α) : brR c t e = if c = true then t else e := by cases c <;> rfl
theorem brR_dec {α : Type} (p : Prop) [Decidable p] (t e : Option α) : brR (decide p) t e = if p then t else e := by
  rw [brR_ite]; by_cases h : p <;> simp [h]
theorem brR_not {α : Type} (c : Bool) (t e : Option α) : brR (!c) t e = brR c e t := by cases c <;> rfl
theorem brR_and {α : Type} (a b : Bool) (t e : Option α) : brR (a && b) t e = brR a (brR b t e) e := by cases a <;> rfl
theorem brR_or {α : Type} (a b : Bool) (t e : Option α) : brR (a || b) t e = brR a t (brR b t e) := by cases a <;> rfl
theorem brR_inR {α : Type} (i : Int) (n : Nat) (t e : Option α) : brR (inR i n) t e = if 0 ≤ i ∧ i < n then t else e := by
  unfold inR; rw [brR_and, brR_dec, brR_dec]; by_cases h1 : 0 ≤ i <;> by_cases h2 : i < n <;> simp [h1, h2]

theorem bind_some' {α β : Type} (a : α) (f : α → Option β) : Option.bind (some a) f = f a := rfl

/-- Room for so many elements. -/
theorem roomy_dec {n : Nat} {t : Ty} : roomy n t = decide (0 < t.size ∧ n * (24 * t.size) ≤ 140737488355328) := by
  unfold roomy
  by_cases h : 0 < t.size
  · simp [h]
  · simp [h]

theorem brR_roomy {α : Type} (n : Nat) (t : Ty) (a b : Option α) : brR (roomy n t) a b = if 0 < t.size ∧ n * (24 * t.size) ≤ 140737488355328 then a else b := by
  rw [roomy_dec, brR_dec]

/-! ### Loops -/

/-- A loop's result, by an invariant, a measure and a guess that each round keeps. -/
theorem bigLoop_rule {ω δ : Type} {round : (δ → Option ω) → δ → Option ω} (I : δ → Prop) (m : δ → Nat) (g : δ → Option ω)
    (h : ∀ x (again : δ → Option ω), I x → (∀ y, I y → m y < m x → again y = g y) → round again x = g x) {x : δ} (hx : I x) (hm : m x < bigN) : bigLoop ω δ round x = g x := by
  have key : ∀ n x, I x → m x < n → loopN round n x = g x := by
    intro n
    induction n with
    | zero => intro x _ hm; omega
    | succ n ih =>
      intro x hx hm
      rw [loopN_succ]
      exact h x _ hx fun y hy hlt => ih y hy (by omega)
  rw [bigLoop_def]
  exact key bigN x hx hm

theorem bigN_eq : bigN = 18446744073709551616 := rfl

/-- So many rounds, one by one. -/
theorem bigLoop_add {ω δ : Type} {round : (δ → Option ω) → δ → Option ω} (k : Nat) (hk : k ≤ bigN) (x : δ) : ∃ n, bigLoop ω δ round x = loopN round (n + k) x :=
  ⟨bigN - k, by rw [Nat.sub_add_cancel hk, bigLoop_def]⟩

/-! ### Numbers of a kind -/

theorem w_i64 {n : Int} (h1 : -9223372036854775808 ≤ n) (h2 : n ≤ 9223372036854775807) : IntKind.i64.wrap n = n := by rw [IntKind.wrap_i64]; omega
theorem w_u64 {n : Int} (h1 : 0 ≤ n) (h2 : n ≤ 18446744073709551615) : IntKind.u64.wrap n = n := by rw [IntKind.wrap_u64]; omega
theorem w_u32 {n : Int} (h1 : 0 ≤ n) (h2 : n ≤ 4294967295) : IntKind.u32.wrap n = n := by rw [IntKind.wrap_u32]; omega
theorem w_u16 {n : Int} (h1 : 0 ≤ n) (h2 : n ≤ 65535) : IntKind.u16.wrap n = n := by rw [IntKind.wrap_u16]; omega
theorem w_u8 {n : Int} (h1 : 0 ≤ n) (h2 : n ≤ 255) : IntKind.u8.wrap n = n := by rw [IntKind.wrap_u8]; omega

theorem tdiv_pos {a b : Int} (h : 0 ≤ a) : Int.tdiv a b = a / b := Int.tdiv_eq_ediv_of_nonneg h
theorem tmod_pos {a b : Int} (h : 0 ≤ a) : Int.tmod a b = a % b := Int.tmod_eq_emod_of_nonneg h

theorem inK_u64 {n : Int} : inK .u64 n ↔ 0 ≤ n ∧ n ≤ 18446744073709551615 := by simp [inK, IntKind.min, IntKind.max, IntKind.signed, IntKind.bits]
theorem inK_u8 {n : Int} : inK .u8 n ↔ 0 ≤ n ∧ n ≤ 255 := by simp [inK, IntKind.min, IntKind.max, IntKind.signed, IntKind.bits]
theorem inK_u16 {n : Int} : inK .u16 n ↔ 0 ≤ n ∧ n ≤ 65535 := by simp [inK, IntKind.min, IntKind.max, IntKind.signed, IntKind.bits]
theorem inK_u32 {n : Int} : inK .u32 n ↔ 0 ≤ n ∧ n ≤ 4294967295 := by simp [inK, IntKind.min, IntKind.max, IntKind.signed, IntKind.bits]
theorem inK_i64 {n : Int} : inK .i64 n ↔ -9223372036854775808 ≤ n ∧ n ≤ 9223372036854775807 := by simp [inK, IntKind.min, IntKind.max, IntKind.signed, IntKind.bits]

/-! ### Equality of data -/

theorem eqD_dec (t : Ty) (x y : t.den) [Decidable (x = y)] : eqD t x y = decide (x = y) := by
  rw [Bool.eq_iff_iff, eqD_iff]; simp

theorem brR_eqD {α : Type} (t : Ty) (x y : t.den) [Decidable (x = y)] (a b : Option α) : brR (eqD t x y) a b = if x = y then a else b := by rw [eqD_dec, brR_dec]

/-! ### Lists -/

theorem getD_mem {α : Type} {l : List α} {i : Nat} {d : α} (h : i < l.length) : List.getD l i d ∈ l := by
  rw [List.getD_eq_getElem?_getD, List.getElem?_eq_getElem h]; simp

theorem getD_all {p : Int → Prop} {l : List Int} (h : ∀ x ∈ l, p x) (h0 : p 0) (i : Nat) : p (List.getD l i 0) := by
  rcases Nat.lt_or_ge i l.length with hi | hi
  · exact h _ (getD_mem hi)
  · rw [List.getD_eq_getElem?_getD, List.getElem?_eq_none hi]; exact h0

theorem append_def {α : Type} (l m : List α) : List.append l m = l ++ m := rfl

end Go.Pon
/-
  Plain lemmas: numbers in four limbs, their bytes, their length in bits.
-/
set_option autoImplicit false
set_option linter.unusedVariables false
namespace Go.Pon
open Go

/-! ### The length in bits -/

def bitlen (n : Nat) : Nat := if n = 0 then 0 else Nat.log2 n + 1

theorem bitlen_zero : bitlen 0 = 0 := rfl

theorem lt_bitlen (n : Nat) : n < 2 ^ bitlen n := by
  unfold bitlen
  by_cases h : n = 0
  · subst h; simp
  · rw [if_neg h]; exact Nat.lt_log2_self

theorem bitlen_le {n b : Nat} : bitlen n ≤ b ↔ n < 2 ^ b := by
  unfold bitlen
  by_cases h : n = 0
  · subst h; simp [Nat.two_pow_pos]
  · rw [if_neg h, Nat.succ_le_iff, Nat.log2_lt h]

theorem bitlen_pos {n : Nat} : 0 < bitlen n ↔ n ≠ 0 := by
  unfold bitlen
  by_cases h : n = 0 <;> simp [h]

/-- The one length that fits. -/
theorem bitlen_eq {n b : Nat} (h1 : n < 2 ^ b) (h2 : ∀ c, c < b → 2 ^ c ≤ n) : bitlen n = b := by
  rcases Nat.lt_trichotomy (bitlen n) b with h | h | h
  · have := h2 _ h
    have := lt_bitlen n
    omega
  · exact h
  · have := bitlen_le.2 h1
    omega

theorem bitlen_div {n k : Nat} (h : 2 ^ k ≤ n) : bitlen n = k + bitlen (n / 2 ^ k) := by
  have hpos : 0 < 2 ^ k := Nat.two_pow_pos k
  have h1 : n / 2 ^ k ≠ 0 := by
    have : 1 ≤ n / 2 ^ k := (Nat.le_div_iff_mul_le hpos).2 (by omega)
    omega
  refine bitlen_eq ?_ fun c hc => ?_
  · have := lt_bitlen (n / 2 ^ k)
    rw [Nat.div_lt_iff_lt_mul hpos, ← Nat.pow_add] at this
    rwa [Nat.add_comm] at this
  · rcases Nat.lt_or_ge c k with hck | hck
    · exact Nat.le_trans (Nat.pow_le_pow_right (by omega) (by omega)) h
    · have h2 : ¬ (n / 2 ^ k) < 2 ^ (c - k) := fun hh => by
        have := bitlen_le.2 hh
        omega
      have h3 : 2 ^ (c - k) ≤ n / 2 ^ k := by omega
      rw [Nat.le_div_iff_mul_le hpos, ← Nat.pow_add] at h3
      rwa [Nat.sub_add_cancel hck] at h3

/-! ### Four limbs -/

def lim (n : Nat) : List Int := [((n % 18446744073709551616 : Nat) : Int), ((n / 18446744073709551616 % 18446744073709551616 : Nat) : Int), ((n / 340282366920938463463374607431768211456 % 18446744073709551616 : Nat) : Int), ((n / 6277101735386680763835789423207666416102355444464034512896 : Nat) : Int)]

/-- The number that four limbs hold. -/
def val4 (l : List Int) : Nat := (l.getD 0 0).toNat + (l.getD 1 0).toNat * 18446744073709551616 + (l.getD 2 0).toNat * 340282366920938463463374607431768211456 + (l.getD 3 0).toNat * 6277101735386680763835789423207666416102355444464034512896

theorem val4_lim {n : Nat} : val4 (lim n) = n := by
  simp only [val4, lim, List.getD_cons_zero, List.getD_cons_succ, Int.toNat_natCast]
  omega

theorem lim_inj {n m : Nat} : lim n = lim m ↔ n = m := ⟨fun h => by rw [← val4_lim (n := n), h, val4_lim], fun h => by rw [h]⟩

theorem len_lim {n : Nat} : (lim n).length = 4 := rfl

theorem list4 {α : Type} {l : List α} (h : l.length = 4) : ∃ a b c d, l = [a, b, c, d] := by
  match l, h with
  | [a, b, c, d], _ => exact ⟨a, b, c, d, rfl⟩

/-- Whatever four limbs hold is a number. -/
theorem u256_wf {l : List Int} (h : (Ty.arr 4 (.int .u64)).wf l) : ∃ n, n < 115792089237316195423570985008687907853269984665640564039457584007913129639936 ∧ l = lim n := by
  obtain ⟨h1, h2⟩ := h
  obtain ⟨a, b, c, d, rfl⟩ := list4 (α := Int) h1
  have ha := inK_u64.1 (h2 a (by simp))
  have hb := inK_u64.1 (h2 b (by simp))
  have hc := inK_u64.1 (h2 c (by simp))
  have hd := inK_u64.1 (h2 d (by simp))
  refine ⟨a.toNat + b.toNat * 18446744073709551616 + c.toNat * 340282366920938463463374607431768211456 + d.toNat * 6277101735386680763835789423207666416102355444464034512896, by omega, ?_⟩
  simp only [lim, List.cons.injEq, and_true]
  refine ⟨?_, ?_, ?_, ?_⟩ <;> omega

theorem lim_small {x : Int} (h1 : 0 ≤ x) (h2 : x ≤ 18446744073709551615) : ([x, 0, 0, 0] : List Int) = lim x.toNat := by
  simp only [lim, List.cons.injEq, and_true]
  refine ⟨?_, ?_, ?_, ?_⟩ <;> omega

theorem lim_zero : lim 0 = [0, 0, 0, 0] := rfl

/-- Limb i. -/
theorem lim_getD {n i : Nat} (hn : n < 115792089237316195423570985008687907853269984665640564039457584007913129639936) (hi : i < 4) : (lim n).getD i 0 = ((n / 18446744073709551616 ^ i % 18446744073709551616 : Nat) : Int) := by
  match i, hi with
  | 0, _ => simp [lim]
  | 1, _ => simp [lim]
  | 2, _ => simp [lim]
  | 3, _ =>
    simp only [lim, List.getD_cons_zero, List.getD_cons_succ]
    have : n / 6277101735386680763835789423207666416102355444464034512896 % 18446744073709551616 = n / 6277101735386680763835789423207666416102355444464034512896 := Nat.mod_eq_of_lt (by omega)
    rw [show (18446744073709551616 : Nat) ^ 3 = 6277101735386680763835789423207666416102355444464034512896 from rfl, this]

/-! ### Bytes -/

/-- k bytes, the greatest first. -/
def beB : Nat → Nat → List Int
  | 0, _ => []
  | k + 1, n => ((n / 256 ^ k % 256 : Nat) : Int) :: beB k n

theorem len_beB : ∀ {k n : Nat}, (beB k n).length = k
  | 0, _ => rfl
  | k + 1, n => by simp [beB, len_beB]

theorem beB_byte : ∀ {k n : Nat}, ∀ x ∈ beB k n, 0 ≤ x ∧ x ≤ 255
  | 0, _, x, h => by simp [beB] at h
  | k + 1, n, x, h => by
    rcases List.mem_cons.1 h with rfl | h
    · have := Nat.mod_lt (n / 256 ^ k) (show 0 < 256 by omega)
      omega
    · exact beB_byte x h

/-- How many bytes count. -/
def bylen (n : Nat) : Nat := (bitlen n + 7) / 8

theorem pow256 (k : Nat) : 256 ^ k = 2 ^ (8 * k) := by rw [show (256 : Nat) = 2 ^ 8 from rfl, ← Nat.pow_mul]

theorem bylen_le {n k : Nat} : bylen n ≤ k ↔ n < 256 ^ k := by
  rw [pow256, ← bitlen_le]; unfold bylen; omega

theorem bylen_256 {n : Nat} (h : n < 115792089237316195423570985008687907853269984665640564039457584007913129639936) : bylen n ≤ 32 := bylen_le.2 h
theorem bylen_64 {n : Nat} (h : n < 18446744073709551616) : bylen n ≤ 8 := bylen_le.2 h

theorem bylen_pos {n : Nat} : 0 < bylen n ↔ n ≠ 0 := by
  have := @bitlen_pos n
  unfold bylen; omega

theorem bylen_zero : bylen 0 = 0 := rfl

/-- The number of bytes. -/
def beV (l : List Int) : Nat := l.foldl (fun v x => v * 256 + x.toNat) 0

theorem beV_append (l : List Int) (x : Int) : beV (l ++ [x]) = beV l * 256 + x.toNat := by simp [beV]
theorem beV_nil : beV [] = 0 := rfl

theorem snoc_ind {α : Type} {motive : List α → Prop} (l : List α) (nil : motive []) (append : ∀ l x, motive l → motive (l ++ [x])) : motive l := by
  have : motive l.reverse.reverse := by
    induction l.reverse with
    | nil => exact nil
    | cons a m ih => rw [List.reverse_cons]; exact append _ _ ih
  simpa using this

theorem beV_lt (l : List Int) : (∀ x ∈ l, 0 ≤ x ∧ x ≤ 255) → beV l < 256 ^ l.length := by
  refine snoc_ind (motive := fun l => (∀ x ∈ l, 0 ≤ x ∧ x ≤ 255) → beV l < 256 ^ l.length) l ?_ ?_
  · intro _; simp [beV]
  · intro l x ih h
    have h1 := ih fun y hy => h y (by simp [hy])
    have h2 := h x (by simp)
    rw [beV_append, List.length_append, List.length_singleton, Nat.pow_succ]
    omega

/-! ### Setting a byte -/

theorem or_bits {x y : Nat} (hx : x < 18446744073709551616) (hy : y < 18446744073709551616) : (((BitVec.ofInt 64 ((x : Nat) : Int) ||| BitVec.ofInt 64 ((y : Nat) : Int)).toNat : Nat) : Int) = ((x ||| y : Nat) : Int) := by
  rw [BitVec.toNat_or, BitVec.ofInt_natCast, BitVec.ofInt_natCast, BitVec.toNat_ofNat, BitVec.toNat_ofNat, Nat.mod_eq_of_lt hx, Nat.mod_eq_of_lt hy]

theorem byte_bits {b i : Nat} (hb : b < 256) (hi : 8 ≤ i) : b.testBit i = false :=
  Nat.testBit_lt_two_pow (Nat.lt_of_lt_of_le hb (by rw [show (256 : Nat) = 2 ^ 8 from rfl]; exact Nat.pow_le_pow_right (by omega) hi))

theorem limb_or {a b j q : Nat} (hb : b < 256) :
    (a * 256 ^ (j + 1) + b * 256 ^ j) / 18446744073709551616 ^ q % 18446744073709551616 =
      (a * 256 ^ (j + 1) / 18446744073709551616 ^ q % 18446744073709551616) ||| (if q = j / 8 then b * 2 ^ (8 * (j % 8)) else 0) := by
  have h1 : a * 256 ^ (j + 1) + b * 256 ^ j = (a * 256 ^ (j + 1)) ||| (b <<< (8 * j)) := by
    rw [Nat.shiftLeft_eq, pow256, pow256, Nat.mul_comm a, Nat.mul_comm b, ← Nat.two_pow_add_eq_or_of_lt]
    rw [show 8 * (j + 1) = 8 * j + 8 by omega, Nat.pow_add, Nat.mul_comm (2 ^ (8 * j)) b, Nat.mul_comm (2 ^ (8 * j)) (2 ^ 8)]
    exact Nat.mul_lt_mul_of_pos_right hb (Nat.two_pow_pos _)
  rw [h1, show (18446744073709551616 : Nat) ^ q = 2 ^ (64 * q) by rw [show (18446744073709551616 : Nat) = 2 ^ 64 from rfl, ← Nat.pow_mul], show (18446744073709551616 : Nat) = 2 ^ 64 from rfl]
  generalize a * 256 ^ (j + 1) = m
  apply Nat.eq_of_testBit_eq
  intro t
  simp only [Nat.testBit_mod_two_pow, Nat.testBit_div_two_pow, Nat.testBit_or, Nat.testBit_shiftLeft]
  by_cases hq : q = j / 8
  · subst hq
    rw [if_pos rfl, ← Nat.shiftLeft_eq, Nat.testBit_shiftLeft]
    by_cases ht : t < 64
    · rw [show t + 64 * (j / 8) - 8 * j = t - 8 * (j % 8) by omega, show decide (t + 64 * (j / 8) ≥ 8 * j) = decide (t ≥ 8 * (j % 8)) by simp; omega]
      simp [ht]
    · rw [byte_bits hb (i := t - 8 * (j % 8)) (by omega)]; simp [ht]
  · rw [if_neg hq, Nat.zero_testBit, Bool.or_false]
    by_cases ht : t < 64
    · by_cases h : 8 * j ≤ t + 64 * q
      · rw [byte_bits hb (i := t + 64 * q - 8 * j) (by omega)]; simp [ht]
      · simp [ht, h]
    · simp [ht]

theorem limb_sum {a b j : Nat} (hb : b < 256) :
    (a * 256 ^ (j + 1) / 18446744073709551616 ^ (j / 8) % 18446744073709551616) ||| (b * 2 ^ (8 * (j % 8))) = a * 256 ^ (j + 1) / 18446744073709551616 ^ (j / 8) % 18446744073709551616 + b * 2 ^ (8 * (j % 8)) := by
  have h1 : a * 256 ^ (j + 1) / 18446744073709551616 ^ (j / 8) % 18446744073709551616 = 2 ^ (8 * (j % 8) + 8) * (a % 2 ^ (56 - 8 * (j % 8))) := by
    rw [show (18446744073709551616 : Nat) ^ (j / 8) = 2 ^ (64 * (j / 8)) by rw [show (18446744073709551616 : Nat) = 2 ^ 64 from rfl, ← Nat.pow_mul], pow256,
      show 8 * (j + 1) = (8 * (j % 8) + 8) + 64 * (j / 8) by omega, Nat.pow_add 2 _ (64 * (j / 8)), ← Nat.mul_assoc, Nat.mul_div_cancel _ (Nat.two_pow_pos _),
      show (18446744073709551616 : Nat) = 2 ^ (8 * (j % 8) + 8) * 2 ^ (56 - 8 * (j % 8)) by rw [← Nat.pow_add, show 8 * (j % 8) + 8 + (56 - 8 * (j % 8)) = 64 by omega], Nat.mul_comm a, Nat.mul_mod_mul_left]
  rw [h1, Nat.two_pow_add_eq_or_of_lt]
  rw [Nat.pow_add, Nat.mul_comm (2 ^ (8 * (j % 8)))]
  exact Nat.mul_lt_mul_of_pos_right hb (Nat.two_pow_pos _)

theorem lim_set {a b j : Nat} (hj : j < 32) (hb : b < 256) (h : a * 256 ^ (j + 1) + b * 256 ^ j < 115792089237316195423570985008687907853269984665640564039457584007913129639936) {y : Int}
    (hy : y = (((a * 256 ^ (j + 1) / 18446744073709551616 ^ (j / 8) % 18446744073709551616) ||| (b * 2 ^ (8 * (j % 8))) : Nat) : Int)) :
    (lim (a * 256 ^ (j + 1))).set (j / 8) y = lim (a * 256 ^ (j + 1) + b * 256 ^ j) := by
  apply List.ext_getElem
  · simp [len_lim]
  · intro q h1 h2
    have hq : q < 4 := h2
    have e : ∀ n, n < 115792089237316195423570985008687907853269984665640564039457584007913129639936 → (hh : q < (lim n).length) → (lim n)[q] = ((n / 18446744073709551616 ^ q % 18446744073709551616 : Nat) : Int) := fun n hn hh => by
      rw [← lim_getD hn hq, List.getD_eq_getElem?_getD, List.getElem?_eq_getElem hh]; rfl
    rw [e _ h, limb_or hb, List.getElem_set]
    by_cases hc : j / 8 = q
    · rw [if_pos hc, if_pos hc.symm, hy, hc]
    · rw [if_neg hc, if_neg (fun h => hc h.symm), e _ (by omega), Nat.or_zero]

end Go.Pon
/-
  What math/bits.Len64 and uint256.BitLen compute.
-/
set_option autoImplicit false
set_option linter.unusedVariables false
set_option linter.unusedSimpArgs false
set_option maxRecDepth 10000
namespace Go.Pon
open Go

def len8 : List Int := [0, 1, 2, 2, 3, 3, 3, 3, 4, 4, 4, 4, 4, 4, 4, 4, 5, 5, 5, 5, 5, 5, 5, 5, 5, 5, 5, 5, 5, 5, 5, 5, 6, 6, 6, 6, 6, 6, 6, 6, 6, 6, 6, 6, 6, 6, 6, 6, 6, 6, 6, 6, 6, 6, 6, 6, 6, 6, 6, 6, 6, 6, 6, 6, 7, 7, 7, 7, 7, 7, 7, 7, 7, 7, 7, 7, 7, 7, 7, 7, 7, 7, 7, 7, 7, 7, 7, 7, 7, 7, 7, 7, 7, 7, 7, 7, 7, 7, 7, 7, 7, 7, 7, 7, 7, 7, 7, 7, 7, 7, 7, 7, 7, 7, 7, 7, 7, 7, 7, 7, 7, 7, 7, 7, 7, 7, 7, 7, 8, 8, 8, 8, 8, 8, 8, 8, 8, 8, 8, 8, 8, 8, 8, 8, 8, 8, 8, 8, 8, 8, 8, 8, 8, 8, 8, 8, 8, 8, 8, 8, 8, 8, 8, 8, 8, 8, 8, 8, 8, 8, 8, 8, 8, 8, 8, 8, 8, 8, 8, 8, 8, 8, 8, 8, 8, 8, 8, 8, 8, 8, 8, 8, 8, 8, 8, 8, 8, 8, 8, 8, 8, 8, 8, 8, 8, 8, 8, 8, 8, 8, 8, 8, 8, 8, 8, 8, 8, 8, 8, 8, 8, 8, 8, 8, 8, 8, 8, 8, 8, 8, 8, 8, 8, 8, 8, 8, 8, 8, 8, 8, 8, 8, 8, 8, 8, 8, 8, 8, 8, 8, 8, 8, 8, 8, 8, 8]

theorem len8_at : ∀ i, i < 256 → len8.getD i 0 = ((bitlen i : Nat) : Int) := by decide

theorem len8_int {x : Int} (h1 : 0 ≤ x) (h2 : x < 256) : len8.getD x.toNat 0 = ((bitlen x.toNat : Nat) : Int) := len8_at _ (by omega)

theorem bitlen_small {n : Nat} (h : n < 256) : bitlen n ≤ 8 := bitlen_le.2 (by omega)

theorem len64_case {x : Int} (k : Nat) (q : Int) (hk : k ≤ 56) (h0 : 0 ≤ x) (h1 : ((2 ^ k : Nat) : Int) ≤ x ∨ k = 0) (hq : q = x / ((2 ^ k : Nat) : Int)) (h2 : q < 256) :
    brR (inR (IntKind.wrap .u8 q) 256) (some ((IntKind.wrap .i64 ((k : Int) + IntKind.wrap .i64 (List.getD len8 (Int.toNat (IntKind.wrap .u8 q)) 0)), ()), ((), ()))) (none : Option ((Int × Unit) × (Unit × Unit))) = some ((((bitlen x.toNat : Nat) : Int), ()), ((), ())) := by
  obtain ⟨n, rfl⟩ := Int.eq_ofNat_of_zero_le h0
  have hq0 : 0 ≤ q := by rw [hq]; exact Int.ediv_nonneg h0 (Int.natCast_nonneg _)
  have hqn : q.toNat = n / 2 ^ k := by rw [hq, ← Int.natCast_ediv, Int.toNat_natCast]
  rw [w_u8 hq0 (by omega), brR_inR, if_pos ⟨hq0, h2⟩, len8_int hq0 h2, hqn]
  have hs : bitlen (n / 2 ^ k) ≤ 8 := bitlen_small (by omega)
  rw [w_i64 (n := ((bitlen (n / 2 ^ k) : Nat) : Int)) (by omega) (by omega), w_i64 (by omega) (by omega), Int.toNat_natCast]
  have : bitlen n = k + bitlen (n / 2 ^ k) := by
    rcases h1 with h1 | rfl
    · exact bitlen_div (by omega)
    · simp
  rw [this]; simp

theorem fdiv_pos {a b : Int} (h : 0 ≤ b) : Int.fdiv a b = a / b := Int.fdiv_eq_ediv_of_nonneg _ h

theorem len64_eq {x : Int} (h0 : 0 ≤ x) (h1 : x ≤ 18446744073709551615) : sol_math_bits_Len64 (x, ()) = some ((((bitlen x.toNat : Nat) : Int), ()), ((), ())) := by
  unfold sol_math_bits_Len64 T_math_bits_Len64
  simp only [letR_eq, brR_dec, ge_iff_le, fdiv_pos (show (0 : Int) ≤ 4294967296 by omega), fdiv_pos (show (0 : Int) ≤ 65536 by omega), fdiv_pos (show (0 : Int) ≤ 256 by omega)]
  repeat' split
  · exact len64_case 56 _ (by omega) h0 (.inl (by omega)) (by omega) (by omega)
  · exact len64_case 48 _ (by omega) h0 (.inl (by omega)) (by omega) (by omega)
  · exact len64_case 40 _ (by omega) h0 (.inl (by omega)) (by omega) (by omega)
  · exact len64_case 32 _ (by omega) h0 (.inl (by omega)) (by omega) (by omega)
  · exact len64_case 24 _ (by omega) h0 (.inl (by omega)) (by omega) (by omega)
  · exact len64_case 16 _ (by omega) h0 (.inl (by omega)) (by omega) (by omega)
  · exact len64_case 8 _ (by omega) h0 (.inl (by omega)) (by omega) (by omega)
  · exact len64_case 0 _ (by omega) h0 (.inr rfl) (by omega) (by omega)

theorem bitlen_256 {n : Nat} (h : n < 115792089237316195423570985008687907853269984665640564039457584007913129639936) : bitlen n ≤ 256 := bitlen_le.2 h

theorem pow64 (k : Nat) : 18446744073709551616 ^ k = 2 ^ (64 * k) := by rw [show (18446744073709551616 : Nat) = 2 ^ 64 from rfl, ← Nat.pow_mul]

theorem bitLen_eq {n : Nat} (hn : n < 115792089237316195423570985008687907853269984665640564039457584007913129639936) : sol_uint256_BitLen (lim n, ()) = some ((((bitlen n : Nat) : Int), ()), ((), ())) := by
  unfold sol_uint256_BitLen T_uint256_BitLen
  refine bigLoop_rule (I := fun x => x.1 = lim n ∧ -1 ≤ x.2.1 ∧ x.2.1 ≤ 3 ∧ n < 18446744073709551616 ^ (x.2.1 + 1).toNat) (m := fun x => (x.2.1 + 1).toNat) (g := fun _ => some ((((bitlen n : Nat) : Int), ()), ((), ()))) ?_ ⟨rfl, by simp only; omega, by simp only; omega, hn⟩ (by simp only [bigN_eq]; omega)
  rintro ⟨a, i, _⟩ again ⟨h1, h2, h3, h4⟩ hag
  simp only at h1 h2 h3 h4 hag ⊢
  subst h1
  simp only [T_uint256_BitLen_loop0, brR_dec, brR_not, brR_inR, ge_iff_le]
  by_cases hi : 0 ≤ i
  · obtain ⟨j, rfl⟩ := Int.eq_ofNat_of_zero_le hi
    have e1 : ((j : Int) + 1).toNat = j + 1 := by omega
    rw [e1] at h4
    rw [if_pos hi, if_pos ⟨hi, by omega⟩, Int.toNat_natCast, lim_getD hn (by omega)]
    have hp : 0 < 18446744073709551616 ^ j := Nat.pow_pos (by omega)
    have hlt : n / 18446744073709551616 ^ j < 18446744073709551616 := by
      rw [Nat.div_lt_iff_lt_mul hp, Nat.mul_comm, ← Nat.pow_succ]; exact h4
    rw [Nat.mod_eq_of_lt hlt]
    by_cases hz : n / 18446744073709551616 ^ j = 0
    · rw [if_pos (by omega), w_i64 (by omega) (by omega)]
      refine hag _ ⟨rfl, by simp only; omega, by simp only; omega, ?_⟩ (by simp only; omega)
      simp only
      rw [show ((j : Int) - 1 + 1).toNat = j by omega]
      exact (Nat.div_eq_zero_iff.1 hz).resolve_left (by omega)
    · have hge : 2 ^ (64 * j) ≤ n := by
        rw [← pow64]
        rcases Nat.lt_or_ge n (18446744073709551616 ^ j) with h | h
        · exact absurd (Nat.div_eq_of_lt h) hz
        · exact h
      have hb := bitlen_div hge
      have := bitlen_256 hn
      rw [← pow64] at hb
      generalize n / 18446744073709551616 ^ j = q at *
      rw [if_neg (by omega), if_pos ⟨hi, by omega⟩, len64_eq (by omega) (by omega)]
      simp only [bind_some']
      rw [Int.toNat_natCast, w_i64 (n := 64 * (j : Int)) (by omega) (by omega), w_i64 (by omega) (by omega), hb]
      simp
  · have hz : i = -1 := by omega
    subst hz
    have : n = 0 := by simpa using h4
    subst this
    simp [bitlen_zero]

theorem fromUint64_eq {x : Int} (h0 : 0 ≤ x) (h1 : x ≤ 18446744073709551615) : sol_uint256_FromUint64 (x, ()) = some ((lim x.toNat, ()), ((), ())) := by
  unfold sol_uint256_FromUint64 T_uint256_FromUint64
  rw [lim_small h0 h1]

end Go.Pon
/-
  What slices.Concat, slices.Grow and slices.Clone of bytes compute.
-/
set_option autoImplicit false
set_option linter.unusedVariables false
set_option linter.unusedSimpArgs false
namespace Go.Pon
open Go

theorem u8_size : (Ty.int IntKind.u8).size = 1 := rfl

theorem brR_room8 {α : Type} {n : Nat} (h : n ≤ 1099511627776) (a b : Option α) : brR (roomy n (.int .u8)) a b = a := by
  rw [brR_roomy, u8_size, if_pos ⟨by omega, by omega⟩]

theorem grow_eq {n : Int} (h0 : 0 ≤ n) (h1 : n ≤ 1099511627776) : sol_slices_Grow_byte_byte ((), (n, ())) = some (([], ()), ((), ((), ()))) := by
  unfold sol_slices_Grow_byte_byte T_slices_Grow_byte_byte
  simp only [letR_eq, brR_dec, brR_and, Int.sub_zero]
  rw [if_neg (by omega), w_i64 (n := n) (by omega) (by omega)]
  split
  · rw [brR_room8 (by omega), brR_true, if_pos (by omega)]; rfl
  · rfl

theorem take_succ_flatten {ls : List (List Int)} {i : Nat} (h : i < ls.length) : (ls.take (i + 1)).flatten = (ls.take i).flatten ++ ls.getD i [] := by
  rw [List.take_succ_eq_append_getElem h, List.flatten_append, List.getD_eq_getElem?_getD, List.getElem?_eq_getElem h]; simp

theorem take_flatten_le (ls : List (List Int)) (i : Nat) : (ls.take i).flatten.length ≤ ls.flatten.length := by
  have : (ls.take i ++ ls.drop i).flatten = ls.flatten := by rw [List.take_append_drop]
  rw [← this, List.flatten_append, List.length_append]; omega

theorem concat_loop {ls : List (List Int)} (h : ls.flatten.length ≤ 1099511627776) (hn : ls.length ≤ 1099511627776) :
    bigLoop _ _ (fun again x => T_slices_Concat_byte_byte_loop1 again x.1 x.2.1 x.2.2.1 x.2.2.2.1) (([] : List Int), (ls, (((ls.length : Nat) : Int), ((0 : Int), ())))) = some ((ls.flatten, ()), ((), ())) := by
  refine bigLoop_rule (I := fun x => x.2.1 = ls ∧ x.2.2.1 = ((ls.length : Nat) : Int) ∧ (0 : Int) ≤ x.2.2.2.1 ∧ x.2.2.2.1 ≤ ((ls.length : Nat) : Int) ∧ x.1 = (ls.take x.2.2.2.1.toNat).flatten) (m := fun x => ((ls.length : Int) - x.2.2.2.1).toNat) (g := fun _ => some ((ls.flatten, ()), ((), ()))) ?_ ⟨rfl, rfl, by simp only; omega, by simp only; omega, rfl⟩ (by simp only [bigN_eq]; omega)
  rintro ⟨new, l, n, i, _⟩ again ⟨h1, h2, h3, h4, h5⟩ hag
  simp only at h1 h2 h3 h4 h5 hag ⊢
  subst h1 h2 h5
  obtain ⟨j, rfl⟩ := Int.eq_ofNat_of_zero_le h3
  simp only [T_slices_Concat_byte_byte_loop1, brR_dec, brR_inR, Int.toNat_natCast, append_def]
  by_cases hi : j < l.length
  · have e := take_succ_flatten hi
    have hle := take_flatten_le l (j + 1)
    rw [e] at hle
    rw [if_pos (by omega), if_pos ⟨h3, by omega⟩, brR_room8 (by rw [← List.length_append]; omega), ← e, w_i64 (by omega) (by omega)]
    exact hag _ ⟨rfl, rfl, by simp only; omega, by simp only; omega, rfl⟩ (by simp only; omega)
  · rw [if_neg (by omega), List.take_of_length_le (by omega)]

theorem concat_eq {ls : List (List Int)} (h : ls.flatten.length ≤ 1099511627776) (hn : ls.length ≤ 1099511627776) : sol_slices_Concat_byte_byte (ls, ()) = some ((ls.flatten, ()), ((), ())) := by
  unfold sol_slices_Concat_byte_byte T_slices_Concat_byte_byte
  refine bigLoop_rule (I := fun x => x.1 = ls ∧ x.2.2.1 = ls ∧ x.2.2.2.1 = ((ls.length : Nat) : Int) ∧ (0 : Int) ≤ x.2.2.2.2.1 ∧ x.2.2.2.2.1 ≤ ((ls.length : Nat) : Int) ∧ x.2.1 = (((ls.take x.2.2.2.2.1.toNat).flatten.length : Nat) : Int)) (m := fun x => ((ls.length : Int) - x.2.2.2.2.1).toNat) (g := fun _ => some ((ls.flatten, ()), ((), ()))) ?_
    ⟨rfl, rfl, rfl, by simp only; omega, by simp only; omega, rfl⟩ (by simp only [bigN_eq]; omega)
  rintro ⟨l, size, l', n, i, _⟩ again ⟨h1, h2, h3, h4, h5, h6⟩ hag
  simp only at h1 h2 h3 h4 h5 h6 hag ⊢
  subst h2 h1 h3 h6
  obtain ⟨j, rfl⟩ := Int.eq_ofNat_of_zero_le h4
  simp only [T_slices_Concat_byte_byte_loop0, letR_eq, brR_dec, brR_inR, Int.toNat_natCast]
  by_cases hi : j < l.length
  · have e := take_succ_flatten hi
    have hle := take_flatten_le l (j + 1)
    rw [e, List.length_append] at hle
    rw [if_pos (by omega), if_pos ⟨h4, by omega⟩, w_i64 (by omega) (by omega), if_neg (by omega), w_i64 (by omega) (by omega)]
    refine hag _ ⟨rfl, rfl, rfl, by simp only; omega, by simp only; omega, ?_⟩ (by simp only; omega)
    simp only
    rw [show ((j : Int) + 1).toNat = j + 1 by omega, e, List.length_append]; omega
  · have hle := take_flatten_le l j
    rw [if_neg (by omega), grow_eq (by omega) (by omega)]
    simp only [bind_some']
    exact concat_loop h hn

theorem clone_eq {l : List Int} (h : l.length ≤ 1099511627776) : sol_slices_Clone_byte_byte (l, ()) = some ((l, ()), ((), ())) := by
  unfold sol_slices_Clone_byte_byte T_slices_Clone_byte_byte
  simp only
  rw [brR_room8 (by omega), brR_dec]
  split
  · rename_i h0
    have : l = [] := List.length_eq_zero_iff.1 h0
    subst this
    exact bothR_eq rfl rfl
  · rfl

end Go.Pon
/-
  What package wire computes.
-/
set_option autoImplicit false
set_option linter.unusedVariables false
set_option linter.unusedSimpArgs false
namespace Go.Pon
open Go

theorem limb_byte (n j : Nat) : (n / 18446744073709551616 ^ (j / 8) % 18446744073709551616) / 2 ^ (8 * (j % 8)) % 256 = n / 256 ^ j % 256 := by
  rw [pow64, pow256, show (18446744073709551616 : Nat) = 2 ^ 64 from rfl, show (256 : Nat) = 2 ^ 8 from rfl]
  apply Nat.eq_of_testBit_eq
  intro k
  simp only [Nat.testBit_mod_two_pow, Nat.testBit_div_two_pow]
  by_cases hk : k < 8
  · rw [show decide (k + 8 * (j % 8) < 64) = true by simp; omega, show k + 8 * (j % 8) + 64 * (j / 8) = k + 8 * j by omega]; simp
  · simp [hk]

/-- Byte j of a number, as both programs take it out of its limbs. -/
theorem byte_out {n j : Nat} (hn : n < 115792089237316195423570985008687907853269984665640564039457584007913129639936) (hj : j < 32) :
    IntKind.wrap .u8 (Int.fdiv ((lim n).getD (j / 8) 0) ((2 : Int) ^ (min (8 * (j % 8)) 64))) = ((n / 256 ^ j % 256 : Nat) : Int) := by
  rw [lim_getD hn (by omega), Nat.min_eq_left (by omega), IntKind.wrap_u8, Int.fdiv_eq_ediv_of_nonneg _ (Int.pow_nonneg (by omega)), ← limb_byte n j]
  rfl

theorem encode_loop {n : Nat} (hn : n < 115792089237316195423570985008687907853269984665640564039457584007913129639936) {k : Nat} (hk : k ≤ 32) {out : List Int} (ho : out.length ≤ 100) :
    bigLoop _ _ (fun again x => T_wire_encode_loop0 again x.1 x.2.1 x.2.2.1) (lim n, (out, (((k : Nat) : Int) - 1, ()))) = some ((out ++ beB k n, ()), ((), ())) := by
  refine Eq.trans (bigLoop_rule (I := fun x => x.1 = lim n ∧ (-1 : Int) ≤ x.2.2.1 ∧ x.2.2.1 ≤ (31 : Int) ∧ (x.2.1.length : Int) + x.2.2.1 ≤ (131 : Int)) (m := fun x => (x.2.2.1 + 1).toNat) (g := fun x => some ((x.2.1 ++ beB (x.2.2.1 + 1).toNat n, ()), ((), ()))) ?_
    ⟨rfl, by simp only; omega, by simp only; omega, by simp only; omega⟩ (by simp only [bigN_eq]; omega)) ?_
  · rintro ⟨l, o, i, _⟩ again ⟨h1, h2, h3, h4⟩ hag
    simp only at h1 h2 h3 h4 hag ⊢
    subst h1
    simp only [T_wire_encode_loop0, letR_eq, brR_dec, brR_inR, ge_iff_le, append_def]
    by_cases hi : 0 ≤ i
    · obtain ⟨j, rfl⟩ := Int.eq_ofNat_of_zero_le hi
      rw [if_pos hi, tdiv_pos hi, tmod_pos hi, w_i64 (n := (j : Int) / 8) (by omega) (by omega), w_i64 (n := 8 * ((j : Int) % 8)) (by omega) (by omega), if_pos (by omega), if_pos (by omega), brR_room8 (by omega), w_i64 (by omega) (by omega)]
      rw [show ((j : Int) / 8).toNat = j / 8 by omega, show (8 * ((j : Int) % 8)).toNat = 8 * (j % 8) by omega, byte_out hn (by omega)]
      rw [hag _ ⟨rfl, by simp only; omega, by simp only; omega, by simp only [List.length_append, List.length_singleton]; omega⟩ (by simp only; omega)]
      simp only
      rw [show ((j : Int) - 1 + 1).toNat = j by omega, show ((j : Int) + 1).toNat = j + 1 by omega, beB]; simp
    · have : i = -1 := by omega
      subst this
      simp [beB]
  · simp only
    rw [show ((k : Int) - 1 + 1).toNat = k by omega]

/-- A number's encoding. -/
def enc (n : Nat) : List Int := ((bylen n : Nat) : Int) :: beB (bylen n) n

theorem len_enc {n : Nat} : (enc n).length = 1 + bylen n := by simp [enc, len_beB]; omega

theorem encode_eq {n : Nat} (hn : n < 115792089237316195423570985008687907853269984665640564039457584007913129639936) : sol_wire_encode (lim n, ()) = some ((enc n, ()), ((), ())) := by
  unfold sol_wire_encode T_wire_encode
  have h1 := bitlen_256 hn
  have h2 := bylen_256 hn
  have h3 : ((bitlen n : Nat) : Int) + 7 = ((bitlen n + 7 : Nat) : Int) := by omega
  rw [bitLen_eq hn]
  simp only [bind_some', letR_eq]
  rw [w_i64 (n := ((bitlen n : Nat) : Int) + 7) (by omega) (by omega), tdiv_pos (by omega), w_i64 (n := (((bitlen n : Nat) : Int) + 7) / 8) (by omega) (by omega), w_i64 (by omega) (by omega), w_u8 (by omega) (by omega)]
  rw [show (((bitlen n : Nat) : Int) + 7) / 8 = ((bylen n : Nat) : Int) by unfold bylen; omega]
  exact encode_loop hn h2 (by simp)

theorem appendUint256_eq {b : List Int} (hb : b.length ≤ 1000000000) {n : Nat} (hn : n < 115792089237316195423570985008687907853269984665640564039457584007913129639936) :
    sol_wire_AppendUint256 (b, (lim n, ())) = some ((b ++ enc n, ()), ((), ((), ()))) := by
  unfold sol_wire_AppendUint256 T_wire_AppendUint256
  have h2 := bylen_256 hn
  rw [encode_eq hn]
  simp only [bind_some']
  rw [concat_eq (by simp [len_enc]; omega) (by simp)]
  simp [bind_some']

theorem appendUint64_eq {b : List Int} (hb : b.length ≤ 1000000000) {n : Int} (h0 : 0 ≤ n) (h1 : n ≤ 18446744073709551615) :
    sol_wire_AppendUint64 (b, (n, ())) = some ((b ++ enc n.toNat, ()), ((), ((), ()))) := by
  unfold sol_wire_AppendUint64 T_wire_AppendUint64
  rw [fromUint64_eq h0 h1]
  simp only [bind_some']
  rw [appendUint256_eq hb (by omega)]
  simp [bind_some']

theorem appendBytes_eq {b x : List Int} (hb : b.length ≤ 1000000000) (hx : x.length ≤ 1000000000) :
    sol_wire_AppendBytes (b, (x, ())) = some ((b ++ (enc x.length ++ x), ()), ((), ((), ()))) := by
  unfold sol_wire_AppendBytes T_wire_AppendBytes
  have h2 := @bylen_64 x.length (by omega)
  simp only [letR_eq]
  rw [w_u64 (by omega) (by omega), fromUint64_eq (by omega) (by omega)]
  simp only [bind_some', Int.toNat_natCast]
  rw [encode_eq (by omega)]
  simp only [bind_some']
  rw [concat_eq (by simp [len_enc]; omega) (by simp)]
  simp [bind_some']

/-! ### Reading -/

def Bytes (b : List Int) : Prop := ∀ x ∈ b, 0 ≤ x ∧ x ≤ 255

theorem Bytes.drop {b : List Int} (h : Bytes b) (i : Nat) : Bytes (b.drop i) := fun x hx => h x (List.mem_of_mem_drop hx)
theorem Bytes.take {b : List Int} (h : Bytes b) (i : Nat) : Bytes (b.take i) := fun x hx => h x (List.mem_of_mem_take hx)
theorem Bytes.at {b : List Int} (h : Bytes b) (i : Nat) : 0 ≤ b.getD i 0 ∧ b.getD i 0 ≤ 255 := getD_all (p := fun x => 0 ≤ x ∧ x ≤ 255) h (by omega) i
theorem Bytes.append {a b : List Int} (ha : Bytes a) (hb : Bytes b) : Bytes (a ++ b) := fun x hx => by
  rcases List.mem_append.1 hx with h | h
  · exact ha x h
  · exact hb x h
theorem bytes_beB {k n : Nat} : Bytes (beB k n) := fun x hx => beB_byte x hx

theorem beV_take_succ {r : List Int} {i : Nat} (h : i < r.length) : beV (r.take (i + 1)) = beV (r.take i) * 256 + (r.getD i 0).toNat := by
  rw [List.take_succ_eq_append_getElem h, beV_append, List.getD_eq_getElem?_getD, List.getElem?_eq_getElem h]; rfl

theorem beV_take_lt {r : List Int} (hr : Bytes r) {i : Nat} (h : i ≤ r.length) : beV (r.take i) < 256 ^ i := by
  have := beV_lt (r.take i) (hr.take i)
  rwa [List.length_take, Nat.min_eq_left h] at this

theorem readUint_loop {r : List Int} (hr : Bytes r) {k : Nat} (hk : k ≤ 32) (hkr : k ≤ r.length) {at_ : Int} (h0 : 0 ≤ at_) (h1 : at_ ≤ 1099511627776) (t6 : List Int) :
    bigLoop _ _ (fun again x => T_wire_readUint_loop0 again x.1 x.2.1 x.2.2.1 x.2.2.2.1 x.2.2.2.2.1 x.2.2.2.2.2.1 x.2.2.2.2.2.2.1) (at_, (t6, (r, (((k : Nat) : Int), (lim 0, (((k : Nat) : Int), ((0 : Int), ()))))))) =
      some ((lim (beV (r.take k)), (at_ + 1 + k, ((0 : Int), ()))), ((), ((), ((), ())))) := by
  refine bigLoop_rule (I := fun x => x.1 = at_ ∧ x.2.2.1 = r ∧ x.2.2.2.1 = ((k : Nat) : Int) ∧ x.2.2.2.2.2.1 = ((k : Nat) : Int) ∧ (0 : Int) ≤ x.2.2.2.2.2.2.1 ∧ x.2.2.2.2.2.2.1 ≤ ((k : Nat) : Int) ∧ x.2.2.2.2.1 = lim (beV (r.take x.2.2.2.2.2.2.1.toNat) * 256 ^ (k - x.2.2.2.2.2.2.1.toNat)))
    (m := fun x => (((k : Nat) : Int) - x.2.2.2.2.2.2.1).toNat) (g := fun _ => some ((lim (beV (r.take k)), (at_ + 1 + k, ((0 : Int), ()))), ((), ((), ((), ()))))) ?_
    ⟨rfl, rfl, rfl, rfl, by simp only; omega, by simp only; omega, by simp [beV_nil]⟩ (by simp only [bigN_eq]; omega)
  rintro ⟨a, t, r', k', l, k2, i, _⟩ again ⟨e1, e2, e3, e4, e5, e6, e7⟩ hag
  simp only at e1 e2 e3 e4 e5 e6 e7 hag ⊢
  subst e1 e2 e3 e4 e7
  obtain ⟨i, rfl⟩ := Int.eq_ofNat_of_zero_le e5
  simp only [T_wire_readUint_loop0, letR_eq, brR_dec, brR_inR, Int.toNat_natCast]
  by_cases hi : i < k
  · obtain ⟨j, hj⟩ : ∃ j, k = i + 1 + j := ⟨k - i - 1, by omega⟩
    have e : ((k : Nat) : Int) - 1 - i = (j : Int) := by omega
    have hb := hr.at i
    have hA := beV_take_lt hr (i := i + 1) (by omega)
    have hs := beV_take_succ (r := r') (i := i) (by omega)
    rw [hs] at hA
    rw [if_pos (by omega), w_i64 (n := ((k : Nat) : Int) - 1) (by omega) (by omega), e, w_i64 (n := (j : Int)) (by omega) (by omega), tdiv_pos (by omega), tmod_pos (by omega), w_i64 (n := (j : Int) / 8) (by omega) (by omega),
      w_i64 (n := 8 * ((j : Int) % 8)) (by omega) (by omega), if_pos (by omega), if_pos (by omega), if_pos (by omega), if_pos (by omega), w_i64 (by omega) (by omega)]
    rw [show ((j : Int) / 8).toNat = j / 8 by omega, show (8 * ((j : Int) % 8)).toNat = 8 * (j % 8) by omega, show k - i = j + 1 by omega, w_u64 (n := r'.getD i 0) (by omega) (by omega)]
    obtain ⟨c, hc⟩ := Int.eq_ofNat_of_zero_le hb.1
    rw [hc] at hb hs hA ⊢
    rw [Int.toNat_natCast] at hs hA
    generalize hv : beV (r'.take i) = v at *
    have hp : 0 < 256 ^ j := Nat.pow_pos (by omega)
    have h3 : (v * 256 + c) * 256 ^ j < 256 ^ (i + 1) * 256 ^ j := Nat.mul_lt_mul_of_pos_right hA hp
    rw [← Nat.pow_add] at h3
    have h4 : (256 : Nat) ^ (i + 1 + j) ≤ 256 ^ 32 := Nat.pow_le_pow_right (by omega) (by omega)
    have h5 : v * 256 ^ (j + 1) + c * 256 ^ j = (v * 256 + c) * 256 ^ j := by rw [Nat.add_mul, Nat.pow_succ, Nat.mul_assoc v, Nat.mul_comm 256]
    have h6 : v * 256 ^ (j + 1) + c * 256 ^ j < 115792089237316195423570985008687907853269984665640564039457584007913129639936 := by
      rw [h5]; exact Nat.lt_of_lt_of_le h3 h4
    rw [lim_getD (by omega) (by omega), Nat.min_eq_left (by omega)]
    have h7 : (2 : Nat) ^ (8 * (j % 8)) ≤ 72057594037927936 := Nat.pow_le_pow_right (n := 2) (j := 56) (by omega) (by omega)
    have h8 : ((c : Nat) : Int) * 2 ^ (8 * (j % 8)) = ((c * 2 ^ (8 * (j % 8)) : Nat) : Int) := by rw [Int.natCast_mul, Int.natCast_pow]; rfl
    have h9 : c * 2 ^ (8 * (j % 8)) ≤ 255 * 72057594037927936 := Nat.mul_le_mul (by omega) h7
    have h10 : v * 256 ^ (j + 1) / 18446744073709551616 ^ (j / 8) % 18446744073709551616 < 18446744073709551616 := Nat.mod_lt _ (by omega)
    have h11 : v * 256 ^ (j + 1) / 18446744073709551616 ^ (j / 8) % 18446744073709551616 ||| c * 2 ^ (8 * (j % 8)) < 18446744073709551616 := Nat.or_lt_two_pow (n := 64) h10 (by omega)
    rw [h8, w_u64 (n := ((c * 2 ^ (8 * (j % 8)) : Nat) : Int)) (by omega) (by omega), or_bits h10 (by omega), w_u64 (by omega) (by omega), lim_set (by omega) (by omega) h6 rfl, h5]
    refine hag _ ⟨rfl, rfl, rfl, rfl, by simp only; omega, by simp only; omega, ?_⟩ (by simp only; omega)
    simp only
    rw [show ((i : Int) + 1).toNat = i + 1 by omega, hs, show k - (i + 1) = j by omega]
  · have : i = k := by omega
    subst this
    rw [if_neg (by omega), Nat.sub_self, Nat.pow_zero, Nat.mul_one, w_i64 (n := a + 1) (by omega) (by omega), w_i64 (by omega) (by omega)]

/-- A number of at most so many bytes at an offset, and the offset behind it. -/
def rdU (b : List Int) (i : Nat) (most : Nat) : Option (Nat × Nat) :=
  match b.drop i with
  | [] => none
  | k :: r => if most < k.toNat ∨ r.length < k.toNat ∨ (0 < k.toNat ∧ r.getD 0 0 = 0) then none else some (beV (r.take k.toNat), i + 1 + k.toNat)

/-- What a reader gives. -/
def readR (b : List Int) (at_ : Int) (most : Nat) : List Int × (Int × (Int × Unit)) :=
  if at_ < 0 ∨ b.length < at_ then (lim 0, (0, (2, ()))) else
    match rdU b at_.toNat most with
    | none => (lim 0, (0, (3, ())))
    | some (v, j) => (lim v, (j, (0, ())))

theorem readUint_eq {b : List Int} (hb : Bytes b) (hl : b.length ≤ 1000000000) {at_ : Int} (h1 : -9223372036854775808 ≤ at_) (h2 : at_ ≤ 9223372036854775807) {most : Nat} (hm : most ≤ 32) :
    sol_wire_readUint (b, (at_, (((most : Nat) : Int), ()))) = some (readR b at_ most, ((), ((), ((), ())))) := by
  unfold sol_wire_readUint T_wire_readUint readR
  simp only [letR_eq, brR_dec, brR_and]
  by_cases c1 : at_ < 0
  · rw [if_pos c1, if_pos (.inl c1)]; rfl
  rw [if_neg c1]
  by_cases c2 : b.length < at_
  · rw [if_pos (by omega), if_pos (.inr c2)]; rfl
  rw [if_neg (show ¬ at_ > (b.length : Int) by omega), if_neg (show ¬ (at_ < 0 ∨ (b.length : Int) < at_) by omega), if_pos (by omega), if_pos (by omega)]
  obtain ⟨i, rfl⟩ := Int.eq_ofNat_of_zero_le (show 0 ≤ at_ by omega)
  have hd := hb.drop i
  have hlen : (b.drop i).length = b.length - i := List.length_drop
  rw [Int.toNat_natCast, List.take_of_length_le (by omega)]
  unfold rdU
  generalize b.drop i = rest at *
  cases rest with
  | nil => rw [if_pos (by simp)]; rfl
  | cons k r =>
    have hk := hd k (by simp)
    have hr : Bytes r := fun x hx => hd x (by simp [hx])
    obtain ⟨k, rfl⟩ := Int.eq_ofNat_of_zero_le hk.1
    simp only [List.length_cons] at hlen
    rw [if_neg (by simp; omega), brR_inR, if_pos ⟨by omega, by simp⟩, if_pos (by simp; omega)]
    simp only [List.getD_cons_zero, List.drop_succ_cons, List.drop_zero, List.length_cons, Nat.add_sub_cancel, List.take_length]
    rw [w_i64 (by omega) (by omega)]
    by_cases c3 : most < k
    · rw [if_pos (by omega), if_pos (by omega)]; rfl
    rw [if_neg (by omega)]
    by_cases c4 : r.length < k
    · rw [if_pos (by omega), if_pos (by omega)]; rfl
    rw [if_neg (by omega)]
    have loop := readUint_loop hr (k := k) (by omega) (by omega) (at_ := (i : Int)) (by omega) (by omega)
    by_cases c5 : 0 < k
    · rw [if_pos (by omega), brR_inR, if_pos (by omega)]
      by_cases c6 : r.getD 0 0 = 0
      · rw [if_pos c6, if_pos (by simp only [Int.toNat_natCast]; omega)]; rfl
      · rw [if_neg c6, if_neg (by simp only [Int.toNat_natCast]; omega)]
        refine (loop _).trans ?_
        simp only [Int.toNat_natCast]
        rw [show ((i + 1 + k : Nat) : Int) = (i : Int) + 1 + k by omega]
    · rw [if_neg (by omega), if_neg (by simp only [Int.toNat_natCast]; omega)]
      refine (loop _).trans ?_
      simp only [Int.toNat_natCast]
      rw [show ((i + 1 + k : Nat) : Int) = (i : Int) + 1 + k by omega]

theorem readUint256_eq {b : List Int} (hb : Bytes b) (hl : b.length ≤ 1000000000) {at_ : Int} (h1 : -9223372036854775808 ≤ at_) (h2 : at_ ≤ 9223372036854775807) :
    sol_wire_ReadUint256 (b, (at_, ())) = some (readR b at_ 32, ((), ((), ()))) := by
  unfold sol_wire_ReadUint256 T_wire_ReadUint256
  rw [show ((32 : Int)) = ((32 : Nat) : Int) from rfl, readUint_eq hb hl h1 h2 (by omega)]
  simp only [bind_some']

theorem readR_bounds {b : List Int} (hb : Bytes b) (at_ : Int) {most : Nat} (hm : most ≤ 32) : ∃ v, v < 256 ^ most ∧ (readR b at_ most).1 = lim v ∧ 0 ≤ (readR b at_ most).2.1 ∧ (readR b at_ most).2.1 ≤ b.length ∧
    ((readR b at_ most).2.2.1 = 0 ∨ (readR b at_ most).2.2.1 = 2 ∨ (readR b at_ most).2.2.1 = 3) := by
  unfold readR
  have h0 : 0 < 256 ^ most := Nat.pow_pos (by omega)
  split
  · exact ⟨0, h0, rfl, by simp, by simp only; omega, by simp⟩
  · split
    · exact ⟨0, h0, rfl, by simp, by simp only; omega, by simp⟩
    · rename_i hc _ v j hv
      unfold rdU at hv
      split at hv
      · cases hv
      · rename_i k r hr
        split at hv
        · cases hv
        · rename_i hk
          cases hv
          have hl := congrArg List.length hr
          simp only [List.length_drop, List.length_cons] at hl
          have hbr : Bytes r := fun x hx => (hb.drop at_.toNat) x (by rw [hr]; simp [hx])
          refine ⟨_, Nat.lt_of_lt_of_le (beV_take_lt hbr (by omega)) (Nat.pow_le_pow_right (by omega) (by omega)), rfl, by simp only; omega, by simp only; omega, by simp⟩

theorem readUint64_eq {b : List Int} (hb : Bytes b) (hl : b.length ≤ 1000000000) {at_ : Int} (h1 : -9223372036854775808 ≤ at_) (h2 : at_ ≤ 9223372036854775807) :
    sol_wire_ReadUint64 (b, (at_, ())) = some ((((val4 (readR b at_ 8).1 : Nat) : Int), (readR b at_ 8).2), ((), ((), ()))) := by
  unfold sol_wire_ReadUint64 T_wire_ReadUint64
  obtain ⟨v, v1, v2, _⟩ := readR_bounds hb at_ (most := 8) (by omega)
  rw [show ((8 : Int)) = ((8 : Nat) : Int) from rfl, readUint_eq hb hl h1 h2 (by omega)]
  simp only [bind_some']
  have : (readR b at_ 8).1.getD 0 0 = ((val4 (readR b at_ 8).1 : Nat) : Int) := by
    rw [v2, val4_lim]; simp only [lim, List.getD_cons_zero]; omega
  rw [this]

/-- What ReadBytes gives. -/
def readB (b : List Int) (at_ : Int) : List Int × (Int × (Int × Unit)) :=
  if at_ < 0 ∨ b.length < at_ then ([], (0, (2, ()))) else
    match rdU b at_.toNat 8 with
    | none => ([], (0, (3, ())))
    | some (n, j) => if b.length - j < n then ([], (0, (3, ()))) else ((b.drop j).take n, ((j + n : Nat), (0, ())))

theorem rdU_le {b : List Int} {i most v j : Nat} (h : rdU b i most = some (v, j)) (hb : Bytes b) : i < j ∧ j ≤ b.length ∧ v < 256 ^ most ∧ j ≤ i + 1 + most := by
  unfold rdU at h
  split at h
  · cases h
  · rename_i k r hr
    split at h
    · cases h
    · rename_i hk
      cases h
      have hl := congrArg List.length hr
      simp only [List.length_drop, List.length_cons] at hl
      have hbr : Bytes r := fun x hx => (hb.drop i) x (by rw [hr]; simp [hx])
      exact ⟨by omega, by omega, Nat.lt_of_lt_of_le (beV_take_lt hbr (by omega)) (Nat.pow_le_pow_right (by omega) (by omega)), by omega⟩

theorem readBytes_eq {b : List Int} (hb : Bytes b) (hl : b.length ≤ 1000000000) {at_ : Int} (h1 : -9223372036854775808 ≤ at_) (h2 : at_ ≤ 9223372036854775807) :
    sol_wire_ReadBytes (b, (at_, ())) = some (readB b at_, ((), ((), ()))) := by
  unfold sol_wire_ReadBytes T_wire_ReadBytes readB
  rw [readUint64_eq hb hl h1 h2]
  simp only [bind_some', letR_eq, brR_dec, brR_not, brR_and]
  unfold readR
  by_cases c1 : at_ < 0 ∨ (b.length : Int) < at_
  · rw [if_pos c1, if_pos c1]; rfl
  rw [if_neg c1, if_neg c1]
  cases h : rdU b at_.toNat 8 with
  | none => rfl
  | some p =>
    obtain ⟨n, j⟩ := p
    obtain ⟨r1, r2, r3, _⟩ := rdU_le h hb
    have r3 : n < 18446744073709551616 := r3
    simp only [val4_lim]
    rw [if_pos trivial, w_i64 (n := (b.length : Int) - (j : Int)) (by omega) (by omega), w_u64 (by omega) (by omega)]
    by_cases c2 : b.length - j < n
    · rw [if_pos (by omega), if_pos c2]
    · rw [if_neg (by omega), if_neg c2, w_i64 (n := (n : Int)) (by omega) (by omega), w_i64 (n := (j : Int) + (n : Int)) (by omega) (by omega), if_pos (by omega), if_pos (by omega), if_pos (by omega)]
      rw [show ((j : Int) + (n : Int)).toNat - (j : Int).toNat = n by omega, Int.toNat_natCast, clone_eq (by rw [List.length_take, List.length_drop]; omega)]
      simp only [bind_some']
      rw [show ((j : Int) + (n : Int)) = ((j + n : Nat) : Int) by omega]

abbrev I256 := Bool × (List Int × Unit)

theorem i256_wf {a : I256} (h : (Ty.pair .bool (.pair (.arr 4 (.int .u64)) .unit)).wf a) : ∃ s n, n < 115792089237316195423570985008687907853269984665640564039457584007913129639936 ∧ a = (s, (lim n, ())) := by
  obtain ⟨s, l, _⟩ := a
  obtain ⟨_, h2, _⟩ := h
  obtain ⟨n, h3, h4⟩ := u256_wf h2
  exact ⟨s, n, h3, by rw [show l = lim n from h4]⟩

theorem eqD_lim (n m : Nat) : eqD (.arr 4 (.int .u64)) (lim n) (lim m) = decide (n = m) := by
  rw [Bool.eq_iff_iff, eqD_iff]; exact lim_inj.trans (by simp)

theorem valid_eq (s : Bool) (n : Nat) : sol_int256_Valid ((s, (lim n, ())), ()) = some ((!s || !decide (n = 0), ()), ((), ())) := by
  unfold sol_int256_Valid T_int256_Valid
  simp only [brR_not]
  rw [← lim_zero, eqD_lim]
  cases s <;> rfl

/-- The encoding of a signed number. -/
def encI (s : Bool) (n : Nat) : List Int := if s = true ∧ n = 0 then [] else (if s then 1 else 0) :: enc n

theorem appendInt256_eq {b : List Int} (hb : b.length ≤ 1000000000) {s : Bool} {n : Nat} (hn : n < 115792089237316195423570985008687907853269984665640564039457584007913129639936) :
    sol_wire_AppendInt256 (b, ((s, (lim n, ())), ())) = some ((b ++ encI s n, ()), ((), ((), ()))) := by
  unfold sol_wire_AppendInt256 T_wire_AppendInt256 encI
  have h2 := bylen_256 hn
  rw [valid_eq]
  simp only [bind_some', brR_not]
  rw [encode_eq hn]
  simp only [bind_some']
  rw [concat_eq (by simp [len_enc]; omega) (by simp), concat_eq (by simp [len_enc]; omega) (by simp), clone_eq (by omega)]
  simp only [bind_some']
  cases s
  · simp [brR_true, brR_false]
  · by_cases h0 : n = 0
    · simp [h0, brR_false]
    · simp [h0, brR_true]

/-- What ReadInt256 gives. -/
def readI (b : List Int) (at_ : Int) : I256 × (Int × (Int × Unit)) :=
  if at_ < 0 ∨ b.length < at_ then ((false, (lim 0, ())), (0, (2, ()))) else
    if b.length = at_.toNat ∨ 1 < b.getD at_.toNat 0 then ((false, (lim 0, ())), (0, (3, ()))) else
      match rdU b (at_.toNat + 1) 32 with
      | none => ((false, (lim 0, ())), (0, (3, ())))
      | some (n, j) => if b.getD at_.toNat 0 = 1 ∧ n = 0 then ((false, (lim 0, ())), (0, (3, ()))) else ((decide (b.getD at_.toNat 0 = 1), (lim n, ())), (j, (0, ())))

theorem readInt256_eq {b : List Int} (hb : Bytes b) (hl : b.length ≤ 1000000000) {at_ : Int} (h1 : -9223372036854775808 ≤ at_) (h2 : at_ ≤ 9223372036854775807) :
    sol_wire_ReadInt256 (b, (at_, ())) = some (readI b at_, ((), ((), ()))) := by
  unfold sol_wire_ReadInt256 T_wire_ReadInt256 readI
  simp only [letR_eq, brR_dec, brR_inR, brR_not]
  by_cases c1 : at_ < 0
  · rw [if_pos c1, if_pos (.inl c1)]; rfl
  rw [if_neg c1]
  by_cases c2 : b.length < at_
  · rw [if_pos (by omega), if_pos (.inr c2)]; rfl
  obtain ⟨i, rfl⟩ := Int.eq_ofNat_of_zero_le (show 0 ≤ at_ by omega)
  rw [if_neg (show ¬ (i : Int) > (b.length : Int) by omega), if_neg (show ¬ ((i : Int) < 0 ∨ (b.length : Int) < (i : Int)) by omega)]
  simp only [Int.toNat_natCast]
  by_cases c3 : b.length = i
  · rw [if_pos (by omega), if_pos (.inl c3)]; rfl
  rw [if_neg (by omega), if_pos (by omega)]
  by_cases c4 : 1 < b.getD i 0
  · rw [if_pos (by omega), if_pos (.inr c4)]; rfl
  rw [if_neg (show ¬ b.getD i 0 > 1 by omega), if_neg (show ¬ (b.length = i ∨ 1 < b.getD i 0) by omega), w_i64 (by omega) (by omega), show ((i : Int) + 1) = ((i + 1 : Nat) : Int) by omega, readUint256_eq hb hl (by omega) (by omega)]
  simp only [bind_some']
  unfold readR
  rw [if_neg (show ¬ (((i + 1 : Nat) : Int) < 0 ∨ (b.length : Int) < ((i + 1 : Nat) : Int)) by omega), Int.toNat_natCast, if_pos (by omega)]
  cases h : rdU b (i + 1) 32 with
  | none =>
    rw [valid_eq]
    rfl
  | some p =>
    obtain ⟨n, j⟩ := p
    simp only
    rw [valid_eq]
    simp only [bind_some', if_pos]
    rw [brR_or, brR_not, brR_not, brR_dec, brR_dec]
    by_cases c5 : b.getD i 0 = 1 <;> by_cases c6 : n = 0 <;> simp [c5, c6, lim_zero, -List.getD_eq_getElem?_getD]

end Go.Pon
/-
  What the reference of chapter 6 computes.
-/
set_option autoImplicit false
set_option linter.unusedVariables false
set_option linter.unusedSimpArgs false
namespace Go.Pon
open Go

theorem bylen_eq {n i : Nat} (h1 : n < 256 ^ (i + 1)) (h2 : 256 ^ i ≤ n) : bylen n = i + 1 := by
  have a := bylen_le.2 h1
  rcases Nat.lt_or_ge i (bylen n) with h | h
  · omega
  · have := bylen_le.1 h; omega

theorem digits_eq {n : Nat} (hn : n < 115792089237316195423570985008687907853269984665640564039457584007913129639936) : sol_ref6_digits (lim n, ()) = some ((beB (bylen n) n, ()), ((), ())) := by
  unfold sol_ref6_digits T_ref6_digits
  refine Eq.trans (bigLoop_rule (I := fun x => x.1 = lim n ∧ (-1 : Int) ≤ x.2.2.1 ∧ x.2.2.1 ≤ (31 : Int) ∧ (x.2.1.length : Int) + x.2.2.1 ≤ (31 : Int) ∧ (x.2.1 = [] → n < 256 ^ (x.2.2.1 + 1).toNat)) (m := fun x => (x.2.2.1 + 1).toNat)
    (g := fun x => some ((x.2.1 ++ (if x.2.1 = [] then beB (bylen n) n else beB (x.2.2.1 + 1).toNat n), ()), ((), ()))) ?_
    ⟨rfl, by simp only; omega, by simp only; omega, by simp only [List.length_nil]; omega, fun _ => hn⟩ (by simp only [bigN_eq]; omega)) ?_
  · rintro ⟨l, o, i, _⟩ again ⟨h1, h2, h3, h4, h5⟩ hag
    simp only at h1 h2 h3 h4 h5 hag ⊢
    subst h1
    simp only [T_ref6_digits_loop0, letR_eq, brR_dec, brR_inR, ge_iff_le, append_def]
    by_cases hi : 0 ≤ i
    · obtain ⟨j, rfl⟩ := Int.eq_ofNat_of_zero_le hi
      have ej : ((j : Int) + 1).toNat = j + 1 := by omega
      rw [if_pos hi, tdiv_pos hi, tmod_pos hi, w_i64 (n := (j : Int) / 8) (by omega) (by omega), w_i64 (n := 8 * ((j : Int) % 8)) (by omega) (by omega), w_u64 (by omega) (by omega), if_pos (by omega), if_pos (by omega), brR_room8 (by omega), w_i64 (by omega) (by omega)]
      rw [show ((j : Int) / 8).toNat = j / 8 by omega, show (8 * ((j : Int) % 8)).toNat = 8 * (j % 8) by omega, byte_out hn (by omega)]
      have hb : beB (j + 1) n = ((n / 256 ^ j % 256 : Nat) : Int) :: beB j n := rfl
      rw [ej] at h5 ⊢
      have step : o.length > 0 ∨ n / 256 ^ j % 256 > 0 → again (lim n, (o ++ [((n / 256 ^ j % 256 : Nat) : Int)], ((j : Int) - 1, ()))) = some ((o ++ (if o = [] then beB (bylen n) n else beB (j + 1) n), ()), ((), ())) := by
        intro hc
        rw [hag _ ⟨rfl, by simp only; omega, by simp only; omega, by simp only [List.length_append, List.length_singleton]; omega, fun h => by simp at h⟩ (by simp only; omega)]
        simp only
        rw [if_neg (by simp), show ((j : Int) - 1 + 1).toNat = j by omega]
        by_cases ho : o = []
        · subst ho
          have h6 := h5 rfl
          have h7 : 256 ^ j ≤ n := by
            rcases Nat.lt_or_ge n (256 ^ j) with h | h
            · rw [Nat.div_eq_of_lt h] at hc; simp at hc
            · exact h
          rw [if_pos rfl, bylen_eq h6 h7, hb]; simp
        · rw [if_neg ho, hb]; simp
      by_cases c1 : (o.length : Int) > 0
      · rw [if_pos c1, step (.inl (by omega))]
      · rw [if_neg c1]
        have ho : o = [] := List.length_eq_zero_iff.1 (by omega)
        by_cases c2 : ((n / 256 ^ j % 256 : Nat) : Int) > 0
        · rw [if_pos c2, step (.inr (by omega))]
        · rw [if_neg c2]
          have h6 := h5 ho
          have hlt : n / 256 ^ j < 256 := by
            rw [Nat.div_lt_iff_lt_mul (Nat.pow_pos (by omega)), Nat.mul_comm, ← Nat.pow_succ]; exact h6
          have h7 : n < 256 ^ j := by
            rw [Nat.mod_eq_of_lt hlt] at c2
            have : n / 256 ^ j = 0 := by generalize n / 256 ^ j = q at *; omega
            exact (Nat.div_eq_zero_iff.1 this).resolve_left (by have := Nat.pow_pos (a := 256) (n := j) (by omega); omega)
          rw [hag _ ⟨rfl, by simp only; omega, by simp only; omega, by simp only; omega, fun _ => by simp only; rw [show ((j : Int) - 1 + 1).toNat = j by omega]; exact h7⟩ (by simp only; omega)]
          simp [ho]
    · have : i = -1 := by omega
      subst this
      rw [if_neg hi]
      by_cases ho : o = []
      · have h6 : n < 1 := h5 ho
        have : n = 0 := by omega
        subst this
        simp [bylen_zero, beB]
      · simp [ho, beB]
  · simp

theorem rAppendUint256_eq {b : List Int} (hb : b.length ≤ 1000000000) {n : Nat} (hn : n < 115792089237316195423570985008687907853269984665640564039457584007913129639936) :
    sol_ref6_AppendUint256 (b, (lim n, ())) = some ((b ++ enc n, ()), ((), ((), ()))) := by
  unfold sol_ref6_AppendUint256 T_ref6_AppendUint256 enc
  have h2 := bylen_256 hn
  rw [digits_eq hn]
  simp only [bind_some', letR_eq, append_def]
  rw [len_beB, w_u8 (by omega) (by omega), brR_room8 (by omega), brR_room8 (by omega), brR_room8 (by simp; omega)]
  simp

theorem rAppendUint64_eq {b : List Int} (hb : b.length ≤ 1000000000) {n : Int} (h0 : 0 ≤ n) (h1 : n ≤ 18446744073709551615) :
    sol_ref6_AppendUint64 (b, (n, ())) = some ((b ++ enc n.toNat, ()), ((), ((), ()))) := by
  unfold sol_ref6_AppendUint64 T_ref6_AppendUint64
  simp only
  rw [lim_small h0 h1, rAppendUint256_eq hb (by omega)]
  rfl

theorem rAppendBytes_eq {b x : List Int} (hb : b.length ≤ 100000000) (hx : x.length ≤ 100000000) :
    sol_ref6_AppendBytes (b, (x, ())) = some ((b ++ (enc x.length ++ x), ()), ((), ((), ()))) := by
  unfold sol_ref6_AppendBytes T_ref6_AppendBytes
  have h2 := @bylen_64 x.length (by omega)
  simp only [letR_eq]
  rw [w_u64 (n := ((x.length : Nat) : Int)) (by omega) (by omega), rAppendUint64_eq (by omega) (by omega) (by omega)]
  simp only [bind_some', Int.toNat_natCast]
  rw [brR_room8 (by simp [len_enc]; omega)]
  simp [append_def]

theorem rAppendInt256_eq {b : List Int} (hb : b.length ≤ 100000000) {s : Bool} {n : Nat} (hn : n < 115792089237316195423570985008687907853269984665640564039457584007913129639936) :
    sol_ref6_AppendInt256 (b, ((s, (lim n, ())), ())) = some ((b ++ encI s n, ()), ((), ((), ()))) := by
  unfold sol_ref6_AppendInt256 T_ref6_AppendInt256 encI
  simp only [append_def]
  rw [rAppendUint256_eq (by simp; omega) hn, rAppendUint256_eq (by simp; omega) hn, ← lim_zero, eqD_lim]
  simp only [bind_some', brR_dec, brR_room8 (show 0 + b.length ≤ 1099511627776 by omega), brR_room8 (show b.length + 1 ≤ 1099511627776 by omega)]
  cases s
  · simp [brR_true, brR_false]
  · by_cases h0 : n = 0
    · simp [h0, brR_true]
    · simp [h0, brR_true]

/-! ### Reading -/

theorem take_loop {b : List Int} (hb : Bytes b) (hl : b.length ≤ 1000000000) {at_ : Nat} (h1 : at_ < b.length) {k : Nat} (hk : k ≤ 32) (hkr : at_ + 1 + k ≤ b.length) (t6 : List Int) :
    bigLoop _ _ (fun again x => T_ref6_take_loop0 again x.1 x.2.1 x.2.2.1 x.2.2.2.1 x.2.2.2.2.1 x.2.2.2.2.2.1) (b, (((at_ : Nat) : Int), (t6, (lim 0, (((k : Nat) : Int), ((0 : Int), ())))))) =
      some ((lim (beV ((b.drop (at_ + 1)).take k)), (((at_ + 1 + k : Nat) : Int), ((0 : Int), ()))), ((), ((), ((), ())))) := by
  refine bigLoop_rule (I := fun x => x.1 = b ∧ x.2.1 = ((at_ : Nat) : Int) ∧ x.2.2.2.2.1 = ((k : Nat) : Int) ∧ (0 : Int) ≤ x.2.2.2.2.2.1 ∧ x.2.2.2.2.2.1 ≤ ((k : Nat) : Int) ∧ x.2.2.2.1 = lim (beV ((b.drop (at_ + 1)).take x.2.2.2.2.2.1.toNat) * 256 ^ (k - x.2.2.2.2.2.1.toNat)))
    (m := fun x => (((k : Nat) : Int) - x.2.2.2.2.2.1).toNat) (g := fun _ => some ((lim (beV ((b.drop (at_ + 1)).take k)), (((at_ + 1 + k : Nat) : Int), ((0 : Int), ()))), ((), ((), ((), ()))))) ?_
    ⟨rfl, rfl, rfl, by simp only; omega, by simp only; omega, by simp [beV_nil]⟩ (by simp only [bigN_eq]; omega)
  rintro ⟨b', a, t, l, k', i, _⟩ again ⟨e1, e2, e3, e4, e5, e6⟩ hag
  simp only at e1 e2 e3 e4 e5 e6 hag ⊢
  subst e1 e2 e3 e6
  obtain ⟨i, rfl⟩ := Int.eq_ofNat_of_zero_le e4
  simp only [T_ref6_take_loop0, letR_eq, brR_dec, brR_inR, Int.toNat_natCast]
  have hr := hb.drop (at_ + 1)
  have hrl : (b'.drop (at_ + 1)).length = b'.length - (at_ + 1) := List.length_drop
  by_cases hi : i < k
  · obtain ⟨j, hj⟩ : ∃ j, k = i + 1 + j := ⟨k - i - 1, by omega⟩
    have e : ((k : Nat) : Int) - 1 - i = (j : Int) := by omega
    have hby := hr.at i
    have hge : b'.getD (at_ + 1 + i) 0 = (b'.drop (at_ + 1)).getD i 0 := by
      rw [List.getD_eq_getElem?_getD, List.getD_eq_getElem?_getD, List.getElem?_drop]
    have hA := beV_take_lt hr (i := i + 1) (by omega)
    have hs := beV_take_succ (r := b'.drop (at_ + 1)) (i := i) (by omega)
    rw [hs] at hA
    rw [if_pos (by omega), w_i64 (n := ((k : Nat) : Int) - 1) (by omega) (by omega), e, w_i64 (n := (j : Int)) (by omega) (by omega), tdiv_pos (by omega), tmod_pos (by omega), w_i64 (n := (j : Int) / 8) (by omega) (by omega),
      w_i64 (n := 8 * ((j : Int) % 8)) (by omega) (by omega), w_u64 (n := 8 * ((j : Int) % 8)) (by omega) (by omega), w_i64 (n := (at_ : Int) + 1) (by omega) (by omega), w_i64 (n := (at_ : Int) + 1 + i) (by omega) (by omega), if_pos (by omega), if_pos (by omega), if_pos (by omega), if_pos (by omega), w_i64 (n := (i : Int) + 1) (by omega) (by omega)]
    rw [show ((j : Int) / 8).toNat = j / 8 by omega, show (8 * ((j : Int) % 8)).toNat = 8 * (j % 8) by omega, show ((at_ : Int) + 1 + i).toNat = at_ + 1 + i by omega, show k - i = j + 1 by omega, hge]
    generalize b'.drop (at_ + 1) = r' at *
    rw [w_u64 (n := r'.getD i 0) (by omega) (by omega)]
    obtain ⟨c, hc⟩ := Int.eq_ofNat_of_zero_le hby.1
    rw [hc] at hby hs hA ⊢
    rw [Int.toNat_natCast] at hs hA
    generalize hv : beV (r'.take i) = v at *
    have hp : 0 < 256 ^ j := Nat.pow_pos (by omega)
    have h3 : (v * 256 + c) * 256 ^ j < 256 ^ (i + 1) * 256 ^ j := Nat.mul_lt_mul_of_pos_right hA hp
    rw [← Nat.pow_add] at h3
    have h4 : (256 : Nat) ^ (i + 1 + j) ≤ 256 ^ 32 := Nat.pow_le_pow_right (by omega) (by omega)
    have h5 : v * 256 ^ (j + 1) + c * 256 ^ j = (v * 256 + c) * 256 ^ j := by rw [Nat.add_mul, Nat.pow_succ, Nat.mul_assoc v, Nat.mul_comm 256]
    have h6 : v * 256 ^ (j + 1) + c * 256 ^ j < 115792089237316195423570985008687907853269984665640564039457584007913129639936 := by
      rw [h5]; exact Nat.lt_of_lt_of_le h3 h4
    rw [lim_getD (by omega) (by omega), Nat.min_eq_left (by omega)]
    have h7 : (2 : Nat) ^ (8 * (j % 8)) ≤ 72057594037927936 := Nat.pow_le_pow_right (n := 2) (j := 56) (by omega) (by omega)
    have h8 : ((c : Nat) : Int) * 2 ^ (8 * (j % 8)) = ((c * 2 ^ (8 * (j % 8)) : Nat) : Int) := by rw [Int.natCast_mul, Int.natCast_pow]; rfl
    have h9 : c * 2 ^ (8 * (j % 8)) ≤ 255 * 72057594037927936 := Nat.mul_le_mul (by omega) h7
    have h10 : v * 256 ^ (j + 1) / 18446744073709551616 ^ (j / 8) % 18446744073709551616 < 18446744073709551616 := Nat.mod_lt _ (by omega)
    have h11 : v * 256 ^ (j + 1) / 18446744073709551616 ^ (j / 8) % 18446744073709551616 ||| c * 2 ^ (8 * (j % 8)) < 18446744073709551616 := Nat.or_lt_two_pow (n := 64) h10 (by omega)
    rw [h8, w_u64 (n := ((c * 2 ^ (8 * (j % 8)) : Nat) : Int)) (by omega) (by omega), ← Int.natCast_add, ← limb_sum (by omega), w_u64 (by omega) (by omega), lim_set (by omega) (by omega) h6 rfl, h5]
    refine hag _ ⟨rfl, rfl, rfl, by simp only; omega, by simp only; omega, ?_⟩ (by simp only; omega)
    simp only
    rw [show ((i : Int) + 1).toNat = i + 1 by omega, hs, show k - (i + 1) = j by omega]
  · have : i = k := by omega
    subst this
    rw [if_neg (by omega), Nat.sub_self, Nat.pow_zero, Nat.mul_one, w_i64 (n := (at_ : Int) + 1) (by omega) (by omega), w_i64 (by omega) (by omega), show (at_ : Int) + 1 + i = ((at_ + 1 + i : Nat) : Int) by omega]

theorem take_eq {b : List Int} (hb : Bytes b) (hl : b.length ≤ 1000000000) {at_ : Int} (h1 : -9223372036854775808 ≤ at_) (h2 : at_ ≤ 9223372036854775807) {most : Nat} (hm : most ≤ 32) :
    sol_ref6_take (b, (at_, (((most : Nat) : Int), ()))) = some (readR b at_ most, ((), ((), ((), ())))) := by
  unfold sol_ref6_take T_ref6_take readR
  simp only [letR_eq, brR_dec, brR_and, brR_inR]
  by_cases c1 : at_ < 0
  · rw [if_pos c1, if_pos (.inl c1)]; rfl
  rw [if_neg c1]
  by_cases c2 : b.length < at_
  · rw [if_pos (by omega), if_pos (.inr c2)]; rfl
  rw [if_neg (show ¬ at_ > (b.length : Int) by omega), if_neg (show ¬ (at_ < 0 ∨ (b.length : Int) < at_) by omega)]
  obtain ⟨i, rfl⟩ := Int.eq_ofNat_of_zero_le (show 0 ≤ at_ by omega)
  simp only [Int.toNat_natCast]
  by_cases c3 : i = b.length
  · rw [if_pos (by omega)]
    unfold rdU
    rw [c3, List.drop_length]; rfl
  have hin : 0 ≤ (i : Int) ∧ (i : Int) < (b.length : Int) := by omega
  simp only [if_pos hin]
  rw [if_neg (by omega)]
  obtain ⟨k, r, hkr⟩ : ∃ k r, b.drop i = k :: r := by
    cases h : b.drop i with
    | nil => have := List.drop_eq_nil_iff.1 h; omega
    | cons k r => exact ⟨k, r, rfl⟩
  have hd := hb.drop i
  have hlen : (b.drop i).length = b.length - i := List.length_drop
  have hr : b.drop (i + 1) = r := by rw [← List.drop_drop, hkr]; rfl
  have g1 : b.getD i 0 = k := by
    have : (b.drop i).getD 0 0 = b.getD i 0 := by rw [List.getD_eq_getElem?_getD, List.getD_eq_getElem?_getD, List.getElem?_drop]; rfl
    rw [← this, hkr]; rfl
  have g2 : b.getD (i + 1) 0 = r.getD 0 0 := by
    rw [← hr, List.getD_eq_getElem?_getD, List.getD_eq_getElem?_getD, List.getElem?_drop]
  unfold rdU
  rw [hkr] at hd hlen ⊢
  have hk := hd k (by simp)
  obtain ⟨k, rfl⟩ := Int.eq_ofNat_of_zero_le hk.1
  simp only [List.length_cons] at hlen
  rw [g1, w_i64 (n := (k : Int)) (by omega) (by omega), w_i64 (n := (b.length : Int) - (i : Int)) (by omega) (by omega), w_i64 (by omega) (by omega)]
  simp only [Int.toNat_natCast]
  by_cases c4 : most < k
  · rw [if_pos (by omega), if_pos (by omega)]; rfl
  rw [if_neg (by omega)]
  by_cases c5 : r.length < k
  · rw [if_pos (by omega), if_pos (by omega)]; rfl
  rw [if_neg (by omega)]
  have loop := take_loop hb hl (at_ := i) (by omega) (k := k) (by omega) (by omega)
  rw [hr] at loop
  by_cases c6 : 0 < k
  · rw [if_pos (by omega), w_i64 (by omega) (by omega), if_pos (by omega), show ((i : Int) + 1).toNat = i + 1 by omega, g2]
    by_cases c7 : r.getD 0 0 = 0
    · rw [if_pos c7, if_pos (by omega)]; rfl
    · rw [if_neg c7, if_neg (by omega)]
      exact loop _
  · rw [if_neg (by omega), if_neg (by omega)]
    exact loop _

theorem rReadUint256_eq {b : List Int} (hb : Bytes b) (hl : b.length ≤ 1000000000) {at_ : Int} (h1 : -9223372036854775808 ≤ at_) (h2 : at_ ≤ 9223372036854775807) :
    sol_ref6_ReadUint256 (b, (at_, ())) = some (readR b at_ 32, ((), ((), ()))) := by
  unfold sol_ref6_ReadUint256 T_ref6_ReadUint256
  rw [show ((32 : Int)) = ((32 : Nat) : Int) from rfl, take_eq hb hl h1 h2 (by omega)]
  simp only [bind_some']

theorem rReadUint64_eq {b : List Int} (hb : Bytes b) (hl : b.length ≤ 1000000000) {at_ : Int} (h1 : -9223372036854775808 ≤ at_) (h2 : at_ ≤ 9223372036854775807) :
    sol_ref6_ReadUint64 (b, (at_, ())) = some ((((val4 (readR b at_ 8).1 : Nat) : Int), (readR b at_ 8).2), ((), ((), ()))) := by
  unfold sol_ref6_ReadUint64 T_ref6_ReadUint64
  obtain ⟨v, v1, v2, _⟩ := readR_bounds hb at_ (most := 8) (by omega)
  rw [show ((8 : Int)) = ((8 : Nat) : Int) from rfl, take_eq hb hl h1 h2 (by omega)]
  simp only [bind_some']
  have : (readR b at_ 8).1.getD 0 0 = ((val4 (readR b at_ 8).1 : Nat) : Int) := by
    rw [v2, val4_lim]; simp only [lim, List.getD_cons_zero]; omega
  rw [this]

theorem rReadBytes_eq {b : List Int} (hb : Bytes b) (hl : b.length ≤ 1000000000) {at_ : Int} (h1 : -9223372036854775808 ≤ at_) (h2 : at_ ≤ 9223372036854775807) :
    sol_ref6_ReadBytes (b, (at_, ())) = some (readB b at_, ((), ((), ()))) := by
  unfold sol_ref6_ReadBytes T_ref6_ReadBytes readB
  rw [rReadUint64_eq hb hl h1 h2]
  simp only [bind_some', letR_eq, brR_dec, brR_not, brR_and]
  unfold readR
  by_cases c1 : at_ < 0 ∨ (b.length : Int) < at_
  · rw [if_pos c1, if_pos c1]; rfl
  rw [if_neg c1, if_neg c1]
  cases h : rdU b at_.toNat 8 with
  | none => rfl
  | some p =>
    obtain ⟨n, j⟩ := p
    obtain ⟨r1, r2, r3, _⟩ := rdU_le h hb
    have r3 : n < 18446744073709551616 := r3
    simp only [val4_lim]
    rw [if_pos trivial, w_i64 (n := (b.length : Int) - (j : Int)) (by omega) (by omega), w_u64 (by omega) (by omega)]
    by_cases c2 : b.length - j < n
    · rw [if_pos (by omega), if_pos c2]
    · rw [if_neg (by omega), if_neg c2, w_i64 (n := (n : Int)) (by omega) (by omega), w_i64 (n := (j : Int) + (n : Int)) (by omega) (by omega), if_pos (by omega), if_pos (by omega), if_pos (by omega)]
      rw [show ((j : Int) + (n : Int)).toNat - (j : Int).toNat = n by omega, Int.toNat_natCast, brR_room8 (by rw [List.length_take, List.length_drop]; omega)]
      rw [show ((j : Int) + (n : Int)) = ((j + n : Nat) : Int) by omega]

theorem rReadInt256_eq {b : List Int} (hb : Bytes b) (hl : b.length ≤ 1000000000) {at_ : Int} (h1 : -9223372036854775808 ≤ at_) (h2 : at_ ≤ 9223372036854775807) :
    sol_ref6_ReadInt256 (b, (at_, ())) = some (readI b at_, ((), ((), ()))) := by
  unfold sol_ref6_ReadInt256 T_ref6_ReadInt256 readI
  simp only [letR_eq, brR_dec, brR_inR, brR_not]
  by_cases c1 : at_ < 0
  · rw [if_pos c1, if_pos (.inl c1)]; rfl
  rw [if_neg c1]
  by_cases c2 : b.length < at_
  · rw [if_pos (by omega), if_pos (.inr c2)]; rfl
  obtain ⟨i, rfl⟩ := Int.eq_ofNat_of_zero_le (show 0 ≤ at_ by omega)
  rw [if_neg (show ¬ (i : Int) > (b.length : Int) by omega), if_neg (show ¬ ((i : Int) < 0 ∨ (b.length : Int) < (i : Int)) by omega)]
  simp only [Int.toNat_natCast]
  by_cases c3 : b.length = i
  · rw [if_pos (by omega), if_pos (.inl c3)]; rfl
  have hin : 0 ≤ (i : Int) ∧ (i : Int) < (b.length : Int) := by omega
  simp only [if_pos hin]
  rw [if_neg (by omega)]
  by_cases c4 : 1 < b.getD i 0
  · rw [if_pos (by omega), if_pos (.inr c4)]; rfl
  rw [if_neg (show ¬ b.getD i 0 > 1 by omega), if_neg (show ¬ (b.length = i ∨ 1 < b.getD i 0) by omega), w_i64 (by omega) (by omega), show ((i : Int) + 1) = ((i + 1 : Nat) : Int) by omega, rReadUint256_eq hb hl (by omega) (by omega)]
  simp only [bind_some']
  unfold readR
  rw [if_neg (show ¬ (((i + 1 : Nat) : Int) < 0 ∨ (b.length : Int) < ((i + 1 : Nat) : Int)) by omega), Int.toNat_natCast]
  cases h : rdU b (i + 1) 32 with
  | none => rfl
  | some p =>
    obtain ⟨n, j⟩ := p
    simp only
    rw [← lim_zero, eqD_lim, brR_dec]
    by_cases c5 : b.getD i 0 = 1 <;> by_cases c6 : n = 0 <;> simp [c5, c6, -List.getD_eq_getElem?_getD]

end Go.Pon
/-
  Encodings and readings are inverse.
-/
set_option autoImplicit false
set_option linter.unusedVariables false
set_option linter.unusedSimpArgs false
namespace Go.Pon
open Go

theorem foldl_beV (l : List Int) : ∀ v : Nat, l.foldl (fun v x => v * 256 + x.toNat) v = v * 256 ^ l.length + beV l := by
  refine snoc_ind (motive := fun l => ∀ v : Nat, l.foldl (fun v x => v * 256 + x.toNat) v = v * 256 ^ l.length + beV l) l ?_ ?_
  · intro v; simp [beV]
  · intro l x ih v
    rw [List.foldl_append, ih, beV_append]
    simp only [List.foldl_cons, List.foldl_nil, List.length_append, List.length_singleton, Nat.pow_succ]
    rw [Nat.add_mul, Nat.mul_assoc]; omega

theorem beV_cons (x : Int) (l : List Int) : beV (x :: l) = x.toNat * 256 ^ l.length + beV l := by
  rw [beV, List.foldl_cons, foldl_beV]; simp

theorem beV_beB : ∀ k n, beV (beB k n) = n % 256 ^ k
  | 0, n => by simp [beB, beV_nil, Nat.mod_one]
  | k + 1, n => by
    rw [beB, beV_cons, beV_beB k n, len_beB, Int.toNat_natCast, Nat.pow_succ, Nat.mod_mul, Nat.mul_comm]; omega

theorem beB_add {k n m : Nat} : beB k (m * 256 ^ k + n) = beB k n := by
  induction k generalizing m with
  | zero => rfl
  | succ k ih =>
    rw [beB, beB, Nat.pow_succ, Nat.mul_comm (256 ^ k), ← Nat.mul_assoc, ih]
    congr 2
    rw [Nat.mul_comm (m * 256), Nat.mul_add_div (Nat.pow_pos (by omega)), Nat.mul_comm m, Nat.mul_add_mod]

theorem beB_beV : ∀ {l : List Int}, Bytes l → beB l.length (beV l) = l
  | [], _ => rfl
  | x :: l, h => by
    have hx := h x (by simp)
    have hl : Bytes l := fun y hy => h y (by simp [hy])
    have hlt := beV_lt l hl
    have hp : 0 < 256 ^ l.length := Nat.pow_pos (by omega)
    rw [List.length_cons, beV_cons, beB, beB_add, beB_beV hl]
    congr 1
    rw [Nat.mul_comm, Nat.mul_add_div hp, Nat.div_eq_of_lt hlt]
    omega

theorem bylen_beV {l : List Int} (h : Bytes l) (h0 : l.getD 0 1 ≠ 0) : bylen (beV l) = l.length := by
  cases l with
  | nil => rfl
  | cons x l =>
    have hx := h x (by simp)
    have h0 : x ≠ 0 := h0
    have hlt := beV_lt (x :: l) h
    have hp : 0 < 256 ^ l.length := Nat.pow_pos (by omega)
    have hge : 256 ^ l.length ≤ beV (x :: l) := by
      rw [beV_cons]
      have : 1 * 256 ^ l.length ≤ x.toNat * 256 ^ l.length := Nat.mul_le_mul_right _ (by omega)
      omega
    have a := bylen_le.2 hlt
    simp only [List.length_cons] at a ⊢
    rcases Nat.lt_or_ge l.length (bylen (beV (x :: l))) with hh | hh
    · omega
    · have := bylen_le.1 hh; omega

theorem beB_head {n : Nat} (h : 0 < bylen n) : (beB (bylen n) n).getD 0 1 ≠ 0 := by
  obtain ⟨k, hk⟩ : ∃ k, bylen n = k + 1 := ⟨bylen n - 1, by omega⟩
  rw [hk, beB, List.getD_cons_zero]
  have h1 : n < 256 ^ (k + 1) := bylen_le.1 (by omega)
  have h2 : 256 ^ k ≤ n := by
    rcases Nat.lt_or_ge n (256 ^ k) with hh | hh
    · have := bylen_le.2 hh; omega
    · exact hh
  have hp : 0 < 256 ^ k := Nat.pow_pos (by omega)
  have h3 : n / 256 ^ k < 256 := by rw [Nat.div_lt_iff_lt_mul hp, Nat.mul_comm, ← Nat.pow_succ]; exact h1
  have h4 : 1 ≤ n / 256 ^ k := (Nat.le_div_iff_mul_le hp).2 (by omega)
  rw [Nat.mod_eq_of_lt h3]
  generalize n / 256 ^ k = q at *
  omega

theorem bytes_enc {n : Nat} (h : bylen n ≤ 255) : Bytes (enc n) := by
  intro x hx
  rcases List.mem_cons.1 hx with rfl | hx
  · omega
  · exact beB_byte x hx

/-- Reading what was encoded. -/
theorem rdU_enc {a z : List Int} {n most : Nat} (hn : n < 256 ^ most) (hm : most ≤ 32) : rdU (a ++ (enc n ++ z)) a.length most = some (n, a.length + 1 + bylen n) := by
  have hk := bylen_le.2 hn
  unfold rdU
  rw [List.drop_left' rfl, enc, List.cons_append]
  simp only [Int.toNat_natCast, List.length_append, len_beB]
  rw [if_neg, List.take_append_of_le_length (by rw [len_beB]; omega), List.take_of_length_le (by rw [len_beB]; omega), beV_beB, Nat.mod_eq_of_lt (bylen_le.1 (Nat.le_refl _))]
  rintro (h | h | ⟨h1, h2⟩)
  · omega
  · omega
  · have := beB_head h1
    rw [List.getD_eq_getElem?_getD, List.getElem?_append_left (by rw [len_beB]; omega), ← List.getD_eq_getElem?_getD] at h2
    have e : (beB (bylen n) n).getD 0 1 = (beB (bylen n) n).getD 0 0 := by
      have : 0 < (beB (bylen n) n).length := by rw [len_beB]; exact h1
      rw [List.getD_eq_getElem?_getD, List.getD_eq_getElem?_getD, List.getElem?_eq_getElem this]; rfl
    omega

/-- What was read is the encoding. -/
theorem enc_rdU {b : List Int} (hb : Bytes b) {i most v j : Nat} (h : rdU b i most = some (v, j)) : enc v = (b.drop i).take (j - i) := by
  unfold rdU at h
  split at h
  · cases h
  · rename_i k r hr
    split at h
    · cases h
    · rename_i hk
      cases h
      have hd : Bytes (k :: r) := hr ▸ hb.drop i
      have hk0 := hd k (by simp)
      have hrb : Bytes r := fun x hx => hd x (by simp [hx])
      have hl : (r.take k.toNat).length = k.toNat := by rw [List.length_take]; omega
      have hlen : bylen (beV (r.take k.toNat)) = k.toNat := by
        rw [bylen_beV (hrb.take _) ?_, hl]
        rw [List.getD_eq_getElem?_getD, List.getElem?_take]
        split
        · rename_i h0
          have h2 : r.getD 0 0 ≠ 0 := fun he => hk (.inr (.inr ⟨h0, he⟩))
          have h3 : 0 < r.length := by omega
          rw [List.getD_eq_getElem?_getD, List.getElem?_eq_getElem h3] at h2
          rw [List.getElem?_eq_getElem h3]; exact h2
        · simp
      have hB := beB_beV (hrb.take k.toNat)
      rw [hl] at hB
      rw [enc, hlen, hB, hr, show i + 1 + k.toNat - i = k.toNat + 1 by omega, List.take_succ_cons]
      congr 1
      omega

theorem readR_enc {a z : List Int} {n most : Nat} (hn : n < 256 ^ most) (hm : most ≤ 32) : readR (a ++ (enc n ++ z)) ((a.length : Nat) : Int) most = (lim n, ((((a ++ enc n).length : Nat) : Int), (0, ()))) := by
  unfold readR
  rw [if_neg (by simp only [List.length_append]; omega), Int.toNat_natCast, rdU_enc hn hm]
  simp [len_enc]; omega

theorem readB_enc {a x z : List Int} (hx : x.length ≤ 1000000000) : readB (a ++ (enc x.length ++ (x ++ z))) ((a.length : Nat) : Int) = (x, ((((a ++ (enc x.length ++ x)).length : Nat) : Int), (0, ()))) := by
  unfold readB
  rw [if_neg (by simp only [List.length_append]; omega), Int.toNat_natCast, rdU_enc (by omega) (by omega)]
  simp only [List.length_append, len_enc]
  rw [if_neg (by omega)]
  have e : a.length + 1 + bylen x.length = (a ++ enc x.length).length := by rw [List.length_append, len_enc]; omega
  rw [← List.append_assoc, ← List.append_assoc, e, List.append_assoc (a ++ enc x.length), List.drop_left' rfl, List.take_left' rfl]
  simp [len_enc]; omega

theorem readI_enc {a z : List Int} {s : Bool} {n : Nat} (hn : n < 115792089237316195423570985008687907853269984665640564039457584007913129639936) (h : ¬ (s = true ∧ n = 0)) :
    readI (a ++ (encI s n ++ z)) ((a.length : Nat) : Int) = ((s, (lim n, ())), ((((a ++ encI s n).length : Nat) : Int), (0, ()))) := by
  unfold readI encI
  rw [if_neg h, if_neg (by simp only [List.length_append]; omega), Int.toNat_natCast]
  have g : (a ++ ((if s = true then (1 : Int) else 0) :: enc n ++ z)).getD a.length 0 = if s = true then 1 else 0 := by
    rw [List.getD_eq_getElem?_getD, List.getElem?_append_right (by omega), Nat.sub_self]; rfl
  rw [g, if_neg (by
    rintro (hh | hh)
    · simp only [List.length_append, List.length_cons] at hh; omega
    · cases s <;> simp at hh)]
  have e : a ++ ((if s = true then (1 : Int) else 0) :: enc n ++ z) = (a ++ [if s = true then (1 : Int) else 0]) ++ (enc n ++ z) := by simp
  have l : a.length + 1 = (a ++ [if s = true then (1 : Int) else 0]).length := by simp
  rw [e, l, rdU_enc hn (by omega)]
  simp only
  rw [if_neg (by
    rintro ⟨h1, h2⟩
    cases s
    · simp at h1
    · exact h ⟨rfl, h2⟩)]
  cases s <;> simp [len_enc] <;> omega

theorem bytes_encI {s : Bool} {n : Nat} (h : bylen n ≤ 255) : Bytes (encI s n) := by
  unfold encI
  split
  · intro x hx; cases hx
  · intro x hx
    rcases List.mem_cons.1 hx with rfl | hx
    · cases s <;> simp
    · exact bytes_enc h x hx

end Go.Pon
/-
  Helpers of the laws.
-/
set_option autoImplicit false
set_option linter.unusedVariables false
set_option linter.unusedSimpArgs false
namespace Go.Pon
open Go

theorem bytes_wf {b : List Int} (h : (Ty.slice (.int .u8)).wf b) : Bytes b := fun x hx => inK_u8.1 (h.2 x hx)

theorem equalBytes_eq (a b : List Int) : sol_law0_EqualBytes (a, (b, ())) = some ((decide (a = b), ()), ((), ((), ()))) := by
  unfold sol_law0_EqualBytes T_law0_EqualBytes
  rfl

theorem mod_eq {x n : Int} (h0 : -9223372036854775808 ≤ x) (h1 : x ≤ 9223372036854775807) (h2 : 1 ≤ n) (h3 : n ≤ 9223372036854775807) :
    sol_law0_Mod (x, (n, ())) = some ((((x % 18446744073709551616) % n, ()), ((), ((), ())))) := by
  unfold sol_law0_Mod T_law0_Mod
  simp only [letR_eq, brR_dec]
  rw [w_u64 (n := n) (by omega) (by omega), if_pos (by omega), IntKind.wrap_u64, tmod_pos (by omega), w_i64]
  · have := Int.emod_nonneg (x % 18446744073709551616) (b := n) (by omega); omega
  · have := Int.emod_lt_of_pos (x % 18446744073709551616) (b := n) (by omega); omega

theorem lim_of {a b c d : Int} (ha : 0 ≤ a ∧ a ≤ 18446744073709551615) (hb : 0 ≤ b ∧ b ≤ 18446744073709551615) (hc : 0 ≤ c ∧ c ≤ 18446744073709551615) (hd : 0 ≤ d ∧ d ≤ 18446744073709551615) :
    ∃ n, n < 115792089237316195423570985008687907853269984665640564039457584007913129639936 ∧ [a, b, c, d] = lim n :=
  u256_wf (l := [a, b, c, d]) ⟨rfl, by
    intro y hy
    simp only [List.mem_cons, List.not_mem_nil, or_false] at hy
    rcases hy with rfl | rfl | rfl | rfl <;> exact inK_u64.2 (by assumption)⟩

theorem edge_ok {a b s : Int} (ha : 0 ≤ a ∧ a ≤ 18446744073709551615) (hb : 0 ≤ b ∧ b ≤ 18446744073709551615) (hs : -9223372036854775808 ≤ s ∧ s ≤ 9223372036854775807) :
    ∃ n, n < 115792089237316195423570985008687907853269984665640564039457584007913129639936 ∧ sol_law0_EdgeUint256 (a, (b, (s, ()))) = some ((lim n, ()), ((), ((), ((), ())))) := by
  have key : ∀ {p q r t : Int}, 0 ≤ p ∧ p ≤ 18446744073709551615 → 0 ≤ q ∧ q ≤ 18446744073709551615 → 0 ≤ r ∧ r ≤ 18446744073709551615 → 0 ≤ t ∧ t ≤ 18446744073709551615 →
      ∃ n, n < 115792089237316195423570985008687907853269984665640564039457584007913129639936 ∧ (some (([p, q, r, t], ()), ((), ((), ((), ())))) : Option ((List Int × Unit) × (Unit × (Unit × (Unit × Unit))))) = some ((lim n, ()), ((), ((), ((), ())))) := fun h1 h2 h3 h4 => by
    obtain ⟨n, k1, k2⟩ := lim_of h1 h2 h3 h4
    exact ⟨n, k1, by rw [k2]⟩
  unfold sol_law0_EdgeUint256 T_law0_EdgeUint256
  rw [mod_eq hs.1 hs.2 (by omega) (by omega)]
  simp only [bind_some', brR_dec, tmod_pos ha.1, tmod_pos hb.1]
  repeat' split
  all_goals try apply key
  all_goals try omega
  · rw [IntKind.wrap_u64]; omega
  · rw [IntKind.wrap_u64]; omega
  · rw [IntKind.wrap_u64]; omega

end Go.Pon
/-
  Transactions: their encoding and its inverse.
-/
set_option autoImplicit false
set_option linter.unusedVariables false
set_option linter.unusedSimpArgs false
namespace Go.Pon
open Go

/-! ### Readers -/

abbrev RdT := List Int × (Int × (Bool × Unit))

/-- A reader of 'b': at an offset, or bad. -/
def RS (b : List Int) (st : Option Nat) (s : RdT) : Prop :=
  match st with
  | some i => s = (b, ((i : Int), (false, ()))) ∧ i ≤ b.length
  | none => ∃ a : Int, s = (b, (a, (true, ()))) ∧ 0 ≤ a ∧ a ≤ 2000000000

def stU (b : List Int) (most : Nat) (st : Option Nat) : Option Nat := st.bind fun i => (rdU b i most).map (·.2)

/-- The bytes at an offset, and the offset behind them. -/
def rdB (b : List Int) (i : Nat) : Option (List Int × Nat) :=
  match rdU b i 8 with
  | none => none
  | some (n, j) => if b.length - j < n then none else some ((b.drop j).take n, j + n)

def stB (b : List Int) (st : Option Nat) : Option Nat := st.bind fun i => (rdB b i).map (·.2)

theorem rdB_le {b : List Int} (hb : Bytes b) {i j : Nat} {d : List Int} (h : rdB b i = some (d, j)) : i < j ∧ j ≤ b.length ∧ Bytes d ∧ d.length ≤ b.length := by
  unfold rdB at h
  cases hr : rdU b i 8 with
  | none => rw [hr] at h; cases h
  | some p =>
    obtain ⟨n, k⟩ := p
    rw [hr] at h
    simp only at h
    obtain ⟨r1, r2, r3, _⟩ := rdU_le hr hb
    split at h
    · cases h
    · cases h
      exact ⟨by omega, by omega, (hb.drop _).take _, by rw [List.length_take, List.length_drop]; omega⟩

theorem readB_at {b : List Int} {i : Nat} (hi : i ≤ b.length) : readB b (i : Int) = match rdB b i with
    | none => (([] : List Int), ((0 : Int), ((3 : Int), ())))
    | some (d, j) => (d, ((j : Int), (0, ()))) := by
  unfold readB rdB
  rw [if_neg (by omega), Int.toNat_natCast]
  cases rdU b i 8 with
  | none => rfl
  | some p =>
    obtain ⟨n, j⟩ := p
    simp only
    by_cases hc : b.length - j < n
    · rw [if_pos hc, if_pos hc]
    · rw [if_neg hc, if_neg hc]

section
variable {b : List Int} (hb : Bytes b) (hl : b.length ≤ 1000000000)
include hb hl

theorem wU64_step {st : Option Nat} {s : RdT} (h : RS b st s) : ∃ v s', sol_wirereader_Reader_Uint64 (s, ()) = some ((v, ()), (s', ())) ∧ RS b (stU b 8 st) s' ∧
    ∀ i x j, st = some i → rdU b i 8 = some (x, j) → v = (x : Int) := by
  unfold sol_wirereader_Reader_Uint64 T_wirereader_Reader_Uint64 sol_wirereader_Reader_advance T_wirereader_Reader_advance
  cases st with
  | none =>
    obtain ⟨a, rfl, a0, a1⟩ := h
    simp only
    rw [readUint64_eq hb hl (by omega) (by omega)]
    exact ⟨_, _, rfl, ⟨a, rfl, a0, a1⟩, fun i x j h => by cases h⟩
  | some i =>
    obtain ⟨rfl, hi⟩ := h
    simp only
    rw [readUint64_eq hb hl (by omega) (by omega)]
    unfold readR
    rw [if_neg (by omega), Int.toNat_natCast]
    cases hr : rdU b i 8 with
    | none =>
      refine ⟨0, (b, ((i : Int), (true, ()))), rfl, ?_, fun i' x j h => by cases h; rw [hr]; intro h; cases h⟩
      show RS b ((rdU b i 8).map (·.2)) _
      rw [hr]
      exact ⟨_, rfl, by omega, by omega⟩
    | some p =>
      obtain ⟨v, j⟩ := p
      obtain ⟨r1, r2, r3, _⟩ := rdU_le hr hb
      refine ⟨((val4 (lim v) : Nat) : Int), (b, ((j : Int), (false, ()))), rfl, ?_, fun i' x j' h => by cases h; rw [hr]; intro h; cases h; rw [val4_lim]⟩
      show RS b ((rdU b i 8).map (·.2)) _
      rw [hr]
      exact ⟨rfl, r2⟩

theorem wU256_step {st : Option Nat} {s : RdT} (h : RS b st s) : ∃ v s', sol_wirereader_Reader_Uint256 (s, ()) = some ((v, ()), (s', ())) ∧ RS b (stU b 32 st) s' ∧
    ∀ i x j, st = some i → rdU b i 32 = some (x, j) → v = lim x := by
  unfold sol_wirereader_Reader_Uint256 T_wirereader_Reader_Uint256 sol_wirereader_Reader_advance T_wirereader_Reader_advance
  cases st with
  | none =>
    obtain ⟨a, rfl, a0, a1⟩ := h
    simp only
    rw [readUint256_eq hb hl (by omega) (by omega)]
    exact ⟨_, _, rfl, ⟨a, rfl, a0, a1⟩, fun i x j h => by cases h⟩
  | some i =>
    obtain ⟨rfl, hi⟩ := h
    simp only
    rw [readUint256_eq hb hl (by omega) (by omega)]
    unfold readR
    rw [if_neg (by omega), Int.toNat_natCast]
    cases hr : rdU b i 32 with
    | none =>
      refine ⟨_, (b, ((i : Int), (true, ()))), rfl, ?_, fun i' x j h => by cases h; rw [hr]; intro h; cases h⟩
      show RS b ((rdU b i 32).map (·.2)) _
      rw [hr]
      exact ⟨_, rfl, by omega, by omega⟩
    | some p =>
      obtain ⟨v, j⟩ := p
      obtain ⟨r1, r2, r3, _⟩ := rdU_le hr hb
      refine ⟨lim v, (b, ((j : Int), (false, ()))), rfl, ?_, fun i' x j' h => by cases h; rw [hr]; intro h; cases h; rfl⟩
      show RS b ((rdU b i 32).map (·.2)) _
      rw [hr]
      exact ⟨rfl, r2⟩

theorem wBytes_step {st : Option Nat} {s : RdT} (h : RS b st s) : ∃ v s', sol_wirereader_Reader_Bytes (s, ()) = some ((v, ()), (s', ())) ∧ RS b (stB b st) s' ∧
    ∀ i x j, st = some i → rdB b i = some (x, j) → v = x := by
  unfold sol_wirereader_Reader_Bytes T_wirereader_Reader_Bytes sol_wirereader_Reader_advance T_wirereader_Reader_advance
  cases st with
  | none =>
    obtain ⟨a, rfl, a0, a1⟩ := h
    simp only
    rw [readBytes_eq hb hl (by omega) (by omega)]
    exact ⟨_, _, rfl, ⟨a, rfl, a0, a1⟩, fun i x j h => by cases h⟩
  | some i =>
    obtain ⟨rfl, hi⟩ := h
    simp only
    rw [readBytes_eq hb hl (by omega) (by omega)]
    rw [readB_at hi]
    cases k1 : rdB b i with
    | none =>
      refine ⟨_, (b, ((i : Int), (true, ()))), rfl, ?_, fun i' x j h => by cases h; rw [k1]; intro h; cases h⟩
      show RS b ((rdB b i).map (·.2)) _
      rw [k1]
      exact ⟨_, rfl, by omega, by omega⟩
    | some p =>
      obtain ⟨d, j⟩ := p
      obtain ⟨r1, r2, r3, _⟩ := rdB_le hb k1
      refine ⟨d, (b, ((j : Int), (false, ()))), rfl, ?_, fun i' x j' h => by cases h; rw [k1]; intro h; cases h; rfl⟩
      show RS b ((rdB b i).map (·.2)) _
      rw [k1]
      exact ⟨rfl, r2⟩

end

theorem wDone_step {b : List Int} {st : Option Nat} {s : RdT} (h : RS b st s) : sol_wirereader_Reader_Done (s, ()) = some ((decide (st = some b.length), ()), (s, ())) := by
  unfold sol_wirereader_Reader_Done T_wirereader_Reader_Done
  cases st with
  | none =>
    obtain ⟨a, rfl, a0, a1⟩ := h
    simp only [Bool.not_true, brR_false]
    rfl
  | some i =>
    obtain ⟨rfl, hi⟩ := h
    simp only [Bool.not_false, brR_true]
    rw [show decide ((i : Int) = (b.length : Int)) = decide (some i = some b.length) from by rw [decide_eq_decide]; simp only [Option.some.injEq]; omega]

/-! ### The reference's readers -/

section
variable {b : List Int} (hb : Bytes b) (hl : b.length ≤ 1000000000)
include hb hl

theorem rU64_step {st : Option Nat} {s : RdT} (h : RS b st s) : ∃ v s', sol_ref22_Reader_Uint64 (s, ()) = some ((v, ()), (s', ())) ∧ RS b (stU b 8 st) s' ∧
    ∀ i x j, st = some i → rdU b i 8 = some (x, j) → v = (x : Int) := by
  unfold sol_ref22_Reader_Uint64 T_ref22_Reader_Uint64
  cases st with
  | none =>
    obtain ⟨a, rfl, a0, a1⟩ := h
    exact ⟨_, _, rfl, ⟨a, rfl, a0, a1⟩, fun i x j h => by cases h⟩
  | some i =>
    obtain ⟨rfl, hi⟩ := h
    simp only [brR_false]
    rw [rReadUint64_eq hb hl (by omega) (by omega)]
    unfold readR
    rw [if_neg (by omega), Int.toNat_natCast]
    cases hr : rdU b i 8 with
    | none =>
      refine ⟨_, (b, ((0 : Int), (true, ()))), rfl, ?_, fun i' x j h => by cases h; rw [hr]; intro h; cases h⟩
      show RS b ((rdU b i 8).map (·.2)) _
      rw [hr]
      exact ⟨_, rfl, by omega, by omega⟩
    | some p =>
      obtain ⟨v, j⟩ := p
      obtain ⟨r1, r2, r3, _⟩ := rdU_le hr hb
      refine ⟨((val4 (lim v) : Nat) : Int), (b, ((j : Int), (false, ()))), rfl, ?_, fun i' x j' h => by cases h; rw [hr]; intro h; cases h; rw [val4_lim]⟩
      show RS b ((rdU b i 8).map (·.2)) _
      rw [hr]
      exact ⟨rfl, r2⟩

theorem rU256_step {st : Option Nat} {s : RdT} (h : RS b st s) : ∃ v s', sol_ref22_Reader_Uint256 (s, ()) = some ((v, ()), (s', ())) ∧ RS b (stU b 32 st) s' ∧
    ∀ i x j, st = some i → rdU b i 32 = some (x, j) → v = lim x := by
  unfold sol_ref22_Reader_Uint256 T_ref22_Reader_Uint256
  cases st with
  | none =>
    obtain ⟨a, rfl, a0, a1⟩ := h
    exact ⟨_, _, rfl, ⟨a, rfl, a0, a1⟩, fun i x j h => by cases h⟩
  | some i =>
    obtain ⟨rfl, hi⟩ := h
    simp only [brR_false]
    rw [rReadUint256_eq hb hl (by omega) (by omega)]
    unfold readR
    rw [if_neg (by omega), Int.toNat_natCast]
    cases hr : rdU b i 32 with
    | none =>
      refine ⟨_, (b, ((0 : Int), (true, ()))), rfl, ?_, fun i' x j h => by cases h; rw [hr]; intro h; cases h⟩
      show RS b ((rdU b i 32).map (·.2)) _
      rw [hr]
      exact ⟨_, rfl, by omega, by omega⟩
    | some p =>
      obtain ⟨v, j⟩ := p
      obtain ⟨r1, r2, r3, _⟩ := rdU_le hr hb
      refine ⟨lim v, (b, ((j : Int), (false, ()))), rfl, ?_, fun i' x j' h => by cases h; rw [hr]; intro h; cases h; rfl⟩
      show RS b ((rdU b i 32).map (·.2)) _
      rw [hr]
      exact ⟨rfl, r2⟩

theorem rBytes_step {st : Option Nat} {s : RdT} (h : RS b st s) : ∃ v s', sol_ref22_Reader_Bytes (s, ()) = some ((v, ()), (s', ())) ∧ RS b (stB b st) s' ∧
    ∀ i x j, st = some i → rdB b i = some (x, j) → v = x := by
  unfold sol_ref22_Reader_Bytes T_ref22_Reader_Bytes
  cases st with
  | none =>
    obtain ⟨a, rfl, a0, a1⟩ := h
    exact ⟨_, _, rfl, ⟨a, rfl, a0, a1⟩, fun i x j h => by cases h⟩
  | some i =>
    obtain ⟨rfl, hi⟩ := h
    simp only [brR_false]
    rw [rReadBytes_eq hb hl (by omega) (by omega), readB_at hi]
    cases k1 : rdB b i with
    | none =>
      refine ⟨_, (b, ((0 : Int), (true, ()))), rfl, ?_, fun i' x j h => by cases h; rw [k1]; intro h; cases h⟩
      show RS b ((rdB b i).map (·.2)) _
      rw [k1]
      exact ⟨_, rfl, by omega, by omega⟩
    | some p =>
      obtain ⟨d, j⟩ := p
      obtain ⟨r1, r2, r3, _⟩ := rdB_le hb k1
      refine ⟨d, (b, ((j : Int), (false, ()))), rfl, ?_, fun i' x j' h => by cases h; rw [k1]; intro h; cases h; rfl⟩
      show RS b ((rdB b i).map (·.2)) _
      rw [k1]
      exact ⟨rfl, r2⟩

end

theorem rDone_step {b : List Int} {st : Option Nat} {s : RdT} (h : RS b st s) : sol_ref22_Reader_Done (s, ()) = some ((decide (st = some b.length), ()), (s, ())) := by
  unfold sol_ref22_Reader_Done T_ref22_Reader_Done
  cases st with
  | none =>
    obtain ⟨a, rfl, a0, a1⟩ := h
    simp only [Bool.not_true, brR_false]
    rfl
  | some i =>
    obtain ⟨rfl, hi⟩ := h
    simp only [Bool.not_false, brR_true]
    rw [show decide ((i : Int) = (b.length : Int)) = decide (some i = some b.length) from by rw [decide_eq_decide]; simp only [Option.some.injEq]; omega]

/-! ### Decoding -/

abbrev TxT := Int × (Int × (Int × (List Int × (Int × (List Int × (List Int × (Int × (List Int × Unit))))))))

def rawTx (b : List Int) (i : Nat) : Option (TxT × Nat) :=
  (rdU b i 8).bind fun p1 => (rdU b p1.2 8).bind fun p2 => (rdU b p2.2 8).bind fun p3 => (rdU b p3.2 32).bind fun p4 => (rdU b p4.2 8).bind fun p5 =>
    (rdU b p5.2 32).bind fun p6 => (rdU b p6.2 32).bind fun p7 => (rdU b p7.2 8).bind fun p8 => (rdB b p8.2).bind fun p9 =>
      some (((p1.1 : Int), ((p2.1 : Int), ((p3.1 : Int), (lim p4.1, ((p5.1 : Int), (lim p6.1, (lim p7.1, ((p8.1 : Int), (p9.1, ()))))))))), p9.2)

def zeroTx : TxT := ((0 : Int), ((0 : Int), ((0 : Int), ([(0 : Int), (0 : Int), (0 : Int), (0 : Int)], ((0 : Int), ([(0 : Int), (0 : Int), (0 : Int), (0 : Int)], ([(0 : Int), (0 : Int), (0 : Int), (0 : Int)], ((0 : Int), ([], ())))))))))

/-- What decoding gives. -/
def decTx (b : List Int) : TxT × (Int × Unit) :=
  match rawTx b 0 with
  | none => (zeroTx, (3, ()))
  | some (t, j) => if j = b.length then if t.2.2.2.2.2.2.2.2.1.length ≤ 4096 then (t, (0, ())) else (zeroTx, (3, ())) else (zeroTx, (3, ()))

theorem st_some {b : List Int} {most : Nat} {st : Option Nat} {j : Nat} (h : stU b most st = some j) : ∃ i x, st = some i ∧ rdU b i most = some (x, j) := by
  cases st with
  | none => cases h
  | some i =>
    have h : (rdU b i most).map (·.2) = some j := h
    cases hr : rdU b i most with
    | none => rw [hr] at h; cases h
    | some p => rw [hr] at h; cases h; exact ⟨i, p.1, rfl, hr⟩

theorem stB_some {b : List Int} {st : Option Nat} {j : Nat} (h : stB b st = some j) : ∃ i x, st = some i ∧ rdB b i = some (x, j) := by
  cases st with
  | none => cases h
  | some i =>
    have h : (rdB b i).map (·.2) = some j := h
    cases hr : rdB b i with
    | none => rw [hr] at h; cases h
    | some p => rw [hr] at h; cases h; exact ⟨i, p.1, rfl, hr⟩

theorem raw_st (b : List Int) (i : Nat) : (rawTx b i).map (·.2) = stB b (stU b 8 (stU b 32 (stU b 32 (stU b 8 (stU b 32 (stU b 8 (stU b 8 (stU b 8 (some i))))))))) := by
  unfold rawTx stB stU
  simp only [Option.bind_some, Option.map_bind, Function.comp_def, Option.bind_map, Option.bind_assoc, Option.map_some, Option.map_eq_bind]

theorem raw_get {b : List Int} {i j : Nat} {t : TxT} (h : rawTx b i = some (t, j)) : ∃ x1 j1 x2 j2 x3 j3 x4 j4 x5 j5 x6 j6 x7 j7 x8 j8 d, rdU b i 8 = some (x1, j1) ∧ rdU b j1 8 = some (x2, j2) ∧ rdU b j2 8 = some (x3, j3) ∧ rdU b j3 32 = some (x4, j4) ∧
    rdU b j4 8 = some (x5, j5) ∧ rdU b j5 32 = some (x6, j6) ∧ rdU b j6 32 = some (x7, j7) ∧ rdU b j7 8 = some (x8, j8) ∧ rdB b j8 = some (d, j) ∧
    t = ((x1 : Int), ((x2 : Int), ((x3 : Int), (lim x4, ((x5 : Int), (lim x6, (lim x7, ((x8 : Int), (d, ()))))))))) := by
  unfold rawTx at h
  simp only [Option.bind_eq_some_iff] at h
  obtain ⟨⟨x1, j1⟩, q1, ⟨x2, j2⟩, q2, ⟨x3, j3⟩, q3, ⟨x4, j4⟩, q4, ⟨x5, j5⟩, q5, ⟨x6, j6⟩, q6, ⟨x7, j7⟩, q7, ⟨x8, j8⟩, q8, ⟨d, j9⟩, q9, e⟩ := h
  cases e
  exact ⟨x1, j1, x2, j2, x3, j3, x4, j4, x5, j5, x6, j6, x7, j7, x8, j8, d, q1, q2, q3, q4, q5, q6, q7, q8, q9, rfl⟩

theorem stU_at {b : List Int} {most i x j : Nat} (h : rdU b i most = some (x, j)) : stU b most (some i) = some j := by
  show (rdU b i most).map _ = _
  rw [h]; rfl

theorem dec_fin {b : List Int} {v1 v2 v3 v5 v8 : Int} {v4 v6 v7 v9 : List Int}
    (k1 : ∀ i x j, some 0 = some i → rdU b i 8 = some (x, j) → v1 = (x : Int))
    (k2 : ∀ i x j, stU b 8 (some 0) = some i → rdU b i 8 = some (x, j) → v2 = (x : Int))
    (k3 : ∀ i x j, stU b 8 (stU b 8 (some 0)) = some i → rdU b i 8 = some (x, j) → v3 = (x : Int))
    (k4 : ∀ i x j, stU b 8 (stU b 8 (stU b 8 (some 0))) = some i → rdU b i 32 = some (x, j) → v4 = lim x)
    (k5 : ∀ i x j, stU b 32 (stU b 8 (stU b 8 (stU b 8 (some 0)))) = some i → rdU b i 8 = some (x, j) → v5 = (x : Int))
    (k6 : ∀ i x j, stU b 8 (stU b 32 (stU b 8 (stU b 8 (stU b 8 (some 0))))) = some i → rdU b i 32 = some (x, j) → v6 = lim x)
    (k7 : ∀ i x j, stU b 32 (stU b 8 (stU b 32 (stU b 8 (stU b 8 (stU b 8 (some 0)))))) = some i → rdU b i 32 = some (x, j) → v7 = lim x)
    (k8 : ∀ i x j, stU b 32 (stU b 32 (stU b 8 (stU b 32 (stU b 8 (stU b 8 (stU b 8 (some 0))))))) = some i → rdU b i 8 = some (x, j) → v8 = (x : Int))
    (k9 : ∀ i x j, stU b 8 (stU b 32 (stU b 32 (stU b 8 (stU b 32 (stU b 8 (stU b 8 (stU b 8 (some 0)))))))) = some i → rdB b i = some (x, j) → v9 = x) :
    brR (!(decide (stB b (stU b 8 (stU b 32 (stU b 32 (stU b 8 (stU b 32 (stU b 8 (stU b 8 (stU b 8 (some 0))))))))) = some b.length)))
      (some ((zeroTx, ((3 : Int), ())), ((), ())))
      (brR (decide (((v9.length : Nat) : Int) > 4096)) (some ((zeroTx, ((3 : Int), ())), ((), ())))
        (some (((v1, (v2, (v3, (v4, (v5, (v6, (v7, (v8, (v9, ()))))))))), ((0 : Int), ())), ((), ())))) = some (decTx b, ((), ())) := by
  rw [← raw_st]
  simp only [brR_not, brR_dec]
  unfold decTx
  cases hr : rawTx b 0 with
  | none => rw [if_neg (by simp)]
  | some p =>
    obtain ⟨t, j⟩ := p
    obtain ⟨x1, j1, x2, j2, x3, j3, x4, j4, x5, j5, x6, j6, x7, j7, x8, j8, d, q1, q2, q3, q4, q5, q6, q7, q8, q9, rfl⟩ := raw_get hr
    simp only [stU_at q1, stU_at q2, stU_at q3, stU_at q4, stU_at q5, stU_at q6, stU_at q7, stU_at q8] at k2 k3 k4 k5 k6 k7 k8 k9
    obtain rfl := k1 _ _ _ rfl q1
    obtain rfl := k2 _ _ _ rfl q2
    obtain rfl := k3 _ _ _ rfl q3
    obtain rfl := k4 _ _ _ rfl q4
    obtain rfl := k5 _ _ _ rfl q5
    obtain rfl := k6 _ _ _ rfl q6
    obtain rfl := k7 _ _ _ rfl q7
    obtain rfl := k8 _ _ _ rfl q8
    obtain rfl := k9 _ _ _ rfl q9
    simp only [Option.map_some, Option.some.injEq]
    by_cases hj : j = b.length
    · rw [if_pos hj, if_pos hj]
      by_cases hd : v9.length ≤ 4096
      · rw [if_neg (by omega), if_pos hd]
      · rw [if_pos (by omega), if_neg hd]
    · rw [if_neg hj, if_neg hj]

theorem txDecode_eq {b : List Int} (hb : Bytes b) (hl : b.length ≤ 1000000000) : sol_tx_Decode (b, ()) = some (decTx b, ((), ())) := by
  unfold sol_tx_Decode T_tx_Decode
  simp only
  rw [show sol_wirereader_New (b, ()) = some (((b, ((0 : Int), (false, ()))), ()), ((), ())) from rfl]
  simp only [bind_some']
  have h0 : RS b (some 0) (b, ((0 : Int), (false, ()))) := ⟨rfl, Nat.zero_le _⟩
  obtain ⟨v1, s1, e1, h1, k1⟩ := wU64_step hb hl h0
  rw [e1]; simp only [bind_some']
  obtain ⟨v2, s2, e2, h2, k2⟩ := wU64_step hb hl h1
  rw [show (s1.1, (s1.2.1, (s1.2.2.1, s1.2.2.2))) = s1 from rfl, e2]; simp only [bind_some']
  obtain ⟨v3, s3, e3, h3, k3⟩ := wU64_step hb hl h2
  rw [show (s2.1, (s2.2.1, (s2.2.2.1, s2.2.2.2))) = s2 from rfl, e3]; simp only [bind_some']
  obtain ⟨v4, s4, e4, h4, k4⟩ := wU256_step hb hl h3
  rw [show (s3.1, (s3.2.1, (s3.2.2.1, s3.2.2.2))) = s3 from rfl, e4]; simp only [bind_some']
  obtain ⟨v5, s5, e5, h5, k5⟩ := wU64_step hb hl h4
  rw [show (s4.1, (s4.2.1, (s4.2.2.1, s4.2.2.2))) = s4 from rfl, e5]; simp only [bind_some']
  obtain ⟨v6, s6, e6, h6, k6⟩ := wU256_step hb hl h5
  rw [show (s5.1, (s5.2.1, (s5.2.2.1, s5.2.2.2))) = s5 from rfl, e6]; simp only [bind_some']
  obtain ⟨v7, s7, e7, h7, k7⟩ := wU256_step hb hl h6
  rw [show (s6.1, (s6.2.1, (s6.2.2.1, s6.2.2.2))) = s6 from rfl, e7]; simp only [bind_some']
  obtain ⟨v8, s8, e8, h8, k8⟩ := wU64_step hb hl h7
  rw [show (s7.1, (s7.2.1, (s7.2.2.1, s7.2.2.2))) = s7 from rfl, e8]; simp only [bind_some']
  obtain ⟨v9, s9, e9, h9, k9⟩ := wBytes_step hb hl h8
  rw [show (s8.1, (s8.2.1, (s8.2.2.1, s8.2.2.2))) = s8 from rfl, e9]; simp only [bind_some']
  rw [show (s9.1, (s9.2.1, (s9.2.2.1, s9.2.2.2))) = s9 from rfl, wDone_step h9]; simp only [bind_some']
  exact dec_fin k1 k2 k3 k4 k5 k6 k7 k8 k9

theorem rDecode_eq {b : List Int} (hb : Bytes b) (hl : b.length ≤ 1000000000) : sol_ref22_Decode (b, ()) = some (decTx b, ((), ())) := by
  unfold sol_ref22_Decode T_ref22_Decode
  simp only
  have h0 : RS b (some 0) (b, ((0 : Int), (false, ()))) := ⟨rfl, Nat.zero_le _⟩
  obtain ⟨v1, s1, e1, h1, k1⟩ := rU64_step hb hl h0
  rw [e1]; simp only [bind_some']
  obtain ⟨v2, s2, e2, h2, k2⟩ := rU64_step hb hl h1
  rw [show (s1.1, (s1.2.1, (s1.2.2.1, s1.2.2.2))) = s1 from rfl, e2]; simp only [bind_some']
  obtain ⟨v3, s3, e3, h3, k3⟩ := rU64_step hb hl h2
  rw [show (s2.1, (s2.2.1, (s2.2.2.1, s2.2.2.2))) = s2 from rfl, e3]; simp only [bind_some']
  obtain ⟨v4, s4, e4, h4, k4⟩ := rU256_step hb hl h3
  rw [show (s3.1, (s3.2.1, (s3.2.2.1, s3.2.2.2))) = s3 from rfl, e4]; simp only [bind_some']
  obtain ⟨v5, s5, e5, h5, k5⟩ := rU64_step hb hl h4
  rw [show (s4.1, (s4.2.1, (s4.2.2.1, s4.2.2.2))) = s4 from rfl, e5]; simp only [bind_some']
  obtain ⟨v6, s6, e6, h6, k6⟩ := rU256_step hb hl h5
  rw [show (s5.1, (s5.2.1, (s5.2.2.1, s5.2.2.2))) = s5 from rfl, e6]; simp only [bind_some']
  obtain ⟨v7, s7, e7, h7, k7⟩ := rU256_step hb hl h6
  rw [show (s6.1, (s6.2.1, (s6.2.2.1, s6.2.2.2))) = s6 from rfl, e7]; simp only [bind_some']
  obtain ⟨v8, s8, e8, h8, k8⟩ := rU64_step hb hl h7
  rw [show (s7.1, (s7.2.1, (s7.2.2.1, s7.2.2.2))) = s7 from rfl, e8]; simp only [bind_some']
  obtain ⟨v9, s9, e9, h9, k9⟩ := rBytes_step hb hl h8
  rw [show (s8.1, (s8.2.1, (s8.2.2.1, s8.2.2.2))) = s8 from rfl, e9]; simp only [bind_some']
  rw [show (s9.1, (s9.2.1, (s9.2.2.1, s9.2.2.2))) = s9 from rfl, rDone_step h9]; simp only [bind_some']
  exact dec_fin k1 k2 k3 k4 k5 k6 k7 k8 k9

/-! ### Encoding -/

def encTx (t : TxT) : List Int :=
  enc t.1.toNat ++ (enc t.2.1.toNat ++ (enc t.2.2.1.toNat ++ (enc (val4 t.2.2.2.1) ++ (enc t.2.2.2.2.1.toNat ++ (enc (val4 t.2.2.2.2.2.1) ++ (enc (val4 t.2.2.2.2.2.2.1) ++ (enc t.2.2.2.2.2.2.2.1.toNat ++ (enc t.2.2.2.2.2.2.2.2.1.length ++ t.2.2.2.2.2.2.2.2.1))))))))

def U64 (n : Int) : Prop := 0 ≤ n ∧ n ≤ 18446744073709551615

def B256 (n : Nat) : Prop := n < 115792089237316195423570985008687907853269984665640564039457584007913129639936

/-- A transaction as the program's types have it. -/
inductive TxW : TxT → Prop
  | mk {a n o g e : Int} {v f p : Nat} {d : List Int} (ha : U64 a) (hn : U64 n) (ho : U64 o) (hv : B256 v) (hg : U64 g) (hf : B256 f) (hp : B256 p) (he : U64 e) (hd : Bytes d) :
    TxW (a, (n, (o, (lim v, (g, (lim f, (lim p, (e, (d, ())))))))))

def encodeR (t : TxT) : List Int × (Int × Unit) := if t.2.2.2.2.2.2.2.2.1.length ≤ 4096 then (encTx t, (0, ())) else ([], (6, ()))

theorem len_encTx {t : TxT} (h : TxW t) (hd : t.2.2.2.2.2.2.2.2.1.length ≤ 1000000) : 9 ≤ (encTx t).length ∧ (encTx t).length ≤ 1001000 := by
  obtain ⟨ha, hn, ho, hv, hg, hf, hp, he, hdb⟩ := h
  simp only at hd
  unfold encTx
  simp only [List.length_append, len_enc, val4_lim]
  unfold U64 B256 at *
  rename_i a n o g e v f p d
  have := @bylen_64 a.toNat (by omega); have := @bylen_64 n.toNat (by omega); have := @bylen_64 o.toNat (by omega); have := @bylen_64 g.toNat (by omega); have := @bylen_64 e.toNat (by omega); have := @bylen_64 d.length (by omega)
  have := bylen_256 hv; have := bylen_256 hf; have := bylen_256 hp
  omega

theorem txEncode_eq {t : TxT} (h : TxW t) : sol_tx_Encode (t, ()) = some (encodeR t, ((), ())) := by
  obtain ⟨ha, hn, ho, hv, hg, hf, hp, he, hdb⟩ := h
  rename_i a n o g e v f p d
  unfold U64 B256 at *
  have := @bylen_64 a.toNat (by omega); have := @bylen_64 n.toNat (by omega); have := @bylen_64 o.toNat (by omega); have := @bylen_64 g.toNat (by omega); have := @bylen_64 e.toNat (by omega)
  have := bylen_256 hv; have := bylen_256 hf; have := bylen_256 hp
  unfold sol_tx_Encode T_tx_Encode encodeR
  simp only [brR_dec]
  by_cases hc : d.length ≤ 4096
  · rw [if_neg (by omega), if_pos hc]
    have := @bylen_64 d.length (by omega)
    rw [appendUint64_eq (by simp) ha.1 ha.2]; simp only [bind_some']
    rw [appendUint64_eq (by simp [len_enc]; omega) hn.1 hn.2]; simp only [bind_some']
    rw [appendUint64_eq (by simp [len_enc]; omega) ho.1 ho.2]; simp only [bind_some']
    rw [appendUint256_eq (by simp [len_enc]; omega) hv]; simp only [bind_some']
    rw [appendUint64_eq (by simp [len_enc]; omega) hg.1 hg.2]; simp only [bind_some']
    rw [appendUint256_eq (by simp [len_enc]; omega) hf]; simp only [bind_some']
    rw [appendUint256_eq (by simp [len_enc]; omega) hp]; simp only [bind_some']
    rw [appendUint64_eq (by simp [len_enc]; omega) he.1 he.2]; simp only [bind_some']
    rw [appendBytes_eq (by simp [len_enc]; omega) (by omega)]; simp only [bind_some']
    simp only [encTx, val4_lim, List.nil_append, List.append_assoc]
  · rw [if_pos (by omega), if_neg hc]

theorem rEncode_eq {t : TxT} (h : TxW t) : sol_ref22_Encode (t, ()) = some (encodeR t, ((), ())) := by
  obtain ⟨ha, hn, ho, hv, hg, hf, hp, he, hdb⟩ := h
  rename_i a n o g e v f p d
  unfold U64 B256 at *
  have := @bylen_64 a.toNat (by omega); have := @bylen_64 n.toNat (by omega); have := @bylen_64 o.toNat (by omega); have := @bylen_64 g.toNat (by omega); have := @bylen_64 e.toNat (by omega)
  have := bylen_256 hv; have := bylen_256 hf; have := bylen_256 hp
  unfold sol_ref22_Encode T_ref22_Encode encodeR
  simp only [brR_dec]
  by_cases hc : d.length ≤ 4096
  · rw [if_neg (by omega), if_pos hc]
    have := @bylen_64 d.length (by omega)
    rw [rAppendUint64_eq (by simp) ha.1 ha.2]; simp only [bind_some']
    rw [rAppendUint64_eq (by simp [len_enc]; omega) hn.1 hn.2]; simp only [bind_some']
    rw [rAppendUint64_eq (by simp [len_enc]; omega) ho.1 ho.2]; simp only [bind_some']
    rw [rAppendUint256_eq (by simp [len_enc]; omega) hv]; simp only [bind_some']
    rw [rAppendUint64_eq (by simp [len_enc]; omega) hg.1 hg.2]; simp only [bind_some']
    rw [rAppendUint256_eq (by simp [len_enc]; omega) hf]; simp only [bind_some']
    rw [rAppendUint256_eq (by simp [len_enc]; omega) hp]; simp only [bind_some']
    rw [rAppendUint64_eq (by simp [len_enc]; omega) he.1 he.2]; simp only [bind_some']
    rw [rAppendBytes_eq (by simp [len_enc]; omega) (by omega)]; simp only [bind_some']
    simp only [encTx, val4_lim, List.nil_append, List.append_assoc]
  · rw [if_pos (by omega), if_neg hc]

end Go.Pon
/-
  Transactions: decoding inverts encoding.
-/
set_option autoImplicit false
set_option linter.unusedVariables false
set_option linter.unusedSimpArgs false
namespace Go.Pon
open Go

/-- A piece of a list. -/
def seg (b : List Int) (i j : Nat) : List Int := (b.drop i).take (j - i)

theorem seg_app {b : List Int} {i j k : Nat} (h1 : i ≤ j) (h2 : j ≤ k) : seg b i j ++ seg b j k = seg b i k := by
  unfold seg
  rw [show b.drop j = (b.drop i).drop (j - i) by rw [List.drop_drop]; congr 1; omega, show k - i = (j - i) + (k - j) by omega, List.take_add]

theorem rdU_at {L a z : List Int} {n most i : Nat} (hn : n < 256 ^ most) (hm : most ≤ 32) (hL : L = a ++ (enc n ++ z)) (hi : i = a.length) : rdU L i most = some (n, (a ++ enc n).length) := by
  subst hL hi
  rw [rdU_enc hn hm]
  simp [len_enc]; omega

theorem rdB_at {L a z d : List Int} {i : Nat} (hd : d.length ≤ 1000000000) (hL : L = a ++ (enc d.length ++ (d ++ z))) (hi : i = a.length) : rdB L i = some (d, (a ++ (enc d.length ++ d)).length) := by
  unfold rdB
  rw [rdU_at (a := a) (z := d ++ z) (n := d.length) (by omega) (by omega) hL hi]
  simp only
  subst hL
  rw [if_neg (by simp; omega)]
  rw [← List.append_assoc, ← List.append_assoc, List.append_assoc (a ++ enc d.length), List.drop_left' rfl, List.take_left' rfl]
  simp; omega

theorem raw_enc {t : TxT} (h : TxW t) (hd : t.2.2.2.2.2.2.2.2.1.length ≤ 1000000000) (z : List Int) : rawTx (encTx t ++ z) 0 = some (t, (encTx t).length) := by
  obtain ⟨ha, hn, ho, hv, hg, hf, hp, he, hdb⟩ := h
  rename_i a n o g e v f p d
  unfold U64 B256 at *
  simp only at hd
  unfold encTx
  simp only [val4_lim]
  generalize hL : (enc a.toNat ++ (enc n.toNat ++ (enc o.toNat ++ (enc v ++ (enc g.toNat ++ (enc f ++ (enc p ++ (enc e.toNat ++ (enc d.length ++ d)))))))) ++ z) = L
  simp only [List.append_assoc] at hL
  have q1 := rdU_at (L := L) (a := []) (i := 0) (n := a.toNat) (most := 8) (by omega) (by omega) (by rw [← hL]; rfl) rfl
  have q2 := rdU_at (L := L) (a := [] ++ enc a.toNat) (n := n.toNat) (most := 8) (by omega) (by omega) (by rw [← hL]; simp only [List.append_assoc, List.nil_append]; rfl) rfl
  have q3 := rdU_at (L := L) (a := [] ++ enc a.toNat ++ enc n.toNat) (n := o.toNat) (most := 8) (by omega) (by omega) (by rw [← hL]; simp only [List.append_assoc, List.nil_append]; rfl) rfl
  have q4 := rdU_at (L := L) (a := [] ++ enc a.toNat ++ enc n.toNat ++ enc o.toNat) (n := v) (most := 32) (by omega) (by omega) (by rw [← hL]; simp only [List.append_assoc, List.nil_append]; rfl) rfl
  have q5 := rdU_at (L := L) (a := [] ++ enc a.toNat ++ enc n.toNat ++ enc o.toNat ++ enc v) (n := g.toNat) (most := 8) (by omega) (by omega) (by rw [← hL]; simp only [List.append_assoc, List.nil_append]; rfl) rfl
  have q6 := rdU_at (L := L) (a := [] ++ enc a.toNat ++ enc n.toNat ++ enc o.toNat ++ enc v ++ enc g.toNat) (n := f) (most := 32) (by omega) (by omega) (by rw [← hL]; simp only [List.append_assoc, List.nil_append]; rfl) rfl
  have q7 := rdU_at (L := L) (a := [] ++ enc a.toNat ++ enc n.toNat ++ enc o.toNat ++ enc v ++ enc g.toNat ++ enc f) (n := p) (most := 32) (by omega) (by omega) (by rw [← hL]; simp only [List.append_assoc, List.nil_append]; rfl) rfl
  have q8 := rdU_at (L := L) (a := [] ++ enc a.toNat ++ enc n.toNat ++ enc o.toNat ++ enc v ++ enc g.toNat ++ enc f ++ enc p) (n := e.toNat) (most := 8) (by omega) (by omega) (by rw [← hL]; simp only [List.append_assoc, List.nil_append]; rfl) rfl
  have q9 := rdB_at (L := L) (a := [] ++ enc a.toNat ++ enc n.toNat ++ enc o.toNat ++ enc v ++ enc g.toNat ++ enc f ++ enc p ++ enc e.toNat) (d := d) (z := z) hd (by rw [← hL]; simp only [List.append_assoc, List.nil_append]) rfl
  unfold rawTx
  rw [q1]; simp only [Option.bind_some]
  rw [q2]; simp only [Option.bind_some]
  rw [q3]; simp only [Option.bind_some]
  rw [q4]; simp only [Option.bind_some]
  rw [q5]; simp only [Option.bind_some]
  rw [q6]; simp only [Option.bind_some]
  rw [q7]; simp only [Option.bind_some]
  rw [q8]; simp only [Option.bind_some]
  rw [q9]; simp only [Option.bind_some]
  rw [Int.toNat_of_nonneg ha.1, Int.toNat_of_nonneg hn.1, Int.toNat_of_nonneg ho.1, Int.toNat_of_nonneg hg.1, Int.toNat_of_nonneg he.1]
  simp only [List.append_assoc, List.nil_append]

theorem enc_rdB {b : List Int} (hb : Bytes b) (hl : b.length ≤ 1000000000) {i j : Nat} {d : List Int} (h : rdB b i = some (d, j)) : enc d.length ++ d = seg b i j := by
  unfold rdB at h
  cases hr : rdU b i 8 with
  | none => rw [hr] at h; cases h
  | some p =>
    obtain ⟨n, k⟩ := p
    rw [hr] at h
    simp only at h
    obtain ⟨r1, r2, r3, _⟩ := rdU_le hr hb
    split at h
    · cases h
    · cases h
      have hlen : ((b.drop k).take n).length = n := by rw [List.length_take, List.length_drop]; omega
      rw [hlen, enc_rdU hb hr, ← seg_app (i := i) (j := k) (k := k + n) (by omega) (by omega)]
      unfold seg
      rw [show k + n - k = n by omega]

theorem enc_raw {b : List Int} (hb : Bytes b) (hl : b.length ≤ 1000000000) {i j : Nat} {t : TxT} (h : rawTx b i = some (t, j)) : TxW t ∧ encTx t = seg b i j ∧ i < j ∧ j ≤ b.length ∧ t.2.2.2.2.2.2.2.2.1.length ≤ b.length := by
  obtain ⟨x1, j1, x2, j2, x3, j3, x4, j4, x5, j5, x6, j6, x7, j7, x8, j8, d, q1, q2, q3, q4, q5, q6, q7, q8, q9, rfl⟩ := raw_get h
  have l1 := rdU_le q1 hb; have l2 := rdU_le q2 hb; have l3 := rdU_le q3 hb; have l4 := rdU_le q4 hb; have l5 := rdU_le q5 hb; have l6 := rdU_le q6 hb; have l7 := rdU_le q7 hb; have l8 := rdU_le q8 hb
  obtain ⟨l9, l10, l11, l12⟩ := rdB_le hb q9
  have u : ∀ {x : Nat}, x < 256 ^ 8 → U64 (x : Int) := fun {x} h => by
    have h : x < 18446744073709551616 := h
    unfold U64; omega
  have v : ∀ {x : Nat}, x < 256 ^ 32 → B256 x := fun {x} h => h
  refine ⟨.mk (u l1.2.2.1) (u l2.2.2.1) (u l3.2.2.1) (v l4.2.2.1) (u l5.2.2.1) (v l6.2.2.1) (v l7.2.2.1) (u l8.2.2.1) l11, ?_, by omega, l10, l12⟩
  unfold encTx
  simp only [val4_lim, Int.toNat_natCast]
  rw [enc_rdB hb hl q9, enc_rdU hb q1, enc_rdU hb q2, enc_rdU hb q3, enc_rdU hb q4, enc_rdU hb q5, enc_rdU hb q6, enc_rdU hb q7, enc_rdU hb q8]
  show seg b i j1 ++ (seg b j1 j2 ++ (seg b j2 j3 ++ (seg b j3 j4 ++ (seg b j4 j5 ++ (seg b j5 j6 ++ (seg b j6 j7 ++ (seg b j7 j8 ++ seg b j8 j))))))) = _
  rw [seg_app (by omega) (by omega), seg_app (by omega) (by omega), seg_app (by omega) (by omega), seg_app (by omega) (by omega), seg_app (by omega) (by omega), seg_app (by omega) (by omega), seg_app (by omega) (by omega), seg_app (by omega) (by omega)]

/-- What decodes is the encoding of what it decodes to. -/
theorem dec_enc {b : List Int} (hb : Bytes b) (hl : b.length ≤ 1000000000) : (∃ t, TxW t ∧ t.2.2.2.2.2.2.2.2.1.length ≤ 4096 ∧ encTx t = b ∧ decTx b = (t, (0, ()))) ∨ decTx b = (zeroTx, (3, ())) := by
  unfold decTx
  cases h : rawTx b 0 with
  | none => exact .inr rfl
  | some p =>
    obtain ⟨t, j⟩ := p
    obtain ⟨h1, h2, h3, h4, h5⟩ := enc_raw hb hl h
    simp only
    by_cases hj : j = b.length
    · rw [if_pos hj]
      by_cases hd : t.2.2.2.2.2.2.2.2.1.length ≤ 4096
      · rw [if_pos hd]
        refine .inl ⟨t, h1, hd, ?_, rfl⟩
        rw [h2, hj]; unfold seg; simp
      · rw [if_neg hd]; exact .inr rfl
    · rw [if_neg hj]; exact .inr rfl

theorem enc_dec {t : TxT} (h : TxW t) (hd : t.2.2.2.2.2.2.2.2.1.length ≤ 4096) : decTx (encTx t) = (t, (0, ())) := by
  have := raw_enc h (by omega) []
  rw [List.append_nil] at this
  unfold decTx
  rw [this]
  simp only [if_true]
  rw [if_pos hd]

/-- Nothing longer decodes. -/
theorem dec_longer {t : TxT} (h : TxW t) (hd : t.2.2.2.2.2.2.2.2.1.length ≤ 4096) {z : List Int} (hz : z ≠ []) : decTx (encTx t ++ z) = (zeroTx, (3, ())) := by
  have := raw_enc h (by omega) z
  unfold decTx
  rw [this]
  simp only
  have : 0 < z.length := List.length_pos_iff.2 hz
  rw [if_neg (by simp only [List.length_append]; omega)]

theorem bytes_encTx {t : TxT} (h : TxW t) (hd : t.2.2.2.2.2.2.2.2.1.length ≤ 1000000) : Bytes (encTx t) := by
  obtain ⟨ha, hn, ho, hv, hg, hf, hp, he, hdb⟩ := h
  rename_i a n o g e v f p d
  unfold U64 B256 at *
  simp only at hd
  have := @bylen_64 a.toNat (by omega); have := @bylen_64 n.toNat (by omega); have := @bylen_64 o.toNat (by omega); have := @bylen_64 g.toNat (by omega); have := @bylen_64 e.toNat (by omega); have := @bylen_64 d.length (by omega)
  have := bylen_256 hv; have := bylen_256 hf; have := bylen_256 hp
  unfold encTx
  simp only [val4_lim]
  exact (bytes_enc (by omega)).append ((bytes_enc (by omega)).append ((bytes_enc (by omega)).append ((bytes_enc (by omega)).append ((bytes_enc (by omega)).append ((bytes_enc (by omega)).append ((bytes_enc (by omega)).append ((bytes_enc (by omega)).append ((bytes_enc (by omega)).append hdb))))))))

/-- Nothing shorter decodes. -/
theorem dec_shorter {t : TxT} (h : TxW t) (hd : t.2.2.2.2.2.2.2.2.1.length ≤ 4096) {k : Nat} (hk : k < (encTx t).length) : decTx ((encTx t).take k) = (zeroTx, (3, ())) := by
  have hlt := len_encTx h (by omega)
  have hb := (bytes_encTx h (by omega)).take k
  rcases dec_enc hb (by rw [List.length_take]; omega) with ⟨u, hu, hud, hue, _⟩ | h2
  · exfalso
    have r1 := raw_enc h (by omega) []
    have r2 := raw_enc hu (by omega) ((encTx t).drop k)
    rw [hue, List.take_append_drop] at r2
    rw [List.append_nil, r2] at r1
    simp only [Option.some.injEq, Prod.mk.injEq, List.length_take] at r1
    omega
  · exact h2

theorem encTx_inj {t u : TxT} (h : TxW t) (hu : TxW u) (hd : t.2.2.2.2.2.2.2.2.1.length ≤ 1000000000) (hud : u.2.2.2.2.2.2.2.2.1.length ≤ 1000000000) : encTx t = encTx u ↔ t = u := by
  refine ⟨fun e => ?_, fun e => by rw [e]⟩
  have r1 := raw_enc h hd []
  have r2 := raw_enc hu hud []
  rw [e, r2] at r1
  simp only [Option.some.injEq, Prod.mk.injEq] at r1
  exact r1.1.symm

open Classical in
/-- Equality of transactions. -/
noncomputable def eqTx (t u : TxT) : Bool := decide (t = u)

theorem eqTx_iff {t u : TxT} : eqTx t u = true ↔ t = u := by unfold eqTx; simp only [decide_eq_true_eq]
theorem eqTx_ne {t u : TxT} (h : ¬ t = u) : eqTx t u = false := by unfold eqTx; simp only [decide_eq_false_iff_not]; exact h
theorem eqTx_self (t : TxT) : eqTx t t = true := eqTx_iff.2 rfl

/-- Equality as the reference has it. -/
theorem rEqual_eq {t u : TxT} : sol_ref22_Equal (t, (u, ())) = some ((eqTx t u, ()), ((), ((), ()))) := by
  obtain ⟨a, n, o, v, g, f, p, e, d, _⟩ := t
  obtain ⟨a', n', o', v', g', f', p', e', d', _⟩ := u
  unfold sol_ref22_Equal T_ref22_Equal
  simp only [brR_dec, brR_eqD]
  by_cases h1 : a = a'
  case neg => rw [if_neg h1, eqTx_ne (by rintro ⟨⟩; exact h1 rfl)]
  by_cases h2 : n = n'
  case neg => rw [if_pos h1, if_neg h2, eqTx_ne (by rintro ⟨⟩; exact h2 rfl)]
  by_cases h3 : o = o'
  case neg => rw [if_pos h1, if_pos h2, if_neg h3, eqTx_ne (by rintro ⟨⟩; exact h3 rfl)]
  by_cases h4 : v = v'
  case neg => rw [if_pos h1, if_pos h2, if_pos h3, if_neg h4, eqTx_ne (by rintro ⟨⟩; exact h4 rfl)]
  by_cases h5 : g = g'
  case neg => rw [if_pos h1, if_pos h2, if_pos h3, if_pos h4, if_neg h5, eqTx_ne (by rintro ⟨⟩; exact h5 rfl)]
  by_cases h6 : f = f'
  case neg => rw [if_pos h1, if_pos h2, if_pos h3, if_pos h4, if_pos h5, if_neg h6, eqTx_ne (by rintro ⟨⟩; exact h6 rfl)]
  by_cases h7 : p = p'
  case neg => rw [if_pos h1, if_pos h2, if_pos h3, if_pos h4, if_pos h5, if_pos h6, if_neg h7, eqTx_ne (by rintro ⟨⟩; exact h7 rfl)]
  by_cases h8 : e = e'
  case neg => rw [if_pos h1, if_pos h2, if_pos h3, if_pos h4, if_pos h5, if_pos h6, if_pos h7, if_neg h8, eqTx_ne (by rintro ⟨⟩; exact h8 rfl)]
  rw [if_pos h1, if_pos h2, if_pos h3, if_pos h4, if_pos h5, if_pos h6, if_pos h7, if_pos h8]
  subst h1 h2 h3 h4 h5 h6 h7 h8
  have e0 : eqD Ty.str d d' = eqTx (a, (n, (o, (v, (g, (f, (p, (e, (d, ()))))))))) (a, (n, (o, (v, (g, (f, (p, (e, (d', ()))))))))) := by
    rw [Bool.eq_iff_iff, eqTx_iff, eqD_iff]
    constructor
    · intro h; rw [show d = d' from h]
    · rintro ⟨⟩; rfl
  rw [e0]

/-- A transaction of the program's types. -/
theorem tx_wf {t : TxT} (h : (Ty.pair (.int .u64) (.pair (.int .u64) (.pair (.int .u64) (.pair (.arr 4 (.int .u64)) (.pair (.int .u64) (.pair (.arr 4 (.int .u64)) (.pair (.arr 4 (.int .u64)) (.pair (.int .u64) (.pair (.slice (.int .u8)) .unit))))))))).wf t) : TxW t := by
  obtain ⟨a, n, o, v, g, f, p, e, d, _⟩ := t
  obtain ⟨h1, h2, h3, h4, h5, h6, h7, h8, h9, _⟩ := h
  obtain ⟨v, hv, rfl⟩ := u256_wf h4
  obtain ⟨f, hf, rfl⟩ := u256_wf h6
  obtain ⟨p, hp, rfl⟩ := u256_wf h7
  exact .mk (inK_u64.1 h1) (inK_u64.1 h2) (inK_u64.1 h3) hv (inK_u64.1 h5) hf hp (inK_u64.1 h8) (bytes_wf h9)

end Go.Pon
/-
  SHA-256, plainly, on natural numbers.
-/
set_option autoImplicit false
set_option linter.unusedVariables false
set_option linter.unusedSimpArgs false
namespace Go.Pon
open Go

def xor32 (x y : Nat) : Nat := (x % 4294967296) ^^^ (y % 4294967296)
def and32 (x y : Nat) : Nat := (x % 4294967296) &&& (y % 4294967296)
def or32 (x y : Nat) : Nat := (x % 4294967296) ||| (y % 4294967296)
def add32 (x y : Nat) : Nat := (x + y) % 4294967296
def rotr (x n : Nat) : Nat := or32 (x * 2 ^ (32 - n) % 4294967296) (x / 2 ^ n)

theorem xor32_lt (x y : Nat) : xor32 x y < 4294967296 := Nat.xor_lt_two_pow (n := 32) (Nat.mod_lt _ (by omega)) (Nat.mod_lt _ (by omega))
theorem and32_lt (x y : Nat) : and32 x y < 4294967296 := Nat.and_lt_two_pow (n := 32) _ (Nat.mod_lt _ (by omega))
theorem or32_lt (x y : Nat) : or32 x y < 4294967296 := Nat.or_lt_two_pow (n := 32) (Nat.mod_lt _ (by omega)) (Nat.mod_lt _ (by omega))
theorem add32_lt (x y : Nat) : add32 x y < 4294967296 := Nat.mod_lt _ (by omega)
theorem or32_comm (x y : Nat) : or32 x y = or32 y x := Nat.or_comm _ _
theorem add32_assoc (x y z : Nat) : add32 (add32 x y) z = add32 x (add32 y z) := by unfold add32; omega

theorem wu32_nat (x : Nat) : IntKind.wrap .u32 ((x : Nat) : Int) = ((x % 4294967296 : Nat) : Int) := by rw [IntKind.wrap_u32]; omega
theorem x32 (x y : Nat) : IntKind.wrap .u32 ((BitVec.toNat (BitVec.ofInt 32 ((x : Nat) : Int) ^^^ BitVec.ofInt 32 ((y : Nat) : Int)) : Nat) : Int) = ((xor32 x y : Nat) : Int) := by
  rw [BitVec.toNat_xor, BitVec.ofInt_natCast, BitVec.ofInt_natCast, BitVec.toNat_ofNat, BitVec.toNat_ofNat, wu32_nat, ← Nat.mod_eq_of_lt (xor32_lt x y)]; rfl
theorem n32 (x y : Nat) : IntKind.wrap .u32 ((BitVec.toNat (BitVec.ofInt 32 ((x : Nat) : Int) &&& BitVec.ofInt 32 ((y : Nat) : Int)) : Nat) : Int) = ((and32 x y : Nat) : Int) := by
  rw [BitVec.toNat_and, BitVec.ofInt_natCast, BitVec.ofInt_natCast, BitVec.toNat_ofNat, BitVec.toNat_ofNat, wu32_nat, ← Nat.mod_eq_of_lt (and32_lt x y)]; rfl
theorem o32 (x y : Nat) : IntKind.wrap .u32 ((BitVec.toNat (BitVec.ofInt 32 ((x : Nat) : Int) ||| BitVec.ofInt 32 ((y : Nat) : Int)) : Nat) : Int) = ((or32 x y : Nat) : Int) := by
  rw [BitVec.toNat_or, BitVec.ofInt_natCast, BitVec.ofInt_natCast, BitVec.toNat_ofNat, BitVec.toNat_ofNat, wu32_nat, ← Nat.mod_eq_of_lt (or32_lt x y)]; rfl
theorem a32 (x y : Nat) : IntKind.wrap .u32 (((x : Nat) : Int) + ((y : Nat) : Int)) = ((add32 x y : Nat) : Int) := by rw [← Int.natCast_add, wu32_nat]; rfl
theorem m32 (x c : Nat) : IntKind.wrap .u32 (((x : Nat) : Int) * ((c : Nat) : Int)) = ((x * c % 4294967296 : Nat) : Int) := by rw [← Int.natCast_mul, wu32_nat]
theorem d32 (x c : Nat) : Int.fdiv ((x : Nat) : Int) ((c : Nat) : Int) = ((x / c : Nat) : Int) := by rw [Int.fdiv_eq_ediv_of_nonneg _ (Int.natCast_nonneg _)]; rfl

def sig (r1 r2 s x : Nat) : Nat := xor32 (xor32 (rotr x r1) (rotr x r2)) (x / s)
def sum3 (r1 r2 r3 x : Nat) : Nat := xor32 (xor32 (rotr x r1) (rotr x r2)) (rotr x r3)

/-- The word at place i of a block of bytes. -/
def word (b : List Int) (i : Nat) : Nat := (b.getD (4 * i) 0).toNat * 16777216 + (b.getD (4 * i + 1) 0).toNat * 65536 + (b.getD (4 * i + 2) 0).toNat * 256 + (b.getD (4 * i + 3) 0).toNat

def nextW (l : List Nat) (i : Nat) : Nat := add32 (add32 (add32 (l.getD (i - 16) 0) (sig 7 18 8 (l.getD (i - 15) 0))) (l.getD (i - 7) 0)) (sig 17 19 1024 (l.getD (i - 2) 0))

/-- The first i words of the schedule. -/
def sched (b : List Int) : Nat → List Nat
  | 0 => []
  | i + 1 => sched b i ++ [if i < 16 then word b i else nextW (sched b i) i]

def kTab : List Nat := [
  0x428a2f98, 0x71374491, 0xb5c0fbcf, 0xe9b5dba5, 0x3956c25b, 0x59f111f1, 0x923f82a4, 0xab1c5ed5,
  0xd807aa98, 0x12835b01, 0x243185be, 0x550c7dc3, 0x72be5d74, 0x80deb1fe, 0x9bdc06a7, 0xc19bf174,
  0xe49b69c1, 0xefbe4786, 0x0fc19dc6, 0x240ca1cc, 0x2de92c6f, 0x4a7484aa, 0x5cb0a9dc, 0x76f988da,
  0x983e5152, 0xa831c66d, 0xb00327c8, 0xbf597fc7, 0xc6e00bf3, 0xd5a79147, 0x06ca6351, 0x14292967,
  0x27b70a85, 0x2e1b2138, 0x4d2c6dfc, 0x53380d13, 0x650a7354, 0x766a0abb, 0x81c2c92e, 0x92722c85,
  0xa2bfe8a1, 0xa81a664b, 0xc24b8b70, 0xc76c51a3, 0xd192e819, 0xd6990624, 0xf40e3585, 0x106aa070,
  0x19a4c116, 0x1e376c08, 0x2748774c, 0x34b0bcb5, 0x391c0cb3, 0x4ed8aa4a, 0x5b9cca4f, 0x682e6ff3,
  0x748f82ee, 0x78a5636f, 0x84c87814, 0x8cc70208, 0x90befffa, 0xa4506ceb, 0xbef9a3f7, 0xc67178f2]

def iv : List Nat := [0x6a09e667, 0xbb67ae85, 0x3c6ef372, 0xa54ff53a, 0x510e527f, 0x9b05688c, 0x1f83d9ab, 0x5be0cd19]

/-- One round, with the round's constant and word. -/
def rnd (t : List Nat) (k w : Nat) : List Nat :=
  let a := t.getD 0 0; let b := t.getD 1 0; let c := t.getD 2 0; let e := t.getD 4 0; let f := t.getD 5 0; let g := t.getD 6 0
  let p := add32 (add32 (add32 (add32 (t.getD 7 0) (sum3 6 11 25 e)) (xor32 (and32 e f) (and32 (xor32 4294967295 e) g))) k) w
  [add32 (add32 p (sum3 2 13 22 a)) (xor32 (xor32 (and32 a b) (and32 a c)) (and32 b c)), a, b, c, add32 (t.getD 3 0) p, e, f, g]

def rounds (w s : List Nat) : Nat → List Nat
  | 0 => s
  | i + 1 => rnd (rounds w s i) (kTab.getD i 0) (w.getD i 0)

def addL (t s : List Nat) (i : Nat) : List Nat := (List.range 8).map fun j => if j < i then add32 (t.getD j 0) (s.getD j 0) else t.getD j 0

/-- The state after a block. -/
def comp (s : List Nat) (b : List Int) : List Nat := addL (rounds (sched b 64) s 64) s 8

/-- The state after so many blocks of a message. -/
def states (m : List Int) : Nat → List Nat
  | 0 => iv
  | i + 1 => comp (states m i) ((m.drop (64 * i)).take 64)

/-- The padded message. -/
def padded (b : List Int) : List Int := b ++ 128 :: (List.replicate ((119 - b.length % 64) % 64) 0 ++ beB 8 (b.length * 8))

def shaOut (s : List Nat) : List Int := (List.range 32).map fun i => ((s.getD (i / 4) 0 / 2 ^ (24 - 8 * (i % 4)) % 256 : Nat) : Int)

/-- The hash. -/
def sha (b : List Int) : List Int := shaOut (states (padded b) ((padded b).length / 64))

theorem len_sha (b : List Int) : (sha b).length = 32 := by simp [sha, shaOut]
theorem bytes_sha (b : List Int) : Bytes (sha b) := by
  intro x hx
  simp only [sha, shaOut, List.mem_map] at hx
  obtain ⟨i, _, rfl⟩ := hx
  omega

set_option maxRecDepth 100000 in
theorem sha_nil : sha [] = [0xe3, 0xb0, 0xc4, 0x42, 0x98, 0xfc, 0x1c, 0x14, 0x9a, 0xfb, 0xf4, 0xc8, 0x99, 0x6f, 0xb9, 0x24, 0x27, 0xae, 0x41, 0xe4, 0x64, 0x9b, 0x93, 0x4c, 0xa4, 0x95, 0x99, 0x1b, 0x78, 0x52, 0xb8, 0x55] := by kernel_rfl

set_option maxRecDepth 100000 in
theorem sha_abc : sha [97, 98, 99] = [0xba, 0x78, 0x16, 0xbf, 0x8f, 0x01, 0xcf, 0xea, 0x41, 0x41, 0x40, 0xde, 0x5d, 0xae, 0x22, 0x23, 0xb0, 0x03, 0x61, 0xa3, 0x96, 0x17, 0x7a, 0x9c, 0xb4, 0x10, 0xff, 0x61, 0xf2, 0x00, 0x15, 0xad] := by kernel_rfl

end Go.Pon
/-
  What the functions of package hash compute (printed by a program of this work).
-/
set_option autoImplicit false
set_option linter.unusedVariables false
set_option maxRecDepth 100000
namespace Go.Pon
open Go

/-- pontage/hash.Format -/
abbrev s_hash_Format : Sig := ⟨[(.ro true (.arr 32 (.int .u8)))], [(.ro true .str)]⟩
abbrev F_hash_Format := ((List Int) × Unit) → Option (((List Int) × Unit) × (Unit × Unit))

noncomputable def T_hash_Format_loop0 (again_0 : ((List Int) × ((List Int) × (Int × Unit))) → Option (((List Int) × Unit) × (Unit × Unit))) (out_1 : (List Int)) (t6_2 : (List Int)) (t7_3 : Int) : Option (((List Int) × Unit) × (Unit × Unit)) :=
  (letR (Go.IntKind.wrap (Go.IntKind.u8) (((BitVec.toNat ((BitVec.ofInt (8 : Nat) (List.getD t6_2 (Int.toNat t7_3) (0 : Int))) &&& (BitVec.ofInt (8 : Nat) (15 : Int)))) : Nat) : Int)) fun (v_4 : Int) =>
  (brR (decide (t7_3 < (32 : Int)))
   (brR (Go.Pon.inR t7_3 (32 : Nat))
    (brR (Go.Pon.inR (Int.fdiv (List.getD t6_2 (Int.toNat t7_3) (0 : Int)) (16 : Int)) (16 : Nat))
     (brR (Go.Pon.inR v_4 (16 : Nat))
      (brR (Go.Pon.roomy ((List.length out_1) + (2 : Nat)) (Go.Pon.Ty.int Go.IntKind.u8))
       (again_0 ((List.append out_1 [(List.getD [(48 : Int), (49 : Int), (50 : Int), (51 : Int), (52 : Int), (53 : Int), (54 : Int), (55 : Int), (56 : Int), (57 : Int), (97 : Int), (98 : Int), (99 : Int), (100 : Int), (101 : Int), (102 : Int)] (Int.toNat (Int.fdiv (List.getD t6_2 (Int.toNat t7_3) (0 : Int)) (16 : Int))) (0 : Int)), (List.getD [(48 : Int), (49 : Int), (50 : Int), (51 : Int), (52 : Int), (53 : Int), (54 : Int), (55 : Int), (56 : Int), (57 : Int), (97 : Int), (98 : Int), (99 : Int), (100 : Int), (101 : Int), (102 : Int)] (Int.toNat v_4) (0 : Int))]), (t6_2, ((Go.IntKind.wrap (Go.IntKind.i64) (t7_3 + (1 : Int))), ()))))
       none)
      none)
     none)
    none)
   (some ((out_1, ()), ((), ())))))

noncomputable def T_hash_Format (L : LoopD) (h_ : (List Int)) : Option (((List Int) × Unit) × (Unit × Unit)) :=
  (L _ _ (fun again x => T_hash_Format_loop0 again x.1 x.2.1 x.2.2.1) (([] : List Int), (h_, ((0 : Int), ()))))

noncomputable def sol_hash_Format : F_hash_Format := fun x => T_hash_Format bigLoop x.1

/-- pontage/hash.roundConstants -/
abbrev s_hash_roundConstants : Sig := ⟨[], [(.ro true (.arr 64 (.int .u32)))]⟩
abbrev F_hash_roundConstants := Unit → Option (((List Int) × Unit) × Unit)

noncomputable def T_hash_roundConstants (L : LoopD) : Option (((List Int) × Unit) × Unit) :=
  (some (((List.set (List.set (List.set (List.set (List.set (List.set (List.set (List.set (List.set (List.set (List.set (List.set (List.set (List.set (List.set (List.set (List.set (List.set (List.set (List.set (List.set (List.set (List.set (List.set (List.set (List.set (List.set (List.set (List.set (List.set (List.set (List.set (List.set (List.set (List.set (List.set (List.set (List.set (List.set (List.set (List.set (List.set (List.set (List.set (List.set (List.set (List.set (List.set (List.set (List.set (List.set (List.set (List.set (List.set (List.set (List.set (List.set (List.set (List.set (List.set (List.set (List.set (List.set (List.set (List.replicate (64 : Nat) (0 : Int)) (0 : Nat) (1116352408 : Int)) (1 : Nat) (1899447441 : Int)) (2 : Nat) (3049323471 : Int)) (3 : Nat) (3921009573 : Int)) (4 : Nat) (961987163 : Int)) (5 : Nat) (1508970993 : Int)) (6 : Nat) (2453635748 : Int)) (7 : Nat) (2870763221 : Int)) (8 : Nat) (3624381080 : Int)) (9 : Nat) (310598401 : Int)) (10 : Nat) (607225278 : Int)) (11 : Nat) (1426881987 : Int)) (12 : Nat) (1925078388 : Int)) (13 : Nat) (2162078206 : Int)) (14 : Nat) (2614888103 : Int)) (15 : Nat) (3248222580 : Int)) (16 : Nat) (3835390401 : Int)) (17 : Nat) (4022224774 : Int)) (18 : Nat) (264347078 : Int)) (19 : Nat) (604807628 : Int)) (20 : Nat) (770255983 : Int)) (21 : Nat) (1249150122 : Int)) (22 : Nat) (1555081692 : Int)) (23 : Nat) (1996064986 : Int)) (24 : Nat) (2554220882 : Int)) (25 : Nat) (2821834349 : Int)) (26 : Nat) (2952996808 : Int)) (27 : Nat) (3210313671 : Int)) (28 : Nat) (3336571891 : Int)) (29 : Nat) (3584528711 : Int)) (30 : Nat) (113926993 : Int)) (31 : Nat) (338241895 : Int)) (32 : Nat) (666307205 : Int)) (33 : Nat) (773529912 : Int)) (34 : Nat) (1294757372 : Int)) (35 : Nat) (1396182291 : Int)) (36 : Nat) (1695183700 : Int)) (37 : Nat) (1986661051 : Int)) (38 : Nat) (2177026350 : Int)) (39 : Nat) (2456956037 : Int)) (40 : Nat) (2730485921 : Int)) (41 : Nat) (2820302411 : Int)) (42 : Nat) (3259730800 : Int)) (43 : Nat) (3345764771 : Int)) (44 : Nat) (3516065817 : Int)) (45 : Nat) (3600352804 : Int)) (46 : Nat) (4094571909 : Int)) (47 : Nat) (275423344 : Int)) (48 : Nat) (430227734 : Int)) (49 : Nat) (506948616 : Int)) (50 : Nat) (659060556 : Int)) (51 : Nat) (883997877 : Int)) (52 : Nat) (958139571 : Int)) (53 : Nat) (1322822218 : Int)) (54 : Nat) (1537002063 : Int)) (55 : Nat) (1747873779 : Int)) (56 : Nat) (1955562222 : Int)) (57 : Nat) (2024104815 : Int)) (58 : Nat) (2227730452 : Int)) (59 : Nat) (2361852424 : Int)) (60 : Nat) (2428436474 : Int)) (61 : Nat) (2756734187 : Int)) (62 : Nat) (3204031479 : Int)) (63 : Nat) (3329325298 : Int)), ()), ()))

noncomputable def sol_hash_roundConstants : F_hash_roundConstants := fun x => T_hash_roundConstants bigLoop

/-- pontage/hash.schedule -/
abbrev s_hash_schedule : Sig := ⟨[(.ro false (.slice (.int .u8)))], [(.ro true (.arr 64 (.int .u32)))]⟩
abbrev F_hash_schedule := ((List Int) × Unit) → Option (((List Int) × Unit) × (Unit × Unit))

noncomputable def T_hash_schedule_loop1 (c_math_bits_RotateLeft32 : F_math_bits_RotateLeft32) (again_9 : ((List Int) × ((List Int) × (Int × Unit))) → Option (((List Int) × Unit) × (Unit × Unit))) (t2_10 : (List Int)) (w_11 : (List Int)) (i_12 : Int) : Option (((List Int) × Unit) × (Unit × Unit)) :=
  (letR (Go.IntKind.wrap (Go.IntKind.i64) (i_12 - (15 : Int))) fun (v_13 : Int) =>
  (letR (Go.IntKind.wrap (Go.IntKind.i64) (i_12 - (2 : Int))) fun (v_14 : Int) =>
  (letR (Go.IntKind.wrap (Go.IntKind.i64) (i_12 - (16 : Int))) fun (v_15 : Int) =>
  (letR (Go.IntKind.wrap (Go.IntKind.i64) (i_12 - (7 : Int))) fun (v_16 : Int) =>
  (letR (List.getD w_11 (Int.toNat v_13) (0 : Int)) fun (v_17 : Int) =>
  (letR (List.getD w_11 (Int.toNat v_14) (0 : Int)) fun (v_18 : Int) =>
  (brR (decide (i_12 < (64 : Int)))
   (brR (Go.Pon.inR v_13 (64 : Nat))
    (brR (Go.Pon.inR v_14 (64 : Nat))
     (Option.bind (c_math_bits_RotateLeft32 (v_17, ((-7 : Int), ()))) (fun (y_19 : ((Int × Unit) × (Unit × (Unit × Unit)))) =>
      (Option.bind (c_math_bits_RotateLeft32 (v_17, ((-18 : Int), ()))) (fun (y_20 : ((Int × Unit) × (Unit × (Unit × Unit)))) =>
       (Option.bind (c_math_bits_RotateLeft32 (v_18, ((-17 : Int), ()))) (fun (y_21 : ((Int × Unit) × (Unit × (Unit × Unit)))) =>
        (Option.bind (c_math_bits_RotateLeft32 (v_18, ((-19 : Int), ()))) (fun (y_22 : ((Int × Unit) × (Unit × (Unit × Unit)))) =>
         (brR (Go.Pon.inR v_15 (64 : Nat))
          (brR (Go.Pon.inR v_16 (64 : Nat))
           (brR (Go.Pon.inR i_12 (64 : Nat))
            (again_9 (t2_10, ((List.set w_11 (Int.toNat i_12) (Go.IntKind.wrap (Go.IntKind.u32) ((Go.IntKind.wrap (Go.IntKind.u32) ((Go.IntKind.wrap (Go.IntKind.u32) ((List.getD w_11 (Int.toNat v_15) (0 : Int)) + (Go.IntKind.wrap (Go.IntKind.u32) (((BitVec.toNat ((BitVec.ofInt (32 : Nat) (Go.IntKind.wrap (Go.IntKind.u32) (((BitVec.toNat ((BitVec.ofInt (32 : Nat) y_19.1.1) ^^^ (BitVec.ofInt (32 : Nat) y_20.1.1))) : Nat) : Int))) ^^^ (BitVec.ofInt (32 : Nat) (Int.fdiv v_17 (8 : Int))))) : Nat) : Int)))) + (List.getD w_11 (Int.toNat v_16) (0 : Int)))) + (Go.IntKind.wrap (Go.IntKind.u32) (((BitVec.toNat ((BitVec.ofInt (32 : Nat) (Go.IntKind.wrap (Go.IntKind.u32) (((BitVec.toNat ((BitVec.ofInt (32 : Nat) y_21.1.1) ^^^ (BitVec.ofInt (32 : Nat) y_22.1.1))) : Nat) : Int))) ^^^ (BitVec.ofInt (32 : Nat) (Int.fdiv v_18 (1024 : Int))))) : Nat) : Int))))), ((Go.IntKind.wrap (Go.IntKind.i64) (i_12 + (1 : Int))), ()))))
            none)
           none)
          none)))))))))
     none)
    none)
   (some ((w_11, ()), ((), ()))))))))))

noncomputable def T_hash_schedule_loop0 (L : LoopD) (c_math_bits_RotateLeft32 : F_math_bits_RotateLeft32) (again_0 : ((List Int) × ((List Int) × ((List Int) × (Int × Unit)))) → Option (((List Int) × Unit) × (Unit × Unit))) (b_1 : (List Int)) (t2_2 : (List Int)) (w_3 : (List Int)) (t10_4 : Int) : Option (((List Int) × Unit) × (Unit × Unit)) :=
  (letR (Go.IntKind.wrap (Go.IntKind.i64) ((4 : Int) * t10_4)) fun (v_5 : Int) =>
  (letR (Go.IntKind.wrap (Go.IntKind.i64) (v_5 + (1 : Int))) fun (v_6 : Int) =>
  (letR (Go.IntKind.wrap (Go.IntKind.i64) (v_5 + (2 : Int))) fun (v_7 : Int) =>
  (letR (Go.IntKind.wrap (Go.IntKind.i64) (v_5 + (3 : Int))) fun (v_8 : Int) =>
  (brR (decide (t10_4 < (16 : Int)))
   (brR (Go.Pon.inR v_5 (List.length b_1))
    (brR (Go.Pon.inR v_6 (List.length b_1))
     (brR (Go.Pon.inR v_7 (List.length b_1))
      (brR (Go.Pon.inR v_8 (List.length b_1))
       (brR (Go.Pon.inR t10_4 (64 : Nat))
        (again_0 (b_1, (t2_2, ((List.set w_3 (Int.toNat t10_4) (Go.IntKind.wrap (Go.IntKind.u32) (((BitVec.toNat ((BitVec.ofInt (32 : Nat) (Go.IntKind.wrap (Go.IntKind.u32) (((BitVec.toNat ((BitVec.ofInt (32 : Nat) (Go.IntKind.wrap (Go.IntKind.u32) (((BitVec.toNat ((BitVec.ofInt (32 : Nat) (Go.IntKind.wrap (Go.IntKind.u32) ((Go.IntKind.wrap (Go.IntKind.u32) (List.getD b_1 (Int.toNat v_5) (0 : Int))) * (16777216 : Int)))) ||| (BitVec.ofInt (32 : Nat) (Go.IntKind.wrap (Go.IntKind.u32) ((Go.IntKind.wrap (Go.IntKind.u32) (List.getD b_1 (Int.toNat v_6) (0 : Int))) * (65536 : Int)))))) : Nat) : Int))) ||| (BitVec.ofInt (32 : Nat) (Go.IntKind.wrap (Go.IntKind.u32) ((Go.IntKind.wrap (Go.IntKind.u32) (List.getD b_1 (Int.toNat v_7) (0 : Int))) * (256 : Int)))))) : Nat) : Int))) ||| (BitVec.ofInt (32 : Nat) (Go.IntKind.wrap (Go.IntKind.u32) (List.getD b_1 (Int.toNat v_8) (0 : Int)))))) : Nat) : Int))), ((Go.IntKind.wrap (Go.IntKind.i64) (t10_4 + (1 : Int))), ())))))
        none)
       none)
      none)
     none)
    none)
   (L _ _ (fun again x => T_hash_schedule_loop1 c_math_bits_RotateLeft32 again x.1 x.2.1 x.2.2.1) (t2_2, (w_3, ((16 : Int), ())))))))))

noncomputable def T_hash_schedule (L : LoopD) (c_math_bits_RotateLeft32 : F_math_bits_RotateLeft32) (b_ : (List Int)) : Option (((List Int) × Unit) × (Unit × Unit)) :=
  (L _ _ (fun again x => T_hash_schedule_loop0 L c_math_bits_RotateLeft32 again x.1 x.2.1 x.2.2.1 x.2.2.2.1) (b_, ((List.replicate (64 : Nat) (0 : Int)), ((List.replicate (64 : Nat) (0 : Int)), ((0 : Int), ())))))

noncomputable def sol_hash_schedule : F_hash_schedule := fun x => T_hash_schedule bigLoop sol_math_bits_RotateLeft32 x.1

/-- pontage/hash.compress -/
abbrev s_hash_compress : Sig := ⟨[(.ro true (.arr 8 (.int .u32))), (.ro true (.arr 64 (.int .u32))), (.ro true (.arr 64 (.int .u32)))], [(.ro true (.arr 8 (.int .u32)))]⟩
abbrev F_hash_compress := ((List Int) × ((List Int) × ((List Int) × Unit))) → Option (((List Int) × Unit) × (Unit × (Unit × (Unit × Unit))))

noncomputable def T_hash_compress_loop1 (again_22 : ((List Int) × ((List Int) × ((List Int) × (Int × Unit)))) → Option (((List Int) × Unit) × (Unit × (Unit × (Unit × Unit))))) (s_23 : (List Int)) (t6_24 : (List Int)) (t_25 : (List Int)) (t103_26 : Int) : Option (((List Int) × Unit) × (Unit × (Unit × (Unit × Unit)))) :=
  (brR (decide (t103_26 < (8 : Int)))
   (brR (Go.Pon.inR t103_26 (8 : Nat))
    (brR (Go.Pon.inR t103_26 (8 : Nat))
     (brR (Go.Pon.inR t103_26 (8 : Nat))
      (again_22 (s_23, (t6_24, ((List.set t_25 (Int.toNat t103_26) (Go.IntKind.wrap (Go.IntKind.u32) ((List.getD t_25 (Int.toNat t103_26) (0 : Int)) + (List.getD s_23 (Int.toNat t103_26) (0 : Int))))), ((Go.IntKind.wrap (Go.IntKind.i64) (t103_26 + (1 : Int))), ())))))
      none)
     none)
    none)
   (some ((t_25, ()), ((), ((), ((), ()))))))

noncomputable def T_hash_compress_loop0 (L : LoopD) (c_math_bits_RotateLeft32 : F_math_bits_RotateLeft32) (again_0 : ((List Int) × ((List Int) × ((List Int) × ((List Int) × ((List Int) × (Int × Unit)))))) → Option (((List Int) × Unit) × (Unit × (Unit × (Unit × Unit))))) (s_1 : (List Int)) (w_2 : (List Int)) (k_3 : (List Int)) (t6_4 : (List Int)) (t_5 : (List Int)) (t18_6 : Int) : Option (((List Int) × Unit) × (Unit × (Unit × (Unit × Unit)))) :=
  (letR (List.getD t_5 (4 : Nat) (0 : Int)) fun (v_7 : Int) =>
  (letR (List.getD t_5 (0 : Nat) (0 : Int)) fun (v_8 : Int) =>
  (letR (List.getD t_5 (7 : Nat) (0 : Int)) fun (v_9 : Int) =>
  (letR (List.getD t_5 (5 : Nat) (0 : Int)) fun (v_10 : Int) =>
  (letR (List.getD t_5 (6 : Nat) (0 : Int)) fun (v_11 : Int) =>
  (letR (List.getD t_5 (1 : Nat) (0 : Int)) fun (v_12 : Int) =>
  (letR (List.getD t_5 (2 : Nat) (0 : Int)) fun (v_13 : Int) =>
  (letR (Go.IntKind.wrap (Go.IntKind.u32) (((BitVec.toNat ((BitVec.ofInt (32 : Nat) (Go.IntKind.wrap (Go.IntKind.u32) (((BitVec.toNat ((BitVec.ofInt (32 : Nat) v_7) &&& (BitVec.ofInt (32 : Nat) v_10))) : Nat) : Int))) ^^^ (BitVec.ofInt (32 : Nat) (Go.IntKind.wrap (Go.IntKind.u32) (((BitVec.toNat ((BitVec.ofInt (32 : Nat) (Go.IntKind.wrap (Go.IntKind.u32) (((BitVec.toNat ((BitVec.ofInt (32 : Nat) (4294967295 : Int)) ^^^ (BitVec.ofInt (32 : Nat) v_7))) : Nat) : Int))) &&& (BitVec.ofInt (32 : Nat) v_11))) : Nat) : Int))))) : Nat) : Int)) fun (v_14 : Int) =>
  (brR (decide (t18_6 < (64 : Int)))
   (Option.bind (c_math_bits_RotateLeft32 (v_7, ((-6 : Int), ()))) (fun (y_15 : ((Int × Unit) × (Unit × (Unit × Unit)))) =>
    (Option.bind (c_math_bits_RotateLeft32 (v_7, ((-11 : Int), ()))) (fun (y_16 : ((Int × Unit) × (Unit × (Unit × Unit)))) =>
     (Option.bind (c_math_bits_RotateLeft32 (v_7, ((-25 : Int), ()))) (fun (y_17 : ((Int × Unit) × (Unit × (Unit × Unit)))) =>
      (letR (Go.IntKind.wrap (Go.IntKind.u32) ((Go.IntKind.wrap (Go.IntKind.u32) ((Go.IntKind.wrap (Go.IntKind.u32) ((Go.IntKind.wrap (Go.IntKind.u32) (v_9 + (Go.IntKind.wrap (Go.IntKind.u32) (((BitVec.toNat ((BitVec.ofInt (32 : Nat) (Go.IntKind.wrap (Go.IntKind.u32) (((BitVec.toNat ((BitVec.ofInt (32 : Nat) y_15.1.1) ^^^ (BitVec.ofInt (32 : Nat) y_16.1.1))) : Nat) : Int))) ^^^ (BitVec.ofInt (32 : Nat) y_17.1.1))) : Nat) : Int)))) + v_14)) + (List.getD k_3 (Int.toNat t18_6) (0 : Int)))) + (List.getD w_2 (Int.toNat t18_6) (0 : Int)))) fun (v_18 : Int) =>
      (Option.bind (c_math_bits_RotateLeft32 (v_8, ((-2 : Int), ()))) (fun (y_19 : ((Int × Unit) × (Unit × (Unit × Unit)))) =>
       (Option.bind (c_math_bits_RotateLeft32 (v_8, ((-13 : Int), ()))) (fun (y_20 : ((Int × Unit) × (Unit × (Unit × Unit)))) =>
        (Option.bind (c_math_bits_RotateLeft32 (v_8, ((-22 : Int), ()))) (fun (y_21 : ((Int × Unit) × (Unit × (Unit × Unit)))) =>
         (brR (Go.Pon.inR t18_6 (64 : Nat))
          (brR (Go.Pon.inR t18_6 (64 : Nat))
           (again_0 (s_1, (w_2, (k_3, (t6_4, ([(Go.IntKind.wrap (Go.IntKind.u32) ((Go.IntKind.wrap (Go.IntKind.u32) (v_18 + (Go.IntKind.wrap (Go.IntKind.u32) (((BitVec.toNat ((BitVec.ofInt (32 : Nat) (Go.IntKind.wrap (Go.IntKind.u32) (((BitVec.toNat ((BitVec.ofInt (32 : Nat) y_19.1.1) ^^^ (BitVec.ofInt (32 : Nat) y_20.1.1))) : Nat) : Int))) ^^^ (BitVec.ofInt (32 : Nat) y_21.1.1))) : Nat) : Int)))) + (Go.IntKind.wrap (Go.IntKind.u32) (((BitVec.toNat ((BitVec.ofInt (32 : Nat) (Go.IntKind.wrap (Go.IntKind.u32) (((BitVec.toNat ((BitVec.ofInt (32 : Nat) (Go.IntKind.wrap (Go.IntKind.u32) (((BitVec.toNat ((BitVec.ofInt (32 : Nat) v_8) &&& (BitVec.ofInt (32 : Nat) v_12))) : Nat) : Int))) ^^^ (BitVec.ofInt (32 : Nat) (Go.IntKind.wrap (Go.IntKind.u32) (((BitVec.toNat ((BitVec.ofInt (32 : Nat) v_8) &&& (BitVec.ofInt (32 : Nat) v_13))) : Nat) : Int))))) : Nat) : Int))) ^^^ (BitVec.ofInt (32 : Nat) (Go.IntKind.wrap (Go.IntKind.u32) (((BitVec.toNat ((BitVec.ofInt (32 : Nat) v_12) &&& (BitVec.ofInt (32 : Nat) v_13))) : Nat) : Int))))) : Nat) : Int)))), v_8, v_12, v_13, (Go.IntKind.wrap (Go.IntKind.u32) ((List.getD t_5 (3 : Nat) (0 : Int)) + v_18)), v_7, v_10, v_11], ((Go.IntKind.wrap (Go.IntKind.i64) (t18_6 + (1 : Int))), ())))))))
           none)
          none))))))))))))))
   (L _ _ (fun again x => T_hash_compress_loop1 again x.1 x.2.1 x.2.2.1 x.2.2.2.1) (s_1, (t6_4, (t_5, ((0 : Int), ()))))))))))))))

noncomputable def T_hash_compress (L : LoopD) (c_math_bits_RotateLeft32 : F_math_bits_RotateLeft32) (s_ : (List Int)) (w_ : (List Int)) (k_ : (List Int)) : Option (((List Int) × Unit) × (Unit × (Unit × (Unit × Unit)))) :=
  (L _ _ (fun again x => T_hash_compress_loop0 L c_math_bits_RotateLeft32 again x.1 x.2.1 x.2.2.1 x.2.2.2.1 x.2.2.2.2.1 x.2.2.2.2.2.1) (s_, (w_, (k_, ([(0 : Int), (0 : Int), (0 : Int), (0 : Int), (0 : Int), (0 : Int), (0 : Int), (0 : Int)], (s_, ((0 : Int), ())))))))

noncomputable def sol_hash_compress : F_hash_compress := fun x => T_hash_compress bigLoop sol_math_bits_RotateLeft32 x.1 x.2.1 x.2.2.1

/-- pontage/hash.Sum -/
abbrev s_hash_Sum : Sig := ⟨[(.ro false (.slice (.int .u8)))], [(.ro true (.arr 32 (.int .u8)))]⟩
abbrev F_hash_Sum := ((List Int) × Unit) → Option (((List Int) × Unit) × (Unit × Unit))

noncomputable def T_hash_Sum_loop3 (again_21 : ((List Int) × ((List Int) × ((List Int) × (Int × Unit)))) → Option (((List Int) × Unit) × (Unit × Unit))) (t2_22 : (List Int)) (s_23 : (List Int)) (h_24 : (List Int)) (t55_25 : Int) : Option (((List Int) × Unit) × (Unit × Unit)) :=
  (letR (Go.IntKind.wrap (Go.IntKind.i64) ((24 : Int) - (Go.IntKind.wrap (Go.IntKind.i64) ((8 : Int) * (Int.tmod t55_25 (4 : Int)))))) fun (v_26 : Int) =>
  (brR (decide (t55_25 < (32 : Int)))
   (brR (Go.Pon.inR (Go.IntKind.wrap (Go.IntKind.i64) (Int.tdiv t55_25 (4 : Int))) (8 : Nat))
    (brR (decide ((0 : Int) ≤ v_26))
     (brR (Go.Pon.inR t55_25 (32 : Nat))
      (again_21 (t2_22, (s_23, ((List.set h_24 (Int.toNat t55_25) (Go.IntKind.wrap (Go.IntKind.u8) (Int.fdiv (List.getD s_23 (Int.toNat (Go.IntKind.wrap (Go.IntKind.i64) (Int.tdiv t55_25 (4 : Int)))) (0 : Int)) ((2 : Int) ^ (min (Int.toNat v_26) (32 : Nat)))))), ((Go.IntKind.wrap (Go.IntKind.i64) (t55_25 + (1 : Int))), ())))))
      none)
     none)
    none)
   (some ((h_24, ()), ((), ())))))

noncomputable def T_hash_Sum_loop2 (L : LoopD) (c_hash_schedule : F_hash_schedule) (c_hash_compress : F_hash_compress) (again_12 : ((List Int) × ((List Int) × ((List Int) × ((List Int) × (Int × Unit))))) → Option (((List Int) × Unit) × (Unit × Unit))) (t2_13 : (List Int)) (l_14 : (List Int)) (s_15 : (List Int)) (k_16 : (List Int)) (at_17 : Int) : Option (((List Int) × Unit) × (Unit × Unit)) :=
  (letR (Go.IntKind.wrap (Go.IntKind.i64) (at_17 + (64 : Int))) fun (v_18 : Int) =>
  (brR (decide (at_17 < (((List.length l_14) : Nat) : Int)))
   (brR (((decide ((0 : Int) ≤ at_17)) && (decide (at_17 ≤ v_18))) && (decide (v_18 ≤ (((List.length l_14) : Nat) : Int))))
    (Option.bind (c_hash_schedule ((List.take ((Int.toNat v_18) - (Int.toNat at_17)) (List.drop (Int.toNat at_17) l_14)), ())) (fun (y_19 : (((List Int) × Unit) × (Unit × Unit))) =>
     (Option.bind (c_hash_compress (s_15, (y_19.1.1, (k_16, ())))) (fun (y_20 : (((List Int) × Unit) × (Unit × (Unit × (Unit × Unit))))) =>
      (again_12 (t2_13, (l_14, (y_20.1.1, (k_16, (v_18, ()))))))))))
    none)
   (L _ _ (fun again x => T_hash_Sum_loop3 again x.1 x.2.1 x.2.2.1 x.2.2.2.1) (t2_13, (s_15, ((List.replicate (32 : Nat) (0 : Int)), ((0 : Int), ())))))))

noncomputable def T_hash_Sum_loop1 (L : LoopD) (c_hash_roundConstants : F_hash_roundConstants) (c_hash_schedule : F_hash_schedule) (c_hash_compress : F_hash_compress) (again_5 : ((List Int) × (Int × ((List Int) × (Int × Unit)))) → Option (((List Int) × Unit) × (Unit × Unit))) (t2_6 : (List Int)) (n_7 : Int) (l_8 : (List Int)) (i_9 : Int) : Option (((List Int) × Unit) × (Unit × Unit)) :=
  (letR (Go.IntKind.wrap (Go.IntKind.i64) ((8 : Int) * i_9)) fun (v_10 : Int) =>
  (brR (decide (i_9 ≥ (0 : Int)))
   (brR (decide ((0 : Int) ≤ v_10))
    (brR (Go.Pon.roomy ((List.length l_8) + (1 : Nat)) (Go.Pon.Ty.int Go.IntKind.u8))
     (again_5 (t2_6, (n_7, ((List.append l_8 [(Go.IntKind.wrap (Go.IntKind.u8) (Int.fdiv n_7 ((2 : Int) ^ (min (Int.toNat v_10) (64 : Nat)))))]), ((Go.IntKind.wrap (Go.IntKind.i64) (i_9 - (1 : Int))), ())))))
     none)
    none)
   (Option.bind (c_hash_roundConstants ()) (fun (y_11 : (((List Int) × Unit) × Unit)) =>
    (L _ _ (fun again x => T_hash_Sum_loop2 L c_hash_schedule c_hash_compress again x.1 x.2.1 x.2.2.1 x.2.2.2.1 x.2.2.2.2.1) (t2_6, (l_8, ([(1779033703 : Int), (3144134277 : Int), (1013904242 : Int), (2773480762 : Int), (1359893119 : Int), (2600822924 : Int), (528734635 : Int), (1541459225 : Int)], (y_11.1.1, ((0 : Int), ()))))))))))

noncomputable def T_hash_Sum_loop0 (L : LoopD) (c_hash_roundConstants : F_hash_roundConstants) (c_hash_schedule : F_hash_schedule) (c_hash_compress : F_hash_compress) (again_1 : ((List Int) × (Int × ((List Int) × Unit))) → Option (((List Int) × Unit) × (Unit × Unit))) (t2_2 : (List Int)) (n_3 : Int) (l_4 : (List Int)) : Option (((List Int) × Unit) × (Unit × Unit)) :=
  (brR (!(decide ((Int.tmod (((List.length l_4) : Nat) : Int) (64 : Int)) = (56 : Int))))
   (brR (Go.Pon.roomy ((List.length l_4) + (1 : Nat)) (Go.Pon.Ty.int Go.IntKind.u8))
    (again_1 (t2_2, (n_3, ((List.append l_4 [(0 : Int)]), ()))))
    none)
   (L _ _ (fun again x => T_hash_Sum_loop1 L c_hash_roundConstants c_hash_schedule c_hash_compress again x.1 x.2.1 x.2.2.1 x.2.2.2.1) (t2_2, (n_3, (l_4, ((7 : Int), ()))))))

noncomputable def T_hash_Sum (L : LoopD) (c_slices_Concat_byte_byte : F_slices_Concat_byte_byte) (c_hash_roundConstants : F_hash_roundConstants) (c_hash_schedule : F_hash_schedule) (c_hash_compress : F_hash_compress) (b_ : (List Int)) : Option (((List Int) × Unit) × (Unit × Unit)) :=
  (Option.bind (c_slices_Concat_byte_byte ([b_, [(128 : Int)]], ())) (fun (y_0 : (((List Int) × Unit) × (Unit × Unit))) =>
   (L _ _ (fun again x => T_hash_Sum_loop0 L c_hash_roundConstants c_hash_schedule c_hash_compress again x.1 x.2.1 x.2.2.1) ((List.replicate (32 : Nat) (0 : Int)), ((Go.IntKind.wrap (Go.IntKind.u64) ((Go.IntKind.wrap (Go.IntKind.u64) (((List.length b_) : Nat) : Int)) * (8 : Int))), (y_0.1.1, ()))))))

noncomputable def sol_hash_Sum : F_hash_Sum := fun x => T_hash_Sum bigLoop sol_slices_Concat_byte_byte sol_hash_roundConstants sol_hash_schedule sol_hash_compress x.1

/-- pontage/hash.Leaf -/
abbrev s_hash_Leaf : Sig := ⟨[(.ro false (.slice (.int .u8)))], [(.ro true (.arr 32 (.int .u8)))]⟩
abbrev F_hash_Leaf := ((List Int) × Unit) → Option (((List Int) × Unit) × (Unit × Unit))

noncomputable def T_hash_Leaf (L : LoopD) (c_slices_Concat_byte_byte : F_slices_Concat_byte_byte) (c_hash_Sum : F_hash_Sum) (b_ : (List Int)) : Option (((List Int) × Unit) × (Unit × Unit)) :=
  (Option.bind (c_slices_Concat_byte_byte ([[(0 : Int)], b_], ())) (fun (y_0 : (((List Int) × Unit) × (Unit × Unit))) =>
   (Option.bind (c_hash_Sum (y_0.1.1, ())) (fun (y_1 : (((List Int) × Unit) × (Unit × Unit))) =>
    (some ((y_1.1.1, ()), ((), ())))))))

noncomputable def sol_hash_Leaf : F_hash_Leaf := fun x => T_hash_Leaf bigLoop sol_slices_Concat_byte_byte sol_hash_Sum x.1

/-- pontage/hash.Node -/
abbrev s_hash_Node : Sig := ⟨[(.ro true (.arr 32 (.int .u8))), (.ro true (.arr 32 (.int .u8)))], [(.ro true (.arr 32 (.int .u8)))]⟩
abbrev F_hash_Node := ((List Int) × ((List Int) × Unit)) → Option (((List Int) × Unit) × (Unit × (Unit × Unit)))

noncomputable def T_hash_Node (L : LoopD) (c_slices_Concat_byte_byte : F_slices_Concat_byte_byte) (c_hash_Sum : F_hash_Sum) (x_ : (List Int)) (y_ : (List Int)) : Option (((List Int) × Unit) × (Unit × (Unit × Unit))) :=
  (Option.bind (c_slices_Concat_byte_byte ([[(1 : Int)], (List.take ((32 : Nat) - (0 : Nat)) (List.drop (0 : Nat) x_)), (List.take ((32 : Nat) - (0 : Nat)) (List.drop (0 : Nat) y_))], ())) (fun (y_0 : (((List Int) × Unit) × (Unit × Unit))) =>
   (Option.bind (c_hash_Sum (y_0.1.1, ())) (fun (y_1 : (((List Int) × Unit) × (Unit × Unit))) =>
    (some ((y_1.1.1, ()), ((), ((), ()))))))))

noncomputable def sol_hash_Node : F_hash_Node := fun x => T_hash_Node bigLoop sol_slices_Concat_byte_byte sol_hash_Sum x.1 x.2.1

/-- pontage/hash.digit -/
abbrev s_hash_digit : Sig := ⟨[(.ro true (.int .u8))], [(.ro true (.int .u8)), (.ro true .bool)]⟩
abbrev F_hash_digit := (Int × Unit) → Option ((Int × (Bool × Unit)) × (Unit × Unit))

noncomputable def T_hash_digit (L : LoopD) (c_ : Int) : Option ((Int × (Bool × Unit)) × (Unit × Unit)) :=
  (brR (decide (c_ ≥ (48 : Int)))
   (brR (decide (c_ ≤ (57 : Int)))
    (some (((Go.IntKind.wrap (Go.IntKind.u8) (c_ - (48 : Int))), (true, ())), ((), ())))
    (brR (decide (c_ ≥ (97 : Int)))
     (brR (decide (c_ ≤ (102 : Int)))
      (some (((Go.IntKind.wrap (Go.IntKind.u8) ((Go.IntKind.wrap (Go.IntKind.u8) (c_ - (97 : Int))) + (10 : Int))), (true, ())), ((), ())))
      (some (((0 : Int), (false, ())), ((), ()))))
     (some (((0 : Int), (false, ())), ((), ())))))
   (brR (decide (c_ ≥ (97 : Int)))
    (brR (decide (c_ ≤ (102 : Int)))
     (some (((Go.IntKind.wrap (Go.IntKind.u8) ((Go.IntKind.wrap (Go.IntKind.u8) (c_ - (97 : Int))) + (10 : Int))), (true, ())), ((), ())))
     (some (((0 : Int), (false, ())), ((), ()))))
    (some (((0 : Int), (false, ())), ((), ())))))

noncomputable def sol_hash_digit : F_hash_digit := fun x => T_hash_digit bigLoop x.1

/-- pontage/hash.Parse -/
abbrev s_hash_Parse : Sig := ⟨[(.ro true .str)], [(.ro true (.arr 32 (.int .u8))), (.ro true (.int .i64))]⟩
abbrev F_hash_Parse := ((List Int) × Unit) → Option (((List Int) × (Int × Unit)) × (Unit × Unit))

noncomputable def T_hash_Parse_loop0 (c_hash_digit : F_hash_digit) (again_0 : ((List Int) × ((List Int) × ((List Int) × (Int × Unit)))) → Option (((List Int) × (Int × Unit)) × (Unit × Unit))) (s_1 : (List Int)) (t2_2 : (List Int)) (h_3 : (List Int)) (t14_4 : Int) : Option (((List Int) × (Int × Unit)) × (Unit × Unit)) :=
  (letR (Go.IntKind.wrap (Go.IntKind.i64) ((2 : Int) * t14_4)) fun (v_5 : Int) =>
  (letR (Go.IntKind.wrap (Go.IntKind.i64) (v_5 + (1 : Int))) fun (v_6 : Int) =>
  (brR (decide (t14_4 < (32 : Int)))
   (brR (Go.Pon.inR v_5 (List.length s_1))
    (Option.bind (c_hash_digit ((List.getD s_1 (Int.toNat v_5) (0 : Int)), ())) (fun (y_7 : ((Int × (Bool × Unit)) × (Unit × Unit))) =>
     (brR (Go.Pon.inR v_6 (List.length s_1))
      (Option.bind (c_hash_digit ((List.getD s_1 (Int.toNat v_6) (0 : Int)), ())) (fun (y_8 : ((Int × (Bool × Unit)) × (Unit × Unit))) =>
       (brR (!y_7.1.2.1)
        (some (((List.replicate (32 : Nat) (0 : Int)), ((3 : Int), ())), ((), ())))
        (brR (!y_8.1.2.1)
         (some (((List.replicate (32 : Nat) (0 : Int)), ((3 : Int), ())), ((), ())))
         (brR (Go.Pon.inR t14_4 (32 : Nat))
          (again_0 (s_1, (t2_2, ((List.set h_3 (Int.toNat t14_4) (Go.IntKind.wrap (Go.IntKind.u8) (((BitVec.toNat ((BitVec.ofInt (8 : Nat) (Go.IntKind.wrap (Go.IntKind.u8) (y_7.1.1 * (16 : Int)))) ||| (BitVec.ofInt (8 : Nat) y_8.1.1))) : Nat) : Int))), ((Go.IntKind.wrap (Go.IntKind.i64) (t14_4 + (1 : Int))), ())))))
          none)))))
      none)))
    none)
   (some ((h_3, ((0 : Int), ())), ((), ()))))))

noncomputable def T_hash_Parse (L : LoopD) (c_hash_digit : F_hash_digit) (s_ : (List Int)) : Option (((List Int) × (Int × Unit)) × (Unit × Unit)) :=
  (brR (!(decide ((((List.length s_) : Nat) : Int) = (64 : Int))))
   (some (((List.replicate (32 : Nat) (0 : Int)), ((3 : Int), ())), ((), ())))
   (L _ _ (fun again x => T_hash_Parse_loop0 c_hash_digit again x.1 x.2.1 x.2.2.1 x.2.2.2.1) (s_, ((List.replicate (32 : Nat) (0 : Int)), ((List.replicate (32 : Nat) (0 : Int)), ((0 : Int), ()))))))

noncomputable def sol_hash_Parse : F_hash_Parse := fun x => T_hash_Parse bigLoop sol_hash_digit x.1

end Go.Pon
/-
  What package hash computes.
-/
set_option autoImplicit false
set_option linter.unusedVariables false
set_option linter.unusedSimpArgs false
set_option maxRecDepth 4000
namespace Go.Pon
open Go

def castL (l : List Nat) : List Int := l.map fun n => ((n : Nat) : Int)

theorem len_castL {l : List Nat} : (castL l).length = l.length := by simp [castL]
theorem castL_append {l m : List Nat} : castL (l ++ m) = castL l ++ castL m := by simp [castL]
theorem castL_getD {l : List Nat} {i : Nat} : (castL l).getD i 0 = ((l.getD i 0 : Nat) : Int) := by
  simp only [castL, List.getD_eq_getElem?_getD, List.getElem?_map]
  cases l[i]? <;> rfl

/-- Words up to place i, zeros behind. -/
def part (l : List Nat) (n : Nat) : List Int := castL l ++ List.replicate (n - l.length) 0

theorem part_getD {l : List Nat} {n j : Nat} (h : j < l.length) : (part l n).getD j 0 = ((l.getD j 0 : Nat) : Int) := by
  rw [part, List.getD_eq_getElem?_getD, List.getElem?_append_left (by rw [len_castL]; exact h), ← List.getD_eq_getElem?_getD, castL_getD]

theorem part_set {l : List Nat} {n : Nat} (h : l.length < n) (x : Nat) : (part l n).set l.length ((x : Nat) : Int) = part (l ++ [x]) n := by
  have e : n - l.length = (n - (l.length + 1)) + 1 := by omega
  simp only [part, castL_append, List.length_append, List.length_singleton]
  rw [List.set_append, if_neg (by rw [len_castL]; omega), len_castL, Nat.sub_self, e, List.replicate_succ, List.set_cons_zero]
  simp [castL]

theorem part_full {l : List Nat} : part l l.length = castL l := by simp [part]
theorem part_nil {n : Nat} : part [] n = List.replicate n 0 := by simp [part, castL]

theorem len_sched (b : List Int) : ∀ i, (sched b i).length = i
  | 0 => rfl
  | i + 1 => by simp [sched, len_sched b i]

theorem rotl_eq (x n : Nat) (h1 : 1 ≤ n) (h2 : n ≤ 31) : sol_math_bits_RotateLeft32 (((x : Nat) : Int), (-((n : Nat) : Int), ())) = some ((((rotr x n : Nat) : Int), ()), ((), ((), ()))) := by
  unfold sol_math_bits_RotateLeft32 T_math_bits_RotateLeft32
  simp only [letR_eq]
  have e : ∀ n, n < 32 → 1 ≤ n → IntKind.wrap .u64 ((BitVec.toNat (BitVec.ofInt 64 (IntKind.wrap .u64 (-((n : Nat) : Int))) &&& BitVec.ofInt 64 31) : Nat) : Int) = ((32 - n : Nat) : Int) := by decide
  rw [e n (by omega) h1, brR_dec, if_pos (by omega), show (32 : Int) - ((32 - n : Nat) : Int) = ((n : Nat) : Int) by omega, w_u64 (by omega) (by omega), brR_dec, if_pos (by omega)]
  simp only [Int.toNat_natCast]
  have p : ∀ k : Nat, (2 : Int) ^ k = ((2 ^ k : Nat) : Int) := fun k => by rw [Int.natCast_pow]; rfl
  rw [Nat.min_eq_left (by omega), Nat.min_eq_left (by omega), p, p, m32, d32, o32]
  rfl

theorem rot7 (x : Nat) : sol_math_bits_RotateLeft32 (((x : Nat) : Int), ((-7 : Int), ())) = some ((((rotr x 7 : Nat) : Int), ()), ((), ((), ()))) := rotl_eq x 7 (by omega) (by omega)
theorem rot18 (x : Nat) : sol_math_bits_RotateLeft32 (((x : Nat) : Int), ((-18 : Int), ())) = some ((((rotr x 18 : Nat) : Int), ()), ((), ((), ()))) := rotl_eq x 18 (by omega) (by omega)
theorem rot17 (x : Nat) : sol_math_bits_RotateLeft32 (((x : Nat) : Int), ((-17 : Int), ())) = some ((((rotr x 17 : Nat) : Int), ()), ((), ((), ()))) := rotl_eq x 17 (by omega) (by omega)
theorem rot19 (x : Nat) : sol_math_bits_RotateLeft32 (((x : Nat) : Int), ((-19 : Int), ())) = some ((((rotr x 19 : Nat) : Int), ()), ((), ((), ()))) := rotl_eq x 19 (by omega) (by omega)
theorem rot6 (x : Nat) : sol_math_bits_RotateLeft32 (((x : Nat) : Int), ((-6 : Int), ())) = some ((((rotr x 6 : Nat) : Int), ()), ((), ((), ()))) := rotl_eq x 6 (by omega) (by omega)
theorem rot11 (x : Nat) : sol_math_bits_RotateLeft32 (((x : Nat) : Int), ((-11 : Int), ())) = some ((((rotr x 11 : Nat) : Int), ()), ((), ((), ()))) := rotl_eq x 11 (by omega) (by omega)
theorem rot25 (x : Nat) : sol_math_bits_RotateLeft32 (((x : Nat) : Int), ((-25 : Int), ())) = some ((((rotr x 25 : Nat) : Int), ()), ((), ((), ()))) := rotl_eq x 25 (by omega) (by omega)
theorem rot2 (x : Nat) : sol_math_bits_RotateLeft32 (((x : Nat) : Int), ((-2 : Int), ())) = some ((((rotr x 2 : Nat) : Int), ()), ((), ((), ()))) := rotl_eq x 2 (by omega) (by omega)
theorem rot13 (x : Nat) : sol_math_bits_RotateLeft32 (((x : Nat) : Int), ((-13 : Int), ())) = some ((((rotr x 13 : Nat) : Int), ()), ((), ((), ()))) := rotl_eq x 13 (by omega) (by omega)
theorem rot22 (x : Nat) : sol_math_bits_RotateLeft32 (((x : Nat) : Int), ((-22 : Int), ())) = some ((((rotr x 22 : Nat) : Int), ()), ((), ((), ()))) := rotl_eq x 22 (by omega) (by omega)

theorem d32_8 (x : Nat) : Int.fdiv ((x : Nat) : Int) 8 = ((x / 8 : Nat) : Int) := d32 x 8
theorem d32_1024 (x : Nat) : Int.fdiv ((x : Nat) : Int) 1024 = ((x / 1024 : Nat) : Int) := d32 x 1024
theorem not32 (x : Nat) : IntKind.wrap .u32 ((BitVec.toNat (BitVec.ofInt 32 4294967295 ^^^ BitVec.ofInt 32 ((x : Nat) : Int)) : Nat) : Int) = ((xor32 4294967295 x : Nat) : Int) := x32 4294967295 x

/-- Four bytes as a word, put together by 'or'. -/
theorem word_or {p q r s : Int} (hp : 0 ≤ p ∧ p ≤ 255) (hq : 0 ≤ q ∧ q ≤ 255) (hr : 0 ≤ r ∧ r ≤ 255) (hs : 0 ≤ s ∧ s ≤ 255) :
    IntKind.wrap .u32 ((BitVec.toNat (BitVec.ofInt 32 (IntKind.wrap .u32 ((BitVec.toNat (BitVec.ofInt 32 (IntKind.wrap .u32 ((BitVec.toNat (BitVec.ofInt 32 (IntKind.wrap .u32 (IntKind.wrap .u32 p * 16777216)) ||| BitVec.ofInt 32 (IntKind.wrap .u32 (IntKind.wrap .u32 q * 65536))) : Nat) : Int)) |||
      BitVec.ofInt 32 (IntKind.wrap .u32 (IntKind.wrap .u32 r * 256))) : Nat) : Int)) ||| BitVec.ofInt 32 (IntKind.wrap .u32 s)) : Nat) : Int) = ((p.toNat * 16777216 + q.toNat * 65536 + r.toNat * 256 + s.toNat : Nat) : Int) := by
  obtain ⟨p, rfl⟩ := Int.eq_ofNat_of_zero_le hp.1
  obtain ⟨q, rfl⟩ := Int.eq_ofNat_of_zero_le hq.1
  obtain ⟨r, rfl⟩ := Int.eq_ofNat_of_zero_le hr.1
  obtain ⟨s, rfl⟩ := Int.eq_ofNat_of_zero_le hs.1
  rw [w_u32 (n := (p : Int)) (by omega) (by omega), w_u32 (n := (q : Int)) (by omega) (by omega), w_u32 (n := (r : Int)) (by omega) (by omega), w_u32 (n := (s : Int)) (by omega) (by omega)]
  rw [show ((p : Nat) : Int) * 16777216 = ((p * 16777216 : Nat) : Int) by omega, show ((q : Nat) : Int) * 65536 = ((q * 65536 : Nat) : Int) by omega, show ((r : Nat) : Int) * 256 = ((r * 256 : Nat) : Int) by omega]
  rw [w_u32 (n := ((p * 16777216 : Nat) : Int)) (by omega) (by omega), w_u32 (n := ((q * 65536 : Nat) : Int)) (by omega) (by omega), w_u32 (n := ((r * 256 : Nat) : Int)) (by omega) (by omega), o32, o32, o32]
  have o : ∀ (a b i : Nat), b < 2 ^ i → 2 ^ i * a + b < 4294967296 → or32 (2 ^ i * a) b = 2 ^ i * a + b := fun a b i h1 h2 => by
    unfold or32
    rw [Nat.mod_eq_of_lt (by omega), Nat.mod_eq_of_lt (by omega), Nat.two_pow_add_eq_or_of_lt h1]
  have e1 := o p (q * 65536) 24 (by omega) (by omega)
  have e2 := o (p * 256 + q) (r * 256) 16 (by omega) (by omega)
  have e3 := o (p * 65536 + q * 256 + r) s 8 (by omega) (by omega)
  rw [show p * 16777216 = 2 ^ 24 * p by omega, e1, show 2 ^ 24 * p + q * 65536 = 2 ^ 16 * (p * 256 + q) by omega, e2, show 2 ^ 16 * (p * 256 + q) + r * 256 = 2 ^ 8 * (p * 65536 + q * 256 + r) by omega, e3]
  simp only [Int.toNat_natCast]; omega

theorem schedule_eq {b : List Int} (hb : Bytes b) (hl : b.length = 64) : sol_hash_schedule (b, ()) = some ((castL (sched b 64), ()), ((), ())) := by
  unfold sol_hash_schedule T_hash_schedule
  have second : ∀ t2 : List Int, bigLoop _ _ (fun again x => T_hash_schedule_loop1 sol_math_bits_RotateLeft32 again x.1 x.2.1 x.2.2.1) (t2, (part (sched b 16) 64, ((16 : Int), ()))) = some ((castL (sched b 64), ()), ((), ())) := by
    intro t2
    refine bigLoop_rule (I := fun x => (16 : Int) ≤ x.2.2.1 ∧ x.2.2.1 ≤ (64 : Int) ∧ x.2.1 = part (sched b x.2.2.1.toNat) 64) (m := fun x => ((64 : Int) - x.2.2.1).toNat) (g := fun _ => some ((castL (sched b 64), ()), ((), ()))) ?_
      ⟨by simp only; omega, by simp only; omega, rfl⟩ (by simp only [bigN_eq]; omega)
    rintro ⟨t, w, i, _⟩ again ⟨e1, e2, e3⟩ hag
    simp only at e1 e2 e3 hag ⊢
    subst e3
    obtain ⟨i, rfl⟩ := Int.eq_ofNat_of_zero_le (show 0 ≤ i by omega)
    have hls := len_sched b i
    simp only [T_hash_schedule_loop1, letR_eq, brR_dec, brR_inR, Int.toNat_natCast]
    by_cases hi : i < 64
    · rw [if_pos (by omega), w_i64 (n := (i : Int) - 7) (by omega) (by omega), w_i64 (n := (i : Int) - 16) (by omega) (by omega), w_i64 (n := (i : Int) - 2) (by omega) (by omega), w_i64 (n := (i : Int) - 15) (by omega) (by omega), w_i64 (n := (i : Int) + 1) (by omega) (by omega)]
      rw [show ((i : Int) - 7).toNat = i - 7 by omega, show ((i : Int) - 16).toNat = i - 16 by omega, show ((i : Int) - 2).toNat = i - 2 by omega, show ((i : Int) - 15).toNat = i - 15 by omega]
      rw [if_pos (by omega), if_pos (by omega), part_getD (j := i - 7) (by omega), part_getD (j := i - 16) (by omega), part_getD (j := i - 2) (by omega), part_getD (j := i - 15) (by omega)]
      simp only [rot7, rot18, rot17, rot19, bind_some']
      rw [if_pos (by omega), if_pos (by omega), if_pos (by omega)]
      simp only [x32, d32_8, d32_1024, a32]
      have es : (part (sched b i) 64).set i ((nextW (sched b i) i : Nat) : Int) = part (sched b (i + 1)) 64 := by
        have := part_set (l := sched b i) (n := 64) (by omega) (nextW (sched b i) i)
        rw [hls] at this
        rw [this, sched, if_neg (by omega)]
      refine (congrArg again ?_).trans (hag (t, (part (sched b (i + 1)) 64, (((i : Int) + 1), ()))) ⟨by simp only; omega, by simp only; omega, by simp only; rw [show ((i : Int) + 1).toNat = i + 1 by omega]⟩ (by simp only; omega))
      rw [← es]; rfl
    · have : i = 64 := by omega
      subst this
      rw [if_neg (by omega)]
      have := part_full (l := sched b 64)
      rw [hls] at this
      rw [this]
  refine bigLoop_rule (I := fun x => x.1 = b ∧ (0 : Int) ≤ x.2.2.2.1 ∧ x.2.2.2.1 ≤ (16 : Int) ∧ x.2.2.1 = part (sched b x.2.2.2.1.toNat) 64) (m := fun x => ((16 : Int) - x.2.2.2.1).toNat) (g := fun _ => some ((castL (sched b 64), ()), ((), ()))) ?_
    ⟨rfl, by simp only; omega, by simp only; omega, by simp only; exact part_nil.symm⟩ (by simp only [bigN_eq]; omega)
  rintro ⟨b', t, w, i, _⟩ again ⟨e0, e1, e2, e3⟩ hag
  simp only at e0 e1 e2 e3 hag ⊢
  subst e0 e3
  obtain ⟨i, rfl⟩ := Int.eq_ofNat_of_zero_le e1
  have hls := len_sched b' i
  simp only [T_hash_schedule_loop0, letR_eq, brR_dec, brR_inR, Int.toNat_natCast]
  by_cases hi : i < 16
  · rw [if_pos (by omega), w_i64 (n := 4 * (i : Int)) (by omega) (by omega), w_i64 (n := 4 * (i : Int) + 3) (by omega) (by omega), w_i64 (n := 4 * (i : Int) + 2) (by omega) (by omega), w_i64 (n := 4 * (i : Int) + 1) (by omega) (by omega), w_i64 (n := (i : Int) + 1) (by omega) (by omega)]
    rw [show (4 * (i : Int)).toNat = 4 * i by omega, show (4 * (i : Int) + 1).toNat = 4 * i + 1 by omega, show (4 * (i : Int) + 2).toNat = 4 * i + 2 by omega, show (4 * (i : Int) + 3).toNat = 4 * i + 3 by omega]
    rw [if_pos (by omega), if_pos (by omega), if_pos (by omega), if_pos (by omega), if_pos (by omega), word_or (hb.at _) (hb.at _) (hb.at _) (hb.at _)]
    have es : (part (sched b' i) 64).set i ((word b' i : Nat) : Int) = part (sched b' (i + 1)) 64 := by
      have := part_set (l := sched b' i) (n := 64) (by omega) (word b' i)
      rw [hls] at this
      rw [this, sched, if_pos (by omega)]
    refine (congrArg again ?_).trans (hag (b', (t, (part (sched b' (i + 1)) 64, (((i : Int) + 1), ())))) ⟨rfl, by simp only; omega, by simp only; omega, by simp only; rw [show ((i : Int) + 1).toNat = i + 1 by omega]⟩ (by simp only; omega))
    rw [← es]; rfl
  · have : i = 16 := by omega
    subst this
    rw [if_neg (by omega)]
    exact second t

theorem len_rnd (t : List Nat) (k w : Nat) : (rnd t k w).length = 8 := rfl

theorem len_rounds {w s : List Nat} (h : s.length = 8) : ∀ i, (rounds w s i).length = 8
  | 0 => h
  | i + 1 => rfl

theorem addL_set {t s : List Nat} {i : Nat} (hi : i < 8) : (castL (addL t s i)).set i ((add32 (t.getD i 0) (s.getD i 0) : Nat) : Int) = castL (addL t s (i + 1)) := by
  apply List.ext_getElem
  · simp [castL, addL]
  · intro j h1 h2
    have hj : j < 8 := by simpa [castL, addL] using h2
    simp only [List.getElem_set, castL, addL, List.getElem_map, List.getElem_range]
    by_cases hc : i = j
    · subst hc; simp
    · rw [if_neg hc]
      by_cases h3 : j < i
      · rw [if_pos h3, if_pos (by omega)]
      · rw [if_neg h3, if_neg (by omega)]

theorem addL_zero {t s : List Nat} (h : t.length = 8) : addL t s 0 = t := by
  apply List.ext_getElem
  · simp [addL, h]
  · intro j h1 h2
    simp only [addL, List.getElem_map, List.getElem_range]
    rw [if_neg (by omega), List.getD_eq_getElem?_getD, List.getElem?_eq_getElem h2]; rfl

theorem addL_getD {t s : List Nat} {i : Nat} (hi : i < 8) : (addL t s i).getD i 0 = t.getD i 0 := by
  rw [addL, List.getD_eq_getElem?_getD, List.getElem?_map, List.getElem?_range hi]
  simp

theorem compress_eq {s w : List Nat} (hs : s.length = 8) : sol_hash_compress (castL s, (castL w, (castL kTab, ()))) = some ((castL (addL (rounds w s 64) s 8), ()), ((), ((), ((), ())))) := by
  unfold sol_hash_compress T_hash_compress
  have second : ∀ t2 : List Int, bigLoop _ _ (fun again x => T_hash_compress_loop1 again x.1 x.2.1 x.2.2.1 x.2.2.2.1) (castL s, (t2, (castL (rounds w s 64), ((0 : Int), ())))) = some ((castL (addL (rounds w s 64) s 8), ()), ((), ((), ((), ())))) := by
    intro t2
    refine bigLoop_rule (I := fun x => x.1 = castL s ∧ (0 : Int) ≤ x.2.2.2.1 ∧ x.2.2.2.1 ≤ (8 : Int) ∧ x.2.2.1 = castL (addL (rounds w s 64) s x.2.2.2.1.toNat)) (m := fun x => ((8 : Int) - x.2.2.2.1).toNat) (g := fun _ => some ((castL (addL (rounds w s 64) s 8), ()), ((), ((), ((), ()))))) ?_
      ⟨rfl, by simp only; omega, by simp only; omega, by simp only; rw [show (0 : Int).toNat = 0 from rfl, addL_zero (len_rounds hs 64)]⟩ (by simp only [bigN_eq]; omega)
    rintro ⟨s', t', t, i, _⟩ again ⟨e0, e1, e2, e3⟩ hag
    simp only at e0 e1 e2 e3 hag ⊢
    subst e0 e3
    obtain ⟨i, rfl⟩ := Int.eq_ofNat_of_zero_le e1
    simp only [T_hash_compress_loop1, letR_eq, brR_dec, brR_inR, Int.toNat_natCast]
    by_cases hi : i < 8
    · rw [if_pos (by omega), if_pos (by omega), if_pos (by omega), if_pos (by omega), castL_getD, castL_getD, a32, addL_getD hi, addL_set hi, w_i64 (by omega) (by omega)]
      exact hag _ ⟨rfl, by simp only; omega, by simp only; omega, by simp only; rw [show ((i : Int) + 1).toNat = i + 1 by omega]⟩ (by simp only; omega)
    · have : i = 8 := by omega
      subst this
      rw [if_neg (by omega)]
  refine bigLoop_rule (I := fun x => x.1 = castL s ∧ x.2.1 = castL w ∧ x.2.2.1 = castL kTab ∧ (0 : Int) ≤ x.2.2.2.2.2.1 ∧ x.2.2.2.2.2.1 ≤ (64 : Int) ∧ x.2.2.2.2.1 = castL (rounds w s x.2.2.2.2.2.1.toNat)) (m := fun x => ((64 : Int) - x.2.2.2.2.2.1).toNat) (g := fun _ => some ((castL (addL (rounds w s 64) s 8), ()), ((), ((), ((), ()))))) ?_
    ⟨rfl, rfl, rfl, by simp only; omega, by simp only; omega, rfl⟩ (by simp only [bigN_eq]; omega)
  rintro ⟨s', w', k', t', t, i, _⟩ again ⟨e0, e1, e2, e3, e4, e5⟩ hag
  simp only at e0 e1 e2 e3 e4 e5 hag ⊢
  subst e0 e1 e2 e5
  obtain ⟨i, rfl⟩ := Int.eq_ofNat_of_zero_le e3
  simp only [T_hash_compress_loop0, letR_eq, brR_dec, brR_inR, Int.toNat_natCast]
  by_cases hi : i < 64
  · rw [if_pos (by omega)]
    simp only [castL_getD, rot6, rot11, rot25, rot2, rot13, rot22, bind_some']
    rw [if_pos (by omega), if_pos (by omega), w_i64 (by omega) (by omega)]
    simp only [not32, x32, n32, a32]
    refine (congrArg again ?_).trans (hag (castL s, (castL w, (castL kTab, (t', (castL (rounds w s (i + 1)), (((i : Int) + 1), ())))))) ⟨rfl, rfl, rfl, by simp only; omega, by simp only; omega, by simp only; rw [show ((i : Int) + 1).toNat = i + 1 by omega]⟩ (by simp only; omega))
    rw [rounds, rnd]
    simp only [castL, List.map_cons, List.map_nil]
    rfl
  · have : i = 64 := by omega
    subst this
    rw [if_neg (by omega)]
    exact second t'

/-! ### The whole sum -/

theorem len_addL (t s : List Nat) (i : Nat) : (addL t s i).length = 8 := by simp [addL]

theorem len_states (m : List Int) : ∀ i, (states m i).length = 8
  | 0 => rfl
  | i + 1 => by rw [states, comp, len_addL]

theorem roundConstants_eq : sol_hash_roundConstants () = some ((castL kTab, ()), ()) := by
  unfold sol_hash_roundConstants T_hash_roundConstants; rfl

/-- The bytes that are written out: up to place i. -/
def outN (s : List Nat) (i : Nat) : List Nat := (List.range i).map fun i => s.getD (i / 4) 0 / 2 ^ (24 - 8 * (i % 4)) % 256

theorem len_outN (s : List Nat) (i : Nat) : (outN s i).length = i := by simp [outN]
theorem outN_succ (s : List Nat) (i : Nat) : outN s (i + 1) = outN s i ++ [s.getD (i / 4) 0 / 2 ^ (24 - 8 * (i % 4)) % 256] := by simp [outN, List.range_succ]
theorem outN_32 (s : List Nat) : castL (outN s 32) = shaOut s := by
  simp only [castL, outN, shaOut, List.map_map]; rfl

theorem out_byte {s : List Nat} {i : Nat} : IntKind.wrap .u8 (Int.fdiv ((castL s).getD (i / 4) 0) ((2 : Int) ^ (24 - 8 * (i % 4)))) = ((s.getD (i / 4) 0 / 2 ^ (24 - 8 * (i % 4)) % 256 : Nat) : Int) := by
  have p : ∀ k : Nat, (2 : Int) ^ k = ((2 ^ k : Nat) : Int) := fun k => by rw [Int.natCast_pow]; rfl
  rw [castL_getD, p, d32, IntKind.wrap_u8]; omega

theorem sumOut_eq {s : List Nat} (t2 : List Int) : bigLoop _ _ (fun again x => T_hash_Sum_loop3 again x.1 x.2.1 x.2.2.1 x.2.2.2.1) (t2, (castL s, (List.replicate 32 0, ((0 : Int), ())))) = some ((shaOut s, ()), ((), ())) := by
  refine bigLoop_rule (I := fun x => x.2.1 = castL s ∧ (0 : Int) ≤ x.2.2.2.1 ∧ x.2.2.2.1 ≤ (32 : Int) ∧ x.2.2.1 = part (outN s x.2.2.2.1.toNat) 32) (m := fun x => ((32 : Int) - x.2.2.2.1).toNat) (g := fun _ => some ((shaOut s, ()), ((), ()))) ?_
    ⟨rfl, by simp only; omega, by simp only; omega, part_nil.symm⟩ (by simp only [bigN_eq]; omega)
  rintro ⟨t, s', h, i, _⟩ again ⟨e0, e1, e2, e3⟩ hag
  simp only at e0 e1 e2 e3 hag ⊢
  subst e0 e3
  obtain ⟨i, rfl⟩ := Int.eq_ofNat_of_zero_le e1
  have hls := len_outN s i
  simp only [T_hash_Sum_loop3, letR_eq, brR_dec, brR_inR, Int.toNat_natCast]
  by_cases hi : i < 32
  · rw [if_pos (by omega), tdiv_pos (by omega), tmod_pos (by omega), w_i64 (n := (i : Int) / 4) (by omega) (by omega), w_i64 (n := 8 * ((i : Int) % 4)) (by omega) (by omega), w_i64 (n := 24 - 8 * ((i : Int) % 4)) (by omega) (by omega), w_i64 (n := (i : Int) + 1) (by omega) (by omega), if_pos (by omega), if_pos (by omega), if_pos (by omega)]
    rw [show ((i : Int) / 4).toNat = i / 4 by omega, show (24 - 8 * ((i : Int) % 4)).toNat = 24 - 8 * (i % 4) by omega, Nat.min_eq_left (by omega), out_byte]
    have es := part_set (l := outN s i) (n := 32) (by omega) (s.getD (i / 4) 0 / 2 ^ (24 - 8 * (i % 4)) % 256)
    rw [hls, ← outN_succ] at es
    rw [es]
    exact hag _ ⟨rfl, by simp only; omega, by simp only; omega, by simp only; rw [show ((i : Int) + 1).toNat = i + 1 by omega]⟩ (by simp only; omega)
  · have : i = 32 := by omega
    subst this
    rw [if_neg (by omega)]
    have := part_full (l := outN s 32)
    rw [hls, outN_32] at this
    rw [this]

theorem sumBlocks_eq {m : List Int} (hm : Bytes m) {n : Nat} (hn : m.length = 64 * n) (hl : m.length ≤ 1000000000) (t2 : List Int) :
    bigLoop _ _ (fun again x => T_hash_Sum_loop2 bigLoop sol_hash_schedule sol_hash_compress again x.1 x.2.1 x.2.2.1 x.2.2.2.1 x.2.2.2.2.1) (t2, (m, (castL iv, (castL kTab, ((0 : Int), ()))))) = some ((shaOut (states m n), ()), ((), ())) := by
  refine bigLoop_rule (I := fun x => x.2.1 = m ∧ x.2.2.2.1 = castL kTab ∧ ∃ i : Nat, i ≤ n ∧ x.2.2.2.2.1 = ((64 * i : Nat) : Int) ∧ x.2.2.1 = castL (states m i)) (m := fun x => ((m.length : Int) - x.2.2.2.2.1).toNat) (g := fun _ => some ((shaOut (states m n), ()), ((), ()))) ?_
    ⟨rfl, rfl, 0, by omega, rfl, rfl⟩ (by simp only [bigN_eq]; omega)
  rintro ⟨t, m', s, k, a, _⟩ again ⟨e0, e1, i, hi, e2, e3⟩ hag
  simp only at e0 e1 e2 e3 hag ⊢
  subst e0 e1 e2 e3
  simp only [T_hash_Sum_loop2, letR_eq, brR_dec, brR_and, Int.toNat_natCast]
  by_cases hc : i < n
  · rw [if_pos (by omega), w_i64 (by omega) (by omega), if_pos (by omega), if_pos (by omega), if_pos (by omega), show (((64 * i : Nat) : Int) + 64).toNat - 64 * i = 64 by omega,
      schedule_eq ((hm.drop _).take _) (by rw [List.length_take, List.length_drop]; omega)]
    simp only [bind_some']
    rw [compress_eq (len_states m' i)]
    simp only [bind_some']
    exact hag _ ⟨rfl, rfl, i + 1, by omega, by simp only; omega, rfl⟩ (by simp only; omega)
  · have : i = n := by omega
    subst this
    rw [if_neg (by omega)]
    exact sumOut_eq t

theorem sumLen_eq {l : List Int} (hb : Bytes l) {n k : Nat} (hn : n < 18446744073709551616) (hk : l.length + 8 = 64 * k) (hl : l.length ≤ 900000000) (t2 : List Int) :
    bigLoop _ _ (fun again x => T_hash_Sum_loop1 bigLoop sol_hash_roundConstants sol_hash_schedule sol_hash_compress again x.1 x.2.1 x.2.2.1 x.2.2.2.1) (t2, (((n : Nat) : Int), (l, ((7 : Int), ())))) = some ((shaOut (states (l ++ beB 8 n) k), ()), ((), ())) := by
  refine Eq.trans (bigLoop_rule (I := fun x => x.2.1 = ((n : Nat) : Int) ∧ (-1 : Int) ≤ x.2.2.2.1 ∧ x.2.2.2.1 ≤ (7 : Int) ∧ Bytes x.2.2.1 ∧ (x.2.2.1.length : Int) + x.2.2.2.1 + 1 = ((64 * k : Nat) : Int)) (m := fun x => (x.2.2.2.1 + 1).toNat) (g := fun x => some ((shaOut (states (x.2.2.1 ++ beB (x.2.2.2.1 + 1).toNat n) k), ()), ((), ()))) ?_
    ⟨rfl, by simp only; omega, by simp only; omega, hb, by simp only; omega⟩ (by simp only [bigN_eq]; omega)) rfl
  rintro ⟨t, n', l', i, _⟩ again ⟨e0, e1, e2, e3, e4⟩ hag
  simp only at e0 e1 e2 e3 e4 hag ⊢
  subst e0
  simp only [T_hash_Sum_loop1, letR_eq, brR_dec, append_def, ge_iff_le]
  by_cases hi : 0 ≤ i
  · obtain ⟨j, rfl⟩ := Int.eq_ofNat_of_zero_le hi
    rw [if_pos hi, w_i64 (n := 8 * (j : Int)) (by omega) (by omega), if_pos (by omega), brR_room8 (by omega), w_i64 (by omega) (by omega), show (8 * (j : Int)).toNat = 8 * j by omega, Nat.min_eq_left (by omega)]
    have p : ∀ k : Nat, (2 : Int) ^ k = ((2 ^ k : Nat) : Int) := fun k => by rw [Int.natCast_pow]; rfl
    have hby : IntKind.wrap .u8 (Int.fdiv ((n : Nat) : Int) ((2 : Int) ^ (8 * j))) = ((n / 256 ^ j % 256 : Nat) : Int) := by
      rw [p, d32, IntKind.wrap_u8, pow256]; omega
    rw [hby, hag _ ⟨rfl, by simp only; omega, by simp only; omega, e3.append (by intro x hx; simp only [List.mem_singleton] at hx; subst hx; omega), by simp only [List.length_append, List.length_singleton]; omega⟩ (by simp only; omega)]
    simp only
    rw [show ((j : Int) - 1 + 1).toNat = j by omega, show ((j : Int) + 1).toNat = j + 1 by omega, beB]; simp
  · have : i = -1 := by omega
    subst this
    rw [if_neg hi, roundConstants_eq]
    simp only [bind_some']
    have := sumBlocks_eq e3 (n := k) (by omega) (by omega) t
    refine Eq.trans this ?_
    simp [beB]

theorem sum_eq {b : List Int} (hb : Bytes b) (hl : b.length ≤ 100000000) : sol_hash_Sum (b, ()) = some ((sha b, ()), ((), ())) := by
  unfold sol_hash_Sum T_hash_Sum
  simp only
  rw [concat_eq (by simp; omega) (by simp), w_u64 (n := ((b.length : Nat) : Int)) (by omega) (by omega), w_u64 (by omega) (by omega), show ((b.length : Nat) : Int) * 8 = ((b.length * 8 : Nat) : Int) by omega]
  simp only [bind_some', List.flatten_cons, List.flatten_nil, List.append_nil]
  refine bigLoop_rule (I := fun x => x.2.1 = ((b.length * 8 : Nat) : Int) ∧ ∃ j : Nat, j ≤ (119 - b.length % 64) % 64 ∧ x.2.2.1 = b ++ 128 :: List.replicate j 0) (m := fun x => b.length + 100 - x.2.2.1.length) (g := fun _ => some ((sha b, ()), ((), ()))) ?_
    ⟨rfl, 0, by omega, rfl⟩ (by simp only [bigN_eq]; omega)
  rintro ⟨t, n, l, _⟩ again ⟨e0, j, hj, e1⟩ hag
  simp only at e0 e1 hag ⊢
  subst e0 e1
  have hlen : (b ++ 128 :: List.replicate j (0 : Int)).length = b.length + 1 + j := by simp; omega
  simp only [T_hash_Sum_loop0, letR_eq, brR_dec, brR_not, append_def]
  rw [tmod_pos (by omega), hlen, brR_room8 (by omega)]
  by_cases hc : j = (119 - b.length % 64) % 64
  · rw [if_pos (by omega)]
    have hby : Bytes (b ++ 128 :: List.replicate j (0 : Int)) := hb.append (by
      intro x hx
      rcases List.mem_cons.1 hx with rfl | hx
      · omega
      · rw [List.eq_of_mem_replicate hx]; omega)
    refine (sumLen_eq hby (n := b.length * 8) (k := (b.length + 1 + j + 8) / 64) (by omega) (by omega) (by omega) t).trans ?_
    have hp : b ++ 128 :: List.replicate j (0 : Int) ++ beB 8 (b.length * 8) = padded b := by simp [padded, hc]
    have hpl : (padded b).length = b.length + 1 + j + 8 := by rw [← hp, List.length_append, hlen, len_beB]
    rw [hp, ← hpl]; rfl
  · rw [if_neg (by omega)]
    have e : b ++ 128 :: List.replicate j (0 : Int) ++ [0] = b ++ 128 :: List.replicate (j + 1) 0 := by
      rw [List.replicate_succ']; simp
    exact hag _ ⟨rfl, j + 1, by omega, by simp only; exact e⟩ (by simp only [e, hlen]; simp; omega)

end Go.Pon
/-
  What the functions of package ref7 compute (printed by a program of this work).
-/
set_option autoImplicit false
set_option linter.unusedVariables false
set_option maxRecDepth 100000
namespace Go.Pon
open Go

/-- pontage/pontageref7.words -/
abbrev s_ref7_words : Sig := ⟨[], [(.ro true (.arr 64 (.int .u32)))]⟩
abbrev F_ref7_words := Unit → Option (((List Int) × Unit) × Unit)

noncomputable def T_ref7_words (L : LoopD) : Option (((List Int) × Unit) × Unit) :=
  (some (((List.set (List.set (List.set (List.set (List.set (List.set (List.set (List.set (List.set (List.set (List.set (List.set (List.set (List.set (List.set (List.set (List.set (List.set (List.set (List.set (List.set (List.set (List.set (List.set (List.set (List.set (List.set (List.set (List.set (List.set (List.set (List.set (List.set (List.set (List.set (List.set (List.set (List.set (List.set (List.set (List.set (List.set (List.set (List.set (List.set (List.set (List.set (List.set (List.set (List.set (List.set (List.set (List.set (List.set (List.set (List.set (List.set (List.set (List.set (List.set (List.set (List.set (List.set (List.set (List.replicate (64 : Nat) (0 : Int)) (0 : Nat) (1116352408 : Int)) (1 : Nat) (1899447441 : Int)) (2 : Nat) (3049323471 : Int)) (3 : Nat) (3921009573 : Int)) (4 : Nat) (961987163 : Int)) (5 : Nat) (1508970993 : Int)) (6 : Nat) (2453635748 : Int)) (7 : Nat) (2870763221 : Int)) (8 : Nat) (3624381080 : Int)) (9 : Nat) (310598401 : Int)) (10 : Nat) (607225278 : Int)) (11 : Nat) (1426881987 : Int)) (12 : Nat) (1925078388 : Int)) (13 : Nat) (2162078206 : Int)) (14 : Nat) (2614888103 : Int)) (15 : Nat) (3248222580 : Int)) (16 : Nat) (3835390401 : Int)) (17 : Nat) (4022224774 : Int)) (18 : Nat) (264347078 : Int)) (19 : Nat) (604807628 : Int)) (20 : Nat) (770255983 : Int)) (21 : Nat) (1249150122 : Int)) (22 : Nat) (1555081692 : Int)) (23 : Nat) (1996064986 : Int)) (24 : Nat) (2554220882 : Int)) (25 : Nat) (2821834349 : Int)) (26 : Nat) (2952996808 : Int)) (27 : Nat) (3210313671 : Int)) (28 : Nat) (3336571891 : Int)) (29 : Nat) (3584528711 : Int)) (30 : Nat) (113926993 : Int)) (31 : Nat) (338241895 : Int)) (32 : Nat) (666307205 : Int)) (33 : Nat) (773529912 : Int)) (34 : Nat) (1294757372 : Int)) (35 : Nat) (1396182291 : Int)) (36 : Nat) (1695183700 : Int)) (37 : Nat) (1986661051 : Int)) (38 : Nat) (2177026350 : Int)) (39 : Nat) (2456956037 : Int)) (40 : Nat) (2730485921 : Int)) (41 : Nat) (2820302411 : Int)) (42 : Nat) (3259730800 : Int)) (43 : Nat) (3345764771 : Int)) (44 : Nat) (3516065817 : Int)) (45 : Nat) (3600352804 : Int)) (46 : Nat) (4094571909 : Int)) (47 : Nat) (275423344 : Int)) (48 : Nat) (430227734 : Int)) (49 : Nat) (506948616 : Int)) (50 : Nat) (659060556 : Int)) (51 : Nat) (883997877 : Int)) (52 : Nat) (958139571 : Int)) (53 : Nat) (1322822218 : Int)) (54 : Nat) (1537002063 : Int)) (55 : Nat) (1747873779 : Int)) (56 : Nat) (1955562222 : Int)) (57 : Nat) (2024104815 : Int)) (58 : Nat) (2227730452 : Int)) (59 : Nat) (2361852424 : Int)) (60 : Nat) (2428436474 : Int)) (61 : Nat) (2756734187 : Int)) (62 : Nat) (3204031479 : Int)) (63 : Nat) (3329325298 : Int)), ()), ()))

noncomputable def sol_ref7_words : F_ref7_words := fun x => T_ref7_words bigLoop

/-- pontage/pontageref7.right -/
abbrev s_ref7_right : Sig := ⟨[(.ro true (.int .u32)), (.ro true (.int .u64))], [(.ro true (.int .u32))]⟩
abbrev F_ref7_right := (Int × (Int × Unit)) → Option ((Int × Unit) × (Unit × (Unit × Unit)))

noncomputable def T_ref7_right (L : LoopD) (x_ : Int) (n_ : Int) : Option ((Int × Unit) × (Unit × (Unit × Unit))) :=
  (letR (Go.IntKind.wrap (Go.IntKind.u64) ((32 : Int) - n_)) fun (v_0 : Int) =>
  (brR (decide ((0 : Int) ≤ n_))
   (brR (decide ((0 : Int) ≤ v_0))
    (some (((Go.IntKind.wrap (Go.IntKind.u32) (((BitVec.toNat ((BitVec.ofInt (32 : Nat) (Int.fdiv x_ ((2 : Int) ^ (min (Int.toNat n_) (32 : Nat))))) ||| (BitVec.ofInt (32 : Nat) (Go.IntKind.wrap (Go.IntKind.u32) (x_ * ((2 : Int) ^ (min (Int.toNat v_0) (32 : Nat)))))))) : Nat) : Int)), ()), ((), ((), ()))))
    none)
   none))

noncomputable def sol_ref7_right : F_ref7_right := fun x => T_ref7_right bigLoop x.1 x.2.1

/-- pontage/pontageref7.block -/
abbrev s_ref7_block : Sig := ⟨[(.ro true (.arr 8 (.int .u32))), (.ro false (.slice (.int .u8)))], [(.ro true (.arr 8 (.int .u32)))]⟩
abbrev F_ref7_block := ((List Int) × ((List Int) × Unit)) → Option (((List Int) × Unit) × (Unit × (Unit × Unit)))

noncomputable def T_ref7_block_loop2 (again_44 : ((List Int) × ((List Int) × ((List Int) × (Int × Unit)))) → Option (((List Int) × Unit) × (Unit × (Unit × Unit)))) (h_45 : (List Int)) (t4_46 : (List Int)) (s_47 : (List Int)) (i_48 : Int) : Option (((List Int) × Unit) × (Unit × (Unit × Unit))) :=
  (brR (decide (i_48 < (8 : Int)))
   (brR (Go.Pon.inR i_48 (8 : Nat))
    (brR (Go.Pon.inR i_48 (8 : Nat))
     (brR (Go.Pon.inR i_48 (8 : Nat))
      (again_44 (h_45, (t4_46, ((List.set s_47 (Int.toNat i_48) (Go.IntKind.wrap (Go.IntKind.u32) ((List.getD s_47 (Int.toNat i_48) (0 : Int)) + (List.getD h_45 (Int.toNat i_48) (0 : Int))))), ((Go.IntKind.wrap (Go.IntKind.i64) (i_48 + (1 : Int))), ())))))
      none)
     none)
    none)
   (some ((s_47, ()), ((), ((), ())))))

noncomputable def T_ref7_block_loop1 (L : LoopD) (c_ref7_right : F_ref7_right) (again_22 : ((List Int) × ((List Int) × ((List Int) × ((List Int) × ((List Int) × (Int × Unit)))))) → Option (((List Int) × Unit) × (Unit × (Unit × Unit)))) (h_23 : (List Int)) (t4_24 : (List Int)) (k_25 : (List Int)) (w_26 : (List Int)) (s_27 : (List Int)) (i_28 : Int) : Option (((List Int) × Unit) × (Unit × (Unit × Unit))) :=
  (letR (List.getD s_27 (4 : Nat) (0 : Int)) fun (v_29 : Int) =>
  (letR (List.getD s_27 (0 : Nat) (0 : Int)) fun (v_30 : Int) =>
  (letR (List.getD s_27 (7 : Nat) (0 : Int)) fun (v_31 : Int) =>
  (letR (List.getD s_27 (5 : Nat) (0 : Int)) fun (v_32 : Int) =>
  (letR (List.getD s_27 (6 : Nat) (0 : Int)) fun (v_33 : Int) =>
  (letR (List.getD s_27 (1 : Nat) (0 : Int)) fun (v_34 : Int) =>
  (letR (List.getD s_27 (2 : Nat) (0 : Int)) fun (v_35 : Int) =>
  (letR (Go.IntKind.wrap (Go.IntKind.u32) (((BitVec.toNat ((BitVec.ofInt (32 : Nat) (Go.IntKind.wrap (Go.IntKind.u32) (((BitVec.toNat ((BitVec.ofInt (32 : Nat) v_29) &&& (BitVec.ofInt (32 : Nat) v_32))) : Nat) : Int))) ^^^ (BitVec.ofInt (32 : Nat) (Go.IntKind.wrap (Go.IntKind.u32) (((BitVec.toNat ((BitVec.ofInt (32 : Nat) (Go.IntKind.wrap (Go.IntKind.u32) (((BitVec.toNat ((BitVec.ofInt (32 : Nat) (4294967295 : Int)) ^^^ (BitVec.ofInt (32 : Nat) v_29))) : Nat) : Int))) &&& (BitVec.ofInt (32 : Nat) v_33))) : Nat) : Int))))) : Nat) : Int)) fun (v_36 : Int) =>
  (brR (decide (i_28 < (64 : Int)))
   (Option.bind (c_ref7_right (v_29, ((6 : Int), ()))) (fun (y_37 : ((Int × Unit) × (Unit × (Unit × Unit)))) =>
    (Option.bind (c_ref7_right (v_29, ((11 : Int), ()))) (fun (y_38 : ((Int × Unit) × (Unit × (Unit × Unit)))) =>
     (Option.bind (c_ref7_right (v_29, ((25 : Int), ()))) (fun (y_39 : ((Int × Unit) × (Unit × (Unit × Unit)))) =>
      (letR (Go.IntKind.wrap (Go.IntKind.u32) ((Go.IntKind.wrap (Go.IntKind.u32) ((Go.IntKind.wrap (Go.IntKind.u32) ((Go.IntKind.wrap (Go.IntKind.u32) (v_31 + (Go.IntKind.wrap (Go.IntKind.u32) (((BitVec.toNat ((BitVec.ofInt (32 : Nat) (Go.IntKind.wrap (Go.IntKind.u32) (((BitVec.toNat ((BitVec.ofInt (32 : Nat) y_37.1.1) ^^^ (BitVec.ofInt (32 : Nat) y_38.1.1))) : Nat) : Int))) ^^^ (BitVec.ofInt (32 : Nat) y_39.1.1))) : Nat) : Int)))) + v_36)) + (List.getD k_25 (Int.toNat i_28) (0 : Int)))) + (List.getD w_26 (Int.toNat i_28) (0 : Int)))) fun (v_40 : Int) =>
      (brR (Go.Pon.inR i_28 (64 : Nat))
       (brR (Go.Pon.inR i_28 (64 : Nat))
        (Option.bind (c_ref7_right (v_30, ((2 : Int), ()))) (fun (y_41 : ((Int × Unit) × (Unit × (Unit × Unit)))) =>
         (Option.bind (c_ref7_right (v_30, ((13 : Int), ()))) (fun (y_42 : ((Int × Unit) × (Unit × (Unit × Unit)))) =>
          (Option.bind (c_ref7_right (v_30, ((22 : Int), ()))) (fun (y_43 : ((Int × Unit) × (Unit × (Unit × Unit)))) =>
           (again_22 (h_23, (t4_24, (k_25, (w_26, ([(Go.IntKind.wrap (Go.IntKind.u32) (v_40 + (Go.IntKind.wrap (Go.IntKind.u32) ((Go.IntKind.wrap (Go.IntKind.u32) (((BitVec.toNat ((BitVec.ofInt (32 : Nat) (Go.IntKind.wrap (Go.IntKind.u32) (((BitVec.toNat ((BitVec.ofInt (32 : Nat) y_41.1.1) ^^^ (BitVec.ofInt (32 : Nat) y_42.1.1))) : Nat) : Int))) ^^^ (BitVec.ofInt (32 : Nat) y_43.1.1))) : Nat) : Int)) + (Go.IntKind.wrap (Go.IntKind.u32) (((BitVec.toNat ((BitVec.ofInt (32 : Nat) (Go.IntKind.wrap (Go.IntKind.u32) (((BitVec.toNat ((BitVec.ofInt (32 : Nat) (Go.IntKind.wrap (Go.IntKind.u32) (((BitVec.toNat ((BitVec.ofInt (32 : Nat) v_30) &&& (BitVec.ofInt (32 : Nat) v_34))) : Nat) : Int))) ^^^ (BitVec.ofInt (32 : Nat) (Go.IntKind.wrap (Go.IntKind.u32) (((BitVec.toNat ((BitVec.ofInt (32 : Nat) v_30) &&& (BitVec.ofInt (32 : Nat) v_35))) : Nat) : Int))))) : Nat) : Int))) ^^^ (BitVec.ofInt (32 : Nat) (Go.IntKind.wrap (Go.IntKind.u32) (((BitVec.toNat ((BitVec.ofInt (32 : Nat) v_34) &&& (BitVec.ofInt (32 : Nat) v_35))) : Nat) : Int))))) : Nat) : Int)))))), v_30, v_34, v_35, (Go.IntKind.wrap (Go.IntKind.u32) ((List.getD s_27 (3 : Nat) (0 : Int)) + v_40)), v_29, v_32, v_33], ((Go.IntKind.wrap (Go.IntKind.i64) (i_28 + (1 : Int))), ())))))))))))))
        none)
       none))))))))
   (L _ _ (fun again x => T_ref7_block_loop2 again x.1 x.2.1 x.2.2.1 x.2.2.2.1) (h_23, (t4_24, (s_27, ((0 : Int), ()))))))))))))))

noncomputable def T_ref7_block_loop0 (L : LoopD) (c_ref7_right : F_ref7_right) (again_1 : ((List Int) × ((List Int) × ((List Int) × ((List Int) × ((List Int) × (Int × Unit)))))) → Option (((List Int) × Unit) × (Unit × (Unit × Unit)))) (b_2 : (List Int)) (h_3 : (List Int)) (t4_4 : (List Int)) (k_5 : (List Int)) (w_6 : (List Int)) (i_7 : Int) : Option (((List Int) × Unit) × (Unit × (Unit × Unit))) :=
  (letR (Go.IntKind.wrap (Go.IntKind.i64) ((4 : Int) * i_7)) fun (v_8 : Int) =>
  (letR (Go.IntKind.wrap (Go.IntKind.i64) (i_7 - (15 : Int))) fun (v_9 : Int) =>
  (letR (Go.IntKind.wrap (Go.IntKind.i64) (i_7 - (2 : Int))) fun (v_10 : Int) =>
  (letR (Go.IntKind.wrap (Go.IntKind.i64) (i_7 - (16 : Int))) fun (v_11 : Int) =>
  (letR (Go.IntKind.wrap (Go.IntKind.i64) (i_7 - (7 : Int))) fun (v_12 : Int) =>
  (letR (List.getD w_6 (Int.toNat v_9) (0 : Int)) fun (v_13 : Int) =>
  (letR (List.getD w_6 (Int.toNat v_10) (0 : Int)) fun (v_14 : Int) =>
  (letR (Go.IntKind.wrap (Go.IntKind.i64) (v_8 + (1 : Int))) fun (v_15 : Int) =>
  (letR (Go.IntKind.wrap (Go.IntKind.i64) (v_8 + (2 : Int))) fun (v_16 : Int) =>
  (letR (Go.IntKind.wrap (Go.IntKind.i64) (v_8 + (3 : Int))) fun (v_17 : Int) =>
  (brR (decide (i_7 < (64 : Int)))
   (brR (decide (i_7 < (16 : Int)))
    (brR (Go.Pon.inR v_8 (List.length b_2))
     (brR (Go.Pon.inR v_15 (List.length b_2))
      (brR (Go.Pon.inR v_16 (List.length b_2))
       (brR (Go.Pon.inR v_17 (List.length b_2))
        (brR (Go.Pon.inR i_7 (64 : Nat))
         (again_1 (b_2, (h_3, (t4_4, (k_5, ((List.set w_6 (Int.toNat i_7) (Go.IntKind.wrap (Go.IntKind.u32) ((Go.IntKind.wrap (Go.IntKind.u32) ((Go.IntKind.wrap (Go.IntKind.u32) ((Go.IntKind.wrap (Go.IntKind.u32) ((Go.IntKind.wrap (Go.IntKind.u32) (List.getD b_2 (Int.toNat v_8) (0 : Int))) * (16777216 : Int))) + (Go.IntKind.wrap (Go.IntKind.u32) ((Go.IntKind.wrap (Go.IntKind.u32) (List.getD b_2 (Int.toNat v_15) (0 : Int))) * (65536 : Int))))) + (Go.IntKind.wrap (Go.IntKind.u32) ((Go.IntKind.wrap (Go.IntKind.u32) (List.getD b_2 (Int.toNat v_16) (0 : Int))) * (256 : Int))))) + (Go.IntKind.wrap (Go.IntKind.u32) (List.getD b_2 (Int.toNat v_17) (0 : Int)))))), ((Go.IntKind.wrap (Go.IntKind.i64) (i_7 + (1 : Int))), ())))))))
         none)
        none)
       none)
      none)
     none)
    (brR (Go.Pon.inR v_9 (64 : Nat))
     (brR (Go.Pon.inR v_10 (64 : Nat))
      (brR (Go.Pon.inR v_11 (64 : Nat))
       (Option.bind (c_ref7_right (v_13, ((7 : Int), ()))) (fun (y_18 : ((Int × Unit) × (Unit × (Unit × Unit)))) =>
        (Option.bind (c_ref7_right (v_13, ((18 : Int), ()))) (fun (y_19 : ((Int × Unit) × (Unit × (Unit × Unit)))) =>
         (brR (Go.Pon.inR v_12 (64 : Nat))
          (Option.bind (c_ref7_right (v_14, ((17 : Int), ()))) (fun (y_20 : ((Int × Unit) × (Unit × (Unit × Unit)))) =>
           (Option.bind (c_ref7_right (v_14, ((19 : Int), ()))) (fun (y_21 : ((Int × Unit) × (Unit × (Unit × Unit)))) =>
            (brR (Go.Pon.inR i_7 (64 : Nat))
             (again_1 (b_2, (h_3, (t4_4, (k_5, ((List.set w_6 (Int.toNat i_7) (Go.IntKind.wrap (Go.IntKind.u32) ((Go.IntKind.wrap (Go.IntKind.u32) ((Go.IntKind.wrap (Go.IntKind.u32) ((List.getD w_6 (Int.toNat v_11) (0 : Int)) + (Go.IntKind.wrap (Go.IntKind.u32) (((BitVec.toNat ((BitVec.ofInt (32 : Nat) (Go.IntKind.wrap (Go.IntKind.u32) (((BitVec.toNat ((BitVec.ofInt (32 : Nat) y_18.1.1) ^^^ (BitVec.ofInt (32 : Nat) y_19.1.1))) : Nat) : Int))) ^^^ (BitVec.ofInt (32 : Nat) (Int.fdiv v_13 (8 : Int))))) : Nat) : Int)))) + (List.getD w_6 (Int.toNat v_12) (0 : Int)))) + (Go.IntKind.wrap (Go.IntKind.u32) (((BitVec.toNat ((BitVec.ofInt (32 : Nat) (Go.IntKind.wrap (Go.IntKind.u32) (((BitVec.toNat ((BitVec.ofInt (32 : Nat) y_20.1.1) ^^^ (BitVec.ofInt (32 : Nat) y_21.1.1))) : Nat) : Int))) ^^^ (BitVec.ofInt (32 : Nat) (Int.fdiv v_14 (1024 : Int))))) : Nat) : Int))))), ((Go.IntKind.wrap (Go.IntKind.i64) (i_7 + (1 : Int))), ())))))))
             none)))))
          none)))))
       none)
      none)
     none))
   (L _ _ (fun again x => T_ref7_block_loop1 L c_ref7_right again x.1 x.2.1 x.2.2.1 x.2.2.2.1 x.2.2.2.2.1 x.2.2.2.2.2.1) (h_3, (t4_4, (k_5, (w_6, (h_3, ((0 : Int), ()))))))))))))))))))

noncomputable def T_ref7_block (L : LoopD) (c_ref7_words : F_ref7_words) (c_ref7_right : F_ref7_right) (h_ : (List Int)) (b_ : (List Int)) : Option (((List Int) × Unit) × (Unit × (Unit × Unit))) :=
  (Option.bind (c_ref7_words ()) (fun (y_0 : (((List Int) × Unit) × Unit)) =>
   (L _ _ (fun again x => T_ref7_block_loop0 L c_ref7_right again x.1 x.2.1 x.2.2.1 x.2.2.2.1 x.2.2.2.2.1 x.2.2.2.2.2.1) (b_, (h_, ([(0 : Int), (0 : Int), (0 : Int), (0 : Int), (0 : Int), (0 : Int), (0 : Int), (0 : Int)], (y_0.1.1, ((List.replicate (64 : Nat) (0 : Int)), ((0 : Int), ())))))))))

noncomputable def sol_ref7_block : F_ref7_block := fun x => T_ref7_block bigLoop sol_ref7_words sol_ref7_right x.1 x.2.1

/-- pontage/pontageref7.Sum -/
abbrev s_ref7_Sum : Sig := ⟨[(.ro false (.slice (.int .u8)))], [(.ro true (.arr 32 (.int .u8)))]⟩
abbrev F_ref7_Sum := ((List Int) × Unit) → Option (((List Int) × Unit) × (Unit × Unit))

noncomputable def T_ref7_Sum_loop3 (again_17 : ((List Int) × ((List Int) × ((List Int) × (Int × Unit)))) → Option (((List Int) × Unit) × (Unit × Unit))) (t2_18 : (List Int)) (h_19 : (List Int)) (out_20 : (List Int)) (i_21 : Int) : Option (((List Int) × Unit) × (Unit × Unit)) :=
  (letR (Go.IntKind.wrap (Go.IntKind.u64) (Go.IntKind.wrap (Go.IntKind.i64) ((24 : Int) - (Go.IntKind.wrap (Go.IntKind.i64) ((8 : Int) * (Int.tmod i_21 (4 : Int))))))) fun (v_22 : Int) =>
  (brR (decide (i_21 < (32 : Int)))
   (brR (Go.Pon.inR (Go.IntKind.wrap (Go.IntKind.i64) (Int.tdiv i_21 (4 : Int))) (8 : Nat))
    (brR (decide ((0 : Int) ≤ v_22))
     (brR (Go.Pon.inR i_21 (32 : Nat))
      (again_17 (t2_18, (h_19, ((List.set out_20 (Int.toNat i_21) (Go.IntKind.wrap (Go.IntKind.u8) (Int.fdiv (List.getD h_19 (Int.toNat (Go.IntKind.wrap (Go.IntKind.i64) (Int.tdiv i_21 (4 : Int)))) (0 : Int)) ((2 : Int) ^ (min (Int.toNat v_22) (32 : Nat)))))), ((Go.IntKind.wrap (Go.IntKind.i64) (i_21 + (1 : Int))), ())))))
      none)
     none)
    none)
   (some ((out_20, ()), ((), ())))))

noncomputable def T_ref7_Sum_loop2 (L : LoopD) (c_ref7_block : F_ref7_block) (again_10 : ((List Int) × ((List Int) × ((List Int) × (Int × Unit)))) → Option (((List Int) × Unit) × (Unit × Unit))) (t2_11 : (List Int)) (m_12 : (List Int)) (h_13 : (List Int)) (i_14 : Int) : Option (((List Int) × Unit) × (Unit × Unit)) :=
  (letR (Go.IntKind.wrap (Go.IntKind.i64) (i_14 + (64 : Int))) fun (v_15 : Int) =>
  (brR (decide (i_14 < (((List.length m_12) : Nat) : Int)))
   (brR (((decide ((0 : Int) ≤ i_14)) && (decide (i_14 ≤ v_15))) && (decide (v_15 ≤ (((List.length m_12) : Nat) : Int))))
    (Option.bind (c_ref7_block (h_13, ((List.take ((Int.toNat v_15) - (Int.toNat i_14)) (List.drop (Int.toNat i_14) m_12)), ()))) (fun (y_16 : (((List Int) × Unit) × (Unit × (Unit × Unit)))) =>
     (again_10 (t2_11, (m_12, (y_16.1.1, (v_15, ())))))))
    none)
   (L _ _ (fun again x => T_ref7_Sum_loop3 again x.1 x.2.1 x.2.2.1 x.2.2.2.1) (t2_11, (h_13, ((List.replicate (32 : Nat) (0 : Int)), ((0 : Int), ())))))))

noncomputable def T_ref7_Sum_loop1 (L : LoopD) (c_ref7_block : F_ref7_block) (again_4 : ((List Int) × ((List Int) × (Int × (Int × Unit)))) → Option (((List Int) × Unit) × (Unit × Unit))) (t2_5 : (List Int)) (m_6 : (List Int)) (n_7 : Int) (i_8 : Int) : Option (((List Int) × Unit) × (Unit × Unit)) :=
  (letR (Go.IntKind.wrap (Go.IntKind.u64) (Go.IntKind.wrap (Go.IntKind.i64) ((8 : Int) * i_8))) fun (v_9 : Int) =>
  (brR (decide (i_8 ≥ (0 : Int)))
   (brR (decide ((0 : Int) ≤ v_9))
    (brR (Go.Pon.roomy ((List.length m_6) + (1 : Nat)) (Go.Pon.Ty.int Go.IntKind.u8))
     (again_4 (t2_5, ((List.append m_6 [(Go.IntKind.wrap (Go.IntKind.u8) (Int.fdiv n_7 ((2 : Int) ^ (min (Int.toNat v_9) (64 : Nat)))))]), (n_7, ((Go.IntKind.wrap (Go.IntKind.i64) (i_8 - (1 : Int))), ())))))
     none)
    none)
   (L _ _ (fun again x => T_ref7_Sum_loop2 L c_ref7_block again x.1 x.2.1 x.2.2.1 x.2.2.2.1) (t2_5, (m_6, ([(1779033703 : Int), (3144134277 : Int), (1013904242 : Int), (2773480762 : Int), (1359893119 : Int), (2600822924 : Int), (528734635 : Int), (1541459225 : Int)], ((0 : Int), ())))))))

noncomputable def T_ref7_Sum_loop0 (L : LoopD) (c_ref7_block : F_ref7_block) (again_0 : ((List Int) × ((List Int) × ((List Int) × Unit))) → Option (((List Int) × Unit) × (Unit × Unit))) (b_1 : (List Int)) (t2_2 : (List Int)) (m_3 : (List Int)) : Option (((List Int) × Unit) × (Unit × Unit)) :=
  (brR (!(decide ((Int.tmod (((List.length m_3) : Nat) : Int) (64 : Int)) = (56 : Int))))
   (brR (Go.Pon.roomy ((List.length m_3) + (1 : Nat)) (Go.Pon.Ty.int Go.IntKind.u8))
    (again_0 (b_1, (t2_2, ((List.append m_3 [(0 : Int)]), ()))))
    none)
   (L _ _ (fun again x => T_ref7_Sum_loop1 L c_ref7_block again x.1 x.2.1 x.2.2.1 x.2.2.2.1) (t2_2, (m_3, ((Go.IntKind.wrap (Go.IntKind.u64) ((Go.IntKind.wrap (Go.IntKind.u64) (((List.length b_1) : Nat) : Int)) * (8 : Int))), ((7 : Int), ()))))))

noncomputable def T_ref7_Sum (L : LoopD) (c_ref7_block : F_ref7_block) (b_ : (List Int)) : Option (((List Int) × Unit) × (Unit × Unit)) :=
  (brR (Go.Pon.roomy ((0 : Nat) + (List.length b_)) (Go.Pon.Ty.int Go.IntKind.u8))
   (brR (Go.Pon.roomy ((List.length b_) + (1 : Nat)) (Go.Pon.Ty.int Go.IntKind.u8))
    (L _ _ (fun again x => T_ref7_Sum_loop0 L c_ref7_block again x.1 x.2.1 x.2.2.1) (b_, ((List.replicate (32 : Nat) (0 : Int)), ((List.append b_ [(128 : Int)]), ()))))
    none)
   none)

noncomputable def sol_ref7_Sum : F_ref7_Sum := fun x => T_ref7_Sum bigLoop sol_ref7_block x.1

/-- pontage/pontageref7.Leaf -/
abbrev s_ref7_Leaf : Sig := ⟨[(.ro false (.slice (.int .u8)))], [(.ro true (.arr 32 (.int .u8)))]⟩
abbrev F_ref7_Leaf := ((List Int) × Unit) → Option (((List Int) × Unit) × (Unit × Unit))

noncomputable def T_ref7_Leaf (L : LoopD) (c_ref7_Sum : F_ref7_Sum) (b_ : (List Int)) : Option (((List Int) × Unit) × (Unit × Unit)) :=
  (brR (Go.Pon.roomy ((1 : Nat) + (List.length b_)) (Go.Pon.Ty.int Go.IntKind.u8))
   (Option.bind (c_ref7_Sum ((List.append [(0 : Int)] b_), ())) (fun (y_0 : (((List Int) × Unit) × (Unit × Unit))) =>
    (some ((y_0.1.1, ()), ((), ())))))
   none)

noncomputable def sol_ref7_Leaf : F_ref7_Leaf := fun x => T_ref7_Leaf bigLoop sol_ref7_Sum x.1

/-- pontage/pontageref7.Node -/
abbrev s_ref7_Node : Sig := ⟨[(.ro true (.arr 32 (.int .u8))), (.ro true (.arr 32 (.int .u8)))], [(.ro true (.arr 32 (.int .u8)))]⟩
abbrev F_ref7_Node := ((List Int) × ((List Int) × Unit)) → Option (((List Int) × Unit) × (Unit × (Unit × Unit)))

noncomputable def T_ref7_Node (L : LoopD) (c_ref7_Sum : F_ref7_Sum) (x_ : (List Int)) (y_ : (List Int)) : Option (((List Int) × Unit) × (Unit × (Unit × Unit))) :=
  (letR (List.take ((32 : Nat) - (0 : Nat)) (List.drop (0 : Nat) x_)) fun (v_0 : (List Int)) =>
  (letR (List.take ((32 : Nat) - (0 : Nat)) (List.drop (0 : Nat) y_)) fun (v_1 : (List Int)) =>
  (letR (List.append [(1 : Int)] v_0) fun (v_2 : (List Int)) =>
  (brR (Go.Pon.roomy ((1 : Nat) + (List.length v_0)) (Go.Pon.Ty.int Go.IntKind.u8))
   (brR (Go.Pon.roomy ((List.length v_2) + (List.length v_1)) (Go.Pon.Ty.int Go.IntKind.u8))
    (Option.bind (c_ref7_Sum ((List.append v_2 v_1), ())) (fun (y_3 : (((List Int) × Unit) × (Unit × Unit))) =>
     (some ((y_3.1.1, ()), ((), ((), ()))))))
    none)
   none))))

noncomputable def sol_ref7_Node : F_ref7_Node := fun x => T_ref7_Node bigLoop sol_ref7_Sum x.1 x.2.1

/-- pontage/pontageref7.Format -/
abbrev s_ref7_Format : Sig := ⟨[(.ro true (.arr 32 (.int .u8)))], [(.ro true .str)]⟩
abbrev F_ref7_Format := ((List Int) × Unit) → Option (((List Int) × Unit) × (Unit × Unit))

noncomputable def T_ref7_Format_loop0 (again_0 : ((List Int) × ((List Int) × (Int × Unit))) → Option (((List Int) × Unit) × (Unit × Unit))) (h_1 : (List Int)) (s_2 : (List Int)) (i_3 : Int) : Option (((List Int) × Unit) × (Unit × Unit)) :=
  (letR (Int.tmod (List.getD h_1 (Int.toNat i_3) (0 : Int)) (16 : Int)) fun (v_4 : Int) =>
  (letR (Go.IntKind.wrap (Go.IntKind.u8) (Int.tdiv (List.getD h_1 (Int.toNat i_3) (0 : Int)) (16 : Int))) fun (v_5 : Int) =>
  (letR (Go.IntKind.wrap (Go.IntKind.u8) (v_4 + (1 : Int))) fun (v_6 : Int) =>
  (letR (Go.IntKind.wrap (Go.IntKind.u8) (v_5 + (1 : Int))) fun (v_7 : Int) =>
  (letR (List.take ((Int.toNat v_6) - (Int.toNat v_4)) (List.drop (Int.toNat v_4) [(48 : Int), (49 : Int), (50 : Int), (51 : Int), (52 : Int), (53 : Int), (54 : Int), (55 : Int), (56 : Int), (57 : Int), (97 : Int), (98 : Int), (99 : Int), (100 : Int), (101 : Int), (102 : Int)])) fun (v_8 : (List Int)) =>
  (letR (List.take ((Int.toNat v_7) - (Int.toNat v_5)) (List.drop (Int.toNat v_5) [(48 : Int), (49 : Int), (50 : Int), (51 : Int), (52 : Int), (53 : Int), (54 : Int), (55 : Int), (56 : Int), (57 : Int), (97 : Int), (98 : Int), (99 : Int), (100 : Int), (101 : Int), (102 : Int)])) fun (v_9 : (List Int)) =>
  (letR (List.append s_2 v_9) fun (v_10 : (List Int)) =>
  (brR (decide (i_3 < (32 : Int)))
   (brR (Go.Pon.inR i_3 (32 : Nat))
    (brR (Go.Pon.inR i_3 (32 : Nat))
     (brR (((decide ((0 : Int) ≤ v_5)) && (decide (v_5 ≤ v_7))) && (decide (v_7 ≤ (16 : Int))))
      (brR (decide (((List.length s_2) + (List.length v_9)) ≤ (9223372036854775807 : Nat)))
       (brR (((decide ((0 : Int) ≤ v_4)) && (decide (v_4 ≤ v_6))) && (decide (v_6 ≤ (16 : Int))))
        (brR (decide (((List.length v_10) + (List.length v_8)) ≤ (9223372036854775807 : Nat)))
         (again_0 (h_1, ((List.append v_10 v_8), ((Go.IntKind.wrap (Go.IntKind.i64) (i_3 + (1 : Int))), ()))))
         none)
        none)
       none)
      none)
     none)
    none)
   (some ((s_2, ()), ((), ())))))))))))

noncomputable def T_ref7_Format (L : LoopD) (h_ : (List Int)) : Option (((List Int) × Unit) × (Unit × Unit)) :=
  (L _ _ (fun again x => T_ref7_Format_loop0 again x.1 x.2.1 x.2.2.1) (h_, (([] : List Int), ((0 : Int), ()))))

noncomputable def sol_ref7_Format : F_ref7_Format := fun x => T_ref7_Format bigLoop x.1

/-- pontage/pontageref7.HexDigit -/
abbrev s_ref7_HexDigit : Sig := ⟨[(.ro true (.int .u8))], [(.ro true (.int .i64))]⟩
abbrev F_ref7_HexDigit := (Int × Unit) → Option ((Int × Unit) × (Unit × Unit))

noncomputable def T_ref7_HexDigit (L : LoopD) (x_ : Int) : Option ((Int × Unit) × (Unit × Unit)) :=
  (brR (decide (x_ ≥ (48 : Int)))
   (brR (decide (x_ ≤ (57 : Int)))
    (some (((Go.IntKind.wrap (Go.IntKind.i64) (Go.IntKind.wrap (Go.IntKind.u8) (x_ - (48 : Int)))), ()), ((), ())))
    (brR (decide (x_ ≥ (97 : Int)))
     (brR (decide (x_ ≤ (102 : Int)))
      (some (((Go.IntKind.wrap (Go.IntKind.i64) ((Go.IntKind.wrap (Go.IntKind.i64) (Go.IntKind.wrap (Go.IntKind.u8) (x_ - (97 : Int)))) + (10 : Int))), ()), ((), ())))
      (some (((-1 : Int), ()), ((), ()))))
     (some (((-1 : Int), ()), ((), ())))))
   (brR (decide (x_ ≥ (97 : Int)))
    (brR (decide (x_ ≤ (102 : Int)))
     (some (((Go.IntKind.wrap (Go.IntKind.i64) ((Go.IntKind.wrap (Go.IntKind.i64) (Go.IntKind.wrap (Go.IntKind.u8) (x_ - (97 : Int)))) + (10 : Int))), ()), ((), ())))
     (some (((-1 : Int), ()), ((), ()))))
    (some (((-1 : Int), ()), ((), ())))))

noncomputable def sol_ref7_HexDigit : F_ref7_HexDigit := fun x => T_ref7_HexDigit bigLoop x.1

/-- pontage/pontageref7.Parse -/
abbrev s_ref7_Parse : Sig := ⟨[(.ro true .str)], [(.ro true (.arr 32 (.int .u8))), (.ro true (.int .i64))]⟩
abbrev F_ref7_Parse := ((List Int) × Unit) → Option (((List Int) × (Int × Unit)) × (Unit × Unit))

noncomputable def T_ref7_Parse_loop0 (c_ref7_HexDigit : F_ref7_HexDigit) (again_0 : ((List Int) × ((List Int) × ((List Int) × (Int × Unit)))) → Option (((List Int) × (Int × Unit)) × (Unit × Unit))) (s_1 : (List Int)) (t2_2 : (List Int)) (h_3 : (List Int)) (i_4 : Int) : Option (((List Int) × (Int × Unit)) × (Unit × Unit)) :=
  (brR (decide (i_4 < (64 : Int)))
   (brR (Go.Pon.inR i_4 (List.length s_1))
    (Option.bind (c_ref7_HexDigit ((List.getD s_1 (Int.toNat i_4) (0 : Int)), ())) (fun (y_5 : ((Int × Unit) × (Unit × Unit))) =>
     (brR (decide (y_5.1.1 < (0 : Int)))
      (some (((List.replicate (32 : Nat) (0 : Int)), ((3 : Int), ())), ((), ())))
      (brR (Go.Pon.inR (Go.IntKind.wrap (Go.IntKind.i64) (Int.tdiv i_4 (2 : Int))) (32 : Nat))
       (brR (Go.Pon.inR i_4 (List.length s_1))
        (Option.bind (c_ref7_HexDigit ((List.getD s_1 (Int.toNat i_4) (0 : Int)), ())) (fun (y_6 : ((Int × Unit) × (Unit × Unit))) =>
         (brR (Go.Pon.inR (Go.IntKind.wrap (Go.IntKind.i64) (Int.tdiv i_4 (2 : Int))) (32 : Nat))
          (again_0 (s_1, (t2_2, ((List.set h_3 (Int.toNat (Go.IntKind.wrap (Go.IntKind.i64) (Int.tdiv i_4 (2 : Int)))) (Go.IntKind.wrap (Go.IntKind.u8) ((Go.IntKind.wrap (Go.IntKind.u8) ((List.getD h_3 (Int.toNat (Go.IntKind.wrap (Go.IntKind.i64) (Int.tdiv i_4 (2 : Int)))) (0 : Int)) * (16 : Int))) + (Go.IntKind.wrap (Go.IntKind.u8) y_6.1.1)))), ((Go.IntKind.wrap (Go.IntKind.i64) (i_4 + (1 : Int))), ())))))
          none)))
        none)
       none))))
    none)
   (some ((h_3, ((0 : Int), ())), ((), ()))))

noncomputable def T_ref7_Parse (L : LoopD) (c_ref7_HexDigit : F_ref7_HexDigit) (s_ : (List Int)) : Option (((List Int) × (Int × Unit)) × (Unit × Unit)) :=
  (brR (!(decide ((((List.length s_) : Nat) : Int) = (64 : Int))))
   (some (((List.replicate (32 : Nat) (0 : Int)), ((3 : Int), ())), ((), ())))
   (L _ _ (fun again x => T_ref7_Parse_loop0 c_ref7_HexDigit again x.1 x.2.1 x.2.2.1 x.2.2.2.1) (s_, ((List.replicate (32 : Nat) (0 : Int)), ((List.replicate (32 : Nat) (0 : Int)), ((0 : Int), ()))))))

noncomputable def sol_ref7_Parse : F_ref7_Parse := fun x => T_ref7_Parse bigLoop sol_ref7_HexDigit x.1

end Go.Pon
/-
  What the reference of chapter 7 computes: the sum.
-/
set_option autoImplicit false
set_option linter.unusedVariables false
set_option linter.unusedSimpArgs false
set_option maxRecDepth 4000
namespace Go.Pon
open Go

theorem right_eq (x n : Nat) (h1 : 1 ≤ n) (h2 : n ≤ 31) : sol_ref7_right (((x : Nat) : Int), (((n : Nat) : Int), ())) = some ((((rotr x n : Nat) : Int), ()), ((), ((), ()))) := by
  unfold sol_ref7_right T_ref7_right
  simp only [letR_eq]
  rw [show (32 : Int) - ((n : Nat) : Int) = ((32 - n : Nat) : Int) by omega, w_u64 (by omega) (by omega), brR_dec, if_pos (by omega), brR_dec, if_pos (by omega)]
  simp only [Int.toNat_natCast]
  have p : ∀ k : Nat, (2 : Int) ^ k = ((2 ^ k : Nat) : Int) := fun k => by rw [Int.natCast_pow]; rfl
  rw [Nat.min_eq_left (by omega), Nat.min_eq_left (by omega), p, p, m32, d32, o32, or32_comm]
  rfl

theorem rr7 (x : Nat) : sol_ref7_right (((x : Nat) : Int), ((7 : Int), ())) = some ((((rotr x 7 : Nat) : Int), ()), ((), ((), ()))) := right_eq x 7 (by omega) (by omega)
theorem rr18 (x : Nat) : sol_ref7_right (((x : Nat) : Int), ((18 : Int), ())) = some ((((rotr x 18 : Nat) : Int), ()), ((), ((), ()))) := right_eq x 18 (by omega) (by omega)
theorem rr17 (x : Nat) : sol_ref7_right (((x : Nat) : Int), ((17 : Int), ())) = some ((((rotr x 17 : Nat) : Int), ()), ((), ((), ()))) := right_eq x 17 (by omega) (by omega)
theorem rr19 (x : Nat) : sol_ref7_right (((x : Nat) : Int), ((19 : Int), ())) = some ((((rotr x 19 : Nat) : Int), ()), ((), ((), ()))) := right_eq x 19 (by omega) (by omega)
theorem rr6 (x : Nat) : sol_ref7_right (((x : Nat) : Int), ((6 : Int), ())) = some ((((rotr x 6 : Nat) : Int), ()), ((), ((), ()))) := right_eq x 6 (by omega) (by omega)
theorem rr11 (x : Nat) : sol_ref7_right (((x : Nat) : Int), ((11 : Int), ())) = some ((((rotr x 11 : Nat) : Int), ()), ((), ((), ()))) := right_eq x 11 (by omega) (by omega)
theorem rr25 (x : Nat) : sol_ref7_right (((x : Nat) : Int), ((25 : Int), ())) = some ((((rotr x 25 : Nat) : Int), ()), ((), ((), ()))) := right_eq x 25 (by omega) (by omega)
theorem rr2 (x : Nat) : sol_ref7_right (((x : Nat) : Int), ((2 : Int), ())) = some ((((rotr x 2 : Nat) : Int), ()), ((), ((), ()))) := right_eq x 2 (by omega) (by omega)
theorem rr13 (x : Nat) : sol_ref7_right (((x : Nat) : Int), ((13 : Int), ())) = some ((((rotr x 13 : Nat) : Int), ()), ((), ((), ()))) := right_eq x 13 (by omega) (by omega)
theorem rr22 (x : Nat) : sol_ref7_right (((x : Nat) : Int), ((22 : Int), ())) = some ((((rotr x 22 : Nat) : Int), ()), ((), ((), ()))) := right_eq x 22 (by omega) (by omega)

theorem word_add {p q r s : Int} (hp : 0 ≤ p ∧ p ≤ 255) (hq : 0 ≤ q ∧ q ≤ 255) (hr : 0 ≤ r ∧ r ≤ 255) (hs : 0 ≤ s ∧ s ≤ 255) :
    IntKind.wrap .u32 (IntKind.wrap .u32 (IntKind.wrap .u32 (IntKind.wrap .u32 (IntKind.wrap .u32 p * 16777216) + IntKind.wrap .u32 (IntKind.wrap .u32 q * 65536)) + IntKind.wrap .u32 (IntKind.wrap .u32 r * 256)) + IntKind.wrap .u32 s) =
      ((p.toNat * 16777216 + q.toNat * 65536 + r.toNat * 256 + s.toNat : Nat) : Int) := by
  simp only [IntKind.wrap_u32]; omega

theorem words_eq : sol_ref7_words () = some ((castL kTab, ()), ()) := by
  unfold sol_ref7_words T_ref7_words; rfl

theorem block_third {s : List Nat} (hs : s.length = 8) (W : List Nat) (t2 : List Int) : bigLoop _ _ (fun again x => T_ref7_block_loop2 again x.1 x.2.1 x.2.2.1 x.2.2.2.1) (castL s, (t2, (castL (rounds (W) s 64), ((0 : Int), ())))) = some ((castL (addL (rounds W s 64) s 8), ()), ((), ((), ()))) := by
  refine bigLoop_rule (I := fun x => x.1 = castL s ∧ (0 : Int) ≤ x.2.2.2.1 ∧ x.2.2.2.1 ≤ (8 : Int) ∧ x.2.2.1 = castL (addL (rounds (W) s 64) s x.2.2.2.1.toNat)) (m := fun x => ((8 : Int) - x.2.2.2.1).toNat) (g := fun _ => some ((castL (addL (rounds W s 64) s 8), ()), ((), ((), ())))) ?_
    ⟨rfl, by simp only; omega, by simp only; omega, by simp only; rw [show (0 : Int).toNat = 0 from rfl, addL_zero (len_rounds hs 64)]⟩ (by simp only [bigN_eq]; omega)
  rintro ⟨s', t', t, i, _⟩ again ⟨e0, e1, e2, e3⟩ hag
  simp only at e0 e1 e2 e3 hag ⊢
  subst e0 e3
  obtain ⟨i, rfl⟩ := Int.eq_ofNat_of_zero_le e1
  simp only [T_ref7_block_loop2, letR_eq, brR_dec, brR_inR, Int.toNat_natCast]
  by_cases hi : i < 8
  · rw [if_pos (by omega), if_pos (by omega), if_pos (by omega), if_pos (by omega), castL_getD, castL_getD, a32, addL_getD hi, addL_set hi, w_i64 (by omega) (by omega)]
    exact hag _ ⟨rfl, by simp only; omega, by simp only; omega, by simp only; rw [show ((i : Int) + 1).toNat = i + 1 by omega]⟩ (by simp only; omega)
  · have : i = 8 := by omega
    subst this
    rw [if_neg (by omega)]

set_option maxHeartbeats 1000000 in
theorem block_second {s : List Nat} (hs : s.length = 8) (W : List Nat) (t2 : List Int) : bigLoop _ _ (fun again x => T_ref7_block_loop1 bigLoop sol_ref7_right again x.1 x.2.1 x.2.2.1 x.2.2.2.1 x.2.2.2.2.1 x.2.2.2.2.2.1) (castL s, (t2, (castL kTab, (castL (W), (castL s, ((0 : Int), ())))))) = some ((castL (addL (rounds W s 64) s 8), ()), ((), ((), ()))) := by
  refine bigLoop_rule (I := fun x => x.1 = castL s ∧ x.2.2.1 = castL kTab ∧ x.2.2.2.1 = castL (W) ∧ (0 : Int) ≤ x.2.2.2.2.2.1 ∧ x.2.2.2.2.2.1 ≤ (64 : Int) ∧ x.2.2.2.2.1 = castL (rounds (W) s x.2.2.2.2.2.1.toNat)) (m := fun x => ((64 : Int) - x.2.2.2.2.2.1).toNat) (g := fun _ => some ((castL (addL (rounds W s 64) s 8), ()), ((), ((), ())))) ?_
    ⟨rfl, rfl, rfl, by simp only; omega, by simp only; omega, rfl⟩ (by simp only [bigN_eq]; omega)
  rintro ⟨s', t', k', w', t, i, _⟩ again ⟨e0, e1, e2, e3, e4, e5⟩ hag
  simp only at e0 e1 e2 e3 e4 e5 hag ⊢
  subst e0 e1 e2 e5
  obtain ⟨i, rfl⟩ := Int.eq_ofNat_of_zero_le e3
  simp only [T_ref7_block_loop1, letR_eq, brR_dec, brR_inR, Int.toNat_natCast]
  by_cases hi : i < 64
  · have hin : (0 : Int) ≤ (i : Int) ∧ (i : Int) < ((64 : Nat) : Int) := by omega
    rw [if_pos (by omega)]
    simp only [castL_getD, rr6, rr11, rr25, rr2, rr13, rr22, bind_some', if_pos hin]
    rw [w_i64 (by omega) (by omega)]
    simp only [not32, x32, n32, a32]
    refine (congrArg again ?_).trans (hag (castL s, (t', (castL kTab, (castL (W), (castL (rounds (W) s (i + 1)), (((i : Int) + 1), ())))))) ⟨rfl, rfl, rfl, by simp only; omega, by simp only; omega, by simp only; rw [show ((i : Int) + 1).toNat = i + 1 by omega]⟩ (by simp only; omega))
    rw [rounds, rnd]
    simp only [castL, List.map_cons, List.map_nil, add32_assoc]
    rfl
  · have : i = 64 := by omega
    subst this
    rw [if_neg (by omega)]
    exact block_third hs W t'

set_option maxHeartbeats 1000000 in
theorem block_eq {s : List Nat} (hs : s.length = 8) {b : List Int} (hb : Bytes b) (hl : b.length = 64) : sol_ref7_block (castL s, (b, ())) = some ((castL (comp s b), ()), ((), ((), ()))) := by
  unfold sol_ref7_block T_ref7_block
  rw [words_eq]
  simp only [bind_some']
  refine bigLoop_rule (I := fun x => x.1 = b ∧ x.2.1 = castL s ∧ x.2.2.2.1 = castL kTab ∧ (0 : Int) ≤ x.2.2.2.2.2.1 ∧ x.2.2.2.2.2.1 ≤ (64 : Int) ∧ x.2.2.2.2.1 = part (sched b x.2.2.2.2.2.1.toNat) 64) (m := fun x => ((64 : Int) - x.2.2.2.2.2.1).toNat) (g := fun _ => some ((castL (comp s b), ()), ((), ((), ())))) ?_
    ⟨rfl, rfl, rfl, by simp only; omega, by simp only; omega, by simp only; exact part_nil.symm⟩ (by simp only [bigN_eq]; omega)
  rintro ⟨b', h', t, k', w, i, _⟩ again ⟨e0, e1, e2, e3, e4, e5⟩ hag
  simp only at e0 e1 e2 e3 e4 e5 hag ⊢
  subst e0 e1 e2 e5
  obtain ⟨i, rfl⟩ := Int.eq_ofNat_of_zero_le e3
  have hls := len_sched b' i
  simp only [T_ref7_block_loop0, letR_eq, brR_dec, brR_inR, Int.toNat_natCast]
  by_cases hi : i < 64
  · rw [if_pos (by omega)]
    by_cases h16 : i < 16
    · rw [if_pos (by omega), w_i64 (n := 4 * (i : Int)) (by omega) (by omega), w_i64 (n := 4 * (i : Int) + 3) (by omega) (by omega), w_i64 (n := 4 * (i : Int) + 2) (by omega) (by omega), w_i64 (n := 4 * (i : Int) + 1) (by omega) (by omega), w_i64 (n := (i : Int) + 1) (by omega) (by omega)]
      rw [show (4 * (i : Int)).toNat = 4 * i by omega, show (4 * (i : Int) + 1).toNat = 4 * i + 1 by omega, show (4 * (i : Int) + 2).toNat = 4 * i + 2 by omega, show (4 * (i : Int) + 3).toNat = 4 * i + 3 by omega]
      rw [if_pos (by omega), if_pos (by omega), if_pos (by omega), if_pos (by omega), if_pos (by omega), word_add (hb.at _) (hb.at _) (hb.at _) (hb.at _)]
      have es : (part (sched b' i) 64).set i ((word b' i : Nat) : Int) = part (sched b' (i + 1)) 64 := by
        have := part_set (l := sched b' i) (n := 64) (by omega) (word b' i)
        rw [hls] at this
        rw [this, sched, if_pos (by omega)]
      refine (congrArg again ?_).trans (hag (b', (castL s, (t, (castL kTab, (part (sched b' (i + 1)) 64, (((i : Int) + 1), ())))))) ⟨rfl, rfl, rfl, by simp only; omega, by simp only; omega, by simp only; rw [show ((i : Int) + 1).toNat = i + 1 by omega]⟩ (by simp only; omega))
      rw [← es]; rfl
    · rw [if_neg (by omega), w_i64 (n := (i : Int) - 7) (by omega) (by omega), w_i64 (n := (i : Int) - 16) (by omega) (by omega), w_i64 (n := (i : Int) - 2) (by omega) (by omega), w_i64 (n := (i : Int) - 15) (by omega) (by omega), w_i64 (n := (i : Int) + 1) (by omega) (by omega)]
      rw [show ((i : Int) - 7).toNat = i - 7 by omega, show ((i : Int) - 16).toNat = i - 16 by omega, show ((i : Int) - 2).toNat = i - 2 by omega, show ((i : Int) - 15).toNat = i - 15 by omega]
      rw [if_pos (by omega), if_pos (by omega), if_pos (by omega), part_getD (j := i - 7) (by omega), part_getD (j := i - 16) (by omega), part_getD (j := i - 2) (by omega), part_getD (j := i - 15) (by omega)]
      have hA : (0 : Int) ≤ (i : Int) - 7 ∧ (i : Int) - 7 < ((64 : Nat) : Int) := by omega
      have hB : (0 : Int) ≤ (i : Int) ∧ (i : Int) < ((64 : Nat) : Int) := by omega
      simp only [rr7, rr18, rr17, rr19, bind_some', if_pos hA, if_pos hB]
      simp only [x32, d32_8, d32_1024, a32]
      have es : (part (sched b' i) 64).set i ((nextW (sched b' i) i : Nat) : Int) = part (sched b' (i + 1)) 64 := by
        have := part_set (l := sched b' i) (n := 64) (by omega) (nextW (sched b' i) i)
        rw [hls] at this
        rw [this, sched, if_neg (by omega)]
      refine (congrArg again ?_).trans (hag (b', (castL s, (t, (castL kTab, (part (sched b' (i + 1)) 64, (((i : Int) + 1), ())))))) ⟨rfl, rfl, rfl, by simp only; omega, by simp only; omega, by simp only; rw [show ((i : Int) + 1).toNat = i + 1 by omega]⟩ (by simp only; omega))
      rw [← es]; rfl
  · have : i = 64 := by omega
    subst this
    rw [if_neg (by omega)]
    have := part_full (l := sched b' 64)
    rw [hls] at this
    rw [this]
    exact block_second hs (sched b' 64) t

theorem rsumOut_eq {s : List Nat} (t2 : List Int) : bigLoop _ _ (fun again x => T_ref7_Sum_loop3 again x.1 x.2.1 x.2.2.1 x.2.2.2.1) (t2, (castL s, (List.replicate 32 0, ((0 : Int), ())))) = some ((shaOut s, ()), ((), ())) := by
  refine bigLoop_rule (I := fun x => x.2.1 = castL s ∧ (0 : Int) ≤ x.2.2.2.1 ∧ x.2.2.2.1 ≤ (32 : Int) ∧ x.2.2.1 = part (outN s x.2.2.2.1.toNat) 32) (m := fun x => ((32 : Int) - x.2.2.2.1).toNat) (g := fun _ => some ((shaOut s, ()), ((), ()))) ?_
    ⟨rfl, by simp only; omega, by simp only; omega, part_nil.symm⟩ (by simp only [bigN_eq]; omega)
  rintro ⟨t, s', h, i, _⟩ again ⟨e0, e1, e2, e3⟩ hag
  simp only at e0 e1 e2 e3 hag ⊢
  subst e0 e3
  obtain ⟨i, rfl⟩ := Int.eq_ofNat_of_zero_le e1
  have hls := len_outN s i
  simp only [T_ref7_Sum_loop3, letR_eq, brR_dec, brR_inR, Int.toNat_natCast]
  by_cases hi : i < 32
  · rw [if_pos (by omega), tdiv_pos (by omega), tmod_pos (by omega), w_i64 (n := (i : Int) / 4) (by omega) (by omega), w_i64 (n := 8 * ((i : Int) % 4)) (by omega) (by omega), w_i64 (n := 24 - 8 * ((i : Int) % 4)) (by omega) (by omega), w_u64 (n := 24 - 8 * ((i : Int) % 4)) (by omega) (by omega), w_i64 (n := (i : Int) + 1) (by omega) (by omega), if_pos (by omega), if_pos (by omega), if_pos (by omega)]
    rw [show ((i : Int) / 4).toNat = i / 4 by omega, show (24 - 8 * ((i : Int) % 4)).toNat = 24 - 8 * (i % 4) by omega, Nat.min_eq_left (by omega), out_byte]
    have es := part_set (l := outN s i) (n := 32) (by omega) (s.getD (i / 4) 0 / 2 ^ (24 - 8 * (i % 4)) % 256)
    rw [hls, ← outN_succ] at es
    rw [es]
    exact hag _ ⟨rfl, by simp only; omega, by simp only; omega, by simp only; rw [show ((i : Int) + 1).toNat = i + 1 by omega]⟩ (by simp only; omega)
  · have : i = 32 := by omega
    subst this
    rw [if_neg (by omega)]
    have := part_full (l := outN s 32)
    rw [hls, outN_32] at this
    rw [this]

theorem rsumBlocks_eq {m : List Int} (hm : Bytes m) {n : Nat} (hn : m.length = 64 * n) (hl : m.length ≤ 1000000000) (t2 : List Int) :
    bigLoop _ _ (fun again x => T_ref7_Sum_loop2 bigLoop sol_ref7_block again x.1 x.2.1 x.2.2.1 x.2.2.2.1) (t2, (m, (castL iv, ((0 : Int), ())))) = some ((shaOut (states m n), ()), ((), ())) := by
  refine bigLoop_rule (I := fun x => x.2.1 = m ∧ ∃ i : Nat, i ≤ n ∧ x.2.2.2.1 = ((64 * i : Nat) : Int) ∧ x.2.2.1 = castL (states m i)) (m := fun x => ((m.length : Int) - x.2.2.2.1).toNat) (g := fun _ => some ((shaOut (states m n), ()), ((), ()))) ?_
    ⟨rfl, 0, by omega, rfl, rfl⟩ (by simp only [bigN_eq]; omega)
  rintro ⟨t, m', s, a, _⟩ again ⟨e0, i, hi, e2, e3⟩ hag
  simp only at e0 e2 e3 hag ⊢
  subst e0 e2 e3
  simp only [T_ref7_Sum_loop2, letR_eq, brR_dec, brR_and, Int.toNat_natCast]
  by_cases hc : i < n
  · rw [if_pos (by omega), w_i64 (by omega) (by omega), if_pos (by omega), if_pos (by omega), if_pos (by omega), show (((64 * i : Nat) : Int) + 64).toNat - 64 * i = 64 by omega,
      block_eq (len_states m' i) ((hm.drop _).take _) (by rw [List.length_take, List.length_drop]; omega)]
    simp only [bind_some']
    exact hag _ ⟨rfl, i + 1, by omega, by simp only; omega, rfl⟩ (by simp only; omega)
  · have : i = n := by omega
    subst this
    rw [if_neg (by omega)]
    exact rsumOut_eq t

theorem rsumLen_eq {l : List Int} (hb : Bytes l) {n k : Nat} (hn : n < 18446744073709551616) (hk : l.length + 8 = 64 * k) (hl : l.length ≤ 900000000) (t2 : List Int) :
    bigLoop _ _ (fun again x => T_ref7_Sum_loop1 bigLoop sol_ref7_block again x.1 x.2.1 x.2.2.1 x.2.2.2.1) (t2, (l, (((n : Nat) : Int), ((7 : Int), ())))) = some ((shaOut (states (l ++ beB 8 n) k), ()), ((), ())) := by
  refine Eq.trans (bigLoop_rule (I := fun x => x.2.2.1 = ((n : Nat) : Int) ∧ (-1 : Int) ≤ x.2.2.2.1 ∧ x.2.2.2.1 ≤ (7 : Int) ∧ Bytes x.2.1 ∧ (x.2.1.length : Int) + x.2.2.2.1 + 1 = ((64 * k : Nat) : Int)) (m := fun x => (x.2.2.2.1 + 1).toNat) (g := fun x => some ((shaOut (states (x.2.1 ++ beB (x.2.2.2.1 + 1).toNat n) k), ()), ((), ()))) ?_
    ⟨rfl, by simp only; omega, by simp only; omega, hb, by simp only; omega⟩ (by simp only [bigN_eq]; omega)) rfl
  rintro ⟨t, l', n', i, _⟩ again ⟨e0, e1, e2, e3, e4⟩ hag
  simp only at e0 e1 e2 e3 e4 hag ⊢
  subst e0
  simp only [T_ref7_Sum_loop1, letR_eq, brR_dec, append_def, ge_iff_le]
  by_cases hi : 0 ≤ i
  · obtain ⟨j, rfl⟩ := Int.eq_ofNat_of_zero_le hi
    rw [if_pos hi, w_i64 (n := 8 * (j : Int)) (by omega) (by omega), w_u64 (n := 8 * (j : Int)) (by omega) (by omega), if_pos (by omega), brR_room8 (by omega), w_i64 (by omega) (by omega), show (8 * (j : Int)).toNat = 8 * j by omega, Nat.min_eq_left (by omega)]
    have p : ∀ k : Nat, (2 : Int) ^ k = ((2 ^ k : Nat) : Int) := fun k => by rw [Int.natCast_pow]; rfl
    have hby : IntKind.wrap .u8 (Int.fdiv ((n : Nat) : Int) ((2 : Int) ^ (8 * j))) = ((n / 256 ^ j % 256 : Nat) : Int) := by
      rw [p, d32, IntKind.wrap_u8, pow256]; omega
    rw [hby, hag _ ⟨rfl, by simp only; omega, by simp only; omega, e3.append (by intro x hx; simp only [List.mem_singleton] at hx; subst hx; omega), by simp only [List.length_append, List.length_singleton]; omega⟩ (by simp only; omega)]
    simp only
    rw [show ((j : Int) - 1 + 1).toNat = j by omega, show ((j : Int) + 1).toNat = j + 1 by omega, beB]; simp
  · have : i = -1 := by omega
    subst this
    rw [if_neg hi]
    have := rsumBlocks_eq e3 (n := k) (by omega) (by omega) t
    refine Eq.trans this ?_
    simp [beB]

theorem rsum_eq {b : List Int} (hb : Bytes b) (hl : b.length ≤ 100000000) : sol_ref7_Sum (b, ()) = some ((sha b, ()), ((), ())) := by
  unfold sol_ref7_Sum T_ref7_Sum
  simp only [append_def]
  rw [brR_room8 (by omega), brR_room8 (by omega)]
  refine bigLoop_rule (I := fun x => x.1 = b ∧ ∃ j : Nat, j ≤ (119 - b.length % 64) % 64 ∧ x.2.2.1 = b ++ 128 :: List.replicate j 0) (m := fun x => b.length + 100 - x.2.2.1.length) (g := fun _ => some ((sha b, ()), ((), ()))) ?_
    ⟨rfl, 0, by omega, rfl⟩ (by simp only [bigN_eq]; omega)
  rintro ⟨b', t, l, _⟩ again ⟨e0, j, hj, e1⟩ hag
  simp only at e0 e1 hag ⊢
  subst e0 e1
  have hlen : (b' ++ 128 :: List.replicate j (0 : Int)).length = b'.length + 1 + j := by simp; omega
  simp only [T_ref7_Sum_loop0, letR_eq, brR_dec, brR_not, append_def]
  rw [tmod_pos (by omega), hlen, brR_room8 (by omega)]
  by_cases hc : j = (119 - b'.length % 64) % 64
  · rw [if_pos (by omega), w_u64 (n := ((b'.length : Nat) : Int)) (by omega) (by omega), w_u64 (by omega) (by omega), show ((b'.length : Nat) : Int) * 8 = ((b'.length * 8 : Nat) : Int) by omega]
    have hby : Bytes (b' ++ 128 :: List.replicate j (0 : Int)) := hb.append (by
      intro x hx
      rcases List.mem_cons.1 hx with rfl | hx
      · omega
      · rw [List.eq_of_mem_replicate hx]; omega)
    refine (rsumLen_eq hby (n := b'.length * 8) (k := (b'.length + 1 + j + 8) / 64) (by omega) (by omega) (by omega) t).trans ?_
    have hp : b' ++ 128 :: List.replicate j (0 : Int) ++ beB 8 (b'.length * 8) = padded b' := by simp [padded, hc]
    have hpl : (padded b').length = b'.length + 1 + j + 8 := by rw [← hp, List.length_append, hlen, len_beB]
    rw [hp, ← hpl]; rfl
  · rw [if_neg (by omega)]
    have e : b' ++ 128 :: List.replicate j (0 : Int) ++ [0] = b' ++ 128 :: List.replicate (j + 1) 0 := by
      rw [List.replicate_succ']; simp
    exact hag _ ⟨rfl, j + 1, by omega, by simp only; exact e⟩ (by simp only [e, hlen]; simp; omega)

end Go.Pon
/-
  What package hash and its reference compute: leaves, nodes, the hexadecimal form.
-/
set_option autoImplicit false
set_option linter.unusedVariables false
set_option linter.unusedSimpArgs false
set_option maxRecDepth 100000
namespace Go.Pon
open Go

/-- A hash. -/
def H32 (h : List Int) : Prop := h.length = 32 ∧ Bytes h

theorem h32_sha (b : List Int) : H32 (sha b) := ⟨len_sha b, bytes_sha b⟩
theorem h32_wf {h : List Int} (hw : (Ty.arr 32 (.int .u8)).wf h) : H32 h := ⟨hw.1, fun x hx => inK_u8.1 (hw.2 x hx)⟩

def leafH (b : List Int) : List Int := sha (0 :: b)
def nodeH (x y : List Int) : List Int := sha (1 :: (x ++ y))

theorem bytes_cons {x : Int} {b : List Int} (hx : 0 ≤ x ∧ x ≤ 255) (hb : Bytes b) : Bytes (x :: b) := fun y hy => by
  rcases List.mem_cons.1 hy with rfl | hy
  · exact hx
  · exact hb y hy

theorem leaf_eq {b : List Int} (hb : Bytes b) (hl : b.length ≤ 90000000) : sol_hash_Leaf (b, ()) = some ((leafH b, ()), ((), ())) := by
  unfold sol_hash_Leaf T_hash_Leaf
  rw [concat_eq (by simp; omega) (by simp)]
  simp only [bind_some', List.flatten_cons, List.flatten_nil, List.append_nil, List.cons_append, List.nil_append]
  rw [sum_eq (bytes_cons (by omega) hb) (by simp; omega)]
  rfl

theorem take32 {x : List Int} (h : x.length = 32) : List.take (32 - 0) (List.drop 0 x) = x := by
  rw [List.drop_zero, List.take_of_length_le (by omega)]

theorem node_eq {x y : List Int} (hx : H32 x) (hy : H32 y) : sol_hash_Node (x, (y, ())) = some ((nodeH x y, ()), ((), ((), ()))) := by
  unfold sol_hash_Node T_hash_Node
  simp only
  have h1 := hx.1
  have h2 := hy.1
  rw [take32 h1, take32 h2, concat_eq (by simp; omega) (by simp)]
  simp only [bind_some', List.flatten_cons, List.flatten_nil, List.append_nil, List.cons_append, List.nil_append]
  rw [sum_eq (bytes_cons (by omega) (hx.2.append hy.2)) (by simp; omega)]
  rfl

theorem rleaf_eq {b : List Int} (hb : Bytes b) (hl : b.length ≤ 90000000) : sol_ref7_Leaf (b, ()) = some ((leafH b, ()), ((), ())) := by
  unfold sol_ref7_Leaf T_ref7_Leaf
  simp only [append_def]
  rw [brR_room8 (by omega), rsum_eq (b := [0] ++ b) (bytes_cons (by omega) hb) (by simp; omega)]
  rfl

theorem rnode_eq {x y : List Int} (hx : H32 x) (hy : H32 y) : sol_ref7_Node (x, (y, ())) = some ((nodeH x y, ()), ((), ((), ()))) := by
  unfold sol_ref7_Node T_ref7_Node
  simp only [letR_eq, append_def]
  have h1 := hx.1
  have h2 := hy.1
  rw [take32 h1, take32 h2, brR_room8 (by omega), brR_room8 (by simp; omega), rsum_eq (b := [1] ++ x ++ y) (bytes_cons (by omega) (hx.2.append hy.2)) (by simp; omega)]
  rfl

theorem h32_node (x y : List Int) : H32 (nodeH x y) := h32_sha _
theorem h32_leaf (x : List Int) : H32 (leafH x) := h32_sha _

theorem eqD_h32 (x y : List Int) : eqD (.arr 32 (.int .u8)) x y = decide (x = y) := eqD_dec _ _ _

/-! ### The hexadecimal form -/

def hexc : List Int := [48, 49, 50, 51, 52, 53, 54, 55, 56, 57, 97, 98, 99, 100, 101, 102]

def hex2 (x : Int) : List Int := [hexc.getD (x.toNat / 16) 0, hexc.getD (x.toNat % 16) 0]

def fmtH (h : List Int) : List Int := h.flatMap hex2

theorem len_fmtH : ∀ h : List Int, (fmtH h).length = 2 * h.length
  | [] => rfl
  | x :: h => by
    have := len_fmtH h
    simp only [fmtH, List.flatMap_cons, List.length_append, List.length_cons] at this ⊢
    simp only [hex2, List.length_cons, List.length_nil] at this ⊢
    omega

theorem fmtH_take {h : List Int} {i : Nat} (hi : i < h.length) : fmtH (h.take (i + 1)) = fmtH (h.take i) ++ hex2 (h.getD i 0) := by
  rw [List.take_succ_eq_append_getElem hi, fmtH, List.flatMap_append, List.getD_eq_getElem?_getD, List.getElem?_eq_getElem hi]; simp [fmtH]

theorem and15 {x : Int} (h : 0 ≤ x ∧ x ≤ 255) : IntKind.wrap .u8 ((BitVec.toNat (BitVec.ofInt 8 x &&& BitVec.ofInt 8 15) : Nat) : Int) = ((x.toNat % 16 : Nat) : Int) := by
  have key : ∀ n, n < 256 → IntKind.wrap .u8 ((BitVec.toNat (BitVec.ofInt 8 ((n : Nat) : Int) &&& BitVec.ofInt 8 15) : Nat) : Int) = ((n % 16 : Nat) : Int) := by decide
  obtain ⟨n, rfl⟩ := Int.eq_ofNat_of_zero_le h.1
  exact key n (by omega)

theorem format_eq {h : List Int} (hh : H32 h) : sol_hash_Format (h, ()) = some ((fmtH h, ()), ((), ())) := by
  unfold sol_hash_Format T_hash_Format
  obtain ⟨h1, h2⟩ := hh
  refine bigLoop_rule (I := fun x => x.2.1 = h ∧ (0 : Int) ≤ x.2.2.1 ∧ x.2.2.1 ≤ (32 : Int) ∧ x.1 = fmtH (h.take x.2.2.1.toNat)) (m := fun x => ((32 : Int) - x.2.2.1).toNat) (g := fun _ => some ((fmtH h, ()), ((), ()))) ?_
    ⟨rfl, by simp only; omega, by simp only; omega, rfl⟩ (by simp only [bigN_eq]; omega)
  rintro ⟨o, h', i, _⟩ again ⟨e0, e1, e2, e3⟩ hag
  simp only at e0 e1 e2 e3 hag ⊢
  subst e0 e3
  obtain ⟨i, rfl⟩ := Int.eq_ofNat_of_zero_le e1
  simp only [T_hash_Format_loop0, letR_eq, brR_dec, brR_inR, append_def, Int.toNat_natCast]
  by_cases hi : i < 32
  · have hb := h2.at i
    have hle : (fmtH (h'.take i)).length ≤ 64 := by rw [len_fmtH, List.length_take]; omega
    rw [if_pos (by omega), if_pos (by omega), and15 hb, Int.fdiv_eq_ediv_of_nonneg _ (by omega), if_pos (by omega), if_pos (by omega), brR_room8 (by omega), w_i64 (by omega) (by omega), show (h'.getD i 0 / 16).toNat = (h'.getD i 0).toNat / 16 by omega, Int.toNat_natCast]
    exact hag _ ⟨rfl, by simp only; omega, by simp only; omega, by simp only; rw [show ((i : Int) + 1).toNat = i + 1 by omega, fmtH_take (by omega)]; rfl⟩ (by simp only; omega)
  · have : i = 32 := by omega
    subst this
    rw [if_neg (by omega), List.take_of_length_le (by omega)]

theorem hexc_cut : ∀ m, m < 16 → (hexc.drop m).take (m + 1 - m) = [hexc.getD m 0] := by decide

theorem rformat_eq {h : List Int} (hh : H32 h) : sol_ref7_Format (h, ()) = some ((fmtH h, ()), ((), ())) := by
  unfold sol_ref7_Format T_ref7_Format
  obtain ⟨h1, h2⟩ := hh
  refine bigLoop_rule (I := fun x => x.1 = h ∧ (0 : Int) ≤ x.2.2.1 ∧ x.2.2.1 ≤ (32 : Int) ∧ x.2.1 = fmtH (h.take x.2.2.1.toNat)) (m := fun x => ((32 : Int) - x.2.2.1).toNat) (g := fun _ => some ((fmtH h, ()), ((), ()))) ?_
    ⟨rfl, by simp only; omega, by simp only; omega, rfl⟩ (by simp only [bigN_eq]; omega)
  rintro ⟨h', o, i, _⟩ again ⟨e0, e1, e2, e3⟩ hag
  simp only at e0 e1 e2 e3 hag ⊢
  subst e0 e3
  obtain ⟨i, rfl⟩ := Int.eq_ofNat_of_zero_le e1
  simp only [T_ref7_Format_loop0, letR_eq, brR_dec, brR_inR, brR_and, append_def, Int.toNat_natCast]
  by_cases hi : i < 32
  · have hb := h2.at i
    have hle : (fmtH (h'.take i)).length ≤ 64 := by rw [len_fmtH, List.length_take]; omega
    rw [if_pos (by omega), if_pos (by omega), if_pos (by omega), tdiv_pos hb.1, tmod_pos hb.1, w_u8 (n := h'.getD i 0 / 16) (by omega) (by omega), w_u8 (n := h'.getD i 0 / 16 + 1) (by omega) (by omega), w_u8 (n := h'.getD i 0 % 16 + 1) (by omega) (by omega)]
    have c1 := hexc_cut ((h'.getD i 0).toNat / 16) (by omega)
    have c2 := hexc_cut ((h'.getD i 0).toNat % 16) (by omega)
    rw [show (h'.getD i 0 / 16 + 1).toNat = (h'.getD i 0).toNat / 16 + 1 by omega, show (h'.getD i 0 / 16).toNat = (h'.getD i 0).toNat / 16 by omega, show (h'.getD i 0 % 16 + 1).toNat = (h'.getD i 0).toNat % 16 + 1 by omega, show (h'.getD i 0 % 16).toNat = (h'.getD i 0).toNat % 16 by omega]
    rw [show ([48, 49, 50, 51, 52, 53, 54, 55, 56, 57, 97, 98, 99, 100, 101, 102] : List Int) = hexc from rfl, c1, c2, if_pos (by omega), if_pos (by omega), if_pos (by omega), if_pos (by simp; omega), if_pos (by omega), if_pos (by omega), if_pos (by omega), if_pos (by simp; omega), w_i64 (by omega) (by omega)]
    exact hag _ ⟨rfl, by simp only; omega, by simp only; omega, by simp only; rw [show ((i : Int) + 1).toNat = i + 1 by omega, fmtH_take (by omega), List.append_assoc]; rfl⟩ (by simp only; omega)
  · have : i = 32 := by omega
    subst this
    rw [if_neg (by omega), List.take_of_length_le (by omega)]

/-- The value of a hexadecimal digit, or -1. -/
def hv (c : Int) : Int := if 48 ≤ c ∧ c ≤ 57 then c - 48 else if 97 ≤ c ∧ c ≤ 102 then c - 87 else -1

theorem hv_lt (c : Int) : -1 ≤ hv c ∧ hv c ≤ 15 := by unfold hv; split <;> (try split) <;> omega

theorem digit_eq (c : Int) : sol_hash_digit (c, ()) = some ((if hv c < 0 then 0 else hv c, (decide (0 ≤ hv c), ())), ((), ())) := by
  unfold sol_hash_digit T_hash_digit hv
  simp only [brR_dec, ge_iff_le]
  by_cases h1 : 48 ≤ c <;> by_cases h2 : c ≤ 57 <;> by_cases h3 : 97 ≤ c <;> by_cases h4 : c ≤ 102 <;> simp only [h1, h2, h3, h4, if_true, if_false, true_and, false_and, and_true, and_false]
  all_goals try omega
  all_goals try rfl
  all_goals first
    | (rw [w_u8 (n := c - 48) (by omega) (by omega), if_neg (by omega), decide_eq_true (by omega)]; done)
    | (rw [w_u8 (n := c - 97) (by omega) (by omega), w_u8 (by omega) (by omega), if_neg (by omega), decide_eq_true (by omega), show c - 97 + 10 = c - 87 by omega])

theorem hexDigit_eq (c : Int) : sol_ref7_HexDigit (c, ()) = some ((hv c, ()), ((), ())) := by
  unfold sol_ref7_HexDigit T_ref7_HexDigit hv
  simp only [brR_dec, ge_iff_le]
  by_cases h1 : 48 ≤ c <;> by_cases h2 : c ≤ 57 <;> by_cases h3 : 97 ≤ c <;> by_cases h4 : c ≤ 102 <;> simp only [h1, h2, h3, h4, if_true, if_false, true_and, false_and, and_true, and_false]
  all_goals try omega
  all_goals try rfl
  all_goals first
    | (rw [w_u8 (n := c - 48) (by omega) (by omega), w_i64 (by omega) (by omega)]; done)
    | (rw [w_u8 (n := c - 97) (by omega) (by omega), w_i64 (n := c - 97) (by omega) (by omega), w_i64 (by omega) (by omega), show c - 97 + 10 = c - 87 by omega])

/-- The bytes that the first i digits give. -/
def hN (s : List Int) (i : Nat) : List Int := (List.range 32).map fun k => if 2 * k + 1 < i then hv (s.getD (2 * k) 0) * 16 + hv (s.getD (2 * k + 1) 0) else if 2 * k < i then hv (s.getD (2 * k) 0) else 0

theorem len_hN (s : List Int) (i : Nat) : (hN s i).length = 32 := by simp [hN]

theorem hN_getD {s : List Int} {i k : Nat} (hk : k < 32) : (hN s i).getD k 0 = if 2 * k + 1 < i then hv (s.getD (2 * k) 0) * 16 + hv (s.getD (2 * k + 1) 0) else if 2 * k < i then hv (s.getD (2 * k) 0) else 0 := by
  rw [hN, List.getD_eq_getElem?_getD, List.getElem?_map, List.getElem?_range hk]; rfl

theorem hN_ext {s : List Int} {l : List Int} {i : Nat} (hl : l.length = 32) (h : ∀ k, k < 32 → l.getD k 0 = (hN s i).getD k 0) : l = hN s i := by
  apply List.ext_getElem
  · rw [hl, len_hN]
  · intro k h1 h2
    have := h k (by omega)
    rw [List.getD_eq_getElem?_getD, List.getElem?_eq_getElem h1, List.getD_eq_getElem?_getD, List.getElem?_eq_getElem h2] at this
    exact this

theorem lgetD_set {l : List Int} {i k : Nat} {x : Int} (hi : i < l.length) : (l.set i x).getD k 0 = if k = i then x else l.getD k 0 := by
  rw [List.getD_eq_getElem?_getD, List.getElem?_set]
  by_cases h : i = k
  · subst h; rw [if_pos rfl, if_pos hi, if_pos rfl]; rfl
  · rw [if_neg h, if_neg (fun e => h e.symm), List.getD_eq_getElem?_getD]

/-- Sixty-four hexadecimal digits. -/
def Hex64 (s : List Int) : Prop := s.length = 64 ∧ ∀ i, i < 64 → 0 ≤ hv (s.getD i 0)

noncomputable instance (s : List Int) : Decidable (Hex64 s) := Classical.propDecidable _

/-- What Parse gives. -/
noncomputable def parseH (s : List Int) : List Int × (Int × Unit) :=
  if Hex64 s then (hN s 64, (0, ())) else (List.replicate 32 0, (3, ()))

theorem hN_zero (s : List Int) : hN s 0 = List.replicate 32 0 := by
  symm
  refine hN_ext (by simp) fun k hk => ?_
  rw [hN_getD hk, if_neg (by omega), if_neg (by omega), List.getD_eq_getElem?_getD, List.getElem?_replicate, if_pos hk]; rfl

theorem parse_eq (s : List Int) (hs : s.length ≤ 1000000000) : sol_hash_Parse (s, ()) = some (parseH s, ((), ())) := by
  unfold sol_hash_Parse T_hash_Parse parseH
  simp only [brR_not, brR_dec]
  by_cases hl : s.length = 64
  · rw [if_pos (by omega)]
    refine bigLoop_rule (I := fun x => x.1 = s ∧ (0 : Int) ≤ x.2.2.2.1 ∧ x.2.2.2.1 ≤ (32 : Int) ∧ x.2.2.1 = hN s (2 * x.2.2.2.1.toNat) ∧ ∀ i, i < 2 * x.2.2.2.1.toNat → 0 ≤ hv (s.getD i 0)) (m := fun x => ((32 : Int) - x.2.2.2.1).toNat)
      (g := fun _ => some (if Hex64 s then (hN s 64, (0, ())) else (List.replicate 32 0, (3, ())), ((), ()))) ?_
      ⟨rfl, by simp only; omega, by simp only; omega, (hN_zero s).symm, fun i hi => by simp at hi⟩ (by simp only [bigN_eq]; omega)
    rintro ⟨s', t, h, i, _⟩ again ⟨e0, e1, e2, e3, e4⟩ hag
    simp only at e0 e1 e2 e3 e4 hag ⊢
    subst e0 e3
    obtain ⟨i, rfl⟩ := Int.eq_ofNat_of_zero_le e1
    simp only [Int.toNat_natCast] at e4
    simp only [T_hash_Parse_loop0, letR_eq, brR_dec, brR_inR, brR_not, Int.toNat_natCast]
    by_cases hi : i < 32
    · rw [if_pos (by omega), w_i64 (n := 2 * (i : Int)) (by omega) (by omega), w_i64 (n := 2 * (i : Int) + 1) (by omega) (by omega), if_pos (by omega), show (2 * (i : Int)).toNat = 2 * i by omega, show (2 * (i : Int) + 1).toNat = 2 * i + 1 by omega, digit_eq, digit_eq]
      simp only [bind_some']
      rw [if_pos (by omega), brR_dec, brR_dec]
      have b1 := hv_lt (s'.getD (2 * i) 0)
      have b2 := hv_lt (s'.getD (2 * i + 1) 0)
      by_cases c1 : 0 ≤ hv (s'.getD (2 * i) 0)
      · rw [if_pos c1]
        by_cases c2 : 0 ≤ hv (s'.getD (2 * i + 1) 0)
        · rw [if_pos c2, if_pos (by omega), if_neg (by omega), if_neg (by omega), w_i64 (by omega) (by omega)]
          have key : ∀ p, p < 16 → ∀ q, q < 16 → IntKind.wrap .u8 ((BitVec.toNat (BitVec.ofInt 8 (IntKind.wrap .u8 (((p : Nat) : Int) * 16)) ||| BitVec.ofInt 8 ((q : Nat) : Int)) : Nat) : Int) = ((p : Nat) : Int) * 16 + ((q : Nat) : Int) := by decide
          have kk := key (hv (s'.getD (2 * i) 0)).toNat (by omega) (hv (s'.getD (2 * i + 1) 0)).toNat (by omega)
          rw [show (((hv (s'.getD (2 * i) 0)).toNat : Nat) : Int) = hv (s'.getD (2 * i) 0) by omega, show (((hv (s'.getD (2 * i + 1) 0)).toNat : Nat) : Int) = hv (s'.getD (2 * i + 1) 0) by omega] at kk
          rw [kk]
          refine hag _ ⟨rfl, by simp only; omega, by simp only; omega, ?_, ?_⟩ (by simp only; omega)
          · simp only
            rw [show ((i : Int) + 1).toNat = i + 1 by omega]
            refine hN_ext (by rw [List.length_set, len_hN]) fun k hk => ?_
            rw [lgetD_set (by rw [len_hN]; omega), hN_getD hk, hN_getD hk]
            by_cases hki : k = i
            · subst hki; rw [if_pos rfl, if_pos (by omega)]
            · rw [if_neg hki]
              by_cases hlt : k < i
              · rw [if_pos (by omega), if_pos (by omega)]
              · rw [if_neg (by omega), if_neg (by omega), if_neg (by omega), if_neg (by omega)]
          · simp only
            rw [show ((i : Int) + 1).toNat = i + 1 by omega]
            intro k hk
            have : k < 2 * i ∨ k = 2 * i ∨ k = 2 * i + 1 := by omega
            rcases this with h | rfl | rfl
            · exact e4 k h
            · exact c1
            · exact c2
        · rw [if_neg c2, if_neg (fun h => c2 (h.2 _ (by omega)))]
      · rw [if_neg c1, if_neg (fun h => c1 (h.2 _ (by omega)))]
    · have : i = 32 := by omega
      subst this
      rw [if_neg (by omega), if_pos ⟨hl, fun k hk => e4 k (by omega)⟩]
  · rw [if_neg (by omega), if_neg (fun h => hl h.1)]

theorem rparse_eq (s : List Int) (hs : s.length ≤ 1000000000) : sol_ref7_Parse (s, ()) = some (parseH s, ((), ())) := by
  unfold sol_ref7_Parse T_ref7_Parse parseH
  simp only [brR_not, brR_dec]
  by_cases hl : s.length = 64
  · rw [if_pos (by omega)]
    refine bigLoop_rule (I := fun x => x.1 = s ∧ (0 : Int) ≤ x.2.2.2.1 ∧ x.2.2.2.1 ≤ (64 : Int) ∧ x.2.2.1 = hN s x.2.2.2.1.toNat ∧ ∀ i, i < x.2.2.2.1.toNat → 0 ≤ hv (s.getD i 0)) (m := fun x => ((64 : Int) - x.2.2.2.1).toNat)
      (g := fun _ => some (if Hex64 s then (hN s 64, (0, ())) else (List.replicate 32 0, (3, ())), ((), ()))) ?_
      ⟨rfl, by simp only; omega, by simp only; omega, (hN_zero s).symm, fun i hi => by simp at hi⟩ (by simp only [bigN_eq]; omega)
    rintro ⟨s', t, h, i, _⟩ again ⟨e0, e1, e2, e3, e4⟩ hag
    simp only at e0 e1 e2 e3 e4 hag ⊢
    subst e0 e3
    obtain ⟨i, rfl⟩ := Int.eq_ofNat_of_zero_le e1
    simp only [Int.toNat_natCast] at e4
    simp only [T_ref7_Parse_loop0, letR_eq, brR_dec, brR_inR, brR_not, Int.toNat_natCast]
    by_cases hi : i < 64
    · have hA : (0 : Int) ≤ (i : Int) ∧ (i : Int) < ((s'.length : Nat) : Int) := by omega
      rw [if_pos (by omega), if_pos hA, hexDigit_eq]
      simp only [bind_some']
      have b1 := hv_lt (s'.getD i 0)
      by_cases c1 : hv (s'.getD i 0) < 0
      · rw [if_pos c1, if_neg (fun h => absurd (h.2 i hi) (by omega))]
      · rw [if_neg c1, tdiv_pos (by omega), w_i64 (n := (i : Int) / 2) (by omega) (by omega), if_pos (by omega), if_pos (by omega), if_pos (by omega), show ((i : Int) / 2).toNat = i / 2 by omega, w_i64 (by omega) (by omega)]
        have b2 := hv_lt (s'.getD (2 * (i / 2)) 0)
        have hset : (hN s' i).set (i / 2) (IntKind.wrap .u8 (IntKind.wrap .u8 ((hN s' i).getD (i / 2) 0 * 16) + IntKind.wrap .u8 (hv (s'.getD i 0)))) = hN s' (i + 1) := by
          refine hN_ext (by rw [List.length_set, len_hN]) fun k hk => ?_
          rw [lgetD_set (by rw [len_hN]; omega), hN_getD (k := k) hk]
          by_cases hki : k = i / 2
          · rw [if_pos hki, hN_getD (by omega)]
            subst hki
            rcases Nat.mod_two_eq_zero_or_one i with hm | hm
            · rw [hN_getD (by omega), if_neg (by omega), if_neg (by omega), if_neg (by omega), if_pos (by omega), w_u8 (n := 0 * 16) (by omega) (by omega), w_u8 (n := hv (s'.getD i 0)) (by omega) (by omega), w_u8 (by omega) (by omega), show 2 * (i / 2) = i by omega]; omega
            · have h0 := e4 (2 * (i / 2)) (by omega)
              rw [hN_getD (by omega), if_neg (by omega), if_pos (by omega), if_pos (by omega), w_u8 (n := hv (s'.getD (2 * (i / 2)) 0) * 16) (by omega) (by omega), w_u8 (n := hv (s'.getD i 0)) (by omega) (by omega), w_u8 (by omega) (by omega), show 2 * (i / 2) + 1 = i by omega]
          · rw [if_neg hki, hN_getD hk]
            by_cases hlt : k < i / 2
            · rw [if_pos (by omega), if_pos (by omega)]
            · rw [if_neg (by omega), if_neg (by omega), if_neg (by omega), if_neg (by omega)]
        rw [hset]
        refine hag _ ⟨rfl, by simp only; omega, by simp only; omega, ?_, ?_⟩ (by simp only; omega)
        · simp only
          rw [show ((i : Int) + 1).toNat = i + 1 by omega]
        · simp only
          rw [show ((i : Int) + 1).toNat = i + 1 by omega]
          intro k hk
          have : k < i ∨ k = i := by omega
          rcases this with h | rfl
          · exact e4 k h
          · omega
    · have : i = 64 := by omega
      subst this
      rw [if_neg (by omega), if_pos ⟨hl, fun k hk => e4 k (by omega)⟩]
  · rw [if_neg (by omega), if_neg (fun h => hl h.1)]

theorem fmtH_getD : ∀ {h : List Int} {k : Nat}, k < h.length → (fmtH h).getD (2 * k) 0 = hexc.getD ((h.getD k 0).toNat / 16) 0 ∧ (fmtH h).getD (2 * k + 1) 0 = hexc.getD ((h.getD k 0).toNat % 16) 0
  | [], k, hk => by simp at hk
  | x :: h, 0, _ => ⟨rfl, rfl⟩
  | x :: h, k + 1, hk => by
    have := fmtH_getD (h := h) (k := k) (by simpa using hk)
    have e : fmtH (x :: h) = hexc.getD (x.toNat / 16) 0 :: hexc.getD (x.toNat % 16) 0 :: fmtH h := rfl
    rw [e, show 2 * (k + 1) = 2 * k + 1 + 1 by omega]
    simp only [List.getD_cons_succ]
    exact this

theorem hv_hexc : ∀ m, m < 16 → hv (hexc.getD m 0) = ((m : Nat) : Int) := by decide

theorem parse_format {h : List Int} (hh : H32 h) : parseH (fmtH h) = (h, (0, ())) := by
  obtain ⟨h1, h2⟩ := hh
  unfold parseH
  have hdig : ∀ k, k < 32 → hv ((fmtH h).getD (2 * k) 0) = (((h.getD k 0).toNat / 16 : Nat) : Int) ∧ hv ((fmtH h).getD (2 * k + 1) 0) = (((h.getD k 0).toNat % 16 : Nat) : Int) := fun k hk => by
    have hb := h2.at k
    obtain ⟨g1, g2⟩ := fmtH_getD (h := h) (k := k) (by omega)
    rw [g1, g2, hv_hexc _ (by omega), hv_hexc _ (by omega)]
    exact ⟨rfl, rfl⟩
  have h64 : Hex64 (fmtH h) := by
    refine ⟨by rw [len_fmtH]; omega, fun i hi => ?_⟩
    obtain ⟨g1, g2⟩ := hdig (i / 2) (by omega)
    rcases Nat.mod_two_eq_zero_or_one i with hm | hm
    · rw [show 2 * (i / 2) = i by omega] at g1; rw [g1]; omega
    · rw [show 2 * (i / 2) + 1 = i by omega] at g2; rw [g2]; omega
  rw [if_pos h64]
  congr 1
  symm
  refine hN_ext h1 fun k hk => ?_
  have hb := h2.at k
  obtain ⟨g1, g2⟩ := hdig k hk
  rw [hN_getD hk, if_pos (by omega), g1, g2]; omega

end Go.Pon
/-
  What the functions of package merkle compute (printed by a program of this work).
-/
set_option autoImplicit false
set_option linter.unusedVariables false
set_option maxRecDepth 100000
namespace Go.Pon
open Go

/-- pontage/merkle.New -/
abbrev s_merkle_New : Sig := ⟨[], [(.ptr (.pair (.own false (.arr 32 (.int .u8))) (.ro true .unit)))]⟩
abbrev F_merkle_New := Unit → Option ((((List (List Int)) × Unit) × Unit) × Unit)

noncomputable def T_merkle_New (L : LoopD) : Option ((((List (List Int)) × Unit) × Unit) × Unit) :=
  (some (((([] : List (List Int)), ()), ()), ()))

noncomputable def sol_merkle_New : F_merkle_New := fun x => T_merkle_New bigLoop

/-- (*pontage/merkle.Tree).Append -/
abbrev s_merkle_Tree_Append : Sig := ⟨[(.ptr (.pair (.own false (.arr 32 (.int .u8))) (.ro true .unit))), (.ro true (.arr 32 (.int .u8)))], [(.ro true (.int .i64))]⟩
abbrev F_merkle_Tree_Append := (((List (List Int)) × Unit) × ((List Int) × Unit)) → Option ((Int × Unit) × (((List (List Int)) × Unit) × (Unit × Unit)))

noncomputable def T_merkle_Tree_Append (L : LoopD) (t_ : ((List (List Int)) × Unit)) (h_ : (List Int)) : Option ((Int × Unit) × (((List (List Int)) × Unit) × (Unit × Unit))) :=
  (letR (List.append t_.1 [h_]) fun (v_0 : (List (List Int))) =>
  (brR (Go.Pon.roomy ((List.length t_.1) + (1 : Nat)) (Go.Pon.Ty.arr 32 (Go.Pon.Ty.int Go.IntKind.u8)))
   (some (((Go.IntKind.wrap (Go.IntKind.i64) ((((List.length v_0) : Nat) : Int) - (1 : Int))), ()), ((v_0, t_.2), ((), ()))))
   none))

noncomputable def sol_merkle_Tree_Append : F_merkle_Tree_Append := fun x => T_merkle_Tree_Append bigLoop x.1 x.2.1

/-- pontage/merkle.splitPoint -/
abbrev s_merkle_splitPoint : Sig := ⟨[(.ro true (.int .i64))], [(.ro true (.int .i64))]⟩
abbrev F_merkle_splitPoint := (Int × Unit) → Option ((Int × Unit) × (Unit × Unit))

noncomputable def T_merkle_splitPoint_loop0 (again_0 : (Int × (Int × Unit)) → Option ((Int × Unit) × (Unit × Unit))) (n_1 : Int) (k_2 : Int) : Option ((Int × Unit) × (Unit × Unit)) :=
  (brR (decide (k_2 < (Go.IntKind.wrap (Go.IntKind.i64) (n_1 - k_2))))
   (again_0 (n_1, ((Go.IntKind.wrap (Go.IntKind.i64) (k_2 * (2 : Int))), ())))
   (some ((k_2, ()), ((), ()))))

noncomputable def T_merkle_splitPoint (L : LoopD) (n_ : Int) : Option ((Int × Unit) × (Unit × Unit)) :=
  (L _ _ (fun again x => T_merkle_splitPoint_loop0 again x.1 x.2.1) (n_, ((1 : Int), ())))

noncomputable def sol_merkle_splitPoint : F_merkle_splitPoint := fun x => T_merkle_splitPoint bigLoop x.1

/-- pontage/merkle.RootOf -/
abbrev s_merkle_RootOf : Sig := ⟨[(.ro false (.slice (.arr 32 (.int .u8))))], [(.ro true (.arr 32 (.int .u8)))]⟩
abbrev F_merkle_RootOf := ((List (List Int)) × Unit) → Option (((List Int) × Unit) × (Unit × Unit))

noncomputable def T_merkle_RootOf (L : LoopD) (c_hash_Sum : F_hash_Sum) (c_merkle_splitPoint : F_merkle_splitPoint) (c_merkle_RootOf : F_merkle_RootOf) (c_hash_Node : F_hash_Node) (l_ : (List (List Int))) : Option (((List Int) × Unit) × (Unit × Unit)) :=
  (letR (((List.length l_) : Nat) : Int) fun (v_0 : Int) =>
  (brR (decide (v_0 = (0 : Int)))
   (Option.bind (c_hash_Sum (([] : List Int), ())) (fun (y_1 : (((List Int) × Unit) × (Unit × Unit))) =>
    (some ((y_1.1.1, ()), ((), ())))))
   (brR (decide (v_0 = (1 : Int)))
    (brR (Go.Pon.inR (0 : Int) (List.length l_))
     (some (((List.getD l_ (0 : Nat) (List.replicate (32 : Nat) (0 : Int))), ()), ((), ())))
     none)
    (Option.bind (c_merkle_splitPoint (v_0, ())) (fun (y_2 : ((Int × Unit) × (Unit × Unit))) =>
     (brR ((decide ((0 : Int) ≤ y_2.1.1)) && (decide (y_2.1.1 ≤ v_0)))
      (Option.bind (c_merkle_RootOf ((List.take ((Int.toNat y_2.1.1) - (0 : Nat)) (List.drop (0 : Nat) l_)), ())) (fun (y_3 : (((List Int) × Unit) × (Unit × Unit))) =>
       (brR ((decide ((0 : Int) ≤ y_2.1.1)) && (decide (y_2.1.1 ≤ v_0)))
        (Option.bind (c_merkle_RootOf ((List.take ((List.length l_) - (Int.toNat y_2.1.1)) (List.drop (Int.toNat y_2.1.1) l_)), ())) (fun (y_4 : (((List Int) × Unit) × (Unit × Unit))) =>
         (Option.bind (c_hash_Node (y_3.1.1, (y_4.1.1, ()))) (fun (y_5 : (((List Int) × Unit) × (Unit × (Unit × Unit)))) =>
          (some ((y_5.1.1, ()), ((), ())))))))
        none)))
      none))))))

noncomputable def solN_merkle_RootOf : Nat → F_merkle_RootOf
  | 0 => fun _ => none
  | n + 1 => fun x => T_merkle_RootOf bigLoop sol_hash_Sum sol_merkle_splitPoint (solN_merkle_RootOf n) sol_hash_Node x.1
noncomputable def sol_merkle_RootOf : F_merkle_RootOf := solN_merkle_RootOf bigF

/-- (*pontage/merkle.Tree).Root -/
abbrev s_merkle_Tree_Root : Sig := ⟨[(.ptr (.pair (.own false (.arr 32 (.int .u8))) (.ro true .unit))), (.ro true (.int .i64))], [(.ro true (.arr 32 (.int .u8))), (.ro true .bool)]⟩
abbrev F_merkle_Tree_Root := (((List (List Int)) × Unit) × (Int × Unit)) → Option (((List Int) × (Bool × Unit)) × (((List (List Int)) × Unit) × (Unit × Unit)))

noncomputable def T_merkle_Tree_Root (L : LoopD) (c_merkle_RootOf : F_merkle_RootOf) (t_ : ((List (List Int)) × Unit)) (n_ : Int) : Option (((List Int) × (Bool × Unit)) × (((List (List Int)) × Unit) × (Unit × Unit))) :=
  (letR (((List.length t_.1) : Nat) : Int) fun (v_0 : Int) =>
  (brR (decide (n_ < (0 : Int)))
   (some (((List.replicate (32 : Nat) (0 : Int)), (false, ())), ((t_.1, t_.2), ((), ()))))
   (brR (decide (n_ > v_0))
    (some (((List.replicate (32 : Nat) (0 : Int)), (false, ())), ((t_.1, t_.2), ((), ()))))
    (brR ((decide ((0 : Int) ≤ n_)) && (decide (n_ ≤ v_0)))
     (Option.bind (c_merkle_RootOf ((List.take ((Int.toNat n_) - (0 : Nat)) (List.drop (0 : Nat) t_.1)), ())) (fun (y_1 : (((List Int) × Unit) × (Unit × Unit))) =>
      (some ((y_1.1.1, (true, ())), ((t_.1, t_.2), ((), ()))))))
     none))))

noncomputable def sol_merkle_Tree_Root : F_merkle_Tree_Root := fun x => T_merkle_Tree_Root bigLoop sol_merkle_RootOf x.1 x.2.1

/-- pontage/merkle.proof -/
abbrev s_merkle_proof : Sig := ⟨[(.ro false (.slice (.arr 32 (.int .u8)))), (.ro true (.int .i64))], [(.own true (.arr 32 (.int .u8)))]⟩
abbrev F_merkle_proof := ((List (List Int)) × (Int × Unit)) → Option (((List (List Int)) × Unit) × (Unit × (Unit × Unit)))

noncomputable def T_merkle_proof (L : LoopD) (c_merkle_splitPoint : F_merkle_splitPoint) (c_merkle_proof : F_merkle_proof) (c_merkle_RootOf : F_merkle_RootOf) (l_ : (List (List Int))) (i_ : Int) : Option (((List (List Int)) × Unit) × (Unit × (Unit × Unit))) :=
  (letR (((List.length l_) : Nat) : Int) fun (v_0 : Int) =>
  (letR (List.drop (0 : Nat) l_) fun (v_1 : (List (List Int))) =>
  (brR (decide (v_0 = (1 : Int)))
   (some ((([] : List (List Int)), ()), ((), ((), ()))))
   (Option.bind (c_merkle_splitPoint (v_0, ())) (fun (y_2 : ((Int × Unit) × (Unit × Unit))) =>
    (letR (List.take ((Int.toNat y_2.1.1) - (0 : Nat)) v_1) fun (v_3 : (List (List Int))) =>
    (letR (List.take ((List.length l_) - (Int.toNat y_2.1.1)) (List.drop (Int.toNat y_2.1.1) l_)) fun (v_4 : (List (List Int))) =>
    (brR (decide (i_ < y_2.1.1))
     (brR ((decide ((0 : Int) ≤ y_2.1.1)) && (decide (y_2.1.1 ≤ v_0)))
      (Option.bind (c_merkle_proof (v_3, (i_, ()))) (fun (y_5 : (((List (List Int)) × Unit) × (Unit × (Unit × Unit)))) =>
       (brR ((decide ((0 : Int) ≤ y_2.1.1)) && (decide (y_2.1.1 ≤ v_0)))
        (Option.bind (c_merkle_RootOf (v_4, ())) (fun (y_6 : (((List Int) × Unit) × (Unit × Unit))) =>
         (brR (Go.Pon.roomy ((List.length y_5.1.1) + (1 : Nat)) (Go.Pon.Ty.arr 32 (Go.Pon.Ty.int Go.IntKind.u8)))
          (some (((List.append y_5.1.1 [y_6.1.1]), ()), ((), ((), ()))))
          none)))
        none)))
      none)
     (brR ((decide ((0 : Int) ≤ y_2.1.1)) && (decide (y_2.1.1 ≤ v_0)))
      (Option.bind (c_merkle_proof (v_4, ((Go.IntKind.wrap (Go.IntKind.i64) (i_ - y_2.1.1)), ()))) (fun (y_7 : (((List (List Int)) × Unit) × (Unit × (Unit × Unit)))) =>
       (brR ((decide ((0 : Int) ≤ y_2.1.1)) && (decide (y_2.1.1 ≤ v_0)))
        (Option.bind (c_merkle_RootOf (v_3, ())) (fun (y_8 : (((List Int) × Unit) × (Unit × Unit))) =>
         (brR (Go.Pon.roomy ((List.length y_7.1.1) + (1 : Nat)) (Go.Pon.Ty.arr 32 (Go.Pon.Ty.int Go.IntKind.u8)))
          (some (((List.append y_7.1.1 [y_8.1.1]), ()), ((), ((), ()))))
          none)))
        none)))
      none)))))))))

noncomputable def solN_merkle_proof : Nat → F_merkle_proof
  | 0 => fun _ => none
  | n + 1 => fun x => T_merkle_proof bigLoop sol_merkle_splitPoint (solN_merkle_proof n) sol_merkle_RootOf x.1 x.2.1
noncomputable def sol_merkle_proof : F_merkle_proof := solN_merkle_proof bigF

/-- (*pontage/merkle.Tree).Proof -/
abbrev s_merkle_Tree_Proof : Sig := ⟨[(.ptr (.pair (.own false (.arr 32 (.int .u8))) (.ro true .unit))), (.ro true (.int .i64)), (.ro true (.int .i64))], [(.ro false (.slice (.arr 32 (.int .u8)))), (.ro true .bool)]⟩
abbrev F_merkle_Tree_Proof := (((List (List Int)) × Unit) × (Int × (Int × Unit))) → Option (((List (List Int)) × (Bool × Unit)) × (((List (List Int)) × Unit) × (Unit × (Unit × Unit))))

noncomputable def T_merkle_Tree_Proof (L : LoopD) (c_merkle_proof : F_merkle_proof) (c_slices_Clip_api_Hash_api_Hash : F_slices_Clip_api_Hash_api_Hash) (t_ : ((List (List Int)) × Unit)) (i_ : Int) (n_ : Int) : Option (((List (List Int)) × (Bool × Unit)) × (((List (List Int)) × Unit) × (Unit × (Unit × Unit)))) :=
  (letR (((List.length t_.1) : Nat) : Int) fun (v_0 : Int) =>
  (brR (decide (i_ < (0 : Int)))
   (some ((([] : List (List Int)), (false, ())), ((t_.1, t_.2), ((), ((), ())))))
   (brR (decide (i_ ≥ n_))
    (some ((([] : List (List Int)), (false, ())), ((t_.1, t_.2), ((), ((), ())))))
    (brR (decide (n_ > v_0))
     (some ((([] : List (List Int)), (false, ())), ((t_.1, t_.2), ((), ((), ())))))
     (brR ((decide ((0 : Int) ≤ n_)) && (decide (n_ ≤ v_0)))
      (Option.bind (c_merkle_proof ((List.take ((Int.toNat n_) - (0 : Nat)) (List.drop (0 : Nat) t_.1)), (i_, ()))) (fun (y_1 : (((List (List Int)) × Unit) × (Unit × (Unit × Unit)))) =>
       (Option.bind (c_slices_Clip_api_Hash_api_Hash (y_1.1.1, ())) (fun (y_2 : (((List (List Int)) × Unit) × (Unit × Unit))) =>
        (some ((y_2.1.1, (true, ())), ((t_.1, t_.2), ((), ((), ())))))))))
      none)))))

noncomputable def sol_merkle_Tree_Proof : F_merkle_Tree_Proof := fun x => T_merkle_Tree_Proof bigLoop sol_merkle_proof sol_slices_Clip_api_Hash_api_Hash x.1 x.2.1 x.2.2.1

/-- pontage/merkle.rootFrom -/
abbrev s_merkle_rootFrom : Sig := ⟨[(.ro true (.int .i64)), (.ro true (.int .i64)), (.ro true (.arr 32 (.int .u8))), (.ro false (.slice (.arr 32 (.int .u8))))], [(.ro true (.arr 32 (.int .u8))), (.ro true .bool)]⟩
abbrev F_merkle_rootFrom := (Int × (Int × ((List Int) × ((List (List Int)) × Unit)))) → Option (((List Int) × (Bool × Unit)) × (Unit × (Unit × (Unit × (Unit × Unit)))))

noncomputable def T_merkle_rootFrom (L : LoopD) (c_merkle_splitPoint : F_merkle_splitPoint) (c_merkle_rootFrom : F_merkle_rootFrom) (c_hash_Node : F_hash_Node) (n_ : Int) (i_ : Int) (leaf_ : (List Int)) (l_ : (List (List Int))) : Option (((List Int) × (Bool × Unit)) × (Unit × (Unit × (Unit × (Unit × Unit))))) :=
  (letR (((List.length l_) : Nat) : Int) fun (v_0 : Int) =>
  (letR (Go.IntKind.wrap (Go.IntKind.i64) (v_0 - (1 : Int))) fun (v_1 : Int) =>
  (letR (List.getD l_ (Int.toNat v_1) (List.replicate (32 : Nat) (0 : Int))) fun (v_2 : (List Int)) =>
  (brR (decide (n_ = (1 : Int)))
   (some ((leaf_, ((decide (v_0 = (0 : Int))), ())), ((), ((), ((), ((), ()))))))
   (brR (decide (v_0 = (0 : Int)))
    (some (((List.replicate (32 : Nat) (0 : Int)), (false, ())), ((), ((), ((), ((), ()))))))
    (Option.bind (c_merkle_splitPoint (n_, ())) (fun (y_3 : ((Int × Unit) × (Unit × Unit))) =>
     (brR (Go.Pon.inR v_1 (List.length l_))
      (brR ((decide ((0 : Int) ≤ v_1)) && (decide (v_1 ≤ v_0)))
       (brR (decide (i_ < y_3.1.1))
        (Option.bind (c_merkle_rootFrom (y_3.1.1, (i_, (leaf_, ((List.take ((Int.toNat v_1) - (0 : Nat)) (List.drop (0 : Nat) l_)), ()))))) (fun (y_4 : (((List Int) × (Bool × Unit)) × (Unit × (Unit × (Unit × (Unit × Unit)))))) =>
         (Option.bind (c_hash_Node (y_4.1.1, (v_2, ()))) (fun (y_5 : (((List Int) × Unit) × (Unit × (Unit × Unit)))) =>
          (some ((y_5.1.1, (y_4.1.2.1, ())), ((), ((), ((), ((), ()))))))))))
        (Option.bind (c_merkle_rootFrom ((Go.IntKind.wrap (Go.IntKind.i64) (n_ - y_3.1.1)), ((Go.IntKind.wrap (Go.IntKind.i64) (i_ - y_3.1.1)), (leaf_, ((List.take ((Int.toNat v_1) - (0 : Nat)) (List.drop (0 : Nat) l_)), ()))))) (fun (y_6 : (((List Int) × (Bool × Unit)) × (Unit × (Unit × (Unit × (Unit × Unit)))))) =>
         (Option.bind (c_hash_Node (v_2, (y_6.1.1, ()))) (fun (y_7 : (((List Int) × Unit) × (Unit × (Unit × Unit)))) =>
          (some ((y_7.1.1, (y_6.1.2.1, ())), ((), ((), ((), ((), ())))))))))))
       none)
      none))))))))

noncomputable def solN_merkle_rootFrom : Nat → F_merkle_rootFrom
  | 0 => fun _ => none
  | n + 1 => fun x => T_merkle_rootFrom bigLoop sol_merkle_splitPoint (solN_merkle_rootFrom n) sol_hash_Node x.1 x.2.1 x.2.2.1 x.2.2.2.1
noncomputable def sol_merkle_rootFrom : F_merkle_rootFrom := solN_merkle_rootFrom bigF

/-- pontage/merkle.Verify -/
abbrev s_merkle_Verify : Sig := ⟨[(.ro true (.arr 32 (.int .u8))), (.ro true (.int .i64)), (.ro true (.int .i64)), (.ro true (.arr 32 (.int .u8))), (.ro false (.slice (.arr 32 (.int .u8))))], [(.ro true .bool)]⟩
abbrev F_merkle_Verify := ((List Int) × (Int × (Int × ((List Int) × ((List (List Int)) × Unit))))) → Option ((Bool × Unit) × (Unit × (Unit × (Unit × (Unit × (Unit × Unit))))))

noncomputable def T_merkle_Verify (L : LoopD) (c_merkle_rootFrom : F_merkle_rootFrom) (root_ : (List Int)) (n_ : Int) (i_ : Int) (leaf_ : (List Int)) (proof_ : (List (List Int))) : Option ((Bool × Unit) × (Unit × (Unit × (Unit × (Unit × (Unit × Unit)))))) :=
  (brR (decide (i_ < (0 : Int)))
   (some ((false, ()), ((), ((), ((), ((), ((), ())))))))
   (brR (decide (i_ ≥ n_))
    (some ((false, ()), ((), ((), ((), ((), ((), ())))))))
    (Option.bind (c_merkle_rootFrom (n_, (i_, (leaf_, (proof_, ()))))) (fun (y_0 : (((List Int) × (Bool × Unit)) × (Unit × (Unit × (Unit × (Unit × Unit)))))) =>
     (brR y_0.1.2.1
      (some (((Go.Pon.eqD (Go.Pon.Ty.arr 32 (Go.Pon.Ty.int Go.IntKind.u8)) y_0.1.1 root_), ()), ((), ((), ((), ((), ((), ())))))))
      (some ((false, ()), ((), ((), ((), ((), ((), ()))))))))))))

noncomputable def sol_merkle_Verify : F_merkle_Verify := fun x => T_merkle_Verify bigLoop sol_merkle_rootFrom x.1 x.2.1 x.2.2.1 x.2.2.2.1 x.2.2.2.2.1

/-- (*pontage/merkle.Tree).Len -/
abbrev s_merkle_Tree_Len : Sig := ⟨[(.ptr (.pair (.own false (.arr 32 (.int .u8))) (.ro true .unit)))], [(.ro true (.int .i64))]⟩
abbrev F_merkle_Tree_Len := (((List (List Int)) × Unit) × Unit) → Option ((Int × Unit) × (((List (List Int)) × Unit) × Unit))

noncomputable def T_merkle_Tree_Len (L : LoopD) (t_ : ((List (List Int)) × Unit)) : Option ((Int × Unit) × (((List (List Int)) × Unit) × Unit)) :=
  (some (((((List.length t_.1) : Nat) : Int), ()), ((t_.1, t_.2), ())))

noncomputable def sol_merkle_Tree_Len : F_merkle_Tree_Len := fun x => T_merkle_Tree_Len bigLoop x.1

end Go.Pon
/-
  What the functions of package ref8 compute (printed by a program of this work).
-/
set_option autoImplicit false
set_option linter.unusedVariables false
set_option maxRecDepth 100000
namespace Go.Pon
open Go

/-- pontage/pontageref8.SplitPoint -/
abbrev s_ref8_SplitPoint : Sig := ⟨[(.ro true (.int .i64))], [(.ro true (.int .i64))]⟩
abbrev F_ref8_SplitPoint := (Int × Unit) → Option ((Int × Unit) × (Unit × Unit))

noncomputable def T_ref8_SplitPoint_loop0 (again_0 : (Int × (Int × Unit)) → Option ((Int × Unit) × (Unit × Unit))) (n_1 : Int) (k_2 : Int) : Option ((Int × Unit) × (Unit × Unit)) :=
  (brR (decide (k_2 < (Go.IntKind.wrap (Go.IntKind.i64) (n_1 - k_2))))
   (again_0 (n_1, ((Go.IntKind.wrap (Go.IntKind.i64) ((2 : Int) * k_2)), ())))
   (some ((k_2, ()), ((), ()))))

noncomputable def T_ref8_SplitPoint (L : LoopD) (n_ : Int) : Option ((Int × Unit) × (Unit × Unit)) :=
  (L _ _ (fun again x => T_ref8_SplitPoint_loop0 again x.1 x.2.1) (n_, ((1 : Int), ())))

noncomputable def sol_ref8_SplitPoint : F_ref8_SplitPoint := fun x => T_ref8_SplitPoint bigLoop x.1

/-- pontage/pontageref8.RootOf -/
abbrev s_ref8_RootOf : Sig := ⟨[(.ro false (.slice (.arr 32 (.int .u8))))], [(.ro true (.arr 32 (.int .u8)))]⟩
abbrev F_ref8_RootOf := ((List (List Int)) × Unit) → Option (((List Int) × Unit) × (Unit × Unit))

noncomputable def T_ref8_RootOf (L : LoopD) (c_ref7_Sum : F_ref7_Sum) (c_ref8_SplitPoint : F_ref8_SplitPoint) (c_ref8_RootOf : F_ref8_RootOf) (c_ref7_Node : F_ref7_Node) (l_ : (List (List Int))) : Option (((List Int) × Unit) × (Unit × Unit)) :=
  (letR (((List.length l_) : Nat) : Int) fun (v_0 : Int) =>
  (brR (decide (v_0 = (0 : Int)))
   (Option.bind (c_ref7_Sum (([] : List Int), ())) (fun (y_1 : (((List Int) × Unit) × (Unit × Unit))) =>
    (some ((y_1.1.1, ()), ((), ())))))
   (brR (decide (v_0 = (1 : Int)))
    (brR (Go.Pon.inR (0 : Int) (List.length l_))
     (some (((List.getD l_ (0 : Nat) (List.replicate (32 : Nat) (0 : Int))), ()), ((), ())))
     none)
    (Option.bind (c_ref8_SplitPoint (v_0, ())) (fun (y_2 : ((Int × Unit) × (Unit × Unit))) =>
     (brR ((decide ((0 : Int) ≤ y_2.1.1)) && (decide (y_2.1.1 ≤ v_0)))
      (Option.bind (c_ref8_RootOf ((List.take ((Int.toNat y_2.1.1) - (0 : Nat)) (List.drop (0 : Nat) l_)), ())) (fun (y_3 : (((List Int) × Unit) × (Unit × Unit))) =>
       (brR ((decide ((0 : Int) ≤ y_2.1.1)) && (decide (y_2.1.1 ≤ v_0)))
        (Option.bind (c_ref8_RootOf ((List.take ((List.length l_) - (Int.toNat y_2.1.1)) (List.drop (Int.toNat y_2.1.1) l_)), ())) (fun (y_4 : (((List Int) × Unit) × (Unit × Unit))) =>
         (Option.bind (c_ref7_Node (y_3.1.1, (y_4.1.1, ()))) (fun (y_5 : (((List Int) × Unit) × (Unit × (Unit × Unit)))) =>
          (some ((y_5.1.1, ()), ((), ())))))))
        none)))
      none))))))

noncomputable def solN_ref8_RootOf : Nat → F_ref8_RootOf
  | 0 => fun _ => none
  | n + 1 => fun x => T_ref8_RootOf bigLoop sol_ref7_Sum sol_ref8_SplitPoint (solN_ref8_RootOf n) sol_ref7_Node x.1
noncomputable def sol_ref8_RootOf : F_ref8_RootOf := solN_ref8_RootOf bigF

/-- pontage/pontageref8.Proof -/
abbrev s_ref8_Proof : Sig := ⟨[(.ro false (.slice (.arr 32 (.int .u8)))), (.ro true (.int .i64))], [(.own true (.arr 32 (.int .u8)))]⟩
abbrev F_ref8_Proof := ((List (List Int)) × (Int × Unit)) → Option (((List (List Int)) × Unit) × (Unit × (Unit × Unit)))

noncomputable def T_ref8_Proof (L : LoopD) (c_ref8_SplitPoint : F_ref8_SplitPoint) (c_ref8_Proof : F_ref8_Proof) (c_ref8_RootOf : F_ref8_RootOf) (l_ : (List (List Int))) (i_ : Int) : Option (((List (List Int)) × Unit) × (Unit × (Unit × Unit))) :=
  (letR (((List.length l_) : Nat) : Int) fun (v_0 : Int) =>
  (letR (List.drop (0 : Nat) l_) fun (v_1 : (List (List Int))) =>
  (brR (decide (v_0 < (2 : Int)))
   (some ((([] : List (List Int)), ()), ((), ((), ()))))
   (Option.bind (c_ref8_SplitPoint (v_0, ())) (fun (y_2 : ((Int × Unit) × (Unit × Unit))) =>
    (letR (List.take ((Int.toNat y_2.1.1) - (0 : Nat)) v_1) fun (v_3 : (List (List Int))) =>
    (letR (List.take ((List.length l_) - (Int.toNat y_2.1.1)) (List.drop (Int.toNat y_2.1.1) l_)) fun (v_4 : (List (List Int))) =>
    (brR (decide (i_ < y_2.1.1))
     (brR ((decide ((0 : Int) ≤ y_2.1.1)) && (decide (y_2.1.1 ≤ v_0)))
      (Option.bind (c_ref8_Proof (v_3, (i_, ()))) (fun (y_5 : (((List (List Int)) × Unit) × (Unit × (Unit × Unit)))) =>
       (brR ((decide ((0 : Int) ≤ y_2.1.1)) && (decide (y_2.1.1 ≤ v_0)))
        (Option.bind (c_ref8_RootOf (v_4, ())) (fun (y_6 : (((List Int) × Unit) × (Unit × Unit))) =>
         (brR (Go.Pon.roomy ((List.length y_5.1.1) + (1 : Nat)) (Go.Pon.Ty.arr 32 (Go.Pon.Ty.int Go.IntKind.u8)))
          (some (((List.append y_5.1.1 [y_6.1.1]), ()), ((), ((), ()))))
          none)))
        none)))
      none)
     (brR ((decide ((0 : Int) ≤ y_2.1.1)) && (decide (y_2.1.1 ≤ v_0)))
      (Option.bind (c_ref8_Proof (v_4, ((Go.IntKind.wrap (Go.IntKind.i64) (i_ - y_2.1.1)), ()))) (fun (y_7 : (((List (List Int)) × Unit) × (Unit × (Unit × Unit)))) =>
       (brR ((decide ((0 : Int) ≤ y_2.1.1)) && (decide (y_2.1.1 ≤ v_0)))
        (Option.bind (c_ref8_RootOf (v_3, ())) (fun (y_8 : (((List Int) × Unit) × (Unit × Unit))) =>
         (brR (Go.Pon.roomy ((List.length y_7.1.1) + (1 : Nat)) (Go.Pon.Ty.arr 32 (Go.Pon.Ty.int Go.IntKind.u8)))
          (some (((List.append y_7.1.1 [y_8.1.1]), ()), ((), ((), ()))))
          none)))
        none)))
      none)))))))))

noncomputable def solN_ref8_Proof : Nat → F_ref8_Proof
  | 0 => fun _ => none
  | n + 1 => fun x => T_ref8_Proof bigLoop sol_ref8_SplitPoint (solN_ref8_Proof n) sol_ref8_RootOf x.1 x.2.1
noncomputable def sol_ref8_Proof : F_ref8_Proof := solN_ref8_Proof bigF

/-- pontage/pontageref8.up -/
abbrev s_ref8_up : Sig := ⟨[(.ro true (.int .i64)), (.ro true (.int .i64)), (.ro true (.arr 32 (.int .u8))), (.ro false (.slice (.arr 32 (.int .u8))))], [(.ro true (.arr 32 (.int .u8))), (.ro true .bool)]⟩
abbrev F_ref8_up := (Int × (Int × ((List Int) × ((List (List Int)) × Unit)))) → Option (((List Int) × (Bool × Unit)) × (Unit × (Unit × (Unit × (Unit × Unit)))))

noncomputable def T_ref8_up (L : LoopD) (c_ref8_SplitPoint : F_ref8_SplitPoint) (c_ref8_up : F_ref8_up) (c_ref7_Node : F_ref7_Node) (n_ : Int) (i_ : Int) (leaf_ : (List Int)) (proof_ : (List (List Int))) : Option (((List Int) × (Bool × Unit)) × (Unit × (Unit × (Unit × (Unit × Unit))))) :=
  (letR (((List.length proof_) : Nat) : Int) fun (v_0 : Int) =>
  (letR (Go.IntKind.wrap (Go.IntKind.i64) (v_0 - (1 : Int))) fun (v_1 : Int) =>
  (letR (List.getD proof_ (Int.toNat v_1) (List.replicate (32 : Nat) (0 : Int))) fun (v_2 : (List Int)) =>
  (brR (decide (n_ = (1 : Int)))
   (some ((leaf_, ((decide (v_0 = (0 : Int))), ())), ((), ((), ((), ((), ()))))))
   (brR (decide (v_0 = (0 : Int)))
    (some ((leaf_, (false, ())), ((), ((), ((), ((), ()))))))
    (brR (Go.Pon.inR v_1 (List.length proof_))
     (Option.bind (c_ref8_SplitPoint (n_, ())) (fun (y_3 : ((Int × Unit) × (Unit × Unit))) =>
      (brR (decide (i_ < y_3.1.1))
       (brR ((decide ((0 : Int) ≤ v_1)) && (decide (v_1 ≤ v_0)))
        (Option.bind (c_ref8_up (y_3.1.1, (i_, (leaf_, ((List.take ((Int.toNat v_1) - (0 : Nat)) (List.drop (0 : Nat) proof_)), ()))))) (fun (y_4 : (((List Int) × (Bool × Unit)) × (Unit × (Unit × (Unit × (Unit × Unit)))))) =>
         (Option.bind (c_ref7_Node (y_4.1.1, (v_2, ()))) (fun (y_5 : (((List Int) × Unit) × (Unit × (Unit × Unit)))) =>
          (some ((y_5.1.1, (y_4.1.2.1, ())), ((), ((), ((), ((), ()))))))))))
        none)
       (brR ((decide ((0 : Int) ≤ v_1)) && (decide (v_1 ≤ v_0)))
        (Option.bind (c_ref8_up ((Go.IntKind.wrap (Go.IntKind.i64) (n_ - y_3.1.1)), ((Go.IntKind.wrap (Go.IntKind.i64) (i_ - y_3.1.1)), (leaf_, ((List.take ((Int.toNat v_1) - (0 : Nat)) (List.drop (0 : Nat) proof_)), ()))))) (fun (y_6 : (((List Int) × (Bool × Unit)) × (Unit × (Unit × (Unit × (Unit × Unit)))))) =>
         (Option.bind (c_ref7_Node (v_2, (y_6.1.1, ()))) (fun (y_7 : (((List Int) × Unit) × (Unit × (Unit × Unit)))) =>
          (some ((y_7.1.1, (y_6.1.2.1, ())), ((), ((), ((), ((), ()))))))))))
        none))))
     none))))))

noncomputable def solN_ref8_up : Nat → F_ref8_up
  | 0 => fun _ => none
  | n + 1 => fun x => T_ref8_up bigLoop sol_ref8_SplitPoint (solN_ref8_up n) sol_ref7_Node x.1 x.2.1 x.2.2.1 x.2.2.2.1
noncomputable def sol_ref8_up : F_ref8_up := solN_ref8_up bigF

/-- pontage/pontageref8.Verify -/
abbrev s_ref8_Verify : Sig := ⟨[(.ro true (.arr 32 (.int .u8))), (.ro true (.int .i64)), (.ro true (.int .i64)), (.ro true (.arr 32 (.int .u8))), (.ro false (.slice (.arr 32 (.int .u8))))], [(.ro true .bool)]⟩
abbrev F_ref8_Verify := ((List Int) × (Int × (Int × ((List Int) × ((List (List Int)) × Unit))))) → Option ((Bool × Unit) × (Unit × (Unit × (Unit × (Unit × (Unit × Unit))))))

noncomputable def T_ref8_Verify (L : LoopD) (c_ref8_up : F_ref8_up) (root_ : (List Int)) (n_ : Int) (i_ : Int) (leaf_ : (List Int)) (proof_ : (List (List Int))) : Option ((Bool × Unit) × (Unit × (Unit × (Unit × (Unit × (Unit × Unit)))))) :=
  (brR (decide (i_ < (0 : Int)))
   (some ((false, ()), ((), ((), ((), ((), ((), ())))))))
   (brR (decide (i_ ≥ n_))
    (some ((false, ()), ((), ((), ((), ((), ((), ())))))))
    (brR (decide ((((List.length proof_) : Nat) : Int) > (64 : Int)))
     (some ((false, ()), ((), ((), ((), ((), ((), ())))))))
     (Option.bind (c_ref8_up (n_, (i_, (leaf_, (proof_, ()))))) (fun (y_0 : (((List Int) × (Bool × Unit)) × (Unit × (Unit × (Unit × (Unit × Unit)))))) =>
      (brR y_0.1.2.1
       (some (((Go.Pon.eqD (Go.Pon.Ty.arr 32 (Go.Pon.Ty.int Go.IntKind.u8)) y_0.1.1 root_), ()), ((), ((), ((), ((), ((), ())))))))
       (some ((false, ()), ((), ((), ((), ((), ((), ())))))))))))))

noncomputable def sol_ref8_Verify : F_ref8_Verify := fun x => T_ref8_Verify bigLoop sol_ref8_up x.1 x.2.1 x.2.2.1 x.2.2.2.1 x.2.2.2.2.1

end Go.Pon
