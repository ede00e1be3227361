/-
  Part of a proof: general lemmas, merged by a program of this work.
-/
import Derived.Test.YtjhofjdkialggaaP2
/-
  What package merkle and its reference compute.
-/
set_option autoImplicit false
set_option linter.unusedVariables false
set_option linter.unusedSimpArgs false
set_option maxRecDepth 100000
namespace Go.Pon
open Go

/-- The greatest power of two below n. -/
def sp (n : Nat) : Nat := 2 ^ Nat.log2 (n - 1)

theorem sp_eq {j n : Nat} (h1 : 2 ^ j < n) (h2 : n ≤ 2 * 2 ^ j) : sp n = 2 ^ j := by
  have hp : 0 < 2 ^ j := Nat.two_pow_pos j
  have : Nat.log2 (n - 1) = j := (Nat.log2_eq_iff (by omega)).2 ⟨by omega, by rw [Nat.pow_succ]; omega⟩
  rw [sp, this]

theorem sp_facts {n : Nat} (h : 2 ≤ n) : 1 ≤ sp n ∧ sp n < n ∧ n ≤ 2 * sp n := by
  have h0 : n - 1 ≠ 0 := by omega
  have h1 := Nat.log2_self_le h0
  have h2 := @Nat.lt_log2_self (n - 1)
  rw [Nat.pow_succ] at h2
  have hp : 0 < 2 ^ Nat.log2 (n - 1) := Nat.two_pow_pos _
  unfold sp
  exact ⟨hp, by omega, by omega⟩

theorem splitPoint_eq {n : Nat} (h2 : 2 ≤ n) (h3 : n ≤ 9223372036854775807) : sol_merkle_splitPoint (((n : Nat) : Int), ()) = some ((((sp n : Nat) : Int), ()), ((), ())) := by
  unfold sol_merkle_splitPoint T_merkle_splitPoint
  refine bigLoop_rule (I := fun x => x.1 = ((n : Nat) : Int) ∧ ∃ j : Nat, x.2.1 = ((2 ^ j : Nat) : Int) ∧ 2 ^ j < n) (m := fun x => (((n : Nat) : Int) - x.2.1).toNat) (g := fun _ => some ((((sp n : Nat) : Int), ()), ((), ()))) ?_
    ⟨rfl, 0, rfl, by simp only [Nat.pow_zero]; omega⟩ (by simp only [bigN_eq]; omega)
  rintro ⟨n', k, _⟩ again ⟨e0, j, e1, e2⟩ hag
  simp only at e0 e1 hag ⊢
  subst e0 e1
  have hp : 0 < 2 ^ j := Nat.two_pow_pos j
  simp only [T_merkle_splitPoint_loop0, brR_dec]
  rw [w_i64 (by omega) (by omega)]
  by_cases hc : ((2 ^ j : Nat) : Int) < ((n : Nat) : Int) - ((2 ^ j : Nat) : Int)
  · rw [if_pos hc, w_i64 (by omega) (by omega)]
    exact hag _ ⟨rfl, j + 1, by simp only [Nat.pow_succ]; omega, by rw [Nat.pow_succ]; omega⟩ (by simp only; omega)
  · rw [if_neg hc, sp_eq e2 (by omega)]

theorem rsplitPoint_eq {n : Nat} (h2 : 2 ≤ n) (h3 : n ≤ 9223372036854775807) : sol_ref8_SplitPoint (((n : Nat) : Int), ()) = some ((((sp n : Nat) : Int), ()), ((), ())) := by
  unfold sol_ref8_SplitPoint T_ref8_SplitPoint
  refine bigLoop_rule (I := fun x => x.1 = ((n : Nat) : Int) ∧ ∃ j : Nat, x.2.1 = ((2 ^ j : Nat) : Int) ∧ 2 ^ j < n) (m := fun x => (((n : Nat) : Int) - x.2.1).toNat) (g := fun _ => some ((((sp n : Nat) : Int), ()), ((), ()))) ?_
    ⟨rfl, 0, rfl, by simp only [Nat.pow_zero]; omega⟩ (by simp only [bigN_eq]; omega)
  rintro ⟨n', k, _⟩ again ⟨e0, j, e1, e2⟩ hag
  simp only at e0 e1 hag ⊢
  subst e0 e1
  have hp : 0 < 2 ^ j := Nat.two_pow_pos j
  simp only [T_ref8_SplitPoint_loop0, brR_dec]
  rw [w_i64 (by omega) (by omega)]
  by_cases hc : ((2 ^ j : Nat) : Int) < ((n : Nat) : Int) - ((2 ^ j : Nat) : Int)
  · rw [if_pos hc, w_i64 (by omega) (by omega)]
    exact hag _ ⟨rfl, j + 1, by simp only [Nat.pow_succ]; omega, by rw [Nat.pow_succ]; omega⟩ (by simp only; omega)
  · rw [if_neg hc, sp_eq e2 (by omega)]

abbrev Z32 : List Int := List.replicate 32 0

theorem h32_zero : H32 Z32 := ⟨by simp, fun x hx => by rw [List.eq_of_mem_replicate hx]; omega⟩

def AllH (l : List (List Int)) : Prop := ∀ h ∈ l, H32 h

theorem AllH.take {l : List (List Int)} (h : AllH l) (i : Nat) : AllH (l.take i) := fun x hx => h x (List.mem_of_mem_take hx)
theorem AllH.drop {l : List (List Int)} (h : AllH l) (i : Nat) : AllH (l.drop i) := fun x hx => h x (List.mem_of_mem_drop hx)
theorem AllH.append {l m : List (List Int)} (h : AllH l) (k : AllH m) : AllH (l ++ m) := fun x hx => by
  rcases List.mem_append.1 hx with hx | hx
  · exact h x hx
  · exact k x hx
theorem AllH.at {l : List (List Int)} (h : AllH l) (i : Nat) : H32 (l.getD i Z32) := by
  rcases Nat.lt_or_ge i l.length with hi | hi
  · exact h _ (getD_mem hi)
  · rw [List.getD_eq_getElem?_getD, List.getElem?_eq_none hi]; exact h32_zero
theorem AllH.one {x : List Int} (h : H32 x) : AllH [x] := fun y hy => by simp only [List.mem_singleton] at hy; subst hy; exact h

/-- The root of a list of hashes. -/
def rootH (l : List (List Int)) : List Int :=
  if l.length = 0 then sha [] else if l.length = 1 then l.getD 0 Z32 else
    if h : 2 ≤ l.length then nodeH (rootH (l.take (sp l.length))) (rootH (l.drop (sp l.length))) else []
termination_by l.length
decreasing_by
  all_goals
    have := sp_facts h
    simp only [List.length_take, List.length_drop]
    omega

theorem rootH_zero {l : List (List Int)} (h : l.length = 0) : rootH l = sha [] := by rw [rootH, if_pos h]
theorem rootH_one {l : List (List Int)} (h : l.length = 1) : rootH l = l.getD 0 Z32 := by rw [rootH, if_neg (by omega), if_pos h]
theorem rootH_two {l : List (List Int)} (h : 2 ≤ l.length) : rootH l = nodeH (rootH (l.take (sp l.length))) (rootH (l.drop (sp l.length))) := by
  conv => lhs; rw [rootH]
  rw [if_neg (by omega), if_neg (by omega), dif_pos h]

theorem h32_root {l : List (List Int)} (h : AllH l) : H32 (rootH l) := by
  by_cases h0 : l.length = 0
  · rw [rootH_zero h0]; exact h32_sha _
  by_cases h1 : l.length = 1
  · rw [rootH_one h1]; exact h.at 0
  rw [rootH_two (by omega)]; exact h32_node _ _

theorem rootN_eq : ∀ (f : Nat) (l : List (List Int)), l.length < f → l.length ≤ 1000000000 → AllH l → solN_merkle_RootOf f (l, ()) = some ((rootH l, ()), ((), ()))
  | 0, l, h, _, _ => by omega
  | f + 1, l, h, hl, ha => by
    unfold solN_merkle_RootOf T_merkle_RootOf
    simp only [letR_eq, brR_dec, brR_inR, brR_and]
    by_cases h0 : l.length = 0
    · rw [if_pos (by omega), sum_eq (by intro x hx; cases hx) (by simp), rootH_zero h0]; rfl
    rw [if_neg (by omega)]
    by_cases h1 : l.length = 1
    · rw [if_pos (by omega), if_pos (by omega), rootH_one h1]
    have hs := sp_facts (n := l.length) (by omega)
    have t1 : List.take (sp l.length - 0) (List.drop 0 l) = l.take (sp l.length) := by simp
    have t2 : List.take (l.length - sp l.length) (List.drop (sp l.length) l) = l.drop (sp l.length) := List.take_of_length_le (by rw [List.length_drop]; omega)
    rw [if_neg (by omega), splitPoint_eq (by omega) (by omega)]
    simp only [bind_some', Int.toNat_natCast]
    rw [t1, t2, if_pos (by omega), if_pos (by omega), rootN_eq f (l.take (sp l.length)) (by rw [List.length_take]; omega) (by rw [List.length_take]; omega) (ha.take _)]
    simp only [bind_some']
    rw [if_pos (by omega), if_pos (by omega), rootN_eq f (l.drop (sp l.length)) (by rw [List.length_drop]; omega) (by rw [List.length_drop]; omega) (ha.drop _)]
    simp only [bind_some']
    rw [node_eq (h32_root (ha.take _)) (h32_root (ha.drop _)), rootH_two (l := l) (by omega)]
    rfl

theorem rootOf_eq {l : List (List Int)} (hl : l.length ≤ 1000000000) (ha : AllH l) : sol_merkle_RootOf (l, ()) = some ((rootH l, ()), ((), ())) :=
  rootN_eq bigF l (by rw [bigF_eq]; omega) hl ha

theorem rrootN_eq : ∀ (f : Nat) (l : List (List Int)), l.length < f → l.length ≤ 1000000000 → AllH l → solN_ref8_RootOf f (l, ()) = some ((rootH l, ()), ((), ()))
  | 0, l, h, _, _ => by omega
  | f + 1, l, h, hl, ha => by
    unfold solN_ref8_RootOf T_ref8_RootOf
    simp only [letR_eq, brR_dec, brR_inR, brR_and]
    by_cases h0 : l.length = 0
    · rw [if_pos (by omega), rsum_eq (by intro x hx; cases hx) (by simp), rootH_zero h0]; rfl
    rw [if_neg (by omega)]
    by_cases h1 : l.length = 1
    · rw [if_pos (by omega), if_pos (by omega), rootH_one h1]
    have hs := sp_facts (n := l.length) (by omega)
    have t1 : List.take (sp l.length - 0) (List.drop 0 l) = l.take (sp l.length) := by simp
    have t2 : List.take (l.length - sp l.length) (List.drop (sp l.length) l) = l.drop (sp l.length) := List.take_of_length_le (by rw [List.length_drop]; omega)
    rw [if_neg (by omega), rsplitPoint_eq (by omega) (by omega)]
    simp only [bind_some', Int.toNat_natCast]
    rw [t1, t2, if_pos (by omega), if_pos (by omega), rrootN_eq f (l.take (sp l.length)) (by rw [List.length_take]; omega) (by rw [List.length_take]; omega) (ha.take _)]
    simp only [bind_some']
    rw [if_pos (by omega), if_pos (by omega), rrootN_eq f (l.drop (sp l.length)) (by rw [List.length_drop]; omega) (by rw [List.length_drop]; omega) (ha.drop _)]
    simp only [bind_some']
    rw [rnode_eq (h32_root (ha.take _)) (h32_root (ha.drop _)), rootH_two (l := l) (by omega)]
    rfl

theorem rrootOf_eq {l : List (List Int)} (hl : l.length ≤ 1000000000) (ha : AllH l) : sol_ref8_RootOf (l, ()) = some ((rootH l, ()), ((), ())) :=
  rrootN_eq bigF l (by rw [bigF_eq]; omega) hl ha

/-! ### Proofs -/

/-- The proof of leaf i. -/
def proofH (l : List (List Int)) (i : Nat) : List (List Int) :=
  if h : 2 ≤ l.length then
    if i < sp l.length then proofH (l.take (sp l.length)) i ++ [rootH (l.drop (sp l.length))] else proofH (l.drop (sp l.length)) (i - sp l.length) ++ [rootH (l.take (sp l.length))]
  else []
termination_by l.length
decreasing_by
  all_goals
    have := sp_facts h
    simp only [List.length_take, List.length_drop]
    omega

theorem proofH_small {l : List (List Int)} {i : Nat} (h : l.length < 2) : proofH l i = [] := by rw [proofH, dif_neg (by omega)]
theorem proofH_left {l : List (List Int)} {i : Nat} (h : 2 ≤ l.length) (hi : i < sp l.length) : proofH l i = proofH (l.take (sp l.length)) i ++ [rootH (l.drop (sp l.length))] := by
  conv => lhs; rw [proofH]
  rw [dif_pos h, if_pos hi]
theorem proofH_right {l : List (List Int)} {i : Nat} (h : 2 ≤ l.length) (hi : ¬ i < sp l.length) : proofH l i = proofH (l.drop (sp l.length)) (i - sp l.length) ++ [rootH (l.take (sp l.length))] := by
  conv => lhs; rw [proofH]
  rw [dif_pos h, if_neg hi]

theorem proofH_facts : ∀ (n : Nat) (l : List (List Int)) (i : Nat), l.length ≤ n → AllH l → (proofH l i).length ≤ l.length ∧ AllH (proofH l i)
  | 0, l, i, h, _ => by rw [proofH_small (by omega)]; exact ⟨by simp, fun x hx => by cases hx⟩
  | n + 1, l, i, h, ha => by
    by_cases h2 : 2 ≤ l.length
    · have hs := sp_facts h2
      by_cases hi : i < sp l.length
      · obtain ⟨k1, k2⟩ := proofH_facts n (l.take (sp l.length)) i (by rw [List.length_take]; omega) (ha.take _)
        rw [proofH_left h2 hi]
        refine ⟨?_, k2.append (AllH.one (h32_root (ha.drop _)))⟩
        rw [List.length_take] at k1
        rw [List.length_append, List.length_singleton]; omega
      · obtain ⟨k1, k2⟩ := proofH_facts n (l.drop (sp l.length)) (i - sp l.length) (by rw [List.length_drop]; omega) (ha.drop _)
        rw [proofH_right h2 hi]
        refine ⟨?_, k2.append (AllH.one (h32_root (ha.take _)))⟩
        rw [List.length_drop] at k1
        rw [List.length_append, List.length_singleton]; omega
    · rw [proofH_small (by omega)]; exact ⟨by simp, fun x hx => by cases hx⟩

theorem brR_roomH {α : Type} {n : Nat} (h : n ≤ 100000000) (a b : Option α) : brR (roomy n (.arr 32 (.int .u8))) a b = a := by
  rw [brR_roomy, show (Ty.arr 32 (Ty.int IntKind.u8)).size = 32 from rfl, if_pos ⟨by omega, by omega⟩]

theorem proofN_eq : ∀ (f : Nat) (l : List (List Int)) (i : Nat), l.length < f → 1 ≤ l.length → l.length ≤ 10000000 → i < l.length → AllH l → solN_merkle_proof f (l, (((i : Nat) : Int), ())) = some ((proofH l i, ()), ((), ((), ())))
  | 0, l, i, h, _, _, _, _ => by omega
  | f + 1, l, i, h, hl0, hl, hi, ha => by
    unfold solN_merkle_proof T_merkle_proof
    simp only [letR_eq, brR_dec, brR_and]
    by_cases h1 : l.length = 1
    · rw [if_pos (by omega), proofH_small (by omega)]
    have hs := sp_facts (n := l.length) (by omega)
    have t1 : List.take (sp l.length - 0) (List.drop 0 l) = l.take (sp l.length) := by simp
    have t2 : List.take (l.length - sp l.length) (List.drop (sp l.length) l) = l.drop (sp l.length) := List.take_of_length_le (by rw [List.length_drop]; omega)
    have k1 := proofH_facts l.length (l.take (sp l.length)) i (by rw [List.length_take]; omega) (ha.take _)
    have k2 := proofH_facts l.length (l.drop (sp l.length)) (i - sp l.length) (by rw [List.length_drop]; omega) (ha.drop _)
    rw [List.length_take] at k1
    rw [List.length_drop] at k2
    rw [if_neg (by omega), splitPoint_eq (by omega) (by omega)]
    have g1 : (0 : Int) ≤ ((sp l.length : Nat) : Int) := by omega
    have g2 : ((sp l.length : Nat) : Int) ≤ ((l.length : Nat) : Int) := by omega
    simp only [bind_some', Int.toNat_natCast, if_pos g1, if_pos g2]
    rw [t1, t2]
    by_cases hc : i < sp l.length
    · rw [if_pos (by omega), proofN_eq f (l.take (sp l.length)) i (by rw [List.length_take]; omega) (by rw [List.length_take]; omega) (by rw [List.length_take]; omega) (by rw [List.length_take]; omega) (ha.take _)]
      simp only [bind_some']
      rw [rootOf_eq (by rw [List.length_drop]; omega) (ha.drop _)]
      simp only [bind_some']
      rw [brR_roomH (by omega), proofH_left (by omega) hc]; rfl
    · rw [if_neg (by omega), w_i64 (by omega) (by omega), show ((i : Nat) : Int) - ((sp l.length : Nat) : Int) = ((i - sp l.length : Nat) : Int) by omega,
        proofN_eq f (l.drop (sp l.length)) (i - sp l.length) (by rw [List.length_drop]; omega) (by rw [List.length_drop]; omega) (by rw [List.length_drop]; omega) (by rw [List.length_drop]; omega) (ha.drop _)]
      simp only [bind_some']
      rw [rootOf_eq (by rw [List.length_take]; omega) (ha.take _)]
      simp only [bind_some']
      rw [brR_roomH (by omega), proofH_right (by omega) hc]; rfl

theorem proof_eq {l : List (List Int)} {i : Nat} (hl : l.length ≤ 10000000) (hi : i < l.length) (ha : AllH l) : sol_merkle_proof (l, (((i : Nat) : Int), ())) = some ((proofH l i, ()), ((), ((), ()))) :=
  proofN_eq bigF l i (by rw [bigF_eq]; omega) (by omega) hl hi ha

theorem rproofN_eq : ∀ (f : Nat) (l : List (List Int)) (i : Nat), l.length < f → 1 ≤ l.length → l.length ≤ 10000000 → i < l.length → AllH l → solN_ref8_Proof f (l, (((i : Nat) : Int), ())) = some ((proofH l i, ()), ((), ((), ())))
  | 0, l, i, h, _, _, _, _ => by omega
  | f + 1, l, i, h, hl0, hl, hi, ha => by
    unfold solN_ref8_Proof T_ref8_Proof
    simp only [letR_eq, brR_dec, brR_and]
    by_cases h1 : l.length = 1
    · rw [if_pos (by omega), proofH_small (by omega)]
    have hs := sp_facts (n := l.length) (by omega)
    have t1 : List.take (sp l.length - 0) (List.drop 0 l) = l.take (sp l.length) := by simp
    have t2 : List.take (l.length - sp l.length) (List.drop (sp l.length) l) = l.drop (sp l.length) := List.take_of_length_le (by rw [List.length_drop]; omega)
    have k1 := proofH_facts l.length (l.take (sp l.length)) i (by rw [List.length_take]; omega) (ha.take _)
    have k2 := proofH_facts l.length (l.drop (sp l.length)) (i - sp l.length) (by rw [List.length_drop]; omega) (ha.drop _)
    rw [List.length_take] at k1
    rw [List.length_drop] at k2
    rw [if_neg (by omega), rsplitPoint_eq (by omega) (by omega)]
    have g1 : (0 : Int) ≤ ((sp l.length : Nat) : Int) := by omega
    have g2 : ((sp l.length : Nat) : Int) ≤ ((l.length : Nat) : Int) := by omega
    simp only [bind_some', Int.toNat_natCast, if_pos g1, if_pos g2]
    rw [t1, t2]
    by_cases hc : i < sp l.length
    · rw [if_pos (by omega), rproofN_eq f (l.take (sp l.length)) i (by rw [List.length_take]; omega) (by rw [List.length_take]; omega) (by rw [List.length_take]; omega) (by rw [List.length_take]; omega) (ha.take _)]
      simp only [bind_some']
      rw [rrootOf_eq (by rw [List.length_drop]; omega) (ha.drop _)]
      simp only [bind_some']
      rw [brR_roomH (by omega), proofH_left (by omega) hc]; rfl
    · rw [if_neg (by omega), w_i64 (by omega) (by omega), show ((i : Nat) : Int) - ((sp l.length : Nat) : Int) = ((i - sp l.length : Nat) : Int) by omega,
        rproofN_eq f (l.drop (sp l.length)) (i - sp l.length) (by rw [List.length_drop]; omega) (by rw [List.length_drop]; omega) (by rw [List.length_drop]; omega) (by rw [List.length_drop]; omega) (ha.drop _)]
      simp only [bind_some']
      rw [rrootOf_eq (by rw [List.length_take]; omega) (ha.take _)]
      simp only [bind_some']
      rw [brR_roomH (by omega), proofH_right (by omega) hc]; rfl

theorem rproof_eq {l : List (List Int)} {i : Nat} (hl : l.length ≤ 10000000) (hi : i < l.length) (ha : AllH l) : sol_ref8_Proof (l, (((i : Nat) : Int), ())) = some ((proofH l i, ()), ((), ((), ()))) :=
  rproofN_eq bigF l i (by rw [bigF_eq]; omega) (by omega) hl hi ha

/-! ### The tree -/

theorem new_eq : sol_merkle_New () = some ((([], ()), ()), ()) := rfl

theorem append_eq {l : List (List Int)} {h : List Int} (hl : l.length ≤ 10000000) : sol_merkle_Tree_Append ((l, ()), (h, ())) = some ((((l.length : Nat) : Int), ()), ((l ++ [h], ()), ((), ()))) := by
  unfold sol_merkle_Tree_Append T_merkle_Tree_Append
  simp only [letR_eq, append_def]
  rw [brR_roomH (by omega), w_i64 (by rw [List.length_append, List.length_singleton]; omega) (by rw [List.length_append, List.length_singleton]; omega)]
  simp

theorem treeLen_eq {l : List (List Int)} : sol_merkle_Tree_Len ((l, ()), ()) = some ((((l.length : Nat) : Int), ()), ((l, ()), ())) := rfl

theorem treeRoot_in {l : List (List Int)} {n : Nat} (hl : l.length ≤ 10000000) (ha : AllH l) (hn : n ≤ l.length) : sol_merkle_Tree_Root ((l, ()), (((n : Nat) : Int), ())) = some ((rootH (l.take n), (true, ())), ((l, ()), ((), ()))) := by
  unfold sol_merkle_Tree_Root T_merkle_Tree_Root
  simp only [letR_eq, brR_dec, brR_and, Int.toNat_natCast, List.drop_zero, Nat.sub_zero]
  rw [if_neg (by omega), if_neg (by omega), if_pos (by omega), if_pos (by omega), rootOf_eq (by rw [List.length_take]; omega) (ha.take _)]
  rfl

theorem treeRoot_out {l : List (List Int)} {n : Int} (hn : n < 0 ∨ (l.length : Int) < n) : sol_merkle_Tree_Root ((l, ()), (n, ())) = some ((Z32, (false, ())), ((l, ()), ((), ()))) := by
  unfold sol_merkle_Tree_Root T_merkle_Tree_Root
  simp only [letR_eq, brR_dec, brR_and]
  by_cases h : n < 0
  · rw [if_pos h]
  · rw [if_neg h, if_pos (by omega)]

theorem clip_eq (l : List (List Int)) : sol_slices_Clip_api_Hash_api_Hash (l, ()) = some ((l, ()), ((), ())) := by
  unfold sol_slices_Clip_api_Hash_api_Hash T_slices_Clip_api_Hash_api_Hash
  simp only [letR_eq, brR_dec, brR_and]
  rw [if_pos trivial, if_pos (by omega), if_pos (by omega)]
  simp

theorem treeProof_in {l : List (List Int)} {i n : Nat} (hl : l.length ≤ 10000000) (ha : AllH l) (hi : i < n) (hn : n ≤ l.length) :
    sol_merkle_Tree_Proof ((l, ()), (((i : Nat) : Int), (((n : Nat) : Int), ()))) = some ((proofH (l.take n) i, (true, ())), ((l, ()), ((), ((), ())))) := by
  unfold sol_merkle_Tree_Proof T_merkle_Tree_Proof
  simp only [letR_eq, brR_dec, brR_and, Int.toNat_natCast, List.drop_zero, Nat.sub_zero]
  rw [if_neg (by omega), if_neg (by omega), if_neg (by omega), if_pos (by omega), if_pos (by omega), proof_eq (by rw [List.length_take]; omega) (by rw [List.length_take]; omega) (ha.take _)]
  simp only [bind_some']
  rw [clip_eq]
  rfl

theorem treeProof_out {l : List (List Int)} {i n : Int} (h : i < 0 ∨ n ≤ i ∨ (l.length : Int) < n) : sol_merkle_Tree_Proof ((l, ()), (i, (n, ()))) = some (([], (false, ())), ((l, ()), ((), ((), ())))) := by
  unfold sol_merkle_Tree_Proof T_merkle_Tree_Proof
  simp only [letR_eq, brR_dec, brR_and]
  by_cases h1 : i < 0
  · rw [if_pos h1]
  rw [if_neg h1]
  by_cases h2 : n ≤ i
  · rw [if_pos (by omega)]
  rw [if_neg (by omega), if_pos (by omega)]

/-! ### Verification -/

/-- The root that a leaf and a proof (the last element first) yield. -/
def upR : Nat → Nat → List Int → List (List Int) → Option (List Int)
  | n, i, leaf, [] => if n = 1 then some leaf else none
  | n, i, leaf, last :: rest => if n = 1 then none else
    if i < sp n then (upR (sp n) i leaf rest).map (fun h => nodeH h last) else (upR (n - sp n) (i - sp n) leaf rest).map (fun h => nodeH last h)

theorem last_split {p : List (List Int)} (h : p ≠ []) : ∃ rest last, p = rest ++ [last] ∧ p.reverse = last :: rest.reverse := by
  have e : p = p.dropLast ++ [p.getLast h] := (List.dropLast_concat_getLast h).symm
  refine ⟨p.dropLast, p.getLast h, e, ?_⟩
  conv => lhs; rw [e]
  rw [List.reverse_append]; rfl

theorem fromN_eq : ∀ (f : Nat) (p : List (List Int)) (n i : Nat) (leaf : List Int), p.length < f → p.length ≤ 1000000000 → 1 ≤ n → n ≤ 9223372036854775807 → i < n → H32 leaf → AllH p →
    ∃ h, H32 h ∧ solN_merkle_rootFrom f (((n : Nat) : Int), (((i : Nat) : Int), (leaf, (p, ())))) = some ((h, ((upR n i leaf p.reverse).isSome, ())), ((), ((), ((), ((), ()))))) ∧ ∀ r, upR n i leaf p.reverse = some r → h = r
  | 0, p, n, i, leaf, h, _, _, _, _, _, _ => by omega
  | f + 1, p, n, i, leaf, h, hl, hn1, hn2, hi, hf, ha => by
    unfold solN_merkle_rootFrom T_merkle_rootFrom
    simp only [letR_eq, brR_dec, brR_inR, brR_and]
    by_cases hp : p = []
    · subst hp
      by_cases h1 : n = 1
      · subst h1
        exact ⟨leaf, hf, by simp [upR], fun r hr => by simpa [upR] using hr⟩
      · refine ⟨Z32, h32_zero, ?_, fun r hr => by simp [upR, h1] at hr⟩
        rw [if_neg (by omega), if_pos (by simp)]
        simp [upR, h1, Z32]
    obtain ⟨rest, last, e1, e2⟩ := last_split hp
    have hlen : p.length = rest.length + 1 := by rw [e1]; simp
    rw [e2]
    by_cases h1 : n = 1
    · subst h1
      refine ⟨leaf, hf, ?_, fun r hr => by simp [upR] at hr⟩
      rw [if_pos (by omega)]
      simp [upR, hlen]; omega
    have hs := sp_facts (n := n) (by omega)
    rw [if_neg (by omega), if_neg (by omega), splitPoint_eq (by omega) hn2]
    simp only [bind_some']
    rw [w_i64 (n := ((p.length : Nat) : Int) - 1) (by omega) (by omega), if_pos (by omega), if_pos (by omega), if_pos (by omega), show (((p.length : Nat) : Int) - 1).toNat = rest.length by omega]
    have t1 : List.take (rest.length - 0) (List.drop 0 p) = rest := by rw [e1]; simp
    have t2 : p.getD rest.length Z32 = last := by rw [e1, List.getD_eq_getElem?_getD, List.getElem?_append_right (by omega)]; simp
    have hrest : AllH rest := fun x hx => ha x (by rw [e1]; simp [hx])
    have hlast : H32 last := ha last (by rw [e1]; simp)
    rw [t1, t2]
    by_cases hc : i < sp n
    · obtain ⟨h', q1, q2, q3⟩ := fromN_eq f rest (sp n) i leaf (by omega) (by omega) (by omega) (by omega) hc hf hrest
      rw [if_pos (by omega), q2]
      simp only [bind_some']
      rw [node_eq q1 hlast]
      refine ⟨nodeH h' last, h32_node _ _, by simp only [bind_some', upR]; rw [if_neg h1, if_pos hc]; simp, fun r hr => ?_⟩
      simp only [upR] at hr
      rw [if_neg h1, if_pos hc] at hr
      obtain ⟨r', hr1, rfl⟩ := Option.map_eq_some_iff.1 hr
      rw [q3 _ hr1]
    · obtain ⟨h', q1, q2, q3⟩ := fromN_eq f rest (n - sp n) (i - sp n) leaf (by omega) (by omega) (by omega) (by omega) (by omega) hf hrest
      rw [if_neg (by omega), w_i64 (n := (n : Int) - (sp n : Nat)) (by omega) (by omega), w_i64 (n := (i : Int) - (sp n : Nat)) (by omega) (by omega), show (n : Int) - ((sp n : Nat) : Int) = ((n - sp n : Nat) : Int) by omega, show (i : Int) - ((sp n : Nat) : Int) = ((i - sp n : Nat) : Int) by omega, q2]
      simp only [bind_some']
      rw [node_eq hlast q1]
      refine ⟨nodeH last h', h32_node _ _, by simp only [bind_some', upR]; rw [if_neg h1, if_neg hc]; simp, fun r hr => ?_⟩
      simp only [upR] at hr
      rw [if_neg h1, if_neg hc] at hr
      obtain ⟨r', hr1, rfl⟩ := Option.map_eq_some_iff.1 hr
      rw [q3 _ hr1]

theorem upN_eq : ∀ (f : Nat) (p : List (List Int)) (n i : Nat) (leaf : List Int), p.length < f → p.length ≤ 1000000000 → 1 ≤ n → n ≤ 9223372036854775807 → i < n → H32 leaf → AllH p →
    ∃ h, H32 h ∧ solN_ref8_up f (((n : Nat) : Int), (((i : Nat) : Int), (leaf, (p, ())))) = some ((h, ((upR n i leaf p.reverse).isSome, ())), ((), ((), ((), ((), ()))))) ∧ ∀ r, upR n i leaf p.reverse = some r → h = r
  | 0, p, n, i, leaf, h, _, _, _, _, _, _ => by omega
  | f + 1, p, n, i, leaf, h, hl, hn1, hn2, hi, hf, ha => by
    unfold solN_ref8_up T_ref8_up
    simp only [letR_eq, brR_dec, brR_inR, brR_and]
    by_cases hp : p = []
    · subst hp
      by_cases h1 : n = 1
      · subst h1
        exact ⟨leaf, hf, by simp [upR], fun r hr => by simpa [upR] using hr⟩
      · refine ⟨leaf, hf, ?_, fun r hr => by simp [upR, h1] at hr⟩
        rw [if_neg (by omega), if_pos (by simp)]
        simp [upR, h1, Z32]
    obtain ⟨rest, last, e1, e2⟩ := last_split hp
    have hlen : p.length = rest.length + 1 := by rw [e1]; simp
    rw [e2]
    by_cases h1 : n = 1
    · subst h1
      refine ⟨leaf, hf, ?_, fun r hr => by simp [upR] at hr⟩
      rw [if_pos (by omega)]
      simp [upR, hlen]; omega
    have hs := sp_facts (n := n) (by omega)
    rw [if_neg (by omega), if_neg (by omega), rsplitPoint_eq (by omega) hn2]
    simp only [bind_some']
    rw [w_i64 (n := ((p.length : Nat) : Int) - 1) (by omega) (by omega), if_pos (by omega), show (((p.length : Nat) : Int) - 1).toNat = rest.length by omega]
    have g1 : (0 : Int) ≤ ((p.length : Nat) : Int) - 1 := by omega
    have g2 : ((p.length : Nat) : Int) - 1 ≤ ((p.length : Nat) : Int) := by omega
    simp only [if_pos g1, if_pos g2]
    have t1 : List.take (rest.length - 0) (List.drop 0 p) = rest := by rw [e1]; simp
    have t2 : p.getD rest.length Z32 = last := by rw [e1, List.getD_eq_getElem?_getD, List.getElem?_append_right (by omega)]; simp
    have hrest : AllH rest := fun x hx => ha x (by rw [e1]; simp [hx])
    have hlast : H32 last := ha last (by rw [e1]; simp)
    rw [t1, t2]
    by_cases hc : i < sp n
    · obtain ⟨h', q1, q2, q3⟩ := upN_eq f rest (sp n) i leaf (by omega) (by omega) (by omega) (by omega) hc hf hrest
      rw [if_pos (by omega), q2]
      simp only [bind_some']
      rw [rnode_eq q1 hlast]
      refine ⟨nodeH h' last, h32_node _ _, by simp only [bind_some', upR]; rw [if_neg h1, if_pos hc]; simp, fun r hr => ?_⟩
      simp only [upR] at hr
      rw [if_neg h1, if_pos hc] at hr
      obtain ⟨r', hr1, rfl⟩ := Option.map_eq_some_iff.1 hr
      rw [q3 _ hr1]
    · obtain ⟨h', q1, q2, q3⟩ := upN_eq f rest (n - sp n) (i - sp n) leaf (by omega) (by omega) (by omega) (by omega) (by omega) hf hrest
      rw [if_neg (by omega), w_i64 (n := (n : Int) - (sp n : Nat)) (by omega) (by omega), w_i64 (n := (i : Int) - (sp n : Nat)) (by omega) (by omega), show (n : Int) - ((sp n : Nat) : Int) = ((n - sp n : Nat) : Int) by omega, show (i : Int) - ((sp n : Nat) : Int) = ((i - sp n : Nat) : Int) by omega, q2]
      simp only [bind_some']
      rw [rnode_eq hlast q1]
      refine ⟨nodeH last h', h32_node _ _, by simp only [bind_some', upR]; rw [if_neg h1, if_neg hc]; simp, fun r hr => ?_⟩
      simp only [upR] at hr
      rw [if_neg h1, if_neg hc] at hr
      obtain ⟨r', hr1, rfl⟩ := Option.map_eq_some_iff.1 hr
      rw [q3 _ hr1]

/-- Does a proof show a leaf? -/
noncomputable def verifyH (root : List Int) (n i : Int) (leaf : List Int) (p : List (List Int)) : Bool :=
  decide (0 ≤ i ∧ i < n) && decide (upR n.toNat i.toNat leaf p.reverse = some root)

theorem verify_eq {root leaf : List Int} {n i : Int} {p : List (List Int)} (hn : n ≤ 9223372036854775807) (hl : p.length ≤ 1000000000) (hf : H32 leaf) (ha : AllH p) :
    sol_merkle_Verify (root, (n, (i, (leaf, (p, ()))))) = some ((verifyH root n i leaf p, ()), ((), ((), ((), ((), ((), ())))))) := by
  unfold sol_merkle_Verify T_merkle_Verify verifyH
  simp only [brR_dec]
  by_cases h1 : i < 0
  · rw [if_pos h1, decide_eq_false (by omega)]; rfl
  rw [if_neg h1]
  by_cases h2 : i ≥ n
  · rw [if_pos h2, decide_eq_false (by omega)]; rfl
  rw [if_neg h2, decide_eq_true (by omega)]
  obtain ⟨i, rfl⟩ := Int.eq_ofNat_of_zero_le (show 0 ≤ i by omega)
  obtain ⟨n, rfl⟩ := Int.eq_ofNat_of_zero_le (show 0 ≤ n by omega)
  obtain ⟨h, q1, q2, q3⟩ := fromN_eq bigF p n i leaf (by rw [bigF_eq]; omega) hl (by omega) (by omega) (by omega) hf ha
  unfold sol_merkle_rootFrom
  rw [q2]
  simp only [bind_some', Int.toNat_natCast, Bool.true_and]
  by_cases hu : ∃ r, upR n i leaf p.reverse = some r
  · obtain ⟨r, hu⟩ := hu
    simp only [q3 r hu, hu, Option.isSome_some, brR_true, eqD_h32]
    simp
  · have hn : upR n i leaf p.reverse = none := by
      cases h0 : upR n i leaf p.reverse with
      | none => rfl
      | some r => exact absurd ⟨r, h0⟩ hu
    simp [hn, brR_false]

theorem rverify_eq {root leaf : List Int} {n i : Int} {p : List (List Int)} (hn : n ≤ 9223372036854775807) (hl : p.length ≤ 64) (hf : H32 leaf) (ha : AllH p) :
    sol_ref8_Verify (root, (n, (i, (leaf, (p, ()))))) = some ((verifyH root n i leaf p, ()), ((), ((), ((), ((), ((), ())))))) := by
  unfold sol_ref8_Verify T_ref8_Verify verifyH
  simp only [brR_dec]
  by_cases h1 : i < 0
  · rw [if_pos h1, decide_eq_false (by omega)]; rfl
  rw [if_neg h1]
  by_cases h2 : i ≥ n
  · rw [if_pos h2, decide_eq_false (by omega)]; rfl
  rw [if_neg h2, if_neg (by omega), decide_eq_true (by omega)]
  obtain ⟨i, rfl⟩ := Int.eq_ofNat_of_zero_le (show 0 ≤ i by omega)
  obtain ⟨n, rfl⟩ := Int.eq_ofNat_of_zero_le (show 0 ≤ n by omega)
  obtain ⟨h, q1, q2, q3⟩ := upN_eq bigF p n i leaf (by rw [bigF_eq]; omega) (by omega) (by omega) (by omega) (by omega) hf ha
  unfold sol_ref8_up
  rw [q2]
  simp only [bind_some', Int.toNat_natCast, Bool.true_and]
  by_cases hu : ∃ r, upR n i leaf p.reverse = some r
  · obtain ⟨r, hu⟩ := hu
    simp only [q3 r hu, hu, Option.isSome_some, brR_true, eqD_h32]
    simp
  · have hn : upR n i leaf p.reverse = none := by
      cases h0 : upR n i leaf p.reverse with
      | none => rfl
      | some r => exact absurd ⟨r, h0⟩ hu
    simp [hn, brR_false]

/-- Every proof shows its leaf. -/
theorem up_proof : ∀ (m : Nat) (l : List (List Int)) (i : Nat), l.length ≤ m → i < l.length → upR l.length i (l.getD i Z32) (proofH l i).reverse = some (rootH l)
  | 0, l, i, h, hi => by omega
  | m + 1, l, i, h, hi => by
    by_cases h2 : 2 ≤ l.length
    · have hs := sp_facts h2
      rw [rootH_two h2]
      by_cases hc : i < sp l.length
      · have ih := up_proof m (l.take (sp l.length)) i (by rw [List.length_take]; omega) (by rw [List.length_take]; omega)
        have e1 : (l.take (sp l.length)).length = sp l.length := by rw [List.length_take]; omega
        have e2 : (l.take (sp l.length)).getD i Z32 = l.getD i Z32 := by
          rw [List.getD_eq_getElem?_getD, List.getElem?_take, if_pos hc, List.getD_eq_getElem?_getD]
        rw [e1, e2] at ih
        rw [proofH_left h2 hc, List.reverse_append, List.reverse_singleton, List.singleton_append, upR, if_neg (by omega), if_pos hc, ih]; rfl
      · have ih := up_proof m (l.drop (sp l.length)) (i - sp l.length) (by rw [List.length_drop]; omega) (by rw [List.length_drop]; omega)
        have e2 : (l.drop (sp l.length)).getD (i - sp l.length) Z32 = l.getD i Z32 := by
          rw [List.getD_eq_getElem?_getD, List.getElem?_drop, List.getD_eq_getElem?_getD, show sp l.length + (i - sp l.length) = i by omega]
        rw [List.length_drop, e2] at ih
        rw [proofH_right h2 hc, List.reverse_append, List.reverse_singleton, List.singleton_append, upR, if_neg (by omega), if_neg hc, ih]; rfl
    · have h1 : l.length = 1 := by omega
      have : i = 0 := by omega
      subst this
      rw [proofH_small (by omega), rootH_one h1, h1]; rfl

end Go.Pon
/-
  Helpers of the laws: hashes that contain numbers, lists of hashes.
-/
set_option autoImplicit false
set_option linter.unusedVariables false
set_option linter.unusedSimpArgs false
set_option maxRecDepth 100000
namespace Go.Pon
open Go

def hofN (n : Int) (i : Nat) : List Int := (List.range 32).map fun k => if k < i then (((n % 18446744073709551616).toNat / 256 ^ k % 256 : Nat) : Int) else 0

/-- The hash that contains a number. -/
def hof (n : Int) : List Int := hofN n 8

theorem len_hofN (n : Int) (i : Nat) : (hofN n i).length = 32 := by simp [hofN]

theorem hofN_getD {n : Int} {i k : Nat} (hk : k < 32) : (hofN n i).getD k 0 = if k < i then (((n % 18446744073709551616).toNat / 256 ^ k % 256 : Nat) : Int) else 0 := by
  rw [hofN, List.getD_eq_getElem?_getD, List.getElem?_map, List.getElem?_range hk]; rfl

theorem ext32 {l m : List Int} (hl : l.length = 32) (hm : m.length = 32) (h : ∀ k, k < 32 → l.getD k 0 = m.getD k 0) : l = m := by
  apply List.ext_getElem
  · omega
  · intro k h1 h2
    have := h k (by omega)
    rw [List.getD_eq_getElem?_getD, List.getElem?_eq_getElem h1, List.getD_eq_getElem?_getD, List.getElem?_eq_getElem h2] at this
    exact this

theorem h32_hof (n : Int) : H32 (hof n) := by
  refine ⟨len_hofN n 8, fun x hx => ?_⟩
  simp only [hof, hofN, List.mem_map] at hx
  obtain ⟨k, _, rfl⟩ := hx
  split <;> omega

theorem hashOf_eq (n : Int) : sol_law0_HashOf (n, ()) = some ((hof n, ()), ((), ())) := by
  unfold sol_law0_HashOf T_law0_HashOf
  refine bigLoop_rule (I := fun x => x.1 = n ∧ (0 : Int) ≤ x.2.2.2.1 ∧ x.2.2.2.1 ≤ (8 : Int) ∧ x.2.2.1 = hofN n x.2.2.2.1.toNat) (m := fun x => ((8 : Int) - x.2.2.2.1).toNat) (g := fun _ => some ((hof n, ()), ((), ()))) ?_
    ⟨rfl, by simp only; omega, by simp only; omega, ?_⟩ (by simp only [bigN_eq]; omega)
  · rintro ⟨n', t, h, i, _⟩ again ⟨e0, e1, e2, e3⟩ hag
    simp only at e0 e1 e2 e3 hag ⊢
    subst e0 e3
    obtain ⟨i, rfl⟩ := Int.eq_ofNat_of_zero_le e1
    simp only [T_law0_HashOf_loop0, letR_eq, brR_dec, brR_inR, Int.toNat_natCast]
    by_cases hi : i < 8
    · rw [if_pos (by omega), w_i64 (n := 8 * (i : Int)) (by omega) (by omega), w_u64 (n := 8 * (i : Int)) (by omega) (by omega), if_pos (by omega), if_pos (by omega), w_i64 (by omega) (by omega), show (8 * (i : Int)).toNat = 8 * i by omega, Nat.min_eq_left (by omega)]
      have hb : IntKind.wrap .u8 (Int.fdiv (IntKind.wrap .u64 n') ((2 : Int) ^ (8 * i))) = (((n' % 18446744073709551616).toNat / 256 ^ i % 256 : Nat) : Int) := by
        have p : ∀ k : Nat, (2 : Int) ^ k = ((2 ^ k : Nat) : Int) := fun k => by rw [Int.natCast_pow]; rfl
        have e : IntKind.wrap .u64 n' = (((n' % 18446744073709551616).toNat : Nat) : Int) := by rw [IntKind.wrap_u64]; omega
        rw [e, p, d32, IntKind.wrap_u8, pow256]; omega
      rw [hb]
      refine hag _ ⟨rfl, by simp only; omega, by simp only; omega, ?_⟩ (by simp only; omega)
      simp only
      rw [show ((i : Int) + 1).toNat = i + 1 by omega]
      refine ext32 (by rw [List.length_set, len_hofN]) (len_hofN _ _) fun k hk => ?_
      rw [lgetD_set (by rw [len_hofN]; omega), hofN_getD hk, hofN_getD hk]
      by_cases hki : k = i
      · subst hki; rw [if_pos rfl, if_pos (by omega)]
      · rw [if_neg hki]
        by_cases hlt : k < i
        · rw [if_pos hlt, if_pos (by omega)]
        · rw [if_neg hlt, if_neg (by omega)]
    · have : i = 8 := by omega
      subst this
      rw [if_neg (by omega)]; rfl
  · simp only
    refine ext32 (by simp) (len_hofN _ _) fun k hk => ?_
    rw [hofN_getD hk, show (0 : Int).toNat = 0 from rfl, if_neg (by omega), List.getD_eq_getElem?_getD, List.getElem?_replicate, if_pos hk]; rfl

/-- Lists that agree place by place are one. -/
theorem ext_getD {α : Type} {l m : List α} {d : α} (hl : l.length = m.length) (h : ∀ k, k < l.length → l.getD k d = m.getD k d) : l = m := by
  apply List.ext_getElem hl
  intro k h1 h2
  have := h k h1
  rw [List.getD_eq_getElem?_getD, List.getElem?_eq_getElem h1, List.getD_eq_getElem?_getD, List.getElem?_eq_getElem h2] at this
  exact this

theorem equalHashes_eq (a b : List (List Int)) (ha : a.length ≤ 1000000000) : sol_law0_EqualHashes (a, (b, ())) = some ((decide (a = b), ()), ((), ((), ()))) := by
  unfold sol_law0_EqualHashes T_law0_EqualHashes
  simp only [brR_dec, brR_not]
  by_cases hl : a.length = b.length
  · rw [if_pos (by omega)]
    refine bigLoop_rule (I := fun x => x.1 = a ∧ x.2.1 = b ∧ (0 : Int) ≤ x.2.2.1 ∧ x.2.2.1 ≤ ((a.length : Nat) : Int) ∧ ∀ k, k < x.2.2.1.toNat → a.getD k Z32 = b.getD k Z32) (m := fun x => (((a.length : Nat) : Int) - x.2.2.1).toNat) (g := fun _ => some ((decide (a = b), ()), ((), ((), ())))) ?_
      ⟨rfl, rfl, by simp only; omega, by simp only; omega, fun k hk => by simp at hk⟩ (by simp only [bigN_eq]; omega)
    rintro ⟨a', b', i, _⟩ again ⟨e0, e1, e2, e3, e4⟩ hag
    simp only at e0 e1 e2 e3 e4 hag ⊢
    subst e0 e1
    obtain ⟨i, rfl⟩ := Int.eq_ofNat_of_zero_le e2
    simp only [T_law0_EqualHashes_loop0, brR_dec, brR_inR, brR_not, eqD_h32, Int.toNat_natCast]
    by_cases hi : i < a'.length
    · rw [if_pos (by omega), if_pos (by omega), if_pos (by omega)]
      by_cases hc : a'.getD i Z32 = b'.getD i Z32
      · rw [if_pos hc, w_i64 (by omega) (by omega)]
        refine hag _ ⟨rfl, rfl, by simp only; omega, by simp only; omega, fun k hk => ?_⟩ (by simp only; omega)
        simp only at hk
        rw [show ((i : Int) + 1).toNat = i + 1 by omega] at hk
        rcases Nat.lt_or_ge k i with h | h
        · exact e4 k (by simpa using h)
        · rw [show k = i by omega]; exact hc
      · rw [if_neg hc, decide_eq_false (fun h => hc (by rw [h]))]
    · rw [if_neg (by omega), decide_eq_true (ext_getD hl fun k hk => e4 k (by simp; omega))]
  · rw [if_neg (by omega), decide_eq_false (fun h => hl (by rw [h]))]

theorem take_map_succ {α β : Type} {f : α → β} {l : List α} {d : α} {i : Nat} (h : i < l.length) : (l.take (i + 1)).map f = (l.take i).map f ++ [f (l.getD i d)] := by
  rw [List.take_succ_eq_append_getElem h, List.map_append, List.getD_eq_getElem?_getD, List.getElem?_eq_getElem h]; rfl

theorem take_succ' {α : Type} {l : List α} {d : α} {i : Nat} (h : i < l.length) : l.take (i + 1) = l.take i ++ [l.getD i d] := by
  rw [List.take_succ_eq_append_getElem h, List.getD_eq_getElem?_getD, List.getElem?_eq_getElem h]; rfl

theorem allH_map (v : List Int) : AllH (v.map hof) := fun x hx => by
  obtain ⟨n, _, rfl⟩ := List.mem_map.1 hx
  exact h32_hof n

end Go.Pon
/-
  Steps: what their encoding and their canonical form are.
-/
set_option autoImplicit false
set_option linter.unusedVariables false
set_option linter.unusedSimpArgs false
namespace Go.Pon
open Go

abbrev RepT := Int × (Int × (List Int × Unit))
abbrev ClaimT := Int × (Int × (Int × (List Int × (List (List Int) × Unit))))
abbrev StepT := Int × (TxT × (RepT × (Int × (Int × (List Int × (Int × (ClaimT × Unit)))))))

abbrev zRep : RepT := ((0 : Int), ((0 : Int), ([(0 : Int), (0 : Int), (0 : Int), (0 : Int)], ())))
abbrev zClaim : ClaimT := ((0 : Int), ((0 : Int), ((0 : Int), ([(0 : Int), (0 : Int), (0 : Int), (0 : Int)], (([] : List (List Int)), ())))))
abbrev zTx : TxT := ((0 : Int), ((0 : Int), ((0 : Int), ([(0 : Int), (0 : Int), (0 : Int), (0 : Int)], ((0 : Int), ([(0 : Int), (0 : Int), (0 : Int), (0 : Int)], ([(0 : Int), (0 : Int), (0 : Int), (0 : Int)], ((0 : Int), (([] : List Int), ())))))))))
abbrev zStep : StepT := ((0 : Int), (zTx, (zRep, ((0 : Int), ((0 : Int), ([(0 : Int), (0 : Int), (0 : Int), (0 : Int)], ((0 : Int), (zClaim, ()))))))))

inductive ClaimW : ClaimT → Prop
  | mk {a b c : Int} {v : Nat} {l : List (List Int)} (ha : U64 a) (hb : U64 b) (hc : U64 c) (hv : B256 v) (hl : AllH l) : ClaimW (a, (b, (c, (lim v, (l, ())))))

inductive StepW : StepT → Prop
  | mk {k : Int} {t : TxT} {a b : Int} {c : Nat} {s y : Int} {v : Nat} {d : Int} {q : ClaimT} (hk : -9223372036854775808 ≤ k ∧ k ≤ 9223372036854775807) (ht : TxW t) (ha : U64 a) (hb : U64 b) (hc : B256 c)
      (hs : U64 s) (hy : -9223372036854775808 ≤ y ∧ y ≤ 9223372036854775807) (hv : B256 v) (hd : U64 d) (hq : ClaimW q) :
    StepW (k, (t, ((a, (b, (lim c, ()))), (s, (y, (lim v, (d, (q, ()))))))))

/-- All that its kind does not use is cleared. -/
def canon (s : StepT) : StepT :=
  if s.1 = 1 then (1, (s.2.1, (zRep, ((0 : Int), ((0 : Int), ([(0 : Int), (0 : Int), (0 : Int), (0 : Int)], ((0 : Int), (zClaim, ()))))))))
  else if s.1 = 2 then (2, (zTx, (s.2.2.1, ((0 : Int), ((0 : Int), ([(0 : Int), (0 : Int), (0 : Int), (0 : Int)], ((0 : Int), (zClaim, ()))))))))
  else if s.1 = 3 then (3, (zTx, (zRep, (s.2.2.2.1, ((0 : Int), ([(0 : Int), (0 : Int), (0 : Int), (0 : Int)], ((0 : Int), (zClaim, ()))))))))
  else if s.1 = 4 then (4, (zTx, (zRep, ((0 : Int), (s.2.2.2.2.1, (s.2.2.2.2.2.1, ((0 : Int), (zClaim, ()))))))))
  else if s.1 = 5 then (5, (zTx, (zRep, ((0 : Int), ((0 : Int), ([(0 : Int), (0 : Int), (0 : Int), (0 : Int)], (s.2.2.2.2.2.2.1, (zClaim, ()))))))))
  else if s.1 = 6 then (6, (zTx, (zRep, ((0 : Int), ((0 : Int), (s.2.2.2.2.2.1, (s.2.2.2.2.2.2.1, (zClaim, ()))))))))
  else if s.1 = 7 then (7, (zTx, (zRep, ((0 : Int), ((0 : Int), ([(0 : Int), (0 : Int), (0 : Int), (0 : Int)], ((0 : Int), (s.2.2.2.2.2.2.2.1, ()))))))))
  else zStep

def encRep (r : RepT) : List Int := enc r.1.toNat ++ (enc r.2.1.toNat ++ enc (val4 r.2.2.1))
def encClaim (c : ClaimT) : List Int := enc c.1.toNat ++ (enc c.2.1.toNat ++ (enc c.2.2.1.toNat ++ (enc (val4 c.2.2.2.1) ++ (enc c.2.2.2.2.1.length ++ c.2.2.2.2.1.flatten))))

/-- The encoding behind the kind. -/
def encB (s : StepT) : List Int :=
  if s.1 = 1 then enc (encTx s.2.1).length ++ encTx s.2.1
  else if s.1 = 2 then encRep s.2.2.1
  else if s.1 = 3 then enc s.2.2.2.1.toNat
  else if s.1 = 4 then enc s.2.2.2.2.1.toNat ++ enc (val4 s.2.2.2.2.2.1)
  else if s.1 = 5 then enc s.2.2.2.2.2.2.1.toNat
  else if s.1 = 6 then enc s.2.2.2.2.2.2.1.toNat ++ enc (val4 s.2.2.2.2.2.1)
  else encClaim s.2.2.2.2.2.2.2.1

/-- Why a step has no encoding. -/
def badS (s : StepT) : Int :=
  if s.1 < 1 ∨ 7 < s.1 then 17
  else if s.1 = 4 ∧ s.2.2.2.2.1 < 0 then 2
  else if s.1 = 7 ∧ 64 < s.2.2.2.2.2.2.2.1.2.2.2.2.1.length then 6
  else if s.1 = 1 ∧ 4096 < s.2.1.2.2.2.2.2.2.2.2.1.length then 6
  else 0

def encS (s : StepT) : List Int × (Int × Unit) := if badS s = 0 then (s.1 :: encB s, ((0 : Int), ())) else ([], (badS s, ()))

theorem kind7 {k : Int} (h : ¬ (k < 1 ∨ 7 < k)) : k = 1 ∨ k = 2 ∨ k = 3 ∨ k = 4 ∨ k = 5 ∨ k = 6 ∨ k = 7 := by omega

/-! ### Canonical forms -/

theorem cloneH_eq {l : List (List Int)} (h : l.length ≤ 100000000) : sol_slices_Clone_api_Hash_api_Hash (l, ()) = some ((l, ()), ((), ())) := by
  unfold sol_slices_Clone_api_Hash_api_Hash T_slices_Clone_api_Hash_api_Hash
  simp only [letR_eq]
  rw [brR_roomH (by omega), brR_dec]
  split
  · rename_i h0
    have : l = [] := List.length_eq_zero_iff.1 h0
    subst this
    exact bothR_eq rfl rfl
  · rfl

theorem stepCanonical_eq {s : StepT} (hd : s.2.1.2.2.2.2.2.2.2.2.1.length ≤ 100000000) (hp : s.2.2.2.2.2.2.2.1.2.2.2.2.1.length ≤ 100000000) : sol_step_Canonical (s, ()) = some ((canon s, ()), ((), ())) := by
  obtain ⟨k, t, r, a, b, v, d, q, _⟩ := s
  simp only at hd hp
  unfold sol_step_Canonical T_step_Canonical canon
  simp only [brR_dec]
  by_cases h1 : k = 1
  · subst h1
    rw [if_pos rfl, if_pos rfl, clone_eq (by omega)]
    rfl
  rw [if_neg h1, if_neg h1]
  by_cases h2 : k = 2
  · subst h2
    rw [if_pos rfl, if_pos rfl]
  rw [if_neg h2, if_neg h2]
  by_cases h3 : k = 3
  · subst h3
    rw [if_pos rfl, if_pos rfl]
  rw [if_neg h3, if_neg h3]
  by_cases h4 : k = 4
  · subst h4
    rw [if_pos rfl, if_pos rfl]
  rw [if_neg h4, if_neg h4]
  by_cases h5 : k = 5
  · subst h5
    rw [if_pos rfl, if_pos rfl]
  rw [if_neg h5, if_neg h5]
  by_cases h6 : k = 6
  · subst h6
    rw [if_pos rfl, if_pos rfl]
  rw [if_neg h6, if_neg h6]
  by_cases h7 : k = 7
  · subst h7
    rw [if_pos rfl, if_pos rfl, cloneH_eq hp, bind_some']
  · rw [if_neg h7, if_neg h7]

theorem rCanonical_eq {s : StepT} (hd : s.2.1.2.2.2.2.2.2.2.2.1.length ≤ 100000000) (hp : s.2.2.2.2.2.2.2.1.2.2.2.2.1.length ≤ 100000000) : sol_ref26_Canonical (s, ()) = some ((canon s, ()), ((), ())) := by
  obtain ⟨k, t, r, a, b, v, d, q, _⟩ := s
  simp only at hd hp
  unfold sol_ref26_Canonical T_ref26_Canonical canon
  simp only [brR_dec]
  by_cases h1 : k = 1
  · subst h1
    rw [if_pos rfl, if_pos rfl, brR_room8 (by omega)]
  rw [if_neg h1, if_neg h1]
  by_cases h2 : k = 2
  · subst h2
    rw [if_pos rfl, if_pos rfl]
  rw [if_neg h2, if_neg h2]
  by_cases h3 : k = 3
  · subst h3
    rw [if_pos rfl, if_pos rfl]
  rw [if_neg h3, if_neg h3]
  by_cases h4 : k = 4
  · subst h4
    rw [if_pos rfl, if_pos rfl]
  rw [if_neg h4, if_neg h4]
  by_cases h5 : k = 5
  · subst h5
    rw [if_pos rfl, if_pos rfl]
  rw [if_neg h5, if_neg h5]
  by_cases h6 : k = 6
  · subst h6
    rw [if_pos rfl, if_pos rfl]
  rw [if_neg h6, if_neg h6]
  by_cases h7 : k = 7
  · subst h7
    rw [if_pos rfl, if_pos rfl, brR_roomH (by omega)]
  rw [if_neg h7, if_neg h7]

/-! ### Encoding -/

theorem flat_len {l : List (List Int)} (h : AllH l) : l.flatten.length = 32 * l.length := by
  induction l with
  | nil => rfl
  | cons a l ih =>
    rw [List.flatten_cons, List.length_append, ih fun x hx => h x (by simp [hx]), (h a (by simp)).1, List.length_cons]
    omega

theorem take_flat {l : List (List Int)} {i : Nat} (hi : i < l.length) : (l.take i).flatten ++ l.getD i (List.replicate 32 0) = (l.take (i + 1)).flatten := by
  rw [List.take_add_one, List.flatten_append, List.getElem?_eq_getElem hi, List.getD_eq_getElem?_getD, List.getElem?_eq_getElem hi]
  simp

theorem AllH.at32 {l : List (List Int)} (h : AllH l) {i : Nat} (hi : i < l.length) : (l.getD i (List.replicate 32 0)).length = 32 := (h _ (getD_mem hi)).1

theorem appendClaim_eq {c : ClaimT} (h : ClaimW c) (hl : c.2.2.2.2.1.length ≤ 1000000) {b : List Int} (hb : b.length ≤ 1000) : sol_step_appendClaim (b, (c, ())) = some ((b ++ encClaim c, ()), ((), ((), ()))) := by
  obtain ⟨h1, h2, h3, hv, hh⟩ := h
  rename_i x y z v l
  simp only at hl
  unfold U64 at h1 h2 h3
  have := @bylen_64 x.toNat (by omega); have := @bylen_64 y.toNat (by omega); have := @bylen_64 z.toNat (by omega); have := bylen_256 hv
  have := @bylen_64 l.length (by omega)
  unfold sol_step_appendClaim T_step_appendClaim
  simp only [letR_eq]
  rw [appendUint64_eq (by omega) h1.1 h1.2]; simp only [bind_some']
  rw [appendUint64_eq (by simp [len_enc]; omega) h2.1 h2.2]; simp only [bind_some']
  rw [appendUint64_eq (by simp [len_enc]; omega) h3.1 h3.2]; simp only [bind_some']
  rw [appendUint256_eq (by simp [len_enc]; omega) hv]; simp only [bind_some']
  rw [w_u64 (by omega) (by omega), appendUint64_eq (by simp [len_enc]; omega) (by omega) (by omega)]; simp only [bind_some', Int.toNat_natCast]
  have hp : (b ++ enc x.toNat ++ enc y.toNat ++ enc z.toNat ++ enc v ++ enc l.length).length ≤ 2000 := by simp [len_enc]; omega
  have e : b ++ encClaim (x, (y, (z, (lim v, (l, ()))))) = (b ++ enc x.toNat ++ enc y.toNat ++ enc z.toNat ++ enc v ++ enc l.length) ++ l.flatten := by
    simp only [encClaim, val4_lim, List.append_assoc]
  rw [e]
  generalize (b ++ enc x.toNat ++ enc y.toNat ++ enc z.toNat ++ enc v ++ enc l.length) = p at hp ⊢
  refine bigLoop_rule (I := fun s => ∃ i : Nat, i ≤ l.length ∧ s = (p ++ (l.take i).flatten, (l, (((l.length : Nat) : Int), (((i : Nat) : Int), ())))))
    (m := fun s => (((l.length : Nat) : Int) - s.2.2.2.1).toNat) (g := fun _ => some ((p ++ l.flatten, ()), ((), ((), ())))) ?_ ⟨0, by omega, by simp⟩ (by rw [bigN_eq]; simp only; omega)
  rintro s again ⟨i, hi, rfl⟩ hag
  simp only at hag ⊢
  unfold T_step_appendClaim_loop0
  simp only [letR_eq, brR_dec, brR_inR, append_def]
  by_cases h1 : ((i : Nat) : Int) < ((l.length : Nat) : Int)
  · have hil : i < l.length := by omega
    have h32 := hh.at32 hil
    have hf := flat_len (hh.take i)
    rw [List.length_take] at hf
    rw [if_pos h1, if_pos (by omega), Int.toNat_natCast, List.drop_zero, show List.take (32 - 0) (l.getD i (List.replicate 32 0)) = l.getD i (List.replicate 32 0) from List.take_of_length_le (by omega), brR_room8 (by rw [List.length_append, h32, hf]; omega), List.append_assoc, take_flat hil, w_i64 (by omega) (by omega)]
    exact hag _ ⟨i + 1, by omega, by rw [Int.natCast_add]; rfl⟩ (by simp only; omega)
  · rw [if_neg h1, show i = l.length by omega, List.take_length]

theorem rclaim_eq {c : ClaimT} (h : ClaimW c) (hl : c.2.2.2.2.1.length ≤ 1000000) {b : List Int} (hb : b.length ≤ 1000) : sol_ref26_claim (b, (c, ())) = some ((b ++ encClaim c, ()), ((), ((), ()))) := by
  obtain ⟨h1, h2, h3, hv, hh⟩ := h
  rename_i x y z v l
  simp only at hl
  unfold U64 at h1 h2 h3
  have := @bylen_64 x.toNat (by omega); have := @bylen_64 y.toNat (by omega); have := @bylen_64 z.toNat (by omega); have := bylen_256 hv
  have := @bylen_64 l.length (by omega)
  unfold sol_ref26_claim T_ref26_claim
  simp only [letR_eq]
  rw [rAppendUint64_eq (by omega) h1.1 h1.2]; simp only [bind_some']
  rw [rAppendUint64_eq (by simp [len_enc]; omega) h2.1 h2.2]; simp only [bind_some']
  rw [rAppendUint64_eq (by simp [len_enc]; omega) h3.1 h3.2]; simp only [bind_some']
  rw [rAppendUint256_eq (by simp [len_enc]; omega) hv]; simp only [bind_some']
  rw [w_u64 (by omega) (by omega), rAppendUint64_eq (by simp [len_enc]; omega) (by omega) (by omega)]; simp only [bind_some', Int.toNat_natCast]
  have hp : (b ++ enc x.toNat ++ enc y.toNat ++ enc z.toNat ++ enc v ++ enc l.length).length ≤ 2000 := by simp [len_enc]; omega
  have e : b ++ encClaim (x, (y, (z, (lim v, (l, ()))))) = (b ++ enc x.toNat ++ enc y.toNat ++ enc z.toNat ++ enc v ++ enc l.length) ++ l.flatten := by
    simp only [encClaim, val4_lim, List.append_assoc]
  rw [e]
  generalize (b ++ enc x.toNat ++ enc y.toNat ++ enc z.toNat ++ enc v ++ enc l.length) = p at hp ⊢
  refine bigLoop_rule (I := fun s => ∃ i : Nat, i ≤ l.length ∧ s = (p ++ (l.take i).flatten, ((x, (y, (z, (lim v, (l, ()))))), (((i : Nat) : Int), ()))))
    (m := fun s => (((l.length : Nat) : Int) - s.2.2.1).toNat) (g := fun _ => some ((p ++ l.flatten, ()), ((), ((), ())))) ?_ ⟨0, by omega, by simp⟩ (by rw [bigN_eq]; simp only; omega)
  rintro s again ⟨i, hi, rfl⟩ hag
  simp only at hag ⊢
  unfold T_ref26_claim_loop0
  simp only [letR_eq, brR_dec, brR_inR, append_def]
  by_cases h1 : ((i : Nat) : Int) < ((l.length : Nat) : Int)
  · have hil : i < l.length := by omega
    have h32 := hh.at32 hil
    have hf := flat_len (hh.take i)
    rw [List.length_take] at hf
    rw [if_pos h1, if_pos (by omega), Int.toNat_natCast, List.drop_zero, show List.take (32 - 0) (l.getD i (List.replicate 32 0)) = l.getD i (List.replicate 32 0) from List.take_of_length_le (by omega), brR_room8 (by rw [List.length_append, h32, hf]; omega), List.append_assoc, take_flat hil, w_i64 (by omega) (by omega)]
    exact hag _ ⟨i + 1, by omega, by rw [Int.natCast_add]; rfl⟩ (by simp only; omega)
  · rw [if_neg h1, show i = l.length by omega, List.take_length]

theorem txData_len {t : TxT} (h : TxW t) : encodeR t = if t.2.2.2.2.2.2.2.2.1.length ≤ 4096 then (encTx t, ((0 : Int), ())) else ([], ((6 : Int), ())) := rfl

theorem stepEncode_eq {s : StepT} (h : StepW s) (hp : s.2.2.2.2.2.2.2.1.2.2.2.2.1.length ≤ 1000000) : sol_step_Encode (s, ()) = some (encS s, ((), ())) := by
  obtain ⟨hk, ht, ha, hb, hc, hs, hy, hv, hd, hq⟩ := h
  rename_i k t a b c s y v d q
  simp only at hp
  unfold U64 at ha hb hs hd
  have := @bylen_64 a.toNat (by omega); have := @bylen_64 b.toNat (by omega); have := @bylen_64 s.toNat (by omega); have := @bylen_64 d.toNat (by omega); have := bylen_256 hc; have := bylen_256 hv
  unfold sol_step_Encode T_step_Encode encS badS
  simp only
  by_cases c0 : k < 1 ∨ 7 < k
  · rw [if_pos c0, if_neg (by omega)]
    simp only [brR_dec]
    by_cases c1 : k < 1
    · rw [if_pos c1]
    · rw [if_neg c1, if_pos (by omega)]
  rw [if_neg c0]
  rcases kind7 c0 with rfl | rfl | rfl | rfl | rfl | rfl | rfl
  · simp only [brR_dec, Int.reduceLT, Int.reduceGT, Int.reduceEq, if_false, if_true, false_and, true_and, brR_not]
    rw [txEncode_eq ht]
    simp only [bind_some', encodeR]
    by_cases c4 : t.2.2.2.2.2.2.2.2.1.length ≤ 4096
    · have hlt := len_encTx ht (by omega)
      have e4 : ¬ 4096 < t.2.2.2.2.2.2.2.2.1.length := by omega
      simp only [c4, e4, if_true, if_false]
      rw [show IntKind.wrap .u8 1 = 1 from rfl, appendBytes_eq (by simp) (by omega)]
      rfl
    · have e4 : 4096 < t.2.2.2.2.2.2.2.2.1.length := by omega
      simp only [c4, e4, if_true, if_false, Int.reduceEq]
  · simp only [brR_dec, Int.reduceLT, Int.reduceGT, Int.reduceEq, if_false, if_true, false_and, true_and]
    rw [show IntKind.wrap .u8 2 = 2 from rfl, appendUint64_eq (by simp) ha.1 ha.2]; simp only [bind_some']
    rw [appendUint64_eq (by simp [len_enc]; omega) hb.1 hb.2]; simp only [bind_some']
    rw [appendUint256_eq (by simp [len_enc]; omega) hc]
    simp only [bind_some', encB, encRep, val4_lim, List.append_assoc, List.cons_append, List.nil_append, Int.reduceEq, if_false, if_true]
  · simp only [brR_dec, Int.reduceLT, Int.reduceGT, Int.reduceEq, if_false, if_true, false_and, true_and]
    rw [show IntKind.wrap .u8 3 = 3 from rfl, appendUint64_eq (by simp) hs.1 hs.2]
    rfl
  · simp only [brR_dec, Int.reduceLT, Int.reduceGT, Int.reduceEq, if_false, if_true, false_and, true_and]
    by_cases cy : y < 0
    · rw [if_pos cy, if_pos cy, if_neg (by decide)]
    · rw [if_neg cy, if_neg cy]
      have := @bylen_64 y.toNat (by omega)
      simp only [if_true]
      rw [show IntKind.wrap .u8 4 = 4 from rfl, w_u64 (by omega) (by omega), appendUint64_eq (by simp) (by omega) (by omega)]; simp only [bind_some']
      rw [appendUint256_eq (by simp [len_enc]; omega) hv]
      simp only [bind_some', encB, val4_lim, List.append_assoc, List.cons_append, List.nil_append, Int.reduceEq, if_false, if_true]
  · simp only [brR_dec, Int.reduceLT, Int.reduceGT, Int.reduceEq, if_false, if_true, false_and, true_and]
    rw [show IntKind.wrap .u8 5 = 5 from rfl, appendUint64_eq (by simp) hd.1 hd.2]
    rfl
  · simp only [brR_dec, Int.reduceLT, Int.reduceGT, Int.reduceEq, if_false, if_true, false_and, true_and]
    rw [show IntKind.wrap .u8 6 = 6 from rfl, appendUint64_eq (by simp) hd.1 hd.2]; simp only [bind_some']
    rw [appendUint256_eq (by simp [len_enc]; omega) hv]
    simp only [bind_some', encB, val4_lim, List.append_assoc, List.cons_append, List.nil_append, Int.reduceEq, if_false, if_true]
  · simp only [brR_dec, Int.reduceLT, Int.reduceGT, Int.reduceEq, if_false, if_true, false_and, true_and]
    by_cases cl : 64 < q.2.2.2.2.1.length
    · rw [if_pos (by omega), if_pos cl, if_neg (by decide)]
    · rw [if_neg (by omega), if_neg cl]
      simp only [if_true]
      rw [show IntKind.wrap .u8 7 = 7 from rfl, appendClaim_eq hq hp (by simp)]
      rfl

theorem rEncodeS_eq {s : StepT} (h : StepW s) (hp : s.2.2.2.2.2.2.2.1.2.2.2.2.1.length ≤ 1000000) : sol_ref26_Encode (s, ()) = some (encS s, ((), ())) := by
  obtain ⟨hk, ht, ha, hb, hc, hs, hy, hv, hd, hq⟩ := h
  rename_i k t a b c s y v d q
  simp only at hp
  unfold U64 at ha hb hs hd
  have := @bylen_64 a.toNat (by omega); have := @bylen_64 b.toNat (by omega); have := @bylen_64 s.toNat (by omega); have := @bylen_64 d.toNat (by omega); have := bylen_256 hc; have := bylen_256 hv
  have hval : sol_ref26_ValidKind (k, ()) = some ((decide (¬ (k < 1 ∨ 7 < k)), ()), ((), ())) := by
    unfold sol_ref26_ValidKind T_ref26_ValidKind
    simp only [brR_dec]
    by_cases c1 : k ≥ 1
    · rw [if_pos c1]
      by_cases c2 : k ≤ 7
      · rw [decide_eq_true c2, decide_eq_true (by omega)]
      · rw [decide_eq_false c2, decide_eq_false (by omega)]
    · rw [if_neg c1, decide_eq_false (by omega)]
  unfold sol_ref26_Encode T_ref26_Encode encS badS
  simp only
  rw [hval]
  simp only [bind_some', brR_not]
  by_cases c0 : k < 1 ∨ 7 < k
  · rw [if_pos c0, decide_eq_false (by omega), brR_false, if_neg (by decide)]
  rw [if_neg c0, decide_eq_true (by omega), brR_true]
  rcases kind7 c0 with rfl | rfl | rfl | rfl | rfl | rfl | rfl
  · simp only [brR_dec, Int.reduceLT, Int.reduceGT, Int.reduceEq, if_false, if_true, false_and, true_and, brR_not]
    rw [rEncode_eq ht]
    simp only [bind_some', encodeR]
    by_cases c4 : t.2.2.2.2.2.2.2.2.1.length ≤ 4096
    · have hlt := len_encTx ht (by omega)
      have e4 : ¬ 4096 < t.2.2.2.2.2.2.2.2.1.length := by omega
      simp only [c4, e4, if_true, if_false]
      rw [show IntKind.wrap .u8 1 = 1 from rfl, rAppendBytes_eq (by simp) (by omega)]
      rfl
    · have e4 : 4096 < t.2.2.2.2.2.2.2.2.1.length := by omega
      simp only [c4, e4, if_true, if_false, Int.reduceEq]
  · simp only [brR_dec, Int.reduceLT, Int.reduceGT, Int.reduceEq, if_false, if_true, false_and, true_and]
    rw [show IntKind.wrap .u8 2 = 2 from rfl, rAppendUint64_eq (by simp) ha.1 ha.2]; simp only [bind_some']
    rw [rAppendUint64_eq (by simp [len_enc]; omega) hb.1 hb.2]; simp only [bind_some']
    rw [rAppendUint256_eq (by simp [len_enc]; omega) hc]
    simp only [bind_some', encB, encRep, val4_lim, List.append_assoc, List.cons_append, List.nil_append, Int.reduceEq, if_false, if_true]
  · simp only [brR_dec, Int.reduceLT, Int.reduceGT, Int.reduceEq, if_false, if_true, false_and, true_and]
    rw [show IntKind.wrap .u8 3 = 3 from rfl, rAppendUint64_eq (by simp) hs.1 hs.2]
    rfl
  · simp only [brR_dec, Int.reduceLT, Int.reduceGT, Int.reduceEq, if_false, if_true, false_and, true_and]
    by_cases cy : y < 0
    · rw [if_pos cy, if_pos cy, if_neg (by decide)]
    · rw [if_neg cy, if_neg cy]
      have := @bylen_64 y.toNat (by omega)
      simp only [if_true]
      rw [show IntKind.wrap .u8 4 = 4 from rfl, w_u64 (by omega) (by omega), rAppendUint64_eq (by simp) (by omega) (by omega)]; simp only [bind_some']
      rw [rAppendUint256_eq (by simp [len_enc]; omega) hv]
      simp only [bind_some', encB, val4_lim, List.append_assoc, List.cons_append, List.nil_append, Int.reduceEq, if_false, if_true]
  · simp only [brR_dec, Int.reduceLT, Int.reduceGT, Int.reduceEq, if_false, if_true, false_and, true_and]
    rw [show IntKind.wrap .u8 5 = 5 from rfl, rAppendUint64_eq (by simp) hd.1 hd.2]
    rfl
  · simp only [brR_dec, Int.reduceLT, Int.reduceGT, Int.reduceEq, if_false, if_true, false_and, true_and]
    rw [show IntKind.wrap .u8 6 = 6 from rfl, rAppendUint64_eq (by simp) hd.1 hd.2]; simp only [bind_some']
    rw [rAppendUint256_eq (by simp [len_enc]; omega) hv]
    simp only [bind_some', encB, val4_lim, List.append_assoc, List.cons_append, List.nil_append, Int.reduceEq, if_false, if_true]
  · simp only [brR_dec, Int.reduceLT, Int.reduceGT, Int.reduceEq, if_false, if_true, false_and, true_and]
    by_cases cl : 64 < q.2.2.2.2.1.length
    · rw [if_pos (by omega), if_pos cl, if_neg (by decide)]
    · rw [if_neg (by omega), if_neg cl]
      simp only [if_true]
      rw [show IntKind.wrap .u8 7 = 7 from rfl, rclaim_eq hq hp (by simp)]
      rfl

/-! ### Equality -/

open Classical in
noncomputable def eqSt (s t : StepT) : Bool := decide (s = t)
theorem eqSt_iff {s t : StepT} : eqSt s t = true ↔ s = t := by unfold eqSt; simp

theorem rEqualS_eq (s t : StepT) (hs : s.2.2.2.2.2.2.2.1.2.2.2.2.1.length ≤ 1000000000) : sol_ref26_Equal (s, (t, ())) = some ((eqSt s t, ()), ((), ((), ()))) := by
  obtain ⟨k, tx, r, a, b, v, d, ⟨c1, c2, c3, c4, l, _⟩, _⟩ := s
  obtain ⟨k', tx', r', a', b', v', d', ⟨c1', c2', c3', c4', l', _⟩, _⟩ := t
  simp only at hs
  have fin : ∀ (p : Prop), ¬ p → ((k, (tx, (r, (a, (b, (v, (d, ((c1, (c2, (c3, (c4, (l, ()))))), ())))))))) = (k', (tx', (r', (a', (b', (v', (d', ((c1', (c2', (c3', (c4', (l', ()))))), ())))))))) → p) →
      (some ((false, ()), ((), ((), ()))) : Option ((Bool × Unit) × (Unit × (Unit × Unit)))) = some ((eqSt (k, (tx, (r, (a, (b, (v, (d, ((c1, (c2, (c3, (c4, (l, ()))))), ())))))))) (k', (tx', (r', (a', (b', (v', (d', ((c1', (c2', (c3', (c4', (l', ()))))), ())))))))), ()), ((), ((), ()))) := fun p hp h => by
    have : eqSt (k, (tx, (r, (a, (b, (v, (d, ((c1, (c2, (c3, (c4, (l, ()))))), ())))))))) (k', (tx', (r', (a', (b', (v', (d', ((c1', (c2', (c3', (c4', (l', ()))))), ())))))))) = false := by
      rw [Bool.eq_false_iff]; intro he; exact hp (h (eqSt_iff.1 he))
    rw [this]
  unfold sol_ref26_Equal T_ref26_Equal
  simp only
  rw [rEqual_eq]
  simp only [bind_some', brR_dec, brR_not, brR_eqD]
  by_cases h1 : k = k'
  case neg => rw [if_neg h1]; exact fin _ h1 fun e => by cases e; rfl
  rw [if_pos h1]
  by_cases h2 : tx = tx'
  case neg => rw [eqTx_ne h2, brR_false]; exact fin _ h2 fun e => by cases e; rfl
  subst h2
  rw [eqTx_self, brR_true]
  by_cases h3 : r = r'
  case neg => rw [if_neg h3]; exact fin _ h3 fun e => by cases e; rfl
  rw [if_pos h3]
  by_cases h4 : a = a'
  case neg => rw [if_neg h4]; exact fin _ h4 fun e => by cases e; rfl
  rw [if_pos h4]
  by_cases h5 : b = b'
  case neg => rw [if_neg h5]; exact fin _ h5 fun e => by cases e; rfl
  rw [if_pos h5]
  by_cases h6 : v = v'
  case neg => rw [if_neg h6]; exact fin _ h6 fun e => by cases e; rfl
  rw [if_pos h6]
  by_cases h7 : d = d'
  case neg => rw [if_neg h7]; exact fin _ h7 fun e => by cases e; rfl
  rw [if_pos h7]
  by_cases h8 : c1 = c1'
  case neg => rw [if_neg h8]; exact fin _ h8 fun e => by cases e; rfl
  rw [if_pos h8]
  by_cases h9 : c2 = c2'
  case neg => rw [if_neg h9]; exact fin _ h9 fun e => by cases e; rfl
  rw [if_pos h9]
  by_cases h10 : c3 = c3'
  case neg => rw [if_neg h10]; exact fin _ h10 fun e => by cases e; rfl
  rw [if_pos h10]
  by_cases h11 : c4 = c4'
  case neg => rw [if_neg h11]; exact fin _ h11 fun e => by cases e; rfl
  rw [if_pos h11]
  subst h1 h3 h4 h5 h6 h7 h8 h9 h10 h11
  by_cases h12 : ((l.length : Nat) : Int) = ((l'.length : Nat) : Int)
  case neg => rw [if_neg h12]; exact fin _ h12 fun e => by cases e; rfl
  rw [if_pos h12]
  have hll : l.length = l'.length := by omega
  clear fin
  by_cases hl : l = l'
  · subst hl
    rw [eqSt_iff.2 rfl]
    refine bigLoop_rule (I := fun x => ∃ i : Nat, i ≤ l.length ∧ x = ((k, (tx, (r, (a, (b, (v, (d, ((c1, (c2, (c3, (c4, (l, ()))))), ())))))))), ((k, (tx, (r, (a, (b, (v, (d, ((c1, (c2, (c3, (c4, (l, ()))))), ())))))))), (((i : Nat) : Int), ()))))
      (m := fun x => (((l.length : Nat) : Int) - x.2.2.1).toNat) (g := fun _ => some ((true, ()), ((), ((), ())))) ?_ ⟨0, by omega, rfl⟩ (by simp only [bigN_eq]; omega)
    rintro x again ⟨i, hi, rfl⟩ hag
    simp only at hag ⊢
    simp only [T_ref26_Equal_loop0, brR_dec, brR_inR, brR_not, Int.toNat_natCast]
    by_cases h1 : ((i : Nat) : Int) < ((l.length : Nat) : Int)
    · rw [if_pos h1, if_pos (by omega), if_pos (by omega), show ∀ (t : Ty) (z : t.den), eqD t z z = true from fun t z => eqD_iff.2 rfl, brR_true, w_i64 (by omega) (by omega)]
      exact hag _ ⟨i + 1, by omega, by rw [Int.natCast_add]; rfl⟩ (by simp only; omega)
    · rw [if_neg h1]
  · have hf : eqSt (k, (tx, (r, (a, (b, (v, (d, ((c1, (c2, (c3, (c4, (l, ()))))), ())))))))) (k, (tx, (r, (a, (b, (v, (d, ((c1, (c2, (c3, (c4, (l', ()))))), ())))))))) = false := by
      rw [Bool.eq_false_iff]; intro he; exact hl (by cases eqSt_iff.1 he; rfl)
    rw [hf]
    obtain ⟨j, hj, hne⟩ : ∃ j, j < l.length ∧ l.getD j (List.replicate 32 0) ≠ l'.getD j (List.replicate 32 0) :=
      Classical.byContradiction fun hn => hl (ext_getD (d := List.replicate 32 0) hll fun j hj => Classical.byContradiction fun h => hn ⟨j, hj, h⟩)
    refine bigLoop_rule (I := fun x => ∃ i : Nat, i ≤ j ∧ x = ((k, (tx, (r, (a, (b, (v, (d, ((c1, (c2, (c3, (c4, (l, ()))))), ())))))))), ((k, (tx, (r, (a, (b, (v, (d, ((c1, (c2, (c3, (c4, (l', ()))))), ())))))))), (((i : Nat) : Int), ()))))
      (m := fun x => (((l.length : Nat) : Int) - x.2.2.1).toNat) (g := fun _ => some ((false, ()), ((), ((), ())))) ?_ ⟨0, by omega, rfl⟩ (by simp only [bigN_eq]; omega)
    rintro x again ⟨i, hi, rfl⟩ hag
    simp only at hag ⊢
    simp only [T_ref26_Equal_loop0, brR_dec, brR_inR, brR_not, Int.toNat_natCast]
    rw [if_pos (by omega), if_pos (by omega), if_pos (by omega)]
    rw [show (Go.Pon.Ty.zero (Go.Pon.Ty.arr 32 (Go.Pon.Ty.int Go.IntKind.u8)) : List Int) = List.replicate 32 0 from rfl]
    cases he : eqD (Go.Pon.Ty.arr 32 (Go.Pon.Ty.int Go.IntKind.u8)) (l.getD i (List.replicate 32 0)) (l'.getD i (List.replicate 32 0)) with
    | false => rw [brR_false]
    | true =>
      rw [brR_true, w_i64 (by omega) (by omega)]
      have hij : i ≠ j := fun e => hne (by rw [← e]; exact eqD_iff.1 he)
      exact hag _ ⟨i + 1, by omega, by rw [Int.natCast_add]; rfl⟩ (by simp only; omega)

end Go.Pon
/-
  Steps: what their decoding is.
-/
set_option autoImplicit false
set_option linter.unusedVariables false
set_option linter.unusedSimpArgs false
namespace Go.Pon
open Go

/-! ### Readers, byte by byte -/

def byteV (s : RdT) : Int := if s.2.2.1 = true then 0 else if s.2.1 ≥ ((s.1.length : Nat) : Int) then 0 else s.1.getD s.2.1.toNat 0
def byteS (s : RdT) : RdT := if s.2.2.1 = true then (s.1, (s.2.1, (true, ()))) else if s.2.1 ≥ ((s.1.length : Nat) : Int) then (s.1, (s.2.1, (true, ()))) else (s.1, (s.2.1 + 1, (false, ())))

def RdOK (s : RdT) : Prop := s.1.length ≤ 1000000000 ∧ 0 ≤ s.2.1 ∧ s.2.1 ≤ 2000000000

theorem rdOK_byte {s : RdT} (h : RdOK s) : RdOK (byteS s) := by
  unfold RdOK at h ⊢
  unfold byteS
  by_cases h1 : s.2.2.1 = true
  · rw [if_pos h1]; exact h
  · rw [if_neg h1]
    by_cases h2 : s.2.1 ≥ ((s.1.length : Nat) : Int)
    · rw [if_pos h2]; exact h
    · rw [if_neg h2]; simp only; omega

theorem wByte_eq {s : RdT} (h : RdOK s) : sol_wirereader_Reader_Byte (s, ()) = some ((byteV s, ()), (byteS s, ())) := by
  obtain ⟨b, i, f, _⟩ := s
  obtain ⟨h1, h2, h3⟩ := h
  simp only at h1 h2 h3
  unfold sol_wirereader_Reader_Byte T_wirereader_Reader_Byte byteV byteS
  simp only [letR_eq, brR_dec, brR_inR]
  cases f with
  | true => simp only [brR_true, if_true]
  | false =>
    simp only [brR_false, Bool.false_eq_true, if_false]
    by_cases hc : i ≥ ((b.length : Nat) : Int)
    · rw [if_pos hc, if_pos hc, if_pos hc]
    · rw [if_neg hc, if_neg hc, if_neg hc, show IntKind.wrap .i64 (i + 1) = i + 1 from w_i64 (by omega) (by omega), Int.add_sub_cancel, show IntKind.wrap .i64 i = i from w_i64 (by omega) (by omega), if_pos (by omega)]

theorem rByte_eq {s : RdT} (h : RdOK s) : sol_ref22_Reader_Byte (s, ()) = some ((byteV s, ()), (byteS s, ())) := wByte_eq h

/-- So many bytes. -/
def byN : Nat → RdT → RdT × List Int
  | 0, s => (s, [])
  | n + 1, s => (byteS (byN n s).1, (byN n s).2 ++ [byteV (byN n s).1])

theorem byN_ok {s : RdT} (h : RdOK s) : ∀ n, RdOK (byN n s).1 ∧ (byN n s).2.length = n
  | 0 => ⟨h, rfl⟩
  | n + 1 => ⟨rdOK_byte (byN_ok h n).1, by simp [byN, (byN_ok h n).2]⟩

theorem hash_set {a : List Int} {i : Nat} {v : Int} (ha : a.length = i) (hi : i < 32) : List.set (a ++ List.replicate (32 - i) 0) i v = (a ++ [v]) ++ List.replicate (32 - (i + 1)) 0 := by
  rw [List.set_append, if_neg (by omega), ha, Nat.sub_self, show 32 - i = (32 - (i + 1)) + 1 by omega, List.replicate_succ, List.set_cons_zero]
  simp

theorem wHash_eq {s : RdT} (h : RdOK s) : sol_wirereader_Reader_Hash (s, ()) = some (((byN 32 s).2, ()), ((byN 32 s).1, ())) := by
  unfold sol_wirereader_Reader_Hash T_wirereader_Reader_Hash
  refine bigLoop_rule (I := fun x => ∃ i : Nat, i ≤ 32 ∧ x = ((byN i s).1, (List.replicate 32 0, ((byN i s).2 ++ List.replicate (32 - i) 0, (((i : Nat) : Int), ())))))
    (m := fun x => ((32 : Int) - x.2.2.2.1).toNat) (g := fun _ => some (((byN 32 s).2, ()), ((byN 32 s).1, ()))) ?_ ⟨0, by omega, rfl⟩ (by rw [bigN_eq]; simp only; omega)
  rintro x again ⟨i, hi, rfl⟩ hag
  simp only at hag ⊢
  unfold T_wirereader_Reader_Hash_loop0
  simp only [brR_dec, brR_inR]
  by_cases h1 : ((i : Nat) : Int) < 32
  · rw [if_pos h1, show ∀ s : RdT, ((s.1, (s.2.1, (s.2.2.1, s.2.2.2))) : RdT) = s from fun _ => rfl, wByte_eq (byN_ok h i).1]
    simp only [bind_some']
    rw [if_pos (by omega), Int.toNat_natCast, hash_set (byN_ok h i).2 (by omega), w_i64 (by omega) (by omega)]
    exact hag ((byN (i + 1) s).1, (List.replicate 32 0, ((byN (i + 1) s).2 ++ List.replicate (32 - (i + 1)) 0, (((i : Nat) : Int) + 1, ())))) ⟨i + 1, by omega, by rw [Int.natCast_add]; rfl⟩ (by simp only; omega)
  · rw [if_neg h1, show i = 32 by omega, Nat.sub_self]
    simp

/-- So many hashes. -/
def hsN : Nat → RdT → RdT × List (List Int)
  | 0, s => (s, [])
  | n + 1, s => ((byN 32 (hsN n s).1).1, (hsN n s).2 ++ [(byN 32 (hsN n s).1).2])

theorem hsN_ok {s : RdT} (h : RdOK s) : ∀ n, RdOK (hsN n s).1 ∧ (hsN n s).2.length = n
  | 0 => ⟨h, rfl⟩
  | n + 1 => ⟨(byN_ok (hsN_ok h n).1 32).1, by simp [hsN, (hsN_ok h n).2]⟩

theorem readProof_loop {s : RdT} (h : RdOK s) {n : Int} (hn : n ≤ 64) :
    bigLoop _ _ (fun again x => T_step_readProof_loop0 sol_wirereader_Reader_Hash again x.1 x.2.1 x.2.2.1 x.2.2.2.1) (s, (([] : List (List Int)), (n, ((0 : Int), ())))) =
      some (((hsN n.toNat s).2, (true, ())), ((hsN n.toNat s).1, ())) := by
  refine bigLoop_rule (I := fun x => ∃ i : Nat, i ≤ n.toNat ∧ x = ((hsN i s).1, ((hsN i s).2, (n, (((i : Nat) : Int), ())))))
    (m := fun x => (n - x.2.2.2.1).toNat) (g := fun _ => some (((hsN n.toNat s).2, (true, ())), ((hsN n.toNat s).1, ()))) ?_ ⟨0, by omega, rfl⟩ (by rw [bigN_eq]; simp only; omega)
  rintro x again ⟨i, hi, rfl⟩ hag
  simp only at hag ⊢
  unfold T_step_readProof_loop0
  simp only [brR_dec, append_def]
  by_cases h1 : ((i : Nat) : Int) < n
  · rw [if_pos h1, show ∀ s : RdT, ((s.1, (s.2.1, (s.2.2.1, s.2.2.2))) : RdT) = s from fun _ => rfl, wHash_eq (hsN_ok h i).1]
    simp only [bind_some']
    rw [brR_roomH (by rw [(hsN_ok h i).2]; omega), w_u64 (by omega) (by omega)]
    exact hag ((hsN (i + 1) s).1, ((hsN (i + 1) s).2, (n, (((i : Nat) : Int) + 1, ())))) ⟨i + 1, by omega, by rw [Int.natCast_add]; rfl⟩ (by simp only; omega)
  · rw [if_neg h1, show i = n.toNat by omega]

theorem wProof_eq {s s' : RdT} {v : Int} (hu : sol_wirereader_Reader_Uint64 (s, ()) = some ((v, ()), (s', ()))) (h : RdOK s') :
    sol_step_readProof (s, ()) = if v > 64 then some (([], (false, ())), (s', ())) else some (((hsN v.toNat s').2, (true, ())), ((hsN v.toNat s').1, ())) := by
  unfold sol_step_readProof T_step_readProof
  rw [show ∀ s : RdT, ((s.1, (s.2.1, (s.2.2.1, s.2.2.2))) : RdT) = s from fun _ => rfl, hu]
  simp only [bind_some', brR_dec]
  by_cases hv : v > 64
  · rw [if_pos hv, if_pos hv]
  · rw [if_neg hv, if_neg hv]
    exact readProof_loop h (by omega)

/-- The reference's claim. -/
theorem rProof_loop {s : RdT} (h : RdOK s) {n : Int} (hn0 : 0 ≤ n) (hn : n ≤ 64) (z : ClaimT) (a b c : Int) (v : List Int) :
    bigLoop _ _ (fun again x => T_ref26_readClaim_loop0 bigLoop sol_ref22_Reader_Byte again x.1 x.2.1 x.2.2.1 x.2.2.2.1 x.2.2.2.2.1) (s, (z, ((a, (b, (c, (v, (([] : List (List Int)), ()))))), (n, ((0 : Int), ()))))) =
      some (((a, (b, (c, (v, ((hsN n.toNat s).2, ()))))), ()), ((hsN n.toNat s).1, ())) := by
  refine bigLoop_rule (I := fun x => ∃ i : Nat, i ≤ n.toNat ∧ x = ((hsN i s).1, (z, ((a, (b, (c, (v, ((hsN i s).2, ()))))), (n, (((i : Nat) : Int), ()))))))
    (m := fun x => (n - x.2.2.2.2.1).toNat) (g := fun _ => some (((a, (b, (c, (v, ((hsN n.toNat s).2, ()))))), ()), ((hsN n.toNat s).1, ()))) ?_ ⟨0, by omega, rfl⟩ (by rw [bigN_eq]; simp only; omega)
  rintro x again ⟨i, hi, rfl⟩ hag
  simp only at hag ⊢
  unfold T_ref26_readClaim_loop0
  simp only [brR_dec]
  rw [w_i64 (by omega) (by omega)]
  by_cases h1 : ((i : Nat) : Int) < n
  · rw [if_pos h1]
    have hs := hsN_ok h i
    have hnext := hag ((hsN (i + 1) s).1, (z, ((a, (b, (c, (v, ((hsN (i + 1) s).2, ()))))), (n, (((i : Nat) : Int) + 1, ()))))) ⟨i + 1, by omega, by rw [Int.natCast_add]; rfl⟩ (by simp only; omega)
    clear hag
    simp only [hsN] at hnext
    generalize hsN i s = p at hs hnext ⊢
    obtain ⟨s2, l⟩ := p
    simp only at hs hnext ⊢
    refine bigLoop_rule (I := fun x => ∃ k : Nat, k ≤ 32 ∧ x = ((byN k s2).1, (z, ((a, (b, (c, (v, (l, ()))))), (n, (((i : Nat) : Int), ((byN k s2).2 ++ List.replicate (32 - k) 0, (((k : Nat) : Int), ()))))))))
      (m := fun x => ((32 : Int) - x.2.2.2.2.2.2.1).toNat) (g := fun _ => some (((a, (b, (c, (v, ((hsN n.toNat s).2, ()))))), ()), ((hsN n.toNat s).1, ()))) ?_ ⟨0, by omega, rfl⟩ (by rw [bigN_eq]; simp only; omega)
    rintro x again2 ⟨k, hk, rfl⟩ hag
    simp only at hag ⊢
    unfold T_ref26_readClaim_loop1
    simp only [brR_dec, brR_inR, append_def]
    by_cases h2 : ((k : Nat) : Int) < 32
    · rw [if_pos h2, show ∀ s : RdT, ((s.1, (s.2.1, (s.2.2.1, s.2.2.2))) : RdT) = s from fun _ => rfl, rByte_eq (byN_ok hs.1 k).1]
      simp only [bind_some']
      rw [if_pos (by omega), Int.toNat_natCast, hash_set (byN_ok hs.1 k).2 (by omega), w_i64 (by omega) (by omega)]
      exact hag ((byN (k + 1) s2).1, (z, ((a, (b, (c, (v, (l, ()))))), (n, (((i : Nat) : Int), ((byN (k + 1) s2).2 ++ List.replicate (32 - (k + 1)) 0, (((k : Nat) : Int) + 1, ()))))))) ⟨k + 1, by omega, by rw [Int.natCast_add]; rfl⟩ (by simp only; omega)
    · rw [if_neg h2, show k = 32 by omega, Nat.sub_self, List.replicate_zero, List.append_nil, brR_roomH (by rw [hs.2]; omega), w_i64 (by omega) (by omega)]
      exact hnext
  · rw [if_neg h1, show i = n.toNat by omega]

/-! ### What is read -/

theorem byN_bad (b : List Int) (a : Int) : ∀ n, (byN n (b, (a, (true, ())))).1 = (b, (a, (true, ())))
  | 0 => rfl
  | n + 1 => by rw [byN, byN_bad b a n]; rfl

theorem hsN_bad (b : List Int) (a : Int) : ∀ n, (hsN n (b, (a, (true, ())))).1 = (b, (a, (true, ())))
  | 0 => rfl
  | n + 1 => by rw [hsN, hsN_bad b a n]; exact byN_bad b a 32

theorem byN_at (b : List Int) {i : Nat} (hi : i ≤ b.length) : ∀ n, (i + n ≤ b.length → byN n (b, ((i : Int), (false, ()))) = ((b, (((i + n : Nat) : Int), (false, ()))), (b.drop i).take n)) ∧
    (b.length < i + n → (byN n (b, ((i : Int), (false, ())))).1 = (b, (((b.length : Nat) : Int), (true, ()))))
  | 0 => ⟨fun _ => by simp [byN], fun h => by omega⟩
  | n + 1 => by
    obtain ⟨h1, h2⟩ := byN_at b hi n
    refine ⟨fun h => ?_, fun h => ?_⟩
    · rw [byN, h1 (by omega)]
      simp only [byteS, byteV, Bool.false_eq_true, if_false, Int.toNat_natCast]
      rw [if_neg (by omega), if_neg (by omega), List.take_add_one, List.getElem?_drop, List.getElem?_eq_getElem (by omega), List.getD_eq_getElem?_getD, List.getElem?_eq_getElem (by omega)]
      rfl
    · rw [byN]
      by_cases hc : i + n ≤ b.length
      · rw [h1 hc]
        simp only [byteS, Bool.false_eq_true, if_false]
        rw [if_pos (by omega), show i + n = b.length by omega]
      · rw [h2 (by omega)]
        rfl

/-- So many hashes at an offset. -/
def chunks (b : List Int) (i n : Nat) : List (List Int) := (List.range n).map fun k => (b.drop (i + 32 * k)).take 32

theorem hsN_at (b : List Int) {i : Nat} (hi : i ≤ b.length) : ∀ n, (i + 32 * n ≤ b.length → hsN n (b, ((i : Int), (false, ()))) = ((b, (((i + 32 * n : Nat) : Int), (false, ()))), chunks b i n)) ∧
    (b.length < i + 32 * n → (hsN n (b, ((i : Int), (false, ())))).1 = (b, (((b.length : Nat) : Int), (true, ()))))
  | 0 => ⟨fun _ => by simp [hsN, chunks], fun h => by omega⟩
  | n + 1 => by
    obtain ⟨h1, h2⟩ := hsN_at b hi n
    refine ⟨fun h => ?_, fun h => ?_⟩
    · rw [hsN, h1 (by omega)]
      simp only
      rw [(byN_at b (i := i + 32 * n) (by omega) 32).1 (by omega)]
      simp only [chunks, List.range_succ, List.map_append, List.map_cons, List.map_nil]
      rw [show i + 32 * n + 32 = i + 32 * (n + 1) by omega]
    · rw [hsN]
      by_cases hc : i + 32 * n ≤ b.length
      · rw [h1 hc]
        have e := (byN_at b (i := i + 32 * n) (by omega) 32).2 (by omega)
        simp only at e ⊢
        rw [e]
      · have e := byN_bad b ((b.length : Nat) : Int) 32
        rw [h2 (by omega), e]

theorem len_chunks (b : List Int) (i n : Nat) : (chunks b i n).length = n := by simp [chunks]

theorem chunks_flat (b : List Int) (i : Nat) : ∀ n, i + 32 * n ≤ b.length → (chunks b i n).flatten = (b.drop i).take (32 * n)
  | 0, _ => by simp [chunks]
  | n + 1, h => by
    have e : chunks b i (n + 1) = chunks b i n ++ [(b.drop (i + 32 * n)).take 32] := by simp [chunks, List.range_succ]
    rw [e, List.flatten_append, chunks_flat b i n (by omega), show 32 * (n + 1) = 32 * n + 32 by omega, List.take_add, List.drop_drop]
    simp

theorem chunks_ok {b : List Int} (hb : Bytes b) {i n : Nat} (h : i + 32 * n ≤ b.length) : AllH (chunks b i n) := fun x hx => by
  obtain ⟨k, hk, rfl⟩ := List.mem_map.1 hx
  have := List.mem_range.1 hk
  exact ⟨by rw [List.length_take, List.length_drop]; omega, (hb.drop _).take _⟩

/-- The hashes of a list, put together, are its chunks. -/
theorem chunks_of {l : List (List Int)} (hl : AllH l) (p z : List Int) : chunks (p ++ (l.flatten ++ z)) p.length l.length = l := by
  refine ext_getD (d := []) (len_chunks _ _ _) fun k hk => ?_
  rw [len_chunks] at hk
  have e : (chunks (p ++ (l.flatten ++ z)) p.length l.length).getD k [] = ((p ++ (l.flatten ++ z)).drop (p.length + 32 * k)).take 32 := by
    simp [chunks, List.getD_eq_getElem?_getD, hk]
  rw [e, ← List.drop_drop, List.drop_left]
  have e2 : l.flatten = (l.take k).flatten ++ (l.getD k [] ++ (l.drop (k + 1)).flatten) := by
    conv => lhs; rw [← List.take_append_drop k l, List.flatten_append]
    rw [List.drop_eq_getElem_cons hk, List.flatten_cons, List.getD_eq_getElem?_getD, List.getElem?_eq_getElem hk]
    rfl
  have hlk := flat_len (hl.take k)
  rw [List.length_take, Nat.min_eq_left (by omega)] at hlk
  have h32 : (l.getD k []).length = 32 := (hl _ (getD_mem hk)).1
  rw [e2, List.append_assoc, List.append_assoc, List.drop_append, List.drop_of_length_le (by omega), hlk, Nat.sub_self, List.drop_zero, List.nil_append, List.take_append_of_le_length (by omega), List.take_of_length_le (by omega)]

/-! ### Numbers and bytes read, or nothing -/

section
variable {b : List Int} (hb : Bytes b) (hl : b.length ≤ 1000000000)
include hb hl

omit hb in
theorem rs_ok {st : Option Nat} {s : RdT} (h : RS b st s) : RdOK s := by
  cases st with
  | none => obtain ⟨a, rfl, a0, a1⟩ := h; exact ⟨hl, a0, a1⟩
  | some i => obtain ⟨rfl, hi⟩ := h; exact ⟨hl, by simp only; omega, by simp only; omega⟩

theorem wU64_or {st : Option Nat} {s : RdT} (h : RS b st s) : (∃ i x j s', st = some i ∧ rdU b i 8 = some (x, j) ∧ sol_wirereader_Reader_Uint64 (s, ()) = some (((x : Int), ()), (s', ())) ∧ RS b (some j) s') ∨
    (stU b 8 st = none ∧ ∃ s', sol_wirereader_Reader_Uint64 (s, ()) = some (((0 : Int), ()), (s', ())) ∧ RS b none s') := by
  cases hst : stU b 8 st with
  | some j =>
    obtain ⟨i, x, rfl, hr⟩ := st_some hst
    obtain ⟨v, s', e1, e2, e3⟩ := wU64_step hb hl h
    rw [e3 i x j rfl hr] at e1
    rw [hst] at e2
    exact .inl ⟨i, x, j, s', rfl, hr, e1, e2⟩
  | none =>
    refine .inr ⟨rfl, ?_⟩
    unfold sol_wirereader_Reader_Uint64 T_wirereader_Reader_Uint64 sol_wirereader_Reader_advance T_wirereader_Reader_advance
    cases st with
    | none =>
      obtain ⟨a, rfl, a0, a1⟩ := h
      simp only
      rw [readUint64_eq hb hl (by omega) (by omega)]
      exact ⟨_, rfl, ⟨a, rfl, a0, a1⟩⟩
    | some i =>
      obtain ⟨rfl, hi⟩ := h
      simp only
      rw [readUint64_eq hb hl (by omega) (by omega)]
      unfold readR
      rw [if_neg (by omega), Int.toNat_natCast]
      have hr : rdU b i 8 = none := by
        cases hr : rdU b i 8 with
        | none => rfl
        | some p => rw [stU, Option.bind_some, hr] at hst; cases hst
      rw [hr]
      exact ⟨(b, ((i : Int), (true, ()))), rfl, ⟨_, rfl, by omega, by omega⟩⟩

theorem rU64_or {st : Option Nat} {s : RdT} (h : RS b st s) : (∃ i x j s', st = some i ∧ rdU b i 8 = some (x, j) ∧ sol_ref22_Reader_Uint64 (s, ()) = some (((x : Int), ()), (s', ())) ∧ RS b (some j) s') ∨
    (stU b 8 st = none ∧ ∃ s', sol_ref22_Reader_Uint64 (s, ()) = some (((0 : Int), ()), (s', ())) ∧ RS b none s') := by
  cases hst : stU b 8 st with
  | some j =>
    obtain ⟨i, x, rfl, hr⟩ := st_some hst
    obtain ⟨v, s', e1, e2, e3⟩ := rU64_step hb hl h
    rw [e3 i x j rfl hr] at e1
    rw [hst] at e2
    exact .inl ⟨i, x, j, s', rfl, hr, e1, e2⟩
  | none =>
    refine .inr ⟨rfl, ?_⟩
    unfold sol_ref22_Reader_Uint64 T_ref22_Reader_Uint64
    cases st with
    | none =>
      obtain ⟨a, rfl, a0, a1⟩ := h
      exact ⟨_, rfl, ⟨a, rfl, a0, a1⟩⟩
    | some i =>
      obtain ⟨rfl, hi⟩ := h
      simp only [brR_false]
      rw [rReadUint64_eq hb hl (by omega) (by omega)]
      unfold readR
      rw [if_neg (by omega), Int.toNat_natCast]
      have hr : rdU b i 8 = none := by
        cases hr : rdU b i 8 with
        | none => rfl
        | some p => rw [stU, Option.bind_some, hr] at hst; cases hst
      rw [hr]
      exact ⟨(b, ((0 : Int), (true, ()))), rfl, ⟨_, rfl, by omega, by omega⟩⟩

theorem wBytes_or {st : Option Nat} {s : RdT} (h : RS b st s) : (∃ i x j s', st = some i ∧ rdB b i = some (x, j) ∧ sol_wirereader_Reader_Bytes (s, ()) = some ((x, ()), (s', ())) ∧ RS b (some j) s') ∨
    (stB b st = none ∧ ∃ s', sol_wirereader_Reader_Bytes (s, ()) = some (([], ()), (s', ())) ∧ RS b none s') := by
  cases hst : stB b st with
  | some j =>
    obtain ⟨i, x, rfl, hr⟩ := stB_some hst
    obtain ⟨v, s', e1, e2, e3⟩ := wBytes_step hb hl h
    rw [e3 i x j rfl hr] at e1
    rw [hst] at e2
    exact .inl ⟨i, x, j, s', rfl, hr, e1, e2⟩
  | none =>
    refine .inr ⟨rfl, ?_⟩
    unfold sol_wirereader_Reader_Bytes T_wirereader_Reader_Bytes sol_wirereader_Reader_advance T_wirereader_Reader_advance
    cases st with
    | none =>
      obtain ⟨a, rfl, a0, a1⟩ := h
      simp only
      rw [readBytes_eq hb hl (by omega) (by omega)]
      exact ⟨_, rfl, ⟨a, rfl, a0, a1⟩⟩
    | some i =>
      obtain ⟨rfl, hi⟩ := h
      simp only
      rw [readBytes_eq hb hl (by omega) (by omega), readB_at hi]
      have hr : rdB b i = none := by
        cases hr : rdB b i with
        | none => rfl
        | some p => rw [stB, Option.bind_some, hr] at hst; cases hst
      rw [hr]
      exact ⟨(b, ((i : Int), (true, ()))), rfl, ⟨_, rfl, by omega, by omega⟩⟩

theorem rBytes_or {st : Option Nat} {s : RdT} (h : RS b st s) : (∃ i x j s', st = some i ∧ rdB b i = some (x, j) ∧ sol_ref22_Reader_Bytes (s, ()) = some ((x, ()), (s', ())) ∧ RS b (some j) s') ∨
    (stB b st = none ∧ ∃ s', sol_ref22_Reader_Bytes (s, ()) = some (([], ()), (s', ())) ∧ RS b none s') := by
  cases hst : stB b st with
  | some j =>
    obtain ⟨i, x, rfl, hr⟩ := stB_some hst
    obtain ⟨v, s', e1, e2, e3⟩ := rBytes_step hb hl h
    rw [e3 i x j rfl hr] at e1
    rw [hst] at e2
    exact .inl ⟨i, x, j, s', rfl, hr, e1, e2⟩
  | none =>
    refine .inr ⟨rfl, ?_⟩
    unfold sol_ref22_Reader_Bytes T_ref22_Reader_Bytes
    cases st with
    | none =>
      obtain ⟨a, rfl, a0, a1⟩ := h
      exact ⟨_, rfl, ⟨a, rfl, a0, a1⟩⟩
    | some i =>
      obtain ⟨rfl, hi⟩ := h
      simp only [brR_false]
      rw [rReadBytes_eq hb hl (by omega) (by omega), readB_at hi]
      have hr : rdB b i = none := by
        cases hr : rdB b i with
        | none => rfl
        | some p => rw [stB, Option.bind_some, hr] at hst; cases hst
      rw [hr]
      exact ⟨(b, ((0 : Int), (true, ()))), rfl, ⟨_, rfl, by omega, by omega⟩⟩

/-- The numbers that 256 bits hold. -/
theorem wU256_or {st : Option Nat} {s : RdT} (h : RS b st s) : (∃ i x j s', st = some i ∧ rdU b i 32 = some (x, j) ∧ sol_wirereader_Reader_Uint256 (s, ()) = some ((lim x, ()), (s', ())) ∧ RS b (some j) s') ∨
    (stU b 32 st = none ∧ ∃ v s', sol_wirereader_Reader_Uint256 (s, ()) = some ((v, ()), (s', ())) ∧ RS b none s') := by
  obtain ⟨v, s', e1, e2, e3⟩ := wU256_step hb hl h
  cases hst : stU b 32 st with
  | some j =>
    obtain ⟨i, x, rfl, hr⟩ := st_some hst
    rw [e3 i x j rfl hr] at e1
    rw [hst] at e2
    exact .inl ⟨i, x, j, s', rfl, hr, e1, e2⟩
  | none =>
    rw [hst] at e2
    exact .inr ⟨rfl, v, s', e1, e2⟩

theorem rU256_or {st : Option Nat} {s : RdT} (h : RS b st s) : (∃ i x j s', st = some i ∧ rdU b i 32 = some (x, j) ∧ sol_ref22_Reader_Uint256 (s, ()) = some ((lim x, ()), (s', ())) ∧ RS b (some j) s') ∨
    (stU b 32 st = none ∧ ∃ v s', sol_ref22_Reader_Uint256 (s, ()) = some ((v, ()), (s', ())) ∧ RS b none s') := by
  obtain ⟨v, s', e1, e2, e3⟩ := rU256_step hb hl h
  cases hst : stU b 32 st with
  | some j =>
    obtain ⟨i, x, rfl, hr⟩ := st_some hst
    rw [e3 i x j rfl hr] at e1
    rw [hst] at e2
    exact .inl ⟨i, x, j, s', rfl, hr, e1, e2⟩
  | none =>
    rw [hst] at e2
    exact .inr ⟨rfl, v, s', e1, e2⟩

end

end Go.Pon
/-
  Steps: decoding, in one piece.
-/
set_option autoImplicit false
set_option linter.unusedVariables false
set_option linter.unusedSimpArgs false
namespace Go.Pon
open Go

def rdClaim (b : List Int) (i : Nat) : Option (ClaimT × Nat) :=
  (rdU b i 8).bind fun p => (rdU b p.2 8).bind fun q => (rdU b q.2 8).bind fun r => (rdU b r.2 32).bind fun v => (rdU b v.2 8).bind fun n =>
    if n.1 ≤ 64 ∧ n.2 + 32 * n.1 ≤ b.length then some (((p.1 : Int), ((q.1 : Int), ((r.1 : Int), (lim v.1, (chunks b n.2 n.1, ()))))), n.2 + 32 * n.1) else none

/-- What stands at the front, and where it ends. -/
def rawS (b : List Int) : Option (StepT × Nat) :=
  if b.getD 0 0 = 1 then (rdB b 1).bind fun p => if (decTx p.1).2.1 = 0 then some ((1, ((decTx p.1).1, (zRep, ((0 : Int), ((0 : Int), ([(0 : Int), (0 : Int), (0 : Int), (0 : Int)], ((0 : Int), (zClaim, ())))))))), p.2) else none
  else if b.getD 0 0 = 2 then (rdU b 1 8).bind fun p => (rdU b p.2 8).bind fun q => (rdU b q.2 32).bind fun r => some ((2, (zTx, (((p.1 : Int), ((q.1 : Int), (lim r.1, ()))), ((0 : Int), ((0 : Int), ([(0 : Int), (0 : Int), (0 : Int), (0 : Int)], ((0 : Int), (zClaim, ())))))))), r.2)
  else if b.getD 0 0 = 3 then (rdU b 1 8).bind fun p => some ((3, (zTx, (zRep, ((p.1 : Int), ((0 : Int), ([(0 : Int), (0 : Int), (0 : Int), (0 : Int)], ((0 : Int), (zClaim, ())))))))), p.2)
  else if b.getD 0 0 = 4 then (rdU b 1 8).bind fun p => (rdU b p.2 32).bind fun q => if p.1 ≤ 9223372036854775807 then some ((4, (zTx, (zRep, ((0 : Int), ((p.1 : Int), (lim q.1, ((0 : Int), (zClaim, ())))))))), q.2) else none
  else if b.getD 0 0 = 5 then (rdU b 1 8).bind fun p => some ((5, (zTx, (zRep, ((0 : Int), ((0 : Int), ([(0 : Int), (0 : Int), (0 : Int), (0 : Int)], ((p.1 : Int), (zClaim, ())))))))), p.2)
  else if b.getD 0 0 = 6 then (rdU b 1 8).bind fun p => (rdU b p.2 32).bind fun q => some ((6, (zTx, (zRep, ((0 : Int), ((0 : Int), (lim q.1, ((p.1 : Int), (zClaim, ())))))))), q.2)
  else if b.getD 0 0 = 7 then (rdClaim b 1).bind fun p => some ((7, (zTx, (zRep, ((0 : Int), ((0 : Int), ([(0 : Int), (0 : Int), (0 : Int), (0 : Int)], ((0 : Int), (p.1, ())))))))), p.2)
  else none

def finS (b : List Int) (o : Option (StepT × Nat)) : StepT × (Int × Unit) :=
  match o with
  | some p => if p.2 = b.length then (p.1, ((0 : Int), ())) else (zStep, ((3 : Int), ()))
  | none => (zStep, ((3 : Int), ()))

def decS (b : List Int) : StepT × (Int × Unit) := if 8192 < b.length then (zStep, ((6 : Int), ())) else finS b (rawS b)

theorem stU_or {b : List Int} {most : Nat} {st : Option Nat} : stU b most st = none ∨ ∃ i x j, st = some i ∧ rdU b i most = some (x, j) ∧ stU b most st = some j := by
  cases h : stU b most st with
  | none => exact .inl rfl
  | some j => obtain ⟨i, x, h1, h2⟩ := st_some h; exact .inr ⟨i, x, j, h1, h2, rfl⟩

theorem rdClaim_none {b : List Int} {i : Nat} (h1 : stU b 8 (stU b 32 (stU b 8 (stU b 8 (stU b 8 (some i))))) = none) : rdClaim b i = none := by
  unfold rdClaim
  cases g1 : rdU b i 8 with
  | none => rfl
  | some p1 =>
    obtain ⟨x1, j1⟩ := p1
    rw [stU_at g1] at h1
    simp only [Option.bind_some]
    cases g2 : rdU b j1 8 with
    | none => rfl
    | some p2 =>
      obtain ⟨x2, j2⟩ := p2
      rw [stU_at g2] at h1
      simp only [Option.bind_some]
      cases g3 : rdU b j2 8 with
      | none => rfl
      | some p3 =>
        obtain ⟨x3, j3⟩ := p3
        rw [stU_at g3] at h1
        simp only [Option.bind_some]
        cases g4 : rdU b j3 32 with
        | none => rfl
        | some p4 =>
          obtain ⟨x4, j4⟩ := p4
          rw [stU_at g4] at h1
          simp only [Option.bind_some]
          cases g5 : rdU b j4 8 with
          | none => rfl
          | some p5 => rw [stU, Option.bind_some, g5] at h1; cases h1

section
variable {b : List Int} (hb : Bytes b) (hl : b.length ≤ 1000000000)
include hb hl

omit hb hl in
theorem wfin {st : Option Nat} {r : RdT} (hR : RS b st r) {o : Option (StepT × Nat)} {s' : StepT} (h0 : o = none → st = none) (h1 : ∀ s j, o = some (s, j) → s' = s ∧ st = some j) :
    (Option.bind (sol_wirereader_Reader_Done (r, ())) fun y => brR y.1.1 (some ((s', ((0 : Int), ())), ((), ()))) (some ((zStep, ((3 : Int), ())), ((), ())))) = some (finS b o, ((), ())) := by
  rw [wDone_step hR]
  simp only [bind_some', brR_not]
  cases o with
  | none => rw [h0 rfl, decide_eq_false (by simp), brR_false]; rfl
  | some p =>
    obtain ⟨s, j⟩ := p
    obtain ⟨rfl, rfl⟩ := h1 s j rfl
    unfold finS
    simp only
    by_cases hj : j = b.length
    · rw [if_pos hj, hj, decide_eq_true rfl, brR_true]
    · rw [if_neg hj, decide_eq_false (by simpa using hj), brR_false]

omit hb hl in
theorem rfin {st : Option Nat} {r : RdT} (hR : RS b st r) {o : Option (StepT × Nat)} {s' : StepT} (h0 : o = none → st = none) (h1 : ∀ s j, o = some (s, j) → s' = s ∧ st = some j) :
    (Option.bind (sol_ref22_Reader_Done (r, ())) fun y => brR y.1.1 (some ((s', ((0 : Int), ())), ((), ()))) (some ((zStep, ((3 : Int), ())), ((), ())))) = some (finS b o, ((), ())) := by
  rw [rDone_step hR]
  simp only [bind_some', brR_not]
  cases o with
  | none => rw [h0 rfl, decide_eq_false (by simp), brR_false]; rfl
  | some p =>
    obtain ⟨s, j⟩ := p
    obtain ⟨rfl, rfl⟩ := h1 s j rfl
    unfold finS
    simp only
    by_cases hj : j = b.length
    · rw [if_pos hj, hj, decide_eq_true rfl, brR_true]
    · rw [if_neg hj, decide_eq_false (by simpa using hj), brR_false]

/-! What the chains of reads come to. -/

omit hb hl in
theorem chain2 {v1 v2 : Int} {v3 : List Int} (k1 : ∀ i x j, some 1 = some i → rdU b i 8 = some (x, j) → v1 = (x : Int)) (k2 : ∀ i x j, stU b 8 (some 1) = some i → rdU b i 8 = some (x, j) → v2 = (x : Int))
    (k3 : ∀ i x j, stU b 8 (stU b 8 (some 1)) = some i → rdU b i 32 = some (x, j) → v3 = lim x) {f : Int → Int → List Int → StepT} {o : Option (StepT × Nat)}
    (ho : o = (rdU b 1 8).bind fun p => (rdU b p.2 8).bind fun q => (rdU b q.2 32).bind fun r => some (f (p.1 : Int) (q.1 : Int) (lim r.1), r.2)) :
    (o = none → stU b 32 (stU b 8 (stU b 8 (some 1))) = none) ∧ ∀ s j, o = some (s, j) → f v1 v2 v3 = s ∧ stU b 32 (stU b 8 (stU b 8 (some 1))) = some j := by
  subst ho
  cases h1 : rdU b 1 8 with
  | none => simp [stU, h1]
  | some p =>
    obtain ⟨x1, j1⟩ := p
    have e1 := stU_at h1
    rw [e1] at k2 k3 ⊢
    rw [k1 1 x1 j1 rfl h1]
    simp only [Option.bind_some]
    cases h2 : rdU b j1 8 with
    | none => simp [stU, h2]
    | some p =>
      obtain ⟨x2, j2⟩ := p
      have e2 := stU_at h2
      rw [e2] at k3 ⊢
      rw [k2 j1 x2 j2 rfl h2]
      simp only [Option.bind_some]
      cases h3 : rdU b j2 32 with
      | none => simp [stU, h3]
      | some p =>
        obtain ⟨x3, j3⟩ := p
        rw [stU_at h3, k3 j2 x3 j3 rfl h3]
        simp

omit hb hl in
theorem chain3 {v1 : Int} (k1 : ∀ i x j, some 1 = some i → rdU b i 8 = some (x, j) → v1 = (x : Int)) {f : Int → StepT} {o : Option (StepT × Nat)}
    (ho : o = (rdU b 1 8).bind fun p => some (f (p.1 : Int), p.2)) : (o = none → stU b 8 (some 1) = none) ∧ ∀ s j, o = some (s, j) → f v1 = s ∧ stU b 8 (some 1) = some j := by
  subst ho
  cases h1 : rdU b 1 8 with
  | none => simp [stU, h1]
  | some p =>
    obtain ⟨x1, j1⟩ := p
    rw [stU_at h1, k1 1 x1 j1 rfl h1]
    simp

omit hb hl in
theorem chain6 {v1 : Int} {v2 : List Int} (k1 : ∀ i x j, some 1 = some i → rdU b i 8 = some (x, j) → v1 = (x : Int)) (k2 : ∀ i x j, stU b 8 (some 1) = some i → rdU b i 32 = some (x, j) → v2 = lim x) {f : Int → List Int → StepT} {o : Option (StepT × Nat)}
    (ho : o = (rdU b 1 8).bind fun p => (rdU b p.2 32).bind fun q => some (f (p.1 : Int) (lim q.1), q.2)) :
    (o = none → stU b 32 (stU b 8 (some 1)) = none) ∧ ∀ s j, o = some (s, j) → f v1 v2 = s ∧ stU b 32 (stU b 8 (some 1)) = some j := by
  subst ho
  cases h1 : rdU b 1 8 with
  | none => simp [stU, h1]
  | some p =>
    obtain ⟨x1, j1⟩ := p
    have e1 := stU_at h1
    rw [e1] at k2 ⊢
    rw [k1 1 x1 j1 rfl h1]
    simp only [Option.bind_some]
    cases h2 : rdU b j1 32 with
    | none => simp [stU, h2]
    | some p =>
      obtain ⟨x2, j2⟩ := p
      rw [stU_at h2, k2 j1 x2 j2 rfl h2]
      simp

omit hb in
theorem first_byte (hne : b ≠ []) : byteV (b, ((0 : Int), (false, ()))) = b.getD 0 0 ∧ RS b (some 1) (byteS (b, ((0 : Int), (false, ())))) := by
  have : 0 < b.length := List.length_pos_iff.2 hne
  unfold byteV byteS
  simp only [Bool.false_eq_true, if_false]
  rw [if_neg (by omega), if_neg (by omega)]
  exact ⟨rfl, rfl, by omega⟩

omit hb hl in
/-- Behind reads that went wrong. -/
theorem wbad {r : RdT} (hR : RS b none r) (s' : StepT) :
    (Option.bind (sol_wirereader_Reader_Done (r, ())) fun y => brR y.1.1 (some ((s', ((0 : Int), ())), ((), ()))) (some ((zStep, ((3 : Int), ())), ((), ())))) = some ((zStep, ((3 : Int), ())), ((), ())) := by
  rw [wDone_step hR]
  simp only [bind_some', brR_not]
  rw [decide_eq_false (by simp), brR_false]

omit hb hl in
theorem rbad {r : RdT} (hR : RS b none r) (s' : StepT) :
    (Option.bind (sol_ref22_Reader_Done (r, ())) fun y => brR y.1.1 (some ((s', ((0 : Int), ())), ((), ()))) (some ((zStep, ((3 : Int), ())), ((), ())))) = some ((zStep, ((3 : Int), ())), ((), ())) := by
  rw [rDone_step hR]
  simp only [bind_some', brR_not]
  rw [decide_eq_false (by simp), brR_false]

omit hb in
/-- The hashes at a reader. -/
theorem proof_rs {st : Option Nat} {r : RdT} (hR : RS b st r) (n : Nat) : RS b (st.bind fun j => if j + 32 * n ≤ b.length then some (j + 32 * n) else none) (hsN n r).1 ∧
    ∀ j, st = some j → j + 32 * n ≤ b.length → (hsN n r).2 = chunks b j n := by
  cases st with
  | none =>
    obtain ⟨a, rfl, a0, a1⟩ := hR
    rw [hsN_bad]
    exact ⟨⟨a, rfl, a0, a1⟩, fun j h => by cases h⟩
  | some i =>
    obtain ⟨rfl, hi⟩ := hR
    obtain ⟨h1, h2⟩ := hsN_at b hi n
    simp only [Option.bind_some]
    by_cases hc : i + 32 * n ≤ b.length
    · rw [if_pos hc, h1 hc]
      exact ⟨⟨rfl, hc⟩, fun j h _ => by cases h; rfl⟩
    · rw [if_neg hc, h2 (by omega)]
      exact ⟨⟨_, rfl, by omega, by omega⟩, fun j h h' => by cases h; omega⟩

omit hb hl in
theorem mask63 {n : Int} (h0 : 0 ≤ n) (h1 : n ≤ 9223372036854775807) : IntKind.wrap .i64 (IntKind.wrap .u64 (((BitVec.toNat ((BitVec.ofInt 64 n) &&& (BitVec.ofInt 64 9223372036854775807)) : Nat) : Int))) = n := by
  obtain ⟨k, rfl⟩ := Int.eq_ofNat_of_zero_le h0
  have e : BitVec.toNat ((BitVec.ofInt 64 ((k : Nat) : Int)) &&& (BitVec.ofInt 64 9223372036854775807)) = k := by
    rw [BitVec.toNat_and, show BitVec.toNat (BitVec.ofInt 64 9223372036854775807) = 2 ^ 63 - 1 from rfl, Nat.and_two_pow_sub_one_eq_mod, BitVec.ofInt_natCast, BitVec.toNat_ofNat]
    omega
  rw [e, w_u64 (by omega) (by omega), w_i64 (by omega) (by omega)]

/-! ### The two decoders -/

omit hb hl in
theorem eta_rd (s : RdT) : ((s.1, (s.2.1, (s.2.2.1, s.2.2.2))) : RdT) = s := rfl

theorem stepDecode_le (h8 : b.length ≤ 8192) : sol_step_Decode (b, ()) = some (finS b (rawS b), ((), ())) := by
  unfold sol_step_Decode T_step_Decode
  simp only [brR_dec]
  rw [if_neg (by omega), show sol_wirereader_New (b, ()) = some (((b, ((0 : Int), (false, ()))), ()), ((), ())) from rfl]
  simp only [bind_some']
  rw [wByte_eq ⟨hl, by simp only; omega, by simp only; omega⟩]
  simp only [bind_some', eta_rd]
  unfold sol_step_decodeBody T_step_decodeBody
  by_cases hne : b = []
  · subst hne
    rfl
  obtain ⟨f1, hR⟩ := first_byte hl hne
  have hk : 0 ≤ b.getD 0 0 ∧ b.getD 0 0 ≤ 255 := by
    refine getD_all (p := fun x => 0 ≤ x ∧ x ≤ 255) (fun x hx => hb x hx) (by omega) 0
  rw [f1, w_i64 (by omega) (by omega)]
  unfold rawS
  generalize byteS (b, ((0 : Int), (false, ()))) = s at hR ⊢
  generalize hkk : b.getD 0 0 = k at hk ⊢
  clear hkk f1
  simp only [brR_dec]
  by_cases c1 : k = 1
  · subst c1
    rw [if_pos rfl, if_pos rfl]
    rcases wBytes_or hb hl hR with ⟨i, d, j, s', h1, h2, h3, h4⟩ | ⟨h1, s', h3, h4⟩
    · cases h1
      obtain ⟨q1, q2, q3, q4⟩ := rdB_le hb h2
      rw [h3]
      simp only [bind_some']
      rw [txDecode_eq q3 (by omega), h2]
      simp only [bind_some', Option.bind_some, eta_rd]
      by_cases he : (decTx d).2.1 = 0
      · rw [decide_eq_true he, if_pos he]
        simp only [brR_true, brR_not]
        exact wfin h4 (o := some ((1, ((decTx d).1, (zRep, ((0 : Int), ((0 : Int), ([(0 : Int), (0 : Int), (0 : Int), (0 : Int)], ((0 : Int), (zClaim, ())))))))), j)) (fun h => by cases h) (fun s j h => by cases h; exact ⟨rfl, rfl⟩)
      · rw [decide_eq_false he, if_neg he]
        rfl
    · rw [h3]
      simp only [bind_some']
      rw [txDecode_eq (b := []) (by intro x hx; cases hx) (by simp)]
      have hr : rdB b 1 = none := by
        cases hr : rdB b 1 with
        | none => rfl
        | some p => rw [stB, Option.bind_some, hr] at h1; cases h1
      rw [hr]
      simp only [bind_some', eta_rd]
      rw [show decTx [] = (zeroTx, (3, ())) from rfl]
      rfl
  rw [if_neg c1, if_neg c1]
  by_cases c2 : k = 2
  · subst c2
    rw [if_pos rfl, if_pos rfl]
    obtain ⟨v1, s1, e1, r1, k1⟩ := wU64_step hb hl hR
    obtain ⟨v2, s2, e2, r2, k2⟩ := wU64_step hb hl r1
    obtain ⟨v3, s3, e3, r3, k3⟩ := wU256_step hb hl r2
    rw [e1]; simp only [bind_some', eta_rd]
    rw [e2]; simp only [bind_some', eta_rd]
    rw [e3]; simp only [bind_some', eta_rd, brR_true, brR_not]
    obtain ⟨g1, g2⟩ := chain2 k1 k2 k3 (f := fun a c d => (2, (zTx, ((a, (c, (d, ()))), ((0 : Int), ((0 : Int), ([(0 : Int), (0 : Int), (0 : Int), (0 : Int)], ((0 : Int), (zClaim, ()))))))))) rfl
    exact wfin r3 g1 g2
  rw [if_neg c2, if_neg c2]
  by_cases c3 : k = 3
  · subst c3
    rw [if_pos rfl, if_pos rfl]
    obtain ⟨v1, s1, e1, r1, k1⟩ := wU64_step hb hl hR
    rw [e1]; simp only [bind_some', eta_rd, brR_true, brR_not]
    obtain ⟨g1, g2⟩ := chain3 k1 (f := fun a => (3, (zTx, (zRep, (a, ((0 : Int), ([(0 : Int), (0 : Int), (0 : Int), (0 : Int)], ((0 : Int), (zClaim, ()))))))))) rfl
    exact wfin r1 g1 g2
  rw [if_neg c3, if_neg c3]
  by_cases c4 : k = 4
  · subst c4
    rw [if_pos rfl, if_pos rfl]
    rcases wU64_or hb hl hR with ⟨i, x, j, s1, h1, h2, h3, h4⟩ | ⟨h1, s1, h3, h4⟩
    · cases h1
      obtain ⟨q1, q2, q3, q4⟩ := rdU_le h2 hb
      obtain ⟨v2, s2, e2, r2, k2⟩ := wU256_step hb hl h4
      rw [h3]; simp only [bind_some', eta_rd]
      rw [e2, h2]; simp only [bind_some', eta_rd, Option.bind_some]
      by_cases hx : (x : Int) ≤ 9223372036854775807
      · rw [decide_eq_true hx, mask63 (by omega) hx]
        simp only [brR_true, brR_not]
        refine wfin r2 (fun h => ?_) (fun s j' h => ?_)
        · cases h5 : rdU b j 32 with
          | none => simp [stU, h5]
          | some p => rw [h5, Option.bind_some, if_pos (by omega)] at h; cases h
        · cases h5 : rdU b j 32 with
          | none => rw [h5] at h; cases h
          | some p =>
            obtain ⟨y, j2⟩ := p
            rw [h5, Option.bind_some, if_pos (by omega)] at h
            cases h
            rw [k2 j y _ rfl h5, stU_at h5]
            exact ⟨rfl, rfl⟩
      · rw [decide_eq_false hx]
        have e : ((rdU b j 32).bind fun q => if x ≤ 9223372036854775807 then some (((4, (zTx, (zRep, ((0 : Int), ((x : Int), (lim q.1, ((0 : Int), (zClaim, ())))))))), q.2) : StepT × Nat) else none) = none := by
          cases rdU b j 32 with
          | none => rfl
          | some p => rw [Option.bind_some, if_neg (by omega)]
        rw [e]
        rfl
    · obtain ⟨v2, s2, e2, r2, k2⟩ := wU256_step hb hl h4
      rw [h3]; simp only [bind_some', eta_rd]
      rw [e2]; simp only [bind_some', eta_rd]
      have hr : rdU b 1 8 = none := by
        cases hr : rdU b 1 8 with
        | none => rfl
        | some p => rw [stU, Option.bind_some, hr] at h1; cases h1
      rw [hr]
      simp only [show decide ((0 : Int) ≤ 9223372036854775807) = true from rfl, brR_true, brR_not]
      exact wfin r2 (fun h => rfl) (fun s j h => by cases h)
  rw [if_neg c4, if_neg c4]
  by_cases c5 : k = 5
  · subst c5
    rw [if_pos rfl, if_pos rfl]
    obtain ⟨v1, s1, e1, r1, k1⟩ := wU64_step hb hl hR
    rw [e1]; simp only [bind_some', eta_rd, brR_true, brR_not]
    obtain ⟨g1, g2⟩ := chain3 k1 (f := fun a => (5, (zTx, (zRep, ((0 : Int), ((0 : Int), ([(0 : Int), (0 : Int), (0 : Int), (0 : Int)], (a, (zClaim, ()))))))))) rfl
    exact wfin r1 g1 g2
  rw [if_neg c5, if_neg c5]
  by_cases c6 : k = 6
  · subst c6
    rw [if_pos rfl, if_pos rfl]
    obtain ⟨v1, s1, e1, r1, k1⟩ := wU64_step hb hl hR
    obtain ⟨v2, s2, e2, r2, k2⟩ := wU256_step hb hl r1
    rw [e1]; simp only [bind_some', eta_rd]
    rw [e2]; simp only [bind_some', eta_rd, brR_true, brR_not]
    obtain ⟨g1, g2⟩ := chain6 k1 k2 (f := fun a c => (6, (zTx, (zRep, ((0 : Int), ((0 : Int), (c, (a, (zClaim, ()))))))))) rfl
    exact wfin r2 g1 g2
  rw [if_neg c6, if_neg c6]
  by_cases c7 : k = 7
  · subst c7
    rw [if_pos rfl, if_pos rfl]
    obtain ⟨v1, s1, e1, r1, k1⟩ := wU64_step hb hl hR
    obtain ⟨v2, s2, e2, r2, k2⟩ := wU64_step hb hl r1
    obtain ⟨v3, s3, e3, r3, k3⟩ := wU64_step hb hl r2
    obtain ⟨v4, s4, e4, r4, k4⟩ := wU256_step hb hl r3
    rw [e1]; simp only [bind_some', eta_rd]
    rw [e2]; simp only [bind_some', eta_rd]
    rw [e3]; simp only [bind_some', eta_rd]
    rw [e4]; simp only [bind_some', eta_rd]
    rcases wU64_or hb hl r4 with ⟨i, n, j, s5, h1, h2, h3, h4⟩ | ⟨h1, s5, h3, h4⟩
    · obtain ⟨i3, x4, rfl', g4⟩ := st_some h1
      obtain ⟨i2, x3, rfl'', g3⟩ := st_some rfl'
      obtain ⟨i1, x2, rfl3, g2⟩ := st_some rfl''
      obtain ⟨i0, x1, rfl4, g1⟩ := st_some rfl3
      cases rfl4
      have hv1 := k1 _ _ _ rfl g1
      have hv2 := k2 _ _ _ rfl3 g2
      have hv3 := k3 _ _ _ rfl'' g3
      have hv4 := k4 _ _ _ rfl' g4
      subst hv1 hv2 hv3 hv4
      rw [wProof_eq h3 (rs_ok hl h4)]
      unfold rdClaim
      rw [g1, Option.bind_some, g2, Option.bind_some, g3, Option.bind_some, g4, Option.bind_some, h2, Option.bind_some]
      by_cases hn : (n : Int) > 64
      · rw [if_pos hn, if_neg (by omega)]
        rfl
      · rw [if_neg hn]
        simp only [bind_some', eta_rd, brR_true, brR_not, Int.toNat_natCast]
        obtain ⟨p1, p2⟩ := proof_rs hl h4 n
        refine wfin p1 (fun h => ?_) (fun s j' h => ?_)
        · by_cases hc : j + 32 * n ≤ b.length
          · rw [if_pos ⟨by omega, hc⟩] at h; cases h
          · simp only [Option.bind_some]; rw [if_neg hc]
        · by_cases hc : j + 32 * n ≤ b.length
          · rw [if_pos ⟨by omega, hc⟩] at h
            cases h
            simp only [Option.bind_some]
            rw [if_pos hc, p2 j rfl hc]
            exact ⟨rfl, rfl⟩
          · rw [if_neg (by omega)] at h; cases h
    · rw [wProof_eq h3 (rs_ok hl h4), if_neg (by omega)]
      simp only [bind_some', eta_rd, brR_true, brR_not]
      have hr : rdClaim b 1 = none := rdClaim_none h1
      rw [hr]
      obtain ⟨p1, p2⟩ := proof_rs hl h4 (Int.toNat 0)
      exact wfin p1 (fun h => rfl) (fun s j h => by cases h)
  rw [if_neg c7, if_neg c7]
  rfl

theorem rDecode_le (h8 : b.length ≤ 8192) : sol_ref26_Decode (b, ()) = some (finS b (rawS b), ((), ())) := by
  unfold sol_ref26_Decode T_ref26_Decode
  simp only [brR_dec]
  rw [if_neg (by omega), rByte_eq ⟨hl, by simp only; omega, by simp only; omega⟩]
  simp only [bind_some', eta_rd]
  by_cases hne : b = []
  · subst hne
    rfl
  obtain ⟨f1, hR⟩ := first_byte hl hne
  have hk : 0 ≤ b.getD 0 0 ∧ b.getD 0 0 ≤ 255 := by
    refine getD_all (p := fun x => 0 ≤ x ∧ x ≤ 255) (fun x hx => hb x hx) (by omega) 0
  rw [f1, w_i64 (by omega) (by omega)]
  unfold rawS
  generalize byteS (b, ((0 : Int), (false, ()))) = s at hR ⊢
  generalize hkk : b.getD 0 0 = k at hk ⊢
  clear hkk f1
  by_cases c1 : k = 1
  · subst c1
    rw [if_pos rfl, if_pos rfl]
    rcases rBytes_or hb hl hR with ⟨i, d, j, s', h1, h2, h3, h4⟩ | ⟨h1, s', h3, h4⟩
    · cases h1
      obtain ⟨q1, q2, q3, q4⟩ := rdB_le hb h2
      rw [h3]
      simp only [bind_some']
      rw [rDecode_eq q3 (by omega), h2]
      simp only [bind_some', Option.bind_some, eta_rd]
      by_cases he : (decTx d).2.1 = 0
      · rw [decide_eq_true he, if_pos he]
        simp only [brR_true, brR_not]
        exact rfin h4 (o := some ((1, ((decTx d).1, (zRep, ((0 : Int), ((0 : Int), ([(0 : Int), (0 : Int), (0 : Int), (0 : Int)], ((0 : Int), (zClaim, ())))))))), j)) (fun h => by cases h) (fun s j h => by cases h; exact ⟨rfl, rfl⟩)
      · rw [decide_eq_false he, if_neg he]
        rfl
    · rw [h3]
      simp only [bind_some']
      rw [rDecode_eq (b := []) (by intro x hx; cases hx) (by simp)]
      have hr : rdB b 1 = none := by
        cases hr : rdB b 1 with
        | none => rfl
        | some p => rw [stB, Option.bind_some, hr] at h1; cases h1
      rw [hr]
      simp only [bind_some', eta_rd]
      rw [show decTx [] = (zeroTx, (3, ())) from rfl]
      rfl
  rw [if_neg c1, if_neg c1]
  by_cases c2 : k = 2
  · subst c2
    rw [if_pos rfl, if_pos rfl]
    obtain ⟨v1, s1, e1, r1, k1⟩ := rU64_step hb hl hR
    obtain ⟨v2, s2, e2, r2, k2⟩ := rU64_step hb hl r1
    obtain ⟨v3, s3, e3, r3, k3⟩ := rU256_step hb hl r2
    rw [e1]; simp only [bind_some', eta_rd]
    rw [e2]; simp only [bind_some', eta_rd]
    rw [e3]; simp only [bind_some', eta_rd, brR_true, brR_not]
    obtain ⟨g1, g2⟩ := chain2 k1 k2 k3 (f := fun a c d => (2, (zTx, ((a, (c, (d, ()))), ((0 : Int), ((0 : Int), ([(0 : Int), (0 : Int), (0 : Int), (0 : Int)], ((0 : Int), (zClaim, ()))))))))) rfl
    exact rfin r3 g1 g2
  rw [if_neg c2, if_neg c2]
  by_cases c3 : k = 3
  · subst c3
    rw [if_pos rfl, if_pos rfl]
    obtain ⟨v1, s1, e1, r1, k1⟩ := rU64_step hb hl hR
    rw [e1]; simp only [bind_some', eta_rd, brR_true, brR_not]
    obtain ⟨g1, g2⟩ := chain3 k1 (f := fun a => (3, (zTx, (zRep, (a, ((0 : Int), ([(0 : Int), (0 : Int), (0 : Int), (0 : Int)], ((0 : Int), (zClaim, ()))))))))) rfl
    exact rfin r1 g1 g2
  rw [if_neg c3, if_neg c3]
  by_cases c4 : k = 4
  · subst c4
    rw [if_pos rfl, if_pos rfl]
    rcases rU64_or hb hl hR with ⟨i, x, j, s1, h1, h2, h3, h4⟩ | ⟨h1, s1, h3, h4⟩
    · cases h1
      obtain ⟨q1, q2, q3, q4⟩ := rdU_le h2 hb
      rw [h3, h2]; simp only [bind_some', Option.bind_some]
      obtain ⟨rfl, hj⟩ := h4
      simp only [brR_false]
      by_cases hx : (x : Int) ≤ 9223372036854775807
      · rw [decide_eq_false (show ¬ (x : Int) > 9223372036854775807 by omega), w_i64 (by omega) (by omega)]
        obtain ⟨v2, s2, e2, r2, k2⟩ := rU256_step hb hl (st := some j) ⟨rfl, hj⟩
        rw [e2]
        simp only [bind_some', eta_rd, brR_not]
        refine rfin r2 (fun h => ?_) (fun s j' h => ?_)
        · cases h5 : rdU b j 32 with
          | none => simp [stU, h5]
          | some p => rw [h5, Option.bind_some, if_pos (by omega)] at h; cases h
        · cases h5 : rdU b j 32 with
          | none => rw [h5] at h; cases h
          | some p =>
            obtain ⟨y, j2⟩ := p
            rw [h5, Option.bind_some, if_pos (by omega)] at h
            cases h
            rw [k2 j y _ rfl h5, stU_at h5]
            exact ⟨rfl, rfl⟩
      · rw [decide_eq_true (show (x : Int) > 9223372036854775807 by omega)]
        have e : ((rdU b j 32).bind fun q => if x ≤ 9223372036854775807 then some (((4, (zTx, (zRep, ((0 : Int), ((x : Int), (lim q.1, ((0 : Int), (zClaim, ())))))))), q.2) : StepT × Nat) else none) = none := by
          cases rdU b j 32 with
          | none => rfl
          | some p => rw [Option.bind_some, if_neg (by omega)]
        rw [e]
        obtain ⟨v2, s2, e2, r2, k2⟩ := rU256_step hb hl (st := none) (s := (b, ((j : Int), (true, ())))) ⟨_, rfl, by omega, by omega⟩
        rw [e2]
        simp only [bind_some', eta_rd, brR_not]
        exact rfin r2 (fun h => rfl) (fun s j h => by cases h)
    · rw [h3]; simp only [bind_some']
      have hr : rdU b 1 8 = none := by
        cases hr : rdU b 1 8 with
        | none => rfl
        | some p => rw [stU, Option.bind_some, hr] at h1; cases h1
      rw [hr]
      obtain ⟨a, rfl, a0, a1⟩ := h4
      simp only [brR_true]
      obtain ⟨v2, s2, e2, r2, k2⟩ := rU256_step hb hl (st := none) (s := (b, (a, (true, ())))) ⟨_, rfl, a0, a1⟩
      rw [e2]
      simp only [bind_some', eta_rd, brR_not]
      exact rfin r2 (fun h => rfl) (fun s j h => by cases h)
  rw [if_neg c4, if_neg c4]
  by_cases c5 : k = 5
  · subst c5
    rw [if_pos rfl, if_pos rfl]
    obtain ⟨v1, s1, e1, r1, k1⟩ := rU64_step hb hl hR
    rw [e1]; simp only [bind_some', eta_rd, brR_true, brR_not]
    obtain ⟨g1, g2⟩ := chain3 k1 (f := fun a => (5, (zTx, (zRep, ((0 : Int), ((0 : Int), ([(0 : Int), (0 : Int), (0 : Int), (0 : Int)], (a, (zClaim, ()))))))))) rfl
    exact rfin r1 g1 g2
  rw [if_neg c5, if_neg c5]
  by_cases c6 : k = 6
  · subst c6
    rw [if_pos rfl, if_pos rfl]
    obtain ⟨v1, s1, e1, r1, k1⟩ := rU64_step hb hl hR
    obtain ⟨v2, s2, e2, r2, k2⟩ := rU256_step hb hl r1
    rw [e1]; simp only [bind_some', eta_rd]
    rw [e2]; simp only [bind_some', eta_rd, brR_true, brR_not]
    obtain ⟨g1, g2⟩ := chain6 k1 k2 (f := fun a c => (6, (zTx, (zRep, ((0 : Int), ((0 : Int), (c, (a, (zClaim, ()))))))))) rfl
    exact rfin r2 g1 g2
  rw [if_neg c6, if_neg c6]
  by_cases c7 : k = 7
  · subst c7
    rw [if_pos rfl, if_pos rfl]
    obtain ⟨v1, s1, e1, r1, k1⟩ := rU64_step hb hl hR
    obtain ⟨v2, s2, e2, r2, k2⟩ := rU64_step hb hl r1
    obtain ⟨v3, s3, e3, r3, k3⟩ := rU64_step hb hl r2
    obtain ⟨v4, s4, e4, r4, k4⟩ := rU256_step hb hl r3
    unfold sol_ref26_readClaim T_ref26_readClaim
    simp only [eta_rd]
    rw [e1]; simp only [bind_some', eta_rd]
    rw [e2]; simp only [bind_some', eta_rd]
    rw [e3]; simp only [bind_some', eta_rd]
    rw [e4]; simp only [bind_some', eta_rd]
    rcases rU64_or hb hl r4 with ⟨i, n, j, s5, h1, h2, h3, h4⟩ | ⟨h1, s5, h3, h4⟩
    · obtain ⟨i3, x4, rfl', g4⟩ := st_some h1
      obtain ⟨i2, x3, rfl'', g3⟩ := st_some rfl'
      obtain ⟨i1, x2, rfl3, g2⟩ := st_some rfl''
      obtain ⟨i0, x1, rfl4, g1⟩ := st_some rfl3
      cases rfl4
      have hv1 := k1 _ _ _ rfl g1
      have hv2 := k2 _ _ _ rfl3 g2
      have hv3 := k3 _ _ _ rfl'' g3
      have hv4 := k4 _ _ _ rfl' g4
      subst hv1 hv2 hv3 hv4
      rw [h3]
      simp only [bind_some', brR_dec]
      unfold rdClaim
      rw [g1, Option.bind_some, g2, Option.bind_some, g3, Option.bind_some, g4, Option.bind_some, h2, Option.bind_some]
      by_cases hn : (n : Int) > 64
      · rw [if_pos hn, if_neg (by omega)]
        obtain ⟨rfl, hj⟩ := h4
        simp only [bind_some', eta_rd, brR_not]
        exact rbad ⟨_, rfl, by omega, by omega⟩ _
      · rw [if_neg hn, rProof_loop (rs_ok hl h4) (by omega) (by omega)]
        simp only [bind_some', eta_rd, brR_true, brR_not, Int.toNat_natCast]
        obtain ⟨p1, p2⟩ := proof_rs hl h4 n
        refine rfin p1 (fun h => ?_) (fun s j' h => ?_)
        · by_cases hc : j + 32 * n ≤ b.length
          · rw [if_pos ⟨by omega, hc⟩] at h; cases h
          · simp only [Option.bind_some]; rw [if_neg hc]
        · by_cases hc : j + 32 * n ≤ b.length
          · rw [if_pos ⟨by omega, hc⟩] at h
            cases h
            simp only [Option.bind_some]
            rw [if_pos hc, p2 j rfl hc]
            exact ⟨rfl, rfl⟩
          · rw [if_neg (by omega)] at h; cases h
    · rw [h3]
      simp only [bind_some', brR_dec]
      rw [if_neg (by omega), rProof_loop (rs_ok hl h4) (by omega) (by omega)]
      simp only [bind_some', eta_rd, brR_true, brR_not]
      have hr : rdClaim b 1 = none := rdClaim_none h1
      rw [hr]
      obtain ⟨p1, p2⟩ := proof_rs hl h4 (Int.toNat 0)
      exact rfin p1 (fun h => rfl) (fun s j h => by cases h)
  rw [if_neg c7, if_neg c7]
  rfl

end

theorem stepDecode_eq {b : List Int} (hb : Bytes b) : sol_step_Decode (b, ()) = some (decS b, ((), ())) := by
  unfold decS
  by_cases h8 : 8192 < b.length
  · rw [if_pos h8]
    unfold sol_step_Decode T_step_Decode
    simp only [brR_dec]
    rw [if_pos (by omega)]
  · rw [if_neg h8]
    exact stepDecode_le hb (by omega) (by omega)

theorem rDecodeS_eq {b : List Int} (hb : Bytes b) : sol_ref26_Decode (b, ()) = some (decS b, ((), ())) := by
  unfold decS
  by_cases h8 : 8192 < b.length
  · rw [if_pos h8]
    unfold sol_ref26_Decode T_ref26_Decode
    simp only [brR_dec]
    rw [if_pos (by omega)]
  · rw [if_neg h8]
    exact rDecode_le hb (by omega) (by omega)

end Go.Pon
/-
  Steps: encoding and decoding are inverse.
-/
set_option autoImplicit false
set_option linter.unusedVariables false
set_option linter.unusedSimpArgs false
namespace Go.Pon
open Go

theorem len_encTx2 {t : TxT} (h : TxW t) : (encTx t).length ≤ 200 + t.2.2.2.2.2.2.2.2.1.length ∨ 1000000 < t.2.2.2.2.2.2.2.2.1.length := by
  by_cases hd : t.2.2.2.2.2.2.2.2.1.length ≤ 1000000
  · left
    obtain ⟨ha, hn, ho, hv, hg, hf, hp, he, hdb⟩ := h
    rename_i a n o g e v f p d
    simp only at hd
    unfold U64 at ha hn ho hg he
    have := @bylen_64 a.toNat (by omega); have := @bylen_64 n.toNat (by omega); have := @bylen_64 o.toNat (by omega); have := @bylen_64 g.toNat (by omega); have := @bylen_64 e.toNat (by omega)
    have := bylen_256 hv; have := bylen_256 hf; have := bylen_256 hp; have := @bylen_64 d.length (by omega)
    simp only [encTx, val4_lim, List.length_append, len_enc]
    omega
  · right; omega

/-- An encoding with anything behind it is read back. -/
theorem raw_encS {s : StepT} (h : StepW s) (h0 : badS s = 0) (z : List Int) : rawS ((s.1 :: encB s) ++ z) = some (canon s, (s.1 :: encB s).length) := by
  obtain ⟨hk, ht, ha, hb, hc, hs, hy, hv, hd, hq⟩ := h
  rename_i k t a b c s y v d q
  unfold badS at h0
  simp only at h0
  unfold U64 at ha hb hs hd
  have ea : ((a.toNat : Nat) : Int) = a := by omega
  have eb : ((b.toNat : Nat) : Int) = b := by omega
  have es : ((s.toNat : Nat) : Int) = s := by omega
  have ed : ((d.toNat : Nat) : Int) = d := by omega
  by_cases c0 : k < 1 ∨ 7 < k
  · rw [if_pos c0] at h0; cases h0
  rw [if_neg c0] at h0
  have p8 : (256 : Nat) ^ 8 = 18446744073709551616 := by decide
  have p32 : (256 : Nat) ^ 32 = 115792089237316195423570985008687907853269984665640564039457584007913129639936 := by decide
  unfold B256 at hc hv
  rcases kind7 c0 with rfl | rfl | rfl | rfl | rfl | rfl | rfl
  · simp only [Int.reduceLT, Int.reduceEq, false_and, true_and, if_false] at h0
    have hd4 : t.2.2.2.2.2.2.2.2.1.length ≤ 4096 := by
      by_cases h4 : 4096 < t.2.2.2.2.2.2.2.2.1.length
      · rw [if_pos h4] at h0; cases h0
      · omega
    have hlt := len_encTx ht (by omega)
    unfold rawS
    simp only [List.cons_append, List.getD_cons_zero, if_true, encB]
    rw [rdB_at (i := 1) (a := [1]) (z := z) (d := encTx t) (by omega) (by simp [List.append_assoc]) rfl]
    simp only [Option.bind_some]
    rw [enc_dec ht hd4]
    simp only [if_true]
    simp only [canon, if_true, List.cons_append, List.nil_append]
  · unfold rawS
    simp only [List.cons_append, List.getD_cons_zero, if_true, if_false, Int.reduceEq, encB, encRep, val4_lim]
    rw [rdU_at (i := 1) (a := [2]) (n := a.toNat) (z := enc b.toNat ++ (enc c ++ z)) (by omega) (by omega) (by simp [List.append_assoc]) rfl]
    simp only [Option.bind_some]
    rw [rdU_at (a := [2] ++ enc a.toNat) (n := b.toNat) (z := enc c ++ z) (by omega) (by omega) (by simp [List.append_assoc]) rfl]
    simp only [Option.bind_some]
    rw [rdU_at (a := [2] ++ enc a.toNat ++ enc b.toNat) (n := c) (z := z) (by omega) (by omega) (by simp [List.append_assoc]) rfl]
    simp only [Option.bind_some, ea, eb, canon, Int.reduceEq, if_true, if_false, List.cons_append, List.nil_append, List.append_assoc]
  · unfold rawS
    simp only [List.cons_append, List.getD_cons_zero, if_true, if_false, Int.reduceEq, encB]
    rw [rdU_at (i := 1) (a := [3]) (n := s.toNat) (z := z) (by omega) (by omega) (by simp [List.append_assoc]) rfl]
    simp only [Option.bind_some, es, canon, Int.reduceEq, if_true, if_false, List.cons_append, List.nil_append, List.append_assoc]
  · have hy0 : 0 ≤ y := by
      by_cases h4 : y < 0
      · simp [h4] at h0
      · omega
    have ey : ((y.toNat : Nat) : Int) = y := by omega
    unfold rawS
    simp only [List.cons_append, List.getD_cons_zero, if_true, if_false, Int.reduceEq, encB, val4_lim]
    rw [rdU_at (i := 1) (a := [4]) (n := y.toNat) (z := enc v ++ z) (by omega) (by omega) (by simp [List.append_assoc]) rfl]
    simp only [Option.bind_some]
    rw [rdU_at (a := [4] ++ enc y.toNat) (n := v) (z := z) (by omega) (by omega) (by simp [List.append_assoc]) rfl]
    simp only [Option.bind_some]
    rw [if_pos (by omega)]
    simp only [ey, canon, Int.reduceEq, if_true, if_false, List.cons_append, List.nil_append, List.append_assoc]
  · unfold rawS
    simp only [List.cons_append, List.getD_cons_zero, if_true, if_false, Int.reduceEq, encB]
    rw [rdU_at (i := 1) (a := [5]) (n := d.toNat) (z := z) (by omega) (by omega) (by simp [List.append_assoc]) rfl]
    simp only [Option.bind_some, ed, canon, Int.reduceEq, if_true, if_false, List.cons_append, List.nil_append, List.append_assoc]
  · unfold rawS
    simp only [List.cons_append, List.getD_cons_zero, if_true, if_false, Int.reduceEq, encB, val4_lim]
    rw [rdU_at (i := 1) (a := [6]) (n := d.toNat) (z := enc v ++ z) (by omega) (by omega) (by simp [List.append_assoc]) rfl]
    simp only [Option.bind_some]
    rw [rdU_at (a := [6] ++ enc d.toNat) (n := v) (z := z) (by omega) (by omega) (by simp [List.append_assoc]) rfl]
    simp only [Option.bind_some, ed, canon, Int.reduceEq, if_true, if_false, List.cons_append, List.nil_append, List.append_assoc]
  · simp only [Int.reduceLT, Int.reduceEq, false_and, true_and, if_false] at h0
    obtain ⟨h1, h2, h3, hv4, hl⟩ := hq
    rename_i x1 x2 x3 x4 l
    simp only at h0
    unfold U64 at h1 h2 h3
    unfold B256 at hv4
    have e1 : ((x1.toNat : Nat) : Int) = x1 := by omega
    have e2 : ((x2.toNat : Nat) : Int) = x2 := by omega
    have e3 : ((x3.toNat : Nat) : Int) = x3 := by omega
    have hl4 : l.length ≤ 64 := by
      by_cases h4 : 64 < l.length
      · rw [if_pos h4] at h0; cases h0
      · omega
    unfold rawS
    simp only [List.cons_append, List.getD_cons_zero, if_true, if_false, Int.reduceEq, encB, encClaim, val4_lim]
    unfold rdClaim
    rw [rdU_at (i := 1) (a := [7]) (n := x1.toNat) (z := enc x2.toNat ++ (enc x3.toNat ++ (enc x4 ++ (enc l.length ++ (l.flatten ++ z))))) (by omega) (by omega) (by simp [List.append_assoc]) rfl]
    simp only [Option.bind_some]
    rw [rdU_at (a := [7] ++ enc x1.toNat) (n := x2.toNat) (z := (enc x3.toNat ++ (enc x4 ++ (enc l.length ++ (l.flatten ++ z))))) (by omega) (by omega) (by simp [List.append_assoc]) rfl]
    simp only [Option.bind_some]
    rw [rdU_at (a := [7] ++ enc x1.toNat ++ enc x2.toNat) (n := x3.toNat) (z := (enc x4 ++ (enc l.length ++ (l.flatten ++ z)))) (by omega) (by omega) (by simp [List.append_assoc]) rfl]
    simp only [Option.bind_some]
    rw [rdU_at (a := [7] ++ enc x1.toNat ++ enc x2.toNat ++ enc x3.toNat) (n := x4) (z := (enc l.length ++ (l.flatten ++ z))) (by omega) (by omega) (by simp [List.append_assoc]) rfl]
    simp only [Option.bind_some]
    rw [rdU_at (a := [7] ++ enc x1.toNat ++ enc x2.toNat ++ enc x3.toNat ++ enc x4) (n := l.length) (z := (l.flatten ++ z)) (by omega) (by omega) (by simp [List.append_assoc]) rfl]
    simp only [Option.bind_some]
    have hfl := flat_len hl
    have hch := chunks_of hl ([7] ++ enc x1.toNat ++ enc x2.toNat ++ enc x3.toNat ++ enc x4 ++ enc l.length) z
    have eL : ((7 : Int) :: (enc x1.toNat ++ (enc x2.toNat ++ (enc x3.toNat ++ (enc x4 ++ (enc l.length ++ l.flatten)))) ++ z)) = ([7] ++ enc x1.toNat ++ enc x2.toNat ++ enc x3.toNat ++ enc x4 ++ enc l.length) ++ (l.flatten ++ z) := by simp [List.append_assoc]
    rw [eL, hch, if_pos ⟨hl4, by simp only [List.length_append, hfl]; omega⟩]
    simp only [Option.bind_some, e1, e2, e3, canon, Int.reduceEq, if_true, if_false]
    rw [← hfl]
    simp only [← List.length_append, List.append_assoc, List.cons_append, List.nil_append]

theorem bind_some_iff {α β : Type} {o : Option α} {f : α → Option β} {y : β} : o.bind f = some y ↔ ∃ a, o = some a ∧ f a = some y := by
  cases o <;> simp

theorem seg_one {b : List Int} {k : Int} (h : b.getD 0 0 = k) (hk : k ≠ 0) : [k] = seg b 0 1 := by
  cases b with
  | nil => simp at h; exact absurd h.symm hk
  | cons x l => simp at h; subst h; simp [seg]

theorem seg_zero (b : List Int) (j : Nat) : seg b 0 j = b.take j := by simp [seg]

theorem u64_of {n : Nat} (h : n < 256 ^ 8) : U64 ((n : Nat) : Int) := by
  have : (256 : Nat) ^ 8 = 18446744073709551616 := by decide
  unfold U64; omega

theorem b256_of {n : Nat} (h : n < 256 ^ 32) : B256 n := by
  have : (256 : Nat) ^ 32 = 115792089237316195423570985008687907853269984665640564039457584007913129639936 := by decide
  unfold B256; omega

theorem zeroTxW2 : TxW zTx := by
  have := TxW.mk (a := 0) (n := 0) (o := 0) (g := 0) (e := 0) (v := 0) (f := 0) (p := 0) (d := []) (by unfold U64; omega) (by unfold U64; omega) (by unfold U64; omega) (by unfold B256; omega) (by unfold U64; omega) (by unfold B256; omega) (by unfold B256; omega) (by unfold U64; omega) (fun x hx => by cases hx)
  exact this

theorem zeroClaimW : ClaimW zClaim := by
  have := ClaimW.mk (a := 0) (b := 0) (c := 0) (v := 0) (l := []) (by unfold U64; omega) (by unfold U64; omega) (by unfold U64; omega) (by unfold B256; omega) (fun x hx => by cases hx)
  exact this

theorem b0 : B256 0 := by unfold B256; omega
theorem u0 : U64 0 := by unfold U64; omega

/-- What is read is a canonical step, and its encoding is what was read. -/
theorem enc_rawS {b : List Int} (hb : Bytes b) (hl : b.length ≤ 1000000000) {s : StepT} {j : Nat} (h : rawS b = some (s, j)) :
    StepW s ∧ canon s = s ∧ badS s = 0 ∧ s.1 :: encB s = b.take j ∧ j ≤ b.length ∧ s.2.2.2.2.2.2.2.1.2.2.2.2.1.length ≤ 64 ∧ s.2.1.2.2.2.2.2.2.2.2.1.length ≤ 4096 := by
  unfold rawS at h
  by_cases c1 : b.getD 0 0 = 1
  · rw [if_pos c1] at h
    obtain ⟨⟨d, j1⟩, h1, h2⟩ := bind_some_iff.1 h
    obtain ⟨q1, q2, q3, q4⟩ := rdB_le hb h1
    simp only at h2
    by_cases he : (decTx d).2.1 = 0
    · rw [if_pos he] at h2
      cases h2
      rcases dec_enc q3 (by omega) with ⟨t, ht, hd, e1, e2⟩ | e2
      · rw [e2]
        refine ⟨.mk (c := 0) (v := 0) (by omega) ht u0 u0 b0 u0 (by omega) b0 u0 zeroClaimW, rfl, ?_, ?_, q2, by simp, hd⟩
        · simp only [badS, Int.reduceLT, Int.reduceEq, false_and, true_and, or_self, if_false, if_neg (show ¬ 4096 < t.2.2.2.2.2.2.2.2.1.length by omega)]
        · have e3 := enc_rdB hb hl h1
          rw [← seg_zero, ← seg_app (i := 0) (j := 1) (k := j) (by omega) (by omega), ← seg_one c1 (by omega), ← e3]
          simp only [encB, if_true, e1, List.cons_append, List.nil_append]
      · rw [e2] at he; cases he
    · rw [if_neg he] at h2; cases h2
  rw [if_neg c1] at h
  by_cases c2 : b.getD 0 0 = 2
  · rw [if_pos c2] at h
    obtain ⟨⟨x1, j1⟩, h1, h⟩ := bind_some_iff.1 h
    obtain ⟨⟨x2, j2⟩, h2, h⟩ := bind_some_iff.1 h
    obtain ⟨⟨x3, j3⟩, h3, h⟩ := bind_some_iff.1 h
    simp only at h2 h3 h
    cases h
    obtain ⟨q1, r1, l1, _⟩ := rdU_le h1 hb
    obtain ⟨q2, r2, l2, _⟩ := rdU_le h2 hb
    obtain ⟨q3, r3, l3, _⟩ := rdU_le h3 hb
    refine ⟨.mk (c := x3) (v := 0) (by omega) zeroTxW2 (u64_of l1) (u64_of l2) (b256_of l3) u0 (by omega) b0 u0 zeroClaimW, rfl, rfl, ?_, r3, by simp, by simp⟩
    rw [← seg_zero, ← seg_app (i := 0) (j := 1) (k := j) (by omega) (by omega), ← seg_app (i := 1) (j := j1) (k := j) (by omega) (by omega), ← seg_app (i := j1) (j := j2) (k := j) (by omega) (by omega), ← seg_one c2 (by omega)]
    simp only [seg, ← enc_rdU hb h1, ← enc_rdU hb h2, ← enc_rdU hb h3, encB, encRep, val4_lim, Int.toNat_natCast, Int.reduceEq, if_true, if_false, List.cons_append, List.nil_append]
  rw [if_neg c2] at h
  by_cases c3 : b.getD 0 0 = 3
  · rw [if_pos c3] at h
    obtain ⟨⟨x1, j1⟩, h1, h⟩ := bind_some_iff.1 h
    simp only at h
    cases h
    obtain ⟨q1, r1, l1, _⟩ := rdU_le h1 hb
    refine ⟨.mk (c := 0) (v := 0) (by omega) zeroTxW2 u0 u0 b0 (u64_of l1) (by omega) b0 u0 zeroClaimW, rfl, rfl, ?_, r1, by simp, by simp⟩
    rw [← seg_zero, ← seg_app (i := 0) (j := 1) (k := j) (by omega) (by omega), ← seg_one c3 (by omega)]
    simp only [seg, ← enc_rdU hb h1, encB, Int.toNat_natCast, Int.reduceEq, if_true, if_false, List.cons_append, List.nil_append]
  rw [if_neg c3] at h
  by_cases c4 : b.getD 0 0 = 4
  · rw [if_pos c4] at h
    obtain ⟨⟨x1, j1⟩, h1, h⟩ := bind_some_iff.1 h
    obtain ⟨⟨x2, j2⟩, h2, h⟩ := bind_some_iff.1 h
    simp only at h2 h
    by_cases hx : x1 ≤ 9223372036854775807
    · rw [if_pos hx] at h
      cases h
      obtain ⟨q1, r1, l1, _⟩ := rdU_le h1 hb
      obtain ⟨q2, r2, l2, _⟩ := rdU_le h2 hb
      refine ⟨.mk (c := 0) (v := x2) (by omega) zeroTxW2 u0 u0 b0 u0 (by omega) (b256_of l2) u0 zeroClaimW, rfl, ?_, ?_, r2, by simp, by simp⟩
      · simp only [badS, Int.reduceLT, Int.reduceEq, false_and, true_and, or_self, if_false, if_neg (show ¬ (x1 : Int) < 0 by omega)]
      · rw [← seg_zero, ← seg_app (i := 0) (j := 1) (k := j) (by omega) (by omega), ← seg_app (i := 1) (j := j1) (k := j) (by omega) (by omega), ← seg_one c4 (by omega)]
        simp only [seg, ← enc_rdU hb h1, ← enc_rdU hb h2, encB, val4_lim, Int.toNat_natCast, Int.reduceEq, if_true, if_false, List.cons_append, List.nil_append]
    · rw [if_neg hx] at h; cases h
  rw [if_neg c4] at h
  by_cases c5 : b.getD 0 0 = 5
  · rw [if_pos c5] at h
    obtain ⟨⟨x1, j1⟩, h1, h⟩ := bind_some_iff.1 h
    simp only at h
    cases h
    obtain ⟨q1, r1, l1, _⟩ := rdU_le h1 hb
    refine ⟨.mk (c := 0) (v := 0) (by omega) zeroTxW2 u0 u0 b0 u0 (by omega) b0 (u64_of l1) zeroClaimW, rfl, rfl, ?_, r1, by simp, by simp⟩
    rw [← seg_zero, ← seg_app (i := 0) (j := 1) (k := j) (by omega) (by omega), ← seg_one c5 (by omega)]
    simp only [seg, ← enc_rdU hb h1, encB, Int.toNat_natCast, Int.reduceEq, if_true, if_false, List.cons_append, List.nil_append]
  rw [if_neg c5] at h
  by_cases c6 : b.getD 0 0 = 6
  · rw [if_pos c6] at h
    obtain ⟨⟨x1, j1⟩, h1, h⟩ := bind_some_iff.1 h
    obtain ⟨⟨x2, j2⟩, h2, h⟩ := bind_some_iff.1 h
    simp only at h2 h
    cases h
    obtain ⟨q1, r1, l1, _⟩ := rdU_le h1 hb
    obtain ⟨q2, r2, l2, _⟩ := rdU_le h2 hb
    refine ⟨.mk (c := 0) (v := x2) (by omega) zeroTxW2 u0 u0 b0 u0 (by omega) (b256_of l2) (u64_of l1) zeroClaimW, rfl, rfl, ?_, r2, by simp, by simp⟩
    rw [← seg_zero, ← seg_app (i := 0) (j := 1) (k := j) (by omega) (by omega), ← seg_app (i := 1) (j := j1) (k := j) (by omega) (by omega), ← seg_one c6 (by omega)]
    simp only [seg, ← enc_rdU hb h1, ← enc_rdU hb h2, encB, val4_lim, Int.toNat_natCast, Int.reduceEq, if_true, if_false, List.cons_append, List.nil_append]
  rw [if_neg c6] at h
  by_cases c7 : b.getD 0 0 = 7
  · rw [if_pos c7] at h
    obtain ⟨⟨q, j0⟩, h0, h⟩ := bind_some_iff.1 h
    simp only at h
    cases h
    unfold rdClaim at h0
    obtain ⟨⟨x1, j1⟩, h1, h⟩ := bind_some_iff.1 h0
    obtain ⟨⟨x2, j2⟩, h2, h⟩ := bind_some_iff.1 h
    obtain ⟨⟨x3, j3⟩, h3, h⟩ := bind_some_iff.1 h
    obtain ⟨⟨x4, j4⟩, h4, h⟩ := bind_some_iff.1 h
    obtain ⟨⟨n, j5⟩, h5, h⟩ := bind_some_iff.1 h
    simp only at h2 h3 h4 h5 h
    by_cases hc : n ≤ 64 ∧ j5 + 32 * n ≤ b.length
    · rw [if_pos hc] at h
      cases h
      obtain ⟨q1, r1, l1, _⟩ := rdU_le h1 hb
      obtain ⟨q2, r2, l2, _⟩ := rdU_le h2 hb
      obtain ⟨q3, r3, l3, _⟩ := rdU_le h3 hb
      obtain ⟨q4, r4, l4, _⟩ := rdU_le h4 hb
      obtain ⟨q5, r5, l5, _⟩ := rdU_le h5 hb
      refine ⟨.mk (c := 0) (v := 0) (by omega) zeroTxW2 u0 u0 b0 u0 (by omega) b0 u0 (.mk (u64_of l1) (u64_of l2) (u64_of l3) (b256_of l4) (chunks_ok hb hc.2)), rfl, ?_, ?_, hc.2, by simp only [len_chunks]; omega, by simp⟩
      · simp only [badS, Int.reduceLT, Int.reduceEq, false_and, true_and, or_self, if_false, len_chunks, if_neg (show ¬ 64 < n by omega)]
      · rw [← seg_zero, ← seg_app (i := 0) (j := 1) (by omega) (by omega), ← seg_app (i := 1) (j := j1) (by omega) (by omega), ← seg_app (i := j1) (j := j2) (by omega) (by omega), ← seg_app (i := j2) (j := j3) (by omega) (by omega),
          ← seg_app (i := j3) (j := j4) (by omega) (by omega), ← seg_app (i := j4) (j := j5) (by omega) (by omega), ← seg_one c7 (by omega)]
        have e6 : (chunks b j5 n).flatten = seg b j5 (j5 + 32 * n) := by rw [chunks_flat b j5 n hc.2, seg, Nat.add_sub_cancel_left]
        rw [← e6]
        simp only [seg, ← enc_rdU hb h1, ← enc_rdU hb h2, ← enc_rdU hb h3, ← enc_rdU hb h4, ← enc_rdU hb h5, encB, encClaim, val4_lim, len_chunks, Int.toNat_natCast, Int.reduceEq, if_true, if_false, List.cons_append, List.nil_append]
    · rw [if_neg hc] at h; cases h
  rw [if_neg c7] at h
  cases h

end Go.Pon
/-
  The laws of chapter 26.
-/
set_option autoImplicit false
set_option linter.unusedVariables false
set_option linter.unusedSimpArgs false
namespace Go.Pon
open Go

theorem bytes_flat {l : List (List Int)} (h : AllH l) : Bytes l.flatten := fun x hx => by
  obtain ⟨y, hy, hxy⟩ := List.mem_flatten.1 hx
  exact (h y hy).2 x hxy

/-- An encoding is short and of bytes. -/
theorem encS_facts {s : StepT} (h : StepW s) (h0 : badS s = 0) : (s.1 :: encB s).length ≤ 8000 ∧ Bytes (s.1 :: encB s) ∧ (1 ≤ s.1 ∧ s.1 ≤ 7) := by
  obtain ⟨hk, ht, ha, hb, hc, hs, hy, hv, hd, hq⟩ := h
  rename_i k t a b c s y v d q
  unfold badS at h0
  simp only at h0
  unfold U64 at ha hb hs hd
  by_cases c0 : k < 1 ∨ 7 < k
  · rw [if_pos c0] at h0; cases h0
  rw [if_neg c0] at h0
  have := @bylen_64 a.toNat (by omega); have := @bylen_64 b.toNat (by omega); have := @bylen_64 s.toNat (by omega); have := @bylen_64 d.toNat (by omega); have := bylen_256 hc; have := bylen_256 hv
  have cons : ∀ {k : Int} {l : List Int}, (1 ≤ k ∧ k ≤ 7) → l.length ≤ 7999 → Bytes l → (k :: l).length ≤ 8000 ∧ Bytes (k :: l) ∧ (1 ≤ k ∧ k ≤ 7) := fun hk hl hb =>
    ⟨by rw [List.length_cons]; omega, fun x hx => by
      rcases List.mem_cons.1 hx with rfl | hx
      · omega
      · exact hb x hx, hk⟩
  refine cons ⟨by simp only; omega, by simp only; omega⟩ ?_ ?_
  all_goals rcases kind7 c0 with rfl | rfl | rfl | rfl | rfl | rfl | rfl
  all_goals simp only [encB, encRep, encClaim, Int.reduceEq, if_true, if_false, val4_lim]
  · simp only [Int.reduceLT, Int.reduceEq, false_and, true_and, if_false] at h0
    have hd4 : t.2.2.2.2.2.2.2.2.1.length ≤ 4096 := by
      by_cases h4 : 4096 < t.2.2.2.2.2.2.2.2.1.length
      · rw [if_pos h4] at h0; cases h0
      · omega
    have h1 := len_encTx2 ht
    have := @bylen_64 (encTx t).length (by omega)
    simp only [List.length_append, len_enc]
    omega
  · simp only [List.length_append, len_enc]; omega
  · simp only [List.length_append, len_enc]; omega
  · have := @bylen_64 y.toNat (by omega)
    simp only [List.length_append, len_enc]; omega
  · simp only [List.length_append, len_enc]; omega
  · simp only [List.length_append, len_enc]; omega
  · simp only [Int.reduceLT, Int.reduceEq, false_and, true_and, if_false] at h0
    obtain ⟨h1, h2, h3, hv4, hl⟩ := hq
    rename_i x1 x2 x3 x4 l
    simp only at h0 ⊢
    unfold U64 at h1 h2 h3
    have hl4 : l.length ≤ 64 := by
      by_cases h4 : 64 < l.length
      · rw [if_pos h4] at h0; cases h0
      · omega
    have := @bylen_64 x1.toNat (by omega); have := @bylen_64 x2.toNat (by omega); have := @bylen_64 x3.toNat (by omega); have := bylen_256 hv4; have := @bylen_64 l.length (by omega)
    have := flat_len hl
    simp only [List.length_append, len_enc, val4_lim]; omega
  · simp only [Int.reduceLT, Int.reduceEq, false_and, true_and, if_false] at h0
    have hd4 : t.2.2.2.2.2.2.2.2.1.length ≤ 4096 := by
      by_cases h4 : 4096 < t.2.2.2.2.2.2.2.2.1.length
      · rw [if_pos h4] at h0; cases h0
      · omega
    have h1 := len_encTx2 ht
    have := @bylen_64 (encTx t).length (by omega)
    exact (bytes_enc (by omega)).append (bytes_encTx ht (by omega))
  · exact (bytes_enc (by omega)).append ((bytes_enc (by omega)).append (bytes_enc (by omega)))
  · exact bytes_enc (by omega)
  · have := @bylen_64 y.toNat (by omega)
    exact (bytes_enc (by omega)).append (bytes_enc (by omega))
  · exact bytes_enc (by omega)
  · exact (bytes_enc (by omega)).append (bytes_enc (by omega))
  · obtain ⟨h1, h2, h3, hv4, hl⟩ := hq
    rename_i x1 x2 x3 x4 l
    simp only [Int.reduceLT, Int.reduceEq, false_and, true_and, if_false] at h0
    have hl4 : l.length ≤ 64 := by
      by_cases h4 : 64 < l.length
      · rw [if_pos h4] at h0; cases h0
      · omega
    simp only [val4_lim]
    unfold U64 at h1 h2 h3
    have := @bylen_64 x1.toNat (by omega); have := @bylen_64 x2.toNat (by omega); have := @bylen_64 x3.toNat (by omega); have := bylen_256 hv4; have := @bylen_64 l.length (by omega)
    exact (bytes_enc (by omega)).append ((bytes_enc (by omega)).append ((bytes_enc (by omega)).append ((bytes_enc (by omega)).append ((bytes_enc (by omega)).append (bytes_flat hl)))))

theorem canon_enc {s : StepT} (hk : 1 ≤ s.1 ∧ s.1 ≤ 7) : (canon s).1 = s.1 ∧ encB (canon s) = encB s := by
  obtain ⟨k, t, r, a, b, v, d, q, _⟩ := s
  simp only at hk
  rcases kind7 (show ¬ (k < 1 ∨ 7 < k) by omega) with rfl | rfl | rfl | rfl | rfl | rfl | rfl
  all_goals simp only [canon, encB, Int.reduceEq, if_true, if_false, and_self]

theorem decS_enc {s : StepT} (h : StepW s) (h0 : badS s = 0) : decS (s.1 :: encB s) = (canon s, ((0 : Int), ())) := by
  obtain ⟨h1, h2, _⟩ := encS_facts h h0
  have := raw_encS h h0 []
  rw [List.append_nil] at this
  unfold decS
  rw [if_neg (by omega), this]
  unfold finS
  simp only
  rw [if_pos trivial]

theorem decS_longer {s : StepT} (h : StepW s) (h0 : badS s = 0) {c : Int} (hc : 0 ≤ c ∧ c ≤ 255) : decS ((s.1 :: encB s) ++ [c]) = (zStep, ((3 : Int), ())) := by
  obtain ⟨h1, h2, _⟩ := encS_facts h h0
  unfold decS
  rw [if_neg (by rw [List.length_append, List.length_singleton]; omega), raw_encS h h0 [c]]
  unfold finS
  simp only
  rw [if_neg (by rw [List.length_append, List.length_singleton]; omega)]

theorem decS_shorter {s : StepT} (h : StepW s) (h0 : badS s = 0) {n : Nat} (hn : n < (s.1 :: encB s).length) : decS ((s.1 :: encB s).take n) = (zStep, ((3 : Int), ())) := by
  obtain ⟨h1, h2, _⟩ := encS_facts h h0
  have hlen : ((s.1 :: encB s).take n).length = n := by rw [List.length_take]; omega
  unfold decS
  rw [if_neg (by rw [hlen]; omega)]
  unfold finS
  cases hr : rawS ((s.1 :: encB s).take n) with
  | none => rfl
  | some p =>
    obtain ⟨s', j⟩ := p
    simp only
    by_cases hj : j = ((s.1 :: encB s).take n).length
    · exfalso
      obtain ⟨w, w1, w2, w3, w4, _, _⟩ := enc_rawS (h2.take n) (by rw [hlen]; omega) hr
      rw [hj, List.take_length] at w3
      have e1 := raw_encS w w2 ((s.1 :: encB s).drop n)
      rw [w3, List.take_append_drop] at e1
      have e2 := raw_encS h h0 []
      rw [List.append_nil, e1] at e2
      have := (Prod.mk.inj (Option.some.inj e2)).2
      rw [hlen] at this
      omega
    · rw [if_neg hj]

/-- Decoding gives a canonical step that encodes to the same, or nothing. -/
theorem decS_cases {b : List Int} (hb : Bytes b) (hl : b.length ≤ 8192) : (∃ s, StepW s ∧ canon s = s ∧ badS s = 0 ∧ s.1 :: encB s = b ∧ decS b = (s, ((0 : Int), ())) ∧ s.2.2.2.2.2.2.2.1.2.2.2.2.1.length ≤ 64 ∧ s.2.1.2.2.2.2.2.2.2.2.1.length ≤ 4096) ∨ decS b = (zStep, ((3 : Int), ())) := by
  unfold decS
  rw [if_neg (by omega)]
  unfold finS
  cases hr : rawS b with
  | none => exact .inr rfl
  | some p =>
    obtain ⟨s, j⟩ := p
    obtain ⟨w, w1, w2, w3, w4, w5, w6⟩ := enc_rawS hb (by omega) hr
    simp only
    by_cases hj : j = b.length
    · rw [if_pos hj]
      rw [hj, List.take_length] at w3
      exact .inl ⟨s, w, w1, w2, w3, rfl, w5, w6⟩
    · rw [if_neg hj]; exact .inr rfl

theorem encS_ok {s : StepT} (h0 : badS s = 0) : encS s = (s.1 :: encB s, ((0 : Int), ())) := by unfold encS; rw [if_pos h0]
theorem encS_bad {s : StepT} (h0 : ¬ badS s = 0) : encS s = ([], (badS s, ())) := by unfold encS; rw [if_neg h0]

theorem decS_proof (b : List Int) (hb : Bytes b) : (decS b).1.2.2.2.2.2.2.2.1.2.2.2.2.1.length ≤ 64 := by
  by_cases hl : b.length ≤ 8192
  · rcases decS_cases hb hl with ⟨s, _, _, _, _, e, h, _⟩ | e
    · rw [e]; exact h
    · rw [e]; simp
  · unfold decS; rw [if_pos (by omega)]; simp

/-! ### The laws' own functions -/

def tick7 : StepT := (3, (zTx, (zRep, (7, ((0 : Int), ([(0 : Int), (0 : Int), (0 : Int), (0 : Int)], ((0 : Int), (zClaim, ()))))))))

theorem awake26 : sol_law26_awake () = some ((true, ()), ()) := by
  have h1 : sol_step_Encode (tick7, ()) = some (encS tick7, ((), ())) := stepEncode_eq (.mk (c := 0) (v := 0) (by omega) zeroTxW2 u0 u0 b0 (by unfold U64; omega) (by omega) b0 u0 zeroClaimW) (by simp [tick7])
  have h2 : sol_step_Decode ([(3 : Int), (1 : Int), (7 : Int), (0 : Int)], ()) = some (decS [3, 1, 7, 0], ((), ())) := stepDecode_eq (by
    intro x hx
    simp only [List.mem_cons, List.not_mem_nil, or_false] at hx
    rcases hx with rfl | rfl | rfl | rfl <;> omega)
  have e1 : encS tick7 = ([3, 1, 7], ((0 : Int), ())) := by kernel_rfl
  have e2 : decS [3, 1, 7, 0] = (zStep, ((3 : Int), ())) := by kernel_rfl
  unfold sol_law26_awake T_law26_awake
  rw [show ((3 : Int), (zTx, (zRep, ((7 : Int), ((0 : Int), ([(0 : Int), (0 : Int), (0 : Int), (0 : Int)], ((0 : Int), (zClaim, ())))))))) = tick7 from rfl, h1, e1]
  simp only [bind_some']
  rw [h2, e2]
  simp only [bind_some']
  simp only [decide_true, brR_true]
  rw [equalBytes_eq]
  rfl

theorem tooLarge_eq (s : StepT) : sol_law26_tooLarge (s, ()) = some ((decide (600 < s.2.1.2.2.2.2.2.2.2.2.1.length ∨ 70 < s.2.2.2.2.2.2.2.1.2.2.2.2.1.length), ()), ((), ())) := by
  unfold sol_law26_tooLarge T_law26_tooLarge
  simp only [brR_dec]
  by_cases h : ((s.2.1.2.2.2.2.2.2.2.2.1.length : Nat) : Int) > 600
  · rw [if_pos h, decide_eq_true (by omega)]
  · rw [if_neg h]
    by_cases h2 : ((s.2.2.2.2.2.2.2.1.2.2.2.2.1.length : Nat) : Int) > 70
    · rw [decide_eq_true h2, decide_eq_true (by omega)]
    · rw [decide_eq_false h2, decide_eq_false (by omega)]

theorem modR26 {x : Int} {n : Nat} (h0 : -9223372036854775808 ≤ x ∧ x ≤ 9223372036854775807) (h2 : 1 ≤ n) (h3 : n ≤ 9223372036854775807) :
    ∃ r : Nat, r < n ∧ sol_law0_Mod (x, (((n : Nat) : Int), ())) = some ((((r : Nat) : Int), ()), ((), ((), ()))) := by
  rw [mod_eq h0.1 h0.2 (by omega) (by omega)]
  have hm0 : 0 ≤ (x % 18446744073709551616) % ((n : Nat) : Int) := Int.emod_nonneg _ (by omega)
  have hm1 : (x % 18446744073709551616) % ((n : Nat) : Int) < ((n : Nat) : Int) := Int.emod_lt_of_pos _ (by omega)
  obtain ⟨r, hr⟩ := Int.eq_ofNat_of_zero_le hm0
  exact ⟨r, by omega, by rw [hr]⟩

/-- A step with another kind and another key. -/
theorem normalize_eq {s : StepT} (h : StepW s) (how : Nat) : ∃ k y, sol_law26_normalize (s, (((how : Nat) : Int), ())) = some (((k, (s.2.1, (s.2.2.1, (s.2.2.2.1, (y, s.2.2.2.2.2))))), ()), ((), ((), ()))) ∧ StepW (k, (s.2.1, (s.2.2.1, (s.2.2.2.1, (y, s.2.2.2.2.2))))) := by
  obtain ⟨hk, ht, ha, hb, hc, hs, hy, hv, hd, hq⟩ := h
  rename_i k t a b c s y v d q
  obtain ⟨r1, l1, e1⟩ := modR26 hk (n := 9) (by omega) (by omega)
  obtain ⟨r2, l2, e2⟩ := modR26 hy (n := 14) (by omega) (by omega)
  have e1 : sol_law0_Mod (k, ((9 : Int), ())) = some ((((r1 : Nat) : Int), ()), ((), ((), ()))) := e1
  have e2 : sol_law0_Mod (y, ((14 : Int), ())) = some ((((r2 : Nat) : Int), ()), ((), ((), ()))) := e2
  unfold sol_law26_normalize T_law26_normalize
  simp only [brR_dec]
  rw [e1, e2]
  simp only [bind_some']
  by_cases h5 : Int.tmod ((how : Nat) : Int) 5 > 0
  · rw [if_pos h5]
    by_cases h3 : Int.tmod ((how : Nat) : Int) 3 > 0
    · rw [if_pos h3]
      exact ⟨_, _, rfl, .mk (by omega) ht ha hb hc hs (by omega) hv hd hq⟩
    · rw [if_neg h3]
      exact ⟨_, _, rfl, .mk (by omega) ht ha hb hc hs (by omega) hv hd hq⟩
  · rw [if_neg h5]
    by_cases h3 : Int.tmod ((how : Nat) : Int) 3 > 0
    · rw [if_pos h3]
      exact ⟨_, _, rfl, .mk (by omega) ht ha hb hc hs (by omega) hv hd hq⟩
    · rw [if_neg h3]
      exact ⟨_, _, rfl, .mk (by omega) ht ha hb hc hs (by omega) hv hd hq⟩

/-! ### Encoding -/

theorem law_StepEncode_at (s : StepT) (how : Int) (hs : StepW s) (hh : -9223372036854775808 ≤ how ∧ how ≤ 9223372036854775807) : ∃ y, sol_law26_StepEncode (s, (how, ())) = some y ∧ y.1.1 = true := by
  unfold sol_law26_StepEncode T_law26_StepEncode
  rw [tooLarge_eq, awake26]
  simp only [bind_some', brR_dec]
  by_cases ht : 600 < s.2.1.2.2.2.2.2.2.2.2.1.length ∨ 70 < s.2.2.2.2.2.2.2.1.2.2.2.2.1.length
  · rw [if_pos ht]; exact ⟨_, rfl, rfl⟩
  rw [if_neg ht]
  obtain ⟨r, hr, e1⟩ := modR26 hh (n := 15) (by omega) (by omega)
  rw [show ((15 : Int), ()) = ((((15 : Nat) : Int)), ()) from rfl, e1]
  simp only [bind_some']
  obtain ⟨k, y, e2, hn⟩ := normalize_eq hs r
  rw [e2]
  simp only [bind_some']
  have hall : ∀ x ∈ [s, (k, (s.2.1, (s.2.2.1, (s.2.2.2.1, (y, s.2.2.2.2.2)))))], StepW x ∧ x.2.1.2.2.2.2.2.2.2.2.1.length ≤ 600 ∧ x.2.2.2.2.2.2.2.1.2.2.2.2.1.length ≤ 70 := by
    intro x hx
    simp only [List.mem_cons, List.not_mem_nil, or_false] at hx
    rcases hx with rfl | rfl
    · exact ⟨hs, by omega, by omega⟩
    · exact ⟨hn, by simp only; omega, by simp only; omega⟩
  generalize hl : [s, (k, (s.2.1, (s.2.2.1, (s.2.2.2.1, (y, s.2.2.2.2.2)))))] = l at hall
  have h2 : l.length = 2 := by rw [← hl]; rfl
  clear hl
  refine ⟨_, bigLoop_rule (I := fun x => ∃ i : Nat, i ≤ 2 ∧ x = (l, (((i : Nat) : Int), ()))) (m := fun x => ((2 : Int) - x.2.1).toNat) (g := fun _ => some ((true, ()), ((), ((), ())))) ?_ ⟨0, by omega, rfl⟩ (by rw [bigN_eq]; simp only; omega), rfl⟩
  rintro x again ⟨i, hi, rfl⟩ hag
  simp only at hag ⊢
  unfold T_law26_StepEncode_loop0
  simp only [brR_dec, brR_inR, brR_not]
  by_cases h1 : ((i : Nat) : Int) < 2
  · rw [if_pos h1, if_pos (by omega), Int.toNat_natCast]
    have g := hall _ (getD_mem (d := zStep) (show i < l.length by omega))
    have hnx := hag (l, (((i : Nat) : Int) + 1, ())) ⟨i + 1, by omega, by rw [Int.natCast_add]; rfl⟩ (by simp only; omega)
    rw [w_i64 (by omega) (by omega), hnx]
    clear hag hnx
    generalize List.getD l i zStep = x at g ⊢
    obtain ⟨g1, g2, g3⟩ := g
    rw [stepEncode_eq g1 (by omega)]; simp only [bind_some']
    rw [rEncodeS_eq g1 (by omega)]; simp only [bind_some']
    rw [equalBytes_eq, decide_eq_true rfl]; simp only [bind_some', brR_true, if_true]
    rw [stepCanonical_eq (by omega) (by omega)]; simp only [bind_some']
    rw [rCanonical_eq (by omega) (by omega)]; simp only [bind_some']
    rw [rEqualS_eq _ _ (by
      unfold canon
      repeat' split
      all_goals first | (simp; done) | (simp only; omega)), eqSt_iff.2 rfl]
    simp only [bind_some', brR_true]
  · rw [if_neg h1, awake26]
    rfl

/-! ### Decoding -/

theorem law26_dec_loop (l : List (List Int)) (h2 : l.length = 2) (hall : ∀ x ∈ l, Bytes x) :
    bigLoop _ _ (fun again x => T_law26_StepDecode_loop0 sol_step_Decode sol_ref26_Decode sol_ref26_Equal sol_law26_awake again x.1 x.2.1) (l, ((0 : Int), ())) = some ((true, ()), ((), ((), ((), ((), ((), ())))))) := by
  refine bigLoop_rule (I := fun x => ∃ i : Nat, i ≤ 2 ∧ x = (l, (((i : Nat) : Int), ()))) (m := fun x => ((2 : Int) - x.2.1).toNat) (g := fun _ => some ((true, ()), ((), ((), ((), ((), ((), ()))))))) ?_ ⟨0, by omega, rfl⟩ (by rw [bigN_eq]; simp only; omega)
  rintro x again ⟨i, hi, rfl⟩ hag
  simp only at hag ⊢
  unfold T_law26_StepDecode_loop0
  simp only [brR_dec, brR_inR, brR_not]
  by_cases h1 : ((i : Nat) : Int) < 2
  · rw [if_pos h1, if_pos (by omega), Int.toNat_natCast]
    have g1 := hall _ (getD_mem (d := []) (show i < l.length by omega))
    rw [stepDecode_eq g1]; simp only [bind_some']
    rw [rDecodeS_eq g1]; simp only [bind_some']
    have := decS_proof _ g1
    rw [rEqualS_eq _ _ (by omega), eqSt_iff.2 rfl]
    simp only [bind_some', brR_true, if_true]
    rw [w_i64 (by omega) (by omega)]
    exact hag _ ⟨i + 1, by omega, by rw [Int.natCast_add]; rfl⟩ (by simp only; omega)
  · rw [if_neg h1, awake26]
    rfl

theorem bytes_set26 {b : List Int} (hb : Bytes b) {i : Nat} {c : Int} (hc : 0 ≤ c ∧ c ≤ 255) : Bytes (b.set i c) := fun x hx => by
  rcases List.mem_or_eq_of_mem_set hx with h | h
  · exact hb x h
  · rw [h]; exact hc

theorem encS_any {s : StepT} (h : StepW s) : Bytes (encS s).1 ∧ (encS s).1.length ≤ 8000 := by
  by_cases h0 : badS s = 0
  · rw [encS_ok h0]
    obtain ⟨h1, h2, _⟩ := encS_facts h h0
    exact ⟨h2, h1⟩
  · rw [encS_bad h0]
    exact ⟨fun x hx => (by cases hx), by simp⟩

theorem law_StepDecode_at (b : List Int) (s : StepT) (how at_ c : Int) (hb : Bytes b) (hs : StepW s) (hh : -9223372036854775808 ≤ how ∧ how ≤ 9223372036854775807) (hat : -9223372036854775808 ≤ at_ ∧ at_ ≤ 9223372036854775807) (hc : 0 ≤ c ∧ c ≤ 255) :
    ∃ y, sol_law26_StepDecode (b, (s, (how, (at_, (c, ()))))) = some y ∧ y.1.1 = true := by
  refine ⟨((true, ()), ((), ((), ((), ((), ((), ())))))), ?_, rfl⟩
  unfold sol_law26_StepDecode T_law26_StepDecode
  simp only [letR_eq]
  rw [tooLarge_eq, awake26]
  obtain ⟨r, hr, e1⟩ := modR26 hh (n := 15) (by omega) (by omega)
  obtain ⟨k, y, e2, hn⟩ := normalize_eq hs r
  rw [show ((15 : Int), ()) = ((((15 : Nat) : Int)), ()) from rfl, e1]
  simp only [bind_some']
  rw [e2]
  simp only [bind_some', brR_dec]
  have hX : ∀ Y : Option ((Bool × Unit) × (Unit × (Unit × (Unit × (Unit × (Unit × Unit)))))), Y = some ((true, ()), ((), ((), ((), ((), ((), ())))))) → (if ((b.length : Nat) : Int) > 800 then (if ((b.length : Nat) : Int) ≤ 8192 then some ((true, ()), ((), ((), ((), ((), ((), ())))))) else Y) else Y) = some ((true, ()), ((), ((), ((), ((), ((), ())))))) := fun Y hY => by
    rw [hY, ite_self, ite_self]
  refine hX _ ?_
  by_cases ht : 600 < s.2.1.2.2.2.2.2.2.2.2.1.length ∨ 70 < s.2.2.2.2.2.2.2.1.2.2.2.2.1.length
  · rw [if_pos ht]
  rw [if_neg ht, rEncodeS_eq hn (by simp only; omega)]
  obtain ⟨hE1, hE2⟩ := encS_any hn
  simp only [bind_some']
  generalize (encS (k, (s.2.1, (s.2.2.1, (s.2.2.2.1, (y, s.2.2.2.2.2)))))).1 = E at hE1 hE2 ⊢
  have fin : ∀ x, Bytes x → bigLoop _ _ (fun again x => T_law26_StepDecode_loop0 sol_step_Decode sol_ref26_Decode sol_ref26_Equal sol_law26_awake again x.1 x.2.1) ([b, x], ((0 : Int), ())) = some ((true, ()), ((), ((), ((), ((), ((), ())))))) := fun x hx =>
    law26_dec_loop [b, x] rfl fun z hz => by
      simp only [List.mem_cons, List.not_mem_nil, or_false] at hz
      rcases hz with rfl | rfl
      · exact hb
      · exact hx
  rw [fin E hE1]
  by_cases h0 : ((E.length : Nat) : Int) > 0
  · rw [if_pos h0]
    obtain ⟨a, ha, q1⟩ := modR26 hat (n := E.length) (by omega) (by omega)
    obtain ⟨m, hm, q2⟩ := modR26 hh (n := 4) (by omega) (by omega)
    rw [q1]
    simp only [bind_some']
    rw [show ((4 : Int), ()) = ((((4 : Nat) : Int)), ()) from rfl, q2]
    simp only [bind_some', Int.toNat_natCast, List.drop_zero, Nat.sub_zero, append_def]
    rw [w_i64 (n := (a : Int) + 1) (by omega) (by omega), show ((a : Int) + 1).toNat = a + 1 by omega]
    by_cases k0 : ((m : Nat) : Int) = 0
    · rw [if_pos k0, brR_inR, if_pos (by omega)]
      exact fin _ (bytes_set26 hE1 hc)
    rw [if_neg k0]
    by_cases k1 : ((m : Nat) : Int) = 1
    · rw [if_pos k1, if_pos trivial]
      simp only [brR_and, brR_dec]
      rw [if_pos (by omega), if_pos (by omega), if_pos (by omega), if_pos (by omega), brR_room8 (by simp only [List.length_take, List.length_drop]; omega), brR_room8 (by simp only [List.length_append, List.length_take, List.length_drop, List.length_cons, List.length_nil]; omega)]
      exact fin _ ((hE1.take _).append (Bytes.append (fun x hx => by
        simp only [List.mem_cons, List.not_mem_nil, or_false] at hx
        rw [hx]; exact hc) ((hE1.drop _).take _)))
    rw [if_neg k1]
    by_cases k2 : ((m : Nat) : Int) = 2
    · rw [if_pos k2, if_pos trivial]
      simp only [brR_and, brR_dec]
      rw [if_pos (by omega), if_pos (by omega), if_pos (by omega), if_pos (by omega), brR_room8 (by simp only [List.length_take, List.length_drop]; omega)]
      exact fin _ ((hE1.take _).append ((hE1.drop _).take _))
    rw [if_neg k2]
  · rw [if_neg h0]

/-! ### Round trip -/

theorem law_StepRoundTrip_at (s : StepT) (how c : Int) (hs : StepW s) (hh : -9223372036854775808 ≤ how ∧ how ≤ 9223372036854775807) (hc : 0 ≤ c ∧ c ≤ 255) :
    ∃ y, sol_law26_StepRoundTrip (s, (how, (c, ()))) = some y ∧ y.1.1 = true := by
  refine ⟨((true, ()), ((), ((), ((), ())))), ?_, rfl⟩
  unfold sol_law26_StepRoundTrip T_law26_StepRoundTrip
  simp only [letR_eq]
  obtain ⟨r, hr, e1⟩ := modR26 hh (n := 15) (by omega) (by omega)
  obtain ⟨k, y, e2, hn⟩ := normalize_eq hs r
  generalize (k, (s.2.1, (s.2.2.1, (s.2.2.2.1, (y, s.2.2.2.2.2))))) = x at hn e2
  rw [show ((15 : Int), ()) = ((((15 : Nat) : Int)), ()) from rfl, e1]
  simp only [bind_some']
  rw [e2]
  simp only [bind_some']
  rw [tooLarge_eq, awake26]
  simp only [bind_some', brR_dec]
  by_cases ht : 600 < x.2.1.2.2.2.2.2.2.2.2.1.length ∨ 70 < x.2.2.2.2.2.2.2.1.2.2.2.2.1.length
  · rw [if_pos ht]
  rw [if_neg ht, stepEncode_eq hn (by omega)]
  simp only [bind_some']
  by_cases h0 : badS x = 0
  · obtain ⟨f1, f2, f3⟩ := encS_facts hn h0
    have d1 := decS_enc hn h0
    have d2 := decS_longer hn h0 hc
    have d3 := decS_shorter hn h0 (n := (x.1 :: encB x).length - 1) (by rw [List.length_cons]; omega)
    have hpos : 0 < (x.1 :: encB x).length := by rw [List.length_cons]; omega
    have f4 := (canon_enc f3).1
    rw [encS_ok h0]
    simp only
    generalize (x.1 :: encB x) = E at f1 f2 d1 d2 d3 hpos ⊢
    rw [stepDecode_eq f2, d1]
    simp only [bind_some', brR_not, brR_dec, if_true]
    rw [stepCanonical_eq (by omega) (by omega)]
    simp only [bind_some']
    rw [rEqualS_eq _ _ (by
      unfold canon
      repeat' split
      all_goals first | (simp; done) | (simp only; omega)), eqSt_iff.2 rfl]
    simp only [bind_some', brR_true, brR_and, brR_dec, Int.toNat_natCast, List.drop_zero, Nat.sub_zero, List.take_length, append_def]
    rw [if_pos f4, if_neg (by omega), if_pos (by omega), if_pos (by omega), brR_room8 (by omega)]
    rw [stepDecode_eq (f2.append (fun z hz => by rw [List.mem_singleton.1 hz]; exact hc)), d2]
    simp only [bind_some']
    rw [w_i64 (by omega) (by omega), if_pos (by omega), if_pos (by omega), show (((E.length : Nat) : Int) - 1).toNat = E.length - 1 by omega, stepDecode_eq (f2.take _), d3]
    simp only [bind_some', if_true]
  · rw [encS_bad h0]
    simp only [brR_not, brR_dec]
    rw [if_neg h0]
    simp only [List.length_nil, Int.natCast_zero, if_true]

/-! ### Canonical -/

theorem law_StepCanonical_loop (l : List (List Int)) (h2 : l.length = 2) (hall : ∀ x ∈ l, Bytes x ∧ x.length ≤ 8192) :
    bigLoop _ _ (fun again x => T_law26_StepCanonical_loop0 sol_step_Decode sol_ref26_Equal sol_step_Encode sol_law0_EqualBytes sol_step_Canonical sol_law26_awake again x.1 x.2.1) (l, ((0 : Int), ())) = some ((true, ()), ((), ((), ((), ((), ((), ())))))) := by
  refine bigLoop_rule (I := fun x => ∃ i : Nat, i ≤ 2 ∧ x = (l, (((i : Nat) : Int), ()))) (m := fun x => ((2 : Int) - x.2.1).toNat) (g := fun _ => some ((true, ()), ((), ((), ((), ((), ((), ()))))))) ?_ ⟨0, by omega, rfl⟩ (by rw [bigN_eq]; simp only; omega)
  rintro x again ⟨i, hi, rfl⟩ hag
  simp only at hag ⊢
  unfold T_law26_StepCanonical_loop0
  simp only [brR_dec, brR_inR, brR_not]
  by_cases h1 : ((i : Nat) : Int) < 2
  · rw [if_pos h1, if_pos (by omega), Int.toNat_natCast]
    obtain ⟨g1, g2⟩ := hall _ (getD_mem (d := []) (show i < l.length by omega))
    have hn := hag (l, (((i : Nat) : Int) + 1, ())) ⟨i + 1, by omega, by rw [Int.natCast_add]; rfl⟩ (by simp only; omega)
    rw [w_i64 (by omega) (by omega), hn, stepDecode_eq g1]
    clear hag
    generalize l.getD i [] = b at g1 g2 ⊢
    rcases decS_cases g1 g2 with ⟨s, w, w1, w2, w3, w4, w5, w6⟩ | e
    · rw [w4]
      simp only [bind_some', if_true]
      rw [stepEncode_eq w (by omega), encS_ok w2, w3]
      simp only [bind_some', if_true]
      rw [equalBytes_eq, decide_eq_true rfl]
      simp only [bind_some', brR_true]
      rw [stepCanonical_eq (by omega) (by omega), w1]
      simp only [bind_some']
      rw [rEqualS_eq _ _ (by omega), eqSt_iff.2 rfl]
      rfl
    · rw [e]
      simp only [bind_some', Int.reduceEq, if_false, if_true]
      rw [rEqualS_eq _ _ (by simp), eqSt_iff.2 rfl]
      rfl
  · rw [if_neg h1, awake26]
    rfl

theorem law_StepCanonical_at (b : List Int) (s : StepT) (how at_ c : Int) (hb : Bytes b) (hs : StepW s) (hh : -9223372036854775808 ≤ how ∧ how ≤ 9223372036854775807) (hat : -9223372036854775808 ≤ at_ ∧ at_ ≤ 9223372036854775807) (hc : 0 ≤ c ∧ c ≤ 255) :
    ∃ y, sol_law26_StepCanonical (b, (s, (how, (at_, (c, ()))))) = some y ∧ y.1.1 = true := by
  refine ⟨((true, ()), ((), ((), ((), ((), ((), ())))))), ?_, rfl⟩
  unfold sol_law26_StepCanonical T_law26_StepCanonical
  simp only [letR_eq]
  rw [tooLarge_eq, awake26]
  obtain ⟨r, hr, e1⟩ := modR26 hh (n := 15) (by omega) (by omega)
  obtain ⟨k, y, e2, hn⟩ := normalize_eq hs r
  rw [show ((15 : Int), ()) = ((((15 : Nat) : Int)), ()) from rfl, e1]
  simp only [bind_some']
  rw [e2]
  simp only [bind_some', brR_dec]
  by_cases hb8 : ((b.length : Nat) : Int) > 800
  · rw [if_pos hb8]
  rw [if_neg hb8]
  by_cases ht : 600 < s.2.1.2.2.2.2.2.2.2.2.1.length ∨ 70 < s.2.2.2.2.2.2.2.1.2.2.2.2.1.length
  · rw [if_pos ht]
  rw [if_neg ht]
  rw [stepEncode_eq hn (by simp only; omega)]
  obtain ⟨hE1, hE2⟩ := encS_any hn
  simp only [bind_some']
  generalize (encS (k, (s.2.1, (s.2.2.1, (s.2.2.2.1, (y, s.2.2.2.2.2)))))).1 = E at hE1 hE2 ⊢
  have fin : ∀ x, Bytes x → x.length ≤ 8192 → bigLoop _ _ (fun again x => T_law26_StepCanonical_loop0 sol_step_Decode sol_ref26_Equal sol_step_Encode sol_law0_EqualBytes sol_step_Canonical sol_law26_awake again x.1 x.2.1) ([b, x], ((0 : Int), ())) = some ((true, ()), ((), ((), ((), ((), ((), ())))))) := fun x hx hxl =>
    law_StepCanonical_loop [b, x] rfl fun z hz => by
      simp only [List.mem_cons, List.not_mem_nil, or_false] at hz
      rcases hz with rfl | rfl
      · exact ⟨hb, by omega⟩
      · exact ⟨hx, hxl⟩
  by_cases h0 : ((E.length : Nat) : Int) > 0
  · rw [if_pos h0]
    obtain ⟨a, ha, q1⟩ := modR26 hat (n := E.length) (by omega) (by omega)
    rw [q1]
    simp only [bind_some', Int.toNat_natCast]
    rw [brR_inR, if_pos (by omega)]
    exact fin _ (bytes_set26 hE1 hc) (by rw [List.length_set]; omega)
  · rw [if_neg h0]
    exact fin _ hE1 (by omega)

/-! ### Errors -/

def zeroK (k : Int) : StepT := (k, (zTx, (zRep, ((0 : Int), ((0 : Int), ([(0 : Int), (0 : Int), (0 : Int), (0 : Int)], ((0 : Int), (zClaim, ()))))))))

theorem zeroK_w {k : Int} (hk : -9223372036854775808 ≤ k ∧ k ≤ 9223372036854775807) : StepW (zeroK k) :=
  .mk (c := 0) (v := 0) hk zeroTxW2 u0 u0 b0 u0 (by omega) b0 u0 zeroClaimW

theorem zeroK_enc (k : Int) : (encS (zeroK k)).2.1 = if k < 1 ∨ 7 < k then 17 else 0 := by
  by_cases h : k < 1 ∨ 7 < k
  · have hb : badS (zeroK k) = 17 := by unfold badS zeroK; simp only; rw [if_pos h]
    rw [encS_bad (by rw [hb]; decide), hb, if_pos h]
  · have hb : badS (zeroK k) = 0 := by
      unfold badS zeroK
      simp only [if_neg h, List.length_nil]
      rw [if_neg (by omega), if_neg (by omega), if_neg (by omega)]
    rw [encS_ok hb, if_neg h]

theorem dec12 (c : Int) : decS [c, 0, 0, 0, 0, 0, 0, 0, 0, 0, 0, 0] = (zStep, ((3 : Int), ())) := by
  by_cases h : c = 1 ∨ c = 2 ∨ c = 3 ∨ c = 4 ∨ c = 5 ∨ c = 6 ∨ c = 7
  · rcases h with rfl | rfl | rfl | rfl | rfl | rfl | rfl
    all_goals kernel_rfl
  · have h1 : ¬ c = 1 := by omega
    have h2 : ¬ c = 2 := by omega
    have h3 : ¬ c = 3 := by omega
    have h4 : ¬ c = 4 := by omega
    have h5 : ¬ c = 5 := by omega
    have h6 : ¬ c = 6 := by omega
    have h7 : ¬ c = 7 := by omega
    unfold decS rawS finS
    simp only [List.getD_cons_zero, h1, h2, h3, h4, h5, h6, h7, if_false, List.length_cons, List.length_nil]
    rfl

theorem bytes_zeros (n : Nat) : Bytes (List.replicate n 0) := fun x hx => by
  rw [(List.mem_replicate.1 hx).2]; omega

theorem dec_zeros {n : Nat} (h : n ≤ 8192) : decS (List.replicate n 0) = (zStep, ((3 : Int), ())) := by
  have h0 : (List.replicate n (0 : Int)).getD 0 0 = 0 := by cases n <;> rfl
  unfold decS rawS finS
  rw [if_neg (by rw [List.length_replicate]; omega), h0]
  rfl

def proof65 : StepT := (7, (zTx, (zRep, ((0 : Int), ((0 : Int), ([(0 : Int), (0 : Int), (0 : Int), (0 : Int)], ((0 : Int), (((0 : Int), ((0 : Int), ((0 : Int), ([(0 : Int), (0 : Int), (0 : Int), (0 : Int)], ((List.replicate 65 (List.replicate 32 (0 : Int))), ()))))), ()))))))))

theorem proof65_w : StepW proof65 :=
  .mk (c := 0) (v := 0) (by omega) zeroTxW2 u0 u0 b0 u0 (by omega) b0 u0 (.mk (v := 0) u0 u0 u0 b0 fun x hx => by
    rw [(List.mem_replicate.1 hx).2]
    exact ⟨by simp, bytes_zeros 32⟩)

def keyK (y : Int) : StepT := (4, (zTx, (zRep, ((0 : Int), (y, ([(0 : Int), (0 : Int), (0 : Int), (0 : Int)], ((0 : Int), (zClaim, ()))))))))

theorem law_StepErrors_at (kind c more : Int) (hk : -9223372036854775808 ≤ kind ∧ kind ≤ 9223372036854775807) (hc : 0 ≤ c ∧ c ≤ 255) (hm : 0 ≤ more ∧ more ≤ 255) :
    ∃ y, sol_law26_StepErrors (kind, (c, (more, ()))) = some y ∧ y.1.1 = true := by
  refine ⟨((true, ()), ((), ((), ((), ())))), ?_, rfl⟩
  have e1 : sol_step_Encode (zeroK kind, ()) = some (encS (zeroK kind), ((), ())) := stepEncode_eq (zeroK_w hk) (by simp [zeroK])
  have e2 : sol_step_Decode ([c, 0, 0, 0, 0, 0, 0, 0, 0, 0, 0, 0], ()) = some ((zStep, ((3 : Int), ())), ((), ())) := by
    rw [stepDecode_eq (fun x hx => by
      simp only [List.mem_cons, List.not_mem_nil, or_false] at hx
      rcases hx with rfl | rfl | rfl | rfl | rfl | rfl | rfl | rfl | rfl | rfl | rfl | rfl <;> omega), dec12]
  have e3 : sol_step_Encode (proof65, ()) = some (([], ((6 : Int), ())), ((), ())) := by
    rw [stepEncode_eq proof65_w (by simp [proof65])]
    have hb : badS proof65 = 6 := by kernel_rfl
    rw [encS_bad (by rw [hb]; decide), hb]
  have e4 : sol_step_Encode (keyK (-1 - more), ()) = some (([], ((2 : Int), ())), ((), ())) := by
    have hw : StepW (keyK (-1 - more)) := .mk (c := 0) (v := 0) (by omega) zeroTxW2 u0 u0 b0 u0 (by omega) b0 u0 zeroClaimW
    rw [stepEncode_eq hw (by simp [keyK])]
    have hb : badS (keyK (-1 - more)) = 2 := by
      unfold badS keyK
      simp only [Int.reduceLT, or_self, if_false, true_and]
      rw [if_pos (by omega)]
    rw [encS_bad (by rw [hb]; decide), hb]
  have w1 : IntKind.wrap .i64 more = more := w_i64 (by omega) (by omega)
  have w2 : IntKind.wrap .i64 ((8193 : Int) + more) = 8193 + more := w_i64 (by omega) (by omega)
  have w3 : IntKind.wrap .i64 ((-1 : Int) - more) = -1 - more := w_i64 (by omega) (by omega)
  unfold sol_law26_StepErrors T_law26_StepErrors
  simp only [letR_eq]
  rw [awake26]
  simp only [w1, w2, w3, bind_some']
  rw [show ((kind, (zTx, (zRep, ((0 : Int), ((0 : Int), ([(0 : Int), (0 : Int), (0 : Int), (0 : Int)], ((0 : Int), (zClaim, ())))))))) : StepT) = zeroK kind from rfl, e1]
  simp only [bind_some']
  rw [e2]
  simp only [bind_some']
  rw [decide_eq_true (show (0 : Int) ≤ 8193 + more by omega), decide_eq_true (Int.le_refl (8193 + more))]
  simp only [Bool.and_self, Bool.true_and, Bool.and_true]
  rw [brR_room8 (by omega), stepDecode_eq (bytes_zeros _), stepDecode_eq (bytes_zeros _), dec_zeros (Nat.le_refl _)]
  have h6 : decS (List.replicate (8193 + more).toNat 0) = (zStep, ((6 : Int), ())) := by
    unfold decS
    rw [if_pos (by rw [List.length_replicate]; omega)]
  rw [h6]
  simp only [bind_some']
  rw [show (((7 : Int), (zTx, (zRep, ((0 : Int), ((0 : Int), ([(0 : Int), (0 : Int), (0 : Int), (0 : Int)], ((0 : Int), (((0 : Int), ((0 : Int), ((0 : Int), ([(0 : Int), (0 : Int), (0 : Int), (0 : Int)], ((List.replicate 65 (List.replicate 32 (0 : Int))), ()))))), ())))))))) : StepT) = proof65 from rfl, e3]
  simp only [bind_some']
  rw [show (((4 : Int), (zTx, (zRep, ((0 : Int), (-1 - more, ([(0 : Int), (0 : Int), (0 : Int), (0 : Int)], ((0 : Int), (zClaim, ())))))))) : StepT) = keyK (-1 - more) from rfl, e4]
  simp only [bind_some', zeroK_enc, brR_dec, brR_not, if_true]
  by_cases c1 : kind ≥ 1
  · rw [if_pos c1]
    by_cases c2 : kind ≤ 7
    · rw [if_neg (show ¬ (kind < 1 ∨ 7 < kind) by omega)]
      simp only [c2, decide_true, if_true, Bool.not_true]
      rfl
    · rw [if_pos (show kind < 1 ∨ 7 < kind by omega)]
      simp only [c2, decide_false, if_false, Bool.not_false]
      rfl
  · rw [if_neg c1, if_pos (show kind < 1 ∨ 7 < kind by omega)]
    rfl

/-! ### Injective -/

theorem canon_of_enc {s t : StepT} (hs : StepW s) (ht : StepW t) (h1 : badS s = 0) (h2 : badS t = 0) : (s.1 :: encB s = t.1 :: encB t) ↔ canon s = canon t := by
  obtain ⟨_, _, k1⟩ := encS_facts hs h1
  obtain ⟨_, _, k2⟩ := encS_facts ht h2
  constructor
  · intro h
    have e1 := raw_encS hs h1 []
    have e2 := raw_encS ht h2 []
    rw [h, e2] at e1
    exact (Prod.mk.inj (Option.some.inj e1)).1.symm
  · intro h
    obtain ⟨a1, a2⟩ := canon_enc k1
    obtain ⟨b1, b2⟩ := canon_enc k2
    rw [← a1, ← a2, ← b1, ← b2, h]

theorem canon_proof {s : StepT} (h : s.2.2.2.2.2.2.2.1.2.2.2.2.1.length ≤ 70) : (canon s).2.2.2.2.2.2.2.1.2.2.2.2.1.length ≤ 70 := by
  unfold canon
  repeat' split
  all_goals first | (simp; done) | (simp only; omega)

theorem mix_w {s t : StepT} {k y : Int} (hn : StepW (k, (s.2.1, (s.2.2.1, (s.2.2.2.1, (y, s.2.2.2.2.2)))))) (ht : StepW t) :
    StepW (k, (s.2.1, (s.2.2.1, (t.2.2.2.1, (y, (t.2.2.2.2.2.1, (t.2.2.2.2.2.2.1, (s.2.2.2.2.2.2.2.1, ())))))))) := by
  obtain ⟨k0, t0, r0, x0, y0, v0, d0, q0, _⟩ := s
  cases ht with
  | mk _ _ _ _ _ t3 _ t5 t6 _ =>
    cases hn with
    | mk n1 n2 n3 n4 n5 n6 n7 n8 n9 n10 => exact .mk n1 n2 n3 n4 n5 t3 n7 t5 t6 n10

theorem law_StepInjective_at (s t : StepT) (how : Int) (hs : StepW s) (ht : StepW t) (hh : -9223372036854775808 ≤ how ∧ how ≤ 9223372036854775807) :
    ∃ y, sol_law26_StepInjective (s, (t, (how, ()))) = some y ∧ y.1.1 = true := by
  refine ⟨((true, ()), ((), ((), ((), ())))), ?_, rfl⟩
  unfold sol_law26_StepInjective T_law26_StepInjective
  rw [tooLarge_eq, tooLarge_eq, awake26]
  simp only [bind_some', brR_dec]
  by_cases ts : 600 < s.2.1.2.2.2.2.2.2.2.2.1.length ∨ 70 < s.2.2.2.2.2.2.2.1.2.2.2.2.1.length
  · rw [if_pos ts]
  rw [if_neg ts]
  by_cases tt : 600 < t.2.1.2.2.2.2.2.2.2.2.1.length ∨ 70 < t.2.2.2.2.2.2.2.1.2.2.2.2.1.length
  · rw [if_pos tt]
  rw [if_neg tt]
  obtain ⟨r, hr, e1⟩ := modR26 hh (n := 15) (by omega) (by omega)
  rw [show ((15 : Int), ()) = ((((15 : Nat) : Int)), ()) from rfl, e1]
  simp only [bind_some']
  obtain ⟨k, y, e2, hn⟩ := normalize_eq hs r
  obtain ⟨k', y', e3, hm⟩ := normalize_eq ht r
  rw [e2]
  simp only [bind_some']
  rw [e3]
  simp only [bind_some']
  have hz := mix_w hn ht
  have hall : ∀ x ∈ [(k', (t.2.1, (t.2.2.1, (t.2.2.2.1, (y', t.2.2.2.2.2))))), (k, (s.2.1, (s.2.2.1, (t.2.2.2.1, (y, (t.2.2.2.2.2.1, (t.2.2.2.2.2.2.1, (s.2.2.2.2.2.2.2.1, ()))))))))], StepW x ∧ x.2.1.2.2.2.2.2.2.2.2.1.length ≤ 600 ∧ x.2.2.2.2.2.2.2.1.2.2.2.2.1.length ≤ 70 := by
    intro x hx
    simp only [List.mem_cons, List.not_mem_nil, or_false] at hx
    rcases hx with rfl | rfl
    · exact ⟨hm, by simp only; omega, by simp only; omega⟩
    · exact ⟨hz, by simp only; omega, by simp only; omega⟩
  have hx1 : (k, (s.2.1, (s.2.2.1, (s.2.2.2.1, (y, s.2.2.2.2.2))))).2.1.2.2.2.2.2.2.2.2.1.length ≤ 600 ∧ (k, (s.2.1, (s.2.2.1, (s.2.2.2.1, (y, s.2.2.2.2.2))))).2.2.2.2.2.2.2.1.2.2.2.2.1.length ≤ 70 := ⟨by simp only; omega, by simp only; omega⟩
  have hmain : ∀ (X : StepT) (l : List StepT), StepW X → X.2.1.2.2.2.2.2.2.2.2.1.length ≤ 600 → X.2.2.2.2.2.2.2.1.2.2.2.2.1.length ≤ 70 → l.length = 2 → (∀ x ∈ l, StepW x ∧ x.2.1.2.2.2.2.2.2.2.2.1.length ≤ 600 ∧ x.2.2.2.2.2.2.2.1.2.2.2.2.1.length ≤ 70) →
      bigLoop _ _ (fun again x => T_law26_StepInjective_loop0 sol_step_Encode sol_law0_EqualBytes sol_step_Canonical sol_ref26_Equal sol_law26_awake again x.1 x.2.1 x.2.2.1 x.2.2.2.1 x.2.2.2.2.1) (X, ((encS X).1, ((encS X).2.1, (l, ((0 : Int), ()))))) = some ((true, ()), ((), ((), ((), ())))) := by
    intro X l hX hX1 hX2 h2 hl
    refine bigLoop_rule (I := fun x => ∃ i : Nat, i ≤ 2 ∧ x = (X, ((encS X).1, ((encS X).2.1, (l, (((i : Nat) : Int), ())))))) (m := fun x => ((2 : Int) - x.2.2.2.2.1).toNat) (g := fun _ => some ((true, ()), ((), ((), ((), ()))))) ?_ ⟨0, by omega, rfl⟩ (by rw [bigN_eq]; simp only; omega)
    rintro x again ⟨i, hi, rfl⟩ hag
    simp only at hag ⊢
    unfold T_law26_StepInjective_loop0
    simp only [brR_dec, brR_inR, brR_not]
    by_cases h1 : ((i : Nat) : Int) < 2
    · rw [if_pos h1, if_pos (by omega), Int.toNat_natCast]
      have g := hl _ (getD_mem (d := zStep) (show i < l.length by omega))
      have hnx := hag (X, ((encS X).1, ((encS X).2.1, (l, (((i : Nat) : Int) + 1, ()))))) ⟨i + 1, by omega, by rw [Int.natCast_add]; rfl⟩ (by simp only; omega)
      rw [w_i64 (by omega) (by omega), show ((X.1, (X.2.1, (X.2.2.1, (X.2.2.2.1, (X.2.2.2.2.1, (X.2.2.2.2.2.1, (X.2.2.2.2.2.2.1, (X.2.2.2.2.2.2.2.1, X.2.2.2.2.2.2.2.2)))))))) : StepT) = X from rfl, hnx]
      clear hag hnx
      generalize List.getD l i zStep = W at g ⊢
      obtain ⟨g1, g2, g3⟩ := g
      rw [stepEncode_eq g1 (by omega)]
      simp only [bind_some']
      by_cases b1 : badS X = 0
      case neg => rw [encS_bad b1]; simp only; rw [if_neg b1]
      by_cases b2 : badS W = 0
      case neg => rw [encS_bad b2]; simp only; rw [if_neg b2, ite_self]
      rw [encS_ok b1, encS_ok b2]
      simp only [if_true]
      rw [equalBytes_eq]
      simp only [bind_some']
      rw [stepCanonical_eq (by omega) (by omega)]
      simp only [bind_some']
      rw [stepCanonical_eq (by omega) (by omega)]
      simp only [bind_some']
      have := canon_proof hX2
      rw [rEqualS_eq _ _ (by omega)]
      simp only [bind_some']
      have hq : decide (X.1 :: encB X = W.1 :: encB W) = eqSt (canon X) (canon W) := by
        rw [Bool.eq_iff_iff, decide_eq_true_eq, eqSt_iff]
        exact canon_of_enc hX g1 b1 b2
      rw [hq, show ∀ (t : Ty) (z : t.den), eqD t z z = true from fun t z => eqD_iff.2 rfl, brR_true]
    · rw [if_neg h1, awake26]
      rfl
  rw [stepEncode_eq hn (by simp only; omega)]
  simp only [bind_some']
  exact hmain _ _ hn hx1.1 hx1.2 rfl hall

/-! ### The given form -/

theorem claim_wf {c : ClaimT} (h : (Ty.pair (.int .u64) (.pair (.int .u64) (.pair (.int .u64) (.pair (.arr 4 (.int .u64)) (.pair (.slice (.arr 32 (.int .u8))) .unit))))).wf c) : ClaimW c := by
  obtain ⟨a, b, c, v, l, _⟩ := c
  obtain ⟨h1, h2, h3, h4, h5, _⟩ := h
  obtain ⟨n, hn, rfl⟩ := u256_wf h4
  exact .mk (inK_u64.1 h1) (inK_u64.1 h2) (inK_u64.1 h3) hn (fun x hx => h32_wf (h5.2 x hx))

abbrev stepTy : Ty := .pair (.int .i64) (.pair (.pair (.int .u64) (.pair (.int .u64) (.pair (.int .u64) (.pair (.arr 4 (.int .u64)) (.pair (.int .u64) (.pair (.arr 4 (.int .u64)) (.pair (.arr 4 (.int .u64)) (.pair (.int .u64) (.pair (.slice (.int .u8)) .unit))))))))) (.pair (.pair (.int .u64) (.pair (.int .u64) (.pair (.arr 4 (.int .u64)) .unit))) (.pair (.int .u64) (.pair (.int .i64) (.pair (.arr 4 (.int .u64)) (.pair (.int .u64) (.pair (.pair (.int .u64) (.pair (.int .u64) (.pair (.int .u64) (.pair (.arr 4 (.int .u64)) (.pair (.slice (.arr 32 (.int .u8))) .unit))))) .unit)))))))

theorem step_wf {s : StepT} (h : stepTy.wf s) : StepW s := by
  obtain ⟨k, t, ⟨a, b, c, _⟩, x, y, v, d, q, _⟩ := s
  obtain ⟨h1, h2, ⟨h3, h4, h5, _⟩, h6, h7, h8, h9, h10, _⟩ := h
  obtain ⟨n, hn, rfl⟩ := u256_wf h5
  obtain ⟨m, hm, rfl⟩ := u256_wf h8
  exact .mk (inK_i64.1 h1) (tx_wf h2) (inK_u64.1 h3) (inK_u64.1 h4) hn (inK_u64.1 h6) (inK_i64.1 h7) hm (inK_u64.1 h9) (claim_wf h10)

theorem law_StepEncode : ∀ x, wfL s_law26_StepEncode.ins x → ∃ y, sol_law26_StepEncode x = some y ∧ y.1.1 = true :=
  fun ⟨s, how, _⟩ ⟨hs, hh, _⟩ => law_StepEncode_at s how (step_wf hs) (inK_i64.1 hh)

theorem law_StepDecode : ∀ x, wfL s_law26_StepDecode.ins x → ∃ y, sol_law26_StepDecode x = some y ∧ y.1.1 = true :=
  fun ⟨b, s, how, at_, c, _⟩ ⟨hb, hs, hh, hat, hc, _⟩ => law_StepDecode_at b s how at_ c (bytes_wf hb) (step_wf hs) (inK_i64.1 hh) (inK_i64.1 hat) (inK_u8.1 hc)

theorem law_StepRoundTrip : ∀ x, wfL s_law26_StepRoundTrip.ins x → ∃ y, sol_law26_StepRoundTrip x = some y ∧ y.1.1 = true :=
  fun ⟨s, how, c, _⟩ ⟨hs, hh, hc, _⟩ => law_StepRoundTrip_at s how c (step_wf hs) (inK_i64.1 hh) (inK_u8.1 hc)

theorem law_StepCanonical : ∀ x, wfL s_law26_StepCanonical.ins x → ∃ y, sol_law26_StepCanonical x = some y ∧ y.1.1 = true :=
  fun ⟨b, s, how, at_, c, _⟩ ⟨hb, hs, hh, hat, hc, _⟩ => law_StepCanonical_at b s how at_ c (bytes_wf hb) (step_wf hs) (inK_i64.1 hh) (inK_i64.1 hat) (inK_u8.1 hc)

theorem law_StepErrors : ∀ x, wfL s_law26_StepErrors.ins x → ∃ y, sol_law26_StepErrors x = some y ∧ y.1.1 = true :=
  fun ⟨k, c, m, _⟩ ⟨hk, hc, hm, _⟩ => law_StepErrors_at k c m (inK_i64.1 hk) (inK_u8.1 hc) (inK_u8.1 hm)

theorem law_StepInjective : ∀ x, wfL s_law26_StepInjective.ins x → ∃ y, sol_law26_StepInjective x = some y ∧ y.1.1 = true :=
  fun ⟨s, t, how, _⟩ ⟨hs, ht, hh, _⟩ => law_StepInjective_at s t how (step_wf hs) (step_wf ht) (inK_i64.1 hh)

end Go.Pon
