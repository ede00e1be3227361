/-
  Part of a proof: general lemmas, merged by a program of this work.
-/
import Derived.Test.YtjnjdkefncdlpaaPEscrowClaimOnce1
set_option autoImplicit false
set_option linter.unusedVariables false
set_option linter.unusedSimpArgs false
set_option maxRecDepth 100000
namespace Go.Pon
open Go
def sp (n : Nat) : Nat := 2 ^ Nat.log2 (n - 1)
theorem sp_eq {j n : Nat} (h1 : 2 ^ j < n) (h2 : n ≤ 2 * 2 ^ j) : sp n = 2 ^ j := by
  have hp : 0 < 2 ^ j := Nat.two_pow_pos j
  have : Nat.log2 (n - 1) = j := (Nat.log2_eq_iff (by omega)).2 ⟨by omega, by rw [Nat.pow_succ]; omega⟩
  rw [sp, this]
theorem sp_facts {n : Nat} (h : 2 ≤ n) : 1 ≤ sp n ∧ sp n < n ∧ n ≤ 2 * sp n := by
  have h0 : n - 1 ≠ 0 := by omega
  have h1 := Nat.log2_self_le h0
  have h2 := @Nat.lt_log2_self (n - 1)
  rw [Nat.pow_succ] at h2
  have hp : 0 < 2 ^ Nat.log2 (n - 1) := Nat.two_pow_pos _
  unfold sp
  exact ⟨hp, by omega, by omega⟩
theorem splitPoint_eq {n : Nat} (h2 : 2 ≤ n) (h3 : n ≤ 9223372036854775807) : sol_merkle_splitPoint (((n : Nat) : Int), ()) = some ((((sp n : Nat) : Int), ()), ((), ())) := by
  unfold sol_merkle_splitPoint T_merkle_splitPoint
  refine bigLoop_rule (I := fun x => x.1 = ((n : Nat) : Int) ∧ ∃ j : Nat, x.2.1 = ((2 ^ j : Nat) : Int) ∧ 2 ^ j < n) (m := fun x => (((n : Nat) : Int) - x.2.1).toNat) (g := fun _ => some ((((sp n : Nat) : Int), ()), ((), ()))) ?_
    ⟨rfl, 0, rfl, by simp only [Nat.pow_zero]; omega⟩ (by simp only [bigN_eq]; omega)
  rintro ⟨n', k, _⟩ again ⟨e0, j, e1, e2⟩ hag
  simp only at e0 e1 hag ⊢
  subst e0 e1
  have hp : 0 < 2 ^ j := Nat.two_pow_pos j
  simp only [T_merkle_splitPoint_loop0, brR_dec]
  rw [w_i64 (by omega) (by omega)]
  by_cases hc : ((2 ^ j : Nat) : Int) < ((n : Nat) : Int) - ((2 ^ j : Nat) : Int)
  · rw [if_pos hc, w_i64 (by omega) (by omega)]
    exact hag _ ⟨rfl, j + 1, by simp only [Nat.pow_succ]; omega, by rw [Nat.pow_succ]; omega⟩ (by simp only; omega)
  · rw [if_neg hc, sp_eq e2 (by omega)]
theorem rsplitPoint_eq {n : Nat} (h2 : 2 ≤ n) (h3 : n ≤ 9223372036854775807) : sol_ref8_SplitPoint (((n : Nat) : Int), ()) = some ((((sp n : Nat) : Int), ()), ((), ())) := by
  unfold sol_ref8_SplitPoint T_ref8_SplitPoint
  refine bigLoop_rule (I := fun x => x.1 = ((n : Nat) : Int) ∧ ∃ j : Nat, x.2.1 = ((2 ^ j : Nat) : Int) ∧ 2 ^ j < n) (m := fun x => (((n : Nat) : Int) - x.2.1).toNat) (g := fun _ => some ((((sp n : Nat) : Int), ()), ((), ()))) ?_
    ⟨rfl, 0, rfl, by simp only [Nat.pow_zero]; omega⟩ (by simp only [bigN_eq]; omega)
  rintro ⟨n', k, _⟩ again ⟨e0, j, e1, e2⟩ hag
  simp only at e0 e1 hag ⊢
  subst e0 e1
  have hp : 0 < 2 ^ j := Nat.two_pow_pos j
  simp only [T_ref8_SplitPoint_loop0, brR_dec]
  rw [w_i64 (by omega) (by omega)]
  by_cases hc : ((2 ^ j : Nat) : Int) < ((n : Nat) : Int) - ((2 ^ j : Nat) : Int)
  · rw [if_pos hc, w_i64 (by omega) (by omega)]
    exact hag _ ⟨rfl, j + 1, by simp only [Nat.pow_succ]; omega, by rw [Nat.pow_succ]; omega⟩ (by simp only; omega)
  · rw [if_neg hc, sp_eq e2 (by omega)]
abbrev Z32 : List Int := List.replicate 32 0
theorem h32_zero : H32 Z32 := ⟨by simp, fun x hx => by rw [List.eq_of_mem_replicate hx]; omega⟩
def AllH (l : List (List Int)) : Prop := ∀ h ∈ l, H32 h
theorem AllH.take {l : List (List Int)} (h : AllH l) (i : Nat) : AllH (l.take i) := fun x hx => h x (List.mem_of_mem_take hx)
theorem AllH.drop {l : List (List Int)} (h : AllH l) (i : Nat) : AllH (l.drop i) := fun x hx => h x (List.mem_of_mem_drop hx)
theorem AllH.append {l m : List (List Int)} (h : AllH l) (k : AllH m) : AllH (l ++ m) := fun x hx => by
  rcases List.mem_append.1 hx with hx | hx
  · exact h x hx
  · exact k x hx
theorem AllH.at {l : List (List Int)} (h : AllH l) (i : Nat) : H32 (l.getD i Z32) := by
  rcases Nat.lt_or_ge i l.length with hi | hi
  · exact h _ (getD_mem hi)
  · rw [List.getD_eq_getElem?_getD, List.getElem?_eq_none hi]; exact h32_zero
theorem AllH.one {x : List Int} (h : H32 x) : AllH [x] := fun y hy => by simp only [List.mem_singleton] at hy; subst hy; exact h
def rootH (l : List (List Int)) : List Int :=
  if l.length = 0 then sha [] else if l.length = 1 then l.getD 0 Z32 else
    if h : 2 ≤ l.length then nodeH (rootH (l.take (sp l.length))) (rootH (l.drop (sp l.length))) else []
termination_by l.length
decreasing_by
  all_goals
    have := sp_facts h
    simp only [List.length_take, List.length_drop]
    omega
theorem rootH_zero {l : List (List Int)} (h : l.length = 0) : rootH l = sha [] := by rw [rootH, if_pos h]
theorem rootH_one {l : List (List Int)} (h : l.length = 1) : rootH l = l.getD 0 Z32 := by rw [rootH, if_neg (by omega), if_pos h]
theorem rootH_two {l : List (List Int)} (h : 2 ≤ l.length) : rootH l = nodeH (rootH (l.take (sp l.length))) (rootH (l.drop (sp l.length))) := by
  conv => lhs; rw [rootH]
  rw [if_neg (by omega), if_neg (by omega), dif_pos h]
theorem h32_root {l : List (List Int)} (h : AllH l) : H32 (rootH l) := by
  by_cases h0 : l.length = 0
  · rw [rootH_zero h0]; exact h32_sha _
  by_cases h1 : l.length = 1
  · rw [rootH_one h1]; exact h.at 0
  rw [rootH_two (by omega)]; exact h32_node _ _
theorem rrootN_eq : ∀ (f : Nat) (l : List (List Int)), l.length < f → l.length ≤ 1000000000 → AllH l → solN_ref8_RootOf f (l, ()) = some ((rootH l, ()), ((), ()))
  | 0, l, h, _, _ => by omega
  | f + 1, l, h, hl, ha => by
    unfold solN_ref8_RootOf T_ref8_RootOf
    simp only [letR_eq, brR_dec, brR_inR, brR_and]
    by_cases h0 : l.length = 0
    · rw [if_pos (by omega), rsum_eq (by intro x hx; cases hx) (by simp), rootH_zero h0]; rfl
    rw [if_neg (by omega)]
    by_cases h1 : l.length = 1
    · rw [if_pos (by omega), if_pos (by omega), rootH_one h1]
    have hs := sp_facts (n := l.length) (by omega)
    have t1 : List.take (sp l.length - 0) (List.drop 0 l) = l.take (sp l.length) := by simp
    have t2 : List.take (l.length - sp l.length) (List.drop (sp l.length) l) = l.drop (sp l.length) := List.take_of_length_le (by rw [List.length_drop]; omega)
    rw [if_neg (by omega), rsplitPoint_eq (by omega) (by omega)]
    simp only [bind_some', Int.toNat_natCast]
    rw [t1, t2, if_pos (by omega), if_pos (by omega), rrootN_eq f (l.take (sp l.length)) (by rw [List.length_take]; omega) (by rw [List.length_take]; omega) (ha.take _)]
    simp only [bind_some']
    rw [if_pos (by omega), if_pos (by omega), rrootN_eq f (l.drop (sp l.length)) (by rw [List.length_drop]; omega) (by rw [List.length_drop]; omega) (ha.drop _)]
    simp only [bind_some']
    rw [rnode_eq (h32_root (ha.take _)) (h32_root (ha.drop _)), rootH_two (l := l) (by omega)]
    rfl
theorem rrootOf_eq {l : List (List Int)} (hl : l.length ≤ 1000000000) (ha : AllH l) : sol_ref8_RootOf (l, ()) = some ((rootH l, ()), ((), ())) :=
  rrootN_eq bigF l (by rw [bigF_eq]; omega) hl ha
def proofH (l : List (List Int)) (i : Nat) : List (List Int) :=
  if h : 2 ≤ l.length then
    if i < sp l.length then proofH (l.take (sp l.length)) i ++ [rootH (l.drop (sp l.length))] else proofH (l.drop (sp l.length)) (i - sp l.length) ++ [rootH (l.take (sp l.length))]
  else []
termination_by l.length
decreasing_by
  all_goals
    have := sp_facts h
    simp only [List.length_take, List.length_drop]
    omega
theorem proofH_small {l : List (List Int)} {i : Nat} (h : l.length < 2) : proofH l i = [] := by rw [proofH, dif_neg (by omega)]
theorem proofH_left {l : List (List Int)} {i : Nat} (h : 2 ≤ l.length) (hi : i < sp l.length) : proofH l i = proofH (l.take (sp l.length)) i ++ [rootH (l.drop (sp l.length))] := by
  conv => lhs; rw [proofH]
  rw [dif_pos h, if_pos hi]
theorem proofH_right {l : List (List Int)} {i : Nat} (h : 2 ≤ l.length) (hi : ¬ i < sp l.length) : proofH l i = proofH (l.drop (sp l.length)) (i - sp l.length) ++ [rootH (l.take (sp l.length))] := by
  conv => lhs; rw [proofH]
  rw [dif_pos h, if_neg hi]
theorem proofH_facts : ∀ (n : Nat) (l : List (List Int)) (i : Nat), l.length ≤ n → AllH l → (proofH l i).length ≤ l.length ∧ AllH (proofH l i)
  | 0, l, i, h, _ => by rw [proofH_small (by omega)]; exact ⟨by simp, fun x hx => by cases hx⟩
  | n + 1, l, i, h, ha => by
    by_cases h2 : 2 ≤ l.length
    · have hs := sp_facts h2
      by_cases hi : i < sp l.length
      · obtain ⟨k1, k2⟩ := proofH_facts n (l.take (sp l.length)) i (by rw [List.length_take]; omega) (ha.take _)
        rw [proofH_left h2 hi]
        refine ⟨?_, k2.append (AllH.one (h32_root (ha.drop _)))⟩
        rw [List.length_take] at k1
        rw [List.length_append, List.length_singleton]; omega
      · obtain ⟨k1, k2⟩ := proofH_facts n (l.drop (sp l.length)) (i - sp l.length) (by rw [List.length_drop]; omega) (ha.drop _)
        rw [proofH_right h2 hi]
        refine ⟨?_, k2.append (AllH.one (h32_root (ha.take _)))⟩
        rw [List.length_drop] at k1
        rw [List.length_append, List.length_singleton]; omega
    · rw [proofH_small (by omega)]; exact ⟨by simp, fun x hx => by cases hx⟩
theorem brR_roomH {α : Type} {n : Nat} (h : n ≤ 100000000) (a b : Option α) : brR (roomy n (.arr 32 (.int .u8))) a b = a := by
  rw [brR_roomy, show (Ty.arr 32 (Ty.int IntKind.u8)).size = 32 from rfl, if_pos ⟨by omega, by omega⟩]
theorem rproofN_eq : ∀ (f : Nat) (l : List (List Int)) (i : Nat), l.length < f → 1 ≤ l.length → l.length ≤ 10000000 → i < l.length → AllH l → solN_ref8_Proof f (l, (((i : Nat) : Int), ())) = some ((proofH l i, ()), ((), ((), ())))
  | 0, l, i, h, _, _, _, _ => by omega
  | f + 1, l, i, h, hl0, hl, hi, ha => by
    unfold solN_ref8_Proof T_ref8_Proof
    simp only [letR_eq, brR_dec, brR_and]
    by_cases h1 : l.length = 1
    · rw [if_pos (by omega), proofH_small (by omega)]
    have hs := sp_facts (n := l.length) (by omega)
    have t1 : List.take (sp l.length - 0) (List.drop 0 l) = l.take (sp l.length) := by simp
    have t2 : List.take (l.length - sp l.length) (List.drop (sp l.length) l) = l.drop (sp l.length) := List.take_of_length_le (by rw [List.length_drop]; omega)
    have k1 := proofH_facts l.length (l.take (sp l.length)) i (by rw [List.length_take]; omega) (ha.take _)
    have k2 := proofH_facts l.length (l.drop (sp l.length)) (i - sp l.length) (by rw [List.length_drop]; omega) (ha.drop _)
    rw [List.length_take] at k1
    rw [List.length_drop] at k2
    rw [if_neg (by omega), rsplitPoint_eq (by omega) (by omega)]
    have g1 : (0 : Int) ≤ ((sp l.length : Nat) : Int) := by omega
    have g2 : ((sp l.length : Nat) : Int) ≤ ((l.length : Nat) : Int) := by omega
    simp only [bind_some', Int.toNat_natCast, if_pos g1, if_pos g2]
    rw [t1, t2]
    by_cases hc : i < sp l.length
    · rw [if_pos (by omega), rproofN_eq f (l.take (sp l.length)) i (by rw [List.length_take]; omega) (by rw [List.length_take]; omega) (by rw [List.length_take]; omega) (by rw [List.length_take]; omega) (ha.take _)]
      simp only [bind_some']
      rw [rrootOf_eq (by rw [List.length_drop]; omega) (ha.drop _)]
      simp only [bind_some']
      rw [brR_roomH (by omega), proofH_left (by omega) hc]; rfl
    · rw [if_neg (by omega), w_i64 (by omega) (by omega), show ((i : Nat) : Int) - ((sp l.length : Nat) : Int) = ((i - sp l.length : Nat) : Int) by omega,
        rproofN_eq f (l.drop (sp l.length)) (i - sp l.length) (by rw [List.length_drop]; omega) (by rw [List.length_drop]; omega) (by rw [List.length_drop]; omega) (by rw [List.length_drop]; omega) (ha.drop _)]
      simp only [bind_some']
      rw [rrootOf_eq (by rw [List.length_take]; omega) (ha.take _)]
      simp only [bind_some']
      rw [brR_roomH (by omega), proofH_right (by omega) hc]; rfl
theorem rproof_eq {l : List (List Int)} {i : Nat} (hl : l.length ≤ 10000000) (hi : i < l.length) (ha : AllH l) : sol_ref8_Proof (l, (((i : Nat) : Int), ())) = some ((proofH l i, ()), ((), ((), ()))) :=
  rproofN_eq bigF l i (by rw [bigF_eq]; omega) (by omega) hl hi ha
def upR : Nat → Nat → List Int → List (List Int) → Option (List Int)
  | n, i, leaf, [] => if n = 1 then some leaf else none
  | n, i, leaf, last :: rest => if n = 1 then none else
    if i < sp n then (upR (sp n) i leaf rest).map (fun h => nodeH h last) else (upR (n - sp n) (i - sp n) leaf rest).map (fun h => nodeH last h)
theorem last_split {p : List (List Int)} (h : p ≠ []) : ∃ rest last, p = rest ++ [last] ∧ p.reverse = last :: rest.reverse := by
  have e : p = p.dropLast ++ [p.getLast h] := (List.dropLast_concat_getLast h).symm
  refine ⟨p.dropLast, p.getLast h, e, ?_⟩
  conv => lhs; rw [e]
  rw [List.reverse_append]; rfl
theorem fromN_eq : ∀ (f : Nat) (p : List (List Int)) (n i : Nat) (leaf : List Int), p.length < f → p.length ≤ 1000000000 → 1 ≤ n → n ≤ 9223372036854775807 → i < n → H32 leaf → AllH p →
    ∃ h, H32 h ∧ solN_merkle_rootFrom f (((n : Nat) : Int), (((i : Nat) : Int), (leaf, (p, ())))) = some ((h, ((upR n i leaf p.reverse).isSome, ())), ((), ((), ((), ((), ()))))) ∧ ∀ r, upR n i leaf p.reverse = some r → h = r
  | 0, p, n, i, leaf, h, _, _, _, _, _, _ => by omega
  | f + 1, p, n, i, leaf, h, hl, hn1, hn2, hi, hf, ha => by
    unfold solN_merkle_rootFrom T_merkle_rootFrom
    simp only [letR_eq, brR_dec, brR_inR, brR_and]
    by_cases hp : p = []
    · subst hp
      by_cases h1 : n = 1
      · subst h1
        exact ⟨leaf, hf, by simp [upR], fun r hr => by simpa [upR] using hr⟩
      · refine ⟨Z32, h32_zero, ?_, fun r hr => by simp [upR, h1] at hr⟩
        rw [if_neg (by omega), if_pos (by simp)]
        simp [upR, h1, Z32]
    obtain ⟨rest, last, e1, e2⟩ := last_split hp
    have hlen : p.length = rest.length + 1 := by rw [e1]; simp
    rw [e2]
    by_cases h1 : n = 1
    · subst h1
      refine ⟨leaf, hf, ?_, fun r hr => by simp [upR] at hr⟩
      rw [if_pos (by omega)]
      simp [upR, hlen]; omega
    have hs := sp_facts (n := n) (by omega)
    rw [if_neg (by omega), if_neg (by omega), splitPoint_eq (by omega) hn2]
    simp only [bind_some']
    rw [w_i64 (n := ((p.length : Nat) : Int) - 1) (by omega) (by omega), if_pos (by omega), if_pos (by omega), if_pos (by omega), show (((p.length : Nat) : Int) - 1).toNat = rest.length by omega]
    have t1 : List.take (rest.length - 0) (List.drop 0 p) = rest := by rw [e1]; simp
    have t2 : p.getD rest.length Z32 = last := by rw [e1, List.getD_eq_getElem?_getD, List.getElem?_append_right (by omega)]; simp
    have hrest : AllH rest := fun x hx => ha x (by rw [e1]; simp [hx])
    have hlast : H32 last := ha last (by rw [e1]; simp)
    rw [t1, t2]
    by_cases hc : i < sp n
    · obtain ⟨h', q1, q2, q3⟩ := fromN_eq f rest (sp n) i leaf (by omega) (by omega) (by omega) (by omega) hc hf hrest
      rw [if_pos (by omega), q2]
      simp only [bind_some']
      rw [node_eq q1 hlast]
      refine ⟨nodeH h' last, h32_node _ _, by simp only [bind_some', upR]; rw [if_neg h1, if_pos hc]; simp, fun r hr => ?_⟩
      simp only [upR] at hr
      rw [if_neg h1, if_pos hc] at hr
      obtain ⟨r', hr1, rfl⟩ := Option.map_eq_some_iff.1 hr
      rw [q3 _ hr1]
    · obtain ⟨h', q1, q2, q3⟩ := fromN_eq f rest (n - sp n) (i - sp n) leaf (by omega) (by omega) (by omega) (by omega) (by omega) hf hrest
      rw [if_neg (by omega), w_i64 (n := (n : Int) - (sp n : Nat)) (by omega) (by omega), w_i64 (n := (i : Int) - (sp n : Nat)) (by omega) (by omega), show (n : Int) - ((sp n : Nat) : Int) = ((n - sp n : Nat) : Int) by omega, show (i : Int) - ((sp n : Nat) : Int) = ((i - sp n : Nat) : Int) by omega, q2]
      simp only [bind_some']
      rw [node_eq hlast q1]
      refine ⟨nodeH last h', h32_node _ _, by simp only [bind_some', upR]; rw [if_neg h1, if_neg hc]; simp, fun r hr => ?_⟩
      simp only [upR] at hr
      rw [if_neg h1, if_neg hc] at hr
      obtain ⟨r', hr1, rfl⟩ := Option.map_eq_some_iff.1 hr
      rw [q3 _ hr1]
noncomputable def verifyH (root : List Int) (n i : Int) (leaf : List Int) (p : List (List Int)) : Bool :=
  decide (0 ≤ i ∧ i < n) && decide (upR n.toNat i.toNat leaf p.reverse = some root)
theorem verify_eq {root leaf : List Int} {n i : Int} {p : List (List Int)} (hn : n ≤ 9223372036854775807) (hl : p.length ≤ 1000000000) (hf : H32 leaf) (ha : AllH p) :
    sol_merkle_Verify (root, (n, (i, (leaf, (p, ()))))) = some ((verifyH root n i leaf p, ()), ((), ((), ((), ((), ((), ())))))) := by
  unfold sol_merkle_Verify T_merkle_Verify verifyH
  simp only [brR_dec]
  by_cases h1 : i < 0
  · rw [if_pos h1, decide_eq_false (by omega)]; rfl
  rw [if_neg h1]
  by_cases h2 : i ≥ n
  · rw [if_pos h2, decide_eq_false (by omega)]; rfl
  rw [if_neg h2, decide_eq_true (by omega)]
  obtain ⟨i, rfl⟩ := Int.eq_ofNat_of_zero_le (show 0 ≤ i by omega)
  obtain ⟨n, rfl⟩ := Int.eq_ofNat_of_zero_le (show 0 ≤ n by omega)
  obtain ⟨h, q1, q2, q3⟩ := fromN_eq bigF p n i leaf (by rw [bigF_eq]; omega) hl (by omega) (by omega) (by omega) hf ha
  unfold sol_merkle_rootFrom
  rw [q2]
  simp only [bind_some', Int.toNat_natCast, Bool.true_and]
  by_cases hu : ∃ r, upR n i leaf p.reverse = some r
  · obtain ⟨r, hu⟩ := hu
    simp only [q3 r hu, hu, Option.isSome_some, brR_true, eqD_h32]
    simp
  · have hn : upR n i leaf p.reverse = none := by
      cases h0 : upR n i leaf p.reverse with
      | none => rfl
      | some r => exact absurd ⟨r, h0⟩ hu
    simp [hn, brR_false]
theorem up_proof : ∀ (m : Nat) (l : List (List Int)) (i : Nat), l.length ≤ m → i < l.length → upR l.length i (l.getD i Z32) (proofH l i).reverse = some (rootH l)
  | 0, l, i, h, hi => by omega
  | m + 1, l, i, h, hi => by
    by_cases h2 : 2 ≤ l.length
    · have hs := sp_facts h2
      rw [rootH_two h2]
      by_cases hc : i < sp l.length
      · have ih := up_proof m (l.take (sp l.length)) i (by rw [List.length_take]; omega) (by rw [List.length_take]; omega)
        have e1 : (l.take (sp l.length)).length = sp l.length := by rw [List.length_take]; omega
        have e2 : (l.take (sp l.length)).getD i Z32 = l.getD i Z32 := by
          rw [List.getD_eq_getElem?_getD, List.getElem?_take, if_pos hc, List.getD_eq_getElem?_getD]
        rw [e1, e2] at ih
        rw [proofH_left h2 hc, List.reverse_append, List.reverse_singleton, List.singleton_append, upR, if_neg (by omega), if_pos hc, ih]; rfl
      · have ih := up_proof m (l.drop (sp l.length)) (i - sp l.length) (by rw [List.length_drop]; omega) (by rw [List.length_drop]; omega)
        have e2 : (l.drop (sp l.length)).getD (i - sp l.length) Z32 = l.getD i Z32 := by
          rw [List.getD_eq_getElem?_getD, List.getElem?_drop, List.getD_eq_getElem?_getD, show sp l.length + (i - sp l.length) = i by omega]
        rw [List.length_drop, e2] at ih
        rw [proofH_right h2 hc, List.reverse_append, List.reverse_singleton, List.singleton_append, upR, if_neg (by omega), if_neg hc, ih]; rfl
    · have h1 : l.length = 1 := by omega
      have : i = 0 := by omega
      subst this
      rw [proofH_small (by omega), rootH_one h1, h1]; rfl
end Go.Pon
set_option autoImplicit false
set_option linter.unusedVariables false
set_option linter.unusedSimpArgs false
namespace Go.Pon
open Go
theorem bytes_enc {n : Nat} (h : bylen n ≤ 255) : Bytes (enc n) := by
  intro x hx
  rcases List.mem_cons.1 hx with rfl | hx
  · omega
  · exact beB_byte x hx
end Go.Pon
set_option autoImplicit false
set_option linter.unusedVariables false
set_option linter.unusedSimpArgs false
namespace Go.Pon
open Go
theorem bylen_eq {n i : Nat} (h1 : n < 256 ^ (i + 1)) (h2 : 256 ^ i ≤ n) : bylen n = i + 1 := by
  have a := bylen_le.2 h1
  rcases Nat.lt_or_ge i (bylen n) with h | h
  · omega
  · have := bylen_le.1 h; omega
theorem digits_eq {n : Nat} (hn : n < 115792089237316195423570985008687907853269984665640564039457584007913129639936) : sol_ref6_digits (lim n, ()) = some ((beB (bylen n) n, ()), ((), ())) := by
  unfold sol_ref6_digits T_ref6_digits
  refine Eq.trans (bigLoop_rule (I := fun x => x.1 = lim n ∧ (-1 : Int) ≤ x.2.2.1 ∧ x.2.2.1 ≤ (31 : Int) ∧ (x.2.1.length : Int) + x.2.2.1 ≤ (31 : Int) ∧ (x.2.1 = [] → n < 256 ^ (x.2.2.1 + 1).toNat)) (m := fun x => (x.2.2.1 + 1).toNat)
    (g := fun x => some ((x.2.1 ++ (if x.2.1 = [] then beB (bylen n) n else beB (x.2.2.1 + 1).toNat n), ()), ((), ()))) ?_
    ⟨rfl, by simp only; omega, by simp only; omega, by simp only [List.length_nil]; omega, fun _ => hn⟩ (by simp only [bigN_eq]; omega)) ?_
  · rintro ⟨l, o, i, _⟩ again ⟨h1, h2, h3, h4, h5⟩ hag
    simp only at h1 h2 h3 h4 h5 hag ⊢
    subst h1
    simp only [T_ref6_digits_loop0, letR_eq, brR_dec, brR_inR, ge_iff_le, append_def]
    by_cases hi : 0 ≤ i
    · obtain ⟨j, rfl⟩ := Int.eq_ofNat_of_zero_le hi
      have ej : ((j : Int) + 1).toNat = j + 1 := by omega
      rw [if_pos hi, tdiv_pos hi, tmod_pos hi, w_i64 (n := (j : Int) / 8) (by omega) (by omega), w_i64 (n := 8 * ((j : Int) % 8)) (by omega) (by omega), w_u64 (by omega) (by omega), if_pos (by omega), if_pos (by omega), brR_room8 (by omega), w_i64 (by omega) (by omega)]
      rw [show ((j : Int) / 8).toNat = j / 8 by omega, show (8 * ((j : Int) % 8)).toNat = 8 * (j % 8) by omega, byte_out hn (by omega)]
      have hb : beB (j + 1) n = ((n / 256 ^ j % 256 : Nat) : Int) :: beB j n := rfl
      rw [ej] at h5 ⊢
      have step : o.length > 0 ∨ n / 256 ^ j % 256 > 0 → again (lim n, (o ++ [((n / 256 ^ j % 256 : Nat) : Int)], ((j : Int) - 1, ()))) = some ((o ++ (if o = [] then beB (bylen n) n else beB (j + 1) n), ()), ((), ())) := by
        intro hc
        rw [hag _ ⟨rfl, by simp only; omega, by simp only; omega, by simp only [List.length_append, List.length_singleton]; omega, fun h => by simp at h⟩ (by simp only; omega)]
        simp only
        rw [if_neg (by simp), show ((j : Int) - 1 + 1).toNat = j by omega]
        by_cases ho : o = []
        · subst ho
          have h6 := h5 rfl
          have h7 : 256 ^ j ≤ n := by
            rcases Nat.lt_or_ge n (256 ^ j) with h | h
            · rw [Nat.div_eq_of_lt h] at hc; simp at hc
            · exact h
          rw [if_pos rfl, bylen_eq h6 h7, hb]; simp
        · rw [if_neg ho, hb]; simp
      by_cases c1 : (o.length : Int) > 0
      · rw [if_pos c1, step (.inl (by omega))]
      · rw [if_neg c1]
        have ho : o = [] := List.length_eq_zero_iff.1 (by omega)
        by_cases c2 : ((n / 256 ^ j % 256 : Nat) : Int) > 0
        · rw [if_pos c2, step (.inr (by omega))]
        · rw [if_neg c2]
          have h6 := h5 ho
          have hlt : n / 256 ^ j < 256 := by
            rw [Nat.div_lt_iff_lt_mul (Nat.pow_pos (by omega)), Nat.mul_comm, ← Nat.pow_succ]; exact h6
          have h7 : n < 256 ^ j := by
            rw [Nat.mod_eq_of_lt hlt] at c2
            have : n / 256 ^ j = 0 := by generalize n / 256 ^ j = q at *; omega
            exact (Nat.div_eq_zero_iff.1 this).resolve_left (by have := Nat.pow_pos (a := 256) (n := j) (by omega); omega)
          rw [hag _ ⟨rfl, by simp only; omega, by simp only; omega, by simp only; omega, fun _ => by simp only; rw [show ((j : Int) - 1 + 1).toNat = j by omega]; exact h7⟩ (by simp only; omega)]
          simp [ho]
    · have : i = -1 := by omega
      subst this
      rw [if_neg hi]
      by_cases ho : o = []
      · have h6 : n < 1 := h5 ho
        have : n = 0 := by omega
        subst this
        simp [bylen_zero, beB]
      · simp [ho, beB]
  · simp
theorem rAppendUint256_eq {b : List Int} (hb : b.length ≤ 1000000000) {n : Nat} (hn : n < 115792089237316195423570985008687907853269984665640564039457584007913129639936) :
    sol_ref6_AppendUint256 (b, (lim n, ())) = some ((b ++ enc n, ()), ((), ((), ()))) := by
  unfold sol_ref6_AppendUint256 T_ref6_AppendUint256 enc
  have h2 := bylen_256 hn
  rw [digits_eq hn]
  simp only [bind_some', letR_eq, append_def]
  rw [len_beB, w_u8 (by omega) (by omega), brR_room8 (by omega), brR_room8 (by omega), brR_room8 (by simp; omega)]
  simp
theorem rAppendUint64_eq {b : List Int} (hb : b.length ≤ 1000000000) {n : Int} (h0 : 0 ≤ n) (h1 : n ≤ 18446744073709551615) :
    sol_ref6_AppendUint64 (b, (n, ())) = some ((b ++ enc n.toNat, ()), ((), ((), ()))) := by
  unfold sol_ref6_AppendUint64 T_ref6_AppendUint64
  simp only
  rw [lim_small h0 h1, rAppendUint256_eq hb (by omega)]
  rfl
end Go.Pon
set_option autoImplicit false
set_option linter.unusedVariables false
set_option linter.unusedSimpArgs false
namespace Go.Pon
open Go
abbrev MsgT := Int × (Int × (List Int × Unit))
inductive MsgW : MsgT → Prop
  | mk {s t : Int} {v : Nat} (hs : 0 ≤ s ∧ s ≤ 18446744073709551615) (ht : 0 ≤ t ∧ t ≤ 18446744073709551615) (hv : v < 115792089237316195423570985008687907853269984665640564039457584007913129639936) : MsgW (s, (t, (lim v, ())))
abbrev zeroMsg : MsgT := ((0 : Int), ((0 : Int), ([(0 : Int), (0 : Int), (0 : Int), (0 : Int)], ())))
def encMsg (m : MsgT) : List Int := enc m.1.toNat ++ (enc m.2.1.toNat ++ enc (val4 m.2.2.1))
def leafM (m : MsgT) : List Int := leafH (encMsg m)
theorem h32_leafM (m : MsgT) : H32 (leafM m) := h32_leaf _
theorem len_encMsg {m : MsgT} (h : MsgW m) : (encMsg m).length ≤ 1000 ∧ Bytes (encMsg m) := by
  obtain ⟨hs, ht, hv⟩ := h
  rename_i s t v
  have := @bylen_64 s.toNat (by omega); have := @bylen_64 t.toNat (by omega); have := bylen_256 hv
  unfold encMsg
  simp only [val4_lim]
  refine ⟨by simp only [List.length_append, len_enc]; omega, (bytes_enc (by omega)).append ((bytes_enc (by omega)).append (bytes_enc (by omega)))⟩
theorem oEncode_eq {m : MsgT} (h : MsgW m) : sol_outbox_Encode (m, ()) = some ((encMsg m, ()), ((), ())) := by
  obtain ⟨hs, ht, hv⟩ := h
  rename_i s t v
  have := @bylen_64 s.toNat (by omega); have := @bylen_64 t.toNat (by omega); have := bylen_256 hv
  unfold sol_outbox_Encode T_outbox_Encode
  simp only
  rw [appendUint64_eq (by simp) hs.1 hs.2]; simp only [bind_some']
  rw [appendUint64_eq (by simp [len_enc]; omega) ht.1 ht.2]; simp only [bind_some']
  rw [appendUint256_eq (by simp [len_enc]; omega) hv]; simp only [bind_some']
  simp only [encMsg, val4_lim, List.nil_append, List.append_assoc]
theorem rEncodeM_eq {m : MsgT} (h : MsgW m) : sol_ref24_Encode (m, ()) = some ((encMsg m, ()), ((), ())) := by
  obtain ⟨hs, ht, hv⟩ := h
  rename_i s t v
  have := @bylen_64 s.toNat (by omega); have := @bylen_64 t.toNat (by omega); have := bylen_256 hv
  unfold sol_ref24_Encode T_ref24_Encode
  simp only
  rw [rAppendUint64_eq (by simp) hs.1 hs.2]; simp only [bind_some']
  rw [rAppendUint64_eq (by simp [len_enc]; omega) ht.1 ht.2]; simp only [bind_some']
  rw [rAppendUint256_eq (by simp [len_enc]; omega) hv]; simp only [bind_some']
  simp only [encMsg, val4_lim, List.nil_append, List.append_assoc]
theorem oLeaf_eq {m : MsgT} (h : MsgW m) : sol_outbox_Leaf (m, ()) = some ((leafM m, ()), ((), ())) := by
  obtain ⟨h1, h2⟩ := len_encMsg h
  unfold sol_outbox_Leaf T_outbox_Leaf
  simp only
  rw [oEncode_eq h]; simp only [bind_some']
  rw [leaf_eq h2 (by omega)]; simp only [bind_some']
  rfl
theorem rLeafM_eq {m : MsgT} (h : MsgW m) : sol_ref24_Leaf (m, ()) = some ((leafM m, ()), ((), ())) := by
  obtain ⟨h1, h2⟩ := len_encMsg h
  unfold sol_ref24_Leaf T_ref24_Leaf
  simp only
  rw [rEncodeM_eq h]; simp only [bind_some']
  rw [rleaf_eq h2 (by omega)]; simp only [bind_some']
  rfl
def AllM (l : List MsgT) : Prop := ∀ m ∈ l, MsgW m
theorem allH_leafM (l : List MsgT) : AllH (l.map leafM) := fun x hx => by
  obtain ⟨m, _, rfl⟩ := List.mem_map.1 hx
  exact h32_leafM m
theorem AllM.at {l : List MsgT} (h : AllM l) {i : Nat} (hi : i < l.length) (d : MsgT) : MsgW (l.getD i d) := h _ (getD_mem hi)
theorem roomyM {n : Nat} (h : n ≤ 1000000) {α : Type} (a b : Option α) : brR (roomy n (.pair (.int .u64) (.pair (.int .u64) (.pair (.arr 4 (.int .u64)) .unit)))) a b = a := by
  rw [brR_roomy, if_pos ⟨by decide, by simp only [Ty.size]; omega⟩]
def goodM (m : MsgT) (i : Nat) : Bool := decide (m.1 = (i : Int)) && (!decide (m.2.1 = 0) && !decide (val4 m.2.2.1 = 0))
def okM (l : List MsgT) : Bool := (List.range l.length).all fun i => goodM (l.getD i zeroMsg) i
theorem okM_iff {l : List MsgT} : okM l = true ↔ ∀ i, i < l.length → goodM (l.getD i zeroMsg) i = true := by
  unfold okM
  simp only [List.all_eq_true, List.mem_range]
theorem rLeaves_eq {l : List MsgT} (ha : AllM l) (hl : l.length ≤ 100000) {n : Nat} (hn : n ≤ l.length) : sol_ref24_Leaves (l, (((n : Nat) : Int), ())) = some (((l.map leafM).take n, ()), ((), ((), ()))) := by
  unfold sol_ref24_Leaves T_ref24_Leaves
  refine bigLoop_rule (I := fun x => ∃ i : Nat, i ≤ n ∧ x = (l, (((n : Nat) : Int), ((l.map leafM).take i, (((i : Nat) : Int), ()))))) (m := fun x => (((n : Nat) : Int) - x.2.2.2.1).toNat)
    (g := fun _ => some (((l.map leafM).take n, ()), ((), ((), ())))) ?_ ⟨0, by omega, rfl⟩ (by rw [bigN_eq]; simp only; omega)
  rintro x again ⟨i, hi, rfl⟩ hag
  simp only at hag ⊢
  unfold T_ref24_Leaves_loop0
  simp only [brR_dec, brR_inR]
  by_cases h1 : ((i : Nat) : Int) < ((n : Nat) : Int)
  · have hil : i < l.length := by omega
    rw [if_pos h1, if_pos (by omega), Int.toNat_natCast, rLeafM_eq (ha.at hil _)]
    simp only [bind_some', append_def]
    rw [brR_roomH (by simp; omega), w_i64 (by omega) (by omega)]
    have e : (l.map leafM).take i ++ [leafM (l.getD i zeroMsg)] = (l.map leafM).take (i + 1) := by
      rw [← List.map_take, ← List.map_take, take_map_succ hil]
    rw [e]
    rw [hag (l, (((n : Nat) : Int), ((l.map leafM).take (i + 1), (((i : Nat) : Int) + 1, ())))) ⟨i + 1, by omega, by rw [Int.natCast_add]; rfl⟩ (by simp only; omega)]
  · have hil : i = n := by omega
    rw [if_neg h1, hil]
theorem r24Root_in {l : List MsgT} (ha : AllM l) (hl : l.length ≤ 100000) {n : Nat} (hn : n ≤ l.length) : sol_ref24_Root (l, (((n : Nat) : Int), ())) = some ((rootH ((l.map leafM).take n), (true, ())), ((), ((), ()))) := by
  unfold sol_ref24_Root T_ref24_Root
  simp only [brR_dec]
  rw [if_neg (by omega), if_neg (by omega), rLeaves_eq ha hl hn]
  simp only [bind_some']
  rw [rrootOf_eq (by rw [List.length_take]; omega) ((allH_leafM l).take n)]
  rfl
theorem r24Proof_in {l : List MsgT} (ha : AllM l) (hl : l.length ≤ 100000) {i n : Nat} (hi : i < n) (hn : n ≤ l.length) : sol_ref24_Proof (l, (((i : Nat) : Int), (((n : Nat) : Int), ()))) = some ((proofH ((l.map leafM).take n) i, (true, ())), ((), ((), ((), ())))) := by
  unfold sol_ref24_Proof T_ref24_Proof
  simp only [brR_dec]
  rw [if_neg (by omega), if_neg (by omega), if_neg (by omega), rLeaves_eq ha hl hn]
  simp only [bind_some']
  rw [rproof_eq (by rw [List.length_take]; omega) (by rw [List.length_take, List.length_map]; omega) ((allH_leafM l).take n)]
  rfl
end Go.Pon
set_option autoImplicit false
set_option linter.unusedVariables false
set_option linter.unusedSimpArgs false
namespace Go.Pon
open Go
theorem isNaN_eq (x : Int) : sol_cmp_isNaN_api_Address (x, ()) = some ((false, ()), ((), ())) := by
  unfold sol_cmp_isNaN_api_Address T_cmp_isNaN_api_Address
  simp
def cmpI (x y : Int) : Int := if x < y then -1 else if x > y then 1 else 0
theorem compare_eq (x y : Int) : sol_cmp_Compare_api_Address (x, (y, ())) = some ((cmpI x y, ()), ((), ((), ()))) := by
  unfold sol_cmp_Compare_api_Address T_cmp_Compare_api_Address
  rw [isNaN_eq, isNaN_eq]
  simp only [bind_some', brR_false, brR_dec]
  unfold cmpI
  by_cases h : x < y
  · rw [if_pos h, if_pos h]
  · rw [if_neg h, if_neg h]
    by_cases h2 : x > y
    · rw [if_pos h2, if_pos h2]
    · rw [if_neg h2, if_neg h2]
theorem half_eq {i j : Nat} (h : i + j ≤ 4000000) : IntKind.wrap .i64 (Int.fdiv (IntKind.wrap .u64 (IntKind.wrap .i64 (((i : Nat) : Int) + ((j : Nat) : Int)))) 2) = (((i + j) / 2 : Nat) : Int) := by
  rw [w_i64 (n := ((i : Nat) : Int) + ((j : Nat) : Int)) (by omega) (by omega), w_u64 (by omega) (by omega), Int.fdiv_eq_ediv_of_nonneg _ (by omega), w_i64 (by omega) (by omega)]
  omega
def okA (l : List AccT) (i : Nat) : Prop := (l.getD i zAcc).1 ≠ 0 ∧ ¬ isE (l.getD i zAcc) ∧ (0 < i → (l.getD (i - 1) zAcc).1 < (l.getD i zAcc).1)
def VA (l : List AccT) : Prop := ∀ i, i < l.length → okA l i
theorem VA.srt {l : List AccT} (h : VA l) : Srt l := by
  refine List.pairwise_iff_getElem.2 fun i j hi hj hij => ?_
  have key : ∀ d, i + 1 + d < l.length → (l.getD i zAcc).1 < (l.getD (i + 1 + d) zAcc).1 := by
    intro d
    induction d with
    | zero => intro hd; exact (h (i + 1) (by omega)).2.2 (by omega)
    | succ d ih =>
      intro hd
      have h1 := ih (by omega)
      have h2 := (h (i + 1 + (d + 1)) hd).2.2 (by omega)
      rw [show i + 1 + (d + 1) - 1 = i + 1 + d by omega] at h2
      omega
  have := key (j - i - 1) (by omega)
  rw [show i + 1 + (j - i - 1) = j by omega, List.getD_eq_getElem?_getD, List.getElem?_eq_getElem hi, List.getD_eq_getElem?_getD, List.getElem?_eq_getElem hj] at this
  exact this
theorem mem_getD {l : List AccT} {x : AccT} (h : x ∈ l) : ∃ i, i < l.length ∧ l.getD i zAcc = x := by
  obtain ⟨i, hi, rfl⟩ := List.getElem_of_mem h
  exact ⟨i, hi, by rw [List.getD_eq_getElem?_getD, List.getElem?_eq_getElem hi]; rfl⟩
theorem VA.ne {l : List AccT} (h : VA l) : NE l := fun x hx => by
  obtain ⟨i, hi, rfl⟩ := mem_getD hx
  exact (h i hi).2.1
end Go.Pon
set_option autoImplicit false
set_option linter.unusedVariables false
set_option linter.unusedSimpArgs false
namespace Go.Pon
open Go
theorem zP2_eq : (((0 : Int), ([(0 : Int), (0 : Int), (0 : Int), (0 : Int)], ())) : PayT) = zPay := rfl
abbrev EscT := List (List Int) × (List Bool × (List Int × (List PayT × Unit)))
abbrev esc (r : List (List Int)) (cl : List Bool) (h : Nat) (p : List PayT) : EscT := (r, (cl, (lim h, (p, ()))))
theorem roomyQ {n : Nat} (h : n ≤ 1000000) : roomy n (.pair (.int .u64) (.pair (.arr 4 (.int .u64)) .unit)) = true := by
  rw [roomy_dec, decide_eq_true_eq]
  exact ⟨by decide, by simp only [Ty.size]; omega⟩
theorem roomyBo {n : Nat} (h : n ≤ 1000000) : roomy n .bool = true := by
  rw [roomy_dec, decide_eq_true_eq]
  exact ⟨by decide, by simp only [Ty.size]; omega⟩
theorem roomyHa {n : Nat} (h : n ≤ 1000000) : roomy n (.arr 32 (.int .u8)) = true := by
  rw [roomy_dec, decide_eq_true_eq]
  exact ⟨by decide, by simp only [Ty.size]; omega⟩
theorem insertPay_eq {l : List PayT} {p : PayT} {i : Nat} (h : l.length ≤ 999990) (hi : i ≤ l.length) : sol_slices_Insert_api_Payment_api_Payment (l, (((i : Nat) : Int), ([p], ()))) = some ((l.take i ++ (p :: l.drop i), ()), ((), ((), ((), ())))) := by
  unfold sol_slices_Insert_api_Payment_api_Payment T_slices_Insert_api_Payment_api_Payment insF
  have hr : roomy (List.length l + List.length [p]) (.pair (.int .u64) (.pair (.arr 4 (.int .u64)) .unit)) = true := roomyQ (by simp; omega)
  have hc : (0 : Int) ≤ ((i : Nat) : Int) ∧ ((i : Nat) : Int) ≤ ((List.length l : Nat) : Int) ∧ 0 < List.length [p] ∧ roomy (List.length l + List.length [p]) (.pair (.int .u64) (.pair (.arr 4 (.int .u64)) .unit)) = true := ⟨by omega, by omega, by simp, hr⟩
  simp only
  rw [if_pos hc, Int.toNat_natCast]
  rfl
theorem efind1_eq (x : PayT) (a : Int) : sol_escrow_Escrow_find_1 (x, (a, ())) = some ((cmpI x.1 a, ()), ((), ((), ()))) := by
  unfold sol_escrow_Escrow_find_1 T_escrow_Escrow_find_1
  rw [compare_eq]; rfl
theorem bsP_eq {l : List PayT} {a : Int} (hs : SrtP l) (hl : l.length ≤ 1000000) :
    sol_slices_BinarySearchFunc_api_Payment_api_Payment_api_Address (l, (a, ((), ()))) = some ((((cntQ l a : Nat) : Int), (decide (foundQ l a), ())), ((), ((), ((), ())))) := by
  unfold sol_slices_BinarySearchFunc_api_Payment_api_Payment_api_Address T_slices_BinarySearchFunc_api_Payment_api_Payment_api_Address
  try simp only [letR_eq]
  have hc := cntQ_le a l
  refine bigLoop_rule (I := fun x => ∃ i j : Nat, i ≤ cntQ l a ∧ cntQ l a ≤ j ∧ j ≤ l.length ∧ x = (l, (a, ((), (((l.length : Nat) : Int), (((i : Nat) : Int), (((j : Nat) : Int), ()))))))) (m := fun x => (x.2.2.2.2.2.1 - x.2.2.2.2.1).toNat)
    (g := fun _ => some ((((cntQ l a : Nat) : Int), (decide (foundQ l a), ())), ((), ((), ((), ()))))) ?_ ⟨0, l.length, by omega, hc, by omega, rfl⟩ (by rw [bigN_eq]; simp only; omega)
  rintro x again ⟨i, j, h1, h2, h3, rfl⟩ hag
  simp only at hag ⊢
  unfold T_slices_BinarySearchFunc_api_Payment_api_Payment_api_Address_loop0
  rw [zP2_eq]
  simp only [letR_eq, brR_dec, brR_inR]
  rw [half_eq (by omega)]
  by_cases hij : ((i : Nat) : Int) < ((j : Nat) : Int)
  · have hm : (i + j) / 2 < l.length := by omega
    rw [if_pos hij, if_pos (by omega), Int.toNat_natCast, efind1_eq]
    simp only [bind_some', brR_dec]
    unfold cmpI
    generalize hk : (i + j) / 2 = k at *
    by_cases hlt : (l.getD k zPay).1 < a
    · rw [if_pos (by rw [if_pos hlt]; decide), w_i64 (by omega) (by omega)]
      have : k < cntQ l a := by
        rcases Nat.lt_or_ge k (cntQ l a) with h | h
        · exact h
        · have := cntQ_ge hs h hm; omega
      exact hag _ ⟨k + 1, j, by omega, h2, h3, by rw [Int.natCast_add]; rfl⟩ (by simp only; omega)
    · rw [if_neg (by rw [if_neg hlt]; split <;> decide)]
      have : cntQ l a ≤ k := by
        rcases Nat.lt_or_ge k (cntQ l a) with h | h
        · exact absurd (cntQ_lt h) hlt
        · exact h
      exact hag _ ⟨i, k, h1, this, by omega, rfl⟩ (by simp only; omega)
  · have hi : i = cntQ l a := by omega
    subst hi
    rw [if_neg hij]
    by_cases hin : ((cntQ l a : Nat) : Int) < ((l.length : Nat) : Int)
    · rw [if_pos hin, if_pos (by omega), Int.toNat_natCast, efind1_eq]
      simp only [bind_some']
      have hge := cntQ_at (l := l) (a := a) (by omega)
      unfold cmpI foundQ
      by_cases he : (l.getD (cntQ l a) zPay).1 = a
      · rw [decide_eq_true (show cntQ l a < l.length ∧ (l.getD (cntQ l a) zPay).1 = a from ⟨by omega, he⟩), if_neg (by omega), if_neg (by omega)]; rfl
      · rw [decide_eq_false (show ¬ (cntQ l a < l.length ∧ (l.getD (cntQ l a) zPay).1 = a) from fun h => he h.2), if_neg (by omega), if_pos (by omega)]; rfl
    · rw [if_neg hin]
      unfold foundQ
      rw [decide_eq_false (show ¬ (cntQ l a < l.length ∧ (l.getD (cntQ l a) zPay).1 = a) from fun h => by omega)]
theorem efind_eq {r : List (List Int)} {cl : List Bool} {h : List Int} {l : List PayT} {a : Int} (hs : SrtP l) (hl : l.length ≤ 1000000) :
    sol_escrow_Escrow_find ((r, (cl, (h, (l, ())))), (a, ())) = some ((((cntQ l a : Nat) : Int), (decide (foundQ l a), ())), ((r, (cl, (h, (l, ())))), ((), ()))) := by
  unfold sol_escrow_Escrow_find T_escrow_Escrow_find
  simp only
  rw [bsP_eq hs hl]; rfl
theorem l1bal_eq {r : List (List Int)} {cl : List Bool} {h : List Int} {l : List PayT} {a : Int} (hs : SrtP l) (hl : l.length ≤ 1000000) :
    sol_escrow_Escrow_L1Balance (some (r, (cl, (h, (l, ())))), (a, ())) = some (((pget l a).2.1, ()), (some (r, (cl, (h, (l, ())))), ((), ()))) := by
  unfold sol_escrow_Escrow_L1Balance T_escrow_Escrow_L1Balance
  simp only [optR_some]
  rw [efind_eq hs hl]
  simp only [bind_some', brR_dec, brR_inR]
  rw [zP2_eq, pget_cnt hs]
  by_cases hf : foundQ l a
  · rw [if_pos hf, if_pos hf]
    have := hf.1
    rw [if_pos (by omega), Int.toNat_natCast]
  · rw [if_neg hf, if_neg hf]
abbrev pbal (l : List PayT) (a : Int) : Nat := val4 (pget l a).2.1
theorem pget_mk {l : List PayT} {a : Int} (h : AllPay l) (ha : U64 a) : pget l a = (a, (lim (pbal l a), ())) ∧ B256 (pbal l a) := by
  have hw := pgetW h ha
  have hf := pget_fst l a
  unfold pbal
  generalize pget l a = x at hw hf ⊢
  obtain ⟨h1, h2⟩ := hw
  simp only at hf ⊢
  subst hf
  rw [val4_lim]
  exact ⟨rfl, h2⟩
structure EInv (r : List (List Int)) (cl : List Bool) (h : Nat) (p : List PayT) : Prop where
  len : cl.length = r.length
  held : B256 h
  srt : SrtP p
  ne : NEP p
  all : AllPay p
theorem enew_eq : sol_escrow_New () = some ((esc [] [] 0 [], ()), ()) := rfl
theorem einv_nil : EInv [] [] 0 [] := ⟨rfl, by unfold B256; omega, List.Pairwise.nil, fun x h => by simp at h, fun x h => by simp at h⟩
theorem deposit_eq {r : List (List Int)} {cl : List Bool} {h : Nat} {p : List PayT} {n : Nat} (hh : B256 h) (hn : B256 n) :
    sol_escrow_Escrow_Deposit (some (esc r cl h p), (lim n, ())) = some (((if n = 0 then (2 : Int) else if h + n < 115792089237316195423570985008687907853269984665640564039457584007913129639936 then 0 else 4), ()),
      (some (esc r cl (if n = 0 then h else if h + n < 115792089237316195423570985008687907853269984665640564039457584007913129639936 then h + n else h) p), ((), ()))) := by
  unfold sol_escrow_Escrow_Deposit T_escrow_Escrow_Deposit
  simp only [optR_some]
  rw [← lim0, eqD_lim, brR_dec]
  by_cases c : n = 0
  · simp only [if_pos c]
  simp only [if_neg c]
  rw [uAdd_eq hh hn]
  simp only [bind_some', brR_not, brR_dec]
  by_cases c2 : h + n < 115792089237316195423570985008687907853269984665640564039457584007913129639936
  · simp only [if_pos c2, if_true]
  · simp only [if_neg c2]
    rw [if_neg (by decide)]
theorem appendRoot_eq {r : List (List Int)} {cl : List Bool} {h : Nat} {p : List PayT} {x : List Int} (hl : r.length ≤ 999990) (hc : cl.length = r.length) :
    sol_escrow_Escrow_AppendRoot (some (esc r cl h p), (x, ())) = some ((((r.length + 1 : Nat) : Int), ()), (some (esc (r ++ [x]) (cl ++ [false]) h p), ((), ()))) := by
  unfold sol_escrow_Escrow_AppendRoot T_escrow_Escrow_AppendRoot
  simp only [letR_eq, optR_some]
  rw [roomyHa (by omega), brR_true, roomyBo (by omega), brR_true, append_def, append_def, List.length_append, List.length_singleton]
theorem size_eq (r : List (List Int)) (cl : List Bool) (h : Nat) (p : List PayT) : sol_escrow_Escrow_Size (some (esc r cl h p), ()) = some ((((r.length : Nat) : Int), ()), (some (esc r cl h p), ())) := rfl
theorem ebal_eq (r : List (List Int)) (cl : List Bool) (h : Nat) (p : List PayT) : sol_escrow_Escrow_Balance (some (esc r cl h p), ()) = some ((lim h, ()), (some (esc r cl h p), ())) := rfl
theorem claimed_eq {r : List (List Int)} {cl : List Bool} {h : Nat} {p : List PayT} {s : Int} (hc : cl.length = r.length) (hl : r.length ≤ 1000000) (hs : U64 s) :
    sol_escrow_Escrow_Claimed (some (esc r cl h p), (s, ())) = some ((cl.getD s.toNat false, ()), (some (esc r cl h p), ((), ()))) := by
  unfold U64 at hs
  unfold sol_escrow_Escrow_Claimed T_escrow_Escrow_Claimed
  simp only [optR_some]
  rw [size_eq]
  simp only [bind_some', optR_some, brR_dec, brR_inR]
  rw [w_u64 (by omega) (by omega)]
  by_cases c : s < ((r.length : Nat) : Int)
  · rw [if_pos c, if_pos (by omega)]
  · rw [if_neg c, List.getD_eq_getElem?_getD, List.getElem?_eq_none (by omega)]; rfl
abbrev ClmT := Int × (Int × (Int × (List Int × (List (List Int) × Unit))))
inductive ClmW : ClmT → Prop
  | mk {s z t : Int} {n : Nat} {p : List (List Int)} (hs : U64 s) (hz : U64 z) (ht : U64 t) (hn : B256 n) (hp : AllH p) : ClmW (s, (z, (t, (lim n, (p, ())))))
noncomputable def chkC (r : List (List Int)) (cl : List Bool) (s z t : Int) (n : Nat) (p : List (List Int)) : Int :=
  if t = 0 ∨ n = 0 ∨ 64 < p.length then 2 else if z < 1 ∨ ((r.length : Nat) : Int) < z ∨ z ≤ s then 8 else if cl.getD s.toNat false = true then 9 else
    if verifyH (r.getD (z - 1).toNat Z32) z s (leafM (s, (t, (lim n, ())))) p = true then 0 else 16
theorem checkClaim_eq {r : List (List Int)} {cl : List Bool} {h : Nat} {q : List PayT} {s z t : Int} {n : Nat} {p : List (List Int)} (hc : cl.length = r.length) (hr : r.length ≤ 1000000) (hw : ClmW (s, (z, (t, (lim n, (p, ())))))) :
    sol_escrow_Escrow_checkClaim (some (esc r cl h q), ((s, (z, (t, (lim n, (p, ()))))), ())) = some ((chkC r cl s z t n p, ()), (some (esc r cl h q), ((), ()))) := by
  generalize hcc : (s, (z, (t, (lim n, (p, ()))))) = c at hw
  obtain ⟨hs, hz, ht, hn, hp⟩ := hw
  rename_i s' z' t' n' p'
  obtain ⟨rfl, rfl, rfl, h4, rfl⟩ : s = s' ∧ z = z' ∧ t = t' ∧ lim n = lim n' ∧ p = p' := by
    have := hcc
    simp only [Prod.mk.injEq, and_true] at this
    exact this
  have h4 := lim_inj.1 h4
  subst h4
  clear hcc
  unfold U64 at hs hz ht
  unfold sol_escrow_Escrow_checkClaim T_escrow_Escrow_checkClaim chkC
  simp only [letR_eq, optR_some]
  rw [brR_dec]
  by_cases c1 : t = 0
  · rw [if_pos c1, if_pos (.inl c1)]
  rw [if_neg c1, ← lim0, eqD_lim, brR_dec]
  by_cases c2 : n = 0
  · rw [if_pos c2, if_pos (.inr (.inl c2))]
  rw [if_neg c2, brR_dec]
  by_cases c3 : ((p.length : Nat) : Int) > 64
  · rw [if_pos c3, if_pos (.inr (.inr (by omega)))]
  rw [if_neg c3, if_neg (by omega), brR_dec]
  by_cases c4 : z < 1
  · rw [if_pos c4, if_pos (.inl c4)]
  rw [if_neg c4, brR_dec, w_u64 (n := ((r.length : Nat) : Int)) (by omega) (by omega)]
  by_cases c5 : z > ((r.length : Nat) : Int)
  · rw [if_pos c5, if_pos (.inr (.inl c5))]
  rw [if_neg c5, brR_dec]
  by_cases c6 : s ≥ z
  · rw [if_pos c6, if_pos (.inr (.inr c6))]
  rw [if_neg c6, if_neg (by omega), brR_inR, if_pos (by omega), brR_ite]
  by_cases c7 : cl.getD s.toNat false = true
  · rw [if_pos c7, if_pos c7]
  rw [if_neg c7, if_neg c7, oLeaf_eq (MsgW.mk hs ht hn)]
  simp only [bind_some']
  rw [brR_inR, w_u64 (by omega) (by omega), if_pos (by omega), w_i64 (n := z) (by omega) (by omega), w_i64 (n := s) (by omega) (by omega), verify_eq (by omega) (by omega) (h32_leafM _) hp]
  simp only [bind_some']
  rw [brR_not, brR_ite]
  split <;> rfl
noncomputable def clmS (r : List (List Int)) (cl : List Bool) (h : Nat) (q : List PayT) (s z t : Int) (n : Nat) (p : List (List Int)) : Int × (List Bool × (Nat × List PayT)) :=
  if chkC r cl s z t n p = 0 then (if n ≤ h then (if pbal q t + n < 115792089237316195423570985008687907853269984665640564039457584007913129639936 then (0, (cl.set s.toNat true, (h - n, pput q (t, (lim (pbal q t + n), ()))))) else (4, (cl, (h, q)))) else (10, (cl, (h, q))))
  else (chkC r cl s z t n p, (cl, (h, q)))
theorem chkC_zero {r : List (List Int)} {cl : List Bool} {s z t : Int} {n : Nat} {p : List (List Int)} (h : chkC r cl s z t n p = 0) : t ≠ 0 ∧ n ≠ 0 ∧ 1 ≤ z ∧ z ≤ ((r.length : Nat) : Int) ∧ s < z ∧ cl.getD s.toNat false = false := by
  unfold chkC at h
  split at h
  · omega
  · split at h
    · omega
    · split at h
      · omega
      · rename_i h1 h2 h3
        refine ⟨by omega, by omega, by omega, by omega, by omega, by simpa using h3⟩
theorem claim_eq {r : List (List Int)} {cl : List Bool} {h : Nat} {q : List PayT} {s z t : Int} {n : Nat} {p : List (List Int)} (hi : EInv r cl h q) (hr : r.length ≤ 1000000) (hq : q.length ≤ 999000) (hw : ClmW (s, (z, (t, (lim n, (p, ())))))) (hs : U64 s) (ht : U64 t) (hn : B256 n) :
    sol_escrow_Escrow_Claim (some (esc r cl h q), ((s, (z, (t, (lim n, (p, ()))))), ())) = some (((clmS r cl h q s z t n p).1, ()), (some (esc r (clmS r cl h q s z t n p).2.1 (clmS r cl h q s z t n p).2.2.1 (clmS r cl h q s z t n p).2.2.2), ((), ()))) := by
  have hc := hi.len
  unfold sol_escrow_Escrow_Claim T_escrow_Escrow_Claim clmS
  simp only [optR_some]
  rw [checkClaim_eq hc hr hw]
  simp only [bind_some', optR_some]
  rw [brR_not, brR_dec]
  by_cases c : chkC r cl s z t n p = 0
  case neg => simp only [if_neg c]
  obtain ⟨z1, z2, z3, z4, z5, z6⟩ := chkC_zero c
  unfold U64 at hs
  simp only [if_pos c]
  have hh := hi.held
  by_cases c2 : n ≤ h
  case neg =>
    simp only [if_neg c2]
    rw [uSub_bad (by omega) hn]
    simp only [bind_some']
    rw [brR_not, brR_dec, if_neg (by decide)]
  simp only [if_pos c2]
  rw [uSub_ok hh c2]
  simp only [bind_some']
  rw [brR_not, brR_dec, if_pos trivial, l1bal_eq hi.srt (by omega)]
  obtain ⟨e, hb⟩ := pget_mk hi.all ht
  have e1 : (pget q t).2.1 = lim (pbal q t) := by rw [e]
  clear e
  generalize pbal q t = m at *
  simp only [bind_some', optR_some]
  rw [e1, uAdd_eq hb hn, bind_some']
  dsimp only
  rw [brR_not, brR_dec]
  by_cases c3 : m + n < 115792089237316195423570985008687907853269984665640564039457584007913129639936
  case neg =>
    simp only [if_neg c3]
    rw [if_neg (by decide)]
  simp only [if_pos c3, if_true]
  rw [brR_inR, if_pos (by omega), efind_eq hi.srt (by omega)]
  simp only [bind_some']
  rw [brR_dec, zP2_eq, pput_cnt]
  have hne : ¬ isEP (t, (lim (m + n), ())) := by
    unfold isEP
    simp only [Prod.mk.injEq, true_and, and_true]
    rw [← lim0, lim_inj]
    omega
  rw [if_neg hne, if_neg hne]
  by_cases c4 : foundQ q t
  · have h1 := c4.1
    have h2 := c4.2
    rw [if_pos c4, if_pos c4, brR_inR, if_pos (by omega), Int.toNat_natCast, h2]
  · have hcn := cntQ_le t q
    rw [if_neg c4, if_neg c4, insertPay_eq (by omega) hcn]
    rfl
end Go.Pon
set_option autoImplicit false
set_option linter.unusedVariables false
set_option linter.unusedSimpArgs false
namespace Go.Pon
open Go
structure ERel (r : List (List Int)) (cl : List Bool) (h : Nat) (p : List PayT) (cs : List Int) (m : List PayT) : Prop where
  inv : EInv r cl h p
  cls : ∀ s : Int, 0 ≤ s → (s ∈ cs ↔ cl.getD s.toNat false = true)
  dist : DistP m
  all : AllPay m
  ne : NEP m
  sort : psort m = p
theorem ERel.pget {r : List (List Int)} {cl : List Bool} {h : Nat} {p : List PayT} {cs : List Int} {m : List PayT} (e : ERel r cl h p cs m) (a : Int) : Go.Pon.pget m a = Go.Pon.pget p a := by
  rw [← e.sort, pget_psort e.dist]
theorem getD_set_bool {cl : List Bool} {i j : Nat} (hi : i < cl.length) : (cl.set i true).getD j false = if j = i then true else cl.getD j false := by
  rw [List.getD_eq_getElem?_getD, List.getElem?_set, List.getD_eq_getElem?_getD]
  by_cases h : i = j
  · subst h; rw [if_pos rfl, if_pos hi, if_pos rfl]; rfl
  · rw [if_neg h, if_neg fun e => h e.symm]
end Go.Pon
set_option autoImplicit false
set_option linter.unusedVariables false
set_option linter.unusedSimpArgs false
namespace Go.Pon
open Go
abbrev SendT := Int × (List Int × (Bool × Unit))
abbrev zeroSend : SendT := Go.Pon.Ty.zero ((Go.Pon.Ty.int Go.IntKind.u64).pair ((Go.Pon.Ty.arr 4 (Go.Pon.Ty.int Go.IntKind.u64)).pair (Go.Pon.Ty.bool.pair Go.Pon.Ty.unit)))
def SendW (s : SendT) : Prop := (0 ≤ s.1 ∧ s.1 ≤ 18446744073709551615) ∧ ∃ v : Nat, v < 115792089237316195423570985008687907853269984665640564039457584007913129639936 ∧ s.2.1 = lim v
def mkM (s : SendT) (i : Nat) : MsgT := ((i : Int), (1 + s.1 % 6, ([1 + List.getD s.2.1 0 0 % 1000, 0, List.getD s.2.1 1 0 % 2, 0], ())))
theorem limb_u64 {v i : Nat} (hv : v < 115792089237316195423570985008687907853269984665640564039457584007913129639936) : 0 ≤ List.getD (lim v) i 0 ∧ List.getD (lim v) i 0 ≤ 18446744073709551615 := by
  unfold lim
  match i with
  | 0 => simp only [List.getD_cons_zero]; omega
  | 1 => simp only [List.getD_cons_succ, List.getD_cons_zero]; omega
  | 2 => simp only [List.getD_cons_succ, List.getD_cons_zero]; omega
  | 3 => simp only [List.getD_cons_succ, List.getD_cons_zero]; omega
  | n + 4 => simp
theorem mkM_good {s : SendT} (h : SendW s) {i : Nat} (hi : i ≤ 1000000) : MsgW (mkM s i) ∧ goodM (mkM s i) i = true := by
  obtain ⟨h1, v, hv, h2⟩ := h
  have a0 := @limb_u64 v 0 hv
  have a1 := @limb_u64 v 1 hv
  rw [← h2] at a0 a1
  obtain ⟨w, hw, e⟩ := lim_of (a := 1 + List.getD s.2.1 0 0 % 1000) (b := 0) (c := List.getD s.2.1 1 0 % 2) (d := 0) (by omega) (by omega) (by omega) (by omega)
  have hw0 : w ≠ 0 := by
    rintro rfl
    have : (1 + List.getD s.2.1 0 0 % 1000 : Int) = 0 := congrArg (fun l => List.getD l 0 (0 : Int)) e
    omega
  unfold mkM
  rw [e]
  refine ⟨.mk (by omega) (by omega) hw, ?_⟩
  unfold goodM
  simp only [val4_lim]
  have : ¬ (1 + s.1 % 6 = 0) := by omega
  simp [this, hw0]
def AllS (l : List SendT) : Prop := ∀ s ∈ l, SendW s
def vmsgs (l : List SendT) (n : Nat) : List MsgT := (List.range n).map fun i => mkM (List.getD l i zeroSend) i
theorem len_vmsgs (l : List SendT) (n : Nat) : (vmsgs l n).length = n := by simp [vmsgs]
theorem vmsgs_succ (l : List SendT) (n : Nat) : vmsgs l (n + 1) = vmsgs l n ++ [mkM (List.getD l n zeroSend) n] := by simp [vmsgs, List.range_succ]
theorem vmsgs_getD {l : List SendT} {n i : Nat} (h : i < n) (d : MsgT) : (vmsgs l n).getD i d = mkM (List.getD l i zeroSend) i := by
  simp [vmsgs, List.getD_eq_getElem?_getD, h]
theorem vmsgs_ok {l : List SendT} (ha : AllS l) (hl : l.length ≤ 1000000) : AllM (vmsgs l l.length) ∧ okM (vmsgs l l.length) = true := by
  refine ⟨fun m hm => ?_, okM_iff.2 fun i hi => ?_⟩
  · obtain ⟨i, hi, rfl⟩ := List.mem_map.1 hm
    have hi := List.mem_range.1 hi
    exact (mkM_good (ha _ (getD_mem hi)) (by omega)).1
  · rw [len_vmsgs] at hi
    rw [vmsgs_getD hi]
    exact (mkM_good (ha _ (getD_mem hi)) (by omega)).2
theorem lawValid_eq {l : List SendT} (ha : AllS l) (hl : l.length ≤ 10000) : sol_law24_ValidMessages (l, ()) = some ((vmsgs l l.length, ()), ((), ())) := by
  unfold sol_law24_ValidMessages T_law24_ValidMessages
  refine bigLoop_rule (I := fun x => ∃ i : Nat, i ≤ l.length ∧ x = (l, (vmsgs l i, (((i : Nat) : Int), ())))) (m := fun x => (((l.length : Nat) : Int) - x.2.2.1).toNat)
    (g := fun _ => some ((vmsgs l l.length, ()), ((), ()))) ?_ ⟨0, by omega, rfl⟩ (by rw [bigN_eq]; simp only; omega)
  rintro x again ⟨i, hi, rfl⟩ hag
  simp only at hag ⊢
  unfold T_law24_ValidMessages_loop0
  simp only [letR_eq, brR_dec, brR_inR]
  by_cases h1 : ((i : Nat) : Int) < ((l.length : Nat) : Int)
  · have hil : i < l.length := by omega
    rw [if_pos h1, if_pos (by omega), if_pos (by omega), if_pos (by omega), roomyM (by rw [len_vmsgs]; omega), Int.toNat_natCast, append_def]
    have hs := ha _ (getD_mem (d := zeroSend) hil)
    have e : (((IntKind.wrap .u64 ((i : Nat) : Int)), ((IntKind.wrap .u64 ((1 : Int) + (Int.tmod (List.getD l i zeroSend).1 (6 : Int)))), ([(IntKind.wrap .u64 ((1 : Int) + (Int.tmod (List.getD (List.getD l i zeroSend).2.1 0 (0 : Int)) (1000 : Int)))), (0 : Int), (Int.tmod (List.getD (List.getD l i zeroSend).2.1 1 (0 : Int)) (2 : Int)), (0 : Int)], ()))) : MsgT) = mkM (List.getD l i zeroSend) i := by
      obtain ⟨h1, v, hv, h2⟩ := hs
      have a0 := @limb_u64 v 0 hv
      have a1 := @limb_u64 v 1 hv
      rw [← h2] at a0 a1
      rw [tmod_pos h1.1, tmod_pos a0.1, tmod_pos a1.1, w_u64 (by omega) (by omega), w_u64 (by omega) (by omega), w_u64 (by omega) (by omega)]
      rfl
    rw [show (Go.Pon.Ty.zero ((Go.Pon.Ty.int Go.IntKind.u64).pair ((Go.Pon.Ty.arr 4 (Go.Pon.Ty.int Go.IntKind.u64)).pair (Go.Pon.Ty.bool.pair Go.Pon.Ty.unit))) : SendT) = zeroSend from rfl, e, ← vmsgs_succ, w_i64 (by omega) (by omega)]
    exact hag _ ⟨i + 1, by omega, by rw [Int.natCast_add]; rfl⟩ (by simp only; omega)
  · have hil : i = l.length := by omega
    rw [if_neg h1, hil]
theorem allS_wf {s : List SendT} (h : (Ty.slice (.pair (.int .u64) (.pair (.arr 4 (.int .u64)) (.pair .bool .unit)))).wf s) : AllS s := fun x hx => by
  obtain ⟨a, v, b, _⟩ := x
  obtain ⟨h1, h2, _⟩ := h.2 _ hx
  obtain ⟨n, hn, rfl⟩ := u256_wf h2
  exact ⟨inK_u64.1 h1, n, hn, rfl⟩
theorem AllM.append {l e : List MsgT} (h : AllM l) (h2 : AllM e) : AllM (l ++ e) := fun x hx => by
  rcases List.mem_append.1 hx with h' | h'
  · exact h x h'
  · exact h2 x h'
theorem AllM.one {m : MsgT} (h : MsgW m) : AllM [m] := fun x hx => by
  rw [List.mem_singleton.1 hx]; exact h
theorem AllM.set {l : List MsgT} (h : AllM l) (k : Nat) {m : MsgT} (hm : MsgW m) : AllM (List.set l k m) := fun x hx => by
  rcases List.mem_or_eq_of_mem_set hx with h' | h'
  · exact h x h'
  · rw [h']; exact hm
end Go.Pon
set_option autoImplicit false
set_option linter.unusedVariables false
set_option linter.unusedSimpArgs false
set_option maxRecDepth 100000
namespace Go.Pon
open Go
theorem verify_proof {l : List (List Int)} {i n : Nat} (hi : i < n) (hn : n ≤ l.length) : verifyH (rootH (l.take n)) ((n : Nat) : Int) ((i : Nat) : Int) (l.getD i Z32) (proofH (l.take n) i) = true := by
  have e1 : (l.take n).length = n := by rw [List.length_take]; omega
  have e2 : (l.take n).getD i Z32 = l.getD i Z32 := by
    rw [List.getD_eq_getElem?_getD, List.getElem?_take, if_pos hi, List.getD_eq_getElem?_getD]
  have := up_proof n (l.take n) i (by omega) (by omega)
  rw [e1, e2] at this
  unfold verifyH
  rw [decide_eq_true (by omega), Int.toNat_natCast, Int.toNat_natCast, this]
  simp
end Go.Pon
set_option autoImplicit false
namespace Go.Pon
open Go
theorem bigLoop_pred {ω δ : Type} {round : (δ → Option ω) → δ → Option ω} (I : δ → Prop) (m : δ → Nat) (P : Option ω → Prop)
    (h : ∀ x (again : δ → Option ω), I x → (∀ y, I y → m y < m x → P (again y)) → P (round again x)) {x : δ} (hx : I x) (hm : m x < bigN) : P (bigLoop ω δ round x) := by
  have key : ∀ n x, I x → m x < n → P (loopN round n x) := by
    intro n
    induction n with
    | zero => intro x _ hm; omega
    | succ n ih =>
      intro x hx hm
      rw [loopN_succ]
      exact h x _ hx fun y hy hlt => ih y hy (by omega)
  rw [bigLoop_def]
  exact key bigN x hx hm
end Go.Pon
set_option autoImplicit false
set_option linter.unusedVariables false
set_option linter.unusedSimpArgs false
namespace Go.Pon
open Go
theorem zMsg_eq : (((0 : Int), ((0 : Int), ([(0 : Int), (0 : Int), (0 : Int), (0 : Int)], ()))) : MsgT) = zeroMsg := rfl
theorem AllH.set {l : List (List Int)} {x : List Int} {i : Nat} (h : AllH l) (hx : H32 x) : AllH (l.set i x) := fun y hy => by
  rcases List.mem_or_eq_of_mem_set hy with hy | rfl
  · exact h y hy
  · exact hx
theorem proofH_len {l : List (List Int)} (h : AllH l) (i : Nat) : (proofH l i).length ≤ l.length ∧ AllH (proofH l i) := proofH_facts l.length l i (Nat.le_refl _) h
theorem leafM_ne : leafM (0, (7, (lim 21, ()))) ≠ leafM (0, (7, (lim 20, ()))) := by
  have : decide (leafM (0, (7, (lim 21, ()))) = leafM (0, (7, (lim 20, ())))) = false := by kernel_rfl
  exact of_decide_eq_false this
theorem verify_one (x y : List Int) : verifyH x 1 0 y [] = decide (y = x) := by
  unfold verifyH
  simp [upR]
theorem awake25 : sol_law25_awake () = some ((true, ()), ()) := by
  have l50 : ([(50 : Int), 0, 0, 0] : List Int) = lim 50 := rfl
  have l21 : ([(21 : Int), 0, 0, 0] : List Int) = lim 21 := rfl
  have l20 : ([(20 : Int), 0, 0, 0] : List Int) = lim 20 := rfl
  have l30 : ([(30 : Int), 0, 0, 0] : List Int) = lim 30 := rfl
  have u0 : U64 0 := by unfold U64; omega
  have u1 : U64 1 := by unfold U64; omega
  have u7 : U64 7 := by unfold U64; omega
  have b20 : B256 20 := by unfold B256; omega
  have b21 : B256 21 := by unfold B256; omega
  have hnil : AllH [] := fun x h => by simp at h
  unfold sol_law25_awake T_law25_awake
  rw [l50, l21, l20, l30, enew_eq]
  simp only [bind_some']
  rw [deposit_eq (by unfold B256; omega) (by unfold B256; omega)]
  simp only [bind_some', optR_some]
  rw [rLeafM_eq (MsgW.mk u0 u7 b20)]
  simp only [bind_some']
  rw [appendRoot_eq (by simp) rfl]
  simp only [bind_some', optR_some]
  have hi : EInv ([] ++ [leafM (0, (7, (lim 20, ())))]) ([] ++ [false]) 50 [] := ⟨rfl, by unfold B256; omega, List.Pairwise.nil, fun x h => by simp at h, fun x h => by simp at h⟩
  have hif : (if (50 : Nat) = 0 then 0 else if 0 + 50 < 115792089237316195423570985008687907853269984665640564039457584007913129639936 then 0 + 50 else 0) = 50 := by decide
  rw [hif]
  have hck1 : chkC ([] ++ [leafM (0, (7, (lim 20, ())))]) ([] ++ [false]) 0 1 7 21 [] = 16 := by
    unfold chkC
    rw [if_neg (by decide), if_neg (by decide), if_neg (by decide), if_neg]
    show ¬ verifyH (leafM (0, (7, (lim 20, ())))) 1 0 (leafM (0, (7, (lim 21, ())))) [] = true
    rw [verify_one, decide_eq_true_eq]
    exact leafM_ne
  have hck2 : chkC ([] ++ [leafM (0, (7, (lim 20, ())))]) ([] ++ [false]) 0 1 7 20 [] = 0 := by
    unfold chkC
    rw [if_neg (by decide), if_neg (by decide), if_neg (by decide), if_pos]
    show verifyH (leafM (0, (7, (lim 20, ())))) 1 0 (leafM (0, (7, (lim 20, ())))) [] = true
    rw [verify_one, decide_eq_true rfl]
  have s1 : clmS ([] ++ [leafM (0, (7, (lim 20, ())))]) ([] ++ [false]) 50 [] 0 1 7 21 [] = (16, ([] ++ [false], (50, []))) := by
    unfold clmS; rw [hck1]; rfl
  have s2 : clmS ([] ++ [leafM (0, (7, (lim 20, ())))]) ([] ++ [false]) 50 [] 0 1 7 20 [] = (0, ([true], (30, [(7, (lim 20, ()))]))) := by
    unfold clmS; rw [hck2, if_pos rfl, if_pos (by decide), if_pos (by decide)]; kernel_rfl
  rw [claim_eq hi (by simp) (by simp) (ClmW.mk u0 u1 u7 b21 hnil) u0 u7 b21, s1]
  simp only [bind_some', optR_some]
  rw [claim_eq hi (by simp) (by simp) (ClmW.mk u0 u1 u7 b20 hnil) u0 u7 b20, s2]
  simp only [bind_some', optR_some]
  have hi2 : EInv ([] ++ [leafM (0, (7, (lim 20, ())))]) [true] 30 [(7, (lim 20, ()))] := ⟨rfl, by unfold B256; omega, List.pairwise_singleton _ _, fun x h => by
    have : x = (7, (lim 20, ())) := by simpa using h
    subst this
    unfold isEP
    simp only [Prod.mk.injEq, true_and, and_true]
    rw [← lim0, lim_inj]
    omega, fun x h => by
    have : x = (7, (lim 20, ())) := by simpa using h
    subst this
    exact PayW.mk u7 b20⟩
  have hck3 : chkC ([] ++ [leafM (0, (7, (lim 20, ())))]) [true] 0 1 7 20 [] = 9 := by
    unfold chkC
    rw [if_neg (by decide), if_neg (by decide), if_pos (by decide)]
  have s3 : clmS ([] ++ [leafM (0, (7, (lim 20, ())))]) [true] 30 [(7, (lim 20, ()))] 0 1 7 20 [] = (9, ([true], (30, [(7, (lim 20, ()))]))) := by
    unfold clmS; rw [hck3]; rfl
  rw [claim_eq hi2 (by simp) (by simp) (ClmW.mk u0 u1 u7 b20 hnil) u0 u7 b20, s3]
  simp only [bind_some', optR_some]
  rw [brR_dec, if_pos (by decide), brR_dec, if_pos (by decide), brR_dec, if_pos trivial, brR_dec, if_pos trivial, brR_dec, if_pos trivial, ebal_eq]
  simp only [bind_some', optR_some]
  rw [eqD_iff.2 rfl, brR_true, l1bal_eq hi2.srt (by simp)]
  simp only [bind_some', optR_some]
  rw [eqD_iff.2 (by rfl)]
end Go.Pon
set_option autoImplicit false
set_option linter.unusedVariables false
set_option linter.unusedSimpArgs false
namespace Go.Pon
open Go
theorem ERel.root {r : List (List Int)} {cl : List Bool} {h : Nat} {p : List PayT} {cs : List Int} {m : List PayT} (e : ERel r cl h p cs m) (x : List Int) : ERel (r ++ [x]) (cl ++ [false]) h p cs m := by
  refine ⟨⟨by rw [List.length_append, List.length_append, e.inv.len]; rfl, e.inv.held, e.inv.srt, e.inv.ne, e.inv.all⟩, fun y hy => ?_, e.dist, e.all, e.ne, e.sort⟩
  rw [e.cls y hy]
  have : (cl ++ [false]).getD y.toNat false = cl.getD y.toNat false := by
    rw [List.getD_eq_getElem?_getD, List.getD_eq_getElem?_getD, List.getElem?_append]
    split
    · rfl
    · rename_i hxx
      rw [List.getElem?_eq_none (l := cl) (by omega)]
      cases hk : y.toNat - cl.length with
      | zero => rfl
      | succ k => rfl
  rw [this]
def okQ (l : List PayT) (i : Nat) : Prop := (l.getD i zPay).1 ≠ 0 ∧ ¬ isEP (l.getD i zPay) ∧ (0 < i → (l.getD (i - 1) zPay).1 < (l.getD i zPay).1)
def VP (l : List PayT) : Prop := ∀ i, i < l.length → okQ l i
theorem VP.srt {l : List PayT} (h : VP l) : SrtP l := by
  refine List.pairwise_iff_getElem.2 fun i j hi hj hij => ?_
  have key : ∀ d, i + 1 + d < l.length → (l.getD i zPay).1 < (l.getD (i + 1 + d) zPay).1 := by
    intro d
    induction d with
    | zero => intro hd; exact (h (i + 1) (by omega)).2.2 (by omega)
    | succ d ih =>
      intro hd
      have h1 := ih (by omega)
      have h2 := (h (i + 1 + (d + 1)) hd).2.2 (by omega)
      rw [show i + 1 + (d + 1) - 1 = i + 1 + d by omega] at h2
      omega
  have := key (j - i - 1) (by omega)
  rw [show i + 1 + (j - i - 1) = j by omega, List.getD_eq_getElem?_getD, List.getElem?_eq_getElem hi, List.getD_eq_getElem?_getD, List.getElem?_eq_getElem hj] at this
  exact this
theorem VP.ne {l : List PayT} (h : VP l) : NEP l := fun x hx => by
  obtain ⟨i, hi, rfl⟩ := List.getElem_of_mem hx
  have := (h i hi).2.1
  rw [List.getD_eq_getElem?_getD, List.getElem?_eq_getElem hi] at this
  exact this
theorem AllPay.at' {l : List PayT} (h : AllPay l) (i : Nat) : PayW (l.getD i zPay) := h.at i
end Go.Pon
set_option autoImplicit false
set_option linter.unusedVariables false
set_option linter.unusedSimpArgs false
namespace Go.Pon
open Go
abbrev tm (m : List MsgT) (k : Nat) : Int := (m.getD k zeroMsg).2.1
noncomputable abbrev am (m : List MsgT) (k : Nat) : Nat := val4 (m.getD k zeroMsg).2.2.1
structure GM (m : List MsgT) : Prop where
  len : m.length ≤ 20
  all : AllM m
  at' : ∀ k, k < m.length → m.getD k zeroMsg = (((k : Nat) : Int), (tm m k, (lim (am m k), ()))) ∧ U64 (tm m k) ∧ tm m k ≠ 0 ∧ am m k ≠ 0 ∧ am m k < 1361129467683753853853498429727072845824
theorem small_val {a c : Int} (ha : 0 ≤ a ∧ a ≤ 5000) (hc : 0 ≤ c ∧ c ≤ 2) : val4 [a, 0, c, 0] < 1361129467683753853853498429727072845824 := by
  obtain ⟨x, rfl⟩ := Int.eq_ofNat_of_zero_le ha.1
  obtain ⟨y, rfl⟩ := Int.eq_ofNat_of_zero_le hc.1
  have e : val4 [((x : Nat) : Int), 0, ((y : Nat) : Int), 0] = x + y * 340282366920938463463374607431768211456 := by
    unfold val4
    simp only [List.getD_cons_zero, List.getD_cons_succ, Int.toNat_natCast, Int.toNat_zero]
    omega
  rw [e]
  omega
theorem gm_vmsgs {s : List SendT} (hs : AllS s) (hl : s.length ≤ 20) : GM (vmsgs s s.length) := by
  have hv := vmsgs_ok hs (by omega)
  have hn := len_vmsgs s s.length
  refine ⟨by omega, hv.1, fun k hk => ?_⟩
  have hg := okM_iff.1 hv.2 k hk
  have hw := hv.1.at hk zeroMsg
  have hsm : am (vmsgs s s.length) k < 1361129467683753853853498429727072845824 := by
    unfold am
    rw [vmsgs_getD (by omega)]
    exact small_val (by omega) (by omega)
  unfold tm am at *
  generalize (vmsgs s s.length).getD k zeroMsg = x at *
  obtain ⟨q1, q2, q3⟩ := hw
  rename_i i t v
  unfold goodM at hg
  simp only [val4_lim, Bool.and_eq_true, decide_eq_true_eq, Bool.not_eq_true', decide_eq_false_iff_not] at hg hsm ⊢
  refine ⟨?_, q2, hg.2.1, hg.2.2, hsm⟩
  rw [hg.1]
noncomputable def rts (m : List MsgT) (n : Nat) : List (List Int) := (List.range n).map fun i => rootH ((m.map leafM).take (i + 1))
theorem len_rts (m : List MsgT) (n : Nat) : (rts m n).length = n := by simp [rts]
theorem rts_succ (m : List MsgT) (n : Nat) : rts m (n + 1) = rts m n ++ [rootH ((m.map leafM).take (n + 1))] := by simp [rts, List.range_succ]
theorem rts_getD {m : List MsgT} {n i : Nat} (h : i < n) : (rts m n).getD i Z32 = rootH ((m.map leafM).take (i + 1)) := by
  unfold rts
  rw [List.getD_eq_getElem?_getD, List.getElem?_map, List.getElem?_range h]
  rfl
noncomputable def usum (m : List MsgT) (cl : List Bool) : Nat → Nat
  | 0 => 0
  | n + 1 => usum m cl n + (if cl.getD n false = true then 0 else am m n)
theorem usum_congr {m : List MsgT} {a b : List Bool} : ∀ {n : Nat}, (∀ j, j < n → a.getD j false = b.getD j false) → usum m a n = usum m b n
  | 0, _ => rfl
  | n + 1, h => by
    unfold usum
    rw [usum_congr fun j hj => h j (by omega), h n (by omega)]
theorem usum_set {m : List MsgT} {cl : List Bool} {k : Nat} (hk : k < cl.length) (hc : cl.getD k false = false) : ∀ n : Nat, usum m (cl.set k true) n + (if k < n then am m k else 0) = usum m cl n
  | 0 => rfl
  | n + 1 => by
    have ih := usum_set (m := m) hk hc n
    have e1 : usum m (cl.set k true) (n + 1) = usum m (cl.set k true) n + (if (cl.set k true).getD n false = true then 0 else am m n) := rfl
    have e2 : usum m cl (n + 1) = usum m cl n + (if cl.getD n false = true then 0 else am m n) := rfl
    rw [getD_set_bool hk] at e1
    by_cases h : n = k
    · subst h
      rw [if_pos rfl, if_pos rfl] at e1
      rw [hc, if_neg (by decide)] at e2
      rw [if_neg (Nat.lt_irrefl _)] at ih
      rw [if_pos (by omega)]
      omega
    · rw [if_neg h] at e1
      by_cases h2 : k < n
      · rw [if_pos h2] at ih
        rw [if_pos (by omega)]; omega
      · rw [if_neg h2] at ih
        rw [if_neg (show ¬ k < n + 1 by omega)]; omega
theorem usum_zero {m : List MsgT} {cl : List Bool} : ∀ {n : Nat}, (∀ j, j < n → cl.getD j false = true) → usum m cl n = 0
  | 0, _ => rfl
  | n + 1, h => by
    unfold usum
    rw [usum_zero fun j hj => h j (by omega), if_pos (h n (by omega))]
theorem usum_le {m : List MsgT} (g : GM m) (cl : List Bool) : ∀ {n : Nat}, n ≤ m.length → usum m cl n ≤ n * 1361129467683753853853498429727072845824
  | 0, _ => Nat.zero_le _
  | n + 1, h => by
    have ih := usum_le g cl (n := n) (by omega)
    have h1 := (g.at' n (by omega)).2.2.2.2
    have h2 : usum m cl (n + 1) = usum m cl n + (if cl.getD n false = true then 0 else am m n) := rfl
    split at h2 <;> omega
theorem am_le {m : List MsgT} {cl : List Bool} {k n : Nat} (hk : k < n) (hc : cl.getD k false = false) (hl : k < cl.length) : am m k ≤ usum m cl n := by
  have := usum_set (m := m) hl hc n
  rw [if_pos hk] at this
  omega
noncomputable def addP (q : List PayT) (t : Int) (n : Nat) : List PayT := pput q (t, (lim (pbal q t + n), ()))
theorem pbal_le : ∀ (l : List PayT) (a : Int), pbal l a ≤ sumP l
  | [], a => by
    show val4 (ePay a).2.1 ≤ 0
    rw [show val4 (ePay a).2.1 = 0 from val4_z]
    exact Nat.le_refl _
  | x :: l, a => by
    have := pbal_le l a
    rw [sumP_cons]
    unfold pbal at *
    unfold pget
    by_cases h : x.1 = a
    · rw [if_pos h]; omega
    · rw [if_neg h]; omega
theorem sum_addP {q : List PayT} {t : Int} {n : Nat} (hs : SrtP q) : sumP (addP q t n) = sumP q + n := by
  have := sum_pput (y := (t, (lim (pbal q t + n), ()))) hs
  unfold addP
  simp only [val4_lim] at this
  unfold pbal at *
  omega
theorem pbal_addP {q : List PayT} {t : Int} {n : Nat} (hs : SrtP q) (a : Int) : pbal (addP q t n) a = if a = t then pbal q t + n else pbal q a := by
  show val4 (pget (pput q _) a).2.1 = _
  rw [pget_pput hs]
  by_cases h : a = t
  · rw [if_pos h, if_pos h, val4_lim]
  · rw [if_neg h, if_neg h]
theorem EInv.addP {r : List (List Int)} {cl : List Bool} {h : Nat} {q : List PayT} {t : Int} {n : Nat} (e : EInv r cl h q) (ht : U64 t) (hn : n ≤ h) (hb : pbal q t + n < 115792089237316195423570985008687907853269984665640564039457584007913129639936) (k : Nat) :
    EInv r (cl.set k true) (h - n) (addP q t n) := by
  have := e.held
  unfold B256 at this
  exact ⟨by rw [List.length_set]; exact e.len, by unfold B256; omega, srt_pput e.srt, ne_pput e.ne, all_pput e.all (PayW.mk ht hb)⟩
noncomputable abbrev own (m : List MsgT) (k n : Nat) : ClmT := (((k : Nat) : Int), (((n : Nat) : Int), (tm m k, (lim (am m k), (proofH ((m.map leafM).take n) k, ())))))
theorem own_W {m : List MsgT} (g : GM m) {k n : Nat} (hk : k < n) (hn : n ≤ m.length) : ClmW (own m k n) := by
  have hl := g.len
  obtain ⟨g1, g2, g3, g4, g5⟩ := g.at' k (by omega)
  exact ClmW.mk (by unfold U64; omega) (by unfold U64; omega) g2 (by unfold B256; omega) (proofH_len ((allH_leafM m).take n) k).2
theorem chk_own {m : List MsgT} (g : GM m) {k n : Nat} {cl : List Bool} (hk : k < n) (hn : n ≤ m.length) :
    chkC (rts m m.length) cl ((k : Nat) : Int) ((n : Nat) : Int) (tm m k) (am m k) (proofH ((m.map leafM).take n) k) = if cl.getD k false = true then 9 else 0 := by
  have hl := g.len
  obtain ⟨g1, g2, g3, g4, g5⟩ := g.at' k (by omega)
  have hpl := (proofH_len ((allH_leafM m).take n) k).1
  rw [List.length_take, List.length_map] at hpl
  unfold chkC
  rw [len_rts, if_neg (by omega), if_neg (by omega), Int.toNat_natCast]
  by_cases h : cl.getD k false = true
  · rw [if_pos h, if_pos h]
  rw [if_neg h, if_neg h, if_pos]
  rw [show (((n : Nat) : Int) - 1).toNat = n - 1 by omega, rts_getD (by omega), show n - 1 + 1 = n by omega]
  have e : (m.map leafM).getD k Z32 = leafM (((k : Nat) : Int), (tm m k, (lim (am m k), ()))) := by
    rw [← g1]
    simp only [List.getD_eq_getElem?_getD, List.getElem?_map]
    rw [List.getElem?_eq_getElem (by omega)]
    rfl
  rw [← e]
  exact verify_proof hk (by rw [List.length_map]; exact hn)
theorem claim_new {m : List MsgT} (g : GM m) {k n : Nat} {cl : List Bool} {h : Nat} {q : List PayT} (e : EInv (rts m m.length) cl h q) (hq : q.length ≤ 10000) (hk : k < n) (hn : n ≤ m.length) (hc : cl.getD k false = false) (ha : am m k ≤ h)
    (hb : sumP q + am m k < 115792089237316195423570985008687907853269984665640564039457584007913129639936) :
    sol_escrow_Escrow_Claim (some (esc (rts m m.length) cl h q), (own m k n, ())) = some (((0 : Int), ()), (some (esc (rts m m.length) (cl.set k true) (h - am m k) (addP q (tm m k) (am m k))), ((), ()))) := by
  have hl := g.len
  obtain ⟨g1, g2, g3, g4, g5⟩ := g.at' k (by omega)
  have hpb := pbal_le q (tm m k)
  rw [claim_eq e (by rw [len_rts]; omega) (by omega) (own_W g hk hn) (by unfold U64; omega) g2 (by unfold B256; omega)]
  have : clmS (rts m m.length) cl h q ((k : Nat) : Int) ((n : Nat) : Int) (tm m k) (am m k) (proofH ((m.map leafM).take n) k) = (0, (cl.set k true, (h - am m k, addP q (tm m k) (am m k)))) := by
    unfold clmS
    rw [chk_own g hk hn, hc, show (if false = true then (9 : Int) else 0) = 0 from rfl, if_pos rfl, if_pos ha, if_pos (by omega), Int.toNat_natCast]
    rfl
  rw [this]
theorem claim_old {m : List MsgT} (g : GM m) {k n : Nat} {cl : List Bool} {h : Nat} {q : List PayT} (e : EInv (rts m m.length) cl h q) (hq : q.length ≤ 10000) (hk : k < n) (hn : n ≤ m.length) (hc : cl.getD k false = true) :
    sol_escrow_Escrow_Claim (some (esc (rts m m.length) cl h q), (own m k n, ())) = some (((9 : Int), ()), (some (esc (rts m m.length) cl h q), ((), ()))) := by
  have hl := g.len
  obtain ⟨g1, g2, g3, g4, g5⟩ := g.at' k (by omega)
  rw [claim_eq e (by rw [len_rts]; omega) (by omega) (own_W g hk hn) (by unfold U64; omega) g2 (by unfold B256; omega)]
  have : clmS (rts m m.length) cl h q ((k : Nat) : Int) ((n : Nat) : Int) (tm m k) (am m k) (proofH ((m.map leafM).take n) k) = (9, (cl, (h, q))) := by
    unfold clmS
    rw [chk_own g hk hn, hc, show (if true = true then (9 : Int) else 0) = 9 from rfl, if_neg (by decide)]
  rw [this]
end Go.Pon
set_option autoImplicit false
set_option linter.unusedVariables false
set_option linter.unusedSimpArgs false
namespace Go.Pon
open Go
abbrev YE4 := (Bool × Unit) × (Unit × (Unit × (Unit × Unit)))
theorem law_EscrowClaimOnce_at (s : List SendT) (od : List Int) (sz : Int) (hs : AllS s) (ho : ∀ x ∈ od, I64 x) (hz : I64 sz) : ∃ y, sol_law25_EscrowClaimOnce (s, (od, (sz, ()))) = some y ∧ y.1.1 = true := by
  unfold sol_law25_EscrowClaimOnce T_law25_EscrowClaimOnce
  simp only [letR_eq]
  rw [awake25, brR_dec]
  by_cases c0 : ((s.length : Nat) : Int) > 20
  · rw [if_pos c0]; exact ⟨_, rfl, rfl⟩
  rw [if_neg c0, brR_dec]
  by_cases c2 : ((od.length : Nat) : Int) > 60
  · rw [if_pos c2]; exact ⟨_, rfl, rfl⟩
  rw [if_neg c2, brR_dec]
  by_cases c1 : ((s.length : Nat) : Int) = 0
  · rw [if_pos c1]; exact ⟨_, rfl, rfl⟩
  rw [if_neg c1, joinR_eq]
  unfold T_law25_EscrowClaimOnce_join0
  simp only
  rw [lawValid_eq hs (by omega), bind_some', enew_eq, bind_some']
  have g := gm_vmsgs hs (by omega)
  have hvl := len_vmsgs s s.length
  generalize vmsgs s s.length = m at *
  have hl := g.len
  simp only
  rw [← lim0]
  refine bigLoop_pred (I := fun x => ∃ (k : Nat) (cl : List Bool), k ≤ m.length ∧ (∀ j, cl.getD j false = false) ∧ EInv (rts m k) cl 0 [] ∧ x = (od, (sz, (m, (esc (rts m k) cl 0 [], (lim (usum m [] k), (lim 0, (((k : Nat) : Int), ()))))))))
    (m := fun x => (((m.length : Nat) : Int) - x.2.2.2.2.2.2.1).toNat) (P := fun r => ∃ w : YE4, r = some w ∧ w.1.1 = true) ?_
    ⟨0, [], by omega, fun j => by simp, einv_nil, rfl⟩ (by simp only [bigN_eq]; omega)
  rintro x again ⟨k, cl, hk, hcl, e, rfl⟩ hag
  simp only at hag ⊢
  unfold T_law25_EscrowClaimOnce_loop1
  rw [zMsg_eq]
  simp only [letR_eq]
  rw [brR_dec]
  have hle := usum_le g [] (n := k) (by omega)
  by_cases c : ((k : Nat) : Int) < ((m.length : Nat) : Int)
  · have hw1 : IntKind.wrap .i64 (((k : Nat) : Int) + 1) = ((k + 1 : Nat) : Int) := by rw [w_i64 (by omega) (by omega), Int.natCast_add]; rfl
    obtain ⟨g1, g2, g3, g4, g5⟩ := g.at' k (by omega)
    have e1 : (m.getD k zeroMsg).2.2.1 = lim (am m k) := by rw [g1]
    have hus : usum m [] (k + 1) = usum m [] k + am m k := rfl
    have hB : B256 (am m k) := by unfold B256; omega
    have hN : B256 (usum m [] k) := by unfold B256; omega
    have hN2 : usum m [] k + am m k < 115792089237316195423570985008687907853269984665640564039457584007913129639936 := by omega
    rw [if_pos c, brR_inR, if_pos (by omega), Int.toNat_natCast, e1, satAdd_eq hN hB, bind_some', sat_of hN2]
    dsimp only
    rw [hw1, r24Root_in g.all (by omega) (by omega), bind_some', appendRoot_eq (by rw [len_rts]; omega) e.len, bind_some']
    dsimp only
    rw [optR_some, len_rts, brR_not, brR_dec, if_pos rfl, ← rts_succ, ← hus]
    exact hag _ ⟨k + 1, cl ++ [false], by omega, fun j => by
      rw [List.getD_eq_getElem?_getD, List.getElem?_append]
      split
      · rw [← List.getD_eq_getElem?_getD]; exact hcl j
      · cases hk : j - cl.length with
        | zero => rfl
        | succ k => rfl,
      ⟨by rw [List.length_append, e.len, len_rts, len_rts]; rfl, e.held, e.srt, e.ne, e.all⟩, rfl⟩ (by simp only; omega)
  rw [if_neg c]
  clear hag again
  obtain rfl : k = m.length := by omega
  have hlen := e.len
  rw [len_rts] at hlen
  have hT : usum m [] m.length < 115792089237316195423570985008687907853269984665640564039457584007913129639936 := by omega
  have hu : usum m cl m.length = usum m [] m.length := usum_congr fun j hj => by rw [hcl j]; rfl
  have hT0 : usum m [] m.length ≠ 0 := by
    obtain ⟨g1, g2, g3, g4, g5⟩ := g.at' 0 (by omega)
    have := am_le (m := m) (n := m.length) (k := 0) (cl := cl) (by omega) (hcl 0) (by omega)
    omega
  have hrep : List.replicate m.length false = cl := by
    refine (List.eq_replicate_iff.2 ⟨hlen, fun b hb => ?_⟩).symm
    obtain ⟨i, hi, rfl⟩ := List.getElem_of_mem hb
    have := hcl i
    rw [List.getD_eq_getElem?_getD, List.getElem?_eq_getElem hi] at this
    exact this
  generalize hTT : usum m [] m.length = T at *
  rw [deposit_eq e.held hT, bind_some']
  dsimp only
  simp only [if_neg hT0, Nat.zero_add, if_pos hT, if_true]
  rw [optR_some, brR_not, brR_dec, if_pos trivial, decide_eq_true (show (0 : Int) ≤ ((m.length : Nat) : Int) by omega), decide_eq_true (Int.le_refl _), Int.toNat_natCast, roomyBo (by omega), Bool.and_true, Bool.and_true, Bool.and_true, brR_true, hrep]
  have e0 : EInv (rts m m.length) cl T [] := ⟨e.len, hT, e.srt, e.ne, e.all⟩
  clear hrep e
  refine bigLoop_pred (I := fun x => ∃ (i : Nat) (cl : List Bool) (h : Nat) (q : List PayT), i ≤ od.length + m.length ∧ EInv (rts m m.length) cl h q ∧ q.length ≤ i ∧ h = usum m cl m.length ∧ h + sumP q = T ∧ (∀ j, od.length + j < i → cl.getD j false = true) ∧
      x = (od, (sz, (m, (esc (rts m m.length) cl h q, (lim T, (lim (sumP q), (cl, (((i : Nat) : Int), ())))))))))
    (m := fun x => (((od.length + m.length : Nat) : Int) - x.2.2.2.2.2.2.2.1).toNat) (P := fun r => ∃ w : YE4, r = some w ∧ w.1.1 = true) ?_
    ⟨0, cl, T, [], by omega, e0, by simp, by omega, by rw [sumP_nil, Nat.add_zero], fun j hj => by omega, rfl⟩ (by simp only [bigN_eq]; omega)
  clear e0 hcl hu hlen cl c hk hle
  rintro x again ⟨i, cl, h, q, hi, e, hql, hu, hsum, hdone, rfl⟩ hag
  simp only at hag ⊢
  unfold T_law25_EscrowClaimOnce_loop2
  simp only [letR_eq]
  have hlen := e.len
  rw [len_rts] at hlen
  rw [brR_dec, w_i64 (n := ((od.length : Nat) : Int) + ((m.length : Nat) : Int)) (by omega) (by omega)]
  by_cases c : ((i : Nat) : Int) < ((od.length : Nat) : Int) + ((m.length : Nat) : Int)
  case neg =>
    have hz : h = 0 := by
      rw [hu]
      exact usum_zero fun j hj => hdone j (by omega)
    rw [if_neg c, ebal_eq, bind_some']
    dsimp only
    rw [optR_some, ← lim0, hz, eqD_iff.2 rfl, brR_true, awake25]
    exact ⟨_, rfl, rfl⟩
  rw [if_pos c]
  have j3 : ∀ k : Nat, k < m.length → (∀ j, od.length + j < i + 1 → od.length + j < i ∨ j = k) → ∃ w : YE4, T_law25_EscrowClaimOnce_join3 sol_law0_Mod sol_ref24_Proof sol_escrow_Escrow_L1Balance sol_escrow_Escrow_Claim sol_uint256_SaturatingAdd sol_escrow_Escrow_Claimed sol_escrow_Escrow_Balance again od sz m (esc (rts m m.length) cl h q) (lim T) (lim (sumP q)) cl ((i : Nat) : Int) ((k : Nat) : Int) = some w ∧ w.1.1 = true := fun k hk hnext => by
    obtain ⟨g1, g2, g3, g4, g5⟩ := g.at' k hk
    have e1 : (m.getD k zeroMsg).2.2.1 = lim (am m k) := by rw [g1]
    unfold T_law25_EscrowClaimOnce_join3
    rw [zMsg_eq]
    simp only [letR_eq]
    unfold I64 at hz
    have hw1 : IntKind.wrap .i64 (((k : Nat) : Int) + 1) = ((k + 1 : Nat) : Int) := by rw [w_i64 (by omega) (by omega), Int.natCast_add]; rfl
    have hw2 : IntKind.wrap .i64 (((m.length : Nat) : Int) - ((k : Nat) : Int)) = ((m.length : Nat) : Int) - ((k : Nat) : Int) := w_i64 (by omega) (by omega)
    rw [hw1, hw2, mod_eq hz.1 hz.2 (by omega) (by omega), bind_some']
    have ms := mod_range (x := sz) (n := ((m.length : Nat) : Int) - ((k : Nat) : Int)) (by omega)
    dsimp only
    generalize sz % 18446744073709551616 % (((m.length : Nat) : Int) - ((k : Nat) : Int)) = z at *
    obtain ⟨zn, rfl⟩ := Int.eq_ofNat_of_zero_le ms.1
    have hw3 : IntKind.wrap .i64 (((k + 1 : Nat) : Int) + ((zn : Nat) : Int)) = ((k + 1 + zn : Nat) : Int) := by rw [w_i64 (by omega) (by omega), Int.natCast_add (k + 1)]
    have hkn : k < k + 1 + zn := by omega
    have hnl : k + 1 + zn ≤ m.length := by omega
    rw [hw3, r24Proof_in g.all (by omega) hkn hnl, bind_some']
    dsimp only
    have im : (0 : Int) ≤ ((k : Nat) : Int) ∧ ((k : Nat) : Int) < ((m.length : Nat) : Int) := by omega
    have hpm := pget_mk (a := tm m k) e.all g2
    have e2 : (pget q (tm m k)).2.1 = lim (pbal q (tm m k)) := by rw [hpm.1]
    rw [brR_inR, if_pos im, Int.toNat_natCast, l1bal_eq e.srt (by omega), bind_some', e2]
    dsimp only
    have hwk : IntKind.wrap .u64 ((k : Nat) : Int) = ((k : Nat) : Int) := w_u64 (by omega) (by omega)
    have hwn : IntKind.wrap .u64 ((k + 1 + zn : Nat) : Int) = ((k + 1 + zn : Nat) : Int) := w_u64 (by omega) (by omega)
    rw [optR_some, brR_inR, if_pos im, brR_inR, if_pos im, hwk, hwn, e1]
    cases hck : cl.getD k false with
    | true =>
      have hcl := claim_old g e (by omega) hkn hnl hck
      rw [hcl, bind_some']
      dsimp only
      rw [optR_some, brR_inR, if_pos (by omega), brR_true, brR_not, brR_dec, if_pos rfl, brR_inR, if_pos im, l1bal_eq e.srt (by omega), bind_some', e2]
      dsimp only
      rw [optR_some, eqD_iff.2 rfl, brR_not, brR_true, joinR_eq]
      unfold T_law25_EscrowClaimOnce_join4
      rw [w_i64 (n := ((i : Nat) : Int) + 1) (by omega) (by omega)]
      exact hag _ ⟨i + 1, cl, h, q, by omega, e, by omega, hu, hsum, fun j hj => by
        rcases hnext j hj with hj | rfl
        · exact hdone j hj
        · exact hck, by rw [Int.natCast_add]; rfl⟩ (by simp only; omega)
    | false =>
      have ha := am_le (m := m) (n := m.length) hk hck (by omega)
      have hbb : sumP q + am m k < 115792089237316195423570985008687907853269984665640564039457584007913129639936 := by omega
      have hcl := claim_new g e (by omega) hkn hnl hck (by omega) hbb
      have hpb := pbal_le q (tm m k)
      have hP : pbal q (tm m k) + am m k < 115792089237316195423570985008687907853269984665640564039457584007913129639936 := by omega
      have en := e.addP (t := tm m k) (n := am m k) g2 (by omega) hP k
      have hS : B256 (sumP q) := by unfold B256; omega
      have hA : B256 (am m k) := by unfold B256; omega
      have hs2 := sum_addP (t := tm m k) (n := am m k) e.srt
      have hl2 : (addP q (tm m k) (am m k)).length ≤ q.length + 1 := len_pput _ _
      have hb2 := pbal_addP (t := tm m k) (n := am m k) e.srt (tm m k)
      rw [if_pos rfl] at hb2
      have hpm2 := pget_mk (a := tm m k) en.all g2
      have e3 : (pget (addP q (tm m k) (am m k)) (tm m k)).2.1 = lim (pbal q (tm m k) + am m k) := by rw [hpm2.1, hb2]
      have us := usum_set (m := m) (show k < cl.length by omega) hck m.length
      rw [if_pos hk] at us
      rw [hcl, bind_some']
      dsimp only
      rw [optR_some, brR_inR, if_pos (by omega), brR_false, brR_inR, if_pos im, satAdd_eq hS hA, bind_some', sat_of hbb]
      dsimp only
      rw [brR_not, brR_dec, if_pos rfl, claimed_eq en.len (by rw [len_rts]; omega) (by unfold U64; omega), bind_some']
      dsimp only
      rw [optR_some, Int.toNat_natCast, getD_set_bool (by omega), if_pos rfl, brR_not, brR_true, brR_inR, if_pos im, l1bal_eq en.srt (by omega), bind_some', e3]
      dsimp only
      rw [optR_some, brR_inR, if_pos im, satAdd_eq hpm.2 hA, bind_some', sat_of hP]
      dsimp only
      rw [eqD_iff.2 rfl, brR_not, brR_true, ebal_eq, bind_some']
      dsimp only
      have hH : B256 (h - am m k) := en.held
      have hX : B256 (sumP q + am m k) := hbb
      have hY : h - am m k + (sumP q + am m k) = T := by omega
      rw [optR_some, satAdd_eq hH hX, bind_some', hY, sat_of hT]
      dsimp only
      rw [eqD_iff.2 rfl, brR_not, brR_true, joinR_eq]
      unfold T_law25_EscrowClaimOnce_join5
      dsimp only
      rw [brR_inR, if_pos (by omega), joinR_eq, Int.toNat_natCast]
      unfold T_law25_EscrowClaimOnce_join4
      rw [w_i64 (n := ((i : Nat) : Int) + 1) (by omega) (by omega)]
      exact hag _ ⟨i + 1, cl.set k true, h - am m k, addP q (tm m k) (am m k), by omega, en, by omega, by omega, by omega, fun j hj => by
        rw [getD_set_bool (by omega)]
        rcases hnext j hj with hj | rfl
        · rw [hdone j hj]; split <;> rfl
        · rw [if_pos rfl], by rw [Int.natCast_add, hs2]; rfl⟩ (by simp only; omega)
  rw [brR_dec]
  by_cases d : ((i : Nat) : Int) < ((od.length : Nat) : Int)
  · have hoi : I64 (od.getD i 0) := ho _ (getD_mem (by omega))
    unfold I64 at hoi
    rw [if_pos d, brR_inR, if_pos (by omega), Int.toNat_natCast, mod_eq hoi.1 hoi.2 (by omega) (by omega), bind_some']
    have mk := mod_range (x := od.getD i 0) (n := ((m.length : Nat) : Int)) (by omega)
    dsimp only
    generalize od.getD i 0 % 18446744073709551616 % ((m.length : Nat) : Int) = k at *
    obtain ⟨kn, rfl⟩ := Int.eq_ofNat_of_zero_le mk.1
    rw [joinR_eq]
    exact j3 kn (by omega) (fun j hj => by omega)
  · rw [if_neg d, joinR_eq]
    have hw : IntKind.wrap .i64 (((i : Nat) : Int) - ((od.length : Nat) : Int)) = ((i - od.length : Nat) : Int) := by rw [w_i64 (by omega) (by omega)]; omega
    rw [hw]
    exact j3 (i - od.length) (by omega) (fun j hj => by omega)
theorem law_EscrowClaimOnce : ∀ x, wfL s_law25_EscrowClaimOnce.ins x → ∃ y, sol_law25_EscrowClaimOnce x = some y ∧ y.1.1 = true :=
  fun ⟨s, o, z, _⟩ ⟨hs, ho, hz, _⟩ => law_EscrowClaimOnce_at s o z (allS_wf hs) (fun x hx => inK_i64.1 (ho.2 x hx)) (inK_i64.1 hz)
end Go.Pon
