/-
  Part of a proof: general lemmas, merged by a program of this work.
-/
import Derived.Test.YtjnjdkefncdlpaaPEscrowNil1
set_option autoImplicit false
set_option linter.unusedVariables false
set_option linter.unusedSimpArgs false
namespace Go.Pon
open Go
theorem AllH.set {l : List (List Int)} {x : List Int} {i : Nat} (h : AllH l) (hx : H32 x) : AllH (l.set i x) := fun y hy => by
  rcases List.mem_or_eq_of_mem_set hy with hy | rfl
  · exact h y hy
  · exact hx
theorem leafM_ne : leafM (0, (7, (lim 21, ()))) ≠ leafM (0, (7, (lim 20, ()))) := by
  have : decide (leafM (0, (7, (lim 21, ()))) = leafM (0, (7, (lim 20, ())))) = false := by kernel_rfl
  exact of_decide_eq_false this
theorem verify_one (x y : List Int) : verifyH x 1 0 y [] = decide (y = x) := by
  unfold verifyH
  simp [upR]
theorem awake25 : sol_law25_awake () = some ((true, ()), ()) := by
  have l50 : ([(50 : Int), 0, 0, 0] : List Int) = lim 50 := rfl
  have l21 : ([(21 : Int), 0, 0, 0] : List Int) = lim 21 := rfl
  have l20 : ([(20 : Int), 0, 0, 0] : List Int) = lim 20 := rfl
  have l30 : ([(30 : Int), 0, 0, 0] : List Int) = lim 30 := rfl
  have u0 : U64 0 := by unfold U64; omega
  have u1 : U64 1 := by unfold U64; omega
  have u7 : U64 7 := by unfold U64; omega
  have b20 : B256 20 := by unfold B256; omega
  have b21 : B256 21 := by unfold B256; omega
  have hnil : AllH [] := fun x h => by simp at h
  unfold sol_law25_awake T_law25_awake
  rw [l50, l21, l20, l30, enew_eq]
  simp only [bind_some']
  rw [deposit_eq (by unfold B256; omega) (by unfold B256; omega)]
  simp only [bind_some', optR_some]
  rw [rLeafM_eq (MsgW.mk u0 u7 b20)]
  simp only [bind_some']
  rw [appendRoot_eq (by simp) rfl]
  simp only [bind_some', optR_some]
  have hi : EInv ([] ++ [leafM (0, (7, (lim 20, ())))]) ([] ++ [false]) 50 [] := ⟨rfl, by unfold B256; omega, List.Pairwise.nil, fun x h => by simp at h, fun x h => by simp at h⟩
  have hif : (if (50 : Nat) = 0 then 0 else if 0 + 50 < 115792089237316195423570985008687907853269984665640564039457584007913129639936 then 0 + 50 else 0) = 50 := by decide
  rw [hif]
  have hck1 : chkC ([] ++ [leafM (0, (7, (lim 20, ())))]) ([] ++ [false]) 0 1 7 21 [] = 16 := by
    unfold chkC
    rw [if_neg (by decide), if_neg (by decide), if_neg (by decide), if_neg]
    show ¬ verifyH (leafM (0, (7, (lim 20, ())))) 1 0 (leafM (0, (7, (lim 21, ())))) [] = true
    rw [verify_one, decide_eq_true_eq]
    exact leafM_ne
  have hck2 : chkC ([] ++ [leafM (0, (7, (lim 20, ())))]) ([] ++ [false]) 0 1 7 20 [] = 0 := by
    unfold chkC
    rw [if_neg (by decide), if_neg (by decide), if_neg (by decide), if_pos]
    show verifyH (leafM (0, (7, (lim 20, ())))) 1 0 (leafM (0, (7, (lim 20, ())))) [] = true
    rw [verify_one, decide_eq_true rfl]
  have s1 : clmS ([] ++ [leafM (0, (7, (lim 20, ())))]) ([] ++ [false]) 50 [] 0 1 7 21 [] = (16, ([] ++ [false], (50, []))) := by
    unfold clmS; rw [hck1]; rfl
  have s2 : clmS ([] ++ [leafM (0, (7, (lim 20, ())))]) ([] ++ [false]) 50 [] 0 1 7 20 [] = (0, ([true], (30, [(7, (lim 20, ()))]))) := by
    unfold clmS; rw [hck2, if_pos rfl, if_pos (by decide), if_pos (by decide)]; kernel_rfl
  rw [claim_eq hi (by simp) (by simp) (ClmW.mk u0 u1 u7 b21 hnil) u0 u7 b21, s1]
  simp only [bind_some', optR_some]
  rw [claim_eq hi (by simp) (by simp) (ClmW.mk u0 u1 u7 b20 hnil) u0 u7 b20, s2]
  simp only [bind_some', optR_some]
  have hi2 : EInv ([] ++ [leafM (0, (7, (lim 20, ())))]) [true] 30 [(7, (lim 20, ()))] := ⟨rfl, by unfold B256; omega, List.pairwise_singleton _ _, fun x h => by
    have : x = (7, (lim 20, ())) := by simpa using h
    subst this
    unfold isEP
    simp only [Prod.mk.injEq, true_and, and_true]
    rw [← lim0, lim_inj]
    omega, fun x h => by
    have : x = (7, (lim 20, ())) := by simpa using h
    subst this
    exact PayW.mk u7 b20⟩
  have hck3 : chkC ([] ++ [leafM (0, (7, (lim 20, ())))]) [true] 0 1 7 20 [] = 9 := by
    unfold chkC
    rw [if_neg (by decide), if_neg (by decide), if_pos (by decide)]
  have s3 : clmS ([] ++ [leafM (0, (7, (lim 20, ())))]) [true] 30 [(7, (lim 20, ()))] 0 1 7 20 [] = (9, ([true], (30, [(7, (lim 20, ()))]))) := by
    unfold clmS; rw [hck3]; rfl
  rw [claim_eq hi2 (by simp) (by simp) (ClmW.mk u0 u1 u7 b20 hnil) u0 u7 b20, s3]
  simp only [bind_some', optR_some]
  rw [brR_dec, if_pos (by decide), brR_dec, if_pos (by decide), brR_dec, if_pos trivial, brR_dec, if_pos trivial, brR_dec, if_pos trivial, ebal_eq]
  simp only [bind_some', optR_some]
  rw [eqD_iff.2 rfl, brR_true, l1bal_eq hi2.srt (by simp)]
  simp only [bind_some', optR_some]
  rw [eqD_iff.2 (by rfl)]
theorem law_EscrowNil_at (n h : List Int) (a s : Int) (hs : U64 s) : ∃ y, sol_law25_EscrowNil (n, (h, (a, (s, ())))) = some y ∧ y.1.1 = true := by
  unfold U64 at hs
  have h0 : sol_escrow_Escrow_Claimed (none, (s, ())) = some ((false, ()), (none, ((), ()))) := by
    unfold sol_escrow_Escrow_Claimed T_escrow_Escrow_Claimed
    show (brR (decide (s < IntKind.wrap .u64 0)) none (some ((false, ()), (none, ((), ())))) : Option ((Bool × Unit) × (Option EscT × (Unit × Unit)))) = _
    rw [w_u64 (by omega) (by omega), brR_dec, if_neg (by omega)]
  unfold sol_law25_EscrowNil T_law25_EscrowNil
  rw [awake25, h0]
  exact ⟨_, rfl, rfl⟩
theorem law_EscrowNil : ∀ x, wfL s_law25_EscrowNil.ins x → ∃ y, sol_law25_EscrowNil x = some y ∧ y.1.1 = true :=
  fun ⟨n, h, a, s, _⟩ ⟨_, _, _, hs, _⟩ => law_EscrowNil_at n h a s (inK_u64.1 hs)
end Go.Pon
