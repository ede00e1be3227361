/-
  Part of a proof: general lemmas, merged by a program of this work.
-/
import Derived.Test.YtonakjfcigaaaaaP1
/-
  The laws of chapter 22.
-/
set_option autoImplicit false
set_option linter.unusedVariables false
set_option linter.unusedSimpArgs false
namespace Go.Pon
open Go

theorem lim0_eq : lim 0 = [(0 : Int), (0 : Int), (0 : Int), (0 : Int)] := rfl

theorem zeroTxW : TxW zeroTx := by
  have u0 : U64 0 := ⟨by omega, by omega⟩
  have b0 : B256 0 := by unfold B256; omega
  have := TxW.mk u0 u0 u0 b0 u0 b0 b0 u0 (d := []) (fun x hx => by cases hx)
  rw [lim0_eq] at this
  exact this

theorem awake22 : sol_law22_awake () = some ((true, ()), ()) := by
  unfold sol_law22_awake T_law22_awake
  rw [show (((0 : Int), ((0 : Int), ((0 : Int), ([(0 : Int), (0 : Int), (0 : Int), (0 : Int)], ((0 : Int), ([(0 : Int), (0 : Int), (0 : Int), (0 : Int)], ([(0 : Int), (0 : Int), (0 : Int), (0 : Int)], ((0 : Int), (([] : List Int), ()))))))))) : TxT) = zeroTx from rfl,
    txEncode_eq zeroTxW, txDecode_eq (by intro x hx; cases hx) (by simp)]
  have e1 : encodeR zeroTx = ([0, 0, 0, 0, 0, 0, 0, 0, 0], (0, ())) := by decide
  have e2 : (decTx []).2.1 = 3 := by decide
  simp only [bind_some', letR_eq, e1, e2]
  rfl

theorem law_TxEncode_at (t : TxT) (long : Bool) (ht : TxW t) : ∃ y, sol_law22_TxEncode (t, (long, ())) = some y ∧ y.1.1 = true := by
  unfold sol_law22_TxEncode T_law22_TxEncode
  simp only [letR_eq]
  rw [awake22]
  simp only [brR_dec, bind_some']
  by_cases c1 : ((t.2.2.2.2.2.2.2.2.1.length : Nat) : Int) > 5000
  · rw [if_pos c1]; exact ⟨_, rfl, rfl⟩
  rw [if_neg c1, txEncode_eq ht, rEncode_eq ht]
  simp only [bind_some', equalBytes_eq, decide_true, brR_true, if_true]
  cases long with
  | false => exact ⟨_, rfl, rfl⟩
  | true =>
    rw [brR_true, brR_room8 (by omega)]
    have h2 : TxW (t.1, (t.2.1, (t.2.2.1, (t.2.2.2.1, (t.2.2.2.2.1, (t.2.2.2.2.2.1, (t.2.2.2.2.2.2.1, (t.2.2.2.2.2.2.2.1, (List.append (List.replicate (4066 : Nat) (0 : Int)) t.2.2.2.2.2.2.2.2.1, t.2.2.2.2.2.2.2.2.2))))))))) := by
      obtain ⟨ha, hn, ho, hv, hg, hf, hp, he, hd⟩ := ht
      refine .mk ha hn ho hv hg hf hp he (Bytes.append (fun x hx => ?_) hd)
      rw [List.eq_of_mem_replicate hx]; omega
    rw [txEncode_eq h2, rEncode_eq h2]
    simp only [bind_some', equalBytes_eq, decide_true, brR_true, if_true]
    exact ⟨_, rfl, rfl⟩

theorem law_TxEncode : ∀ x, wfL s_law22_TxEncode.ins x → ∃ y, sol_law22_TxEncode x = some y ∧ y.1.1 = true :=
  fun ⟨t, l, _⟩ ⟨ht, _⟩ => law_TxEncode_at t l (tx_wf ht)

/-! ### Canonical -/

theorem law_TxCanonical_loop (bs : List (List Int)) (h2 : bs.length = 2) (hb : ∀ b ∈ bs, Bytes b ∧ b.length ≤ 2000000) :
    bigLoop _ _ (fun again x => T_law22_TxCanonical_loop0 sol_tx_Decode sol_ref22_Equal sol_tx_Encode sol_law0_EqualBytes sol_law22_awake again x.1 x.2.1) (bs, ((0 : Int), ())) = some ((true, ()), ((), ((), ((), ((), ()))))) := by
  refine bigLoop_rule (I := fun s => s.1 = bs ∧ 0 ≤ s.2.1 ∧ s.2.1 ≤ 2) (m := fun s => (2 - s.2.1).toNat) (g := fun _ => some ((true, ()), ((), ((), ((), ((), ()))))))
    ?_ ⟨rfl, by simp, by simp⟩ (by rw [bigN_eq]; simp)
  rintro ⟨bs', i, _⟩ again ⟨rfl, h0, h1⟩ hag
  simp only at h0 h1 hag ⊢
  unfold T_law22_TxCanonical_loop0
  rw [awake22]
  simp only [brR_dec, brR_inR, bind_some']
  by_cases hi : i < 2
  · rw [if_pos hi, if_pos (by omega), hag (bs', (IntKind.wrap .i64 (i + 1), ())) ⟨rfl, by simp only; rw [w_i64 (by omega) (by omega)]; omega, by simp only; rw [w_i64 (by omega) (by omega)]; omega⟩ (by simp only; rw [w_i64 (by omega) (by omega)]; omega)]
    obtain ⟨hb, hl⟩ := hb _ (getD_mem (d := ([] : List Int)) (i := i.toNat) (by omega))
    generalize List.getD bs' i.toNat [] = b at hb hl ⊢
    rw [txDecode_eq hb (by omega)]
    simp only [bind_some', brR_not, brR_dec]
    rcases dec_enc hb (by omega) with ⟨t, ht, hd, he, hdec⟩ | hdec
    · rw [hdec]
      simp only [if_true]
      rw [txEncode_eq ht]
      unfold encodeR
      rw [if_pos hd, he]
      simp only [bind_some', equalBytes_eq, decide_true, brR_true, if_true]
    · rw [hdec]
      rw [show (((0 : Int), ((0 : Int), ((0 : Int), ([(0 : Int), (0 : Int), (0 : Int), (0 : Int)], ((0 : Int), ([(0 : Int), (0 : Int), (0 : Int), (0 : Int)], ([(0 : Int), (0 : Int), (0 : Int), (0 : Int)], ((0 : Int), (([] : List Int), ()))))))))) : TxT) = zeroTx from rfl]
      simp only [rEqual_eq, eqTx_self, bind_some', brR_true, if_true]
      rw [if_neg (by omega)]
  · rw [if_neg hi]

theorem modR22 {x : Int} {n : Nat} (h0 : -9223372036854775808 ≤ x ∧ x ≤ 9223372036854775807) (h2 : 1 ≤ n) (h3 : n ≤ 9223372036854775807) :
    ∃ r : Nat, r < n ∧ sol_law0_Mod (x, (((n : Nat) : Int), ())) = some ((((r : Nat) : Int), ()), ((), ((), ()))) := by
  rw [mod_eq h0.1 h0.2 (by omega) (by omega)]
  have hm0 : 0 ≤ (x % 18446744073709551616) % ((n : Nat) : Int) := Int.emod_nonneg _ (by omega)
  have hm1 : (x % 18446744073709551616) % ((n : Nat) : Int) < ((n : Nat) : Int) := Int.emod_lt_of_pos _ (by omega)
  obtain ⟨r, hr⟩ := Int.eq_ofNat_of_zero_le hm0
  exact ⟨r, by omega, by rw [hr]⟩

theorem bytes_set {b : List Int} (hb : Bytes b) {i : Nat} {c : Int} (hc : 0 ≤ c ∧ c ≤ 255) : Bytes (b.set i c) := fun y hy => by
  rcases List.mem_or_eq_of_mem_set hy with hh | rfl
  · exact hb y hh
  · exact hc

theorem law_TxCanonical_at (b : List Int) (t : TxT) (at_ c : Int) (hb : Bytes b) (ht : TxW t) (hat : -9223372036854775808 ≤ at_ ∧ at_ ≤ 9223372036854775807) (hc : 0 ≤ c ∧ c ≤ 255) :
    ∃ y, sol_law22_TxCanonical (b, (t, (at_, (c, ())))) = some y ∧ y.1.1 = true := by
  unfold sol_law22_TxCanonical T_law22_TxCanonical
  simp only [letR_eq]
  rw [awake22]
  simp only [brR_dec, bind_some']
  by_cases c1 : ((b.length : Nat) : Int) > 600
  · rw [if_pos c1]; exact ⟨_, rfl, rfl⟩
  rw [if_neg c1]
  by_cases c2 : ((t.2.2.2.2.2.2.2.2.1.length : Nat) : Int) > 300
  · rw [if_pos c2]; exact ⟨_, rfl, rfl⟩
  rw [if_neg c2, txEncode_eq ht]
  have hlen := len_encTx ht (by omega)
  have hbt := bytes_encTx ht (by omega)
  have henc : encodeR t = (encTx t, (0, ())) := by unfold encodeR; rw [if_pos (by omega)]
  rw [henc]
  simp only [bind_some', brR_not, brR_dec, if_true]
  rw [if_neg (by omega)]
  obtain ⟨r, hr, e1⟩ := modR22 hat (n := (encTx t).length) (by omega) (by omega)
  rw [e1]
  simp only [bind_some', brR_inR, Int.toNat_natCast]
  rw [if_pos (by omega)]
  have := law_TxCanonical_loop [b, (encTx t).set r c] rfl (by
    intro x hx
    simp only [List.mem_cons, List.not_mem_nil, or_false] at hx
    rcases hx with rfl | rfl
    · exact ⟨hb, by omega⟩
    · exact ⟨bytes_set hbt hc, by rw [List.length_set]; omega⟩)
  exact ⟨_, this, rfl⟩

theorem law_TxCanonical : ∀ x, wfL s_law22_TxCanonical.ins x → ∃ y, sol_law22_TxCanonical x = some y ∧ y.1.1 = true :=
  fun ⟨b, t, a, c, _⟩ ⟨hb, ht, ha, hc, _⟩ => law_TxCanonical_at b t a c (bytes_wf hb) (tx_wf ht) (inK_i64.1 ha) (inK_u8.1 hc)

/-! ### Round trip -/

theorem law_TxRoundTrip_at (t : TxT) (z : List Int) (ht : TxW t) (hz : Bytes z) : ∃ y, sol_law22_TxRoundTrip (t, (z, ())) = some y ∧ y.1.1 = true := by
  unfold sol_law22_TxRoundTrip T_law22_TxRoundTrip
  simp only [letR_eq]
  rw [awake22]
  simp only [brR_dec, bind_some']
  by_cases c1 : ((t.2.2.2.2.2.2.2.2.1.length : Nat) : Int) > 600
  · rw [if_pos c1]; exact ⟨_, rfl, rfl⟩
  rw [if_neg c1]
  by_cases c2 : ((z.length : Nat) : Int) > 100
  · rw [if_pos c2]; exact ⟨_, rfl, rfl⟩
  rw [if_neg c2, txEncode_eq ht]
  have hlen := len_encTx ht (by omega)
  have hbt := bytes_encTx ht (by omega)
  have henc : encodeR t = (encTx t, (0, ())) := by unfold encodeR; rw [if_pos (by omega)]
  rw [henc]
  simp only [bind_some']
  rw [txDecode_eq hbt (by omega), enc_dec ht (by omega)]
  simp only [bind_some', brR_not, brR_dec, if_true, rEqual_eq, eqTx_self, brR_true, brR_and, List.drop_zero, Nat.sub_zero]
  rw [if_neg (by omega), if_pos (by omega), if_pos (by omega), Int.toNat_natCast, List.take_length, brR_room8 (by omega), append_def, txDecode_eq (hbt.append hz) (by simp only [List.length_append]; omega), w_i64 (n := ((encTx t).length : Int) - 1) (by omega) (by omega)]
  simp only [bind_some']
  rw [if_pos (by omega), if_pos (by omega), txDecode_eq (hbt.take _) (by rw [List.length_take]; omega), dec_shorter ht (by omega) (by omega)]
  simp only [bind_some', brR_dec, if_true]
  have e : eqD Ty.bool (decide ((decTx (encTx t ++ z)).2.1 = 0)) (decide (((z.length : Nat) : Int) = 0)) = true := by
    rw [eqD_iff]
    by_cases hz0 : z = []
    · subst hz0
      rw [List.append_nil, enc_dec ht (by omega)]
      rfl
    · rw [dec_longer ht (by omega) hz0]
      have : 0 < z.length := List.length_pos_iff.2 hz0
      rw [decide_eq_false (p := ((z.length : Nat) : Int) = 0) (by omega)]
      rfl
  rw [e, brR_true]
  exact ⟨_, rfl, rfl⟩

theorem law_TxRoundTrip : ∀ x, wfL s_law22_TxRoundTrip.ins x → ∃ y, sol_law22_TxRoundTrip x = some y ∧ y.1.1 = true :=
  fun ⟨t, z, _⟩ ⟨ht, hz, _⟩ => law_TxRoundTrip_at t z (tx_wf ht) (bytes_wf hz)

/-! ### Decoding -/

theorem law_TxDecode_loop (bs : List (List Int)) (h2 : bs.length = 2) (hb : ∀ b ∈ bs, Bytes b ∧ b.length ≤ 2000000) :
    bigLoop _ _ (fun again x => T_law22_TxDecode_loop0 sol_tx_Decode sol_ref22_Decode sol_ref22_Equal sol_law22_awake again x.1 x.2.1) (bs, ((0 : Int), ())) = some ((true, ()), ((), ((), ((), ((), ((), ())))))) := by
  refine bigLoop_rule (I := fun s => s.1 = bs ∧ 0 ≤ s.2.1 ∧ s.2.1 ≤ 2) (m := fun s => (2 - s.2.1).toNat) (g := fun _ => some ((true, ()), ((), ((), ((), ((), ((), ())))))))
    ?_ ⟨rfl, by simp, by simp⟩ (by rw [bigN_eq]; simp)
  rintro ⟨bs', i, _⟩ again ⟨rfl, h0, h1⟩ hag
  simp only at h0 h1 hag ⊢
  unfold T_law22_TxDecode_loop0
  rw [awake22]
  simp only [brR_dec, brR_inR, bind_some']
  by_cases hi : i < 2
  · rw [if_pos hi, if_pos (by omega), hag (bs', (IntKind.wrap .i64 (i + 1), ())) ⟨rfl, by simp only; rw [w_i64 (by omega) (by omega)]; omega, by simp only; rw [w_i64 (by omega) (by omega)]; omega⟩ (by simp only; rw [w_i64 (by omega) (by omega)]; omega)]
    obtain ⟨hb, hl⟩ := hb _ (getD_mem (d := ([] : List Int)) (i := i.toNat) (by omega))
    generalize List.getD bs' i.toNat [] = b at hb hl ⊢
    rw [txDecode_eq hb (by omega), rDecode_eq hb (by omega)]
    simp only [bind_some', brR_not, brR_dec, rEqual_eq, eqTx_self, brR_true, if_true]
  · rw [if_neg hi]

theorem law_TxDecode_at (b : List Int) (t : TxT) (at_ c how : Int) (hb : Bytes b) (ht : TxW t) (hat : -9223372036854775808 ≤ at_ ∧ at_ ≤ 9223372036854775807) (hc : 0 ≤ c ∧ c ≤ 255)
    (hh : -9223372036854775808 ≤ how ∧ how ≤ 9223372036854775807) : ∃ y, sol_law22_TxDecode (b, (t, (at_, (c, (how, ()))))) = some y ∧ y.1.1 = true := by
  unfold sol_law22_TxDecode T_law22_TxDecode
  simp only [letR_eq]
  rw [awake22]
  simp only [brR_dec, bind_some']
  by_cases c1 : ((b.length : Nat) : Int) > 600
  · rw [if_pos c1]; exact ⟨_, rfl, rfl⟩
  rw [if_neg c1]
  by_cases c2 : ((t.2.2.2.2.2.2.2.2.1.length : Nat) : Int) > 600
  · rw [if_pos c2]; exact ⟨_, rfl, rfl⟩
  rw [if_neg c2, rEncode_eq ht]
  have hlen := len_encTx ht (by omega)
  have hbt := bytes_encTx ht (by omega)
  have henc : encodeR t = (encTx t, (0, ())) := by unfold encodeR; rw [if_pos (by omega)]
  rw [henc]
  simp only [bind_some']
  obtain ⟨r, hr, e1⟩ := modR22 hat (n := (encTx t).length) (by omega) (by omega)
  obtain ⟨k, hk, e2⟩ := modR22 hh (n := 3) (by omega) (by omega)
  have e2 : sol_law0_Mod (how, ((3 : Int), ())) = some ((((k : Nat) : Int), ()), ((), ((), ()))) := e2
  rw [e1]
  simp only [bind_some']
  rw [e2]
  simp only [bind_some', brR_inR, brR_and, brR_dec, Int.toNat_natCast, List.drop_zero, Nat.sub_zero]
  have fin : ∀ y : List Int, Bytes y → y.length ≤ 2000000 → ∃ z, bigLoop _ _ (fun again x => T_law22_TxDecode_loop0 sol_tx_Decode sol_ref22_Decode sol_ref22_Equal sol_law22_awake again x.1 x.2.1) ([b, y], ((0 : Int), ())) = some z ∧ z.1.1 = true := fun y hy hl =>
    ⟨_, law_TxDecode_loop [b, y] rfl (by
      intro x hx
      simp only [List.mem_cons, List.not_mem_nil, or_false] at hx
      rcases hx with rfl | rfl
      · exact ⟨hb, by omega⟩
      · exact ⟨hy, hl⟩), rfl⟩
  generalize hE : encTx t = E at *
  by_cases k0 : ((k : Nat) : Int) = 0
  · rw [if_pos k0, if_pos (by omega)]
    exact fin _ (bytes_set hbt hc) (by rw [List.length_set]; omega)
  rw [if_neg k0]
  by_cases k1 : ((k : Nat) : Int) = 1
  · rw [if_pos k1, if_pos trivial, if_pos (by omega), if_pos (by omega), if_pos (by omega), if_pos (by omega), append_def, append_def, brR_room8 (by rw [List.length_take, List.length_drop]; omega), brR_room8 (by rw [List.length_append, List.length_take, List.length_take, List.length_drop]; simp only [List.length_cons, List.length_nil]; omega)]
    refine fin _ ((hbt.take _).append (Bytes.append ?_ ((hbt.drop _).take _))) (by simp only [List.length_append, List.length_take, List.length_drop, List.length_cons, List.length_nil]; omega)
    intro x hx
    simp only [List.mem_cons, List.not_mem_nil, or_false] at hx
    rw [hx]; exact hc
  · rw [if_neg k1, if_pos trivial, if_pos (by omega), if_pos (by omega), w_i64 (n := (r : Int) + 1) (by omega) (by omega), if_pos (by omega), if_pos (by omega), append_def, brR_room8 (by simp only [List.length_take, List.length_drop]; omega)]
    exact fin _ ((hbt.take _).append ((hbt.drop _).take _)) (by simp only [List.length_append, List.length_take, List.length_drop]; omega)

theorem law_TxDecode : ∀ x, wfL s_law22_TxDecode.ins x → ∃ y, sol_law22_TxDecode x = some y ∧ y.1.1 = true :=
  fun ⟨b, t, a, c, h, _⟩ ⟨hb, ht, ha, hc, hh, _⟩ => law_TxDecode_at b t a c h (bytes_wf hb) (tx_wf ht) (inK_i64.1 ha) (inK_u8.1 hc) (inK_i64.1 hh)

/-! ### Injective -/

noncomputable def injE (t u w : TxT) : Option ((Bool × Unit) × (Unit × (Unit × (Unit × Unit)))) :=
      (Option.bind (sol_tx_Encode (t, ())) (fun (y_3 : (((List Int) × (Int × Unit)) × (Unit × Unit))) =>
       (Option.bind (sol_tx_Encode (u, ())) (fun (y_4 : (((List Int) × (Int × Unit)) × (Unit × Unit))) =>
        (Option.bind (sol_tx_Encode (w, ())) (fun (y_5 : (((List Int) × (Int × Unit)) × (Unit × Unit))) =>
         (brR (decide (y_3.1.2.1 = (0 : Int)))
          (brR (decide (y_4.1.2.1 = (0 : Int)))
           (brR (decide (y_5.1.2.1 = (0 : Int)))
            (Option.bind (sol_law0_EqualBytes (y_3.1.1, (y_4.1.1, ()))) (fun (y_6 : ((Bool × Unit) × (Unit × (Unit × Unit)))) =>
             (Option.bind (sol_ref22_Equal (t, (u, ()))) (fun (y_7 : ((Bool × Unit) × (Unit × (Unit × Unit)))) =>
              (brR (Go.Pon.eqD (Go.Pon.Ty.bool) y_6.1.1 y_7.1.1)
               (Option.bind (sol_law0_EqualBytes (y_3.1.1, (y_5.1.1, ()))) (fun (y_8 : ((Bool × Unit) × (Unit × (Unit × Unit)))) =>
                (Option.bind (sol_ref22_Equal (t, (w, ()))) (fun (y_9 : ((Bool × Unit) × (Unit × (Unit × Unit)))) =>
                 (brR (Go.Pon.eqD (Go.Pon.Ty.bool) y_8.1.1 y_9.1.1)
                  (Option.bind (sol_law22_awake ()) (fun (y_10 : ((Bool × Unit) × Unit)) =>
                   (some ((y_10.1.1, ()), ((), ((), ((), ())))))))
                  (some ((false, ()), ((), ((), ((), ()))))))))))
               (some ((false, ()), ((), ((), ((), ()))))))))))
            (some ((false, ()), ((), ((), ((), ()))))))
           (some ((false, ()), ((), ((), ((), ()))))))
          (some ((false, ()), ((), ((), ((), ()))))))))))))

theorem injE_eq {t u w : TxT} (ht : TxW t) (hu : TxW u) (hw : TxW w) (dt : t.2.2.2.2.2.2.2.2.1.length ≤ 300) (du : u.2.2.2.2.2.2.2.2.1.length ≤ 300) (dw : w.2.2.2.2.2.2.2.2.1.length ≤ 300) :
    ∃ y, injE t u w = some y ∧ y.1.1 = true := by
  have e : ∀ {a b : TxT}, TxW a → TxW b → a.2.2.2.2.2.2.2.2.1.length ≤ 300 → b.2.2.2.2.2.2.2.2.1.length ≤ 300 → eqD Ty.bool (decide (encTx a = encTx b)) (eqTx a b) = true := fun {a b} ha hb da db => by
    rw [eqD_iff, Bool.eq_iff_iff, decide_eq_true_iff, eqTx_iff]
    exact encTx_inj ha hb (by omega) (by omega)
  have r : ∀ {a : TxT}, a.2.2.2.2.2.2.2.2.1.length ≤ 300 → encodeR a = (encTx a, (0, ())) := fun {a} da => by unfold encodeR; rw [if_pos (by omega)]
  unfold injE
  rw [txEncode_eq ht, txEncode_eq hu, txEncode_eq hw, r dt, r du, r dw]
  simp only [bind_some', decide_true, brR_true, equalBytes_eq, rEqual_eq, e ht hu dt du, e ht hw dt dw, awake22]
  exact ⟨_, rfl, rfl⟩

theorem law_TxInjective_at (t u : TxT) (field : Int) (ht : TxW t) (hu : TxW u) (hf : -9223372036854775808 ≤ field ∧ field ≤ 9223372036854775807) : ∃ y, sol_law22_TxInjective (t, (u, (field, ()))) = some y ∧ y.1.1 = true := by
  unfold sol_law22_TxInjective T_law22_TxInjective
  simp only
  by_cases c1 : ((t.2.2.2.2.2.2.2.2.1.length : Nat) : Int) > 300
  · rw [awake22]; simp only [bind_some']; rw [brR_dec, if_pos c1]; exact ⟨_, rfl, rfl⟩
  rw [brR_dec, if_neg c1]
  by_cases c2 : ((u.2.2.2.2.2.2.2.2.1.length : Nat) : Int) > 300
  · rw [awake22]; simp only [bind_some']; rw [brR_dec, if_pos c2]; exact ⟨_, rfl, rfl⟩
  rw [brR_dec, if_neg c2]
  obtain ⟨k, hk, e2⟩ := modR22 hf (n := 9) (by omega) (by omega)
  have e2 : sol_law0_Mod (field, ((9 : Int), ())) = some ((((k : Nat) : Int), ()), ((), ((), ()))) := e2
  rw [e2, bind_some']
  have dt : t.2.2.2.2.2.2.2.2.1.length ≤ 300 := by omega
  have du : u.2.2.2.2.2.2.2.2.1.length ≤ 300 := by omega
  clear c1 c2 e2
  have key : ∀ w, TxW w → w.2.2.2.2.2.2.2.2.1.length ≤ 300 → ∃ y, injE t u w = some y ∧ y.1.1 = true := fun w hw dw => injE_eq ht hu hw dt du dw
  obtain ⟨ha, hn, ho, hv, hg, hfc, hp, he, hd⟩ := ht
  obtain ⟨ha', hn', ho', hv', hg', hfc', hp', he', hd'⟩ := hu
  simp only at dt du
  dsimp only
  by_cases k0 : ((k : Nat) : Int) = 0
  · rw [brR_dec, if_pos k0]; exact key _ (.mk ha' hn ho hv hg hfc hp he hd) dt
  rw [brR_dec, if_neg k0]
  by_cases k0 : ((k : Nat) : Int) = 1
  · rw [brR_dec, if_pos k0]; exact key _ (.mk ha hn' ho hv hg hfc hp he hd) dt
  rw [brR_dec, if_neg k0]
  by_cases k0 : ((k : Nat) : Int) = 2
  · rw [brR_dec, if_pos k0]; exact key _ (.mk ha hn ho' hv hg hfc hp he hd) dt
  rw [brR_dec, if_neg k0]
  by_cases k0 : ((k : Nat) : Int) = 3
  · rw [brR_dec, if_pos k0]; exact key _ (.mk ha hn ho hv' hg hfc hp he hd) dt
  rw [brR_dec, if_neg k0]
  by_cases k0 : ((k : Nat) : Int) = 4
  · rw [brR_dec, if_pos k0]; exact key _ (.mk ha hn ho hv hg' hfc hp he hd) dt
  rw [brR_dec, if_neg k0]
  by_cases k0 : ((k : Nat) : Int) = 5
  · rw [brR_dec, if_pos k0]; exact key _ (.mk ha hn ho hv hg hfc' hp he hd) dt
  rw [brR_dec, if_neg k0]
  by_cases k0 : ((k : Nat) : Int) = 6
  · rw [brR_dec, if_pos k0]; exact key _ (.mk ha hn ho hv hg hfc hp' he hd) dt
  rw [brR_dec, if_neg k0]
  by_cases k0 : ((k : Nat) : Int) = 7
  · rw [brR_dec, if_pos k0]; exact key _ (.mk ha hn ho hv hg hfc hp he' hd) dt
  rw [brR_dec, if_neg k0]
  exact key _ (.mk ha hn ho hv hg hfc hp he hd') du

theorem law_TxInjective : ∀ x, wfL s_law22_TxInjective.ins x → ∃ y, sol_law22_TxInjective x = some y ∧ y.1.1 = true :=
  fun ⟨t, u, f, _⟩ ⟨ht, hu, hf, _⟩ => law_TxInjective_at t u f (tx_wf ht) (tx_wf hu) (inK_i64.1 hf)

end Go.Pon
