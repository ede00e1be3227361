/-
  Part of a proof: general lemmas, merged by a program of this work.
-/
import Derived.Below
import Derived.Carry
import Derived.ChangeOld
import Derived.Laws.Externs
import Derived.OpenShut
import Derived.ProofKit
import Derived.Shelf.Slices.Delete
import Derived.Shelf.Spec.SlicesInsertGrow
import Derived.WalkKit
import Derived.Test.YtonakjfcigaaaaaF2
set_option autoImplicit false
set_option linter.unusedVariables false
namespace Go.Pon
open Go
theorem nthE_eq {α : Type} : ∀ (l : List α) (n : Nat), nthE l n = l[n]?
  | [], n => by cases n <;> rfl
  | a :: l, 0 => rfl
  | a :: l, n + 1 => by simpa [nthE] using nthE_eq l n
section
variable {K : Konst} {S : St} {used : Id → Nat → Prop} {γ : Id → Value} {a : Act} {w : World} {ops : Array Oper} {o : Oper}
theorem want_spec (h : Rel K S used γ a w) {b : Bool} (hw : wantA S ops o = some b) : Region.wanted o (yielded ops a.tmps) = b := by
  unfold wantA at hw
  unfold Region.wanted
  split at hw
  · rename_i hg; rw [hg]; exact Option.some.inj hw
  · rename_i j want hg
    rw [hg]
    dsimp only
    rw [nthE_eq] at hw
    split at hw
    · cases hw
    · rename_i d hd
      have hd : (ops[j]?).bind (·.dst) = some d := by
        cases ho : ops[j]? with
        | none => rw [Array.getElem?_toList, ho] at hd; cases hd
        | some x => rw [Array.getElem?_toList, ho] at hd; exact hd
      have hv := h.env d
      cases hq : asBool (look S.env d) with
      | some q =>
        rw [hq] at hw
        have e := asBool_spec hq hv
        have : a.tmps[d]? = some (.bool q) := by
          rw [Array.getD_eq_getD_getElem?] at e
          cases ht : a.tmps[d]? with
          | none => rw [ht] at e; cases e
          | some x => rw [ht] at e; exact congrArg some e
        cases hw
        simp only [yielded, hd, Option.bind_some, this]
        cases q <;> cases want <;> rfl
      | none =>
        rw [hq] at hw
        cases hl : look S.env d with
        | un =>
          rw [hl] at hv hw
          have e : a.tmps.getD d undef = undef := hv
          cases hw
          rw [Array.getD_eq_getD_getElem?] at e
          simp only [yielded, hd, Option.bind_some]
          cases ht : a.tmps[d]? with
          | none => rfl
          | some x => rw [ht] at e; rw [show x = undef from e]; rfl
        | _ => rw [hl] at hw; cases hw
theorem stp_wp (h : Rel K S used γ a w) (hK : K.OK) {i : Nat} {s : Sp} (hs : Stp K.C K.G ops S i o s) (hop : opOK o = true) (hd : ∀ d, o.dst = some d → K.dok d) (hi : ops[i]? = some o)
    (hu : ∀ id : Id, id.1 = S.next → id.2.1 = i → ∀ v, ¬ used id v) {Q : Exit → Act → World → Prop} {k : Act → World → Prop}
    (hk : ∀ used' γ' a' w', Grow used used' (S.next, i, 0) → Rel K (S.app s) used' γ' a' w' → k a' w') : wpOp K.P ops Q i k a w := by
  unfold wpOp
  rw [hi]
  dsimp only
  obtain ⟨h1, h2, h3⟩ := hs
  rcases h3 with ⟨hw, hl⟩ | ⟨hw, hv, hu0, hl⟩
  · rw [want_spec h hw, if_pos rfl]
    refine .inl (op_wp h hK (base := (S.next, i, 0)) (fun id i1 i2 => hu id i1 i2) hop hd hl fun used' γ' a' w' hg hr => hk used' γ' a' w' hg ?_)
    rw [← h2] at hr
    exact hr
  · rw [want_spec h hw, if_neg (by simp)]
    refine hk used γ _ w (Grow.refl _ _) ?_
    have := h.put (v := .un) (val := undef) rfl o.dst hd
    have e : S.app s = { S with env := putDst S.env o.dst .un } := by
      simp only [St.app, hv, hu0, h2]; rfl
    rw [e]
    exact this
theorem dok_of {d : Nat} (h : (K.args.map (·.isSome)).getD d false = false ∧ d < K.nt) : K.dok d := by
  refine ⟨fun v hv => ?_, h.2⟩
  have h1 := h.1
  rw [List.getD_eq_getElem?_getD, List.getElem?_map, hv] at h1
  cases h1
def regOK (ps : List Bool) (nt : Nat) (ops : Array Oper) : Bool :=
  allE (fun p => opOK p.2 && (match p.2.dst with | none => true | some d => !(ps.getD d false) && Nat.blt d nt) && allE (fun e => !Region.binds .any e || Nat.blt e.on p.1) p.2.after.toList) (idxE 0 ops.toList)
theorem idxE_get {α : Type} : ∀ (l : List α) (m i : Nat) (x : α), l[i]? = some x → (m + i, x) ∈ idxE m l
  | [], m, i, x, h => by simp at h
  | y :: l, m, 0, x, h => by simp at h; subst h; simp [idxE]
  | y :: l, m, i + 1, x, h => by
    have := idxE_get l (m + 1) i x (by simpa using h)
    rw [show m + (i + 1) = m + 1 + i by omega]
    exact List.mem_cons_of_mem _ this
theorem idxE_nth {α : Type} : ∀ (l : List α) (m i : Nat), (idxE m l)[i]? = (l[i]?).map fun x => (m + i, x)
  | [], m, i => by simp [idxE]
  | y :: l, m, 0 => by simp [idxE]
  | y :: l, m, i + 1 => by
    simp only [idxE, List.getElem?_cons_succ, idxE_nth l (Nat.succ m) i]
    rw [show Nat.succ m + i = m + (i + 1) by omega]
theorem idxE_fst {α : Type} : ∀ (l : List α) (m : Nat), (idxE m l).map (·.1) = List.range' m l.length
  | [], m => rfl
  | y :: l, m => by simp [idxE, List.range', idxE_fst l (m + 1)]
theorem regOK_spec {ps : List Bool} {nt : Nat} (h : regOK ps nt ops = true) {i : Nat} (hi : ops[i]? = some o) :
    opOK o = true ∧ (∀ d, o.dst = some d → ps.getD d false = false ∧ d < nt) ∧ ∀ e ∈ o.after, Region.binds .any e = true → e.on < i := by
  have := allE_iff.1 h (0 + i, o) (idxE_get ops.toList 0 i o (by simpa using hi))
  simp only [Bool.and_eq_true, Nat.zero_add] at this
  obtain ⟨⟨h1, h2⟩, h3⟩ := this
  refine ⟨h1, fun d hd => ?_, fun e he hb => ?_⟩
  · rw [hd] at h2; simpa [Nat.blt_eq] using h2
  · have := allE_iff.1 h3 e (by simpa using he)
    simpa [hb, Nat.blt_eq] using this
theorem ord_wp (hK : K.OK) {Q : Exit → Act → World → Prop} {S' : St} {n : Nat} (hQ : ∀ used' γ' a' w', Rel K S' used' γ' a' w' → (∀ id v, used' id v → id.1 < n + 1) → Q .normal a' w') :
    ∀ (lst : List (Nat × Oper)) (S : St) (sps : List Sp), Tr K.C K.G ops lst S sps S' → (∀ p ∈ lst, ops[p.1]? = some p.2 ∧ opOK p.2 = true ∧ ∀ d, p.2.dst = some d → K.dok d) → (lst.map (·.1)).Nodup → S.next = n →
      ∀ (used : Id → Nat → Prop) (γ : Id → Value) (a : Act) (w : World), Rel K S used γ a w → (∀ id v, used id v → id.1 < n ∨ (id.1 = n ∧ id.2.1 ∉ lst.map (·.1))) → wpOps K.P ops Q (lst.map (·.1)) a w := by
  intro lst S sps ht
  induction ht with
  | nil S =>
    intro _ _ hn used γ a w h hu
    refine hQ used γ a w h fun id v hv => ?_
    rcases hu id v hv with h1 | ⟨h1, _⟩ <;> omega
  | cons i o rest S S1 s sps S' hs he hr ih =>
    intro hp hnd hn used γ a w h hu
    obtain ⟨p1, p2, p3⟩ := hp (i, o) (List.mem_cons_self ..)
    simp only [List.map_cons, List.nodup_cons] at hnd
    simp only [List.map_cons]
    rw [wpOps_cons]
    refine stp_wp h hK hs p2 p3 p1 (fun id i1 i2 v hv => ?_) fun used' γ' a' w' hg hrel => ?_
    · rcases hu id v hv with h1 | ⟨_, h1⟩
      · omega
      · exact h1 (by rw [i2]; simp)
    · refine ih hQ (fun p hm => hp p (List.mem_cons_of_mem _ hm)) hnd.2 (by rw [← he.next]; exact hn) used' γ' a' w' (hrel.eqv he) fun id v hv => ?_
      rcases hg id v hv with ⟨v', hv'⟩ | ⟨i1, i2⟩
      · rcases hu id v' hv' with h1 | ⟨h1, h2⟩
        · exact .inl h1
        · exact .inr ⟨h1, fun hm => h2 (List.mem_cons_of_mem _ hm)⟩
      · refine .inr ⟨i1.trans hn, fun hm => ?_⟩
        have i2 : id.2.1 = i := i2
        rw [i2] at hm
        exact hnd.1 hm
end
def rep (D : Nat → Bool) : St → List Sp → St
  | S, [] => S
  | S, s :: r => rep D (bif D s.i then S.app s else S) r
theorem rep_append (D : Nat → Bool) : ∀ (l m : List Sp) (S : St), rep D S (l ++ m) = rep D (rep D S l) m
  | [], _, _ => rfl
  | s :: l, m, S => rep_append D l m _
theorem rep_next (D : Nat → Bool) : ∀ (l : List Sp) (S : St), (rep D S l).next = S.next
  | [], _ => rfl
  | s :: l, S => by
    simp only [rep]
    rw [rep_next D l]
    cases D s.i <;> rfl
theorem rep_eqv (D : Nat → Bool) : ∀ (l : List Sp) {S S' : St}, Eqv S S' → Eqv (rep D S l) (rep D S' l)
  | [], _, _, h => h
  | s :: l, S, S', h => by
    simp only [rep]
    refine rep_eqv D l ?_
    cases D s.i with
    | true => exact app_eqv h s
    | false => exact h
theorem look_app {S : St} {s : Sp} {t : Nat} (h : s.dst ≠ some t) : look (S.app s).env t = look S.env t := by
  simp only [St.app]
  cases hd : s.dst with
  | none => rfl
  | some d =>
    simp only [putDst, look_cons]
    rw [if_neg (fun e => h (by rw [hd, e]))]
theorem lookO_of_app {S : St} {s : Sp} {id : Id} (h : memE (fsts s.u) id = false) : lookO (S.app s).objs id = lookO S.objs id := by
  simp only [St.app, lookO_app, h]; rfl
theorem rep_look {D D' : Nat → Bool} {t : Nat} : ∀ (l : List Sp) {S S' : St}, look S.env t = look S'.env t → (∀ s ∈ l, D s.i ≠ D' s.i → s.dst ≠ some t) → look (rep D S l).env t = look (rep D' S' l).env t
  | [], _, _, h, _ => h
  | s :: l, S, S', h, hd => by
    simp only [rep]
    refine rep_look l ?_ fun s' hs' => hd s' (List.mem_cons_of_mem _ hs')
    have h0 := hd s (List.mem_cons_self ..)
    have hw : ∀ (S S' : St), look S.env t = look S'.env t → look (S.app s).env t = look (S'.app s).env t := fun S S' h => by
      simp only [St.app]
      cases s.dst with
      | none => exact h
      | some d => simp only [putDst, look_cons, h]
    cases h1 : D s.i <;> cases h2 : D' s.i
    · exact h
    · show look S.env t = look (S'.app s).env t
      rw [look_app (h0 (by rw [h1, h2]; simp))]; exact h
    · show look (S.app s).env t = look S'.env t
      rw [look_app (h0 (by rw [h1, h2]; simp))]; exact h
    · exact hw S S' h
theorem rep_lookO {D D' : Nat → Bool} {id : Id} : ∀ (l : List Sp) {S S' : St}, lookO S.objs id = lookO S'.objs id → (∀ s ∈ l, D s.i ≠ D' s.i → memE (fsts s.u) id = false) → lookO (rep D S l).objs id = lookO (rep D' S' l).objs id
  | [], _, _, h, _ => h
  | s :: l, S, S', h, hd => by
    simp only [rep]
    refine rep_lookO l ?_ fun s' hs' => hd s' (List.mem_cons_of_mem _ hs')
    have h0 := hd s (List.mem_cons_self ..)
    cases h1 : D s.i <;> cases h2 : D' s.i
    · exact h
    · show lookO S.objs id = lookO (S'.app s).objs id
      rw [lookO_of_app (h0 (by rw [h1, h2]; simp))]; exact h
    · show lookO (S.app s).objs id = lookO S'.objs id
      rw [lookO_of_app (h0 (by rw [h1, h2]; simp))]; exact h
    · show lookO (S.app s).objs id = lookO (S'.app s).objs id
      simp only [St.app, lookO_app, h]
theorem rep_app {D : Nat → Bool} {s : Sp} : ∀ (l : List Sp) (S : St), (∀ s' ∈ l, D s'.i = true → (∀ d, s.dst = some d → s'.dst ≠ some d) ∧ ∀ id, memE (fsts s.u) id = true → memE (fsts s'.u) id = false) →
    Eqv (rep D (S.app s) l) ((rep D S l).app s)
  | [], S, _ => Eqv.refl _
  | s' :: l, S, h => by
    simp only [rep]
    have ih := fun S => rep_app (D := D) (s := s) l S fun s'' hs => h s'' (List.mem_cons_of_mem _ hs)
    cases hd : D s'.i with
    | false => exact ih S
    | true =>
      obtain ⟨h1, h2⟩ := h s' (List.mem_cons_self ..) hd
      refine Eqv.trans (rep_eqv D l ?_) (ih (S.app s'))
      refine ⟨rfl, fun t => ?_, fun id => ?_⟩
      · show look ((S.app s).app s').env t = look ((S.app s').app s).env t
        simp only [St.app]
        cases e1 : s.dst with
        | none => rfl
        | some d =>
          cases e2 : s'.dst with
          | none => rfl
          | some d' =>
            have hne : d' ≠ d := fun e => h1 d e1 (by rw [e2, e])
            simp only [putDst, look_cons]
            by_cases e3 : d' = t
            · rw [if_pos e3, if_neg (fun e => hne (e3.trans e.symm)), if_pos e3]
            · rw [if_neg e3, if_neg e3]
      · show lookO ((S.app s).app s').objs id = lookO ((S.app s').app s).objs id
        simp only [St.app, lookO_app]
        cases e1 : memE (fsts s.u) id with
        | true => rw [h2 id e1]; simp
        | false => simp
theorem Tr.get {C : CallD} {G : Ctx} {ops : Array Oper} {lst : List (Nat × Oper)} {S S' : St} {sps : List Sp} (h : Tr C G ops lst S sps S') :
    Eqv (rep (fun _ => true) S sps) S' ∧ sps.length = lst.length ∧ ∀ (n : Nat) (p : Nat × Oper), lst[n]? = some p → ∃ s, sps[n]? = some s ∧ Stp C G ops (rep (fun _ => true) S (sps.take n)) p.1 p.2 s := by
  induction h with
  | nil S => exact ⟨Eqv.refl S, rfl, fun n p h => by simp at h⟩
  | cons i o rest S S1 s sps S' hs he hr ih =>
    obtain ⟨h1, h2, h3⟩ := ih
    refine ⟨(rep_eqv _ sps he).trans h1, by simp [h2], fun n p hp => ?_⟩
    cases n with
    | zero => simp at hp; subst hp; exact ⟨s, rfl, hs⟩
    | succ n =>
      obtain ⟨s', k1, k2⟩ := h3 n p (by simpa using hp)
      exact ⟨s', by simpa using k1, k2.eqv (by simp only [List.take_succ_cons, rep]; exact rep_eqv _ _ he.symm)⟩
def Apt (ops : Array Oper) (bs : List Nat) (q r : Sp) : Prop :=
  Nat.testBit (bs.getD r.i 0) q.i = true ∨ (apartE ops q.i r.i = true ∧ disjE (fsts q.u) r.l = true ∧ disjE (fsts q.u) (fsts r.u) = true ∧ disjE (fsts r.u) q.l = true)
theorem freeOK_pairs {ops : Array Oper} {bs : List Nat} : ∀ (l : List Sp), freeOK ops bs (l.map Sp.row) = true → l.Pairwise fun r q => Apt ops bs q r
  | [], _ => List.Pairwise.nil
  | r :: l, h => by
    simp only [List.map_cons, freeOK, Bool.and_eq_true] at h
    refine List.Pairwise.cons (fun q hq => ?_) (freeOK_pairs l h.2)
    have := allE_iff.1 h.1 q.row (List.mem_map.2 ⟨q, hq, rfl⟩)
    simp only [Sp.row, Bool.or_eq_true, Bool.and_eq_true] at this
    exact this.imp (fun h => h) fun h => ⟨h.1.1.1, h.1.1.2, h.1.2, h.2⟩
theorem disjE_spec {l m : List Id} (h : disjE l m = true) : ∀ id, memE l id = true → id ∉ m := by
  intro id hid hm
  rw [memE_iff] at hid
  induction l with
  | nil => simp at hid
  | cons a l ih =>
    simp only [disjE, Bool.and_eq_true, Bool.not_eq_true'] at h
    rcases List.mem_cons.1 hid with rfl | hid
    · have := memE_iff.2 hm
      rw [h.1] at this; cases this
    · exact ih h.2 hid
theorem masks_spec {acc : List Nat} : ∀ (es : List Edge) (m q : Nat), Nat.testBit (masks acc es m) q = true → Nat.testBit m q = true ∨ ∃ e ∈ es, Region.binds .any e = true ∧ (q = e.on ∨ Nat.testBit (acc.getD e.on 0) q = true)
  | [], m, q, h => .inl h
  | e :: es, m, q, h => by
    simp only [masks] at h
    rcases masks_spec es _ q h with h1 | ⟨e', h1, h2⟩
    · cases hb : Region.binds .any e with
      | false => rw [hb] at h1; exact .inl h1
      | true =>
        rw [hb] at h1
        have h1 : Nat.testBit (m ||| ((1 <<< e.on) ||| acc.getD e.on 0)) q = true := h1
        simp only [Nat.testBit_or, Bool.or_eq_true] at h1
        rcases h1 with h1 | h1 | h1
        · exact .inl h1
        · refine .inr ⟨e, List.mem_cons_self .., hb, .inl ?_⟩
          rw [Nat.shiftLeft_eq, Nat.one_mul, Nat.testBit_two_pow] at h1
          have h1 : e.on = q := by simpa using h1
          exact h1.symm
        · exact .inr ⟨e, List.mem_cons_self .., hb, .inr h1⟩
    · exact .inr ⟨e', List.mem_cons_of_mem _ h1, h2⟩
theorem befores_spec : ∀ (l : List Oper) (acc : List Nat), ∃ r, befores l acc = acc ++ r ∧ r.length = l.length ∧
    ∀ (i : Nat) (o : Oper), l[i]? = some o → (befores l acc)[acc.length + i]? = some (masks ((befores l acc).take (acc.length + i)) o.after.toList 0)
  | [], acc => ⟨[], by simp [befores], rfl, fun i o h => by simp at h⟩
  | o :: l, acc => by
    obtain ⟨r, h1, h2, h3⟩ := befores_spec l (acc ++ [masks acc o.after.toList 0])
    have e : befores (o :: l) acc = befores l (acc ++ [masks acc o.after.toList 0]) := by simp only [befores, appE_eq]
    rw [e]
    refine ⟨masks acc o.after.toList 0 :: r, by rw [h1]; simp, by simp [h2], fun i o' hi => ?_⟩
    cases i with
    | zero =>
      simp at hi; subst hi
      rw [h1]
      simp [List.append_assoc]
    | succ i =>
      have := h3 i o' (by simpa using hi)
      simp only [List.length_append, List.length_cons, List.length_nil] at this
      rw [show acc.length + (i + 1) = acc.length + (0 + 1) + i by omega]
      exact this
theorem before_closed {ops : Array Oper} {D : Nat → Bool} (hc : ∀ (i : Nat) (o : Oper), ops[i]? = some o → D i = true → ∀ e ∈ o.after, Region.binds .any e = true → D e.on = true) :
    ∀ (i q : Nat) (o : Oper), ops[i]? = some o → (∀ e ∈ o.after, Region.binds .any e = true → D e.on = true) → Nat.testBit ((befores ops.toList []).getD i 0) q = true → D q = true := by
  obtain ⟨r, h1, h2, h3⟩ := befores_spec ops.toList []
  intro i
  induction i using Nat.strongRecOn with
  | ind i ih =>
    intro q o hi he hq
    have hb := h3 i o (by simpa using hi)
    simp only [List.length_nil, Nat.zero_add] at hb
    rw [List.getD_eq_getElem?_getD, hb, Option.getD_some] at hq
    rcases masks_spec _ _ _ hq with h4 | ⟨e, h4, h5, h6⟩
    · simp at h4
    · have hD := he e (by simpa using h4) h5
      rcases h6 with rfl | h6
      · exact hD
      · have hlt : e.on < i := by
          rcases Nat.lt_or_ge e.on i with hlt | hge
          · exact hlt
          · rw [List.getD_eq_getElem?_getD, List.getElem?_take, if_neg (by omega)] at h6
            simp at h6
        have hlen : e.on < ops.size := Nat.lt_trans hlt (Array.getElem?_eq_some_iff.1 hi).1
        refine ih e.on hlt q ops[e.on] (by simp [hlen]) (fun e' he' hb' => hc e.on _ (by simp [hlen]) hD e' he' hb') ?_
        rw [List.getD_eq_getElem?_getD, List.getElem?_take, if_pos hlt] at h6
        rw [List.getD_eq_getElem?_getD]
        exact h6
section
variable {K : Konst} {S : St} {used : Id → Nat → Prop} {γ : Id → Value} {a : Act} {w : World} {ops : Array Oper} {o : Oper}
theorem Stp.congr {C : CallD} {G : Ctx} {S S' : St} {i : Nat} {s : Sp} (h : Stp C G ops S i o s) (hn : S.next = S'.next) (ht : ∀ t ∈ o.looksAt ops, look S.env t = look S'.env t) (ho : ∀ id ∈ s.l, lookO S.objs id = lookO S'.objs id) :
    Stp C G ops S' i o s := by
  have hw : wantA S ops o = wantA S' ops o := wantA_congr fun j want d hg hd => by
    refine ht d ?_
    unfold Oper.looksAt
    rw [hg]
    refine List.mem_append_right _ ?_
    rw [nthE_eq] at hd
    cases hj : ops[j]? with
    | none => rw [Array.getElem?_toList, hj] at hd; cases hd
    | some x =>
      rw [Array.getElem?_toList, hj] at hd
      have hd : x.dst = some d := hd
      simp [hj, hd]
  refine ⟨h.1, h.2.1, ?_⟩
  rw [← hw]
  rcases h.2.2 with ⟨h1, h2⟩ | h1
  · refine .inl ⟨h1, ?_⟩
    have he : opTree G o S.eval (S.next, i, 0) = opTree G o S'.eval (S'.next, i, 0) := by
      rw [hn]
      refine opTree_congr fun x hx => ?_
      cases x with
      | tmp t =>
        refine ht t (List.mem_append_left _ (List.mem_filterMap.2 ⟨.tmp t, by simpa using hx, rfl⟩))
      | _ => rfl
    rw [← he]
    exact h2.congr fun id hid => (ho id hid).symm
  · exact .inr h1
theorem Rel.drawn (h : Rel K S used γ a w) (n : Nat) : Rel K S used γ a { w with drawn := n } := by
  have hs : EStep (envOf K S.objs used γ w) (envOf K S.objs used γ { w with drawn := n }) := ⟨Nat.le_refl _, fun _ _ _ h => ⟨h, rfl⟩, fun _ _ h => h, fun _ _ _ _ _ h => ⟨h, rfl⟩, fun _ _ _ h => ⟨h, rfl⟩⟩
  exact h.move hs (fun id o ho => OR.step hs rfl (fun _ _ => rfl) (h.objs id o ho)) h.ou h.vers h.sep h.mod ⟨h.frame.os, h.frame.tape, h.frame.output, h.frame.size, h.frame.block⟩
def left (n : Nat) (listed : Array Bool) : Nat := ((List.range n).filter fun i => !listed.getD i true).length
theorem left_set {n i : Nat} {listed : Array Bool} (hi : i < n) (hl : listed.getD i true = false) : left n (listed.setIfInBounds i true) < left n listed := by
  unfold left
  have hsz : i < listed.size := by
    rcases Nat.lt_or_ge i listed.size with h | h
    · exact h
    · simp [h] at hl
  have e : (List.range n).filter (fun j => !(listed.setIfInBounds i true).getD j true) = ((List.range n).filter fun j => !listed.getD j true).filter fun j => j != i := by
    rw [List.filter_filter]
    refine List.filter_congr fun j _ => ?_
    by_cases h : i = j
    · subst h; simp [hsz]
    · rw [getD_set_ne true h]
      simp [Ne.symm h]
  rw [e]
  have hm : i ∈ (List.range n).filter fun j => !listed.getD j true := List.mem_filter.2 ⟨List.mem_range.2 hi, by simpa using hl⟩
  exact List.length_filter_lt_length_iff_exists.2 ⟨i, hm, by simp⟩
theorem left_zero {n : Nat} {listed : Array Bool} (h : left n listed = 0) (i : Nat) (hi : i < n) : listed.getD i true = true := by
  unfold left at h
  have h0 := List.eq_nil_of_length_eq_zero h
  cases hl : listed.getD i true with
  | true => rfl
  | false =>
    have : i ∈ (List.range n).filter fun i => !listed.getD i true := List.mem_filter.2 ⟨List.mem_range.2 hi, by simp only [hl]; rfl⟩
    rw [h0] at this
    simp at this
theorem any_wp (hK : K.OK) {Q : Exit → Act → World → Prop} {S0 Sn : St} {sps : List Sp} (ht : Tr K.C K.G ops (idxE 0 ops.toList) S0 sps Sn) (hreg : regOK (K.args.map (·.isSome)) K.nt ops = true)
    (hfree : freeOK ops (befores ops.toList []) ((sps.map Sp.row).reverse ++ []) = true)
    (hQ : ∀ used' γ' a' w', Rel K Sn used' γ' a' w' → (∀ id v, used' id v → id.1 < S0.next + 1) → Q .normal a' w') :
    ∀ (fuel : Nat) (listed : Array Bool) (used : Id → Nat → Prop) (γ : Id → Value) (a : Act) (w : World), listed.size = ops.size → left ops.size listed ≤ fuel →
      (∀ (i : Nat) (o : Oper), ops[i]? = some o → listed.getD i false = true → ∀ e ∈ o.after, Region.binds .any e = true → listed.getD e.on false = true) →
      Rel K (rep (fun i => listed.getD i false) S0 sps) used γ a w → (∀ id v, used id v → id.1 < S0.next ∨ (id.1 = S0.next ∧ listed.getD id.2.1 false = true)) →
      wpAny K.P .any ops Q fuel listed a w := by
  obtain ⟨g1, g2, g3⟩ := ht.get
  have g2 : sps.length = ops.size := by
    rw [g2]
    have := congrArg List.length (idxE_fst ops.toList 0)
    simpa using this
  have g3 : ∀ (i : Nat) (o : Oper), ops[i]? = some o → ∃ s, sps[i]? = some s ∧ Stp K.C K.G ops (rep (fun _ => true) S0 (sps.take i)) i o s := fun i o hi => by
    have := g3 i (0 + i, o) (by rw [idxE_nth]; simp [hi])
    simpa using this
  have gi : ∀ (i : Nat) (s : Sp), sps[i]? = some s → s.i = i ∧ ∃ o, ops[i]? = some o ∧ s.dst = o.dst := fun i s hs => by
    have hlt : i < ops.size := by rw [← g2]; exact (List.getElem?_eq_some_iff.1 hs).1
    obtain ⟨s', k1, k2⟩ := g3 i ops[i] (by simp [hlt])
    rw [hs] at k1; cases k1
    exact ⟨k2.1, ops[i], by simp [hlt], k2.2.1⟩
  have hpair : ∀ (i j : Nat) (si sj : Sp), j < i → sps[j]? = some sj → sps[i]? = some si → Apt ops (befores ops.toList []) sj si := by
    rw [List.append_nil, ← List.map_reverse] at hfree
    have := List.pairwise_reverse.1 (freeOK_pairs _ hfree)
    rw [List.pairwise_iff_getElem] at this
    intro i j si sj hlt hj hi
    obtain ⟨lj, rfl⟩ := List.getElem?_eq_some_iff.1 hj
    obtain ⟨li, rfl⟩ := List.getElem?_eq_some_iff.1 hi
    exact this j i lj li hlt
  have done : ∀ (listed : Array Bool) (used : Id → Nat → Prop) (γ : Id → Value) (a : Act) (w : World), listed.size = ops.size → Rel K (rep (fun i => listed.getD i false) S0 sps) used γ a w →
      (∀ id v, used id v → id.1 < S0.next ∨ (id.1 = S0.next ∧ listed.getD id.2.1 false = true)) → (∀ i, i < ops.size → listed.getD i true = true) → Q .normal a w := by
    intro listed used γ a w hsz h hu hall
    have hD : ∀ i, i < ops.size → listed.getD i false = true := fun i hi => by
      have := hall i hi
      have hs : i < listed.size := by rw [hsz]; exact hi
      simpa [Array.getD, hs] using this
    have he : Eqv (rep (fun i => listed.getD i false) S0 sps) (rep (fun _ => true) S0 sps) := by
      have hne : ∀ s ∈ sps, listed.getD s.i false ≠ true → False := fun s hs hn => by
        obtain ⟨i, hi⟩ := List.getElem?_of_mem hs
        have := (gi i s hi).1
        exact hn (this ▸ hD i (by rw [← g2]; exact (List.getElem?_eq_some_iff.1 hi).1))
      exact ⟨by rw [rep_next, rep_next], fun t => rep_look sps rfl fun s hs hn => (hne s hs hn).elim, fun id => rep_lookO sps rfl fun s hs hn => (hne s hs hn).elim⟩
    refine hQ used γ a w (h.eqv (he.trans g1)) fun id v hv => ?_
    rcases hu id v hv with h1 | ⟨h1, _⟩ <;> omega
  have ready_nil : ∀ (listed : Array Bool), listed.size = ops.size → Region.ready .any ops listed = [] → ∀ i, i < ops.size → listed.getD i true = true := by
    intro listed hsz hr i
    induction i using Nat.strongRecOn with
    | ind i ih =>
      intro hi
      cases hl : listed.getD i true with
      | true => rfl
      | false =>
        have : i ∈ Region.ready .any ops listed := mem_ready.2 ⟨hl, ops[i], by simp [hi], fun e he hb => by
          have hlt := (regOK_spec hreg (i := i) (o := ops[i]) (by simp [hi])).2.2 e he hb
          have := ih e.on hlt (by omega)
          have hs : e.on < listed.size := by rw [hsz]; omega
          simpa [Array.getD, hs] using this⟩
        rw [hr] at this
        simp at this
  intro fuel
  induction fuel with
  | zero =>
    intro listed used γ a w hsz hleft _ h hu
    have hz : left ops.size listed = 0 := by omega
    have hall := left_zero hz
    refine ⟨List.eq_nil_iff_forall_not_mem.2 fun i hi => ?_, done listed used γ a w hsz h hu hall⟩
    obtain ⟨h1, o, ho, _⟩ := mem_ready.1 hi
    rw [hall i (Array.getElem?_eq_some_iff.1 ho).1] at h1
    cases h1
  | succ fuel ih =>
    intro listed used γ a w hsz hleft hcl h hu
    refine ⟨fun hr => done listed used γ a w hsz h hu (ready_nil listed hsz hr), fun i hi => ?_⟩
    obtain ⟨hun, o, ho, hafter⟩ := mem_ready.1 hi
    have hlt : i < ops.size := (Array.getElem?_eq_some_iff.1 ho).1
    have hunf : listed.getD i false = false := by
      have hs : i < listed.size := by rw [hsz]; exact hlt
      simpa [Array.getD, hs] using hun
    obtain ⟨s, hs, hst⟩ := g3 i o ho
    obtain ⟨r1, r2, r3⟩ := regOK_spec hreg ho
    have hafter : ∀ e ∈ o.after, Region.binds .any e = true → listed.getD e.on false = true := hafter
    have hsi : s.i = i := hst.1
    -- what is there already and what is not
    have hlow : ∀ (j : Nat) (sj : Sp), sps[j]? = some sj → j < i → listed.getD j false = false → apartE ops j i = true ∧ disjE (fsts sj.u) s.l = true ∧ disjE (fsts sj.u) (fsts s.u) = true ∧ disjE (fsts s.u) sj.l = true := by
      intro j sj hj hji hnl
      have e1 := (gi j sj hj).1
      rcases hpair i j s sj hji hj hs with hb | hb
      · rw [hsi, e1] at hb
        have := before_closed (D := fun i => listed.getD i false) hcl i j o ho hafter hb
        rw [show listed.getD j false = true from this] at hnl; cases hnl
      · rw [e1, hsi] at hb; exact hb
    have hhigh : ∀ (j : Nat) (sj : Sp), sps[j]? = some sj → i < j → listed.getD j false = true → apartE ops i j = true ∧ disjE (fsts s.u) sj.l = true ∧ disjE (fsts s.u) (fsts sj.u) = true ∧ disjE (fsts sj.u) s.l = true := by
      intro j sj hj hji hl
      have e1 := (gi j sj hj).1
      rcases hpair j i sj s hji hs hj with hb | hb
      · rw [hsi, e1] at hb
        obtain ⟨_, oj, hoj, _⟩ := gi j sj hj
        have := before_closed (D := fun i => listed.getD i false) hcl j i oj hoj (hcl j oj hoj hl) hb
        rw [show listed.getD i false = true from this] at hunf; cases hunf
      · rw [hsi, e1] at hb; exact hb
    have hap : ∀ (x y : Nat), apartE ops x y = true → ∃ ox oy, ops[x]? = some ox ∧ ops[y]? = some oy ∧ Oper.apart ops ox oy = true := fun x y hxy => by
      unfold apartE at hxy
      rw [nthE_eq, nthE_eq, Array.getElem?_toList, Array.getElem?_toList] at hxy
      split at hxy
      · rename_i ox oy hx hy; exact ⟨ox, oy, hx, hy, hxy⟩
      · cases hxy
    have hsplit : sps = sps.take i ++ s :: sps.drop (i + 1) := by
      obtain ⟨hl, he⟩ := List.getElem?_eq_some_iff.1 hs
      rw [← he, ← List.drop_eq_getElem_cons hl, List.take_append_drop]
    have hidx : ∀ (j : Nat) (sj : Sp), (sps.drop (i + 1))[j]? = some sj → sps[i + 1 + j]? = some sj := fun j sj hj => by rwa [List.getElem?_drop] at hj
    have hidx' : ∀ (j : Nat) (sj : Sp), (sps.take i)[j]? = some sj → j < i ∧ sps[j]? = some sj := fun j sj hj => by
      rw [List.getElem?_take] at hj
      split at hj
      · exact ⟨‹_›, hj⟩
      · cases hj
    have hst' : Stp K.C K.G ops (rep (fun i => listed.getD i false) S0 sps) i o s := by
      refine hst.congr (by rw [rep_next, rep_next]) (fun t htm => ?_) (fun id hid => ?_)
      · have h1 : look (rep (fun i => listed.getD i false) S0 sps).env t = look (rep (fun i => listed.getD i false) S0 (sps.take i)).env t := by
          have : look (rep (fun i => listed.getD i false) (rep (fun i => listed.getD i false) S0 (sps.take i)) (s :: sps.drop (i + 1))).env t = look (rep (fun _ => false) (rep (fun i => listed.getD i false) S0 (sps.take i)) (s :: sps.drop (i + 1))).env t := by
            refine rep_look _ rfl fun sj hsj hne hdst => ?_
            have hne : listed.getD sj.i false = true := by simpa using hne
            rcases List.mem_cons.1 hsj with rfl | hsj
            · rw [hsi, hunf] at hne; cases hne
            · obtain ⟨j, hj⟩ := List.getElem?_of_mem hsj
              have hj := hidx j sj hj
              obtain ⟨e1, oj, hoj, e2⟩ := gi _ sj hj
              obtain ⟨ox, oy, k1, k2, k3⟩ := hap _ _ (hhigh _ sj hj (by omega) (by rw [← e1]; exact hne)).1
              rw [ho] at k1; rw [hoj] at k2
              cases k1; cases k2
              exact (Oper.apart_spec k3).2.2 t (by rw [← e2]; exact hdst) htm
          have hf : ∀ (l : List Sp) (S : St), rep (fun _ => false) S l = S := by
            intro l; induction l with
            | nil => intro S; rfl
            | cons x l ih => intro S; exact ih S
          rw [hf] at this
          rw [← this, ← rep_append, ← hsplit]
        rw [h1]
        refine rep_look _ rfl fun sj hsj hne hdst => ?_
        have hne : listed.getD sj.i false = false := by simpa using Ne.symm hne
        obtain ⟨j, hj⟩ := List.getElem?_of_mem hsj
        obtain ⟨hji, hj⟩ := hidx' j sj hj
        obtain ⟨e1, oj, hoj, e2⟩ := gi _ sj hj
        obtain ⟨ox, oy, k1, k2, k3⟩ := hap _ _ (hlow j sj hj hji (by rw [← e1]; exact hne)).1
        rw [hoj] at k1; rw [ho] at k2
        cases k1; cases k2
        exact (Oper.apart_spec k3).1 t (by rw [← e2]; exact hdst) htm
      · have h1 : lookO (rep (fun i => listed.getD i false) S0 sps).objs id = lookO (rep (fun i => listed.getD i false) S0 (sps.take i)).objs id := by
          have : lookO (rep (fun i => listed.getD i false) (rep (fun i => listed.getD i false) S0 (sps.take i)) (s :: sps.drop (i + 1))).objs id = lookO (rep (fun _ => false) (rep (fun i => listed.getD i false) S0 (sps.take i)) (s :: sps.drop (i + 1))).objs id := by
            refine rep_lookO _ rfl fun sj hsj hne => ?_
            have hne : listed.getD sj.i false = true := by simpa using hne
            rcases List.mem_cons.1 hsj with rfl | hsj
            · rw [hsi, hunf] at hne; cases hne
            · obtain ⟨j, hj⟩ := List.getElem?_of_mem hsj
              have hj := hidx j sj hj
              obtain ⟨e1, oj, hoj, e2⟩ := gi _ sj hj
              have := (hhigh _ sj hj (by omega) (by rw [← e1]; exact hne)).2.2.2
              cases hm : memE (fsts sj.u) id with
              | false => rfl
              | true => exact absurd hid (disjE_spec this id hm)
          have hf : ∀ (l : List Sp) (S : St), rep (fun _ => false) S l = S := by
            intro l; induction l with
            | nil => intro S; rfl
            | cons x l ih => intro S; exact ih S
          rw [hf] at this
          rw [← this, ← rep_append, ← hsplit]
        rw [h1]
        refine rep_lookO _ rfl fun sj hsj hne => ?_
        have hne : listed.getD sj.i false = false := by simpa using Ne.symm hne
        obtain ⟨j, hj⟩ := List.getElem?_of_mem hsj
        obtain ⟨hji, hj⟩ := hidx' j sj hj
        obtain ⟨e1, oj, hoj, e2⟩ := gi _ sj hj
        have := (hlow j sj hj hji (by rw [← e1]; exact hne)).2.1
        cases hm : memE (fsts sj.u) id with
        | false => rfl
        | true => exact absurd hid (disjE_spec this id hm)
    have hnew : Eqv ((rep (fun i => listed.getD i false) S0 sps).app s) (rep (fun j => (listed.setIfInBounds i true).getD j false) S0 sps) := by
      have hset : ∀ j, j ≠ i → (listed.setIfInBounds i true).getD j false = listed.getD j false := fun j hj => getD_set_ne false (Ne.symm hj)
      have hsame : ∀ (l : List Sp) (S : St), (∀ sj ∈ l, sj.i ≠ i) → rep (fun j => (listed.setIfInBounds i true).getD j false) S l = rep (fun i => listed.getD i false) S l := by
        intro l
        induction l with
        | nil => intro S _; rfl
        | cons x l ih2 =>
          intro S hx
          simp only [rep]
          rw [hset _ (hx x (List.mem_cons_self ..))]
          exact ih2 _ fun sj hsj => hx sj (List.mem_cons_of_mem _ hsj)
      have hA : ∀ sj ∈ sps.take i, sj.i ≠ i := fun sj hsj e => by
        obtain ⟨j, hj⟩ := List.getElem?_of_mem hsj
        obtain ⟨hji, hj⟩ := hidx' j sj hj
        have := (gi j sj hj).1
        omega
      have hB : ∀ sj ∈ sps.drop (i + 1), sj.i ≠ i := fun sj hsj e => by
        obtain ⟨j, hj⟩ := List.getElem?_of_mem hsj
        have := (gi _ sj (hidx j sj hj)).1
        omega
      have e1 : rep (fun i => listed.getD i false) S0 sps = rep (fun i => listed.getD i false) (rep (fun i => listed.getD i false) S0 (sps.take i)) (sps.drop (i + 1)) := by
        conv => lhs; rw [hsplit]
        rw [rep_append]
        simp only [rep]
        rw [hsi, hunf]; rfl
      have hsz' : i < listed.size := by rw [hsz]; exact hlt
      have e2 : rep (fun j => (listed.setIfInBounds i true).getD j false) S0 sps = rep (fun i => listed.getD i false) ((rep (fun i => listed.getD i false) S0 (sps.take i)).app s) (sps.drop (i + 1)) := by
        conv => lhs; rw [hsplit]
        rw [rep_append, hsame _ _ hA]
        simp only [rep]
        rw [hsi]
        have : (listed.setIfInBounds i true).getD i false = true := by simp [hsz']
        rw [this]
        exact hsame _ _ hB
      rw [e1, e2]
      refine (rep_app (sps.drop (i + 1)) _ fun sj hsj hD => ?_).symm
      obtain ⟨j, hj⟩ := List.getElem?_of_mem hsj
      have hj := hidx j sj hj
      obtain ⟨f1, oj, hoj, f2⟩ := gi _ sj hj
      obtain ⟨p1, p2, p3, p4⟩ := hhigh _ sj hj (by omega) (by rw [← f1]; exact hD)
      obtain ⟨ox, oy, k1, k2, k3⟩ := hap _ _ p1
      rw [ho] at k1; rw [hoj] at k2
      cases k1; cases k2
      refine ⟨fun d hd => ?_, fun id hid => ?_⟩
      · rw [f2]
        exact (Oper.apart_spec k3).2.1 d (by rw [← hst.2.1]; exact hd)
      · have := disjE_spec p3 id hid
        cases hm : memE (fsts sj.u) id with
        | false => rfl
        | true => exact absurd (memE_iff.1 hm) this
    refine stp_wp h hK hst' r1 (fun d hd => dok_of (r2 d hd)) ho (fun id i1 i2 v hv => ?_) fun used' γ' a' w' hg hr => ?_
    · rw [rep_next] at i1
      rcases hu id v hv with h1 | ⟨_, h1⟩
      · omega
      · rw [i2, hunf] at h1; cases h1
    · have hsz' : i < listed.size := by rw [hsz]; exact hlt
      have hself : (listed.setIfInBounds i true).getD i false = true := by simp [hsz']
      refine ih (listed.setIfInBounds i true) used' γ' a' w' (by simpa using hsz) ?_ (fun j oj hoj hl e he hb => ?_) (hr.eqv hnew) fun id v hv => ?_
      · have := left_set hlt hun
        omega
      · by_cases hij : i = j
        · subst hij
          rw [ho] at hoj; cases hoj
          exact getD_set_true (hafter e he hb)
        · rw [getD_set_ne false hij] at hl
          exact getD_set_true (hcl j oj hoj hl e he hb)
      · rcases hg id v hv with ⟨v', hv'⟩ | ⟨i1, i2⟩
        · rcases hu id v' hv' with h1 | ⟨h1, h2⟩
          · exact .inl h1
          · exact .inr ⟨h1, getD_set_true h2⟩
        · refine .inr ⟨by rw [← rep_next]; exact i1, ?_⟩
          rw [show id.2.1 = i from i2]
          exact hself
end
end Go.Pon
set_option autoImplicit false
set_option linter.unusedVariables false
namespace Go.Pon
open Go
structure Head (K : Konst) (ms : List MTy) (vals : List Value) (x : denL ms) (w : World) : Prop where
  frame : FrameW K.w0 w K.own
  mr : ∃ bs ok, MRL w ok K.base ms vals x bs ∧ bs.Nodup ∧ (∀ f b, ok f b → b ∉ bs ∧ ¬ K.B b ∧ (f = true → K.base ≤ b)) ∧ ∀ g ∈ bs, (K.base ≤ g ∨ g ∈ K.own) ∧ ¬ K.B g
section
variable {K : Konst} {S : St} {used : Id → Nat → Prop} {γ : Id → Value} {a : Act} {w : World}
theorem close_head (h : Rel K S used γ a w) {ms : List MTy} {vs : List AV} {vals : List Value} (hlen : vals.length = vs.length)
    (hv : ∀ (i : Nat) (v : AV) (val : Value), vs[i]? = some v → vals[i]? = some val → vrel (envOf K S.objs used γ w) v val) {x : denL ms} {l : List Id}
    (hl : Leads K.C S.objs (closeL true ms vs ⟨[], []⟩ fun x _ => .done x) [] x l) : Head K ms vals x w := by
  obtain ⟨x', c, l1, new, hl, hc, _, hperm, _, hmr⟩ := closeL_spec h ms vs (CInv.start S true) hl
  obtain ⟨rfl, _⟩ := hl
  have hperm : (movedL c.ups).Perm new := by simpa [movedL] using hperm
  have hnn : new.Nodup := hperm.nodup_iff.1 hc.nodup
  refine ⟨h.frame, blkOf S γ new, okL K S γ c, hmr vals hlen hv, blkOf_nodup h hnn, fun f b hb => ⟨fun hm => ?_, hb.2⟩, fun g hg => ?_⟩
  · obtain ⟨i, hi, hi2⟩ := mem_blkOf.1 hm
    exact hc.apart i (mem_moved.1 (hperm.mem_iff.2 hi)) (hb.1 i hi2)
  · obtain ⟨i, hi, hi2⟩ := mem_blkOf.1 hg
    exact h.mod i g hi2
theorem open_rel {ms : List MTy} {vals : List Value} {x : denL ms} (hh : Head K ms vals x w) (hsize : a.tmps.size = K.nt) (hdef : a.defers = [])
    (hkept : ∀ (i : Nat) (v : Value), K.args[i]? = some (some v) → a.tmps.getD i undef = v) {vs : List AV} {u : Ups} {l : List Id} {C : CallD}
    (hl : Leads C [] (openL ms x (0, 0, 0) [] fun vs _ u => .done (vs, u)) [] (vs, u) l) :
    ∃ used γ, (∀ id v, used id v → id.1 = 0) ∧ vs.length = vals.length ∧ (∀ v ∈ vs, solid v = true) ∧ ∀ env : List (Nat × AV), (∀ t, look env t = .any ∨ ∃ (i : Nat) (v : AV) (val : Value), vs[i]? = some v ∧ vals[i]? = some val ∧ look env t = v ∧ a.tmps.getD t undef = val) →
      Rel K { env := env, objs := u, next := 1 } used γ a w := by
  obtain ⟨hf, bs, ok, hm, hnd, hok, hbs⟩ := hh
  obtain ⟨vs', n', N, hl, hspan, hblk, hlen, hsol, hpl⟩ := openL_spec ms hm hl
  obtain ⟨e, _⟩ := hl
  have e : (vs', New.ups N ++ []) = (vs, u) := e
  rw [List.append_nil] at e
  cases e
  let used : Id → Nat → Prop := fun id v => v = 0 ∧ ∃ p ∈ N, p.1 = id
  have happ : ∀ j, lookO (New.ups N) j = lookO (appE (New.ups N) []) j := fun j => by rw [appE_eq, List.append_nil]
  have hlk : ∀ p ∈ N, lookO (New.ups N) p.1 = some p.2.1 := fun p hp => by rw [happ]; exact lookNew hspan.nodup hp
  have hno : ∀ j, (∀ p ∈ N, p.1 ≠ j) → lookO (New.ups N) j = none := fun j hj => by rw [happ, lookOld hj]; rfl
  have hlive : ∀ j g, liveBlk (lookO (New.ups N) j) (newVal N (fun _ => undef) j) = some g → ∃ p ∈ N, p.1 = j ∧ liveBlk (some p.2.1) p.2.2 = some g := by
    intro j g hg
    by_cases hj : ∃ p ∈ N, p.1 = j
    · obtain ⟨p, hp, rfl⟩ := hj
      rw [newVal_at hspan.nodup hp, hlk p hp] at hg
      exact ⟨p, hp, rfl, hg⟩
    · rw [hno j fun p hp e => hj ⟨p, hp, e⟩] at hg
      cases hg
  have hplace : Placed w ok K.base N K (envOf K (New.ups N) used (newVal N fun _ => undef) w) := by
    refine ⟨rfl, rfl, fun f b hb => ⟨fun id hid => ?_, (hok f b hb).2⟩, fun p hp => ⟨hlk p hp, (newVal_at hspan.nodup hp : newVal N (fun _ => undef) p.1 = p.2.2), rfl, p, hp, rfl⟩⟩
    obtain ⟨p, hp, _, hp2⟩ := hlive id b hid
    exact (hok f b hb).1 (hblk.mem_iff.1 (blk_mem hp hp2))
  obtain ⟨q1, q2⟩ := hpl K _ hplace
  refine ⟨used, newVal N fun _ => undef, ?_, hlen, hsol, fun env henv => ⟨hsize, hdef, hkept, fun t => ?_, fun id o ho => ?_, fun id o ho => ?_, fun id ver fr t rows v ho hu => ?_, fun i j g hi hj => ?_, fun i g hi => ?_, hf⟩⟩
  · rintro id v ⟨_, p, hp, rfl⟩
    exact (hspan.ids p hp).1
  · rcases henv t with h1 | ⟨i, v, val, h1, h2, h3, h4⟩
    · show vrel _ (look env t) _
      rw [h1]; trivial
    · show vrel _ (look env t) _
      rw [h3, h4]
      exact vrel_of1 (hsol v (List.mem_of_getElem? h1)) (q1 i v val h1 h2)
  · have ho : lookO (New.ups N) id = some o := ho
    by_cases hj : ∃ p ∈ N, p.1 = id
    · obtain ⟨p, hp, rfl⟩ := hj
      rw [hlk p hp] at ho
      cases ho
      exact q2 p hp
    · rw [hno id fun p hp e => hj ⟨p, hp, e⟩] at ho
      cases ho
  · have ho : lookO (New.ups N) id = some o := ho
    by_cases hj : ∃ p ∈ N, p.1 = id
    · exact ⟨0, rfl, hj⟩
    · rw [hno id fun p hp e => hj ⟨p, hp, e⟩] at ho
      cases ho
  · obtain ⟨rfl, _⟩ := hu
    exact Nat.zero_le _
  · obtain ⟨p, hp, rfl, hp2⟩ := hlive i g hi
    obtain ⟨q, hq, rfl, hq2⟩ := hlive j g hj
    rw [blk_inj (hblk.nodup_iff.2 hnd) hp hq hp2 hq2]
  · obtain ⟨p, hp, _, hp2⟩ := hlive i g hi
    exact hbs g (hblk.mem_iff.1 (blk_mem hp hp2))
def AL (a : Act) (w : World) (x : Ali) : Prop := ∃ g val, a.tmps.getD x.q undef = .pointer (some ⟨g, 0, none⟩) ∧ w.cell? ⟨g, offT x.t [x.i], none⟩ = some val ∧ a.tmps.getD x.s undef = val
theorem ali_cell (h : Rel K S used γ a w) {x : Ali} {j : Id} {v : Nat} (hx : aliAt S x = some (j, v)) :
    ∃ g val, a.tmps.getD x.q undef = .pointer (some ⟨g, 0, none⟩) ∧ w.cell? ⟨g, offT x.t [x.i], none⟩ = some val ∧ ARc (envOf K S.objs used γ w) (.own j v) [val] := by
  unfold aliAt at hx
  split at hx
  · rename_i id hq
    split at hx
    · rename_i fm u c ho
      split at hx
      · rename_i t' ht
        cases hb : (Ty.beq u x.t && inArr x.t x.i) with
        | false => rw [hb] at hx; cases hx
        | true =>
          rw [hb] at hx
          simp only [cond_true] at hx
          simp only [Bool.and_eq_true] at hb
          have e := Ty.beq_iff.1 hb.1
          subst e
          split at hx
          · rename_i j' v' hn
            cases hx
            have hv : vrel (envOf K S.objs used γ w) (look S.env x.q) (a.tmps.getD x.q undef) := h.env x.q
            rw [hq] at hv
            obtain ⟨_, hp⟩ := ptr_inv hv
            obtain ⟨g, u', p1, p2, p3, p4⟩ := hp x.t ⟨fm, c, .inl ho⟩
            obtain ⟨g', e', cur, m1, m2, m3, m4, _⟩ := h.objs id _ ho
            have m1 : γ id = _ := m1
            have p1 : γ id = _ := p1
            rw [m1] at p1
            obtain rfl : g' = g := by cases p1; rfl
            have m2 : w.heap[g']? = _ := m2
            obtain ⟨n1, n2, n3⟩ := navA_spec c x.t [x.i] (.slice t') cur.toList m3 ht (inT_one ht hb.2) m4 _ hn
            obtain ⟨_, val, hval, _, _⟩ := n2
            refine ⟨g', val, by rw [p4, (nil_path x.t).2.2], ?_, ?_⟩
            · have := cells_at m2 (offT x.t [x.i]) (Ty.slice t').size 0 val (by rw [hval]; rfl)
              rw [Addr.add_lit] at this
              exact this
            · rw [← hval]; exact (navA_spec c x.t [x.i] (.slice t') cur.toList m3 ht (inT_one ht hb.2) m4 _ hn).2.1
          · cases hx
      · cases hx
    · cases hx
  · cases hx
theorem slB_spec {o : Option Obj} {v : Nat} (h : slB o v = true) : ∃ t n, isSl o v t n := by
  unfold slB at h
  split at h
  · rename_i w f t r
    have := Nat.eq_of_beq_eq_true h
    subst this
    exact ⟨t, _, f, r, rfl, .inl rfl⟩
  · rename_i w f t r
    have := Nat.eq_of_beq_eq_true h
    subst this
    exact ⟨t, _, f, r, rfl, .inr rfl⟩
  · cases h
theorem ali_close (h : Rel K S used γ a w) {x : Ali} (hx : aliOne S x = true) : AL a w x := by
  unfold aliOne at hx
  split at hx
  · rename_i j v j' v' h1 h2
    simp only [Bool.and_eq_true] at hx
    have e1 := idE_iff.1 hx.1
    have e2 := Nat.eq_of_beq_eq_true hx.2.1
    subst e1 e2
    obtain ⟨t, n, hs⟩ := slB_spec hx.2.2
    obtain ⟨g, val, q1, q2, q3⟩ := ali_cell h h1
    have hv : vrel (envOf K S.objs used γ w) (look S.env x.s) (a.tmps.getD x.s undef) := h.env x.s
    rw [h2] at hv
    obtain ⟨_, _, k1⟩ := own_inv hv
    have k1 := k1 t n hs
    obtain ⟨_, val', e3, _, k2⟩ := q3
    cases e3
    have k2 := k2 t n hs
    exact ⟨g, val, q1, q2, by rw [k1, k2]⟩
  · cases hx
theorem rel_env (h : Rel K S used γ a w) {env : List (Nat × AV)} (he : ∀ t, vrel (envOf K S.objs used γ w) (look env t) (a.tmps.getD t undef)) : Rel K { S with env := env } used γ a w :=
  ⟨h.size, h.defers, h.kept, he, h.objs, h.ou, h.vers, h.sep, h.mod, h.frame⟩
theorem ali_open (h : Rel K S used γ a w) : ∀ {al : List Ali}, (∀ x ∈ al, AL a w x) → ∀ t, vrel (envOf K S.objs used γ w) (look (putAli S al) t) (a.tmps.getD t undef)
  | [], _, t => h.env t
  | x :: r, hal, t => by
    have ih := ali_open h (al := r) (fun y hy => hal y (List.mem_cons_of_mem _ hy)) t
    simp only [putAli]
    split
    · rename_i j v hx
      rw [look_cons]
      by_cases e : x.s = t
      · rw [if_pos e]
        subst e
        obtain ⟨g, val, q1, q2, q3⟩ := ali_cell h hx
        obtain ⟨g', val', r1, r2, r3⟩ := hal x (List.mem_cons_self ..)
        rw [q1] at r1
        cases r1
        rw [q2] at r2
        cases r2
        rw [r3]
        obtain ⟨u1, val', e3, u2, u3⟩ := q3
        cases e3
        exact vrel1_of (a := .own j v) ⟨u1, val, rfl, u2, u3⟩ rfl (by cases val <;> simp_all [Value.oneCell', isAgg'])
      · rw [if_neg e]; exact ih
    · exact ih
end
end Go.Pon
set_option autoImplicit false
set_option linter.unusedVariables false
namespace Go.Pon
open Go
def codeOK (ps : List Bool) (nt : Nat) : Code → Bool
  | .region _ ops _ => regOK ps nt ops
  | .seq a b => codeOK ps nt a && codeOK ps nt b
  | .cond c a b => constOK c && codeOK ps nt a && codeOK ps nt b
  | .block _ c => codeOK ps nt c
  | .loop c => codeOK ps nt c
  | _ => true
theorem allE_mem0 {α : Type} {f : α → Bool} : ∀ {l : List α}, allE f l = true → ∀ x ∈ l, f x = true
  | [], _, x, h => by cases h
  | a :: l, h, x, hx => by
    simp only [allE, Bool.and_eq_true] at h
    rcases List.mem_cons.1 hx with rfl | hx
    · exact h.1
    · exact allE_mem0 h.2 x hx
def LoopOK (L : LoopD) : Prop := ∀ (ω δ : Type) (round : (δ → Option ω) → δ → Option ω) (x : δ) (r : ω), L ω δ round x = some r → ∃ n, loopN round n x = some r
theorem bigLoop_ok : LoopOK bigLoop := fun _ _ _ _ _ h => ⟨bigN, by rw [bigLoop_def] at h; exact h⟩
def Inv (K : Konst) (S : St) (used : Id → Nat → Prop) (γ : Id → Value) (a : Act) (w : World) : Prop := Rel K S used γ a w ∧ ∀ id v, used id v → id.1 < S.next
theorem putSlots_look {a : Act} : ∀ (hs : List (Nat × MTy)) (vs : List AV), vs.length = hs.length → ∀ t, look (putSlots hs vs) t = .any ∨
    ∃ (i : Nat) (v : AV) (val : Value), vs[i]? = some v ∧ (hs.map fun p => a.tmps.getD p.1 undef)[i]? = some val ∧ look (putSlots hs vs) t = v ∧ a.tmps.getD t undef = val
  | [], [], _, t => .inl rfl
  | (s, m) :: hs, v :: vs, hlen, t => by
    simp only [putSlots, look_cons]
    by_cases e : s = t
    · rw [if_pos e]
      exact .inr ⟨0, v, a.tmps.getD s undef, rfl, rfl, rfl, by rw [e]⟩
    · rw [if_neg e]
      rcases putSlots_look (a := a) hs vs (by simpa using hlen) t with h | ⟨i, v', val, h1, h2, h3, h4⟩
      · exact .inl h
      · exact .inr ⟨i + 1, v', val, by simpa using h1, by simpa using h2, h3, h4⟩
theorem slotsOf_get (S : St) : ∀ (hs : List (Nat × MTy)), slotsOf S hs = hs.map fun p => look S.env p.1
  | [] => rfl
  | (i, _) :: hs => by simp [slotsOf, slotsOf_get S hs]
theorem MRL.len {w : World} {ok : Bool → Nat → Prop} {base : Nat} : ∀ {ms : List MTy} {vs : List Value} {x : denL ms} {bs : List Nat}, MRL w ok base ms vs x bs → vs.length = ms.length
  | [], _, _, _, ⟨h, _⟩ => by rw [h]; rfl
  | _ :: _, _, _, _, ⟨_, _, _, _, h, _, _, h2, _⟩ => by rw [h]; simp [MRL.len h2]
theorem least {p : Nat → Prop} (h : ∃ n, p n) : ∃ n, p n ∧ ∀ m, p m → n ≤ m := by
  obtain ⟨n, hn⟩ := h
  induction n using Nat.strongRecOn with
  | ind n ih =>
    by_cases hm : ∃ m, m < n ∧ p m
    · obtain ⟨m, h1, h2⟩ := hm
      exact ih m h1 h2
    · refine ⟨n, hn, fun m h2 => ?_⟩
      rcases Nat.lt_or_ge m n with h1 | h1
      · exact absurd ⟨m, h1, h2⟩ hm
      · exact h1
noncomputable def leastOf (p : Nat → Prop) : Nat := @dite Nat (∃ n, p n) (Classical.propDecidable _) (fun h => Classical.choose (least h)) (fun _ => 0)
theorem leastOf_spec {p : Nat → Prop} (h : ∃ n, p n) : p (leastOf p) ∧ ∀ m, p m → leastOf p ≤ m := by
  have : leastOf p = Classical.choose (least h) := dif_pos h
  rw [this]
  exact Classical.choose_spec (least h)
section
variable {K : Konst}
theorem region_wp (hK : K.OK) (hmix : K.P.follows .mixedOrders = true) {ω : Type} {k : St → Option ω} {r : ω} {id : Nat} {ops : Array Oper} {draw : Bool} (hreg : regOK (K.args.map (·.isSome)) K.nt ops = true)
    {Q : Exit → Act → World → Prop} (hQ : ∀ S used γ a w, Inv K S used γ a w → k S = some r → Q .normal a w) {S : St} {used : Id → Nat → Prop} {γ : Id → Value} {a : Act} {w : World}
    (h : Inv K S used γ a w) (he : evalOps K.C K.G ops draw (idxE 0 ops.toList) S [] k = some r) : (Code.region id ops draw).wp K.P Q a w := by
  obtain ⟨sps, S', ht, hfree, hk⟩ := evalOps_tr _ _ _ he
  have hnext : S'.next = S.next := by
    have := ht.get.1.next
    rw [rep_next] at this
    exact this.symm
  have hfin : ∀ used' γ' a' w', Rel K S' used' γ' a' w' → (∀ id v, used' id v → id.1 < S.next + 1) → Q .normal a' w' := fun used' γ' a' w' hr hu =>
    hQ { S' with next := Nat.succ S'.next } used' γ' a' w' ⟨⟨hr.size, hr.defers, hr.kept, hr.env, hr.objs, hr.ou, hr.vers, hr.sep, hr.mod, hr.frame⟩, fun id v hv => by
      show id.1 < S'.next + 1
      rw [hnext]; exact hu id v hv⟩ hk
  cases draw with
  | false =>
    refine wp_region ?_
    have hfst : (idxE 0 ops.toList).map (·.1) = List.range ops.size := by rw [idxE_fst, List.range_eq_range']; simp
    rw [← hfst]
    refine ord_wp hK hfin _ S sps ht (fun p hp => ?_) ?_ rfl used γ a w h.1 fun id v hv => .inl (h.2 id v hv)
    · obtain ⟨n, hn⟩ := List.getElem?_of_mem hp
      rw [idxE_nth] at hn
      obtain ⟨o, ho, rfl⟩ := Option.map_eq_some_iff.1 hn
      have ho : ops[n]? = some o := by simpa using ho
      obtain ⟨r1, r2, _⟩ := regOK_spec hreg ho
      exact ⟨by simpa using ho, r1, fun d hd => dok_of (r2 d hd)⟩
    · rw [hfst]; exact List.nodup_range
  | true =>
    refine wp_region_any hmix ?_
    refine any_wp hK ht hreg (hfree rfl) hfin ops.size _ used γ a _ (by simp) ?_ (fun i o _ hl => ?_) ?_ fun id v hv => .inl (h.2 id v hv)
    · unfold left
      refine Nat.le_trans (List.length_filter_le ..) ?_
      simp
    · exfalso
      simp only [Array.getD_eq_getD_getElem?, Array.getElem?_replicate] at hl
      split at hl <;> simp at hl
    · have hf : ∀ (l : List Sp) (S : St), rep (fun i => (Array.replicate ops.size false).getD i false) S l = S := by
        intro l
        induction l with
        | nil => intro S; rfl
        | cons x l ih =>
          intro S
          simp only [rep]
          have : (Array.replicate ops.size false).getD x.i false = false := by
            simp only [Array.getD_eq_getD_getElem?, Array.getElem?_replicate]
            split <;> rfl
          rw [this]
          exact ih S
      rw [hf]
      exact h.1.drawn _
theorem code_wp (hK : K.OK) (hmix : K.P.follows .mixedOrders = true) {L : LoopD} (hL : LoopOK L) {ω : Type} {r : ω} {f : FuncId} : ∀ (c : Code) (id : Nat) (kn : St → Option ω) (ke : Nat → St → Option ω) (kr : St → Option ω) (Q : Exit → Act → World → Prop),
    codeOK (K.args.map (·.isSome)) K.nt c = true → (∀ S used γ a w, Inv K S used γ a w → kn S = some r → Q .normal a w) → (∀ i S used γ a w, Inv K S used γ a w → ke i S = some r → Q (.exit i) a w) →
    (∀ S used γ a w, Inv K S used γ a w → kr S = some r → Q .ret a w) → ∀ S used γ a w, Inv K S used γ a w → evalCode K.C L K.G f c id kn ke kr S = some r → c.wp K.P Q a w := by
  intro c
  induction c with
  | skip => intro id kn ke kr Q _ hn _ _ S used γ a w h he; exact wp_skip (hn S used γ a w h he)
  | label l => intro id kn ke kr Q _ hn _ _ S used γ a w h he; exact wp_label (hn S used γ a w h he)
  | exit i => intro id kn ke kr Q _ _ hx _ S used γ a w h he; exact wp_exit (hx i S used γ a w h he)
  | ret => intro id kn ke kr Q _ _ _ hr S used γ a w h he; exact wp_ret (hr S used γ a w h he)
  | region i ops draw =>
    intro id kn ke kr Q hc hn _ _ S used γ a w h he
    simp only [evalCode] at he
    split at he
    · exact region_wp hK hmix hc hn h he
    · generalize hhs : K.G.hint f (Nat.add 1000000 i) = hs at he
      generalize K.G.ali f (Nat.add 1000000 i) = al at he
      unfold closeSt at he
      cases hal : allE (aliOne S) al with
      | false => rw [hal] at he; cases he
      | true =>
      rw [hal] at he
      have h0 : ∀ x ∈ al, AL a w x := fun x hx => ali_close h.1 (allE_mem0 hal x hx)
      obtain ⟨y, l, h1, h2⟩ := interp_leads he
      have hh : Head K (modesOf hs) (hs.map fun p => a.tmps.getD p.1 undef) y w := close_head h.1 (by simp [slotsOf_get]) (fun i v val e1 e2 => by
        rw [slotsOf_get, List.getElem?_map] at e1
        rw [List.getElem?_map] at e2
        obtain ⟨p, hp, rfl⟩ := Option.map_eq_some_iff.1 e1
        rw [hp] at e2; cases e2
        exact h.1.env p.1) h1
      obtain ⟨⟨vs, u⟩, l, q1, q2⟩ := interp_leads (show interp K.C [] (openL (modesOf hs) y (0, 0, 0) [] fun vs _ u => .done (vs, u)) [] _ = some r from h2)
      obtain ⟨used', γ', u1, u2, u3, u4⟩ := open_rel (a := a) hh h.1.size h.1.defers h.1.kept q1
      have hlen : vs.length = hs.length := by simpa using u2
      exact region_wp hK hmix hc hn ⟨rel_env (u4 (putSlots hs vs) (putSlots_look hs vs hlen)) (ali_open (u4 (putSlots hs vs) (putSlots_look hs vs hlen)) h0), fun id v hv => by rw [u1 id v hv]; exact Nat.zero_lt_one⟩ q2
  | seq x y ihx ihy =>
    intro id kn ke kr Q hc hn hx hr S used γ a w h he
    simp only [codeOK, Bool.and_eq_true] at hc
    refine wp_seq (ihx id _ ke kr (Exit.then (y.wp K.P Q) Q) hc.1 ?_ hx hr S used γ a w h he)
    intro S' used' γ' a' w' h' he'
    exact ihy id kn ke kr Q hc.2 hn hx hr S' used' γ' a' w' h' he'
  | cond o x y ihx ihy =>
    intro id kn ke kr Q hc hn hx hr S used γ a w h he
    simp only [codeOK, Bool.and_eq_true] at hc
    simp only [evalCode] at he
    split at he
    · rename_i fr q hq
      have hv := eval_rel h.1 o hc.1.1
      rw [hq] at hv
      have e := bool_rel hv
      rcases brR_some he with ⟨h1, h2⟩ | ⟨h1, h2⟩
      · exact wp_cond e (by rw [h1]; exact ihx id kn ke kr Q hc.1.2 hn hx hr S used γ a w h h2)
      · exact wp_cond e (by rw [h1]; exact ihy id kn ke kr Q hc.2 hn hx hr S used γ a w h h2)
    · rename_i e0 r0 hq
      have hv := eval_rel h.1 o hc.1.1
      rw [hq] at hv
      obtain ⟨⟨b, hb, hbr⟩, h2⟩ := (show vrel1 _ (.ub e0 r0) _ from hv)
      rw [cells_one h2.symm] at hb
      have e : a.eval o = .bool b := by simpa using hb
      rcases brR_some he with ⟨q1, q2⟩ | ⟨q1, q2⟩
      · obtain ⟨k1, k2⟩ := bothR_some q2
        exact wp_cond_split e (fun _ => ihx id kn ke kr Q hc.1.2 hn hx hr S used γ a w h k1) (fun _ => ihy id kn ke kr Q hc.2 hn hx hr S used γ a w h k2)
      · rcases brR_some q2 with ⟨h1, h2⟩ | ⟨h1, h2⟩
        · exact wp_cond e (by rw [hbr q1, h1]; exact ihx id kn ke kr Q hc.1.2 hn hx hr S used γ a w h h2)
        · exact wp_cond e (by rw [hbr q1, h1]; exact ihy id kn ke kr Q hc.2 hn hx hr S used γ a w h h2)
    · cases he
  | block i x ih =>
    intro id kn ke kr Q hc hn hx hr S used γ a w h he
    refine wp_block (ih i kn _ kr (Exit.inBlock i Q) hc hn ?_ hr S used γ a w h he)
    intro j S' used' γ' a' w' h' he'
    simp only [Exit.inBlock]
    by_cases hj : j = i
    · subst hj
      rw [if_pos rfl]
      rw [Nat.beq_refl] at he'
      exact hn S' used' γ' a' w' h' he'
    · rw [if_neg hj]
      have : Nat.beq j i = false := by rw [Bool.eq_false_iff]; exact fun e => hj (Nat.eq_of_beq_eq_true e)
      rw [this] at he'
      exact hx j S' used' γ' a' w' h' he'
  | loop x ih =>
    intro id kn ke kr Q hc hn hx hr S used γ a w h he
    let hs := K.G.hint f id
    let al := K.G.ali f id
    let round : (denL (modesOf hs) → Option ω) → denL (modesOf hs) → Option ω := fun again x' => openSt K.C al (modesOf hs) hs x'
      (evalCode K.C L K.G f x id (fun S => closeSt K.C al (modesOf hs) hs S again) ke kr)
    let P : Act → World → Nat → Prop := fun a w n => a.tmps.size = K.nt ∧ a.defers = [] ∧ (∀ (i : Nat) (v : Value), K.args[i]? = some (some v) → a.tmps.getD i undef = v) ∧
      (∀ x ∈ al, AL a w x) ∧ ∃ y, loopN round n y = some r ∧ Head K (modesOf hs) (hs.map fun p => a.tmps.getD p.1 undef) y w
    have hclose : ∀ S used γ a w (k : denL (modesOf hs) → Option ω), Inv K S used γ a w → closeSt K.C al (modesOf hs) hs S k = some r →
        (∀ x ∈ al, AL a w x) ∧ ∃ y, k y = some r ∧ Head K (modesOf hs) (hs.map fun p => a.tmps.getD p.1 undef) y w := by
      intro S used γ a w k h he
      unfold closeSt at he
      cases hal : allE (aliOne S) al with
      | false => rw [hal] at he; cases he
      | true =>
      rw [hal] at he
      refine ⟨fun x hx => ali_close h.1 (allE_mem0 hal x hx), ?_⟩
      obtain ⟨y, l, h1, h2⟩ := interp_leads he
      refine ⟨y, h2, close_head h.1 (by simp [slotsOf_get]) (fun i v val e1 e2 => ?_) h1⟩
      rw [slotsOf_get, List.getElem?_map] at e1
      rw [List.getElem?_map] at e2
      obtain ⟨p, hp, rfl⟩ := Option.map_eq_some_iff.1 e1
      rw [hp] at e2; cases e2
      exact h.1.env p.1
    have hstart : ∃ n, P a w n := by
      obtain ⟨h0, y, h1, h2⟩ := hclose S used γ a w _ h he
      obtain ⟨n, hn⟩ := hL _ _ _ _ _ h1
      exact ⟨n, h.1.size, h.1.defers, h.1.kept, h0, y, hn, h2⟩
    refine wp_loop (I := fun a w => ∃ n, P a w n) (μ := fun a w => leastOf (P a w)) hstart ?_
    intro a w hI
    obtain ⟨m1, m2⟩ := leastOf_spec hI
    generalize hn0 : leastOf (P a w) = n at m1 m2
    obtain ⟨p1, p2, p3, p0, y, p4, p5⟩ := m1
    cases n with
    | zero => cases p4
    | succ n =>
      rw [loopN_succ] at p4
      obtain ⟨⟨vs, u⟩, l, q1, q2⟩ := interp_leads (show interp K.C [] (openL (modesOf hs) y (0, 0, 0) [] fun vs _ u => .done (vs, u)) [] _ = some r from p4)
      obtain ⟨used', γ', u1, u2, u3, u4⟩ := open_rel (a := a) p5 p1 p2 p3 q1
      have hlen : vs.length = hs.length := by simpa using u2
      refine ih id _ ke kr (Exit.then (fun a' w' => (∃ n, P a' w' n) ∧ leastOf (P a' w') < n + 1) Q) hc ?_ hx hr _ used' γ' a w ⟨rel_env (u4 (putSlots hs vs) (putSlots_look hs vs hlen)) (ali_open (u4 (putSlots hs vs) (putSlots_look hs vs hlen)) p0), fun id v hv => ?_⟩ q2
      · intro S'' used'' γ'' a'' w'' h'' he''
        obtain ⟨h0, y', h1, h2⟩ := hclose S'' used'' γ'' a'' w'' _ h'' he''
        have hP : P a'' w'' n := ⟨h''.1.size, h''.1.defers, h''.1.kept, h0, y', h1, h2⟩
        refine ⟨⟨n, hP⟩, ?_⟩
        have := (leastOf_spec ⟨n, hP⟩).2 n hP
        omega
      · rw [u1 id v hv]; exact Nat.zero_lt_one
  | _ => intro id kn ke kr Q hc hn hx hr S used γ a w h he; cases he
end
end Go.Pon
set_option autoImplicit false
set_option linter.unusedVariables false
namespace Go.Pon
open Go
structure Sure (P : Program) (G : Ctx) (C : CallD) : Prop where
  depth : 64 ≤ P.depth
  mix : P.follows .mixedOrders = true
  ty : ∀ T t, G.ty T = some t → tyB P t T = true
  sig : ∀ f s, G.sig f = some s → (∀ m ∈ s.ins, m.insOK = true) ∧ FnOK P f s (C f s)
def ptrsOf : List MTy → List Bool
  | [] => []
  | m :: ms => (match m with
    | .ptr _ => true
    | .optr _ => true
    | _ => false) :: ptrsOf ms
def keepL : List MTy → List Value → List (Option Value)
  | m :: ms, v :: vs => (match m with
    | .ptr _ => some v
    | .optr _ => some v
    | _ => none) :: keepL ms vs
  | _, _ => []
theorem keepL_ptrs : ∀ (ms : List MTy) (vs : List Value), vs.length = ms.length → (keepL ms vs).map (·.isSome) = ptrsOf ms
  | [], [], _ => rfl
  | m :: ms, v :: vs, h => by
    simp only [keepL, ptrsOf, List.map_cons, keepL_ptrs ms vs (by simpa using h)]
    cases m <;> rfl
theorem keepL_get : ∀ (ms : List MTy) (vs : List Value) (i : Nat) (v : Value), (keepL ms vs)[i]? = some (some v) → vs[i]? = some v
  | [], _, _, _, h => by simp [keepL] at h
  | _ :: _, [], _, _, h => by simp [keepL] at h
  | m :: ms, v :: vs, 0, v', h => by
    cases m <;> simp_all [keepL]
  | m :: ms, v :: vs, i + 1, v', h => by
    have := keepL_get ms vs i v' (by simpa [keepL] using h)
    simpa using this
theorem keepL_ptr : ∀ (ms : List MTy) (vs : List Value) (i : Nat) (m : MTy) (v : Value), ms[i]? = some m → vs[i]? = some v → ((∃ m', m = .ptr m') ∨ ∃ m', m = .optr m') → (keepL ms vs)[i]? = some (some v)
  | [], _, _, _, _, h, _, _ => by simp at h
  | _ :: _, [], _, _, _, _, h, _ => by simp at h
  | m :: ms, v :: vs, 0, m', v', h1, h2, h3 => by
    simp at h1 h2
    subst h1 h2
    rcases h3 with ⟨_, rfl⟩ | ⟨_, rfl⟩ <;> rfl
  | m :: ms, v :: vs, i + 1, m', v', h1, h2, h3 => by
    simpa [keepL] using keepL_ptr ms vs i m' v' (by simpa using h1) (by simpa using h2) h3
def funcOK (s : Sig) (fn : Func) (c : Code) : Bool :=
  (fn.name != "runtime.NumGoroutine") && codeOK (ptrsOf s.ins) fn.ntmps c && Nat.ble s.ins.length fn.ntmps
def resVal (tmps : Array Value) : ResultVar → Sem Value
  | .tmp t => pure (tmps.getD t undef)
  | .cell a t => do loadVar t (← asAddr (tmps.getD a undef))
section
variable {K : Konst} {S : St} {used : Id → Nat → Prop} {γ : Id → Value} {a : Act} {w : World}
theorem resultsK_spec (h : Rel K S used γ a w) (hK : K.OK) {α : Type} : ∀ (rvs : List ResultVar) {k : List AV → OpT α} {l0 l : List Id} {r : α}, Leads K.C S.objs (resultsK K.G S rvs k) l0 r l →
    ∃ (vs : List AV) (l1 : List Id) (vals : List Value), Leads K.C S.objs (k vs) l1 r l ∧ vals.length = vs.length ∧ (∀ (i : Nat) (v : AV) (val : Value), vs[i]? = some v → vals[i]? = some val → vrel (envOf K S.objs used γ w) v val) ∧
      (rvs.mapM (resVal a.tmps)).run K.P w = .ok vals w
  | [], k, l0, l, r, hl => ⟨[], l0, [], hl, rfl, by simp, by simp⟩
  | .tmp t :: rvs, k, l0, l, r, hl => by
    obtain ⟨vs, l1, vals, h1, h2, h3, h4⟩ := resultsK_spec h hK rvs (k := fun vs => k (look S.env t :: vs)) hl
    refine ⟨look S.env t :: vs, l1, a.tmps.getD t undef :: vals, h1, by simp [h2], fun i v val e1 e2 => ?_, by simp [List.mapM_cons, resVal, h4]⟩
    cases i with
    | zero => simp at e1 e2; subst e1 e2; simpa using h.env t
    | succ i => exact h3 i v val (by simpa using e1) (by simpa using e2)
  | .cell b e :: rvs, k, l0, l, r, hl => by
    simp only [resultsK] at hl
    split at hl
    · rename_i t id path ht hlk
      have key : ∀ (fr : Bool) (u w' : Ty) (c v : AV), (lookO S.objs id = some (.mem fr u c) ∨ lookO S.objs id = some (.mfz fr u c)) → tyAt u path = some w' → navA c path = some v → ∀ l0,
          Leads K.C S.objs (bif Ty.beq w' t && fitsA t v then resultsK K.G S rvs fun vs => k (v :: vs) else .fail) l0 r l →
          ∃ (vs : List AV) (l1 : List Id) (vals : List Value), Leads K.C S.objs (k vs) l1 r l ∧ vals.length = vs.length ∧ (∀ (i : Nat) (v : AV) (val : Value), vs[i]? = some v → vals[i]? = some val → vrel (envOf K S.objs used γ w) v val) ∧
            ((ResultVar.cell b e :: rvs).mapM (resVal a.tmps)).run K.P w = .ok vals w := by
        intro fr u w' c v ho htyp hnav l9 hk
        cases hb : (Ty.beq w' t && fitsA t v) with
        | false => rw [hb] at hk; exact hk.elim
        | true =>
          rw [hb] at hk
          simp only [Bool.and_eq_true] at hb
          obtain rfl := Ty.beq_iff.1 hb.1
          have hl : Leads K.C S.objs (resultsK K.G S rvs fun vs => k (v :: vs)) l9 r l := hk
          obtain ⟨vs, l1, vals, h1, h2, h3, h4⟩ := resultsK_spec h hK rvs (k := fun vs => k (v :: vs)) hl
          have hv := h.env b
          rw [hlk] at hv
          obtain ⟨_, hp⟩ := ptr_inv hv
          obtain ⟨g', u', p1, p2, p3, p4⟩ := hp u (isMm_of _ fr u c ho)
          obtain ⟨x, x1, x2⟩ := ptr_load h ho (hK.ty _ _ ht) hv htyp hnav
          rw [p4] at x1
          simp only [Instr.loadAt, Instr.sureAddr, Sem.run_bind, Sem.run_pure, Result.andThen_ok] at x1
          refine ⟨v :: vs, l1, x :: vals, h1, by simp [h2], fun i v' val e1 e2 => ?_, ?_⟩
          · cases i with
            | zero => simp at e1 e2; subst e1 e2; exact x2
            | succ i => exact h3 i v' val (by simpa using e1) (by simpa using e2)
          · simp only [List.mapM_cons, resVal, Sem.run_bind, p4, asAddr, Sem.run_pure, Result.andThen_ok, x1, h4]
      obtain ⟨ob, hob, hl⟩ := hl
      dsimp only at hl
      split at hl
      · split at hl
        · rename_i w' v htyp hnav
          exact key _ _ w' _ v (.inl hob) htyp hnav _ hl
        · exact hl.elim
      · split at hl
        · rename_i w' v htyp hnav
          exact key _ _ w' _ v (.inr hob) htyp hnav _ hl
        · exact hl.elim
      · exact hl.elim
    · exact hl.elim
theorem results_run {fn : Func} {vals : List Value} (h : (fn.results.toList.mapM (resVal a.tmps)).run K.P w = .ok vals w) : (results fn a.tmps).run K.P w = .ok (packV vals) w := by
  have e : results fn a.tmps = (do let vs ← fn.results.mapM (resVal a.tmps); pure (if h : vs.size = 1 then vs[0] else .tuple vs)) := by
    unfold results
    congr 2
  rw [e]
  simp only [Array.mapM_eq_mapM_toList, Sem.run_bind, map_eq_pure_bind, h, Result.andThen_ok, Sem.run_pure]
  congr 1
  match vals with
  | [] => rfl
  | [v] => rfl
  | v :: v' :: vs => simp [packV]
theorem argsNow_get (S : St) : ∀ (ms : List MTy) (n i : Nat), (argsNow S n ms)[i]? = if i < ms.length then some (look S.env (n + i)) else none
  | [], n, i => by simp [argsNow]
  | m :: ms, n, 0 => by simp [argsNow]
  | m :: ms, n, i + 1 => by
    simp only [argsNow, List.getElem?_cons_succ, argsNow_get S ms (Nat.succ n) i, List.length_cons, Nat.add_lt_add_iff_right]
    rw [show Nat.succ n + i = n + (i + 1) by omega]
theorem back_rel {E : Env} : ∀ (ms : List MTy) (vs : List AV) (vals : List Value), vs.length = ms.length → vals.length = ms.length →
    (∀ (i : Nat) (m : MTy) (v : AV) (val : Value), ms[i]? = some m → ((∃ m', m = .ptr m') ∨ ∃ m', m = .optr m') → vs[i]? = some v → vals[i]? = some val → vrel E v val) →
    (backV ms vals).length = (backArgs ms vs).length ∧ ∀ (i : Nat) (v : AV) (val : Value), (backArgs ms vs)[i]? = some v → (backV ms vals)[i]? = some val → vrel E v val
  | [], [], [], _, _, _ => ⟨rfl, by simp [backArgs]⟩
  | m :: ms, v :: vs, val :: vals, h1, h2, h3 => by
    obtain ⟨k1, k2⟩ := back_rel (E := E) ms vs vals (by simpa using h1) (by simpa using h2) fun i m v val e0 em e1 e2 => h3 (i + 1) m v val (by simpa using e0) em (by simpa using e1) (by simpa using e2)
    refine ⟨by simp [backV, backArgs, k1], fun i v' val' e1 e2 => ?_⟩
    cases i with
    | zero =>
      have h0 := fun hm => h3 0 m v val rfl hm rfl rfl
      simp only [backArgs, backV, List.getElem?_cons_zero, Option.some.injEq] at e1 e2
      subst e1 e2
      cases m with
      | ptr _ => exact h0 (.inl ⟨_, rfl⟩)
      | optr _ => exact h0 (.inr ⟨_, rfl⟩)
      | _ => exact (show vrel1 E (.d true .unit ()) (.agg #[]) from ⟨rfl, rfl⟩)
    | succ i => exact k2 i v' val' (by simpa [backArgs] using e1) (by simpa [backV] using e2)
end
theorem body_ok {P : Program} {G : Ctx} {C : CallD} {L : LoopD} (hS : Sure P G C) (hL : LoopOK L) {f : FuncId} {fn : Func} {c : Code} {s : Sig} (hf : P.funcs[f]? = some fn) (hb : fn.body = some c) (hok : funcOK s fn c = true) :
    FnOK P f s (evalBody L C G f fn c s) := by
  intro w B vals x bs y hF hB hnd hnB hm
  simp only [funcOK, Bool.and_eq_true, bne_iff_ne, ne_eq, Nat.ble_eq] at hok
  obtain ⟨⟨hname, hcode⟩, hnp⟩ := hok
  have hlen : vals.length = s.ins.length := hm.len
  refine .inl ⟨?_, calls_of_wp hf hb ?_⟩
  · simp [callFunc, hf, hname, hb]
  · let K : Konst := { P := P, G := G, C := C, w0 := w, own := bs, B := B, nt := fn.ntmps, args := keepL s.ins vals }
    have hK : K.OK := ⟨hB, hS.depth, hS.ty, hS.sig⟩
    have hH : Head K s.ins vals x w := ⟨⟨rfl, rfl, rfl, Nat.le_refl _, fun _ _ _ => rfl⟩, bs, okIn w B bs, hm, hnd, fun f b h => h, fun g hg => ⟨.inr hg, hnB g hg⟩⟩
    obtain ⟨⟨vs, u⟩, l, q1, q2⟩ := interp_leads (show interp C [] (openL s.ins x (0, 0, 0) [] fun vs _ u => .done (vs, u)) [] _ = some y from hF)
    have hsz : ((vals.toArray ++ Array.replicate (fn.ntmps - vals.toArray.size) undef : Array Value)).size = fn.ntmps := by simp; omega
    have hget : ∀ (i : Nat) (v : Value), vals[i]? = some v → (vals.toArray ++ Array.replicate (fn.ntmps - vals.toArray.size) undef : Array Value).getD i undef = v := fun i v hi => by
      have hlt := (List.getElem?_eq_some_iff.1 hi).1
      rw [Array.getD_eq_getD_getElem?, Array.getElem?_append_left (by simpa using hlt)]
      simp [hi]
    obtain ⟨used, γ, u1, u2, u3, u4⟩ := open_rel (K := K) (a := { tmps := vals.toArray ++ Array.replicate (fn.ntmps - vals.toArray.size) undef, defers := [] }) hH hsz rfl (fun i v hi => hget i v (keepL_get _ _ i v hi)) q1
    have hstart := u4 (idxE 0 vs) fun t => by
      rcases Nat.lt_or_ge t vs.length with ht | ht
      · have hv : vs[t]? = some vs[t] := by simp [ht]
        have hval : vals[t]? = some (vals[t]'(by omega)) := by simp
        refine .inr ⟨t, vs[t], _, hv, hval, ?_, hget t _ hval⟩
        have : ∀ (l : List AV) (n i : Nat) (v : AV), l[i]? = some v → look (idxE n l) (n + i) = v := by
          intro l
          induction l with
          | nil => intro n i v h; simp at h
          | cons x l ih =>
            intro n i v h
            simp only [idxE, look_cons]
            cases i with
            | zero => simp at h; simp [h]
            | succ i =>
              rw [if_neg (by omega), show n + (i + 1) = Nat.succ n + i by omega]
              exact ih (Nat.succ n) i v (by simpa using h)
        simpa using this vs 0 t _ hv
      · refine .inl ?_
        have : ∀ (l : List AV) (n t : Nat), n + l.length ≤ t → look (idxE n l) t = .any := by
          intro l
          induction l with
          | nil => intro n t _; rfl
          | cons x l ih =>
            intro n t h
            simp only [idxE, look_cons]
            simp only [List.length_cons] at h
            rw [if_neg (by omega)]
            exact ih (Nat.succ n) t (by omega)
        exact this vs 0 t (by omega)
    have hfin : ∀ S used γ a w', Inv K S used γ a w' → (interp C S.objs (resultsK G S fn.results.toList fun rs => closeL true s.outs rs ⟨[], []⟩ fun y c =>
        closeL true (updL s.ins) (backArgs s.ins (argsNow S 0 s.ins)) c fun z _ => .done (y, z)) [] fun y _ => some y) = some y → a.defers = [] ∧ ∃ v, (results fn a.tmps).run P w' = .ok v w' ∧ Gives w B s vals bs y v w' := by
      intro S used γ a w' hI he
      obtain ⟨y', l, k1, k2⟩ := interp_leads he
      cases k2
      obtain ⟨h, _⟩ := hI
      obtain ⟨rs, l1, rvals, k1, k2, k3, k4⟩ := resultsK_spec (K := K) h hK _ k1
      obtain ⟨y1, c1, l2, n1, k1, m2, m3, m4, m5, m6⟩ := closeL_spec h s.outs rs (CInv.start S true) k1
      obtain ⟨z1, c2, l3, n2, k1, d2, d3, d4, d5, d6⟩ := closeL_spec h (updL s.ins) _ m2 k1
      obtain ⟨e, _⟩ := k1
      subst e
      obtain ⟨b1, b2⟩ := back_rel (E := envOf K S.objs used γ w') s.ins (argsNow S 0 s.ins) vals (by
        have : ∀ (ms : List MTy) (n : Nat), (argsNow S n ms).length = ms.length := by
          intro ms
          induction ms with
          | nil => intro n; rfl
          | cons m ms ih => intro n; simp [argsNow, ih]
        exact this _ _) hlen fun i m v val e0 em e1 e2 => by
          rw [argsNow_get] at e1
          split at e1
          · cases e1
            rw [Nat.zero_add]
            have := h.env i
            rw [h.kept i val (keepL_ptr _ _ i m val e0 e2 em)] at this
            exact this
          · cases e1
      have hp1 : (movedL c1.ups).Perm n1 := by simpa [movedL] using m4
      have hp2 : (movedL c2.ups).Perm (n1 ++ n2) := d4.trans ((List.Perm.append_left n2 hp1).trans List.perm_append_comm)
      have hnd2 : (n1 ++ n2).Nodup := hp2.nodup_iff.1 d2.nodup
      have hblk : blkOf S γ (n1 ++ n2) = blkOf S γ n1 ++ blkOf S γ n2 := by simp [blkOf]
      have hok : ∀ f b, okL K S γ c2 f b → okIn w B (blkOf S γ n1 ++ blkOf S γ n2) f b := fun f b hb => ⟨fun hm => by
        rw [← hblk] at hm
        obtain ⟨i, hi, hi2⟩ := mem_blkOf.1 hm
        exact d2.apart i (mem_moved.1 (hp2.mem_iff.2 hi)) (hb.1 i hi2), hb.2⟩
      refine ⟨h.defers, packV rvals, results_run (K := K) k4, rvals, blkOf S γ n1, blkOf S γ n2, rfl, ?_, ?_, ?_, fun g hg => ?_, h.frame⟩
      · exact ((m6 rvals k2 k3).mono fun f => okL_mono d3 id).mono hok
      · exact (d6 (backV s.ins vals) b1 b2).mono hok
      · rw [← hblk]; exact blkOf_nodup h hnd2
      · rw [← hblk] at hg
        obtain ⟨i, _, hi2⟩ := mem_blkOf.1 hg
        exact (h.mod i g hi2).1
    exact code_wp (K := K) hK hS.mix hL c 0 _ _ _ _ (by rw [show K.args.map (·.isSome) = ptrsOf s.ins from keepL_ptrs _ _ hlen]; exact hcode) (fun S used γ a w' hI he => hfin S used γ a w' hI he) (fun i S used γ a w' hI he => by cases he)
      (fun S used γ a w' hI he => hfin S used γ a w' hI he) _ used γ _ w ⟨hstart, fun id v hv => by rw [u1 id v hv]; exact Nat.zero_lt_one⟩ q2
end Go.Pon
set_option autoImplicit false
set_option linter.unusedVariables false
namespace Go.Pon
open Go
open Go.ChangeShapes Go.WideShapes Go.ChangeAt Go.RowKit
def lookN {α : Type} : List (Nat × α) → Nat → Option α
  | [], _ => none
  | (i, x) :: r, n => bif Nat.beq i n then some x else lookN r n
def lookH : List ((Nat × Nat) × List (Nat × MTy)) → Nat → Nat → List (Nat × MTy)
  | [], _, _ => []
  | ((f, b), x) :: r, n, k => bif Nat.beq f n && Nat.beq b k then x else lookH r n k
def lookA : List ((Nat × Nat) × List Ali) → Nat → Nat → List Ali
  | [], _, _ => []
  | ((f, b), x) :: r, n, k => bif Nat.beq f n && Nat.beq b k then x else lookA r n k
theorem lookN_mem {α : Type} : ∀ {l : List (Nat × α)} {n : Nat} {x : α}, lookN l n = some x → (n, x) ∈ l
  | (i, y) :: r, n, x, h => by
    simp only [lookN] at h
    cases hb : Nat.beq i n with
    | true =>
      rw [hb] at h
      cases h
      obtain rfl := Nat.eq_of_beq_eq_true hb
      exact List.mem_cons_self ..
    | false =>
      rw [hb] at h
      exact List.mem_cons_of_mem _ (lookN_mem h)
def Ty.wf : (t : Ty) → t.den → Prop
  | .unit, _ => True
  | .pair a b, x => a.wf x.1 ∧ b.wf x.2
  | .int k, x => inK k x
  | .bool, _ => True
  | .str, x => List.length x ≤ maxLen ∧ ∀ n ∈ (x : List Int), 0 ≤ n ∧ n ≤ 255
  | .arr n t, x => List.length x = n ∧ ∀ y ∈ (x : List t.den), t.wf y
  | .slice t, x => List.length x ≤ maxLen ∧ ∀ y ∈ (x : List t.den), t.wf y
  | .ptr, _ => True
theorem RowsR.each {α : Type} {R : List Value → α → Prop} {p : α → Prop} {n : Nat} (h : ∀ c x, R c x → p x) : ∀ {cs : List Value} {xs : List α}, RowsR R n cs xs → ∀ x ∈ xs, p x
  | _, [], _, x, hx => by simp at hx
  | _, y :: ys, ⟨_, h2, h3⟩, x, hx => by
    rcases List.mem_cons.1 hx with rfl | hx
    · exact h _ _ h2
    · exact RowsR.each h h3 x hx
theorem DR.wf {w : World} {ok : Nat → Prop} : ∀ {t : Ty} {cs : List Value} {x : t.den}, DR w ok t cs x → t.wf x
  | .unit, _, _, _ => trivial
  | .pair _ _, _, _, ⟨h1, h2⟩ => ⟨DR.wf h1, DR.wf h2⟩
  | .int _, _, _, h => h.2
  | .bool, _, _, _ => trivial
  | .str, _, x, ⟨s, _, h2, h3⟩ => by
    refine ⟨?_, fun n hn => ?_⟩
    · rw [h2, List.length_map]
      exact h3
    · rw [h2] at hn
      obtain ⟨b, _, rfl⟩ := List.mem_map.1 hn
      have := b.toNat_lt
      omega
  | .arr _ _, _, _, ⟨h1, h2⟩ => ⟨h1, h2.each fun _ _ hd => DR.wf hd⟩
  | .slice _, _, _, ⟨_, _, _, h2, h3, _, _, h5, _⟩ => ⟨Nat.le_trans h2 h3, h5.each fun _ _ hd => DR.wf hd⟩
  | .ptr, _, _, _ => trivial
def Ty.noPtr : Ty → Bool
  | .pair a b => a.noPtr && b.noPtr
  | .arr _ t => t.noPtr
  | .slice t => t.noPtr
  | .ptr => false
  | _ => true
theorem cellsOf_tyB {P : Program} {t : Ty} {T : TypeId} (h : tyB P t T = true) : P.cellsOf T = t.size := by
  obtain ⟨i, z, h1, h2, _⟩ := rowB_spec (tyB_row h)
  simp [Program.cellsOf, h1, h2]
theorem mapM_get {α β : Type} {f : α → Option β} : ∀ {l : List α} {r : List β}, l.mapM f = some r → ∀ x ∈ l, ∃ y, f x = some y
  | [], _, _, x, hx => by simp at hx
  | a :: l, r, h, x, hx => by
    simp only [List.mapM_cons, Option.pure_def, Option.bind_eq_bind, Option.bind_eq_some_iff] at h
    obtain ⟨y, h1, ys, h2, _⟩ := h
    rcases List.mem_cons.1 hx with rfl | hx
    · exact ⟨y, h1⟩
    · exact mapM_get h2 x hx
theorem wf_inK {k : IntKind} {n : Int} (h : (Lit.int k n).wf = true) : inK k n := by simpa [Lit.wf, inK] using h
theorem cells?_spec {w : World} {a : Addr} : ∀ {n : Nat} {cs : List Value}, w.cells? 0 a n = some cs → cs.length = n ∧ ∀ j v, cs[j]? = some v → w.cell? (a.add j) = some v := by
  intro n cs h
  unfold World.cells? at h
  rw [if_pos (Nat.zero_le _)] at h
  have key : ∀ (l : List Nat) (cs : List Value), l.mapM (fun i => w.cell? (a.add i)) = some cs → cs.length = l.length ∧ ∀ (j : Nat) (v : Value) (i : Nat), cs[j]? = some v → l[j]? = some i → w.cell? (a.add i) = some v := by
    intro l
    induction l with
    | nil => intro cs h; simp at h; subst h; simp
    | cons x l ih =>
      intro cs h
      simp only [List.mapM_cons, Option.pure_def, Option.bind_eq_bind, Option.bind_eq_some_iff] at h
      obtain ⟨y, h1, ys, h2, h3⟩ := h
      cases h3
      obtain ⟨k1, k2⟩ := ih ys h2
      refine ⟨by simp [k1], fun j v i e1 e2 => ?_⟩
      cases j with
      | zero => simp at e1 e2; subst e1 e2; exact h1
      | succ j => exact k2 j v i (by simpa using e1) (by simpa using e2)
  obtain ⟨k1, k2⟩ := key _ _ h
  simp only [List.length_range] at k1
  refine ⟨k1, fun j v hj => ?_⟩
  have hlt : j < n := by rw [← k1]; exact (List.getElem?_eq_some_iff.1 hj).1
  exact k2 j v j hj (by simp [hlt])
section
variable {H : Type} {enc : TypeId × Value → H} {P : Program} {w : World} {spare : Nat → Bool} {held : Bool}
theorem rows_of {α : Type} {R : List Value → α → Prop} {n : Nat} (a : Addr) : ∀ (k : Nat), (∀ i, i < k → ∃ c x, c.length = n ∧ R c x ∧ ∀ j v, c[j]? = some v → w.cell? ((a.add (i * n)).add j) = some v) →
    ∃ (rows : List Value) (xs : List α), xs.length = k ∧ RowsR R n rows xs ∧ ∀ j v, rows[j]? = some v → w.cell? (a.add j) = some v
  | 0, _ => ⟨[], [], rfl, rfl, fun j v hj => by simp at hj⟩
  | k + 1, h => by
    obtain ⟨rows, xs, h1, h2, h3⟩ := rows_of a k fun i hi => h i (by omega)
    obtain ⟨c, x, k1, k2, k3⟩ := h k (by omega)
    have hl := h2.length
    refine ⟨rows ++ c, xs ++ [x], by simp [h1], h2.append (RowsR.single k1 k2), fun j v hj => ?_⟩
    rcases Nat.lt_or_ge j rows.length with hlt | hge
    · rw [List.getElem?_append_left hlt] at hj
      exact h3 j v hj
    · rw [List.getElem?_append_right hge] at hj
      have hc := k3 _ v hj
      have hn : 0 < n := by
        have := (List.getElem?_eq_some_iff.1 hj).1
        omega
      have ha : a.spot = none := by
        obtain ⟨c0, x0, m1, _, m3⟩ := h 0 (by omega)
        have h0 : c0[0]? = some (c0[0]'(by omega)) := by simp
        have := m3 0 _ h0
        rw [Nat.zero_mul] at this
        simp only [Addr.add, if_true] at this
        exact spot_of_cell this
      rw [add_assoc' ha] at hc
      rw [show k * n + (j - rows.length) = j by rw [hl, h1] at *; omega] at hc
      exact hc
theorem trod_DR : ∀ (t : Ty), t.noPtr = true →
    (∀ (T : TypeId) (fuel : Nat) (cs : List Value) (x : DataW H × List MemPlace), tyB P t T = true → DataW.trod enc P w 0 spare held fuel T cs = some x → ∃ y : t.den, DR w (fun _ => True) t cs y) ∧
    (∀ (fs : List Field) (off fuel : Nat) (cs : List Value) (r : List (DataW H × List MemPlace)), fieldsB P t off fs = true → fs.mapM (fun f => DataW.trod enc P w 0 spare held fuel f.type ((cs.drop f.offset).take (P.cellsOf f.type))) = some r →
      cs.length = off + t.size → ∃ y : t.den, DR w (fun _ => True) t (cs.drop off) y)
  | .unit, _ => by
    have hf : ∀ (fs : List Field) (off fuel : Nat) (cs : List Value) (r : List (DataW H × List MemPlace)), fieldsB P .unit off fs = true → fs.mapM (fun f => DataW.trod enc P w 0 spare held fuel f.type ((cs.drop f.offset).take (P.cellsOf f.type))) = some r →
      cs.length = off + Ty.unit.size → ∃ y : Ty.unit.den, DR w (fun _ => True) .unit (cs.drop off) y := fun fs off fuel cs r h _ hl => ⟨(), List.drop_eq_nil_of_le (by simp only [Ty.size] at hl; omega)⟩
    refine ⟨fun T fuel cs x hT hx => ?_, hf⟩
    obtain ⟨fs, u1, u2, _⟩ := tyB_unit hT
    cases fuel with
    | zero => cases hx
    | succ fuel =>
      simp only [DataW.trod, u1] at hx
      split at hx
      · rename_i hl
        rw [cellsOf_tyB hT] at hl
        obtain ⟨r, hr, _⟩ := Option.map_eq_some_iff.1 hx
        have := hf fs.toList 0 fuel cs r u2 hr (by omega)
        simpa using this
      · cases hx
  | .pair a b, hp => by
    simp only [Ty.noPtr, Bool.and_eq_true] at hp
    obtain ⟨iha, _⟩ := trod_DR a hp.1
    obtain ⟨_, ihb⟩ := trod_DR b hp.2
    have hf : ∀ (fs : List Field) (off fuel : Nat) (cs : List Value) (r : List (DataW H × List MemPlace)), fieldsB P (.pair a b) off fs = true → fs.mapM (fun f => DataW.trod enc P w 0 spare held fuel f.type ((cs.drop f.offset).take (P.cellsOf f.type))) = some r →
      cs.length = off + (Ty.pair a b).size → ∃ y : (Ty.pair a b).den, DR w (fun _ => True) (.pair a b) (cs.drop off) y := by
      intro fs off fuel cs r h hr hl
      obtain ⟨f, fr, rfl, f1, f2, f3, _, f4⟩ := fieldsB_pair h
      simp only [List.mapM_cons, Option.pure_def, Option.bind_eq_bind, Option.bind_eq_some_iff] at hr
      obtain ⟨z, h1, zs, h2, _⟩ := hr
      simp only [Ty.size] at hl
      rw [f1, cellsOf_tyB f2] at h1
      obtain ⟨y1, d1⟩ := iha f.type fuel _ _ f2 h1
      obtain ⟨y2, d2⟩ := ihb fr (off + a.size) fuel cs zs f4 h2 (by omega)
      exact ⟨(y1, y2), d1, by rw [List.drop_drop]; exact d2⟩
    refine ⟨fun T fuel cs x hT hx => ?_, hf⟩
    obtain ⟨fs, u1, u2, _⟩ := tyB_pair hT
    cases fuel with
    | zero => cases hx
    | succ fuel =>
      simp only [DataW.trod, u1] at hx
      split at hx
      · rename_i hl
        rw [cellsOf_tyB hT] at hl
        obtain ⟨r, hr, _⟩ := Option.map_eq_some_iff.1 hx
        have := hf fs.toList 0 fuel cs r u2 hr (by omega)
        simpa using this
      · cases hx
  | .int k, _ => by
    refine ⟨fun T fuel cs x hT hx => ?_, fun fs off fuel cs r h => by simp [fieldsB, tyC] at h⟩
    obtain ⟨n, rfl, _, hw⟩ := DataW.trod_int (tyB_int hT) hx
    exact ⟨n, rfl, wf_inK hw⟩
  | .bool, _ => by
    refine ⟨fun T fuel cs x hT hx => ?_, fun fs off fuel cs r h => by simp [fieldsB, tyC] at h⟩
    obtain ⟨b, rfl, _⟩ := DataW.trod_bool (tyB_bool hT) hx
    exact ⟨b, rfl⟩
  | .str, _ => by
    refine ⟨fun T fuel cs x hT hx => ?_, fun fs off fuel cs r h => by simp [fieldsB, tyC] at h⟩
    obtain ⟨s, rfl, _, hs⟩ := DataW.trod_string (tyB_str hT) hx
    exact ⟨_, s, rfl, rfl, hs⟩
  | .arr n t, hp => by
    obtain ⟨ih, _⟩ := trod_DR t hp
    refine ⟨fun T fuel cs x hT hx => ?_, fun fs off fuel cs r h => by simp [fieldsB, tyC] at h⟩
    obtain ⟨e, u1, u2⟩ := tyB_arr hT
    cases fuel with
    | zero => cases hx
    | succ fuel =>
      simp only [DataW.trod, u1] at hx
      split at hx
      · rename_i hl
        rw [cellsOf_tyB hT] at hl
        obtain ⟨r, hr, _⟩ := Option.map_eq_some_iff.1 hx
        have hget := mapM_get hr
        have key : ∀ k, k ≤ n → ∃ xs : List t.den, xs.length = k ∧ RowsR (DR w (fun _ => True) t) t.size (cs.take (k * t.size)) xs := by
          intro k
          induction k with
          | zero => intro _; exact ⟨[], rfl, by simp [RowsR]⟩
          | succ k ihk =>
            intro hk
            obtain ⟨xs, h1, h2⟩ := ihk (by omega)
            obtain ⟨z, hz⟩ := hget k (by simp; omega)
            rw [cellsOf_tyB u2] at hz
            obtain ⟨y, hy⟩ := ih e fuel _ _ u2 hz
            refine ⟨xs ++ [y], by simp [h1], ?_⟩
            have e1 : cs.take ((k + 1) * t.size) = cs.take (k * t.size) ++ (cs.drop (k * t.size)).take t.size := by
              rw [Nat.add_mul, Nat.one_mul, List.take_add]
            rw [e1]
            exact h2.append (RowsR.single (DR.len hy) hy)
        obtain ⟨xs, h1, h2⟩ := key n (Nat.le_refl _)
        rw [List.take_of_length_le (by rw [hl]; exact Nat.le_refl _)] at h2
        exact ⟨xs, h1, h2⟩
      · cases hx
  | .slice t, hp => by
    obtain ⟨ih, _⟩ := trod_DR t hp
    refine ⟨fun T fuel cs x hT hx => ?_, fun fs off fuel cs r h => by simp [fieldsB, tyC] at h⟩
    obtain ⟨e, u1, u2⟩ := tyB_slice hT
    cases fuel with
    | zero => cases hx
    | succ fuel =>
      simp only [DataW.trod, u1] at hx
      have two : (∃ a len cap, cs = [.slice (some a) len cap]) ∨ cs = [.slice none 0 0] := by
        split at hx <;> simp_all
      rcases two with ⟨a, len, cap, rfl⟩ | rfl
      · dsimp only at hx
        split at hx
        · rename_i hc
          obtain ⟨_, hc1, hc2⟩ := hc
          obtain ⟨r, hr, _⟩ := Option.bind_eq_some_iff.1 hx
          have hget := mapM_get hr
          obtain ⟨rows, xs, h1, h2, h3⟩ := rows_of (R := DR w (fun _ => True) t) (n := t.size) a len fun i hi => by
            obtain ⟨z, hz⟩ := hget i (by simpa using hi)
            obtain ⟨c, k1, k2⟩ := Option.bind_eq_some_iff.1 hz
            rw [cellsOf_tyB u2] at k1
            obtain ⟨m1, m2⟩ := cells?_spec k1
            obtain ⟨y, hy⟩ := ih e fuel _ _ u2 k2
            exact ⟨c, y, m1, hy, m2⟩
          exact ⟨xs, some a, cap, by rw [h1], by rw [h1]; exact hc1, hc2, (fun h => by cases h), rows, h2, fun _ => ⟨a, rfl, trivial, h3⟩⟩
        · cases hx
      · exact ⟨[], none, 0, rfl, Nat.le_refl _, Nat.zero_le _, fun _ => rfl, [], rfl, fun h => absurd rfl h⟩
  | .ptr, h => by cases h
def lawIns (P : Program) : List MTy → List TypeId → Bool
  | [], [] => true
  | .ro fr t :: ms, T :: Ts => (!fr || t.flat) && t.noPtr && tyB P t T && lawIns P ms Ts
  | _, _ => false
def wfL : (ms : List MTy) → denL ms → Prop
  | [], _ => True
  | .ro _ t :: ms, x => t.wf x.1 ∧ wfL ms x.2
  | _ :: ms, x => wfL ms x.2
theorem okWide_agg {base : Nat} {t : Ty} {T : TypeId} {v : Value} (h : tyB P t T = true) (hp : t.noPtr = true) (hv : Value.okWide P w .any base T v) : isAgg' v = t.agg := by
  cases t with
  | unit =>
    obtain ⟨fs, u, _⟩ := tyB_unit h
    simp only [Value.okWide, u] at hv
    obtain ⟨cs, rfl, _⟩ := hv
    rfl
  | pair a b =>
    obtain ⟨fs, u, _⟩ := tyB_pair h
    simp only [Value.okWide, u] at hv
    obtain ⟨cs, rfl, _⟩ := hv
    rfl
  | arr n t =>
    obtain ⟨e, u, _⟩ := tyB_arr h
    simp only [Value.okWide, u] at hv
    obtain ⟨cs, rfl, _⟩ := hv
    rfl
  | int k => obtain ⟨n, rfl⟩ := okWide_int (tyB_int h) hv; rfl
  | bool => obtain ⟨n, rfl⟩ := okWide_bool (tyB_bool h) hv; rfl
  | str => obtain ⟨n, rfl⟩ := okWide_string (tyB_str h) hv; rfl
  | slice t =>
    obtain ⟨e, u, _⟩ := tyB_slice h
    obtain ⟨a, l, c, rfl⟩ := okWide_slice u hv
    rfl
  | ptr => cases hp
theorem args_MRL {base : Nat} : ∀ (ms : List MTy) (Ts : List TypeId) (vs : List Value) (ds : List (DataW H)) (ps : List MemPlace), lawIns P ms Ts = true → DataW.TrodAll enc P w 0 spare held Ts vs ds ps →
    (∀ (j : Nat) (T : TypeId) (v : Value), Ts[j]? = some T → vs[j]? = some v → Value.okWide P w .any base T v) →
    ∃ x : denL ms, MRL w (okIn w (fun _ => False) []) w.heap.size ms vs x [] ∧ wfL ms x
  | [], [], vs, ds, ps, _, h, _ => by
    cases vs with
    | nil => exact ⟨(), ⟨rfl, rfl⟩, trivial⟩
    | cons _ _ => cases ds <;> exact h.elim
  | m :: ms, T :: Ts, vs, ds, ps, hl, h, hv => by
    cases m with
    | ro fr t =>
      simp only [lawIns, Bool.and_eq_true] at hl
      obtain ⟨⟨⟨l1, l2⟩, l3⟩, l4⟩ := hl
      cases vs with
      | nil => cases ds <;> exact h.elim
      | cons v vs =>
        cases ds with
        | nil => exact h.elim
        | cons d ds =>
          obtain ⟨p, q, ⟨fuel, h1⟩, h2, rfl⟩ := h
          obtain ⟨y, hy⟩ := (trod_DR t l2).1 T fuel _ _ l3 h1
          obtain ⟨x, hx, hw⟩ := args_MRL ms Ts vs ds q l4 h2 fun j T v e1 e2 => hv (j + 1) T v (by simpa using e1) (by simpa using e2)
          have hag := okWide_agg l3 l2 (hv 0 T v rfl rfl)
          refine ⟨(y, x), ⟨v, vs, [], [], rfl, hag, ⟨rfl, ?_⟩, hx, rfl⟩, hy.wf, hw⟩
          cases fr with
          | false => exact hy.mono fun b _ => ⟨by simp, (fun h => h), (fun h => by cases h)⟩
          | true => exact DR.flat (by simpa using l1) hy
    | _ => cases hl
  | [], _ :: _, _, _, _, hl, _, _ => by cases hl
  | m :: _, [], _, _, _, hl, _, _ => by cases m <;> cases hl
theorem law_calls {f : FuncId} {fn : Func} {c : Code} {ins : List MTy} {F : denL ins → Option (Sig.outDen ⟨ins, [.ro true .bool]⟩)} (hF : FnOK P f ⟨ins, [.ro true .bool]⟩ F) (hf : P.funcs[f]? = some fn) (hb : fn.body = some c) (hname : fn.name ≠ "runtime.NumGoroutine")
    {x : denL ins} {y : Sig.outDen ⟨ins, [.ro true .bool]⟩} (hy : F x = some y) (hb1 : y.1.1 = true) {vals : List Value} (hm : MRL w (okIn w (fun _ => False) []) w.heap.size ins vals x []) :
    Calls P f vals.toArray w fun e w' => e = .returned (.bool true) ∧ Below w.heap.size w w' := by
  have hc : (callFunc f vals.toArray).run P w = .ok (.enter f vals.toArray) w := by simp [callFunc, hf, hname, hb]
  rcases hF w (fun _ => False) vals x [] y hy (fun b h => h.elim) List.nodup_nil (by simp) hm with ⟨_, h⟩ | ⟨v, w', h, _⟩
  · refine h.mono fun e w' he => ?_
    cases e with
    | returned v =>
      obtain ⟨rs, b1, b2, rfl, g1, g2, g3, g4, g5⟩ := he
      obtain ⟨v0, r0, c1, c2, rfl, ha, ⟨_, hd⟩, ⟨rfl, _⟩, _⟩ := g1
      have hv : v0.cells.toList = [.bool true] := by
        have h1 : v0.cells.toList = [.bool y.1.1] := hd
        rw [hb1] at h1; exact h1
      have ha : isAgg' v0 = false := ha
      rw [cells_one ha] at hv
      have hv : v0 = .bool true := by simpa using hv
      refine ⟨by rw [hv]; rfl, ⟨g5.os, g5.tape, g5.output, g5.size, fun k hk => g5.block k hk (by simp)⟩⟩
    | panicked _ => exact he.elim
    | outgrown => exact he.elim
  · rw [hc] at h
    cases h
theorem trodAll_below (hlaid : laidOutB P = true) {w' : World} (hb : Below w.heap.size w w') : ∀ {Ts : List TypeId} {vs : List Value} {ds : List (DataW H)} {ps : List MemPlace},
    (∀ T ∈ Ts, P.readableRec T = true ∧ T < P.types.size) → DataW.TrodAll enc P w 0 (fun _ => true) true Ts vs ds ps → DataW.TrodAll enc P w' 0 (fun b => decide (b < w.heap.size)) true Ts vs ds ps
  | [], [], [], _, _, h => h
  | [], [], _ :: _, _, _, h => h.elim
  | [], _ :: _, _, _, _, h => by cases ‹List (DataW H)› <;> exact h.elim
  | _ :: _, [], _, _, _, h => by cases ‹List (DataW H)› <;> exact h.elim
  | _ :: _, _ :: _, [], _, _, h => h.elim
  | T :: Ts, v :: vs, d :: ds, ps, hT, ⟨p, q, h1, h2, e⟩ => by
    obtain ⟨r1, r2⟩ := hT T (List.mem_cons_self ..)
    have hlt : ∀ x ∈ p, x.block < w.heap.size := by obtain ⟨m, hm⟩ := h1; exact DataW.trod_lt m _ _ _ hm
    exact ⟨p, q, Below.trod hlaid r1 r2 h1 hb hlt, trodAll_below hlaid hb (fun T hT' => hT T (List.mem_cons_of_mem _ hT')) h2, e⟩
end
theorem law_lifted {C : Checked} {os : Os} {f : FuncId} {fn : Func} {c : Code} {ins : List MTy} {F : denL ins → Option (Sig.outDen ⟨ins, [.ro true .bool]⟩)} {spec : ChangeSpec} {Tb : TypeId} {H : Type} {enc : TypeId × Value → H}
    (own : ownKnob C.prog.godebug = none) (started : os.Started) (noInit : C.prog.inits.idxOf? f = none) (hlaid : laidOutB C.prog = true)
    (witness : ∃ (w : World) (tape : Tape) (i : Input), w.os = os ∧ (w.forCall tape i).Shaped C.prog ∧ i.vars = [] ∧ Input.okWide C.prog (w.forCall tape i) .any w.heap.size f i ∧
      spec.pre6 enc C.prog fn [] false (w.forCall tape i).memory i.args ∧ ({} : Assume).holds C.prog (lone (Frame.enter C.prog f i.args .normal) [] (w.forCall tape i)))
    (hF : FnOK C.prog f ⟨ins, [.ro true .bool]⟩ F) (hf : C.prog.funcs[f]? = some fn) (hb : fn.body = some c) (hname : fn.name ≠ "runtime.NumGoroutine")
    (hins : lawIns C.prog ins fn.params.toList = true) (hread : ∀ T ∈ fn.params.toList, C.prog.readableRec T = true ∧ T < C.prog.types.size) (hres : fn.resultTypes = #[Tb]) (hbool : C.prog.underlying Tb = some .bool)
    (hvars : spec.vars = []) (hspec : ∀ ds : List (DataW H), ds.length = fn.params.size → (spec.fn H ds).results = [.lit (.bool true)] ∧ (spec.fn H ds).args = ds ∧ (spec.fn H ds).vars = [])
    (hall : ∀ x, wfL ins x → ∃ y, F x = some y ∧ y.1.1 = true) :
    ReturnsInHanded {} C os f .any (spec.pre6 enc C.prog fn [] false) (spec.post enc C.prog fn false true false false) := by
  refine returnsInHanded_of_change (C := C) own started noInit hf witness ?_
  intro W base args ds gs before hval hW _ _
  have hW' := hW
  obtain ⟨p, q, hA, hV, rfl, hfz, hnd⟩ := hW
  rw [hvars] at hV
  obtain ⟨rfl, rfl⟩ := trodVars_none hV
  obtain ⟨x, hm, hwf⟩ := args_MRL (base := base) ins fn.params.toList args.toList ds p hins hA fun j T v e1 e2 => hval j T v (by simpa using e1) (by simpa using e2)
  obtain ⟨y, hy, hyb⟩ := hall x hwf
  have hlen : ds.length = fn.params.size := by
    have key : ∀ (Ts : List TypeId) (vs : List Value) (ds : List (DataW H)) (ps : List MemPlace), DataW.TrodAll enc C.prog W 0 (fun _ => true) true Ts vs ds ps → ds.length = Ts.length := by
      intro Ts
      induction Ts with
      | nil => intro vs ds ps h; cases vs <;> cases ds <;> first | rfl | exact h.elim
      | cons T Ts ih =>
        intro vs ds ps h
        cases vs with
        | nil => cases ds <;> exact h.elim
        | cons v vs =>
          cases ds with
          | nil => exact h.elim
          | cons d ds =>
            obtain ⟨p, q, _, h2, _⟩ := h
            simp [ih vs ds q h2]
    have := key _ _ _ _ hA
    simpa using this
  obtain ⟨s1, s2, s3⟩ := hspec ds hlen
  have hcalls := law_calls (w := W) hF hf hb hname hy hyb hm
  rw [Array.toArray_toList] at hcalls
  refine hcalls.mono fun e W' ⟨he, bel⟩ => ?_
  subst he
  refine ⟨_, rfl, ds, [], p ++ [], [], p, [], hW', ?_, ?_, ?_, bel.frame _, fun h => by cases h⟩
  · rw [List.append_nil, s1, hres]
    exact trodAll_mk1 (shut_bool hbool _)
  · rw [List.append_nil, s2]
    exact trodAll_below hlaid bel hread hA
  · rw [List.append_nil, s3, hvars]
    rfl
end Go.Pon
set_option autoImplicit false
set_option linter.unusedVariables false
namespace Go.Pon
open Go
noncomputable def mkG (tys : List (Nat × Ty)) (sigs : List (Nat × Sig)) (hints : List ((Nat × Nat) × List (Nat × MTy))) (cut : Bool) (als : List ((Nat × Nat) × List Ali) := []) : Ctx :=
  ⟨fun f b => lookA als f b, lookN tys, lookN sigs, fun f b => lookH hints f b, cut, fun _ => none⟩
structure Entry where
  f : Nat
  s : Sig
  F : denL s.ins → Option s.outDen
def pick : List Entry → CallD
  | [], _, _ => fun _ => none
  | e :: l, f, s => if h : e.f = f ∧ e.s = s then h.2 ▸ e.F else pick l f s
theorem pick_hit (f : Nat) (s : Sig) (F : denL s.ins → Option s.outDen) (l : List Entry) : pick (⟨f, s, F⟩ :: l) f s = F := by
  simp [pick]
theorem pick_miss {f g : Nat} (s t : Sig) (F : denL s.ins → Option s.outDen) (l : List Entry) (h : Nat.beq f g = false) : pick (⟨f, s, F⟩ :: l) g t = pick l g t := by
  have : ¬ f = g := fun e => by subst e; simp at h
  simp [pick, this]
theorem pick_ok {P : Program} : ∀ {l : List Entry}, (∀ e ∈ l, FnOK P e.f e.s e.F) → ∀ f s, FnOK P f s (pick l f s)
  | [], _, f, s => fun w B vals x bs y h => by cases h
  | e :: l, h, f, s => by
    unfold pick
    split
    · rename_i hh
      obtain ⟨h1, h2⟩ := hh
      subst h1; subst h2
      exact h e (List.mem_cons_self ..)
    · exact pick_ok (fun e' he => h e' (List.mem_cons_of_mem _ he)) f s
structure TabOK (P : Program) (tys : List (Nat × Ty)) (sigs : List (Nat × Sig)) : Prop where
  depth : 64 ≤ P.depth
  mix : P.follows .mixedOrders = true
  tys : allE (fun p : Nat × Ty => tyB P p.2 p.1) tys = true
  sigs : allE (fun p : Nat × Sig => allE MTy.insOK p.2.ins) sigs = true
theorem allE_mem {α : Type} {f : α → Bool} : ∀ {l : List α}, allE f l = true → ∀ x ∈ l, f x = true
  | [], _, x, h => by cases h
  | a :: l, h, x, hx => by
    simp only [allE, Bool.and_eq_true] at h
    rcases List.mem_cons.1 hx with rfl | hx
    · exact h.1
    · exact allE_mem h.2 x hx
theorem TabOK.sure {P : Program} {tys : List (Nat × Ty)} {sigs : List (Nat × Sig)} {hints : List ((Nat × Nat) × List (Nat × MTy))} {cut : Bool} {als : List ((Nat × Nat) × List Ali)} (h : TabOK P tys sigs) {l : List Entry} (hl : ∀ e ∈ l, FnOK P e.f e.s e.F) :
    Sure P (mkG tys sigs hints cut als) (pick l) :=
  ⟨h.depth, h.mix, fun T t e => allE_mem h.tys (T, t) (lookN_mem e), fun f s e => ⟨fun m hm => allE_mem (allE_mem h.sigs (f, s) (lookN_mem e)) m hm, pick_ok hl f s⟩⟩
theorem fn_ok {P : Program} {tys : List (Nat × Ty)} {sigs : List (Nat × Sig)} {hints : List ((Nat × Nat) × List (Nat × MTy))} {cut : Bool} {als : List ((Nat × Nat) × List Ali)} (h : TabOK P tys sigs) (l : List Entry) (hl : ∀ e ∈ l, FnOK P e.f e.s e.F)
    {f : FuncId} {fn : Func} {c : Code} {s : Sig} {F : denL s.ins → Option s.outDen} (hf : P.funcs[f]? = some fn) (hb : fn.body = some c) (hok : funcOK s fn c = true)
    (he : ∀ x, evalBody bigLoop (pick l) (mkG tys sigs hints cut als) f fn c s x = F x) : FnOK P f s F :=
  (funext he : evalBody bigLoop (pick l) (mkG tys sigs hints cut als) f fn c s = F) ▸ body_ok (h.sure hl) bigLoop_ok hf hb hok
theorem fnOK_none {P : Program} {f : FuncId} {s : Sig} : FnOK P f s (fun _ => none) := fun w B vals x bs y h => by cases h
theorem mem_nil_ok {P : Program} : ∀ e ∈ ([] : List Entry), FnOK P e.f e.s e.F := fun e h => by cases h
theorem mem_cons_ok {P : Program} {f : Nat} {s : Sig} {F : denL s.ins → Option s.outDen} {l : List Entry} (h : FnOK P f s F) (hl : ∀ e ∈ l, FnOK P e.f e.s e.F) : ∀ e ∈ (⟨f, s, F⟩ :: l : List Entry), FnOK P e.f e.s e.F := fun e he => by
  rcases List.mem_cons.1 he with rfl | he
  · exact h
  · exact hl e he
end Go.Pon
set_option autoImplicit false
set_option linter.unusedVariables false
namespace Go.Pon
open Go
abbrev u64M : MTy := .ro true (.int .u64)
abbrev s_carry : Sig := ⟨[u64M, u64M, u64M], [u64M, u64M]⟩
def addC (x : denL s_carry.ins) : Option s_carry.outDen :=
  if x.2.2.1 ≤ 1 then some (((x.1 + x.2.1 + x.2.2.1) % 18446744073709551616, ((x.1 + x.2.1 + x.2.2.1) / 18446744073709551616, ())), ((), ((), ((), ())))) else none
def subC (x : denL s_carry.ins) : Option s_carry.outDen :=
  if x.2.2.1 ≤ 1 then some (((x.1 - x.2.1 - x.2.2.1) % 18446744073709551616, ((if x.1 < x.2.1 + x.2.2.1 then 1 else 0), ())), ((), ((), ((), ())))) else none
end Go.Pon
set_option autoImplicit false
set_option linter.unusedVariables false
set_option linter.unusedSimpArgs false
namespace Go.Pon
open Go Go.Proofs Go.Shelf Go.RowKit Go.Lib
abbrev s_ins (t : Ty) : Sig := ⟨[.own false t, .ro true (.int .i64), .own false t], [.own false t]⟩
def insF (t : Ty) (x : denL (s_ins t).ins) : Option (s_ins t).outDen :=
  if 0 ≤ x.2.1 ∧ x.2.1 ≤ (List.length x.1 : Int) ∧ 0 < List.length x.2.2.1 ∧ roomy (List.length x.1 + List.length x.2.2.1) t = true then
    some ((List.append (List.take x.2.1.toNat x.1) (List.append x.2.2.1 (List.drop x.2.1.toNat x.1)), ()), ((), ((), ((), ())))) else none
end Go.Pon
set_option autoImplicit false
set_option linter.unusedVariables false
set_option linter.unusedSimpArgs false
namespace Go.Pon
open Go Go.Proofs Go.Shelf Go.RowKit Go.Lib
abbrev s_del (t : Ty) : Sig := ⟨[.own false t, .ro true (.int .i64), .ro true (.int .i64)], [.own false t]⟩
def delF (t : Ty) (x : denL (s_del t).ins) : Option (s_del t).outDen :=
  if 0 ≤ x.2.1 ∧ x.2.1 < x.2.2.1 ∧ x.2.2.1 ≤ (List.length x.1 : Int) ∧ roomy (List.length x.1) t = true then
    some ((List.append (List.take x.2.1.toNat x.1) (List.drop x.2.2.1.toNat x.1), ()), ((), ((), ((), ())))) else none
end Go.Pon
