/-
  Part of a proof: general lemmas, merged by a program of this work.
-/
import Derived.Great.BuildSlice
import Derived.Laws.AppendOwn
import Derived.Laws.BytesString
import Derived.Laws.CopyRow
import Derived.Laws.MakeOwn
import Derived.Test.YtonakjfcigaaaaaF1
set_option autoImplicit false
set_option linter.unusedVariables false
namespace Go.Pon
open Go
section
variable {K : Konst} {S : St} {used : Id → Nat → Prop} {γ : Id → Value} {a : Act} {w : World}
theorem nil_path (t : Ty) : tyAt t [] = some t ∧ inT t [] ∧ offT t [] = 0 := by cases t <;> exact ⟨rfl, trivial, rfl⟩
def Back1 (S : St) (new : List Id) (m : MTy) : AV → Prop
  | .ptr id p => p = [] ∧ id ∈ new ∧ ∃ fr c, lookO S.objs id = some (.mem fr m.ty c)
  | _ => False
def Back (S : St) (new : List Id) : MTy → AV → Prop
  | .ptr m, v => Back1 S new m v
  | .optr m, v => v = .nilp ∨ Back1 S new m v
  | _, _ => True
theorem Back1.mono {new new' : List Id} (h : ∀ i, i ∈ new → i ∈ new') {m : MTy} {v : AV} (hb : Back1 S new m v) : Back1 S new' m v := by
  cases v <;> first | exact hb.elim | exact ⟨hb.1, h _ hb.2.1, hb.2.2⟩
theorem Back.mono {new new' : List Id} (h : ∀ i, i ∈ new → i ∈ new') {m : MTy} {v : AV} (hb : Back S new m v) : Back S new' m v := by
  cases m <;> first | trivial | exact Back1.mono h hb | exact hb.imp id (Back1.mono h)
theorem blkOf_app (S : St) (γ : Id → Value) (l m : List Id) : blkOf S γ (l ++ m) = blkOf S γ l ++ blkOf S γ m := by simp [blkOf]
theorem ptr_close (h : Rel K S used γ a w) {id : Id} {fr : Bool} {u : Ty} {x : AV} (hob : lookO S.objs id = some (.mem fr u x)) {m : MTy} (hu : u = m.ty)
    {ok : Bool → Nat → Prop} {y : m.den} {new : List Id} (hm : ∀ cs, ARc (envOf K S.objs used γ w) x cs → MR w ok K.base m cs y (blkOf S γ new)) {cs : List Value}
    (hr : ARc (envOf K S.objs used γ w) (.ptr id []) cs) :
    ∃ g e cur bs', cs = [.pointer (some ⟨g, 0, none⟩)] ∧ w.heap[g]? = some (.cells cur e (0, 0)) ∧ MR w ok K.base m cur.toList y bs' ∧ blkOf S γ (id :: new) = g :: bs' := by
  obtain ⟨_, v0, rfl, _, hv0⟩ := hr
  obtain ⟨g, u', h1, h2, h3, h4⟩ := hv0 u (isMm_of _ fr u x (.inl hob))
  have h1 : γ id = _ := h1
  obtain ⟨g', e, cur, o1, o2, o3, o4, o5⟩ := h.objs id _ hob
  have o1 : γ id = _ := o1
  rw [h1] at o1
  cases o1
  have h0 : offT u [] = 0 := by cases u <;> rfl
  refine ⟨g, e, cur, blkOf S γ new, by rw [h4, h0], o2, hm _ o4, ?_⟩
  simp [blkOf, hob, h1, liveBlk]
theorem closeK_spec {α : Type} {C : CallD} (h : Rel K S used γ a w) {frz : Bool} : ∀ (m : MTy) (v : AV) {c : Cl} (hc : CInv S frz c) {k : m.den → Cl → OpT α} {l0 l : List Id} {r : α}
    (hl : Leads C S.objs (closeK frz m v c k) l0 r l),
    ∃ x c' l1 new, Leads C S.objs (k x c') l1 r l ∧ CInv S frz c' ∧ Ext c c' ∧ (movedL c'.ups).Perm (new ++ movedL c.ups) ∧ aggA v = m.ty.agg ∧ Back S new m v ∧
      ∀ cs, ARc (envOf K S.objs used γ w) v cs → MR w (okL K S γ c') K.base m cs x (blkOf S γ new) := by
  intro m
  induction m with
  | ro fr t =>
    intro v c hc k l0 l r hl
    simp only [closeK] at hl
    obtain ⟨f, x, c', l1, a1, a2, a3, a4, a5, a6⟩ := roK_spec h v t hc hl
    cases hb : (!fr || f || t.flat) with
    | false => rw [hb] at a1; exact a1.elim
    | true =>
      rw [hb] at a1
      refine ⟨x, c', l1, [], a1, a2, a3, by rw [a4]; exact List.Perm.refl _, a5, trivial, fun cs hr => ⟨rfl, ?_⟩⟩
      have hd := a6 cs hr
      simp only [Bool.or_eq_true, Bool.not_eq_true'] at hb
      rcases hb with (rfl | rfl) | hb
      · exact hd.mono (okL_mono (Ext.refl _) (by simp))
      · exact hd.mono (okL_mono (Ext.refl _) (by simp))
      · exact DR.flat hb hd
  | own fr t =>
    intro v c hc k l0 l r hl
    cases v
    case own id ver =>
      simp only [closeK] at hl
      cases hb : (taken c.ups id || memI c.br id) with
      | true => rw [hb] at hl; exact hl.elim
      | false =>
        rw [hb] at hl
        rw [Bool.or_eq_false_iff] at hb
        obtain ⟨ob, hob, hl⟩ := hl
        dsimp only at hl
        split at hl
        · rename_i ver' fr' u rows
          split at hl
          · rename_i y h1 hy
            obtain ⟨e, rfl⟩ := castD_some hy
            cases e
            simp only [Bool.and_eq_true, Bool.or_eq_true, Bool.not_eq_true'] at h1
            obtain ⟨h1, h2⟩ := h1
            obtain rfl := Nat.eq_of_beq_eq_true h1
            obtain ⟨i1, i2, i3⟩ := hc.move hb.1 hb.2 (.inl ⟨_, _, _, _, hob⟩)
            refine ⟨_, _, _, [id], hl, i1, i2, by rw [i3]; exact List.Perm.refl _, rfl, trivial, fun cs hr => ?_⟩
            obtain ⟨_, v0, rfl, _, hv0⟩ := hr
            have hv0 : v0 = γ id := hv0 _ _ (isSl_of _ ver' fr' _ rows (.inl hob))
            have hfr : fr = true → fr' = true := fun hf => by
              rcases h2 with h2 | h2
              · rw [h2] at hf; cases hf
              · exact h2
            refine ⟨v0, rfl, ?_⟩
            rcases h.objs id _ hob with ⟨h1, h2⟩ | ⟨g, cap, cur, e, h1, h2, h3, h4, h5, h6, h7⟩
            · exact .inl ⟨hv0.trans h1, h2, by have h1 : γ id = _ := h1; simp [blkOf, hob, h1, liveBlk]⟩
            · exact .inr ⟨g, cap, cur, e, hv0.trans h1, h2, h3, h4, h5, h6.mono fun _ _ => DR.mono fun b hb => okL_of hfr b hb, fun hf => h7 (hfr hf), by have h1 : γ id = _ := h1; simp [blkOf, hob, h1, liveBlk]⟩
          · exact hl.elim
        · exact hl.elim
    case nils =>
      simp only [closeK] at hl
      exact ⟨_, c, l0, [], hl, hc, Ext.refl c, List.Perm.refl _, rfl, trivial, fun cs hr => ⟨_, hr, .inl ⟨rfl, rfl, rfl⟩⟩⟩
    all_goals (simp only [closeK, Leads] at hl)
  | ptr m ih =>
    intro v c hc k l0 l r hl
    cases v
    case ptr id p =>
      cases p with
      | cons _ _ => simp only [closeK, Leads] at hl
      | nil =>
        simp only [closeK] at hl
        cases hb : (taken c.ups id || memI c.br id) with
        | true => rw [hb] at hl; exact hl.elim
        | false =>
          rw [hb] at hl
          rw [Bool.or_eq_false_iff] at hb
          obtain ⟨ob, hob, hl⟩ := hl
          dsimp only at hl
          split at hl
          · rename_i fr u x
            cases hu : Ty.beq u m.ty with
            | false => rw [hu] at hl; exact hl.elim
            | true =>
              rw [hu] at hl
              have hu := Ty.beq_iff.1 hu
              obtain ⟨i1, i2, i3⟩ := hc.move hb.1 hb.2 (.inr ⟨_, _, _, hob⟩)
              obtain ⟨y, c', l1, new, a1, a2, a3, a4, a5, a6, a7⟩ := ih x i1 hl
              refine ⟨y, c', l1, id :: new, a1, a2, i2.trans a3, ?_, rfl, ⟨rfl, by simp, fr, x, by rw [hob, hu]⟩, fun cs hr => ?_⟩
              · rw [i3] at a4
                exact a4.trans List.perm_middle
              · exact ptr_close h hob hu a7 hr
          · exact hl.elim
    all_goals (simp only [closeK, Leads] at hl)
  | optr m ih =>
    intro v c hc k l0 l r hl
    cases v
    case ptr id p =>
      cases p with
      | cons _ _ => simp only [closeK, Leads] at hl
      | nil =>
        simp only [closeK] at hl
        cases hb : (taken c.ups id || memI c.br id) with
        | true => rw [hb] at hl; exact hl.elim
        | false =>
          rw [hb] at hl
          rw [Bool.or_eq_false_iff] at hb
          obtain ⟨ob, hob, hl⟩ := hl
          dsimp only at hl
          split at hl
          · rename_i fr u x
            cases hu : Ty.beq u m.ty with
            | false => rw [hu] at hl; exact hl.elim
            | true =>
              rw [hu] at hl
              have hu := Ty.beq_iff.1 hu
              obtain ⟨i1, i2, i3⟩ := hc.move hb.1 hb.2 (.inr ⟨_, _, _, hob⟩)
              obtain ⟨y, c', l1, new, a1, a2, a3, a4, a5, a6, a7⟩ := ih x i1 hl
              refine ⟨some y, c', l1, id :: new, a1, a2, i2.trans a3, ?_, rfl, .inr ⟨rfl, by simp, fr, x, by rw [hob, hu]⟩, fun cs hr => ?_⟩
              · rw [i3] at a4
                exact a4.trans List.perm_middle
              · exact ptr_close h hob hu a7 hr
          · exact hl.elim
    case nilp =>
      simp only [closeK] at hl
      exact ⟨none, c, l0, [], hl, hc, Ext.refl c, List.Perm.refl _, rfl, .inl rfl, fun cs hr => ⟨hr, rfl⟩⟩
    all_goals (simp only [closeK, Leads] at hl)
  | pair p q ih1 ih2 =>
    intro v c hc k l0 l r hl
    have key : ∀ v1 v2, Leads C S.objs (closeK frz p v1 c fun x c => closeK frz q v2 c fun y c => k (x, y) c) l0 r l → ∃ x c' l1 new, Leads C S.objs (k x c') l1 r l ∧ CInv S frz c' ∧ Ext c c' ∧ (movedL c'.ups).Perm (new ++ movedL c.ups) ∧
        ∀ c1 c2, ARc (envOf K S.objs used γ w) v1 c1 → ARc (envOf K S.objs used γ w) v2 c2 → MR w (okL K S γ c') K.base (.pair p q) (c1 ++ c2) x (blkOf S γ new) := by
      intro v1 v2 hl
      obtain ⟨x1, c1, l1, n1, a1, a2, a3, a4, a5, a6, a7⟩ := ih1 v1 hc hl
      obtain ⟨x2, c2, l2, n2, b1, b2, b3, b4, b5, b6, b7⟩ := ih2 v2 a2 a1
      refine ⟨(x1, x2), c2, l2, n1 ++ n2, b1, b2, a3.trans b3, ?_, fun d1 d2 e1 e2 => ⟨d1, d2, _, _, rfl, (a7 d1 e1).mono fun f => okL_mono b3 id, b7 d2 e2, blkOf_app ..⟩⟩
      exact (b4.trans ((List.Perm.append_left n2 a4))).trans (by rw [← List.append_assoc]; exact List.Perm.append_right _ List.perm_append_comm)
    cases v
    case pair v1 v2 =>
      simp only [closeK] at hl
      obtain ⟨x, c', l1, new, a1, a2, a3, a4, a5⟩ := key v1 v2 hl
      exact ⟨x, c', l1, new, a1, a2, a3, a4, rfl, trivial, fun cs ⟨d1, d2, e1, e2, e3⟩ => by rw [e1]; exact a5 d1 d2 e2 e3⟩
    case d fr t z =>
      cases t
      case pair t u =>
        simp only [closeK] at hl
        obtain ⟨x, c', l1, new, a1, a2, a3, a4, a5⟩ := key (.d fr t z.1) (.d fr u z.2) hl
        refine ⟨x, c', l1, new, a1, a2, a3, a4, rfl, trivial, fun cs hr => ?_⟩
        rw [← List.take_append_drop t.size cs]
        exact a5 _ _ hr.1 hr.2
      all_goals (simp only [closeK, Leads] at hl)
    all_goals (simp only [closeK, Leads] at hl)
  | full t =>
    intro v c hc k l0 l r hl
    cases v
    case view id ver lo hi cp =>
      simp only [closeK] at hl
      cases hb : (!(cp && Nat.beq lo 0 && t.flat) || (taken c.ups id || memI c.br id)) with
      | true => rw [hb] at hl; exact hl.elim
      | false =>
        rw [hb] at hl
        simp only [Bool.or_eq_false_iff, Bool.not_eq_false', Bool.and_eq_true] at hb
        obtain ⟨⟨⟨hcp, hlo⟩, hfl⟩, hb1, hb2⟩ := hb
        obtain rfl := Nat.eq_of_beq_eq_true hlo
        subst hcp
        obtain ⟨ob, hob, hl⟩ := hl
        dsimp only at hl
        split at hl
        · rename_i ver' fr' u rows
          split at hl
          · rename_i y h1 hy
            obtain ⟨e, rfl⟩ := castD_some hy
            cases e
            obtain rfl := Nat.eq_of_beq_eq_true h1
            obtain ⟨hq, hl⟩ := leads_chk hl
            simp only [Bool.and_eq_true, decide_eq_true_eq] at hq
            obtain ⟨hq1, hq2⟩ := hq
            obtain ⟨i1, i2, i3⟩ := hc.move hb1 hb2 (.inl ⟨_, _, _, _, hob⟩)
            refine ⟨_, _, _, [id], hl, i1, i2, by rw [i3]; exact List.Perm.refl _, rfl, trivial, fun cs hr => ?_⟩
            obtain ⟨_, v0, rfl, _, hv0⟩ := hr
            obtain ⟨v1, v2, ad, cc, v3, v4, v5, v6, v7, v8⟩ := hv0 _ _ (isSl_of _ ver' fr' _ rows (.inl hob))
            obtain ⟨g, m, cp', k1, k2⟩ := v7 hq1
            have k1 : γ id = _ := k1
            rcases h.objs id _ hob with ⟨h1, h2⟩ | ⟨g', cap, cur, e, h1, h2, h3, h4, h5, h6, h7⟩
            · have h1 : γ id = _ := h1
              rw [k1] at h1; cases h1
            · have h1 : γ id = _ := h1
              have hg : g = g' := by rw [k1] at h1; cases h1; rfl
              subst hg
              refine ⟨hfl, g, cap, cur, e, ?_, h2, h3, h4, h5, h6.mono fun _ _ => DR.flat hfl, by simp [blkOf, hob, h1, liveBlk]⟩
              rw [v3, k2, v8 rfl, Nat.zero_mul, Nat.sub_zero, hq2]
          · exact hl.elim
        · exact hl.elim
    all_goals (simp only [closeK, Leads] at hl)
  | rp t =>
    intro v c hc k l0 l r hl
    cases v
    case rptr f u x =>
      simp only [closeK] at hl
      split at hl
      · rename_i y hy
        obtain ⟨e, rfl⟩ := castD_some hy
        subst e
        refine ⟨_, c, l0, [], hl, hc, Ext.refl c, List.Perm.refl _, rfl, trivial, fun cs hr => ⟨rfl, ?_⟩⟩
        obtain ⟨v, h1, h2, a, vs, h3, h4, h5, h6, h7⟩ := hr
        exact ⟨v, h1, h2, a, vs, h3, h4, fun hp => okL_of (by simp) _ (h5 hp), h6, h7.mono fun b hb => okL_of (by simp) b hb⟩
      · exact hl.elim
    case ptr id p =>
      cases p with
      | cons _ _ => simp only [closeK, Leads] at hl
      | nil =>
        simp only [closeK] at hl
        cases hg : gone c.ups id with
        | true => rw [hg] at hl; exact hl.elim
        | false =>
          rw [hg] at hl
          have hg' : ¬ (id, none) ∈ c.ups := fun hm => by rw [gone_iff.2 hm] at hg; cases hg
          have key : ∀ (fm : Bool) (m : AV) (x : t.den) (f : Bool) (c' : Cl), (lookO S.objs id = some (.mem fm t m) ∨ lookO S.objs id = some (.mfz fm t m)) → ((∃ fr t m, lookO S.objs id = some (.mem fr t m)) → lent c' id) →
              (∀ cs, ARc (envOf K S.objs used γ w) m cs → DR w (okL K S γ c' f) t cs x) → ∀ cs, ARc (envOf K S.objs used γ w) (.ptr id []) cs → MR w (okL K S γ c') K.base (.rp t) cs x (blkOf S γ []) := by
            intro fm m x f c' ho' hlen hx cs hr
            obtain ⟨_, v0, rfl, hone, hv0⟩ := hr
            obtain ⟨g, u', q1, q2, q3, q4⟩ := hv0 t (isMm_of _ fm t m ho')
            obtain ⟨g', e', cur, m1, m2, m3, m4⟩ := mm_cells h ho'
            have q1 : γ id = _ := q1
            rw [q1] at m1
            cases m1
            have hgo : okL K S γ c' false g := by
              rcases ho' with ho' | ho'
              · have hlv : liveBlk (lookO S.objs id) (γ id) = some g := by rw [ho', q1]; rfl
                exact ⟨fun id' hid' => by rw [h.sep id' id g hid' hlv]; exact hlen ⟨_, _, _, ho'⟩, (h.mod id g hlv).2, fun hf => by cases hf⟩
              · obtain ⟨_, o6⟩ := h.objs id _ ho'
                exact okL_of (by simp) g (o6 _ q1)
            refine ⟨rfl, v0, rfl, hone, ⟨g, 0, none⟩, cur.toList, by rw [q4, (nil_path t).2.2], rfl, fun _ => hgo, fun j y hj => ?_, (hx _ m4).mono (okL_mono (Ext.refl _) (by simp))⟩
            have := cells_at m2 0 cur.size j y (by
              rw [List.drop_zero, List.take_of_length_le (by simp)]
              exact hj)
            simpa using this
          obtain ⟨ob, hob, hl⟩ := hl
          dsimp only at hl
          split at hl
          · rename_i fm u m
            cases hu : Ty.beq u t with
            | false => rw [hu] at hl; exact hl.elim
            | true =>
              rw [hu] at hl
              obtain rfl := Ty.beq_iff.1 hu
              obtain ⟨i1, i2, i3, i4⟩ := hc.lend (id := id) (o := .mfz fm u m) hg' (.inr ⟨_, _, _, hob, rfl⟩)
              obtain ⟨f, x, c', l1, a1, a2, a3, a4, a5, a6⟩ := roK_spec h m u i1 hl
              exact ⟨x, c', l1, [], a1, a2, i2.trans a3, by rw [a4, i3]; exact List.Perm.refl _, rfl, trivial, key fm m x f c' (.inl hob) (fun _ => a3.lent i4) a6⟩
          · rename_i fm u m
            cases hu : Ty.beq u t with
            | false => rw [hu] at hl; exact hl.elim
            | true =>
              rw [hu] at hl
              obtain rfl := Ty.beq_iff.1 hu
              obtain ⟨f, x, c', l1, a1, a2, a3, a4, a5, a6⟩ := roK_spec h m u hc hl
              exact ⟨x, c', l1, [], a1, a2, a3, by rw [a4]; exact List.Perm.refl _, rfl, trivial, key fm m x f c' (.inr hob) (fun ⟨_, _, _, h⟩ => by rw [hob] at h; cases h) a6⟩
          · exact hl.elim
    all_goals (simp only [closeK, Leads] at hl)
  | nilm t =>
    intro v c hc k l0 l r hl
    cases v
    case nils =>
      simp only [closeK] at hl
      exact ⟨(), c, l0, [], hl, hc, Ext.refl c, List.Perm.refl _, rfl, trivial, fun cs hr => ⟨hr, rfl⟩⟩
    all_goals (simp only [closeK, Leads] at hl)
  | fn f m ih =>
    intro v c hc k l0 l r hl
    cases v
    case fn g x =>
      simp only [closeK] at hl
      cases hg : Nat.beq f g with
      | false => rw [hg] at hl; exact hl.elim
      | true =>
        rw [hg] at hl
        obtain rfl := Nat.eq_of_beq_eq_true hg
        obtain ⟨y, c', l1, new, a1, a2, a3, a4, a5, a6, a7⟩ := ih x hc hl
        exact ⟨y, c', l1, new, a1, a2, a3, a4, rfl, trivial, fun cs ⟨vs, e1, e2⟩ => ⟨vs, e1, a7 _ e2⟩⟩
    all_goals (simp only [closeK, Leads] at hl)
def solid : AV → Bool
  | .any => false
  | .un => false
  | .tup _ => false
  | _ => true
theorem vrel_solid {E : Env} {v : AV} {val : Value} (hs : solid v = true) (h : vrel E v val) : vrel1 E v val := by
  cases v <;> first | exact h | cases hs
theorem closeK_solid {α : Type} {C : CallD} {frz : Bool} {m : MTy} {v : AV} {c : Cl} {k : m.den → Cl → OpT α} {l0 l : List Id} {r : α} (hl : Leads C S.objs (closeK frz m v c k) l0 r l) : solid v = true := by
  cases v
  case any => cases m with
    | ro fr t => cases t <;> simp only [closeK, roK, rowsK, Leads] at hl
    | _ => simp only [closeK, Leads] at hl
  case un => cases m with
    | ro fr t => cases t <;> simp only [closeK, roK, rowsK, Leads] at hl
    | _ => simp only [closeK, Leads] at hl
  case tup _ => cases m with
    | ro fr t => cases t <;> simp only [closeK, roK, rowsK, Leads] at hl
    | _ => simp only [closeK, Leads] at hl
  all_goals rfl
theorem closeL_spec {α : Type} {C : CallD} (h : Rel K S used γ a w) {frz : Bool} : ∀ (ms : List MTy) (vs : List AV) {c : Cl} (hc : CInv S frz c) {k : denL ms → Cl → OpT α} {l0 l : List Id} {r : α}
    (hl : Leads C S.objs (closeL frz ms vs c k) l0 r l),
    ∃ x c' l1 new, Leads C S.objs (k x c') l1 r l ∧ CInv S frz c' ∧ Ext c c' ∧ (movedL c'.ups).Perm (new ++ movedL c.ups) ∧ (∀ (i : Nat) (m : MTy) (v : AV), ms[i]? = some m → vs[i]? = some v → Back S new m v) ∧
      ∀ vals : List Value, vals.length = vs.length → (∀ (i : Nat) (v : AV) (val : Value), vs[i]? = some v → vals[i]? = some val → vrel (envOf K S.objs used γ w) v val) → MRL w (okL K S γ c') K.base ms vals x (blkOf S γ new) := by
  intro ms
  induction ms with
  | nil =>
    intro vs c hc k l0 l r hl
    cases vs with
    | nil => exact ⟨(), c, l0, [], hl, hc, Ext.refl c, List.Perm.refl _, by simp, fun vals hv _ => ⟨by simpa using hv, rfl⟩⟩
    | cons _ _ => exact hl.elim
  | cons m ms ih =>
    intro vs c hc k l0 l r hl
    cases vs with
    | nil => exact hl.elim
    | cons v vs =>
      obtain ⟨x1, c1, l1, n1, a1, a2, a3, a4, a5, a6, a7⟩ := closeK_spec h m v hc hl
      obtain ⟨x2, c2, l2, n2, b1, b2, b3, b4, b5, b6⟩ := ih vs a2 a1
      refine ⟨(x1, x2), c2, l2, n1 ++ n2, b1, b2, a3.trans b3, ?_, fun i m' v' h1 h2 => ?_, fun vals hv hr => ?_⟩
      · exact (b4.trans ((List.Perm.append_left n2 a4))).trans (by rw [← List.append_assoc]; exact List.Perm.append_right _ List.perm_append_comm)
      · cases i with
        | zero =>
          simp at h1 h2
          subst h1 h2
          exact a6.mono (fun _ h => List.mem_append_left _ h)
        | succ i => exact (b5 i m' v' (by simpa using h1) (by simpa using h2)).mono (fun _ h => List.mem_append_right _ h)
      · cases vals with
        | nil => simp at hv
        | cons val vals =>
          have hv0 := hr 0 v val rfl rfl
          have h1 := b6 vals (by simpa using hv) (fun i v' val' e1 e2 => hr (i + 1) v' val' (by simpa using e1) (by simpa using e2))
          obtain ⟨k1, k2⟩ := vrel_solid (closeK_solid hl) hv0
          exact ⟨val, vals, _, _, rfl, by rw [← k2, a5], (a7 _ k1).mono fun f => okL_mono b3 id, h1, blkOf_app ..⟩
end
end Go.Pon
set_option autoImplicit false
set_option linter.unusedVariables false
namespace Go.Pon
open Go
abbrev New := List (Id × Obj × Value)
def New.ups (N : New) : Ups := N.map fun p => (p.1, some p.2.1)
def New.blk (N : New) : List Nat := N.filterMap fun p => liveBlk (some p.2.1) p.2.2
def Obj.isNew : Obj → Prop
  | .sli 0 _ _ _ => True
  | .mem _ _ _ => True
  | _ => False
structure Span (n n' : Id) (N : New) : Prop where
  fst : n'.1 = n.1
  snd : n'.2.1 = n.2.1
  le : n.2.2 ≤ n'.2.2
  ids : ∀ p ∈ N, p.1.1 = n.1 ∧ p.1.2.1 = n.2.1 ∧ n.2.2 ≤ p.1.2.2 ∧ p.1.2.2 < n'.2.2
  nodup : (N.map (·.1)).Nodup
  fresh : ∀ p ∈ N, p.2.1.isNew
theorem Span.nil (n : Id) : Span n n [] := ⟨rfl, rfl, Nat.le_refl _, by simp, by simp, by simp⟩
theorem Span.app {n n' n'' : Id} {N M : New} (h : Span n n' N) (k : Span n' n'' M) : Span n n'' (M ++ N) where
  fst := k.fst.trans h.fst
  snd := k.snd.trans h.snd
  le := Nat.le_trans h.le k.le
  ids := fun p hp => by
    rcases List.mem_append.1 hp with hp | hp
    · obtain ⟨h1, h2, h3, h4⟩ := k.ids p hp
      exact ⟨h1.trans h.fst, h2.trans h.snd, Nat.le_trans h.le h3, h4⟩
    · obtain ⟨h1, h2, h3, h4⟩ := h.ids p hp
      exact ⟨h1, h2, h3, Nat.lt_of_lt_of_le h4 k.le⟩
  nodup := by
    rw [List.map_append, List.nodup_append]
    refine ⟨k.nodup, h.nodup, fun i hi j hj e => ?_⟩
    obtain ⟨p, hp, rfl⟩ := List.mem_map.1 hi
    obtain ⟨q, hq, rfl⟩ := List.mem_map.1 hj
    have h1 := k.ids p hp
    have h2 := h.ids q hq
    rw [e] at h1
    omega
  fresh := fun p hp => by
    rcases List.mem_append.1 hp with hp | hp
    · exact k.fresh p hp
    · exact h.fresh p hp
theorem Span.cons {n n' : Id} {N : New} (h : Span n.nxt n' N) {o : Obj} (ho : o.isNew) (v : Value) : Span n n' ((n, o, v) :: N) := by
  obtain ⟨n1, n2, n3⟩ := n
  obtain ⟨h1, h2, h3, h4, h5, h6⟩ := h
  simp only [Id.nxt] at *
  refine ⟨h1, h2, by show n3 ≤ _; omega, fun p hp => ?_, ?_, fun p hp => ?_⟩
  · simp only [List.mem_cons] at hp
    rcases hp with rfl | hp
    · exact ⟨rfl, rfl, Nat.le_refl _, by show n3 < _; omega⟩
    · obtain ⟨k1, k2, k3, k4⟩ := h4 p hp
      exact ⟨k1, k2, by show n3 ≤ _; omega, k4⟩
  · simp only [List.map_cons, List.nodup_cons]
    refine ⟨fun hm => ?_, h5⟩
    obtain ⟨p, hp, e⟩ := List.mem_map.1 hm
    have := (h4 p hp).2.2.1
    rw [e] at this
    simp at this
    omega
  · simp only [List.mem_cons] at hp
    rcases hp with rfl | hp
    · exact ho
    · exact h6 p hp
theorem New.blk_app (N M : New) : New.blk (N ++ M) = New.blk N ++ New.blk M := by simp [New.blk]
theorem New.ups_app (N M : New) : New.ups (N ++ M) = New.ups N ++ New.ups M := by simp [New.ups]
structure Placed (w : World) (ok : Bool → Nat → Prop) (base : Nat) (N : New) (K : Konst) (E : Env) : Prop where
  base : K.base = base
  w : E.w = w
  ok : ∀ f b, ok f b → E.ok f b
  at_ : ∀ p ∈ N, E.o p.1 = some p.2.1 ∧ E.γ p.1 = p.2.2 ∧ E.used p.1 0
theorem Placed.sub {w : World} {ok : Bool → Nat → Prop} {base : Nat} {N M : New} {K : Konst} {E : Env} (h : Placed w ok base N K E) (hs : ∀ p ∈ M, p ∈ N) : Placed w ok base M K E :=
  ⟨h.base, h.w, h.ok, fun p hp => h.at_ p (hs p hp)⟩
section
variable {α : Type} {C : CallD} {objs : Ups} {w : World} {ok : Bool → Nat → Prop} {base : Nat}
theorem ptr_open {N : New} {n : Id} {v : AV} {m : MTy} {g e} {cur : Array Value} {K : Konst} {E : Env} (hg : w.heap[g]? = some (.cells cur e (0, 0))) (hf : fitsA m.ty v = true)
    (hv : ∀ (K : Konst) (E : Env), Placed w ok base N K E → ARc E v cur.toList ∧ ∀ p ∈ N, OR K E p.1 p.2.1)
    (hp : Placed w ok base ((n, .mem false m.ty v, .pointer (some ⟨g, 0, none⟩)) :: N) K E) :
    ARc E (.ptr n []) [.pointer (some ⟨g, 0, none⟩)] ∧ ∀ p ∈ ((n, Obj.mem false m.ty v, Value.pointer (some ⟨g, 0, none⟩)) :: N : New), OR K E p.1 p.2.1 := by
  obtain ⟨h1, h2⟩ := hv K E (hp.sub fun p hp => List.mem_cons_of_mem _ hp)
  obtain ⟨p1, p2, p3⟩ := hp.at_ _ (List.mem_cons_self ..)
  refine ⟨⟨p3, _, rfl, rfl, fun t ht => ⟨g, t, p2, (nil_path t).1, (nil_path t).2.1, by rw [(nil_path t).2.2]⟩⟩, fun p hm => ?_⟩
  rcases List.mem_cons.1 hm with rfl | hm
  · exact ⟨g, e, cur, p2, by rw [hp.w]; exact hg, hf, h1, fun h => by cases h⟩
  · exact h2 p hm
theorem openK_spec : ∀ (m : MTy) {cs : List Value} {x : m.den} {bs : List Nat} (hm : MR w ok base m cs x bs) {n : Id} {u : Ups} {k : AV → Id → Ups → OpT α} {l0 l : List Id} {r : α}
    (hl : Leads C objs (openK m x n u k) l0 r l),
    ∃ v n' N, Leads C objs (k v n' (New.ups N ++ u)) l0 r l ∧ Span n n' N ∧ fitsA m.ty v = true ∧ solid v = true ∧ (New.blk N).Perm bs ∧
      ∀ (K : Konst) (E : Env), Placed w ok base N K E → ARc E v cs ∧ ∀ p ∈ N, OR K E p.1 p.2.1 := by
  intro m
  induction m with
  | ro fr t =>
    rintro cs x bs ⟨rfl, hd⟩ n u k l0 l r hl
    refine ⟨_, n, [], hl, Span.nil n, by simp [mkD, fitsA, MTy.ty, Ty.beq_iff], rfl, List.Perm.refl _, fun K E hp => ⟨?_, by simp⟩⟩
    show DR E.w (E.ok (fr || t.flat)) t cs x
    rw [hp.w]
    cases ht : t.flat with
    | true => exact DR.flat ht hd
    | false => rw [Bool.or_false]; exact hd.mono (hp.ok fr)
  | own fr t =>
    rintro cs x bs ⟨v, rfl, hd⟩ n u k l0 l r hl
    have hv : isAgg' v = false ∧ v.oneCell' = true := by
      rcases hd with ⟨rfl, _⟩ | ⟨_, _, _, _, rfl, _⟩ <;> exact ⟨rfl, rfl⟩
    refine ⟨.own n 0, n.nxt, [(n, .sli 0 fr t x, v)], hl, (Span.nil n.nxt).cons (o := .sli 0 fr t x) trivial v, by simp [fitsA, MTy.ty, Ty.agg], rfl, ?_, fun K E hp => ?_⟩
    · rcases hd with ⟨rfl, _, rfl⟩ | ⟨g, _, _, _, rfl, _, _, _, _, _, _, rfl⟩
      · exact List.Perm.refl _
      · exact List.Perm.refl _
    · obtain ⟨p1, p2, p3⟩ := hp.at_ _ (List.mem_cons_self ..)
      refine ⟨⟨p3, v, rfl, hv.2, fun t n _ => p2.symm⟩, fun p hm => ?_⟩
      obtain rfl := List.mem_singleton.1 hm
      show OwnC E fr t x K.base _
      rw [p2]
      rcases hd with ⟨rfl, h2, _⟩ | ⟨g, cap, cur, e, rfl, h2, h3, h4, h5, h6, h7, _⟩
      · exact .inl ⟨rfl, h2⟩
      · exact .inr ⟨g, cap, cur, e, rfl, by rw [hp.w]; exact h2, h3, h4, h5, by rw [hp.w]; exact h6.mono fun _ _ => DR.mono (hp.ok fr), by rw [hp.base]; exact h7⟩
  | ptr m ih =>
    rintro cs x bs ⟨g, e, cur, bs', rfl, h2, h3, rfl⟩ n u k l0 l r hl
    obtain ⟨v, n', N, a1, a2, a3, a4, a5, a6⟩ := ih h3 hl
    exact ⟨.ptr n [], n', (n, .mem false m.ty v, .pointer (some ⟨g, 0, none⟩)) :: N, a1, a2.cons (o := .mem false m.ty v) trivial _, rfl, rfl, by
      show (g :: New.blk N).Perm _
      exact List.Perm.cons g a5, fun K E hp => ptr_open h2 a3 a6 hp⟩
  | optr m ih =>
    intro cs x bs hm n u k l0 l r hl
    cases x with
    | none =>
      obtain ⟨rfl, rfl⟩ := hm
      rcases hl with ⟨_, hl⟩ | ⟨y, hy, _⟩
      · exact ⟨.nilp, n, [], hl, Span.nil n, rfl, rfl, List.Perm.refl _, fun K E hp => ⟨rfl, by simp⟩⟩
      · cases hy
    | some x =>
      obtain ⟨g, e, cur, bs', rfl, h2, h3, rfl⟩ := hm
      rcases hl with ⟨hy, _⟩ | ⟨y, hy, hl⟩
      · cases hy
      · cases hy
        obtain ⟨v, n', N, a1, a2, a3, a4, a5, a6⟩ := ih h3 hl
        exact ⟨.ptr n [], n', (n, .mem false m.ty v, .pointer (some ⟨g, 0, none⟩)) :: N, a1, a2.cons (o := .mem false m.ty v) trivial _, rfl, rfl, by
          show (g :: New.blk N).Perm _
          exact List.Perm.cons g a5, fun K E hp => ptr_open h2 a3 a6 hp⟩
  | pair p q ih1 ih2 =>
    rintro cs x bs ⟨c1, c2, b1, b2, rfl, h2, h3, rfl⟩ n u k l0 l r hl
    obtain ⟨v1, n1, N1, a1, a2, a3, a4, a5, a6⟩ := ih1 h2 hl
    obtain ⟨v2, n2, N2, d1, d2, d3, d4, d5, d6⟩ := ih2 h3 a1
    refine ⟨.pair v1 v2, n2, N2 ++ N1, by rw [New.ups_app, List.append_assoc]; exact d1, a2.app d2, by simp [fitsA, MTy.ty, a3, d3], rfl, ?_, fun K E hp => ?_⟩
    · rw [New.blk_app]
      exact List.perm_append_comm.trans (List.Perm.append a5 d5)
    · obtain ⟨e1, e2⟩ := a6 K E (hp.sub fun p h => List.mem_append_right _ h)
      obtain ⟨e3, e4⟩ := d6 K E (hp.sub fun p h => List.mem_append_left _ h)
      refine ⟨⟨c1, c2, rfl, e1, e3⟩, fun p h => ?_⟩
      rcases List.mem_append.1 h with h | h
      · exact e4 p h
      · exact e2 p h
  | full t =>
    rintro cs x bs ⟨h0, g, cap, cur, e, rfl, h2, h3, h4, h5, h6, rfl⟩ n u k l0 l r hl
    refine ⟨.view n 0 0 (List.length x) true, n.nxt, [(n, .sli 0 false t x, .slice (some ⟨g, 0, none⟩) (List.length x) cap)], hl, (Span.nil n.nxt).cons (o := .sli 0 false t x) trivial _, by simp [fitsA, MTy.ty, Ty.agg], rfl, List.Perm.refl _, fun K E hp => ?_⟩
    obtain ⟨p1, p2, p3⟩ := hp.at_ _ (List.mem_cons_self ..)
    refine ⟨⟨p3, _, rfl, rfl, fun t' n' hsl => ?_⟩, fun p hm => ?_⟩
    · have hsl : isSl (E.o n) 0 t' n' := hsl
      have p1 : E.o n = _ := p1
      rw [p1] at hsl
      obtain ⟨f2, r2, k1, k2⟩ := hsl
      rcases k2 with k2 | k2
      · cases k2
        refine ⟨Nat.zero_le _, by omega, _, _, rfl, Nat.le_refl _, by omega, (fun h => by cases h), fun _ => ⟨g, _, cap, p2, by rw [Nat.zero_mul]⟩, fun _ => rfl⟩
      · cases k2
    · obtain rfl := List.mem_singleton.1 hm
      show OwnC E false t x K.base _
      rw [p2]
      exact .inr ⟨g, cap, cur, e, rfl, by rw [hp.w]; exact h2, h3, h4, h5, by rw [hp.w]; exact h6.mono fun _ _ => DR.mono (hp.ok false), (fun h => by cases h)⟩
  | rp t =>
    rintro cs x bs ⟨rfl, hd⟩ n u k l0 l r hl
    refine ⟨_, n, [], hl, Span.nil n, rfl, rfl, List.Perm.refl _, fun K E hp => ⟨?_, by simp⟩⟩
    obtain ⟨v, h1, h2, a, vs, h3, h4, h5, h6, h7⟩ := hd
    refine ⟨v, h1, h2, a, vs, h3, h4, fun h => hp.ok _ _ (h5 h), ?_, ?_⟩
    · rw [hp.w]; exact h6
    · rw [hp.w]; exact h7.mono (hp.ok false)
  | nilm t =>
    rintro cs x bs ⟨rfl, rfl⟩ n u k l0 l r hl
    exact ⟨.nils, n, [], hl, Span.nil n, rfl, rfl, List.Perm.refl _, fun K E hp => ⟨rfl, by simp⟩⟩
  | fn f m ih =>
    rintro cs x bs ⟨vs, rfl, h2⟩ n u k l0 l r hl
    obtain ⟨v, n', N, a1, a2, a3, a4, a5, a6⟩ := ih h2 hl
    refine ⟨.fn f v, n', N, a1, a2, rfl, rfl, a5, fun K E hp => ?_⟩
    obtain ⟨e1, e2⟩ := a6 K E hp
    exact ⟨⟨vs, rfl, e1⟩, e2⟩
theorem vrel_of1 {E : Env} {v : AV} {val : Value} (hs : solid v = true) (h : vrel1 E v val) : vrel E v val := by
  cases v <;> first | exact h | cases hs
theorem openL_spec : ∀ (ms : List MTy) {vals : List Value} {x : denL ms} {bs : List Nat} (hm : MRL w ok base ms vals x bs) {n : Id} {u : Ups} {k : List AV → Id → Ups → OpT α} {l0 l : List Id} {r : α}
    (hl : Leads C objs (openL ms x n u k) l0 r l),
    ∃ vs n' N, Leads C objs (k vs n' (New.ups N ++ u)) l0 r l ∧ Span n n' N ∧ (New.blk N).Perm bs ∧ vs.length = vals.length ∧ (∀ v ∈ vs, solid v = true) ∧
      ∀ (K : Konst) (E : Env), Placed w ok base N K E → (∀ (i : Nat) (v : AV) (val : Value), vs[i]? = some v → vals[i]? = some val → vrel1 E v val) ∧ ∀ p ∈ N, OR K E p.1 p.2.1 := by
  intro ms
  induction ms with
  | nil =>
    rintro vals x bs ⟨rfl, rfl⟩ n u k l0 l r hl
    exact ⟨[], n, [], hl, Span.nil n, List.Perm.refl _, rfl, by simp, fun K E hp => ⟨by simp, by simp⟩⟩
  | cons m ms ih =>
    rintro vals x bs ⟨v0, rest, b1, b2, rfl, hag, h2, h3, rfl⟩ n u k l0 l r hl
    obtain ⟨v1, n1, N1, a1, a2, a3, a4, a5, a6⟩ := openK_spec m h2 hl
    obtain ⟨v2, n2, N2, d1, d2, d3, d4, d5, d6⟩ := ih h3 a1
    refine ⟨v1 :: v2, n2, N2 ++ N1, by rw [New.ups_app, List.append_assoc]; exact d1, a2.app d2, ?_, by simp [d4], fun v hv => ?_, fun K E hp => ?_⟩
    · rw [New.blk_app]
      exact List.perm_append_comm.trans (List.Perm.append a5 d3)
    · rcases List.mem_cons.1 hv with rfl | hv
      · exact a4
      · exact d5 v hv
    · obtain ⟨e1, e2⟩ := a6 K E (hp.sub fun p h => List.mem_append_right _ h)
      obtain ⟨e3, e4⟩ := d6 K E (hp.sub fun p h => List.mem_append_left _ h)
      refine ⟨fun i v val hi hv => ?_, fun p h => ?_⟩
      · cases i with
        | zero =>
          simp at hi hv
          subst hi hv
          exact ⟨e1, by rw [hag]; exact fits_agg a3⟩
        | succ i => exact e3 i v val (by simpa using hi) (by simpa using hv)
      · rcases List.mem_append.1 h with h | h
        · exact e4 p h
        · exact e2 p h
end
end Go.Pon
set_option autoImplicit false
set_option linter.unusedVariables false
namespace Go.Pon
open Go
theorem memE_iff {l : List Id} {id : Id} : memE l id = true ↔ id ∈ l := by
  induction l with
  | nil => simp [memE]
  | cons a l ih => simp only [memE, Bool.or_eq_true, idE_iff, ih, List.mem_cons]; exact or_congr_left eq_comm
theorem fsts_eq : ∀ u : Ups, fsts u = u.map (·.1)
  | [] => rfl
  | p :: r => by simp [fsts, fsts_eq r]
theorem lookO_mem : ∀ {u : Ups} {id : Id}, memE (fsts u) id = true → (id, lookO u id) ∈ u
  | [], id, h => by simp [fsts, memE] at h
  | (i, x) :: r, id, h => by
    rw [lookO_cons]
    by_cases e : i = id
    · subst e; simp
    · rw [if_neg e]
      have : memE (fsts r) id = true := by
        rw [memE_iff, fsts_eq] at h ⊢
        rcases List.mem_cons.1 h with h | h
        · exact absurd h.symm e
        · exact h
      exact List.mem_cons_of_mem _ (lookO_mem this)
theorem lookNew {M : New} {r : Ups} (hn : (M.map (·.1)).Nodup) {p : Id × Obj × Value} (hp : p ∈ M) : lookO (appE (New.ups M) r) p.1 = some p.2.1 := by
  induction M with
  | nil => simp at hp
  | cons q M ih =>
    show lookO ((q.1, some q.2.1) :: appE (New.ups M) r) p.1 = _
    rw [lookO_cons]
    simp only [List.map_cons, List.nodup_cons] at hn
    rcases List.mem_cons.1 hp with rfl | hp
    · simp
    · rw [if_neg (fun e => hn.1 (List.mem_map.2 ⟨p, hp, e.symm⟩))]
      exact ih hn.2 hp
theorem lookOld {M : New} {r : Ups} {j : Id} (hj : ∀ p ∈ M, p.1 ≠ j) : lookO (appE (New.ups M) r) j = lookO r j := by
  induction M with
  | nil => rfl
  | cons q M ih =>
    show lookO ((q.1, some q.2.1) :: appE (New.ups M) r) j = _
    rw [lookO_cons, if_neg (hj q (List.mem_cons_self ..))]
    exact ih fun p hp => hj p (List.mem_cons_of_mem _ hp)
theorem blk_mem {M : New} {p : Id × Obj × Value} (hp : p ∈ M) {g : Nat} (hg : liveBlk (some p.2.1) p.2.2 = some g) : g ∈ New.blk M := List.mem_filterMap.2 ⟨p, hp, hg⟩
theorem blk_inj {M : New} (hn : (New.blk M).Nodup) {p q : Id × Obj × Value} (hp : p ∈ M) (hq : q ∈ M) {g : Nat} (hg : liveBlk (some p.2.1) p.2.2 = some g) (hg' : liveBlk (some q.2.1) q.2.2 = some g) : p = q := by
  induction M with
  | nil => simp at hp
  | cons x M ih =>
    have key : ∀ y ∈ M, liveBlk (some x.2.1) x.2.2 = some g → liveBlk (some y.2.1) y.2.2 = some g → False := by
      intro y hy h1 h2
      have : New.blk (x :: M) = g :: New.blk M := by simp [New.blk, h1]
      rw [this] at hn
      exact (List.nodup_cons.1 hn).1 (blk_mem hy h2)
    have hn' : (New.blk M).Nodup := by
      cases hx : liveBlk (some x.2.1) x.2.2 with
      | none => simpa [New.blk, hx] using hn
      | some y =>
        have : New.blk (x :: M) = y :: New.blk M := by simp [New.blk, hx]
        rw [this] at hn
        exact (List.nodup_cons.1 hn).2
    rcases List.mem_cons.1 hp with hp' | hp' <;> rcases List.mem_cons.1 hq with hq' | hq'
    · rw [hp', hq']
    · exact (key q hq' (hp' ▸ hg) hg').elim
    · exact (key p hp' (hq' ▸ hg') hg).elim
    · exact ih hn' hp' hq'
section
variable {K : Konst} {S : St} {used : Id → Nat → Prop} {γ : Id → Value} {a : Act} {w : World}
inductive Left (S : St) (frz : Bool) (c : Cl) (j : Id) : Option Obj → Prop
  | moved (h : j ∈ movedL c.ups) : Left S frz c j none
  | sli (hf : frz = true) (hm : j ∉ movedL c.ups) (ver : Nat) (fr : Bool) (t : Ty) (rows : List t.den) (h : lookO S.objs j = some (.sli ver fr t rows)) (hl : lent c j) : Left S frz c j (some (.frz ver fr t rows))
  | mem (hf : frz = true) (hm : j ∉ movedL c.ups) (fr : Bool) (t : Ty) (x : AV) (h : lookO S.objs j = some (.mem fr t x)) (hl : lent c j) : Left S frz c j (some (.mfz fr t x))
  | same (hm : j ∉ movedL c.ups) (o : Option Obj) (ho : o = lookO S.objs j) : Left S frz c j o
theorem CInv.left {frz : Bool} {c : Cl} (hc : CInv S frz c) (j : Id) : Left S frz c j (lookO (appE c.ups S.objs) j) := by
  rw [lookO_app]
  split
  · rename_i hm
    have hin := lookO_mem hm
    cases ho : lookO c.ups j with
    | none =>
      rw [ho] at hin
      exact .moved (mem_moved.2 hin)
    | some o =>
      rw [ho] at hin
      have hnm : j ∉ movedL c.ups := fun h => hc.apart j (mem_moved.1 h) (.inr ⟨o, hin⟩)
      obtain ⟨hf, ⟨ver, fr, t, rows, h1, rfl⟩ | ⟨fr, t, m, h1, rfl⟩⟩ := hc.frozen j o hin
      · exact .sli hf hnm ver fr t rows h1 (.inr ⟨_, hin⟩)
      · exact .mem hf hnm fr t m h1 (.inr ⟨_, hin⟩)
  · rename_i hm
    refine .same (fun h => hm ?_) _ rfl
    rw [memE_iff, fsts_eq]
    exact List.mem_map.2 ⟨_, mem_moved.1 h, rfl⟩
theorem left_live {frz : Bool} {c : Cl} {j : Id} {o : Option Obj} (h : Left S frz c j o) {v : Value} {g : Nat} (hl : liveBlk o v = some g) : liveBlk (lookO S.objs j) v = some g ∧ j ∉ movedL c.ups ∧ o = lookO S.objs j := by
  cases h with
  | moved _ => cases hl
  | sli => cases hl
  | mem => cases hl
  | same hm _ ho => subst ho; exact ⟨hl, hm, rfl⟩
theorem left_sl {frz : Bool} {c : Cl} {j : Id} {o : Option Obj} (h : Left S frz c j o) {ver : Nat} {t : Ty} {n : Nat} (hs : isSl o ver t n) : isSl (lookO S.objs j) ver t n := by
  obtain ⟨fr, rows, h1, h2⟩ := hs
  cases h with
  | moved _ => rcases h2 with h2 | h2 <;> cases h2
  | sli hf hm ver' fr' t' rows' h hl =>
    rcases h2 with h2 | h2
    · cases h2
    · cases h2; exact ⟨_, _, h1, .inl h⟩
  | mem => rcases h2 with h2 | h2 <;> cases h2
  | same hm _ ho => subst ho; exact ⟨fr, rows, h1, h2⟩
theorem left_mm {frz : Bool} {c : Cl} {j : Id} {o : Option Obj} (h : Left S frz c j o) {t : Ty} (hs : isMm o t) : isMm (lookO S.objs j) t := by
  obtain ⟨fr, x, h2⟩ := hs
  cases h with
  | moved _ => rcases h2 with h2 | h2 <;> cases h2
  | sli => rcases h2 with h2 | h2 <;> cases h2
  | mem hf hm fr' t' x' h hl =>
    rcases h2 with h2 | h2
    · cases h2
    · cases h2; exact ⟨_, _, .inl h⟩
  | same hm _ ho => subst ho; exact ⟨fr, x, h2⟩
theorem mem_blkOf {l : List Id} {g : Nat} : g ∈ blkOf S γ l ↔ ∃ id ∈ l, liveBlk (lookO S.objs id) (γ id) = some g := by simp [blkOf, List.mem_filterMap]
def Comes (S : St) (used : Id → Nat → Prop) (γ : Id → Value) (mv : List Id) (p : Id × Obj × Value) : Prop :=
  (∀ v, ¬ used p.1 v) ∨ (p.2.2 = γ p.1 ∧ used p.1 0 ∧ p.1 ∈ mv ∧ ∃ fr t c c', lookO S.objs p.1 = some (.mem fr t c) ∧ p.2.1 = .mem false t c')
noncomputable def newVal (M : New) (γ : Id → Value) (j : Id) : Value := (M.find? fun p => idE p.1 j).elim (γ j) fun p => p.2.2
theorem newVal_at {M : New} {γ : Id → Value} (hn : (M.map (·.1)).Nodup) {p : Id × Obj × Value} (hp : p ∈ M) : newVal M γ p.1 = p.2.2 := by
  induction M with
  | nil => simp at hp
  | cons q M ih =>
    simp only [List.map_cons, List.nodup_cons] at hn
    rcases List.mem_cons.1 hp with rfl | hp
    · simp [newVal, idE_iff.2 rfl]
    · have : idE q.1 p.1 = false := by
        rw [Bool.eq_false_iff]
        exact fun e => hn.1 (List.mem_map.2 ⟨p, hp, (idE_iff.1 e).symm⟩)
      have := ih hn.2 hp
      simpa [newVal, List.find?_cons, *] using this
theorem newVal_old {M : New} {γ : Id → Value} {j : Id} (hj : ∀ p ∈ M, p.1 ≠ j) : newVal M γ j = γ j := by
  have : M.find? (fun p => idE p.1 j) = none := by
    rw [List.find?_eq_none]
    exact fun p hp e => hj p hp (idE_iff.1 e)
  simp [newVal, this]
theorem Rel.after (h : Rel K S used γ a w) (hB : ∀ b, K.B b → b < K.base) {frz : Bool} {c : Cl} (hc : CInv S frz c) {w' : World} {M : New}
    (hsize : w.heap.size ≤ w'.heap.size) (hkeep : ∀ b, b < w.heap.size → b ∉ blkOf S γ (movedL c.ups) → w'.heap[b]? = w.heap[b]?)
    (hos : w'.os = w.os ∧ w'.tape = w.tape ∧ w'.output = w.output)
    (hM : ∀ p ∈ M, Comes S used γ (movedL c.ups) p) (hnew : ∀ p ∈ M, p.2.1.isNew) (hnd : (M.map (·.1)).Nodup) (hblk : (New.blk M).Nodup)
    (hin : ∀ g ∈ New.blk M, g ∈ blkOf S γ (movedL c.ups) ∨ w.heap.size ≤ g) {ok : Bool → Nat → Prop}
    (hok : ∀ f b, ok f b → b ∉ New.blk M ∧ ¬ K.B b ∧ (f = true → K.base ≤ b) ∧ ∀ id, liveBlk (lookO (appE c.ups S.objs) id) (γ id) ≠ some b)
    (hor : ∀ (K' : Konst) (E : Env), Placed w' ok K.base M K' E → ∀ p ∈ M, OR K' E p.1 p.2.1) :
    ∃ used' γ', Rel K { S with objs := appE (New.ups M) (appE c.ups S.objs) } used' γ' a w' ∧ Placed w' ok K.base M K (envOf K (appE (New.ups M) (appE c.ups S.objs)) used' γ' w') ∧
      ∀ id v, used' id v → used id v ∨ ∃ p ∈ M, p.1 = id := by
  have hbase : K.base ≤ w.heap.size := h.frame.size
  let used' : Id → Nat → Prop := fun j v => used j v ∨ (v = 0 ∧ ∃ p ∈ M, p.1 = j)
  have hγ : ∀ j v, used j v → newVal M γ j = γ j := by
    intro j v hu
    by_cases hj : ∃ p ∈ M, p.1 = j
    · obtain ⟨p, hp, rfl⟩ := hj
      rw [newVal_at hnd hp]
      rcases hM p hp with hf | ⟨hv, _⟩
      · exact absurd hu (hf v)
      · exact hv
    · exact newVal_old fun p hp e => hj ⟨p, hp, e⟩
  have hlive : ∀ j g, liveBlk (lookO (appE (New.ups M) (appE c.ups S.objs)) j) (newVal M γ j) = some g →
      (∃ p ∈ M, p.1 = j ∧ liveBlk (some p.2.1) p.2.2 = some g) ∨ ((∀ p ∈ M, p.1 ≠ j) ∧ liveBlk (lookO S.objs j) (γ j) = some g ∧ j ∉ movedL c.ups ∧ lookO (appE c.ups S.objs) j = lookO S.objs j) := by
    intro j g hg
    by_cases hj : ∃ p ∈ M, p.1 = j
    · obtain ⟨p, hp, rfl⟩ := hj
      rw [newVal_at hnd hp, lookNew hnd hp] at hg
      exact .inl ⟨p, hp, rfl, hg⟩
    · have hj' : ∀ p ∈ M, p.1 ≠ j := fun p hp e => hj ⟨p, hp, e⟩
      rw [newVal_old hj', lookOld hj'] at hg
      exact .inr ⟨hj', left_live (hc.left j) hg⟩
  -- a block that is live in the end, and old
  have hold : ∀ j g, liveBlk (lookO (appE (New.ups M) (appE c.ups S.objs)) j) (newVal M γ j) = some g → g < w.heap.size →
      ∃ i, liveBlk (lookO S.objs i) (γ i) = some g ∧ (i ∈ movedL c.ups ∨ (i = j ∧ (∀ p ∈ M, p.1 ≠ j) ∧ i ∉ movedL c.ups ∧ lookO (appE c.ups S.objs) j = lookO S.objs j)) := by
    intro j g hg hlt
    rcases hlive j g hg with ⟨p, hp, e, hp2⟩ | ⟨h1, h2, h3, h4⟩
    · rcases hin g (blk_mem hp hp2) with hb | hb
      · obtain ⟨i, hi, hi2⟩ := mem_blkOf.1 hb
        exact ⟨i, hi2, .inl hi⟩
      · omega
    · exact ⟨j, h2, .inr ⟨rfl, h1, h3, h4⟩⟩
  have hs : EStep (envOf K S.objs used γ w) (envOf K (appE (New.ups M) (appE c.ups S.objs)) used' (newVal M γ) w') := by
    refine ⟨hsize, fun fr b hb hbo => ⟨⟨fun j hj => ?_, hbo.2⟩, hkeep b hb fun hm => ?_⟩, fun j v hj => .inl hj, fun j v hj t n hsl => ⟨?_, hγ j v hj⟩, fun j hj t hmm => ⟨?_, hγ j 0 hj⟩⟩
    · obtain ⟨i, hi, _⟩ := hold j b hj hb
      exact hbo.1 i hi
    · obtain ⟨i, _, hi⟩ := mem_blkOf.1 hm
      exact hbo.1 i hi
    · have hsl : isSl (lookO (appE (New.ups M) (appE c.ups S.objs)) j) v t n := hsl
      by_cases hjm : ∃ p ∈ M, p.1 = j
      · obtain ⟨p, hp, rfl⟩ := hjm
        rw [lookNew hnd hp] at hsl
        rcases hM p hp with hf | ⟨_, _, _, fr, t', x, x', _, e⟩
        · exact absurd hj (hf v)
        · rw [e] at hsl
          obtain ⟨_, _, _, h2⟩ := hsl
          rcases h2 with h2 | h2 <;> cases h2
      · rw [lookOld fun p hp e => hjm ⟨p, hp, e⟩] at hsl
        exact left_sl (hc.left j) hsl
    · have hmm : isMm (lookO (appE (New.ups M) (appE c.ups S.objs)) j) t := hmm
      by_cases hjm : ∃ p ∈ M, p.1 = j
      · obtain ⟨p, hp, rfl⟩ := hjm
        rw [lookNew hnd hp] at hmm
        rcases hM p hp with hf | ⟨_, _, _, fr, t', x, x', e0, e⟩
        · exact absurd hj (hf 0)
        · rw [e] at hmm
          obtain ⟨_, _, h2⟩ := hmm
          rcases h2 with h2 | h2
          · cases h2; exact ⟨fr, x, .inl e0⟩
          · cases h2
      · rw [lookOld fun p hp e => hjm ⟨p, hp, e⟩] at hmm
        exact left_mm (hc.left j) hmm
  have hpl : Placed w' ok K.base M K (envOf K (appE (New.ups M) (appE c.ups S.objs)) used' (newVal M γ) w') := by
    refine ⟨rfl, rfl, fun f b hb => ?_, fun p hp => ⟨lookNew hnd hp, newVal_at hnd hp, .inr ⟨rfl, p, hp, rfl⟩⟩⟩
    obtain ⟨h1, h2, h3, h4⟩ := hok f b hb
    refine ⟨fun j hj => ?_, h2, h3⟩
    rcases hlive j b hj with ⟨p, hp, e, hp2⟩ | ⟨k1, k2, k3, k4⟩
    · exact h1 (blk_mem hp hp2)
    · exact h4 j (by rw [k4]; exact k2)
  have hkeep' : ∀ j g, liveBlk (lookO S.objs j) (γ j) = some g → j ∉ movedL c.ups → w'.heap[g]? = w.heap[g]? := fun j g hg hj =>
    hkeep g (live_lt h hg) fun hm => by
      obtain ⟨i, hi, hi2⟩ := mem_blkOf.1 hm
      rw [h.sep j i g hg hi2] at hj
      exact hj hi
  refine ⟨used', newVal M γ, h.move hs (fun j o hj => ?_) (fun j o hj => ?_) (fun j ver fr t rows v hj hu => ?_) (fun i j g hi hj => ?_) (fun i g hi => ?_) ?_, hpl, fun id v hv => hv.imp (fun h => h) fun h => h.2⟩
  · by_cases hjm : ∃ p ∈ M, p.1 = j
    · obtain ⟨p, hp, rfl⟩ := hjm
      rw [lookNew hnd hp] at hj
      cases hj
      exact hor K _ hpl p hp
    · have hj' : ∀ p ∈ M, p.1 ≠ j := fun p hp e => hjm ⟨p, hp, e⟩
      rw [lookOld hj'] at hj
      have hl := hc.left j
      rw [hj] at hl
      cases hl with
      | sli hf hm ver fr t rows h0 hlen =>
        obtain ⟨v0, hu0⟩ := h.ou j _ h0
        have hd := sl_DR h (.inl h0) (c := c) fun _ => hlen
        have hγj : (envOf K (appE (New.ups M) (appE c.ups S.objs)) used' (newVal M γ) w').γ j = γ j := hγ j v0 hu0
        unfold OR
        rw [hγj]
        have hok2 : ∀ b, b < w.heap.size → okL K S γ c fr b → (envOf K (appE (New.ups M) (appE c.ups S.objs)) used' (newVal M γ) w').ok fr b ∧ w'.heap[b]? = w.heap[b]? := by
          intro b hb hbo
          refine ⟨⟨fun i hi => ?_, hbo.2⟩, hkeep b hb fun hbm => ?_⟩
          · obtain ⟨i', hi', hi2⟩ := hold i b hi hb
            have hle := hbo.1 i' hi'
            rcases hi2 with hi2 | ⟨rfl, k1, k2, k3⟩
            · exact hc.apart i' (mem_moved.1 hi2) hle
            · have hlv := hc.left i'
              rw [k3] at hlv
              rcases hle with hle | ⟨o, ho⟩
              · rw [hc.borrow hf] at hle; simp at hle
              · have hmem : memE (fsts c.ups) i' = true := by
                  rw [memE_iff, fsts_eq]; exact List.mem_map.2 ⟨_, ho, rfl⟩
                have h5 := lookO_mem hmem
                have h6 : lookO (appE c.ups S.objs) i' = lookO c.ups i' := by rw [lookO_app, if_pos hmem]
                rw [k3] at h6
                cases h7 : lookO c.ups i' with
                | none => rw [h7] at h5; exact k2 (mem_moved.2 h5)
                | some o' =>
                  rw [h7] at h5 h6
                  obtain ⟨_, ⟨_, _, _, _, h8, rfl⟩ | ⟨_, _, _, h8, rfl⟩⟩ := hc.frozen i' _ h5
                  · rw [h6] at h8; cases h8
                  · rw [h6] at h8; cases h8
          · obtain ⟨i, hi, hi2⟩ := mem_blkOf.1 hbm
            exact hc.apart i (mem_moved.1 hi) (hbo.1 i hi2)
        refine ⟨DR.move hok2 hd, ?_⟩
        · intro ad n cp hE
          rcases h.objs j _ h0 with ⟨h1, _⟩ | ⟨g, cap, cur, e, h1, _⟩
          · have h1 : γ j = _ := h1
            rw [h1] at hE; cases hE
          · have h1 : γ j = _ := h1
            rw [h1] at hE; cases hE; exact ⟨rfl, rfl⟩
      | mem hf hm fr t x h0 hlen =>
        obtain ⟨v0, hu0⟩ := h.ou j _ h0
        obtain ⟨g, e, cur, h1, h2, h3, h4, h5⟩ := h.objs j _ h0
        have h1 : γ j = _ := h1
        have hlv : liveBlk (lookO S.objs j) (γ j) = some g := by rw [h0, h1]; rfl
        have hg := hγ j v0 hu0
        refine ⟨⟨g, e, cur, hg.trans h1, ?_, h3, h4.step hs, h5⟩, fun ad had => ?_⟩
        · exact (hkeep' j g hlv hm).trans h2
        · have had : newVal M γ j = _ := had
          rw [hg, h1] at had
          cases had
          refine ⟨fun i hi => ?_, (h.mod j g hlv).2, h5⟩
          obtain ⟨i', hi', hi2⟩ := hold i g hi (live_lt h hlv)
          have e := h.sep i' j g hi' hlv
          subst e
          rcases hi2 with hi2 | ⟨rfl, k1, k2, k3⟩
          · exact hm hi2
          · rw [hj, h0] at k3; cases k3
      | same hm _ ho =>
        have hj := ho.symm
        obtain ⟨v0, hu0⟩ := h.ou j o hj
        exact OR.step hs (hγ j v0 hu0) (fun g hg => hkeep' j g (by rw [hj]; exact hg) hm) (h.objs j o hj)
  · by_cases hjm : ∃ p ∈ M, p.1 = j
    · exact ⟨0, .inr ⟨rfl, hjm⟩⟩
    · rw [lookOld fun p hp e => hjm ⟨p, hp, e⟩] at hj
      have hl := hc.left j
      rw [hj] at hl
      cases hl with
      | sli _ _ _ _ _ _ h0 _ => exact (h.ou j _ h0).imp fun v hv => .inl hv
      | mem _ _ _ _ _ h0 _ => exact (h.ou j _ h0).imp fun v hv => .inl hv
      | same _ _ ho => exact (h.ou j _ ho.symm).imp fun v hv => .inl hv
  · by_cases hjm : ∃ p ∈ M, p.1 = j
    · obtain ⟨p, hp, rfl⟩ := hjm
      rw [lookNew hnd hp] at hj
      have hn := hnew p hp
      have hj := Option.some.inj hj
      rw [hj] at hn
      rcases hM p hp with hf | ⟨_, _, _, _, _, _, _, _, e⟩
      · rcases hu with hu | ⟨hu, _⟩
        · exact absurd hu (hf v)
        · omega
      · rw [e] at hj; cases hj
    · rw [lookOld fun p hp e => hjm ⟨p, hp, e⟩] at hj
      have hl := hc.left j
      rw [hj] at hl
      rcases hu with hu | ⟨_, hu⟩
      · cases hl with
        | same _ _ ho => exact h.vers j ver fr t rows v ho.symm hu
      · exact absurd hu hjm
  · rcases hlive i g hi with ⟨p, hp, e1, e2⟩ | ⟨e1, e2, e3, e4⟩ <;> rcases hlive j g hj with ⟨q, hq, f1, f2⟩ | ⟨f1, f2, f3, f4⟩
    · rw [← e1, ← f1, blk_inj hblk hp hq e2 f2]
    · rcases hin g (blk_mem hp e2) with hb | hb
      · obtain ⟨i', hi', hi2⟩ := mem_blkOf.1 hb
        rw [h.sep i' j g hi2 f2] at hi'
        exact absurd hi' f3
      · have := live_lt h f2; omega
    · rcases hin g (blk_mem hq f2) with hb | hb
      · obtain ⟨i', hi', hi2⟩ := mem_blkOf.1 hb
        rw [h.sep i' i g hi2 e2] at hi'
        exact absurd hi' e3
      · have := live_lt h e2; omega
    · exact h.sep i j g e2 f2
  · rcases hlive i g hi with ⟨p, hp, e1, e2⟩ | ⟨e1, e2, e3, e4⟩
    · rcases hin g (blk_mem hp e2) with hb | hb
      · obtain ⟨i', hi', hi2⟩ := mem_blkOf.1 hb
        exact h.mod i' g hi2
      · exact ⟨.inl (by omega), fun hb' => by have := hB g hb'; omega⟩
    · exact h.mod i g e2
  · refine ⟨hos.1.trans h.frame.os, hos.2.1.trans h.frame.tape, hos.2.2.trans h.frame.output, Nat.le_trans h.frame.size hsize, fun b hb hbo => ?_⟩
    rw [hkeep b (Nat.lt_of_lt_of_le hb hbase) fun hm => ?_]
    · exact h.frame.block b hb hbo
    · obtain ⟨i, _, hi⟩ := mem_blkOf.1 hm
      rcases (h.mod i b hi).1 with h1 | h1
      · have : K.base = K.w0.heap.size := rfl
        omega
      · exact hbo h1
end
end Go.Pon
set_option autoImplicit false
set_option linter.unusedVariables false
namespace Go.Pon
open Go
def packV : List Value → Value
  | [v] => v
  | vs => .tuple vs.toArray
def Runs (P : Program) (f : FuncId) (args : List Value) (w : World) (R : Value → World → Prop) : Prop :=
  ((callFunc f args.toArray).run P w = .ok (.enter f args.toArray) w ∧ Calls P f args.toArray w fun
    | .returned v, w' => R v w'
    | _, _ => False) ∨
  ∃ v w', (callFunc f args.toArray).run P w = .ok (.value v) w' ∧ R v w'
def backVal : MTy → Value → Value
  | .ptr _, v => v
  | .optr _, v => v
  | _, _ => .agg #[]
def backV : List MTy → List Value → List Value
  | m :: ms, v :: vs => backVal m v :: backV ms vs
  | _, _ => []
def okIn (w : World) (B : Nat → Prop) (bs : List Nat) (f : Bool) (b : Nat) : Prop := b ∉ bs ∧ ¬ B b ∧ (f = true → w.heap.size ≤ b)
def Gives (w : World) (B : Nat → Prop) (s : Sig) (vals : List Value) (bs : List Nat) (y : s.outDen) (v : Value) (w' : World) : Prop :=
  ∃ rs b1 b2, v = packV rs ∧ MRL w' (okIn w B (b1 ++ b2)) w.heap.size s.outs rs y.1 b1 ∧ MRL w' (okIn w B (b1 ++ b2)) w.heap.size (updL s.ins) (backV s.ins vals) y.2 b2 ∧
    (b1 ++ b2).Nodup ∧ (∀ g ∈ b1 ++ b2, w.heap.size ≤ g ∨ g ∈ bs) ∧ FrameW w w' bs
def FnOK (P : Program) (f : FuncId) (s : Sig) (F : denL s.ins → Option s.outDen) : Prop :=
  ∀ (w : World) (B : Nat → Prop) (vals : List Value) (x : denL s.ins) (bs : List Nat) (y : s.outDen), F x = some y → (∀ b, B b → b < w.heap.size) → bs.Nodup → (∀ g ∈ bs, ¬ B g) →
    MRL w (okIn w B bs) w.heap.size s.ins vals x bs → Runs P f vals w (Gives w B s vals bs y)
theorem MR.low {w : World} {ok : Bool → Nat → Prop} {base base' : Nat} (h : base' ≤ base) : ∀ {m : MTy} {cs : List Value} {x : m.den} {bs : List Nat}, MR w ok base m cs x bs → MR w ok base' m cs x bs
  | .ro _ _, _, _, _, hr => hr
  | .own _ _, _, _, _, ⟨v, h0, hr⟩ => ⟨v, h0, hr.imp id fun ⟨g, cap, cur, e, h1, h2, h3, h4, h5, h6, h7, h8⟩ => ⟨g, cap, cur, e, h1, h2, h3, h4, h5, h6, fun hf => Nat.le_trans h (h7 hf), h8⟩⟩
  | .ptr m, _, _, _, ⟨g, e, cur, bs', h1, h2, h3, h4⟩ => ⟨g, e, cur, bs', h1, h2, MR.low h h3, h4⟩
  | .optr m, _, none, _, hr => hr
  | .optr m, _, some _, _, ⟨g, e, cur, bs', h1, h2, h3, h4⟩ => ⟨g, e, cur, bs', h1, h2, MR.low h h3, h4⟩
  | .pair _ _, _, _, _, ⟨c1, c2, b1, b2, h1, h2, h3, h4⟩ => ⟨c1, c2, b1, b2, h1, MR.low h h2, MR.low h h3, h4⟩
  | .fn _ _, _, _, _, ⟨vs, h1, h2⟩ => ⟨vs, h1, MR.low h h2⟩
  | .nilm _, _, _, _, hr => hr
  | .rp _, _, _, _, hr => hr
  | .full _, _, _, _, hr => hr
theorem MRL.low {w : World} {ok : Bool → Nat → Prop} {base base' : Nat} (h : base' ≤ base) : ∀ {ms : List MTy} {vs : List Value} {x : denL ms} {bs : List Nat}, MRL w ok base ms vs x bs → MRL w ok base' ms vs x bs
  | [], _, _, _, hr => hr
  | _ :: _, _, _, _, ⟨v, r, b1, b2, h1, h2, h3, h4, h5⟩ => ⟨v, r, b1, b2, h1, h2, h3.low h, MRL.low h h4, h5⟩
theorem fr_flat {fr : Bool} {t : Ty} (h : (!fr && !t.flat) = false) : fr = true ∨ t.flat = true := by
  cases fr <;> cases ht : t.flat <;> simp_all
theorem MR.noalias {w : World} {ok : Bool → Nat → Prop} {base : Nat} : ∀ {m : MTy} {cs : List Value} {x : m.den} {bs : List Nat}, m.alias = false → MR w ok base m cs x bs → MR w (fun f b => ok true b) base m cs x bs
  | .ro fr t, _, _, _, ha, ⟨h1, h2⟩ => by
    rcases fr_flat (show (!fr && !t.flat) = false from ha) with rfl | ht
    · exact ⟨h1, h2⟩
    · exact ⟨h1, DR.flat ht h2⟩
  | .own fr t, _, _, _, ha, ⟨v, h0, hr⟩ => ⟨v, h0, hr.imp id fun ⟨g, cap, cur, e, h1, h2, h3, h4, h5, h6, h7⟩ => ⟨g, cap, cur, e, h1, h2, h3, h4, h5, by
      rcases fr_flat (show (!fr && !t.flat) = false from ha) with rfl | ht
      · exact h6
      · exact h6.mono fun _ _ => DR.flat ht, h7⟩⟩
  | .ptr m, _, _, _, ha, ⟨g, e, cur, bs', h1, h2, h3, h4⟩ => ⟨g, e, cur, bs', h1, h2, MR.noalias (m := m) ha h3, h4⟩
  | .optr m, _, none, _, ha, hr => hr
  | .optr m, _, some _, _, ha, ⟨g, e, cur, bs', h1, h2, h3, h4⟩ => ⟨g, e, cur, bs', h1, h2, MR.noalias (m := m) ha h3, h4⟩
  | .pair a b, _, _, _, ha, ⟨c1, c2, b1, b2, h1, h2, h3, h4⟩ => by
    have ha : (a.alias || b.alias) = false := ha
    rw [Bool.or_eq_false_iff] at ha
    exact ⟨c1, c2, b1, b2, h1, MR.noalias ha.1 h2, MR.noalias ha.2 h3, h4⟩
  | .fn _ m, _, _, _, ha, ⟨vs, h1, h2⟩ => ⟨vs, h1, MR.noalias (m := m) ha h2⟩
  | .nilm _, _, _, _, _, hr => hr
  | .rp _, _, _, _, ha, _ => by cases ha
  | .full _, _, _, _, ha, ⟨h0, g, cap, cur, e, h1, h2, h3, h4, h5, h6, h7⟩ => ⟨h0, g, cap, cur, e, h1, h2, h3, h4, h5, h6.mono fun _ _ => DR.flat h0, h7⟩
theorem MRL.noalias {w : World} {ok : Bool → Nat → Prop} {base : Nat} : ∀ {ms : List MTy} {vs : List Value} {x : denL ms} {bs : List Nat}, (∀ m ∈ ms, m.alias = false) → MRL w ok base ms vs x bs → MRL w (fun f b => ok true b) base ms vs x bs
  | [], _, _, _, _, hr => hr
  | _ :: _, _, _, _, ha, ⟨v, r, b1, b2, h1, h2, h3, h4, h5⟩ => ⟨v, r, b1, b2, h1, h2, h3.noalias (ha _ (List.mem_cons_self ..)), MRL.noalias (fun m hm => ha m (List.mem_cons_of_mem _ hm)) h4, h5⟩
theorem allE_iff {α : Type} {f : α → Bool} : ∀ {l : List α}, allE f l = true ↔ ∀ a ∈ l, f a = true
  | [] => by simp [allE]
  | a :: l => by simp [allE, allE_iff (l := l)]
theorem alias_false {s : Sig} (h : s.alias = false) : (∀ m ∈ s.outs, m.alias = false) ∧ ∀ m ∈ updL s.ins, m.alias = false := by
  unfold Sig.alias at h
  simp only [Bool.or_eq_false_iff, Bool.not_eq_false', allE_iff] at h
  refine ⟨fun m hm => by simpa using h.1 m hm, ?_⟩
  have : ∀ ms : List MTy, (∀ m ∈ ms, m.upd.alias = false) → ∀ m ∈ updL ms, m.alias = false := by
    intro ms
    induction ms with
    | nil => intro _ m hm; simp [updL] at hm
    | cons a ms ih =>
      intro h0 m hm
      rcases List.mem_cons.1 (show m ∈ a.upd :: updL ms from hm) with rfl | hm
      · exact h0 a (List.mem_cons_self ..)
      · exact ih (fun m hm => h0 m (List.mem_cons_of_mem _ hm)) m hm
  exact this s.ins fun m hm => by simpa using h.2 m hm
section
variable {K : Konst} {S : St} {used : Id → Nat → Prop} {γ : Id → Value} {a : Act} {w : World}
def Backs (S : St) (used : Id → Nat → Prop) (γ : Id → Value) (mv : List Id) (p : Id × Obj × Value) : Prop :=
  p.2.2 = γ p.1 ∧ used p.1 0 ∧ p.1 ∈ mv ∧ (∃ fr t c c', lookO S.objs p.1 = some (.mem fr t c) ∧ p.2.1 = .mem false t c') ∧ ∃ g, p.2.2 = .pointer (some ⟨g, 0, none⟩)
structure RSpan (S : St) (used : Id → Nat → Prop) (γ : Id → Value) (mv : List Id) (n n' : Id) (M : New) : Prop where
  fst : n'.1 = n.1
  snd : n'.2.1 = n.2.1
  le : n.2.2 ≤ n'.2.2
  ids : ∀ p ∈ M, (p.1.1 = n.1 ∧ p.1.2.1 = n.2.1 ∧ n.2.2 ≤ p.1.2.2 ∧ p.1.2.2 < n'.2.2) ∨ Backs S used γ mv p
  nodup : (M.map (·.1)).Nodup
  fresh : ∀ p ∈ M, p.2.1.isNew
theorem RSpan.of {mv : List Id} {n n' : Id} {M : New} (h : Span n n' M) : RSpan S used γ mv n n' M :=
  ⟨h.fst, h.snd, h.le, fun p hp => .inl (h.ids p hp), h.nodup, h.fresh⟩
theorem backs_live {mv : List Id} {p : Id × Obj × Value} (h : Backs S used γ mv p) : ∃ g, liveBlk (some p.2.1) p.2.2 = some g ∧ γ p.1 = .pointer (some ⟨g, 0, none⟩) := by
  obtain ⟨h1, _, _, ⟨_, _, _, _, _, h2⟩, g, h3⟩ := h
  exact ⟨g, by rw [h2, h3]; rfl, by rw [← h1, h3]⟩
theorem RSpan.app {mv : List Id} {n n' n'' : Id} {N M : New} (h : RSpan S used γ mv n n' N) (k : RSpan S used γ mv n' n'' M)
    (hu : ∀ id : Id, id.1 = n.1 → id.2.1 = n.2.1 → ∀ v, ¬ used id v) (hnd : (New.blk N ++ New.blk M).Nodup) : RSpan S used γ mv n n'' (M ++ N) where
  fst := k.fst.trans h.fst
  snd := k.snd.trans h.snd
  le := Nat.le_trans h.le k.le
  ids := fun p hp => by
    rcases List.mem_append.1 hp with hp | hp
    · rcases k.ids p hp with ⟨h1, h2, h3, h4⟩ | hb
      · exact .inl ⟨h1.trans h.fst, h2.trans h.snd, Nat.le_trans h.le h3, h4⟩
      · exact .inr hb
    · rcases h.ids p hp with ⟨h1, h2, h3, h4⟩ | hb
      · exact .inl ⟨h1, h2, h3, Nat.lt_of_lt_of_le h4 k.le⟩
      · exact .inr hb
  nodup := by
    rw [List.map_append, List.nodup_append]
    refine ⟨k.nodup, h.nodup, fun i hi j hj e => ?_⟩
    obtain ⟨p, hp, rfl⟩ := List.mem_map.1 hi
    obtain ⟨q, hq, rfl⟩ := List.mem_map.1 hj
    rcases k.ids p hp with h1 | h1 <;> rcases h.ids q hq with h2 | h2
    · rw [e] at h1
      omega
    · exact hu p.1 (h1.1.trans h.fst) (h1.2.1.trans h.snd) 0 (by rw [e]; exact h2.2.1)
    · exact hu q.1 h2.1 h2.2.1 0 (by rw [← e]; exact h1.2.1)
    · obtain ⟨g, g1, g2⟩ := backs_live h1
      obtain ⟨g', g3, g4⟩ := backs_live h2
      rw [e, g4] at g2
      cases g2
      rw [List.nodup_append] at hnd
      exact hnd.2.2 g (blk_mem hq g3) g (blk_mem hp g1) rfl
  fresh := fun p hp => by
    rcases List.mem_append.1 hp with hp | hp
    · exact k.fresh p hp
    · exact h.fresh p hp
variable {α : Type} {C : CallD} {objs : Ups} {w' : World} {ok : Bool → Nat → Prop} {base : Nat}
theorem ptr_back (h : Rel K S used γ a w) {mv : List Id} {m : MTy} {id : Id} {p : List Nat} {val : Value} (hv : vrel1 (envOf K S.objs used γ w) (.ptr id p) val) (hb : Back1 S mv m (.ptr id p))
    {x : m.den} {bs : List Nat} (hm : ∃ g e cur bs', [val] = [Value.pointer (some ⟨g, 0, none⟩)] ∧ w'.heap[g]? = some (.cells cur e (0, 0)) ∧ MR w' ok base m cur.toList x bs' ∧ bs = g :: bs')
    {n : Id} {u : Ups} {k : Id → Ups → OpT α} {l0 l : List Id} {r : α} (hu : ∀ id : Id, id.1 = n.1 → id.2.1 = n.2.1 → ∀ v, ¬ used id v)
    (hl : Leads C objs (openK m x n u fun a n' u' => k n' ((id, some (.mem false m.ty a)) :: u')) l0 r l) :
    ∃ n' M, Leads C objs (k n' (New.ups M ++ u)) l0 r l ∧ RSpan S used γ mv n n' M ∧ (New.blk M).Perm bs ∧ ∀ (K' : Konst) (E : Env), Placed w' ok base M K' E → ∀ p ∈ M, OR K' E p.1 p.2.1 := by
  obtain ⟨rfl, hmem, fr, c, hob⟩ := hb
  obtain ⟨g, e, cur, bs', h1, h2, h3, rfl⟩ := hm
  have hval : val = .pointer (some ⟨g, 0, none⟩) := by simpa using h1
  obtain ⟨hv1, hv2⟩ := hv
  have hcs : val.cells.toList = [val] := cells_one (by rw [hval]; rfl)
  rw [hcs] at hv1
  obtain ⟨hus, v0, e0, _, hv0⟩ := hv1
  have e0 : val = v0 := by simpa using e0
  subst e0
  obtain ⟨g', u', k1, k2, k3, k4⟩ := hv0 m.ty (isMm_of _ fr m.ty c (.inl hob))
  have hγ : γ id = .pointer (some ⟨g, 0, none⟩) := by
    have k1 : γ id = _ := k1
    rw [hval, (nil_path m.ty).2.2] at k4
    cases k4
    exact k1
  obtain ⟨v, n', N, a1, a2, a3, a4, a5, a6⟩ := openK_spec m h3 hl
  refine ⟨n', (id, .mem false m.ty v, .pointer (some ⟨g, 0, none⟩)) :: N, a1, ⟨a2.fst, a2.snd, a2.le, fun p hp => ?_, ?_, fun p hp => ?_⟩, ?_, fun K' E hp p hpm => (ptr_open h2 a3 a6 hp).2 p hpm⟩
  · rcases List.mem_cons.1 hp with rfl | hp
    · exact .inr ⟨hγ.symm, hus, hmem, ⟨fr, m.ty, c, v, hob, rfl⟩, g, rfl⟩
    · exact .inl (a2.ids p hp)
  · simp only [List.map_cons, List.nodup_cons]
    refine ⟨fun hm => ?_, a2.nodup⟩
    obtain ⟨p, hp, e⟩ := List.mem_map.1 hm
    obtain ⟨i1, i2, _⟩ := a2.ids p hp
    exact hu p.1 i1 i2 0 (by rw [e]; exact hus)
  · rcases List.mem_cons.1 hp with rfl | hp
    · trivial
    · exact a2.fresh p hp
  · show (g :: New.blk N).Perm _
    exact List.Perm.cons g a5
theorem RSpan.nil (mv : List Id) (n : Id) : RSpan S used γ mv n n [] := RSpan.of (Span.nil n)
theorem reopenK_spec (h : Rel K S used γ a w) {mv : List Id} (m : MTy) (v : AV) {val : Value} (hv : vrel (envOf K S.objs used γ w) v val) (hb : Back S mv m v)
    {x : m.upd.den} {bs : List Nat} (hm : MR w' ok base m.upd (backVal m val).cells.toList x bs)
    {n : Id} {u : Ups} {k : Id → Ups → OpT α} {l0 l : List Id} {r : α} (hu : ∀ id : Id, id.1 = n.1 → id.2.1 = n.2.1 → ∀ v, ¬ used id v)
    (hl : Leads C objs (reopenK m v x n u k) l0 r l) :
    ∃ n' M, Leads C objs (k n' (New.ups M ++ u)) l0 r l ∧ RSpan S used γ mv n n' M ∧ (New.blk M).Perm bs ∧ ∀ (K' : Konst) (E : Env), Placed w' ok base M K' E → ∀ p ∈ M, OR K' E p.1 p.2.1 := by
  have triv : bs = [] → Leads C objs (k n u) l0 r l → ∃ n' M, Leads C objs (k n' (New.ups M ++ u)) l0 r l ∧ RSpan S used γ mv n n' M ∧ (New.blk M).Perm bs ∧ ∀ (K' : Konst) (E : Env), Placed w' ok base M K' E → ∀ p ∈ M, OR K' E p.1 p.2.1 :=
    fun hbs hl => ⟨n, [], hl, RSpan.nil mv n, by rw [hbs]; exact List.Perm.refl _, fun _ _ _ p hp => by simp at hp⟩
  cases m with
  | ro fr t => exact triv hm.1 hl
  | own fr t => exact triv hm.1 hl
  | pair p q => exact triv hm.1 hl
  | fn f m => exact triv hm.1 hl
  | nilm t => exact triv hm.1 hl
  | rp t => exact triv hm.1 hl
  | full t => exact triv hm.1 hl
  | ptr m =>
    cases v
    case ptr id p =>
      have hb : Back1 S mv m (.ptr id p) := hb
      obtain rfl := hb.1
      obtain ⟨g, e, cur, bs', h1, h2, h3, h4⟩ := hm
      have h1 : val.cells.toList = _ := h1
      have hv : vrel1 _ (.ptr id []) val := hv
      have hcs : val.cells.toList = [val] := cells_one hv.2.symm
      exact ptr_back h hv hb ⟨g, e, cur, bs', by rw [← hcs, h1], h2, h3, h4⟩ hu hl
    all_goals exact (show False from hb).elim
  | optr m =>
    cases v
    case nilp =>
      rcases hl with ⟨hx, hl⟩ | ⟨y, _, hl⟩
      · subst hx
        exact triv hm.2 hl
      · exact hl.elim
    case ptr id p =>
      have hb : Back1 S mv m (.ptr id p) := by
        rcases hb with hb | hb
        · cases hb
        · exact hb
      obtain rfl := hb.1
      rcases hl with ⟨hx, hl⟩ | ⟨y, hy, hl⟩
      · exact hl.elim
      · subst hy
        obtain ⟨g, e, cur, bs', h1, h2, h3, h4⟩ := hm
        have h1 : val.cells.toList = _ := h1
        have hv : vrel1 _ (.ptr id []) val := hv
        have hcs : val.cells.toList = [val] := cells_one hv.2.symm
        exact ptr_back h hv hb ⟨g, e, cur, bs', by rw [← hcs, h1], h2, h3, h4⟩ hu hl
    all_goals
      rcases hb with hb | hb
      · cases hb
      · exact (show False from hb).elim
theorem reopenL_spec (h : Rel K S used γ a w) {mv : List Id} : ∀ (ms : List MTy) (vs : List AV) {vals : List Value} (hlen : vals.length = vs.length)
    (hv : ∀ (i : Nat) (v : AV) (val : Value), vs[i]? = some v → vals[i]? = some val → vrel (envOf K S.objs used γ w) v val)
    (hb : ∀ (i : Nat) (m : MTy) (v : AV), ms[i]? = some m → vs[i]? = some v → Back S mv m v)
    {x : denL (updL ms)} {bs : List Nat} (hm : MRL w' ok base (updL ms) (backV ms vals) x bs) (hnd : bs.Nodup)
    {n : Id} {u : Ups} {k : Id → Ups → OpT α} {l0 l : List Id} {r : α} (hu : ∀ id : Id, id.1 = n.1 → id.2.1 = n.2.1 → ∀ v, ¬ used id v)
    (hl : Leads C objs (reopenL ms vs x n u k) l0 r l),
    ∃ n' M, Leads C objs (k n' (New.ups M ++ u)) l0 r l ∧ RSpan S used γ mv n n' M ∧ (New.blk M).Perm bs ∧ ∀ (K' : Konst) (E : Env), Placed w' ok base M K' E → ∀ p ∈ M, OR K' E p.1 p.2.1 := by
  intro ms
  induction ms with
  | nil =>
    intro vs vals hlen hv hb x bs hm hnd n u k l0 l r hu hl
    cases vs with
    | nil => exact ⟨n, [], hl, RSpan.nil mv n, by rw [hm.2]; exact List.Perm.refl _, fun _ _ _ p hp => by simp at hp⟩
    | cons _ _ => exact hl.elim
  | cons m ms ih =>
    intro vs vals hlen hv hb x bs hm hnd n u k l0 l r hu hl
    cases vs with
    | nil => exact hl.elim
    | cons v vs =>
      cases vals with
      | nil => simp at hlen
      | cons val vals =>
        obtain ⟨v', r', b1, b2, e1, e2, e3, e4, rfl⟩ := hm
        obtain ⟨rfl, rfl⟩ : v' = backVal m val ∧ r' = backV ms vals := by
          have e1 : backVal m val :: backV ms vals = v' :: r' := e1
          cases e1; exact ⟨rfl, rfl⟩
        have hl : Leads C objs (reopenK m v x.1 n u fun n' u' => reopenL ms vs x.2 n' u' k) l0 r l := hl
        obtain ⟨n1, M1, a1, a2, a3, a4⟩ := reopenK_spec h m v (hv 0 v val rfl rfl) (hb 0 m v rfl rfl) e3 hu hl
        rw [List.nodup_append] at hnd
        obtain ⟨n2, M2, c1, c2, c3, c4⟩ := ih vs (by simpa using hlen) (fun i v val h1 h2 => hv (i + 1) v val (by simpa using h1) (by simpa using h2)) (fun i m v h1 h2 => hb (i + 1) m v (by simpa using h1) (by simpa using h2)) e4 hnd.2.1
          (fun id i1 i2 => hu id (i1.trans a2.fst) (i2.trans a2.snd)) a1
        refine ⟨n2, M2 ++ M1, by rw [New.ups_app, List.append_assoc]; exact c1, a2.app c2 hu ?_, ?_, fun K' E hp p hpm => ?_⟩
        · exact ((List.Perm.append a3 c3).nodup_iff).2 (List.nodup_append.2 hnd)
        · rw [New.blk_app]
          exact List.perm_append_comm.trans (List.Perm.append a3 c3)
        · rcases List.mem_append.1 hpm with hpm | hpm
          · exact c4 K' E (hp.sub fun p h => List.mem_append_left _ h) p hpm
          · exact a4 K' E (hp.sub fun p h => List.mem_append_right _ h) p hpm
end
end Go.Pon
set_option autoImplicit false
set_option linter.unusedVariables false
namespace Go.Pon
open Go
def MTy.insOK : MTy → Bool
  | .ro fr t => !fr || t.flat
  | .own fr _ => !fr
  | .ptr m => m.insOK
  | .optr m => m.insOK
  | .pair a b => a.insOK && b.insOK
  | .fn _ m => m.insOK
  | .nilm _ => true
  | .rp _ => true
  | .full _ => true
theorem MR.ins {w : World} {ok ok' : Bool → Nat → Prop} {base base' : Nat} (h : ∀ b, ok false b → ok' false b) : ∀ {m : MTy} {cs : List Value} {x : m.den} {bs : List Nat}, m.insOK = true → MR w ok base m cs x bs → MR w ok' base' m cs x bs
  | .ro fr t, _, _, _, hi, ⟨h1, h2⟩ => by
    refine ⟨h1, ?_⟩
    simp only [MTy.insOK, Bool.or_eq_true, Bool.not_eq_true'] at hi
    rcases hi with rfl | hi
    · exact h2.mono h
    · exact DR.flat hi h2
  | .own fr t, _, _, _, hi, ⟨v, h0, hr⟩ => by
    have hi : fr = false := by simpa [MTy.insOK] using hi
    subst hi
    exact ⟨v, h0, hr.imp (fun h => h) fun ⟨g, cap, cur, e, h1, h2, h3, h4, h5, h6, h7, h8⟩ => ⟨g, cap, cur, e, h1, h2, h3, h4, h5, h6.mono fun _ _ => DR.mono h, (fun h => by cases h), h8⟩⟩
  | .ptr m, _, _, _, hi, ⟨g, e, cur, bs', h1, h2, h3, h4⟩ => ⟨g, e, cur, bs', h1, h2, MR.ins h (m := m) hi h3, h4⟩
  | .optr m, _, none, _, hi, hr => hr
  | .optr m, _, some _, _, hi, ⟨g, e, cur, bs', h1, h2, h3, h4⟩ => ⟨g, e, cur, bs', h1, h2, MR.ins h (m := m) hi h3, h4⟩
  | .pair p q, _, _, _, hi, ⟨c1, c2, b1, b2, h1, h2, h3, h4⟩ => by
    simp only [MTy.insOK, Bool.and_eq_true] at hi
    exact ⟨c1, c2, b1, b2, h1, MR.ins h hi.1 h2, MR.ins h hi.2 h3, h4⟩
  | .fn _ m, _, _, _, hi, ⟨vs, h1, h2⟩ => ⟨vs, h1, MR.ins h (m := m) hi h2⟩
  | .nilm _, _, _, _, hi, hr => hr
  | .full _, _, _, _, hi, ⟨h0, g, cap, cur, e, h1, h2, h3, h4, h5, h6, h7⟩ => ⟨h0, g, cap, cur, e, h1, h2, h3, h4, h5, h6.mono fun _ _ => DR.flat h0, h7⟩
  | .rp _, _, _, _, hi, ⟨h0, v, h1, h2, a, vs, h3, h4, h5, h6, h7⟩ => ⟨h0, v, h1, h2, a, vs, h3, h4, fun hp => h _ (h5 hp), h6, h7.mono h⟩
theorem MRL.ins {w : World} {ok ok' : Bool → Nat → Prop} {base base' : Nat} (h : ∀ b, ok false b → ok' false b) : ∀ {ms : List MTy} {vs : List Value} {x : denL ms} {bs : List Nat}, (∀ m ∈ ms, m.insOK = true) → MRL w ok base ms vs x bs → MRL w ok' base' ms vs x bs
  | [], _, _, _, _, hr => hr
  | _ :: _, _, _, _, hi, ⟨v, r, b1, b2, h1, h2, h3, h4, h5⟩ => ⟨v, r, b1, b2, h1, h2, h3.ins h (hi _ (List.mem_cons_self ..)), MRL.ins h (fun m hm => hi m (List.mem_cons_of_mem _ hm)) h4, h5⟩
theorem Runs.mono {P : Program} {f : FuncId} {args : List Value} {w : World} {R R' : Value → World → Prop} (h : ∀ v w', R v w' → R' v w') (hr : Runs P f args w R) : Runs P f args w R' := by
  rcases hr with ⟨h1, h2⟩ | ⟨v, w', h1, h2⟩
  · refine .inl ⟨h1, fun cs => ?_⟩
    obtain ⟨e, w', fr, k1, k2⟩ := h2 cs
    refine ⟨e, w', fr, ?_, k2⟩
    cases e with
    | returned v => exact h _ _ k1
    | panicked _ => exact k1.elim
    | outgrown => exact k1.elim
  · exact .inr ⟨v, w', h1, h _ _ h2⟩
section
variable {K : Konst} {S : St} {used : Id → Nat → Prop} {γ : Id → Value} {a : Act} {w : World}
theorem lent_dead {c : Cl} (hc : CInv S true c) {j : Id} (hl : lent c j) (v : Value) : liveBlk (lookO (appE c.ups S.objs) j) v = none := by
  rcases hl with hl | ⟨o, ho⟩
  · rw [hc.borrow rfl] at hl; simp at hl
  · have hmem : memE (fsts c.ups) j = true := by
      rw [memE_iff, fsts_eq]; exact List.mem_map.2 ⟨_, ho, rfl⟩
    have h5 := lookO_mem hmem
    rw [lookO_app, if_pos hmem]
    cases h7 : lookO c.ups j with
    | none => rfl
    | some o' =>
      rw [h7] at h5
      obtain ⟨_, ⟨_, _, _, _, h8, rfl⟩ | ⟨_, _, _, h8, rfl⟩⟩ := hc.frozen j _ h5 <;> rfl
theorem blkOf_nodup (h : Rel K S used γ a w) : ∀ {l : List Id}, l.Nodup → (blkOf S γ l).Nodup
  | [], _ => by simp [blkOf]
  | i :: l, hn => by
    rw [List.nodup_cons] at hn
    have ih := blkOf_nodup h hn.2
    cases hi : liveBlk (lookO S.objs i) (γ i) with
    | none => simpa [blkOf, hi] using ih
    | some g =>
      have : blkOf S γ (i :: l) = g :: blkOf S γ l := by simp [blkOf, hi]
      rw [this, List.nodup_cons]
      refine ⟨fun hm => ?_, ih⟩
      obtain ⟨j, hj, hj2⟩ := mem_blkOf.1 hm
      rw [h.sep i j g hi hj2] at hn
      exact hn.1 hj
theorem pack_rel {E : Env} : ∀ {vs : List AV} {rs : List Value}, vs.length = rs.length → (∀ v ∈ vs, solid v = true) → (∀ (i : Nat) (v : AV) (val : Value), vs[i]? = some v → rs[i]? = some val → vrel1 E v val) → vrel E (packL vs) (packV rs) := by
  intro vs rs hlen hs hv
  have key : ∀ (vs : List AV) (rs : List Value), vs.length = rs.length → (∀ (i : Nat) (v : AV) (val : Value), vs[i]? = some v → rs[i]? = some val → vrel1 E v val) → ARt E (chainA vs) rs := by
    intro vs
    induction vs with
    | nil => intro rs hl _; cases rs with
      | nil => trivial
      | cons _ _ => simp at hl
    | cons v vs ih =>
      intro rs hl hv
      cases rs with
      | nil => simp at hl
      | cons val rs => exact ⟨hv 0 v val rfl rfl, ih rs (by simpa using hl) fun i v val h1 h2 => hv (i + 1) v val (by simpa using h1) (by simpa using h2)⟩
  have hk := key vs rs hlen hv
  match vs, rs, hlen, hs, hv, hk with
  | [], [], _, _, _, hk => exact ⟨#[], rfl, hk⟩
  | [v], [val], _, hs, hv, _ => exact vrel_of1 (hs v (by simp)) (hv 0 v val rfl rfl)
  | v :: v' :: vs, val :: val' :: rs, _, _, _, hk => exact ⟨(val :: val' :: rs).toArray, rfl, hk⟩
theorem call_runs (h : Rel K S used γ a w) (hB : ∀ b, K.B b → b < K.base) {f : FuncId} {s : Sig} (hC : FnOK K.P f s (K.C f s)) (hins : ∀ m ∈ s.ins, m.insOK = true)
    {args : List AV} {vals : List Value} (hlen : vals.length = args.length) (hv : ∀ (i : Nat) (v : AV) (val : Value), args[i]? = some v → vals[i]? = some val → vrel (envOf K S.objs used γ w) v val)
    {base : Id} (hu : ∀ id : Id, id.1 = base.1 → id.2.1 = base.2.1 → ∀ v, ¬ used id v) {l0 l : List Id} {v : AV} {u : Ups} (hl : Leads K.C S.objs (callK f s args base) l0 (v, u) l) :
    Runs K.P f vals w fun val w' => ∃ used' γ', vrel (envOf K (appE u S.objs) used' γ' w') v val ∧ Rel K { S with objs := appE u S.objs } used' γ' a w' ∧ Grow used used' base := by
  unfold callK at hl
  obtain ⟨x, c, l1, new, hl, hc, _, hperm, hback, hmr⟩ := closeL_spec h s.ins args (CInv.start S s.alias) hl
  have hmr := hmr vals hlen hv
  obtain ⟨y, hy, hl⟩ := hl
  have hperm : (movedL c.ups).Perm new := by simpa [movedL] using hperm
  have hbase : K.base ≤ w.heap.size := h.frame.size
  have hnn : new.Nodup := hperm.nodup_iff.1 hc.nodup
  have hbs := blkOf_nodup h hnn
  have hmb : ∀ g, g ∈ blkOf S γ new ↔ g ∈ blkOf S γ (movedL c.ups) := fun g => by
    rw [mem_blkOf, mem_blkOf]
    exact ⟨fun ⟨i, h1, h2⟩ => ⟨i, hperm.mem_iff.2 h1, h2⟩, fun ⟨i, h1, h2⟩ => ⟨i, hperm.mem_iff.1 h1, h2⟩⟩
  let B : Nat → Prop := fun b => s.alias = true ∧ (K.B b ∨ ∃ id, liveBlk (lookO (appE c.ups S.objs) id) (γ id) = some b)
  have hnb : ∀ g ∈ blkOf S γ new, ¬ B g := by
    rintro g hg ⟨_, hb⟩
    obtain ⟨i, hi, hi2⟩ := mem_blkOf.1 hg
    rcases hb with hb | ⟨j, hj⟩
    · exact (h.mod i g hi2).2 hb
    · obtain ⟨j1, j2, _⟩ := left_live (hc.left j) hj
      rw [h.sep i j g hi2 j1] at hi
      exact j2 (hperm.mem_iff.2 hi)
  have hBs : ∀ b, B b → b < w.heap.size := by
    rintro b ⟨_, hb | ⟨j, hj⟩⟩
    · exact Nat.lt_of_lt_of_le (hB b hb) hbase
    · exact live_lt h (left_live (hc.left j) hj).1
  have hok : ∀ b, okL K S γ c false b → okIn w B (blkOf S γ new) false b := by
    intro b hb
    refine ⟨fun hm => ?_, fun ⟨ha, hbb⟩ => ?_, fun h => by cases h⟩
    · obtain ⟨i, hi, hi2⟩ := mem_blkOf.1 hm
      exact hc.apart i (mem_moved.1 (hperm.mem_iff.2 hi)) (hb.1 i hi2)
    · rcases hbb with hbb | ⟨j, hj⟩
      · exact hb.2.1 hbb
      · have hle := hb.1 j (left_live (hc.left j) hj).1
        rw [ha] at hc
        rw [lent_dead hc hle] at hj
        cases hj
  refine (hC w B vals x (blkOf S γ new) y hy hBs hbs hnb (hmr.ins hok hins)).mono fun val w' hg => ?_
  obtain ⟨rs, b1, b2, rfl, g1, g2, g3, g4, g5⟩ := hg
  let okF : Bool → Nat → Prop := fun f b => b ∉ b1 ++ b2 ∧ ¬ K.B b ∧ (f = true → K.base ≤ b) ∧ ∀ id, liveBlk (lookO (appE c.ups S.objs) id) (γ id) ≠ some b
  have hF : MRL w' okF K.base s.outs rs y.1 b1 ∧ MRL w' okF K.base (updL s.ins) (backV s.ins vals) y.2 b2 := by
    cases ha : s.alias with
    | true =>
      have hm : ∀ f b, okIn w B (b1 ++ b2) f b → okF f b := fun f b ⟨k1, k2, k3⟩ =>
        ⟨k1, fun hb => k2 ⟨ha, .inl hb⟩, fun hf => Nat.le_trans hbase (k3 hf), fun id hid => k2 ⟨ha, .inr ⟨id, hid⟩⟩⟩
      exact ⟨(g1.mono hm).low hbase, (g2.mono hm).low hbase⟩
    | false =>
      obtain ⟨a1, a2⟩ := alias_false ha
      have hm : ∀ f b, okIn w B (b1 ++ b2) true b → okF f b := fun f b ⟨k1, k2, k3⟩ => by
        have k3 := k3 rfl
        exact ⟨k1, fun hb => by have := hB b hb; omega, fun hf => Nat.le_trans hbase k3, fun id hid => by have := live_lt h (left_live (hc.left id) hid).1; omega⟩
      exact ⟨((g1.noalias a1).mono hm).low hbase, ((g2.noalias a2).mono hm).low hbase⟩
  rw [List.nodup_append] at g3
  obtain ⟨n1, M1, a1, a2, a3, a4⟩ := reopenL_spec h s.ins args hlen hv hback hF.2 g3.2.1 hu hl
  obtain ⟨vs, n2, M2, d1, d2, d3, d4, d5, d6⟩ := openL_spec s.outs hF.1 a1
  obtain ⟨e1, _⟩ := d1
  have e1 : (packL vs, New.ups M2 ++ (New.ups M1 ++ c.ups)) = (v, u) := e1
  cases e1
  have hblk : (New.blk (M2 ++ M1)).Perm (b1 ++ b2) := by rw [New.blk_app]; exact List.Perm.append d3 a3
  have hnd : (b1 ++ b2).Nodup := List.nodup_append.2 g3
  have hspan := a2.app (RSpan.of (S := S) (used := used) (γ := γ) (mv := new) d2) hu (by
    rw [(List.perm_append_comm.trans (New.blk_app M2 M1 ▸ hblk)).nodup_iff]; exact hnd)
  have hob : appE (New.ups M2 ++ (New.ups M1 ++ c.ups)) S.objs = appE (New.ups (M2 ++ M1)) (appE c.ups S.objs) := by
    simp only [appE_eq, New.ups_app, List.append_assoc]
  obtain ⟨used', γ', r1, r2, r3⟩ := h.after hB hc (w' := w') (M := M2 ++ M1) (ok := okF) g5.size (fun b hb hm => g5.block b hb fun hx => hm ((hmb b).1 hx)) ⟨g5.os, g5.tape, g5.output⟩
    (fun p hp => by
      rcases hspan.ids p hp with ⟨h1, h2, _⟩ | ⟨h1, h2, h3, h4, _⟩
      · exact .inl (hu p.1 h1 h2)
      · exact .inr ⟨h1, h2, hperm.mem_iff.2 h3, h4⟩)
    hspan.fresh hspan.nodup (hblk.nodup_iff.2 hnd)
    (fun g hg => by
      rcases g4 g (hblk.mem_iff.1 hg) with h1 | h1
      · exact .inr h1
      · exact .inl ((hmb g).1 h1))
    (fun f b ⟨k1, k2, k3, k4⟩ => ⟨fun hm => k1 (hblk.mem_iff.1 hm), k2, k3, k4⟩)
    (fun K' E hp p hpm => by
      rcases List.mem_append.1 hpm with hpm | hpm
      · exact (d6 K' E (hp.sub fun p h => List.mem_append_left _ h)).2 p hpm
      · exact a4 K' E (hp.sub fun p h => List.mem_append_right _ h) p hpm)
  rw [hob]
  refine ⟨used', γ', pack_rel d4 d5 (d6 K _ (r2.sub fun p h => List.mem_append_left _ h)).1, r1, fun id v hv => ?_⟩
  rcases r3 id v hv with hv | ⟨p, hp, rfl⟩
  · exact .inl ⟨v, hv⟩
  · rcases hspan.ids p hp with ⟨h1, h2, _⟩ | ⟨_, h2, _⟩
    · exact .inr ⟨h1, h2⟩
    · exact .inl ⟨0, h2⟩
end
end Go.Pon
set_option autoImplicit false
set_option linter.unusedVariables false
namespace Go.Pon
open Go
def splice (l : List Value) (o : Nat) (ds : List Value) : List Value := l.take o ++ ds ++ l.drop (o + ds.length)
theorem splice_in {a b c ds : List Value} {off : Nat} (h : off + ds.length ≤ b.length) : splice (a ++ b ++ c) (a.length + off) ds = a ++ splice b off ds ++ c := by
  unfold splice
  rw [List.append_assoc a b c, List.take_append, List.drop_append, List.take_of_length_le (by omega), List.drop_eq_nil_of_le (as := a) (by omega)]
  rw [show a.length + off - a.length = off by omega, show a.length + off + ds.length - a.length = off + ds.length by omega, List.take_append_of_le_length (by omega), List.drop_append_of_le_length h]
  simp [List.append_assoc]
theorem splice_len {l ds : List Value} {o : Nat} (h : o + ds.length ≤ l.length) : (splice l o ds).length = l.length := by simp [splice]; omega
theorem path_len : ∀ (t : Ty) (p : List Nat) (u : Ty), tyAt t p = some u → inT t p → offT t p + u.size ≤ t.size
  | t, [], u, ht, _ => by
    have e : u = t := by cases t <;> simpa [tyAt] using ht.symm
    subst e
    rw [(nil_path u).2.2]; omega
  | .pair a b, 0 :: p, u, ht, hi => by
    have := path_len a p u ht hi
    simp only [offT, Ty.size]; omega
  | .pair a b, (n + 1) :: p, u, ht, hi => by
    have := path_len b (n :: p) u ht hi
    simp only [offT, Ty.size]; omega
  | .arr m t, i :: p, u, ht, ⟨hi, hp⟩ => by
    have := path_len t p u ht hp
    simp only [offT, Ty.size]
    have : i * t.size + t.size ≤ m * t.size := by
      rw [← Nat.succ_mul]; exact Nat.mul_le_mul_right _ hi
    omega
theorem setS_spec {E : Env} (fr : Bool) : ∀ (t : Ty) (x : t.den) (p : List Nat) (u : Ty) (v c' : AV) (cs ds : List Value), tyAt t p = some u → inT t p → DR E.w (E.ok fr) t cs x → fitsA u v = true → ARc E v ds →
    setS fr t x p v = some c' → fitsA t c' = true ∧ ARc E c' (splice cs (offT t p) ds)
  | t, x, [], u, v, c', cs, ds, ht, _, h, hv, hd, hs => by
    have e : u = t := by cases t <;> simpa [tyAt] using ht.symm
    subst e
    have e : c' = v := by cases u <;> simpa [setS] using hs.symm
    subst e
    refine ⟨hv, ?_⟩
    have l1 := DR.len h
    have l2 := fits_len hv hd
    rw [(nil_path u).2.2, splice, List.drop_eq_nil_of_le (by omega)]
    simpa using hd
  | .pair ta tb, x, i :: p, u, v, c', cs, ds, ht, hi, h, hv, hd, hs => by
    obtain ⟨h2, h3⟩ := h
    have l1 := DR.len h2
    have l2 := DR.len h3
    have l3 := fits_len hv hd
    have h1 : cs = cs.take ta.size ++ cs.drop ta.size := (List.take_append_drop _ _).symm
    cases i with
    | zero =>
      have hs : (setS fr ta x.1 p v).map (fun a' => AV.pair a' (.d fr tb x.2)) = some c' := hs
      cases hx : setS fr ta x.1 p v with
      | none => rw [hx] at hs; cases hs
      | some x' =>
        rw [hx] at hs; cases hs
        obtain ⟨k1, k2⟩ := setS_spec fr ta x.1 p u v x' _ ds ht hi h2 hv hd hx
        refine ⟨by simp [fitsA, k1, Ty.beq_iff], splice (cs.take ta.size) (offT ta p) ds, cs.drop ta.size, ?_, k2, h3⟩
        have hle : offT ta p + ds.length ≤ (cs.take ta.size).length := by
          have := path_len ta p u ht hi
          omega
        have := splice_in (a := []) (b := cs.take ta.size) (c := cs.drop ta.size) (ds := ds) (off := offT ta p) hle
        rw [List.nil_append, ← h1] at this
        simpa [offT] using this
    | succ n =>
      have hs : (setS fr tb x.2 (n :: p) v).map (fun a' => AV.pair (.d fr ta x.1) a') = some c' := hs
      cases hx : setS fr tb x.2 (n :: p) v with
      | none => rw [hx] at hs; cases hs
      | some y' =>
        rw [hx] at hs; cases hs
        obtain ⟨k1, k2⟩ := setS_spec fr tb x.2 (n :: p) u v y' _ ds ht hi h3 hv hd hx
        refine ⟨by simp [fitsA, k1, Ty.beq_iff], cs.take ta.size, splice (cs.drop ta.size) (offT tb (n :: p)) ds, ?_, h2, k2⟩
        have hle : offT tb (n :: p) + ds.length ≤ (cs.drop ta.size).length := by
          have := path_len tb (n :: p) u ht hi
          omega
        have := splice_in (a := cs.take ta.size) (b := cs.drop ta.size) (c := []) (ds := ds) (off := offT tb (n :: p)) hle
        rw [List.append_nil, ← h1, l1] at this
        simpa [offT] using this
  | .unit, _, _ :: _, _, _, _, _, _, ht, _, _, _, _, _ => by cases ht
  | .int _, _, _ :: _, _, _, _, _, _, ht, _, _, _, _, _ => by cases ht
  | .bool, _, _ :: _, _, _, _, _, _, ht, _, _, _, _, _ => by cases ht
  | .str, _, _ :: _, _, _, _, _, _, ht, _, _, _, _, _ => by cases ht
  | .slice _, _, _ :: _, _, _, _, _, _, ht, _, _, _, _, _ => by cases ht
  | .ptr, _, _ :: _, _, _, _, _, _, ht, _, _, _, _, _ => by cases ht
  | .arr _ _, _, _ :: _, _, _, _, _, _, _, _, _, _, _, hs => by cases hs
theorem setA_spec {E : Env} (hm : ∀ f g b, (g = true → f = true) → E.ok f b → E.ok g b) : ∀ (c : AV) (t : Ty) (p : List Nat) (u : Ty) (v c' : AV) (cs ds : List Value), fitsA t c = true → tyAt t p = some u → inT t p → ARc E c cs → fitsA u v = true → ARc E v ds →
    setA c p v = some c' → fitsA t c' = true ∧ ARc E c' (splice cs (offT t p) ds)
  | c, t, [], u, v, c', cs, ds, hf, ht, _, h, hv, hd, hs => by
    have e : u = t := by cases t <;> simpa [tyAt] using ht.symm
    subst e
    have e : c' = v := by cases c <;> simpa [setA] using hs.symm
    subst e
    refine ⟨hv, ?_⟩
    have l1 := fits_len hf h
    have l2 := fits_len hv hd
    rw [(nil_path u).2.2, splice, List.drop_eq_nil_of_le (by omega)]
    simpa using hd
  | .pair x y, t, i :: p, u, v, c', cs, ds, hf, ht, hi, ⟨c1, c2, h1, h2, h3⟩, hv, hd, hs => by
    cases t <;> simp only [fitsA, Bool.and_eq_true, Bool.false_eq_true] at hf
    rename_i ta tb
    have l1 := fits_len hf.1 h2
    have l2 := fits_len hf.2 h3
    have l3 := fits_len hv hd
    cases i with
    | zero =>
      have hs : (setA x p v).map (fun a' => AV.pair a' y) = some c' := hs
      cases hx : setA x p v with
      | none => rw [hx] at hs; cases hs
      | some x' =>
        rw [hx] at hs; cases hs
        obtain ⟨k1, k2⟩ := setA_spec hm x ta p u v x' c1 ds hf.1 ht hi h2 hv hd hx
        refine ⟨by simp [fitsA, k1, hf.2], splice c1 (offT ta p) ds, c2, ?_, k2, h3⟩
        have hle : offT ta p + ds.length ≤ c1.length := by
          have := path_len ta p u ht hi
          omega
        rw [h1]
        have := splice_in (a := []) (b := c1) (c := c2) (ds := ds) (off := offT ta p) hle
        simpa [offT] using this
    | succ n =>
      have hs : (setA y (n :: p) v).map (fun a' => AV.pair x a') = some c' := hs
      cases hx : setA y (n :: p) v with
      | none => rw [hx] at hs; cases hs
      | some y' =>
        rw [hx] at hs; cases hs
        obtain ⟨k1, k2⟩ := setA_spec hm y tb (n :: p) u v y' c2 ds hf.2 ht hi h3 hv hd hx
        refine ⟨by simp [fitsA, k1, hf.1], c1, splice c2 (offT tb (n :: p)) ds, ?_, h2, k2⟩
        have hle : offT tb (n :: p) + ds.length ≤ c2.length := by
          have := path_len tb (n :: p) u ht hi
          omega
        rw [h1]
        have := splice_in (a := c1) (b := c2) (c := []) (ds := ds) (off := offT tb (n :: p)) hle
        simpa [offT, l1] using this
  | .d fr s x, t, i :: p, u, v, c', cs, ds, hf, ht, hi, h, hv, hd, hs => by
    have e := Ty.beq_iff.1 (show Ty.beq s t = true by simpa [fitsA] using hf)
    subst e
    by_cases hnd : ∃ fr' u' y, v = .d fr' u' y
    case neg =>
      have hs : setS fr s x (i :: p) v = some c' := by
        cases v <;> first | exact hs | exact absurd ⟨_, _, _, rfl⟩ hnd
      exact setS_spec fr s x (i :: p) u v c' cs ds ht hi h hv hd hs
    obtain ⟨fr', u', y, rfl⟩ := hnd
    simp only [setA] at hs
    have e := Ty.beq_iff.1 (show Ty.beq u' u = true by simpa [fitsA] using hv)
    subst e
    cases hz : setD s x (i :: p) u' y with
    | none => rw [hz] at hs; cases hs
    | some z =>
      rw [hz] at hs; cases hs
      have l3 := DR.len (show DR E.w _ u' ds y from hd)
      obtain ⟨k1, k2⟩ := setD_spec s x (i :: p) u' y z cs ds hz hi (DR.mono (ok' := E.ok (fr && fr')) (fun b => hm fr _ b (by simp; intro h _; exact h)) h) (DR.mono (fun b => hm fr' _ b (by simp)) hd)
      exact ⟨by simp [fitsA, Ty.beq_iff], by unfold splice; rw [l3]; exact k2⟩
  | .any, _, _ :: _, _, _, _, _, _, hf, _, _, _, _, _, hs => by cases hs
  | .un, _, _ :: _, _, _, _, _, _, hf, _, _, _, _, _, hs => by cases hs
  | .nilp, _, _ :: _, _, _, _, _, _, hf, _, _, _, _, _, hs => by cases hs
  | .nils, _, _ :: _, _, _, _, _, _, hf, _, _, _, _, _, hs => by cases hs
  | .own _ _, _, _ :: _, _, _, _, _, _, hf, _, _, _, _, _, hs => by cases hs
  | .view _ _ _ _ _, _, _ :: _, _, _, _, _, _, hf, _, _, _, _, _, hs => by cases hs
  | .mview _ _ _ _, _, _ :: _, _, _, _, _, _, hf, _, _, _, _, _, hs => by cases hs
  | .ptr _ _, _, _ :: _, _, _, _, _, _, hf, _, _, _, _, _, hs => by cases hs
  | .eptr _ _ _ _, _, _ :: _, _, _, _, _, _, hf, _, _, _, _, _, hs => by cases hs
  | .rptr _ _ _, _, _ :: _, _, _, _, _, _, hf, _, _, _, _, _, hs => by cases hs
  | .fn _ _, _, _ :: _, _, _, _, _, _, hf, _, _, _, _, _, hs => by cases hs
  | .tup _, _, _ :: _, _, _, _, _, _, hf, _, _, _, _, _, hs => by cases hs
section
variable {K : Konst} {S : St} {used : Id → Nat → Prop} {γ : Id → Value} {a : Act} {w : World}
inductive Alike : Obj → Obj → Prop
  | sli (ver : Nat) (fr fr' : Bool) (t : Ty) (r r' : List t.den) (h : r'.length = r.length) : Alike (.sli ver fr t r) (.sli ver fr' t r')
  | mem (fr fr' : Bool) (t : Ty) (c c' : AV) : Alike (.mem fr t c) (.mem fr' t c')
theorem Rel.setRow (h : Rel K S used γ a w) {id : Id} {o o' : Obj} (ho : lookO S.objs id = some o) (hal : Alike o o') {g : Nat} (hg : liveBlk (some o) (γ id) = some g) {cs : Array Value}
    (hor : ∀ E', EStep (envOf K S.objs used γ w) E' → E' = envOf K ((id, some o') :: S.objs) used γ (w.setRow g cs) → OR K E' id o') :
    Rel K { S with objs := (id, some o') :: S.objs } used γ a (w.setRow g cs) ∧ EStep (envOf K S.objs used γ w) (envOf K ((id, some o') :: S.objs) used γ (w.setRow g cs)) := by
  have hlook : ∀ j, lookO ((id, some o') :: S.objs) j = if id = j then some o' else lookO S.objs j := fun j => lookO_cons ..
  have hlv : ∀ j b, liveBlk (lookO ((id, some o') :: S.objs) j) (γ j) = some b → liveBlk (lookO S.objs j) (γ j) = some b := by
    intro j b hb
    rw [hlook] at hb
    by_cases e : id = j
    · subst e
      rw [if_pos rfl] at hb
      rw [ho]
      generalize γ id = q at hb ⊢
      cases hal <;> cases q <;> first | exact hb | (rename_i p _ _; cases p <;> exact hb) | (rename_i p; cases p <;> exact hb)
    · rwa [if_neg e] at hb
  have hgl : liveBlk (lookO S.objs id) (γ id) = some g := by rw [ho]; exact hg
  have hs : EStep (envOf K S.objs used γ w) (envOf K ((id, some o') :: S.objs) used γ (w.setRow g cs)) := by
    refine ⟨by simp [envOf], fun fr b hb hok => ⟨⟨fun j hj => hok.1 j (hlv j b hj), hok.2⟩, setRow_other w g b cs fun e => hok.1 id (e ▸ hgl)⟩, fun _ _ h => h, fun j v hj t n hsl => ⟨?_, rfl⟩, fun j hj t hmm => ⟨?_, rfl⟩⟩
    · have hsl : isSl (lookO ((id, some o') :: S.objs) j) v t n := hsl
      rw [hlook] at hsl
      by_cases e : id = j
      · subst e
        rw [if_pos rfl] at hsl
        obtain ⟨fr, rows, h1, h2⟩ := hsl
        show isSl (lookO S.objs id) v t n
        rw [ho]
        cases hal with
        | sli ver f f' t' r r' hl =>
          rcases h2 with h2 | h2
          · cases h2; exact ⟨f, r, by omega, .inl rfl⟩
          · cases h2
        | mem => rcases h2 with h2 | h2 <;> cases h2
      · rwa [if_neg e] at hsl
    · have hmm : isMm (lookO ((id, some o') :: S.objs) j) t := hmm
      rw [hlook] at hmm
      by_cases e : id = j
      · subst e
        rw [if_pos rfl] at hmm
        obtain ⟨fr, c, h2⟩ := hmm
        show isMm (lookO S.objs id) t
        rw [ho]
        cases hal with
        | sli => rcases h2 with h2 | h2 <;> cases h2
        | mem f f' t' c c' =>
          rcases h2 with h2 | h2
          · cases h2; exact ⟨f, c, .inl rfl⟩
          · cases h2
      · rwa [if_neg e] at hmm
  refine ⟨h.move hs (fun j oj hj => ?_) (fun j oj hj => ?_) (fun j ver fr t rows v hj hu => ?_) (fun i j b hi hj => h.sep i j b (hlv i b hi) (hlv j b hj)) (fun i b hi => h.mod i b (hlv i b hi)) (h.frame.setRow g cs (h.mod id g hgl).1), hs⟩
  · rw [hlook] at hj
    by_cases e : id = j
    · rw [if_pos e] at hj; cases hj; subst e
      exact hor _ hs rfl
    · rw [if_neg e] at hj
      refine OR.step hs rfl (fun b hb => setRow_other w g b cs fun eb => e ?_) (h.objs j oj hj)
      subst eb
      exact h.sep id j b hgl (by rw [hj]; exact hb)
  · rw [hlook] at hj
    by_cases e : id = j
    · subst e; exact h.ou id o ho
    · rw [if_neg e] at hj; exact h.ou j oj hj
  · rw [hlook] at hj
    by_cases e : id = j
    · subst e
      rw [if_pos rfl] at hj; cases hj
      cases hal with
      | sli ver f f' t' r r' hl => exact h.vers id ver f t r v ho hu
    · rw [if_neg e] at hj; exact h.vers j ver fr t rows v hj hu
theorem store_run {P : Program} {t : Ty} {T : TypeId} (hT : tyB P t T = true) {E : Env} {x : AV} {val : Value} (hf : fitsA t x = true) (hv : vrel E x val) {g o : Nat} {cur : Array Value} {e : TypeId}
    (hg : w.heap[g]? = some (.cells cur e (0, 0))) (hle : o + t.size ≤ cur.size) :
    (Instr.storeAt T (.pointer (some ⟨g, o, none⟩)) val).run P w = .ok () (w.setRow g (splice cur.toList o val.cells.toList).toArray) := by
  obtain ⟨h1, h2⟩ := fits_vrel hf hv
  have hl := fits_len hf h1
  have hone := fits_one hf h1
  have hsz : val.cells.size = t.size := by rw [← hl]; simp
  have := run_storeCells_at (P := P) g o e val.cells.toList 0 cur w hg (by simp; omega) hone
  simp only [Instr.storeAt, Instr.sureAddr, Sem.run_bind, Sem.run_pure, Result.andThen_ok, storeVar, run_sizeOf' (P := P) (T := T) w hT, hsz, ne_eq, not_true_eq_false, if_false]
  rw [this]
  simp [splice]
theorem envOk_mono (K : Konst) (objs : Ups) (used : Id → Nat → Prop) (γ : Id → Value) (w : World) : ∀ f g b, (g = true → f = true) → (envOf K objs used γ w).ok f b → (envOf K objs used γ w).ok g b :=
  fun f g b hfg ⟨h1, h2, h3⟩ => ⟨h1, h2, fun hg => h3 (hfg hg)⟩
variable {o : Oper} {v : AV} {u : Ups} {base : Id} {l l0 : List Id}
theorem storeK_out (h : Rel K S used γ a w) {t : Ty} {T : TypeId} {x y : Operand} (ho : o.op = .store T x y) (hx : constOK x = true) (hy : constOK y = true) (hT : tyB K.P t T = true)
    (hl : Leads K.C S.objs (storeK (S.eval x) (S.eval y) t) l0 (v, u) l) : Out K S used γ a w o v u base := by
  have vx := eval_rel h x hx
  have vy := eval_rel h y hy
  revert hl vx vy
  generalize S.eval x = ax
  generalize S.eval y = ay
  intro hl vx vy
  unfold storeK at hl
  split at hl
  · rename_i id path
    obtain ⟨ob, hob, hl⟩ := hl
    dsimp only at hl
    split at hl
    · rename_i fm tm c
      split at hl
      · rename_i wt c' h1 h2
        cases hb : (Ty.beq wt t && fitsA t ay) with
        | false => rw [hb] at hl; exact hl.elim
        | true =>
          rw [hb] at hl
          simp only [Bool.and_eq_true] at hb
          obtain ⟨hb1, hb2⟩ := hb
          obtain rfl := Ty.beq_iff.1 hb1
          obtain ⟨e1, rfl⟩ := hl
          cases e1
          obtain ⟨_, hp⟩ := ptr_inv vx
          obtain ⟨g, u', p1, p2, p3, p4⟩ := hp tm (isMm_of _ fm tm c (.inl hob))
          have p1 : γ id = .pointer (some ⟨g, 0, none⟩) := p1
          obtain ⟨g', e, cur, o1, o2, o3, o4, o5⟩ := h.objs id _ hob
          have o1 : γ id = _ := o1
          rw [p1] at o1; cases o1
          have hlive : liveBlk (some (.mem fm tm c)) (γ id) = some g := by rw [p1]; rfl
          obtain ⟨f1, f2⟩ := fits_vrel hb2 vy
          have hle : offT tm path + wt.size ≤ cur.size := by
            have := path_len tm path wt h1 p3
            have l2 := fits_len o3 o4
            simp only [Array.length_toList] at l2
            omega
          have hst := store_run (w := w) hT hb2 vy o2 hle
          obtain ⟨r1, r2⟩ := h.setRow (o' := .mem fm tm c') hob (.mem fm fm tm c c') hlive (cs := (splice cur.toList (offT tm path) (a.eval y).cells.toList).toArray) fun E' hE he => by
            have hmo : ∀ f g b, (g = true → f = true) → E'.ok f b → E'.ok g b := by rw [he]; exact envOk_mono K _ used γ _
            obtain ⟨s1, s2⟩ := setA_spec hmo c tm path wt ay c' cur.toList _ o3 h1 p3 (o4.step hE) hb2 (f1.step hE) h2
            refine ⟨g, e, _, by rw [he]; exact p1, by rw [he]; exact setRow_heap w g cur _ e (0, 0) o2, s1, by simpa using s2, o5⟩
          refine ⟨.skip, undef, _, used, γ, ?_, .inr ⟨rfl, rfl⟩, trivial, r1, Grow.refl _ _⟩
          simp only [execOp, ho, Sem.run_bind]
          rw [p4, hst]
          rfl
      · exact hl.elim
    · exact hl.elim
  · rename_i id ver i path
    obtain ⟨ob, hob, hl⟩ := hl
    dsimp only at hl
    split at hl
    · rename_i ver' fr ut rows
      split at hl
      · rename_i fr' u' y' hver
        split at hl
        · rename_i z hz
          cases hb : Ty.beq u' t with
          | false => rw [hb] at hl; exact hl.elim
          | true =>
            rw [hb] at hl
            obtain rfl := Ty.beq_iff.1 hb
            obtain rfl := Nat.eq_of_beq_eq_true hver
            obtain ⟨e1, rfl⟩ := hl
            cases e1
            obtain ⟨_, hp⟩ := eptr_inv vx
            obtain ⟨p0, g, m, cp', u2, p1, p2, p3, p4⟩ := hp ut _ (isSl_of _ ver' fr ut rows (.inl hob))
            have p1 : γ id = .slice (some ⟨g, 0, none⟩) m cp' := p1
            rcases h.objs id _ hob with ⟨o1, o2⟩ | ⟨g', cap, cur, e, o1, o2, o3, o4, o5, o6, o7⟩
            · subst o2; simp at p0
            have o1 : γ id = _ := o1
            rw [p1] at o1; cases o1
            have hlive : liveBlk (some (.sli ver' fr ut rows)) (γ id) = some g := by rw [p1]; rfl
            have hfit : fitsA u' (.d fr' u' y') = true := by simp [fitsA, Ty.beq_iff]
            obtain ⟨f1, f2⟩ := fits_vrel hfit vy
            have f1 : DR w (okOf K (lookO S.objs) γ fr') u' (a.eval y).cells.toList y' := f1
            have f3 := DR.len f1
            have hrow := o6.get i p0
            rw [getD_lt p0] at hz
            obtain ⟨ht, _⟩ := setD_spec ut rows[i] path u' y' z _ _ hz p3 (DR.mono (ok' := okOf K (lookO S.objs) γ false) (fun b ⟨h1, h2, _⟩ => ⟨h1, h2, fun h => by cases h⟩) hrow) (DR.mono (fun b ⟨h1, h2, _⟩ => ⟨h1, h2, fun h => by cases h⟩) f1)
            have hpl := path_len ut path u' ht p3
            have hin : i * ut.size + ut.size ≤ rows.length * ut.size := by rw [← Nat.succ_mul]; exact Nat.mul_le_mul_right _ p0
            have hcap : rows.length * ut.size ≤ cur.size := by rw [o5]; exact Nat.mul_le_mul_right _ o3
            have hst := store_run (w := w) hT hfit vy o2 (o := i * ut.size + offT ut path) (by omega)
            have hdec : cur.toList = (cur.toList.take (rows.length * ut.size)).take (i * ut.size) ++ ((cur.toList.take (rows.length * ut.size)).drop (i * ut.size)).take ut.size ++
                ((cur.toList.take (rows.length * ut.size)).drop (i * ut.size + ut.size) ++ cur.toList.drop (rows.length * ut.size)) := by
              rw [← List.append_assoc, ← List.drop_drop]
              conv => rhs; lhs; rw [List.append_assoc, List.take_append_drop, List.take_append_drop]
              rw [List.take_append_drop]
            have hsp := splice_in (a := (cur.toList.take (rows.length * ut.size)).take (i * ut.size)) (b := ((cur.toList.take (rows.length * ut.size)).drop (i * ut.size)).take ut.size)
              (c := (cur.toList.take (rows.length * ut.size)).drop (i * ut.size + ut.size) ++ cur.toList.drop (rows.length * ut.size)) (ds := (a.eval y).cells.toList) (off := offT ut path)
              (by simp only [List.length_take, List.length_drop, Array.length_toList] at *; omega)
            rw [← hdec, show ((cur.toList.take (rows.length * ut.size)).take (i * ut.size)).length = i * ut.size by simp only [List.length_take, Array.length_toList]; omega, ← List.append_assoc] at hsp
            obtain ⟨r1, r2⟩ := h.setRow (o' := .sli ver' (fr && (fr' || u'.flat)) ut (rows.set i z)) hob (.sli ver' _ _ ut _ _ (by simp)) hlive (cs := (splice cur.toList (i * ut.size + offT ut path) (a.eval y).cells.toList).toArray) fun E' hE he => by
              have hmo : ∀ f g b, (g = true → f = true) → E'.ok f b → E'.ok g b := by rw [he]; exact envOk_mono K _ used γ _
              have hf1 : (fr && (fr' || u'.flat)) = true → fr = true := by simp; intro h _; exact h
              have old : RowsR (DR E'.w (E'.ok (fr && (fr' || u'.flat))) ut) ut.size (cur.toList.take (rows.length * ut.size)) rows :=
                o6.mono fun _ _ hd => DR.mono (fun b => hmo _ _ b hf1) (DR.move (fun b hb hbo => hE.ok fr b hb hbo) hd)
              have new : DR E'.w (E'.ok (fr && (fr' || u'.flat))) u' (a.eval y).cells.toList y' := by
                cases hfl : u'.flat with
                | true => exact DR.flat hfl f1
                | false => exact DR.mono (fun b => hmo fr' _ b (by simp)) (DR.move (fun b hb hbo => hE.ok fr' b hb hbo) f1)
              obtain ⟨_, hz2⟩ := setD_spec ut rows[i] path u' y' z _ _ hz p3 (old.get i p0) new
              have hset := old.set i p0 (splice (((cur.toList.take (rows.length * ut.size)).drop (i * ut.size)).take ut.size) (offT ut path) (a.eval y).cells.toList) z
                (by rw [splice_len] <;> simp only [List.length_take, List.length_drop, Array.length_toList] at * <;> omega) (by unfold splice; rw [f3]; exact hz2)
              refine .inr ⟨g, cp', _, e, by rw [he, List.length_set]; exact p1, by rw [he]; exact setRow_heap w g cur _ e (0, 0) o2, by simpa using o3, o4, ?_, ?_, fun hf => o7 (hf1 hf)⟩
              · have := splice_len (l := cur.toList) (ds := (a.eval y).cells.toList) (o := i * ut.size + offT ut path) (by simp only [Array.length_toList] at *; omega)
                simp only [List.size_toArray, this, Array.length_toList]
                exact o5
              · rw [List.length_set, List.toList_toArray, hsp, List.take_append_of_le_length, List.take_of_length_le]
                · exact hset
                · simp only [List.length_append, List.length_take, List.length_drop, Array.length_toList, splice] at *; omega
                · simp only [List.length_append, List.length_take, List.length_drop, Array.length_toList, splice] at *; omega
            refine ⟨.skip, undef, _, used, γ, ?_, .inr ⟨rfl, rfl⟩, trivial, r1, Grow.refl _ _⟩
            simp only [execOp, ho, Sem.run_bind]
            rw [p4, hst]
            rfl
        · exact hl.elim
      · exact hl.elim
    · exact hl.elim
  · exact hl.elim
end
end Go.Pon
set_option autoImplicit false
set_option linter.unusedVariables false
namespace Go.Pon
open Go
theorem fold_list (off : Nat) : ∀ (l : List Value) (k : Nat) (cells : Array Value), off + k + l.length ≤ cells.size →
    ((l.zipIdx k).foldl (fun cs p => cs.setIfInBounds (off + p.2) p.1) cells).toList = splice cells.toList (off + k) l
  | [], k, cells, h => by simp [splice]
  | v :: l, k, cells, h => by
    simp only [List.length_cons] at h
    simp only [List.zipIdx_cons, List.foldl_cons]
    rw [fold_list off l (k + 1) _ (by simp; omega)]
    unfold splice
    have e : (cells.setIfInBounds (off + k) v).toList = cells.toList.take (off + k) ++ v :: cells.toList.drop (off + k + 1) := by
      rw [Array.toList_setIfInBounds, List.set_eq_take_append_cons_drop, if_pos (by simp; omega)]
    have hl : (cells.toList.take (off + k)).length = off + k := by simp; omega
    rw [e, List.take_append, List.drop_append, List.take_of_length_le (by omega), List.drop_eq_nil_of_le (as := cells.toList.take (off + k)) (by omega), hl,
      show off + (k + 1) - (off + k) = 1 by omega, show off + (k + 1) + l.length - (off + k) = l.length + 1 by omega]
    simp only [List.take_succ_cons, List.take_zero, List.drop_succ_cons, List.drop_drop, List.length_cons, List.nil_append, List.append_assoc, List.cons_append]
    rw [show off + k + 1 + l.length = off + k + (l.length + 1) by omega]
theorem fold_arr (off : Nat) (vs cells : Array Value) (h : off + vs.size ≤ cells.size) :
    (vs.zipIdx.foldl (fun cs (c, j) => cs.setIfInBounds (off + j) c) cells).toList = splice cells.toList off vs.toList := by
  have := fold_list off vs.toList 0 cells (by simpa using h)
  rw [Nat.add_zero] at this
  rw [← this, ← Array.foldl_toList, Array.toList_zipIdx]
def Places (t : Ty) (place : Nat → Option (Nat × Nat)) : Prop := ∀ i u, tyAt t [i] = some u → place i = some (offT t [i], u.size)
theorem inT_one : ∀ {t u : Ty} {i : Nat}, tyAt t [i] = some u → inArr t i = true → inT t [i]
  | .arr m t, _, i, _, h => ⟨by simpa [inArr] using h, (nil_path t).2.1⟩
  | .pair p q, _, 0, _, _ => (nil_path p).2.1
  | .pair p q, u, n + 1, h, hr => inT_one (t := q) (i := n) h hr
  | .unit, _, _, h, _ => by cases h
  | .int _, _, _, h, _ => by cases h
  | .bool, _, _, h, _ => by cases h
  | .str, _, _, h, _ => by cases h
  | .slice _, _, _, h, _ => by cases h
  | .ptr, _, _, h, _ => by cases h
section
variable {K : Konst} {S : St} {used : Id → Nat → Prop} {γ : Id → Value} {a : Act} {w : World}
theorem fill_spec (h : Rel K S used γ a w) {t : Ty} {place : Nat → Option (Nat × Nat)} (hp : Places t place) : ∀ (ps : List (Nat × Operand)) (acc acc' : AV) (cells : Array Value), (∀ p ∈ ps, constOK p.2 = true) →
    partsFit t (ps.map fun p => (p.1, S.eval p.2)) = true → fitsA t acc = true → ARc (envOf K S.objs used γ w) acc cells.toList →
    buildK (ps.map fun p => (p.1, S.eval p.2)) acc = some acc' →
    ∃ cells', Instr.fill place cells (ps.map fun p => (p.1, a.eval p.2)) = some cells' ∧ fitsA t acc' = true ∧ ARc (envOf K S.objs used γ w) acc' cells'.toList
  | [], acc, acc', cells, _, _, hf, hr, hb => by
    cases hb
    exact ⟨cells, rfl, hf, hr⟩
  | (i, x) :: ps, acc, acc', cells, hc, hpf, hf, hr, hb => by
    simp only [List.map_cons, partsFit, Bool.and_eq_true] at hpf
    obtain ⟨⟨h1, h2⟩, h3⟩ := hpf
    split at h1
    · rename_i u hu
      simp only [List.map_cons, buildK] at hb
      split at hb
      · rename_i acc1 ha
        have hv := eval_rel h x (hc _ (List.mem_cons_self ..))
        obtain ⟨f1, f2⟩ := fits_vrel h1 hv
        have hi := inT_one hu h2
        obtain ⟨s1, s2⟩ := setA_spec (envOk_mono K S.objs used γ w) acc t [i] u _ acc1 cells.toList _ hf hu hi hr h1 f1 ha
        have hpl := path_len t [i] u hu hi
        have l1 := fits_len hf hr
        have l2 := fits_len h1 f1
        simp only [Array.length_toList] at l1 l2
        have hfa := fold_arr (offT t [i]) (a.eval x).cells cells (by omega)
        obtain ⟨cells', g1, g2, g3⟩ := fill_spec h hp ps acc1 acc' ((a.eval x).cells.zipIdx.foldl (fun cs (c, j) => cs.setIfInBounds (offT t [i] + j) c) cells)
          (fun p hm => hc p (List.mem_cons_of_mem _ hm)) h3 s1 (by rw [hfa]; exact s2) hb
        refine ⟨cells', ?_, g2, g3⟩
        simp only [List.map_cons, Instr.fill, hp i u hu]
        rw [if_neg (by simp; omega)]
        exact g1
      · cases hb
    · cases h1
theorem splitD_spec {E : Env} (fr : Bool) : ∀ (t : Ty) (x : t.den) (cs : List Value), DR E.w (E.ok fr) t cs x → fitsA t (splitA.splitD fr t x) = true ∧ ARc E (splitA.splitD fr t x) cs
  | .pair p q, x, cs, h => by
    obtain ⟨h1, h2⟩ := h
    obtain ⟨k1, k2⟩ := splitD_spec fr q x.2 _ h2
    exact ⟨by simp [splitA.splitD, fitsA, Ty.beq_iff, k1], cs.take p.size, cs.drop p.size, (List.take_append_drop _ _).symm, h1, k2⟩
  | .unit, _, _, h => ⟨rfl, h⟩
  | .int k, _, _, h => ⟨by simp [splitA.splitD, fitsA, Ty.beq_iff], h⟩
  | .bool, _, _, h => ⟨rfl, h⟩
  | .str, _, _, h => ⟨rfl, h⟩
  | .arr _ _, _, _, h => ⟨by simp [splitA.splitD, fitsA, Ty.beq_iff], h⟩
  | .slice _, _, _, h => ⟨by simp [splitA.splitD, fitsA, Ty.beq_iff], h⟩
  | .ptr, _, _, h => ⟨rfl, h⟩
theorem splitA_spec {E : Env} : ∀ (t : Ty) (v : AV) (cs : List Value), fitsA t v = true → ARc E v cs → fitsA t (splitA v) = true ∧ ARc E (splitA v) cs
  | .pair p q, .pair v1 v2, cs, hf, ⟨c1, c2, h1, h2, h3⟩ => by
    simp only [fitsA, Bool.and_eq_true] at hf
    obtain ⟨k1, k2⟩ := splitA_spec q v2 c2 hf.2 h3
    exact ⟨by simp [splitA, fitsA, hf.1, k1], c1, c2, h1, h2, k2⟩
  | t, .d fr (.pair p q) x, cs, hf, ⟨h1, h2⟩ => by
    have e := Ty.beq_iff.1 (show Ty.beq (.pair p q) t = true by simpa [fitsA] using hf)
    subst e
    obtain ⟨k1, k2⟩ := splitD_spec (E := E) fr q x.2 _ h2
    exact ⟨by simp [splitA, fitsA, Ty.beq_iff, k1], cs.take p.size, cs.drop p.size, (List.take_append_drop _ _).symm, h1, k2⟩
  | t, .d fr .unit x, cs, hf, h => ⟨hf, h⟩
  | t, .d fr (.int _) x, cs, hf, h => ⟨hf, h⟩
  | t, .d fr .bool x, cs, hf, h => ⟨hf, h⟩
  | t, .d fr .str x, cs, hf, h => ⟨hf, h⟩
  | t, .d fr (.arr _ _) x, cs, hf, h => ⟨hf, h⟩
  | t, .d fr (.slice _) x, cs, hf, h => ⟨hf, h⟩
  | t, .d fr .ptr x, cs, hf, h => ⟨hf, h⟩
  | .unit, .pair v1 v2, cs, hf, _ => by simp [fitsA] at hf
  | .int _, .pair v1 v2, cs, hf, _ => by simp [fitsA] at hf
  | .bool, .pair v1 v2, cs, hf, _ => by simp [fitsA] at hf
  | .str, .pair v1 v2, cs, hf, _ => by simp [fitsA] at hf
  | .arr _ _, .pair v1 v2, cs, hf, _ => by simp [fitsA] at hf
  | .slice _, .pair v1 v2, cs, hf, _ => by simp [fitsA] at hf
  | .ptr, .pair v1 v2, cs, hf, _ => by simp [fitsA] at hf
  | t, .any, cs, hf, h => ⟨hf, h⟩
  | t, .un, cs, hf, h => ⟨hf, h⟩
  | t, .ub _ _, cs, hf, h => ⟨hf, h⟩
  | t, .nilp, cs, hf, h => ⟨hf, h⟩
  | t, .nils, cs, hf, h => ⟨hf, h⟩
  | t, .own _ _, cs, hf, h => ⟨hf, h⟩
  | t, .view _ _ _ _ _, cs, hf, h => ⟨hf, h⟩
  | t, .mview _ _ _ _, cs, hf, h => ⟨hf, h⟩
  | t, .ptr _ _, cs, hf, h => ⟨hf, h⟩
  | t, .eptr _ _ _ _, cs, hf, h => ⟨hf, h⟩
  | t, .rptr _ _ _, cs, hf, h => ⟨hf, h⟩
  | t, .tup _, cs, hf, h => ⟨hf, h⟩
  | t, .fn _ _, cs, hf, h => ⟨hf, h⟩
theorem mapE_eq {α β : Type} (f : α → β) : ∀ l : List α, mapE f l = l.map f
  | [] => rfl
  | a :: l => by simp [mapE, mapE_eq f l]
theorem places_struct {P : Program} : ∀ (t : Ty) (off : Nat) (fs : List Field), fieldsB P t off fs = true → t.agg = true → (∀ n u, t ≠ .arr n u) →
    ∃ places, fs.mapM (fun f => (P.info? f.type).map fun i => (f.offset, i.size)) = some places ∧ ∀ i u, tyAt t [i] = some u → places[i]? = some (off + offT t [i], u.size)
  | .unit, off, fs, h, _, _ => by
    rw [fieldsB_unit h]
    exact ⟨[], rfl, fun i u hu => by cases hu⟩
  | .pair p q, off, fs, h, _, _ => by
    obtain ⟨f, r, rfl, h1, h2, h3, _, h4⟩ := fieldsB_pair h
    obtain ⟨inf, z, i1, i2, _⟩ := rowB_spec (tyB_row h2)
    have hq : q.agg = true ∧ ∀ n u, q ≠ .arr n u := by
      cases q <;> first | (simp [fieldsB, tyC] at h4; done) | exact ⟨rfl, fun _ _ h => by cases h⟩
    obtain ⟨places, k1, k2⟩ := places_struct q (off + p.size) r h4 hq.1 hq.2
    refine ⟨(off, p.size) :: places, by simp [List.mapM_cons, i1, i2, k1, h1], fun i u hu => ?_⟩
    cases i with
    | zero =>
      have : u = p := by
        have hu : tyAt p [] = some u := hu
        rw [(nil_path p).1] at hu; exact (Option.some.inj hu).symm
      subst this
      simp [offT, (nil_path u).2.2]
    | succ n =>
      have := k2 n u hu
      simp only [List.getElem?_cons_succ, this, offT]
      rw [Nat.add_assoc]
  | .arr n t, _, _, _, _, h => absurd rfl (h n t)
variable {o : Oper} {base : Id}
theorem build_out (h : Rel K S used γ a w) {T : TypeId} {ps : Array (Nat × Operand)} {t : Ty} {acc : AV} (ho : o.op = .build T ps) (hc : ∀ p ∈ ps.toList, constOK p.2 = true) (hT : tyB K.P t T = true)
    (hb : buildA t (mapE (fun p => (p.1, S.eval p.2)) ps.toList) = some acc) : Out K S used γ a w o acc [] base := by
  rw [mapE_eq] at hb
  unfold buildA at hb
  cases hag : t.agg with
  | false => rw [hag] at hb; cases hb
  | true =>
  rw [hag, Bool.true_and] at hb
  cases hpf : partsFit t (ps.toList.map fun p => (p.1, S.eval p.2)) with
  | false => rw [hpf] at hb; cases hb
  | true =>
    rw [hpf] at hb
    obtain ⟨inf, z, i1, i2, _, i3, i4, i5⟩ := rowB_spec (tyB_row hT)
    have hst : ∃ acc0, fitsA t acc0 = true ∧ ARc (envOf K S.objs used γ w) acc0 z.cells.toList ∧ buildK (ps.toList.map fun p => (p.1, S.eval p.2)) acc0 = some acc := by
      rw [i4]
      have hb : (bif t.bare && allE (fun p => isD p.2) (ps.toList.map fun p => (p.1, S.eval p.2)) then buildK (ps.toList.map fun p => (p.1, S.eval p.2)) (.d true t t.zero) else buildK (ps.toList.map fun p => (p.1, S.eval p.2)) (splitA (zeroA t))) = some acc := hb
      cases hq : (t.bare && allE (fun p => isD p.2) (ps.toList.map fun p => (p.1, S.eval p.2))) with
      | true => rw [hq] at hb; exact ⟨.d true t t.zero, by simp [fitsA, Ty.beq_iff], DR.zero t, hb⟩
      | false =>
        rw [hq] at hb
        obtain ⟨f1, f2⟩ := zeroA_spec (envOf K S.objs used γ w) t
        obtain ⟨g1, g2⟩ := splitA_spec t _ _ f1 f2
        exact ⟨_, g1, g2, hb⟩
    obtain ⟨acc0, f1, f2, hb2⟩ := hst
    have hrun : ∀ cells, K.P.built T (ps.map fun (i, x) => (i, a.eval x)).toList = some cells → fitsA t acc = true → t.agg = true → ARc (envOf K S.objs used γ w) acc cells.toList → Out K S used γ a w o acc [] base := by
      intro cells hcl hf hag hr
      refine Out.pure h (val := .agg cells) ?_ (vrel_fits hf (by simpa [Value.cells] using hr) (by rw [hag]; rfl))
      simp only [execOp, ho, Sem.run_bind, run_build w T _ cells hcl, Result.andThen_ok, Sem.run_pure]
    have hl : (ps.map fun (i, x) => (i, a.eval x)).toList = ps.toList.map fun p => (p.1, a.eval p.2) := by simp
    cases t with
    | arr n t =>
      obtain ⟨e, u1, u2⟩ := tyB_arr hT
      obtain ⟨ie, ze, j1, j2, _⟩ := rowB_spec (tyB_row u2)
      obtain ⟨cells, g1, g2, g3⟩ := fill_spec h (t := .arr n t) (place := fun i => some (i * ie.size, ie.size)) (fun i u hu => by
        have hu : tyAt t [] = some u := hu
        rw [(nil_path t).1] at hu; cases hu
        simp [offT, (nil_path t).2.2, j2]) ps.toList acc0 acc z.cells hc hpf f1 f2 hb2
      exact hrun cells (by rw [hl]; simp only [Program.built, i1, u1, i3, j1]; exact g1) g2 rfl g3
    | unit =>
      obtain ⟨fs, u1, u2, _⟩ := tyB_unit hT
      obtain ⟨places, p1, p2⟩ := places_struct .unit 0 fs.toList u2 rfl (fun _ _ h => by cases h)
      obtain ⟨cells, g1, g2, g3⟩ := fill_spec h (t := .unit) (place := (places.toArray[·]?)) (fun i u hu => by simpa using p2 i u hu) ps.toList acc0 acc z.cells hc hpf f1 f2 hb2
      exact hrun cells (by rw [hl]; simp only [Program.built, i1, u1, i3, p1]; exact g1) g2 rfl g3
    | pair p q =>
      obtain ⟨fs, u1, u2, _⟩ := tyB_pair hT
      obtain ⟨places, p1, p2⟩ := places_struct (.pair p q) 0 fs.toList u2 rfl (fun _ _ h => by cases h)
      obtain ⟨cells, g1, g2, g3⟩ := fill_spec h (t := .pair p q) (place := (places.toArray[·]?)) (fun i u hu => by simpa using p2 i u hu) ps.toList acc0 acc z.cells hc hpf f1 f2 hb2
      exact hrun cells (by rw [hl]; simp only [Program.built, i1, u1, i3, p1]; exact g1) g2 rfl g3
    | _ => cases hag
end
end Go.Pon
set_option autoImplicit false
set_option linter.unusedVariables false
namespace Go.Pon
open Go
theorem append_room {P : Program} (w : World) (t ty e e' : TypeId) (i : TypeInfo) (ht : P.underlying t = some (.slice e)) (hi : P.info? e = some i)
    (g sLen sCap : Nat) (cur : Array Value) (hg : w.heap[g]? = some (.cells cur e' (0, 0)))
    (a : Addr) (m c : Nat) (news : List Value) (hl : news.length = m * i.size) (hnews : ∀ j u, news[j]? = some u → w.cell? (a.add j) = some u) (h1 : ∀ u ∈ news, u.oneCell' = true)
    (hroom : sLen + m ≤ sCap) (hfit : sLen * i.size + news.length ≤ cur.size) :
    (Builtin.append_ #[t, t] ty #[.slice (some ⟨g, 0, none⟩) sLen sCap, .slice (some a) m c]).run P w =
      .ok (.slice (some ⟨g, 0, none⟩) (sLen + m) sCap) (w.setRow g (splice cur.toList (sLen * i.size) news).toArray) := by
  have hf := run_firstCells_some (P := P) w i.size m a m c news hl hnews
  have hst := run_storeCells_at P g (sLen * i.size) e' news 0 cur w hg (by simpa using hfit) h1
  simp only [Nat.add_zero] at hst
  simp [Builtin.append_, run_underlying ht, sizeOf, typeInfo, hi, Builtin.lenOf, hroom, hf, Addr.add_lit, hst, splice]
inductive Grown (w : World) (size : Nat) (e : TypeId) (s : Value) (n m : Nat) (olds news : List Value) : Value → World → Prop
  | none (h : s = .slice none 0 0) (hn : n = 0) (hm : m = 0) : Grown w size e s n m olds news (.slice none 0 0) w
  | room (g cap : Nat) (cur : Array Value) (e' : TypeId) (hg : w.heap[g]? = some (.cells cur e' (0, 0))) (hs : s = .slice (some ⟨g, 0, none⟩) n cap) (hr : n + m ≤ cap) (hf : n * size + news.length ≤ cur.size) :
      Grown w size e s n m olds news (.slice (some ⟨g, 0, none⟩) (n + m) cap) (w.setRow g (splice cur.toList (n * size) news).toArray)
  | fresh (cap : Nat) (cells : Array Value) (h1 : n + m ≤ cap) (h2 : cap ≤ maxLen) (h3 : cells.size = cap * size) (h4 : cells.toList.take ((n + m) * size) = olds ++ news) :
      Grown w size e s n m olds news (.slice (some ⟨w.heap.size, 0, none⟩) (n + m) cap) (w.drew.alloc (.cells cells e))
theorem append_run {P : Program} (w : World) (t ty e e' : TypeId) (i : TypeInfo) (z : Value) (ht : P.underlying t = some (.slice e)) (hi : P.info? e = some i) (hz : i.zero = some z) (hzs : z.cells.size = i.size)
    (s : Value) (n : Nat) (olds : List Value) (hs : (s = .slice none 0 0 ∧ n = 0 ∧ olds = []) ∨ ∃ g cap cur, s = .slice (some ⟨g, 0, none⟩) n cap ∧ w.heap[g]? = some (.cells cur e' (0, 0)) ∧ n ≤ cap ∧ cap ≤ maxLen ∧ cur.size = cap * i.size ∧
      cur.toList.take (n * i.size) = olds)
    (x : Option Addr) (m c : Nat) (news : List Value) (hl : news.length = m * i.size) (hx : x = none → m = 0) (hnews : ∀ a, x = some a → ∀ j u, news[j]? = some u → w.cell? (a.add j) = some u) (h1 : ∀ u ∈ news, u.oneCell' = true)
    (h63 : n + m ≤ maxLen) (hbytes : (n + m) * i.bytes ≤ 140737488355328) :
    ∃ v' w', (Builtin.append_ #[t, t] ty #[s, .slice x m c]).run P w = .ok v' w' ∧ Grown w i.size e s n m olds news v' w' := by
  have hsmall : n + m ≤ 9223372036854775807 := by simp only [maxLen] at h63; omega
  have grown : ∀ (old : Nat), old < n + m → olds.length = n * i.size →
      Grown w i.size e s n m olds news (.slice (some ⟨w.heap.size, 0, none⟩) (n + m) (grownCap w (n + m) old e)) (w.drew.alloc (.cells (olds.toArray ++ news.toArray ++ Builtin.zeroCells z.cells (grownCap w (n + m) old e - (n + m))) e)) := by
    intro old ho hol
    have hge := grownCap_ge w (n + m) old e
    have hlen : (olds ++ news).length = (n + m) * i.size := by rw [List.length_append, hol, hl, Nat.add_mul]
    refine .fresh _ _ hge (grownCap_le_maxLen w (n + m) old e h63) ?_ ?_
    · simp only [Array.size_append, List.size_toArray, size_zeroCells, hzs, hol, hl, ← Nat.add_mul]
      congr 1
      omega
    · simp only [Array.toList_append, List.append_assoc]
      rw [← List.append_assoc, ← hlen]
      exact List.take_left
  cases x with
  | none =>
    have hm := hx rfl
    subst hm
    have hn : news = [] := List.eq_nil_of_length_eq_zero (by simpa using hl)
    subst hn
    rcases hs with ⟨rfl, rfl, rfl⟩ | ⟨g, cap, cur, rfl, hg, hnc, hcm, hcs, htake⟩
    · refine ⟨_, _, ?_, .none rfl rfl rfl⟩
      simp [Builtin.append_, run_underlying ht, sizeOf, typeInfo, hi, Builtin.lenOf, Builtin.firstCells]
    · have hfit : n * i.size ≤ cur.size := by rw [hcs]; exact Nat.mul_le_mul_right _ hnc
      refine ⟨_, _, ?_, .room g cap cur e' hg rfl (by simpa using hnc) (by simpa using hfit)⟩
      have hst := run_storeCells_at P g (n * i.size) e' [] 0 cur w hg (by simpa using hfit) (by simp)
      simp only [Nat.add_zero] at hst
      simp [Builtin.append_, run_underlying ht, sizeOf, typeInfo, hi, Builtin.lenOf, hnc, run_firstCells_none, Addr.add_lit, hst, splice]
  | some a =>
    have hnews := hnews a rfl
    rcases hs with ⟨rfl, rfl, rfl⟩ | ⟨g, cap, cur, rfl, hg, hnc, hcm, hcs, htake⟩
    · by_cases hm : m = 0
      · subst hm
        have hn : news = [] := List.eq_nil_of_length_eq_zero (by simpa using hl)
        subst hn
        refine ⟨_, _, ?_, .none rfl rfl rfl⟩
        simp [Builtin.append_, run_underlying ht, sizeOf, typeInfo, hi, Builtin.lenOf, Builtin.firstCells, loadCells, loadCellsFrom]
      · have hr := run_append_nil (P := P) w t ty e i z ht hi hz a m c news hl hnews (by omega) (by omega) (by have hb := hbytes; simp only [Nat.zero_add] at hb; omega)
        have hgr := grown 0 (by omega) (by simp)
        simp only [Nat.zero_add, Array.empty_append] at hgr
        exact ⟨_, _, hr, by simpa using hgr⟩
    · by_cases hroom : n + m ≤ cap
      · have hfit : n * i.size + news.length ≤ cur.size := by rw [hl, hcs, ← Nat.add_mul]; exact Nat.mul_le_mul_right _ hroom
        exact ⟨_, _, append_room w t ty e e' i ht hi g n cap cur hg a m c news hl hnews h1 hroom hfit, .room g cap cur e' hg rfl hroom hfit⟩
      · have hol : olds.length = n * i.size := by
          rw [← htake, List.length_take, Array.length_toList, hcs]
          exact Nat.min_eq_left (Nat.mul_le_mul_right _ hnc)
        have holds : ∀ j u, olds[j]? = some u → w.cell? ((⟨g, 0, none⟩ : Addr).add j) = some u := fun j u hj => by
          have := cells_at hg 0 (n * i.size) j u (by rw [List.drop_zero, htake]; exact hj)
          exact this
        have hr := run_append_grow (P := P) w t ty e i z ht hi hz ⟨g, 0, none⟩ n cap olds hol holds a m c news hl hnews (by omega) (by omega) (growslice_fits (by omega) hbytes)
        exact ⟨_, _, hr, grown cap (by omega) hol⟩
theorem append_capped {P : Program} (w : World) (t ty e : TypeId) (i : TypeInfo) (z : Value) (ht : P.underlying t = some (.slice e)) (hi : P.info? e = some i) (hz : i.zero = some z) (hzs : z.cells.size = i.size)
    (ad : Option Addr) (n : Nat) (olds : List Value) (hol : olds.length = n * i.size) (hn : ad = none → n = 0) (holds : ∀ a, ad = some a → ∀ j u, olds[j]? = some u → w.cell? (a.add j) = some u)
    (x : Option Addr) (m c : Nat) (news : List Value) (hl : news.length = m * i.size) (hx : x = none → m = 0) (hnews : ∀ a, x = some a → ∀ j u, news[j]? = some u → w.cell? (a.add j) = some u)
    (h63 : n + m ≤ maxLen) (hbytes : (n + m) * i.bytes ≤ 140737488355328) :
    ∃ v' w', (Builtin.append_ #[t, t] ty #[.slice ad n n, .slice x m c]).run P w = .ok v' w' ∧ ((m = 0 ∧ v' = .slice ad n n ∧ w' = w) ∨
      (0 < m ∧ ∃ cap cells, n + m ≤ cap ∧ cap ≤ maxLen ∧ cells.size = cap * i.size ∧ cells.toList.take ((n + m) * i.size) = olds ++ news ∧ v' = .slice (some ⟨w.heap.size, 0, none⟩) (n + m) cap ∧ w' = w.drew.alloc (.cells cells e))) := by
  have hsmall : n + m ≤ 9223372036854775807 := by simp only [maxLen] at h63; omega
  have grown : ∀ (old : Nat), old < n + m → 0 < m →
      (0 < m ∧ ∃ cap cells, n + m ≤ cap ∧ cap ≤ maxLen ∧ cells.size = cap * i.size ∧ cells.toList.take ((n + m) * i.size) = olds ++ news ∧
        Value.slice (some ⟨w.heap.size, 0, none⟩) (n + m) (grownCap w (n + m) old e) = .slice (some ⟨w.heap.size, 0, none⟩) (n + m) cap ∧
        w.drew.alloc (.cells (olds.toArray ++ news.toArray ++ Builtin.zeroCells z.cells (grownCap w (n + m) old e - (n + m))) e) = w.drew.alloc (.cells cells e)) := by
    intro old ho hm
    have hge := grownCap_ge w (n + m) old e
    have hlen : (olds ++ news).length = (n + m) * i.size := by rw [List.length_append, hol, hl, Nat.add_mul]
    refine ⟨hm, _, _, hge, grownCap_le_maxLen w (n + m) old e h63, ?_, ?_, rfl, rfl⟩
    · simp only [Array.size_append, List.size_toArray, size_zeroCells, hzs, hol, hl, ← Nat.add_mul]
      congr 1
      omega
    · simp only [Array.toList_append, List.append_assoc]
      rw [← List.append_assoc, ← hlen]
      exact List.take_left
  by_cases hm : m = 0
  · subst hm
    refine ⟨_, w, ?_, .inl ⟨rfl, rfl, rfl⟩⟩
    cases ad <;> cases x <;> simp [Builtin.append_, run_underlying ht, sizeOf, typeInfo, hi, Builtin.lenOf, Builtin.firstCells, loadCells, loadCellsFrom, storeCells]
  · cases x with
    | none => exact absurd (hx rfl) hm
    | some a =>
      have hnews := hnews a rfl
      cases ad with
      | none =>
        have hn := hn rfl
        subst hn
        have : olds = [] := List.eq_nil_of_length_eq_zero (by simpa using hol)
        subst this
        have hr := run_append_nil (P := P) w t ty e i z ht hi hz a m c news hl hnews (by omega) (by omega) (by have hb := hbytes; simp only [Nat.zero_add] at hb; omega)
        have hgr := grown 0 (by omega) (by omega)
        simp only [Nat.zero_add, List.nil_append] at hgr ⊢
        exact ⟨_, _, hr, .inr (by simpa using hgr)⟩
      | some b =>
        have hr := run_append_grow (P := P) w t ty e i z ht hi hz b n n olds hol (holds b rfl) a m c news hl hnews (by omega) (by omega) (growslice_fits (by omega) hbytes)
        exact ⟨_, _, hr, .inr (grown n (by omega) (by omega))⟩
end Go.Pon
set_option autoImplicit false
set_option linter.unusedVariables false
namespace Go.Pon
open Go
section
variable {K : Konst} {S : St} {used : Id → Nat → Prop} {γ : Id → Value} {a : Act} {w : World}
theorem Rel.renew (h : Rel K S used γ a w) (hB : ∀ b, K.B b → b < K.base) {id : Id} {ver : Nat} {fr fr' : Bool} {t : Ty} {rows rows' : List t.den} (ho : lookO S.objs id = some (.sli ver fr t rows)) {hv : Value} {w' : World}
    (hsize : w.heap.size ≤ w'.heap.size) (hkeep : ∀ b, b < w.heap.size → liveBlk (some (.sli ver fr t rows)) (γ id) ≠ some b → w'.heap[b]? = w.heap[b]?)
    (hos : w'.os = w.os ∧ w'.tape = w.tape ∧ w'.output = w.output)
    (hlive : ∀ g, liveBlk (some (.sli (ver + 1) fr' t rows')) hv = some g → liveBlk (some (.sli ver fr t rows)) (γ id) = some g ∨ g = w.heap.size)
    (hor : ∀ E', EStep (envOf K S.objs used γ w) E' → E' = envOf K ((id, some (.sli (ver + 1) fr' t rows')) :: S.objs) (useV used id (ver + 1)) (upd γ id hv) w' → OR K E' id (.sli (ver + 1) fr' t rows')) :
    Rel K { S with objs := (id, some (.sli (ver + 1) fr' t rows')) :: S.objs } (useV used id (ver + 1)) (upd γ id hv) a w' := by
  have hbase : K.base ≤ w.heap.size := h.frame.size
  have hlook : ∀ j, lookO ((id, some (Obj.sli (ver + 1) fr' t rows')) :: S.objs) j = if id = j then some (.sli (ver + 1) fr' t rows') else lookO S.objs j := fun j => lookO_cons ..
  have hlv : ∀ j g, liveBlk (lookO ((id, some (Obj.sli (ver + 1) fr' t rows')) :: S.objs) j) (upd γ id hv j) = some g →
      liveBlk (lookO S.objs j) (γ j) = some g ∨ (j = id ∧ g = w.heap.size) := by
    intro j g hg
    rw [hlook] at hg
    unfold upd at hg
    by_cases e : id = j
    · rw [if_pos e, if_pos e] at hg
      subst e
      rcases hlive g hg with h1 | h1
      · exact .inl (by rw [ho]; exact h1)
      · exact .inr ⟨rfl, h1⟩
    · rw [if_neg e, if_neg e] at hg
      exact .inl hg
  have hs : EStep (envOf K S.objs used γ w) (envOf K ((id, some (.sli (ver + 1) fr' t rows')) :: S.objs) (useV used id (ver + 1)) (upd γ id hv) w') := by
    refine ⟨hsize, fun f b hb hok => ⟨⟨fun j hj => ?_, hok.2⟩, hkeep b hb fun e => hok.1 id (by rw [ho]; exact e)⟩, fun j v hj => .inl hj, fun j v hj t' n hsl => ?_, fun j hj t' hmm => ?_⟩
    · rcases hlv j b hj with e | ⟨_, e⟩
      · exact hok.1 j e
      · have : b < w.heap.size := hb
        omega
    · have hsl : isSl (lookO ((id, some (Obj.sli (ver + 1) fr' t rows')) :: S.objs) j) v t' n := hsl
      rw [hlook] at hsl
      by_cases e : id = j
      · subst e
        rw [if_pos rfl] at hsl
        obtain ⟨_, _, _, h2⟩ := hsl
        have hle := h.vers id ver fr t rows v ho hj
        rcases h2 with h2 | h2
        · cases h2; omega
        · cases h2
      · rw [if_neg e] at hsl
        exact ⟨hsl, if_neg e⟩
    · have hmm : isMm (lookO ((id, some (Obj.sli (ver + 1) fr' t rows')) :: S.objs) j) t' := hmm
      rw [hlook] at hmm
      by_cases e : id = j
      · rw [if_pos e] at hmm
        obtain ⟨_, _, h2⟩ := hmm
        rcases h2 with h2 | h2 <;> cases h2
      · rw [if_neg e] at hmm
        exact ⟨hmm, if_neg e⟩
  refine h.move hs (fun j oj hj => ?_) (fun j oj hj => ?_) (fun j ver' f' t' rows2 v hj hu => ?_) (fun i j g hi hj => ?_) (fun i g hi => ?_) ?_
  · rw [hlook] at hj
    by_cases e : id = j
    · rw [if_pos e] at hj; cases hj; subst e
      exact hor _ hs rfl
    · rw [if_neg e] at hj
      refine OR.step hs (if_neg e) (fun g hg => hkeep g (live_lt h (i := j) (by rw [hj]; exact hg)) fun eg => e ?_) (h.objs j oj hj)
      exact h.sep id j g (by rw [ho]; exact eg) (by rw [hj]; exact hg)
  · rw [hlook] at hj
    by_cases e : id = j
    · exact ⟨ver + 1, .inr ⟨e.symm, rfl⟩⟩
    · rw [if_neg e] at hj
      exact (h.ou j oj hj).imp fun v hv => .inl hv
  · rw [hlook] at hj
    by_cases e : id = j
    · rw [if_pos e] at hj; cases hj
      subst e
      rcases hu with hu | ⟨_, hu⟩
      · have := h.vers id ver fr t rows v ho hu; omega
      · omega
    · rw [if_neg e] at hj
      rcases hu with hu | ⟨e', _⟩
      · exact h.vers j ver' f' t' rows2 v hj hu
      · exact absurd e'.symm e
  · rcases hlv i g hi with e1 | ⟨e1, e2⟩ <;> rcases hlv j g hj with f1 | ⟨f1, f2⟩
    · exact h.sep i j g e1 f1
    · have := live_lt h e1; omega
    · have := live_lt h f1; omega
    · rw [e1, f1]
  · rcases hlv i g hi with e1 | ⟨e1, e2⟩
    · exact h.mod i g e1
    · exact ⟨.inl (by omega), fun hb => by have := hB g hb; omega⟩
  · refine ⟨hos.1.trans h.frame.os, hos.2.1.trans h.frame.tape, hos.2.2.trans h.frame.output, Nat.le_trans h.frame.size hsize, fun b hb hbo => ?_⟩
    rw [hkeep b (Nat.lt_of_lt_of_le hb hbase) fun e => ?_]
    · exact h.frame.block b hb hbo
    · rcases (h.mod id b (by rw [ho]; exact e)).1 with h1 | h1
      · have : K.base = K.w0.heap.size := rfl
        omega
      · exact hbo h1
end
end Go.Pon
set_option autoImplicit false
set_option linter.unusedVariables false
namespace Go.Pon
open Go
section
variable {K : Konst} {S : St} {used : Id → Nat → Prop} {γ : Id → Value} {a : Act} {w : World} {o : Oper} {base : Id} {v : AV} {u : Ups} {l : List Id}
theorem grown_own {E : Env} {fr : Bool} {t : Ty} {e : TypeId} {s v' : Value} {olds news : List Value} {xs ys : List t.den} {w w' : World} {b0 : Nat} {e' : TypeId}
    (hg : Grown w t.size e s (List.length xs) (List.length ys) olds news v' w') (hE : E.w = w')
    (hs : (s = .slice none 0 0 ∧ List.length xs = 0 ∧ olds = []) ∨ ∃ g cap cur, s = .slice (some ⟨g, 0, none⟩) (List.length xs) cap ∧ w.heap[g]? = some (.cells cur e' (0, 0)) ∧ List.length xs ≤ cap ∧ cap ≤ maxLen ∧ cur.size = cap * t.size ∧
      cur.toList.take (List.length xs * t.size) = olds ∧ (fr = true → b0 ≤ g))
    (hx : RowsR (DR E.w (E.ok fr) t) t.size olds xs) (hy : RowsR (DR E.w (E.ok fr) t) t.size news ys) (hb : b0 ≤ w.heap.size) : OwnC E fr t (xs ++ ys) b0 v' := by
  have hxy := hx.append hy
  have lx := hx.length
  have ly := hy.length
  cases hg with
  | none h hn hm => exact .inl ⟨rfl, by rw [List.eq_nil_of_length_eq_zero hn, List.eq_nil_of_length_eq_zero hm]; rfl⟩
  | room g cap cur e2 hgc hs' hr hf =>
    rcases hs with ⟨h1, _⟩ | ⟨g2, cap2, cur2, h1, h2, h3, h4, h5, h6, h7⟩
    · rw [hs'] at h1; cases h1
    · rw [hs'] at h1; cases h1
      rw [hgc] at h2; cases h2
      refine .inr ⟨g, cap, _, _, by rw [List.length_append], by rw [hE]; exact setRow_heap w g cur _ _ (0, 0) hgc, by rw [List.length_append]; exact hr, h4, ?_, ?_, h7⟩
      · have := splice_len (l := cur.toList) (ds := news) (o := List.length xs * t.size) (by simpa using hf)
        simp only [List.size_toArray, this, Array.length_toList]
        exact h5
      · rw [List.length_append, List.toList_toArray]
        have e4 : (splice cur.toList (List.length xs * t.size) news).take ((List.length xs + List.length ys) * t.size) = olds ++ news := by
          unfold splice
          rw [h6, List.take_append_of_le_length (by simp only [List.length_append]; rw [lx, ly, Nat.add_mul]; exact Nat.le_refl _), List.take_of_length_le (by simp only [List.length_append]; rw [lx, ly, Nat.add_mul]; exact Nat.le_refl _)]
        rw [e4]
        exact hxy
  | fresh cap cells h1 h2 h3 h4 =>
    refine .inr ⟨w.heap.size, cap, cells, e, by rw [List.length_append], by rw [hE]; exact heap_alloc_new w.drew _, by rw [List.length_append]; exact h1, h2, h3, ?_, fun _ => hb⟩
    rw [List.length_append, h4]
    exact hxy
end
end Go.Pon
set_option autoImplicit false
set_option linter.unusedVariables false
namespace Go.Pon
open Go
section
variable {K : Konst} {S : St} {used : Id → Nat → Prop} {γ : Id → Value} {a : Act} {w : World} {o : Oper} {base : Id} {v : AV} {u : Ups} {l : List Id}
theorem oneB_rel {E : Env} {v : AV} {val : Value} (h : oneB v = true) (hv : vrel E v val) : ARc E v [val] := by
  have hs : solid v = true := by cases v <;> simp_all [oneB, solid]
  have ha : aggA v = false := by cases v <;> simp_all [oneB, aggA]
  obtain ⟨h1, h2⟩ := vrel_solid hs hv
  rw [ha] at h2
  rwa [cells_one h2.symm] at h1
theorem chain_rel (h : Rel K S used γ a w) : ∀ xs : List Operand, (∀ x ∈ xs, constOK x = true) → allE oneB (mapE S.eval xs) = true → ARc (envOf K S.objs used γ w) (chainA (mapE S.eval xs)) (xs.map a.eval)
  | [], _, _ => rfl
  | x :: xs, hc, ho => by
    simp only [mapE, allE, Bool.and_eq_true] at ho
    exact ⟨[a.eval x], xs.map a.eval, rfl, oneB_rel ho.1 (eval_rel h x (hc x (List.mem_cons_self ..))), chain_rel h xs (fun y hy => hc y (List.mem_cons_of_mem _ hy)) ho.2⟩
theorem makeFunc_out (h : Rel K S used γ a w) {f : FuncId} {caps : Array Operand} (ho : o.op = .makeFunc (.func f) #[] caps) (hc : ∀ x ∈ caps.toList, constOK x = true) (h1 : allE oneB (mapE S.eval caps.toList) = true) :
    Out K S used γ a w o (.fn f (chainA (mapE S.eval caps.toList))) [] base := by
  refine Out.pure h (val := .func (.func f) #[] (caps.map a.eval)) (by simp [execOp, ho, Instr.makeFunc]) (vrel1_of (a := .fn f _) ⟨caps.map a.eval, rfl, ?_⟩ rfl rfl)
  rw [Array.toList_map]
  exact chain_rel h caps.toList hc h1
end
end Go.Pon
set_option autoImplicit false
set_option linter.unusedVariables false
namespace Go.Pon
open Go
def SlR (w : World) (ok : Nat → Prop) (t : Ty) (cs : List Value) (x : List t.den) : Prop :=
  ∃ ad cap rows, cs = [.slice ad (List.length x) cap] ∧ List.length x ≤ cap ∧ cap ≤ maxLen ∧ (ad = none → cap = 0) ∧ RowsR (DR w ok t) t.size rows x ∧
    ∀ a, ad = some a → ∀ j v, rows[j]? = some v → w.cell? (a.add j) = some v
theorem SlR.of {w : World} {ok : Nat → Prop} {t : Ty} {cs : List Value} {x : List t.den} (h : DR w ok (.slice t) cs x) : SlR w ok t cs x := by
  obtain ⟨ad, cap, e1, e2, e3, e4, rows, e5, e6⟩ := h
  refine ⟨ad, cap, rows, e1, e2, e3, e4, e5, fun a ha j v hj => ?_⟩
  have hne : rows ≠ [] := by rintro rfl; simp at hj
  obtain ⟨a', k1, _, k3⟩ := e6 hne
  rw [ha] at k1; cases k1
  exact k3 j v hj
theorem SlR.empty {w : World} {ok : Nat → Prop} {t : Ty} {c n : Nat} {ad : Option Addr} {x : List t.den} (hx : x = []) (hn : n = 0) (hc : c ≤ maxLen) (h0 : ad = none → c = 0) : SlR w ok t [.slice ad n c] x := by
  subst hx hn
  exact ⟨ad, c, [], rfl, Nat.zero_le _, hc, h0, rfl, fun a _ j v hj => by simp at hj⟩
theorem SlR.cut {w : World} {ok : Nat → Prop} {t : Ty} {g o lo hi c : Nat} {cs : List Value} {rows : List t.den} (hr : RowsR (DR w ok t) t.size cs rows)
    (hc : ∀ j y, cs[j]? = some y → w.cell? ⟨g, o + j, none⟩ = some y) (h2 : hi ≤ List.length rows) (h3 : hi - lo ≤ c) (h4 : c ≤ maxLen) {ad : Option Addr} (h0 : ad = none → c = 0)
    (had : lo < hi → ad = some ⟨g, o + lo * t.size, none⟩) : SlR w ok t [.slice ad (hi - lo) c] ((List.drop lo rows).take (hi - lo)) := by
  rcases Nat.lt_or_ge lo hi with hlt | hge
  · have hl : ((List.drop lo rows).take (hi - lo)).length = hi - lo := by simp; omega
    refine ⟨ad, c, _, by rw [hl], by rw [hl]; exact h3, h4, h0, (hr.drop lo).take (hi - lo), fun a ha j v hj => ?_⟩
    rw [had hlt] at ha; cases ha
    rw [add_zero_off, Nat.add_assoc]
    refine hc _ _ ?_
    rw [List.getElem?_take] at hj
    split at hj
    · rwa [List.getElem?_drop] at hj
    · cases hj
  · exact SlR.empty (by rw [show hi - lo = 0 by omega, List.take_zero]) (by omega) h4 h0
section
variable {K : Konst} {S : St} {used : Id → Nat → Prop} {γ : Id → Value} {a : Act} {w : World} {o : Oper} {base : Id} {v : AV} {u : Ups} {l : List Id}
theorem sl_SlR (h : Rel K S used γ a w) {id : Id} {ver : Nat} {fr : Bool} {t : Ty} {rows : List t.den}
    (ho : lookO S.objs id = some (.sli ver fr t rows) ∨ lookO S.objs id = some (.frz ver fr t rows)) {lo hi : Nat} {v0 : Value} {cc : Nat} {ad : Option Addr}
    (v2 : hi ≤ rows.length) (v3 : v0 = .slice ad (hi - lo) cc) (v4 : hi - lo ≤ cc) (v5 : cc ≤ maxLen) (v6 : ad = none → cc = 0)
    (v7 : lo < hi → ∃ g m cp, γ id = .slice (some ⟨g, 0, none⟩) m cp ∧ ad = some ⟨g, lo * t.size, none⟩) :
    SlR w (okOf K (lookO S.objs) γ fr) t [v0] ((List.drop lo rows).take (hi - lo)) := by
  subst v3
  rcases Nat.lt_or_ge lo hi with hlt | hge
  · obtain ⟨g, cp, cs, h1, _, _, h4, h5⟩ := sl_cells h ho (by rintro rfl; simp at v2; omega)
    obtain ⟨g', m, cp', k1, k2⟩ := v7 hlt
    rw [h1] at k1; cases k1
    exact SlR.cut (g := g) (o := 0) h4 (fun j y hj => by rw [Nat.zero_add]; exact h5 j y hj) v2 v4 v5 v6 (fun _ => by rw [Nat.zero_add]; exact k2)
  · exact SlR.empty (by rw [show hi - lo = 0 by omega, List.take_zero]) (by omega) v5 v6
theorem own_SlR (h : Rel K S used γ a w) {id : Id} {ver : Nat} {fr : Bool} {t : Ty} {rows : List t.den}
    (ho : lookO S.objs id = some (.sli ver fr t rows) ∨ lookO S.objs id = some (.frz ver fr t rows)) : SlR w (okOf K (lookO S.objs) γ fr) t [γ id] rows := by
  obtain ⟨ad, cap, k1, k2, k3, k4⟩ := sl_header h ho
  have := sl_SlR (lo := 0) (hi := rows.length) (ad := ad) (cc := cap) (v0 := γ id) h ho (Nat.le_refl _) k1 k2 k3 k4 (fun hlt => by
    obtain ⟨g, cp, cs, h1, _⟩ := sl_cells h ho (by rintro rfl; simp at hlt)
    have h1' := h1
    rw [k1] at h1; cases h1
    exact ⟨g, _, _, h1', by rw [Nat.zero_mul]⟩)
  simpa using this
theorem rowsK_solid {α : Type} {C : CallD} {objs : Ups} {v : AV} {t : Ty} {c : Cl} {frz : Bool} {k : Bool → List t.den → Cl → OpT α} {l0 l : List Id} {r : α} (hl : Leads C objs (rowsK v t c frz k) l0 r l) : solid v = true := by
  cases v <;> first | rfl | exact hl.elim
theorem rowsK_sl {α : Type} {C : CallD} (h : Rel K S used γ a w) {frz : Bool} {v : AV} {t : Ty} {c : Cl} {k : Bool → List t.den → Cl → OpT α} {l0 l : List Id} {r : α}
    (hl : Leads C S.objs (rowsK v t c frz k) l0 r l) :
    ∃ fr x c' l1, Leads C S.objs (k fr x c') l1 r l ∧ aggA v = false ∧
      ∀ cs, ARc (envOf K S.objs used γ w) v cs → SlR w (okOf K (lookO S.objs) γ fr) t cs x := by
  unfold rowsK at hl
  split at hl
  · rename_i fr u' x
    split at hl
    · rename_i y hy
      obtain ⟨e, rfl⟩ := castD_some hy
      subst e
      exact ⟨fr, _, c, l0, hl, rfl, fun cs hr => SlR.of hr⟩
    · exact hl.elim
  · exact ⟨true, [], c, l0, hl, rfl, fun cs hr => by rw [show cs = _ from hr]; exact SlR.empty rfl rfl (Nat.zero_le _) (fun _ => rfl)⟩
  · rename_i id ver
    cases hg : gone c.ups id with
    | true => rw [hg] at hl; exact hl.elim
    | false =>
      rw [hg] at hl
      obtain ⟨ob, hob, hl⟩ := hl
      dsimp only at hl
      split at hl
      · rename_i ver' fr u' rows
        split at hl
        · rename_i y h1 hy
          obtain rfl := Nat.eq_of_beq_eq_true h1
          obtain ⟨e, rfl⟩ := castD_some hy
          cases e
          refine ⟨fr, _, _, _, hl, rfl, fun cs hr => ?_⟩
          obtain ⟨_, v0, rfl, _, hv0⟩ := hr
          rw [hv0 t _ (isSl_of _ ver' fr t rows (.inl hob))]
          exact own_SlR h (.inl hob)
        · exact hl.elim
      · rename_i ver' fr u' rows
        split at hl
        · rename_i y h1 hy
          obtain rfl := Nat.eq_of_beq_eq_true h1
          obtain ⟨e, rfl⟩ := castD_some hy
          cases e
          refine ⟨fr, _, _, _, hl, rfl, fun cs hr => ?_⟩
          obtain ⟨_, v0, rfl, _, hv0⟩ := hr
          rw [hv0 t _ (isSl_of _ ver' fr t rows (.inr hob))]
          exact own_SlR h (.inr hob)
        · exact hl.elim
      · exact hl.elim
  · rename_i id ver lo hi cp0
    cases hg : gone c.ups id with
    | true => rw [hg] at hl; exact hl.elim
    | false =>
      rw [hg] at hl
      have key : ∀ (ver : Nat) (fr : Bool) (t : Ty) (rows : List t.den), (lookO S.objs id = some (.sli ver fr t rows) ∨ lookO S.objs id = some (.frz ver fr t rows)) →
          ∀ cs, ARc (envOf K S.objs used γ w) (.view id ver lo hi cp0) cs → SlR w (okOf K (lookO S.objs) γ fr) t cs ((rows.drop lo).take (hi - lo)) := by
        intro ver fr t rows ho' cs hr
        obtain ⟨_, v0, rfl, _, hv0⟩ := hr
        obtain ⟨v1, v2, ad, cc, v3, v4, v5, v6, v7, _⟩ := hv0 t _ (isSl_of _ ver fr t rows ho')
        exact sl_SlR h ho' v2 v3 v4 v5 v6 v7
      obtain ⟨ob, hob, hl⟩ := hl
      dsimp only at hl
      split at hl
      · rename_i ver' fr u' rows
        split at hl
        · rename_i y h1 hy
          obtain rfl := Nat.eq_of_beq_eq_true h1
          obtain ⟨e, rfl⟩ := castD_some hy
          cases e
          exact ⟨fr, _, _, _, hl, rfl, key ver' fr t rows (.inl hob)⟩
        · exact hl.elim
      · rename_i ver' fr u' rows
        split at hl
        · rename_i y h1 hy
          obtain rfl := Nat.eq_of_beq_eq_true h1
          obtain ⟨e, rfl⟩ := castD_some hy
          cases e
          exact ⟨fr, _, _, _, hl, rfl, key ver' fr t rows (.inr hob)⟩
        · exact hl.elim
      · exact hl.elim
  · rename_i id path lo hi
    cases hg : gone c.ups id with
    | true => rw [hg] at hl; exact hl.elim
    | false =>
      rw [hg] at hl
      have key : ∀ (fm fr : Bool) (tm u' : Ty) (m : AV) (n : Nat) (x : List u'.den), (lookO S.objs id = some (.mem fm tm m) ∨ lookO S.objs id = some (.mfz fm tm m)) → navA m path = some (.d fr (.arr n u') x) →
          ∀ cs, ARc (envOf K S.objs used γ w) (.mview id path lo hi) cs → SlR w (okOf K (lookO S.objs) γ (fr && fm)) u' cs ((x.drop lo).take (hi - lo)) := by
        intro fm fr tm u' m n x ho' hnav cs hr
        obtain ⟨_, v0, rfl, _, hv0⟩ := hr
        obtain ⟨g, n', uu, q1, q2, q3, q4, q5, ad, cc, q6, q7, q8, q9⟩ := hv0 tm (isMm_of _ fm tm m ho')
        subst q6
        obtain ⟨g', e', cur, m1, m2, m3, m4⟩ := mm_cells h ho'
        have q1 : γ id = _ := q1
        rw [q1] at m1
        cases m1
        obtain ⟨n1, n2, n3⟩ := navA_spec m tm path _ _ m3 q2 q3 m4 _ hnav
        have eu : Ty.arr n u' = .arr n' uu := Ty.beq_iff.1 (by simpa [fitsA] using n1)
        cases eu
        obtain ⟨nl, nr⟩ := n2
        refine SlR.cut (g := g) (o := offT tm path) (nr.mono fun _ _ => DR.mono fun b hb => envOk_mono K S.objs used γ w _ _ b (fun h => (Bool.and_eq_true _ _ ▸ h : fr = true ∧ fm = true).1) hb)
          (fun j y hj => ?_) (by rw [nl]; exact q5) q7 q8 (fun e => by cases e) (fun hlt => by rw [q9 hlt])
        have := cells_at m2 (offT tm path) (Ty.size (.arr n u')) j y hj
        rwa [add_zero_off] at this
      obtain ⟨ob, hob, hl⟩ := hl
      dsimp only at hl
      split at hl
      · rename_i fm tm m
        split at hl
        · rename_i fr n u' x hnav
          split at hl
          · rename_i y hy
            obtain ⟨e, rfl⟩ := castD_some hy
            cases e
            exact ⟨_, _, _, _, hl, rfl, key fm fr tm t m n x (.inl hob) hnav⟩
          · exact hl.elim
        · exact hl.elim
      · rename_i fm tm m
        split at hl
        · rename_i fr n u' x hnav
          split at hl
          · rename_i y hy
            obtain ⟨e, rfl⟩ := castD_some hy
            cases e
            exact ⟨_, _, _, _, hl, rfl, key fm fr tm t m n x (.inr hob) hnav⟩
          · exact hl.elim
        · exact hl.elim
      · exact hl.elim
  · exact hl.elim
theorem Grown.keeps {size : Nat} {e : TypeId} {s v' : Value} {n m : Nat} {olds news : List Value} {w w' : World} (hg : Grown w size e s n m olds news v' w') :
    w.heap.size ≤ w'.heap.size ∧ (∀ b, b < w.heap.size → (∀ g l c, s = .slice (some g) l c → g.block ≠ b) → w'.heap[b]? = w.heap[b]?) ∧ (w'.os = w.os ∧ w'.tape = w.tape ∧ w'.output = w.output) ∧
      ∀ g l c, v' = .slice (some g) l c → (∃ l' c', s = .slice (some g) l' c') ∨ g.block = w.heap.size := by
  cases hg with
  | none h hn hm => exact ⟨Nat.le_refl _, fun _ _ _ => rfl, ⟨rfl, rfl, rfl⟩, fun g l c h => by cases h⟩
  | room g cap cur e' hg hs hr hf =>
    refine ⟨by simp [World.setRow], fun b _ hb => setRow_other w g b _ fun e => hb _ _ _ hs e.symm, ⟨rfl, rfl, rfl⟩, fun g' l c h => ?_⟩
    cases h
    exact .inl ⟨_, _, hs⟩
  | fresh cap cells h1 h2 h3 h4 =>
    refine ⟨by simp, fun b hb _ => heap_alloc_old w.drew _ b hb, ⟨rfl, rfl, rfl⟩, fun g' l c h => ?_⟩
    cases h
    exact .inr rfl
theorem roomy_spec {n : Nat} {t : Ty} (h : roomy n t = true) : 0 < t.size ∧ n ≤ maxLen ∧ n * (24 * t.size) ≤ 140737488355328 := by
  unfold roomy at h
  simp only [Bool.and_eq_true, Nat.blt_eq, decide_eq_true_eq] at h
  refine ⟨h.1, ?_, h.2⟩
  have h1 : n * 1 ≤ n * (24 * t.size) := Nat.mul_le_mul_left _ (by omega)
  simp only [maxLen]
  omega
theorem append_exec {T : TypeId} {x y : Operand} (ho : o.op = .call { callee := .builtin .append, args := #[x, y], argTypes := #[T, T] }) {v' : Value} {w' : World}
    (hr : (Builtin.append_ #[T, T] o.type #[a.eval x, a.eval y]).run K.P w = .ok v' w') : (execOp a.eval o).run K.P w = .ok (.value v') w' := by
  simp only [execOp, ho, resolve, invoke, builtin, Sem.run_bind, Sem.run_pure, Result.andThen_ok, List.map_toArray, List.map_cons, List.map_nil, hr]
theorem own_grown (h : Rel K S used γ a w) (hB : ∀ b, K.B b → b < K.base) {id : Id} {ver' : Nat} {fr frx : Bool} {t : Ty} {rows ys : List t.den} {olds news : List Value} {e e' : TypeId} {v' : Value} {w' : World}
    (hob : lookO S.objs id = some (.sli ver' fr t rows)) (hus : ∃ v, used id v)
    (hs : (γ id = .slice none 0 0 ∧ List.length rows = 0 ∧ olds = []) ∨ ∃ g cap cur, γ id = .slice (some ⟨g, 0, none⟩) (List.length rows) cap ∧ w.heap[g]? = some (.cells cur e' (0, 0)) ∧ List.length rows ≤ cap ∧ cap ≤ maxLen ∧ cur.size = cap * t.size ∧
      cur.toList.take (List.length rows * t.size) = olds ∧ (fr = true → K.base ≤ g))
    (hro : RowsR (DR w (okOf K (lookO S.objs) γ fr) t) t.size olds rows) (n6 : RowsR (DR w (okOf K (lookO S.objs) γ frx) t) t.size news ys)
    (q2 : Grown w t.size e (γ id) (List.length rows) (List.length ys) olds news v' w') (hex : (execOp a.eval o).run K.P w = .ok (.value v') w') :
    Out K S used γ a w o (.own id (ver' + 1)) [(id, some (.sli (ver' + 1) (fr && (frx || t.flat)) t (rows ++ ys)))] base := by
  have hbase : K.base ≤ w.heap.size := h.frame.size
  obtain ⟨p1, p2, p3, p4⟩ := q2.keeps
  have hrel := h.renew hB (fr' := fr && (frx || t.flat)) (rows' := rows ++ ys) hob (hv := v') p1 (fun b hb hne => p2 b hb fun g l c hgl e2 => hne (by rw [hgl]; exact congrArg some e2)) p3
    (fun g hg => by
      cases v' with
      | slice ad2 l2 c2 =>
        cases ad2 with
        | none => simp [liveBlk] at hg
        | some g2 =>
          simp only [liveBlk, Option.some.injEq] at hg
          subst hg
          rcases p4 g2 l2 c2 rfl with ⟨l', c'', hh⟩ | hh
          · exact .inl (by rw [hh]; rfl)
          · exact .inr hh
      | _ => simp [liveBlk] at hg)
    (fun E' hs' hE => by
      have hw' : E'.w = w' := by rw [hE]; rfl
      have hγ : E'.γ id = v' := by rw [hE]; exact if_pos rfl
      have hmono : ∀ f g b, (g = true → f = true) → E'.ok f b → E'.ok g b := by rw [hE]; exact envOk_mono K _ _ _ _
      show OwnC E' (fr && (frx || t.flat)) t (rows ++ ys) K.base (E'.γ id)
      rw [hγ]
      refine grown_own q2 hw' (b0 := K.base) ?_ ?_ ?_ hbase (e' := e')
      · rcases hs with hs | ⟨g, cap, cur, k1, k2, k3, k4, k5, k6, k7⟩
        · exact .inl hs
        · exact .inr ⟨g, cap, cur, k1, k2, k3, k4, k5, k6, fun hf => k7 (by simp only [Bool.and_eq_true] at hf; exact hf.1)⟩
      · exact hro.mono fun _ _ hd => (DR.move (fun b hb ho => hs'.ok fr b hb ho) hd).mono fun b => hmono _ _ b (by simp only [Bool.and_eq_true]; exact fun hf => hf.1)
      · cases hft : t.flat with
        | true => exact n6.mono fun _ _ hd => DR.flat hft hd
        | false =>
          refine n6.mono fun _ _ hd => (DR.move (fun b hb ho => hs'.ok frx b hb ho) hd).mono fun b => hmono _ _ b ?_
          simp only [Bool.and_eq_true, Bool.or_false]; exact fun hf => hf.2)
  refine ⟨_, _, w', _, _, hex, .inl rfl, ?_, hrel, ?_⟩
  · have ha' : isAgg' v' = false := by cases q2 <;> rfl
    have h1' : v'.oneCell' = true := by cases q2 <;> rfl
    exact vrel1_of (a := .own id (ver' + 1)) ⟨.inr ⟨rfl, rfl⟩, v', rfl, h1', fun _ _ _ => (if_pos rfl : upd γ id v' id = v').symm⟩ rfl ha'
  · rintro id' v2 (hv2 | ⟨rfl, rfl⟩)
    · exact .inl ⟨v2, hv2⟩
    · exact .inl hus
theorem nil_grown (h : Rel K S used γ a w) (hB : ∀ b, K.B b → b < K.base) (hid : ∀ v, ¬ used base v) {frx : Bool} {t : Ty} {ys : List t.den} {news : List Value} {e : TypeId} {v' : Value} {w' : World}
    (n6 : RowsR (DR w (okOf K (lookO S.objs) γ frx) t) t.size news ys) (q2 : Grown w t.size e (.slice none 0 0) 0 (List.length ys) [] news v' w') (hex : (execOp a.eval o).run K.P w = .ok (.value v') w') :
    Out K S used γ a w o (.own base 0) [(base, some (.sli 0 (frx || t.flat) t ys))] base := by
  have hbase : K.base ≤ w.heap.size := h.frame.size
  obtain ⟨p1, p2, p3, p4⟩ := q2.keeps
  have hkeep : ∀ b, b < w.heap.size → w'.heap[b]? = w.heap[b]? := fun b hb => p2 b hb (fun g l c h => by cases h)
  have hrel := h.new (w' := w') (id := base) (o := .sli 0 (frx || t.flat) t ys) (hv := v') hid (fun g hg => by
      have : g = w.heap.size := by
        cases v' with
        | slice ad2 l2 c2 =>
          cases ad2 with
          | none => simp [liveBlk] at hg
          | some g2 =>
            simp only [liveBlk, Option.some.injEq] at hg
            subst hg
            rcases p4 g2 l2 c2 rfl with ⟨l', c'', hh⟩ | hh
            · cases hh
            · exact hh
        | _ => simp [liveBlk] at hg
      exact ⟨this, fun hb => by have := hB _ hb; omega⟩) p1 hkeep
    ⟨p3.1.trans h.frame.os, p3.2.1.trans h.frame.tape, p3.2.2.trans h.frame.output, Nat.le_trans h.frame.size p1, fun b hb hbo => by rw [hkeep b (Nat.lt_of_lt_of_le hb hbase)]; exact h.frame.block b hb hbo⟩
    (fun E' hs' hE => by
      have hw' : E'.w = w' := by rw [hE]; rfl
      have hγ : E'.γ base = v' := by rw [hE]; exact if_pos rfl
      have hmono : ∀ f g b, (g = true → f = true) → E'.ok f b → E'.ok g b := by rw [hE]; exact envOk_mono K _ _ _ _
      show OwnC E' (frx || t.flat) t ys K.base (E'.γ base)
      rw [hγ]
      have := grown_own (E := E') (fr := frx || t.flat) (t := t) (xs := []) (ys := ys) q2 hw' (b0 := K.base) (e' := e) (.inl ⟨rfl, rfl, rfl⟩) rfl ?_ hbase
      · simpa using this
      · cases hft : t.flat with
        | true => exact n6.mono fun _ _ hd => DR.flat hft hd
        | false =>
          refine n6.mono fun _ _ hd => (DR.move (fun b hb ho => hs'.ok frx b hb ho) hd).mono fun b => hmono _ _ b ?_
          simp only [Bool.or_false]; exact id)
  refine ⟨_, _, w', _, _, hex, .inl rfl, ?_, hrel, ?_⟩
  · have ha' : isAgg' v' = false := by cases q2 <;> rfl
    have h1' : v'.oneCell' = true := by cases q2 <;> rfl
    exact vrel1_of (a := .own base 0) ⟨.inr ⟨rfl, rfl⟩, v', rfl, h1', fun _ _ _ => (if_pos rfl : upd γ base v' base = v').symm⟩ rfl ha'
  · rintro id' v2 (hv2 | ⟨rfl, rfl⟩)
    · exact .inl ⟨v2, hv2⟩
    · exact .inr ⟨rfl, rfl⟩
theorem own_row (h : Rel K S used γ a w) (e : TypeId) {id : Id} {ver' : Nat} {fr : Bool} {t : Ty} {rows : List t.den} (hob : lookO S.objs id = some (.sli ver' fr t rows)) :
    ∃ e' olds, ((γ id = .slice none 0 0 ∧ List.length rows = 0 ∧ olds = []) ∨ ∃ g cap cur, γ id = .slice (some ⟨g, 0, none⟩) (List.length rows) cap ∧ w.heap[g]? = some (.cells cur e' (0, 0)) ∧ List.length rows ≤ cap ∧ cap ≤ maxLen ∧ cur.size = cap * t.size ∧
      cur.toList.take (List.length rows * t.size) = olds ∧ (fr = true → K.base ≤ g)) ∧ RowsR (DR w (okOf K (lookO S.objs) γ fr) t) t.size olds rows := by
  rcases h.objs id _ hob with ⟨k1, k2⟩ | ⟨g, cap, cur, e2, k1, k2, k3, k4, k5, k6, k7⟩
  · exact ⟨e, [], .inl ⟨k1, by rw [k2]; rfl, rfl⟩, by rw [k2]; rfl⟩
  · exact ⟨e2, _, .inr ⟨g, cap, cur, k1, k2, k3, k4, k5, rfl, k7⟩, k6⟩
theorem cap_grown (h : Rel K S used γ a w) (hB : ∀ b, K.B b → b < K.base) {c : Cl} (hc : CInv S true c) (hmv : movedL c.ups = []) {frs frx : Bool} {t : Ty} {xs ys : List t.den} {ad : Option Addr} {news : List Value} {e : TypeId} {v' : Value} {w' : World} {olds : List Value}
    (hpos : 0 < t.size) (hn : List.length xs + List.length ys ≤ maxLen) (hx : DR w (okL K S γ c frs) (.slice t) [.slice ad (List.length xs) (List.length xs)] xs) (hxo : RowsR (DR w (okL K S γ c frs) t) t.size olds xs)
    (n6 : RowsR (DR w (okOf K (lookO S.objs) γ frx) t) t.size news ys)
    (q2 : (List.length ys = 0 ∧ v' = .slice ad (List.length xs) (List.length xs) ∧ w' = w) ∨ (0 < List.length ys ∧ ∃ cap cells, List.length xs + List.length ys ≤ cap ∧ cap ≤ maxLen ∧ cells.size = cap * t.size ∧
      cells.toList.take ((List.length xs + List.length ys) * t.size) = olds ++ news ∧ v' = .slice (some ⟨w.heap.size, 0, none⟩) (List.length xs + List.length ys) cap ∧ w' = w.drew.alloc (.cells cells e)))
    (hex : (execOp a.eval o).run K.P w = .ok (.value v') w') :
    Out K S used γ a w o (.d (frs && (frx || t.flat)) (.slice t) (List.append xs ys)) c.ups base := by
  have hbase : K.base ≤ w.heap.size := h.frame.size
  have hsz : w.heap.size ≤ w'.heap.size ∧ (∀ b, b < w.heap.size → w'.heap[b]? = w.heap[b]?) ∧ (w'.os = w.os ∧ w'.tape = w.tape ∧ w'.output = w.output) := by
    rcases q2 with ⟨_, _, rfl⟩ | ⟨_, cap, cells, _, _, _, _, _, rfl⟩
    · exact ⟨Nat.le_refl _, fun _ _ => rfl, rfl, rfl, rfl⟩
    · exact ⟨by simp, fun b hb => heap_alloc_old w.drew _ b hb, rfl, rfl, rfl⟩
  obtain ⟨p1, p2, p3⟩ := hsz
  obtain ⟨used', γ', r1, r2, r3⟩ := h.after hB hc (w' := w') (M := []) (ok := fun f b => (okL K S γ c f b ∧ b < w.heap.size) ∨ b = w.heap.size) p1 (fun b hb _ => p2 b hb) p3
    (fun p hp => by cases hp) (fun p hp => by cases hp) (by simp) (by simp [New.blk]) (fun g hg => by simp [New.blk] at hg)
    (fun f b hb => by
      rcases hb with ⟨hb, _⟩ | rfl
      · refine ⟨by simp [New.blk], hb.2.1, hb.2.2, fun id hid' => ?_⟩
        obtain ⟨j1, j2, j3⟩ := left_live (hc.left id) hid'
        have := lent_dead hc (hb.1 id j1) (γ id)
        rw [this] at hid'
        cases hid'
      · refine ⟨by simp [New.blk], fun hb => by have := hB _ hb; omega, fun _ => hbase, fun id hid' => ?_⟩
        have := live_lt h (left_live (hc.left id) hid').1
        omega)
    (fun K' E hp p hpm => by cases hpm)
  have hob : appE (New.ups []) (appE c.ups S.objs) = appE c.ups S.objs := rfl
  rw [hob] at r1 r2
  have hlt : ∀ (f : Bool) (b : Nat), okL K S γ c f b → b < w.heap.size → (envOf K (appE c.ups S.objs) used' γ' w').ok f b := fun f b hb hl => r2.ok _ _ (.inl ⟨hb, hl⟩)
  have hmono : ∀ f g b, (g = true → f = true) → (envOf K (appE c.ups S.objs) used' γ' w').ok f b → (envOf K (appE c.ups S.objs) used' γ' w').ok g b := envOk_mono K _ _ _ _
  have hw : ∀ {f : Bool} {u : Ty} {cs : List Value} {z : u.den}, DR w (okL K S γ c f) u cs z → DR w' ((envOf K (appE c.ups S.objs) used' γ' w').ok f) u cs z := fun hd =>
    DR.move (fun b hl hb => ⟨hlt _ b hb hl, p2 b hl⟩) hd
  have hd : DR w' ((envOf K (appE c.ups S.objs) used' γ' w').ok (frs && (frx || t.flat))) (.slice t) [v'] (List.append xs ys) := by
    rcases q2 with ⟨h0, rfl, _⟩ | ⟨h0, cap, cells, h1, h2, h3, h4, rfl, rfl⟩
    · have : ys = [] := List.eq_nil_of_length_eq_zero h0
      subst this
      rw [show List.append xs [] = xs from List.append_nil xs]
      exact (hw hx).mono fun b => hmono _ _ b (by simp only [Bool.and_eq_true]; exact fun h => h.1)
    · refine ⟨some ⟨w.heap.size, 0, none⟩, cap, by simp, by simpa using h1, h2, (fun h => by cases h), olds ++ news, ?_, fun _ => ⟨_, rfl, r2.ok _ _ (.inr rfl), fun j v hj => ?_⟩⟩
      · refine RowsR.append ?_ ?_
        · exact hxo.mono fun _ _ hd => (hw hd).mono fun b => hmono _ _ b (by simp only [Bool.and_eq_true]; exact fun h => h.1)
        · cases hft : t.flat with
          | true => exact n6.mono fun _ _ hd => DR.flat hft (hw (hd.mono fun b hb => okL_of (fun h => h) b hb))
          | false =>
            refine n6.mono fun _ _ hd => (hw (hd.mono fun b hb => okL_of (c := c) (fun h => h) b hb)).mono fun b => hmono _ _ b ?_
            simp only [Bool.and_eq_true, Bool.or_false]; exact fun hf => hf.2
      · rw [← h4] at hj
        have := cells_at (heap_alloc_new w.drew (.cells cells e)) 0 ((List.length xs + List.length ys) * t.size) j v (by rw [List.drop_zero]; exact hj)
        simpa using this
  refine ⟨_, _, w', used', γ', hex, .inl rfl, ?_, r1, fun id v hv => ?_⟩
  · have ha' : isAgg' v' = false := by rcases q2 with ⟨_, rfl, _⟩ | ⟨_, _, _, _, _, _, _, rfl, _⟩ <;> rfl
    have hcl : v'.cells.toList = [v'] := cells_one ha'
    refine ⟨by rw [hcl]; exact hd, ha'.symm⟩
  · rcases r3 id v hv with hv | ⟨p, hp, _⟩
    · exact .inl ⟨v, hv⟩
    · cases hp
theorem appendK_out (h : Rel K S used γ a w) (hB : ∀ b, K.B b → b < K.base) (hid : ∀ v, ¬ used base v) {T : TypeId} {t : Ty} {x y : Operand}
    (ho : o.op = .call { callee := .builtin .append, args := #[x, y], argTypes := #[T, T] }) (hx : constOK x = true) (hy : constOK y = true) (hT : tyB K.P (.slice t) T = true)
    (hl : Leads K.C S.objs (appendK (S.eval x) (S.eval y) t base) [] (v, u) l) : Out K S used γ a w o v u base := by
  have hvx := eval_rel h x hx
  have hvy := eval_rel h y hy
  obtain ⟨e, ht, he⟩ := tyB_slice hT
  obtain ⟨i, z, hi, hisz, hiby, hz, hzc, _⟩ := rowB_spec (tyB_row he)
  have hzs : z.cells.size = i.size := by rw [← Array.length_toList, hzc, zcells_len, hisz]
  have hbase : K.base ≤ w.heap.size := h.frame.size
  have news_of : ∀ {fr : Bool} {ys : List t.den} (hs : SlR w (okOf K (lookO S.objs) γ fr) t [a.eval y] ys), ∃ ad cap news, a.eval y = .slice ad (List.length ys) cap ∧ news.length = List.length ys * t.size ∧ (ad = none → List.length ys = 0) ∧
      (∀ b, ad = some b → ∀ j v, news[j]? = some v → w.cell? (b.add j) = some v) ∧ (∀ v ∈ news, v.oneCell' = true) ∧ RowsR (DR w (okOf K (lookO S.objs) γ fr) t) t.size news ys := by
    rintro fr ys ⟨ad, cap, news, e1, e2, e3, e4, e5, e6⟩
    refine ⟨ad, cap, news, by simpa using e1, e5.length, fun hn => by have := e4 hn; omega, e6, ?_, e5⟩
    exact DR.one (t := .arr (List.length ys) t) ⟨rfl, e5⟩
  unfold appendK at hl
  split at hl
  · rename_i id ver heq
    obtain ⟨ob, hob, hl⟩ := hl
    dsimp only at hl
    split at hl
    · rename_i ver' fr u' rows
      split at hl
      · rename_i old h1 hy1
        obtain rfl := Nat.eq_of_beq_eq_true h1
        obtain ⟨e1, rfl⟩ := castD_some hy1
        cases e1
        have hsol := rowsK_solid hl
        obtain ⟨frx, ys, c', l1, hl, hag, hsl⟩ := rowsK_sl h hl
        obtain ⟨hr, hl⟩ := leads_chk hl
        obtain ⟨r1, r2, r3⟩ := roomy_spec hr
        obtain ⟨e1, _⟩ := hl; cases e1
        rw [heq] at hvx
        obtain ⟨hus, hna, hval⟩ := own_inv hvx
        have hval : a.eval x = γ id := hval t _ (isSl_of _ ver' fr t rows (.inl hob))
        have hvy1 : vrel1 (envOf K S.objs used γ w) (S.eval y) (a.eval y) := vrel_solid hsol hvy
        have hyc : (a.eval y).cells.toList = [a.eval y] := cells_one (by rw [← hvy1.2, hag])
        have hsl := hsl [a.eval y] (by rw [← hyc]; exact hvy1.1)
        obtain ⟨ad, cap, news, n1, n2, n3, n4, n5, n6⟩ := news_of hsl
        obtain ⟨e', olds, hs, hro⟩ := own_row h e hob
        obtain ⟨v', w', q1, q2⟩ := append_run (P := K.P) w T o.type e e' i z ht hi hz hzs (γ id) (List.length rows) olds (by
          rcases hs with hs | ⟨g, cap, cur, k1, k2, k3, k4, k5, k6, _⟩
          · exact .inl hs
          · exact .inr ⟨g, cap, cur, k1, k2, k3, k4, by rw [hisz]; exact k5, by rw [hisz]; exact k6⟩) ad (List.length ys) cap news (by rw [hisz]; exact n2) n3 n4 n5 (by omega)
          (Nat.le_trans (Nat.mul_le_mul_left _ hiby) (by simpa [List.length_append] using r3))
        rw [hisz] at q2
        exact own_grown h hB hob ⟨_, hus⟩ hs hro n6 q2 (append_exec ho (by rw [hval, n1]; exact q1))
      · exact hl.elim
    · exact hl.elim
  · rename_i heq
    have hsol := rowsK_solid hl
    obtain ⟨frx, ys, c', l1, hl, hag, hsl⟩ := rowsK_sl h hl
    obtain ⟨hr, hl⟩ := leads_chk hl
    obtain ⟨r1, r2, r3⟩ := roomy_spec hr
    obtain ⟨e1, _⟩ := hl; cases e1
    rw [heq] at hvx
    have hval : a.eval x = .slice none 0 0 := by
      obtain ⟨k1, k2⟩ := (show vrel1 _ .nils _ from hvx)
      rw [cells_one k2.symm] at k1
      simpa [ARc] using k1
    have hvy1 : vrel1 (envOf K S.objs used γ w) (S.eval y) (a.eval y) := vrel_solid hsol hvy
    have hyc : (a.eval y).cells.toList = [a.eval y] := cells_one (by rw [← hvy1.2, hag])
    have hsl := hsl [a.eval y] (by rw [← hyc]; exact hvy1.1)
    obtain ⟨ad, cap, news, n1, n2, n3, n4, n5, n6⟩ := news_of hsl
    obtain ⟨v', w', q1, q2⟩ := append_run (P := K.P) w T o.type e e i z ht hi hz hzs (.slice none 0 0) 0 [] (.inl ⟨rfl, rfl, rfl⟩) ad (List.length ys) cap news (by rw [hisz]; exact n2) n3 n4 n5 (by omega)
      (Nat.le_trans (Nat.mul_le_mul_left _ hiby) (by simpa using r3))
    rw [hisz] at q2
    exact nil_grown h hB hid n6 q2 (append_exec ho (by rw [hval, n1]; exact q1))
  · rename_i id ver lo1 hi1 cp heq
    cases cp with
    | false => exact hl.elim
    | true =>
      have hl : Leads K.C S.objs (rowsK (.view id ver lo1 hi1 true) t ⟨[], []⟩ true fun frs old c => rowsK (S.eval y) t ⟨[], []⟩ false fun frx new _ =>
        .chk (roomy (List.length old + List.length new) t) (.done (.d (frs && (frx || t.flat)) (.slice t) (List.append old new), c.ups))) [] (v, u) l := hl
      have hl0 := hl
      obtain ⟨frs, xs, c, l1, hl, c1, c2, c3, c4, c5⟩ := rowsK_spec h (CInv.start S true) hl
      have hsol := rowsK_solid hl
      obtain ⟨frx, ys, c', l2, hl, hag, hsl⟩ := rowsK_sl h hl
      obtain ⟨hr, hl⟩ := leads_chk hl
      obtain ⟨r1, r2, r3⟩ := roomy_spec hr
      obtain ⟨e1, _⟩ := hl; cases e1
      rw [heq] at hvx
      obtain ⟨hx1, hx2⟩ := (show vrel1 (envOf K S.objs used γ w) (.view id ver lo1 hi1 true) (a.eval x) from hvx)
      have hxc : (a.eval x).cells.toList = [a.eval x] := cells_one (by rw [← hx2]; rfl)
      rw [hxc] at hx1
      have hd := c5 _ hx1
      obtain ⟨ad0, cap0, d1, d2, d3, d4, olds, d5, d6⟩ := hd
      have hcapd : a.eval x = .slice ad0 (List.length xs) (List.length xs) := by
        have hsl0 : ∃ t n, isSl (lookO S.objs id) ver t n := by
          have hl2 := hl0
          unfold rowsK at hl2
          dsimp only [gone, cond_false] at hl2
          obtain ⟨ob, hob, hl2⟩ := hl2
          dsimp only at hl2
          split at hl2
          · rename_i ver' fr u' rows
            split at hl2
            · rename_i y h1 hy
              obtain rfl := Nat.eq_of_beq_eq_true h1
              exact ⟨u', _, isSl_of _ ver' fr u' rows (.inl hob)⟩
            · exact hl2.elim
          · rename_i ver' fr u' rows
            split at hl2
            · rename_i y h1 hy
              obtain rfl := Nat.eq_of_beq_eq_true h1
              exact ⟨u', _, isSl_of _ ver' fr u' rows (.inr hob)⟩
            · exact hl2.elim
          · exact hl2.elim
        obtain ⟨t0, n0, hsl0⟩ := hsl0
        obtain ⟨_, v0, hv0, _, hv1⟩ := hx1
        obtain ⟨_, _, ad1, cc1, e5, _, _, _, _, e6⟩ := hv1 t0 n0 hsl0
        have e6 := e6 rfl
        cases hv0
        have d1 : a.eval x = .slice ad0 (List.length xs) cap0 := by simpa using d1
        rw [e5] at d1 ⊢
        simp only [Value.slice.injEq] at d1
        rw [d1.1, d1.2.1, e6, d1.2.1]
      have hvy1 : vrel1 (envOf K S.objs used γ w) (S.eval y) (a.eval y) := vrel_solid hsol hvy
      have hyc : (a.eval y).cells.toList = [a.eval y] := cells_one (by rw [← hvy1.2, hag])
      have hsl := hsl [a.eval y] (by rw [← hyc]; exact hvy1.1)
      obtain ⟨ad, cap, news, n1, n2, n3, n4, n5, n6⟩ := news_of hsl
      have hd := c5 _ hx1
      rw [hcapd] at hd
      obtain ⟨v', w', q1, q2⟩ := append_capped (P := K.P) w T o.type e i z ht hi hz hzs ad0 (List.length xs) olds (by rw [hisz]; exact d5.length) (fun hn => by have := d4 hn; omega)
        (fun b hb j v hj => by
          have hne : olds ≠ [] := by rintro rfl; simp at hj
          obtain ⟨a', k1, _, k3⟩ := d6 hne
          rw [hb] at k1; cases k1
          exact k3 j v hj) ad (List.length ys) cap news (by rw [hisz]; exact n2) n3 n4 r2 (Nat.le_trans (Nat.mul_le_mul_left _ hiby) (by simpa using r3))
      rw [hisz] at q2
      exact cap_grown h hB c1 c3 r1 r2 hd d5 n6 q2 (append_exec ho (by rw [hcapd, n1]; exact q1))
  · exact hl.elim
theorem appendO_out (h : Rel K S used γ a w) (hB : ∀ b, K.B b → b < K.base) (hid : ∀ v, ¬ used base v) {T : TypeId} {t : Ty} {x y : Operand}
    (ho : o.op = .call { callee := .builtin .append, args := #[x, y], argTypes := #[T, T] }) (hx : constOK x = true) (hy : constOK y = true) (hT : tyB K.P (.slice t) T = true)
    (hl : Leads K.C S.objs (appendO (S.eval x) (S.eval y) t base) [] (v, u) l) : Out K S used γ a w o v u base := by
  unfold appendO at hl
  split at hl
  case h_2 => exact appendK_out h hB hid ho hx hy hT hl
  rename_i id ver lo1 hi1 heq
  have hvx := eval_rel h x hx
  have hvy := eval_rel h y hy
  obtain ⟨e, ht, he⟩ := tyB_slice hT
  obtain ⟨i, z, hi, hisz, hiby, hz, hzc, _⟩ := rowB_spec (tyB_row he)
  have hzs : z.cells.size = i.size := by rw [← Array.length_toList, hzc, zcells_len, hisz]
  have hl0 := hl
  obtain ⟨frs, xs, c, l1, hl, hagx, hslx⟩ := rowsK_sl h hl
  have hsol := rowsK_solid hl
  obtain ⟨frx, ys, c', l2, hl, hag, hsl⟩ := rowsK_sl h hl
  obtain ⟨hr, hl⟩ := leads_chk hl
  simp only [Bool.and_eq_true, decide_eq_true_eq] at hr
  obtain ⟨hy0, hr⟩ := hr
  obtain ⟨r1, r2, r3⟩ := roomy_spec hr
  obtain ⟨e1, _⟩ := hl; cases e1
  rw [heq] at hvx
  obtain ⟨hx1, hx2⟩ := (show vrel1 (envOf K S.objs used γ w) (.view id ver lo1 hi1 true) (a.eval x) from hvx)
  have hxc : (a.eval x).cells.toList = [a.eval x] := cells_one (by rw [← hx2]; rfl)
  rw [hxc] at hx1
  obtain ⟨ad0, cap0, olds, d1, d2, d3, d4, d5, d6⟩ := hslx [a.eval x] hx1
  have hcapd : a.eval x = .slice ad0 (List.length xs) (List.length xs) := by
    have hsl0 : ∃ t n, isSl (lookO S.objs id) ver t n := by
      have hl2 := hl0
      unfold rowsK at hl2
      dsimp only [gone, cond_false] at hl2
      obtain ⟨ob, hob, hl2⟩ := hl2
      dsimp only at hl2
      split at hl2
      · rename_i ver' fr u' rows
        split at hl2
        · rename_i y h1 hy
          obtain rfl := Nat.eq_of_beq_eq_true h1
          exact ⟨u', _, isSl_of _ ver' fr u' rows (.inl hob)⟩
        · exact hl2.elim
      · rename_i ver' fr u' rows
        split at hl2
        · rename_i y h1 hy
          obtain rfl := Nat.eq_of_beq_eq_true h1
          exact ⟨u', _, isSl_of _ ver' fr u' rows (.inr hob)⟩
        · exact hl2.elim
      · exact hl2.elim
    obtain ⟨t0, n0, hsl0⟩ := hsl0
    obtain ⟨_, v0, hv0, _, hv1⟩ := hx1
    obtain ⟨_, _, ad1, cc1, e5, _, _, _, _, e6⟩ := hv1 t0 n0 hsl0
    have e6 := e6 rfl
    cases hv0
    have d1 : a.eval x = .slice ad0 (List.length xs) cap0 := by simpa using d1
    rw [e5] at d1 ⊢
    simp only [Value.slice.injEq] at d1
    rw [d1.1, d1.2.1, e6, d1.2.1]
  have hvy1 : vrel1 (envOf K S.objs used γ w) (S.eval y) (a.eval y) := vrel_solid hsol hvy
  have hyc : (a.eval y).cells.toList = [a.eval y] := cells_one (by rw [← hvy1.2, hag])
  obtain ⟨ad, cap, news, n1, n2, n3, n4, n5, n6⟩ := hsl [a.eval y] (by rw [← hyc]; exact hvy1.1)
  have n1 : a.eval y = .slice ad (List.length ys) cap := by simpa using n1
  have hone : ∀ v ∈ news, v.oneCell' = true := DR.one (t := .arr (List.length ys) t) ⟨rfl, n5⟩
  obtain ⟨v', w', q1, q2⟩ := append_capped (P := K.P) w T o.type e i z ht hi hz hzs ad0 (List.length xs) olds (by rw [hisz]; exact d5.length) (fun hn => by have := d4 hn; omega) d6 ad (List.length ys) cap news (by rw [hisz]; exact n5.length) (fun hn => by have := n4 hn; omega) n6 r2 (Nat.le_trans (Nat.mul_le_mul_left _ hiby) (by simpa using r3))
  rw [hisz] at q2
  rcases q2 with ⟨h0, _⟩ | ⟨_, G, cells, h1, h2, h3, h4, rfl, rfl⟩
  · omega
  have hrows : RowsR (DR w (okOf K (lookO S.objs) γ (frs && frx)) t) t.size (olds ++ news) (List.append xs ys) :=
    (d5.mono fun _ _ hd => hd.mono fun b hb => ok_mono (by simp only [Bool.and_eq_true]; exact fun h => h.1) b hb).append (n5.mono fun _ _ hd => hd.mono fun b hb => ok_mono (by simp only [Bool.and_eq_true]; exact fun h => h.2) b hb)
  have hlen : List.length (List.append xs ys) = List.length xs + List.length ys := List.length_append
  have hG : Grown w t.size e (.slice none 0 0) 0 (List.length (List.append xs ys)) [] (olds ++ news) (.slice (some ⟨w.heap.size, 0, none⟩) (List.length xs + List.length ys) G) (w.drew.alloc (.cells cells e)) := by
    have := Grown.fresh (w := w) (size := t.size) (e := e) (s := .slice none 0 0) (n := 0) (m := List.length (List.append xs ys)) (olds := []) (news := olds ++ news) G cells (by rw [hlen]; omega) h2 h3 (by rw [hlen, Nat.zero_add]; exact h4)
    rw [Nat.zero_add, hlen] at this
    rw [hlen]
    exact this
  exact nil_grown h hB hid hrows hG (append_exec ho (by rw [hcapd, n1]; exact q1))
end
end Go.Pon
set_option autoImplicit false
set_option linter.unusedVariables false
namespace Go.Pon
open Go
theorem made_rows {z : Array Value} {zs : List Value} (hz : z.toList = zs) (k : Nat) : (madeCells z (k * z.size)).toList = (List.replicate k zs).flatten := by
  subst hz
  induction k with
  | zero => simp [madeCells]
  | succ k ih =>
    have e : (madeCells z ((k + 1) * z.size)).toList = (madeCells z (k * z.size)).toList ++ z.toList := by
      apply List.ext_getElem?
      intro j
      have hsz : ((madeCells z (k * z.size)).toList).length = k * z.size := by simp [madeCells]
      rcases Nat.lt_or_ge j (k * z.size) with h | h
      · rw [List.getElem?_append_left (by rw [hsz]; exact h)]
        have h' : j < (k + 1) * z.size := by rw [Nat.add_mul]; omega
        simp [madeCells, h, h']
      · rw [List.getElem?_append_right (by rw [hsz]; exact h), hsz]
        rcases Nat.lt_or_ge j ((k + 1) * z.size) with h2 | h2
        · have hj : j - k * z.size < z.size := by rw [Nat.add_mul] at h2; omega
          have hm : j % z.size = j - k * z.size := by
            have : j = (j - k * z.size) + k * z.size := by omega
            rw [this, Nat.add_mul_mod_self_right, Nat.mod_eq_of_lt hj]
            omega
          simp only [madeCells, Array.getElem?_toList, Array.getElem?_map]
          rw [Array.getElem?_eq_getElem (by simpa using h2)]
          simp only [Array.getElem_range, Option.map_some, hm]
          rw [getElem!_pos z _ hj, Array.getElem?_eq_getElem hj]
        · have hj : ¬ j - k * z.size < z.size := by rw [Nat.add_mul] at h2; omega
          simp only [madeCells, Array.getElem?_toList, Array.getElem?_map]
          rw [Array.getElem?_eq_none (by simpa using h2), Array.getElem?_eq_none (by omega)]
          rfl
    rw [e, ih, List.replicate_succ', List.flatten_append]
    simp
theorem zeroCells_made (z : Array Value) (n : Nat) : Builtin.zeroCells z n = madeCells z (n * z.size) := rfl
section
variable {K : Konst} {S : St} {used : Id → Nat → Prop} {γ : Id → Value} {a : Act} {w : World} {o : Oper} {base : Id} {v : AV} {u : Ups} {l : List Id}
theorem new_own (h : Rel K S used γ a w) (hB : ∀ b, K.B b → b < K.base) (hid : ∀ v, ¬ used base v) {t : Ty} {rows : List t.den} {cap : Nat} {cells : Array Value} {e : TypeId} {w1 : World} (hw1 : w1 = w ∨ w1 = w.drew)
    (h1 : List.length rows ≤ cap) (h2 : cap ≤ maxLen) (h3 : cells.size = cap * t.size) (h4 : RowsR (DR w (okOf K (lookO S.objs) γ true) t) t.size (cells.toList.take (List.length rows * t.size)) rows)
    (hex : (execOp a.eval o).run K.P w = .ok (.value (.slice (some ⟨w.heap.size, 0, none⟩) (List.length rows) cap)) (w1.alloc (.cells cells e))) :
    Out K S used γ a w o (.own base 0) [(base, some (.sli 0 true t rows))] base := by
  have hbase : K.base ≤ w.heap.size := h.frame.size
  have hhp : w1.heap = w.heap ∧ w1.os = w.os ∧ w1.tape = w.tape ∧ w1.output = w.output := by rcases hw1 with rfl | rfl <;> exact ⟨rfl, rfl, rfl, rfl⟩
  have hnew : (w1.alloc (.cells cells e)).heap[w.heap.size]? = some (.cells cells e (0, 0)) := by
    have := heap_alloc_new w1 (.cells cells e)
    rw [hhp.1] at this
    exact this
  have hold : ∀ b, b < w.heap.size → (w1.alloc (.cells cells e)).heap[b]? = w.heap[b]? := fun b hb => by
    rw [heap_alloc_old w1 _ b (by rw [hhp.1]; exact hb), hhp.1]
  have hsize : w.heap.size ≤ (w1.alloc (.cells cells e)).heap.size := by simp [hhp.1]
  have hrel := h.new (w' := w1.alloc (.cells cells e)) (id := base) (o := .sli 0 true t rows) (hv := .slice (some ⟨w.heap.size, 0, none⟩) (List.length rows) cap) hid (fun g hg => by
      simp [liveBlk] at hg
      exact ⟨hg.symm, fun hb => by have := hB _ hb; omega⟩) hsize hold
    ⟨(by show w1.os = _; rw [hhp.2.1]; exact h.frame.os), (by show w1.tape = _; rw [hhp.2.2.1]; exact h.frame.tape), (by show w1.output = _; rw [hhp.2.2.2]; exact h.frame.output), Nat.le_trans h.frame.size hsize,
      fun b hb hbo => by rw [hold b (Nat.lt_of_lt_of_le hb hbase)]; exact h.frame.block b hb hbo⟩
    (fun E' hs' hE => by
      have hw' : E'.w = w1.alloc (.cells cells e) := by rw [hE]; rfl
      have hγ : E'.γ base = .slice (some ⟨w.heap.size, 0, none⟩) (List.length rows) cap := by rw [hE]; exact if_pos rfl
      refine .inr ⟨w.heap.size, cap, cells, e, hγ, by rw [hw']; exact hnew, h1, h2, h3, ?_, fun _ => hbase⟩
      exact h4.mono fun _ _ hd => DR.move (fun b hb ho => hs'.ok true b hb ho) hd)
  refine ⟨_, _, _, _, _, hex, .inl rfl, ?_, hrel, ?_⟩
  · exact vrel1_of (a := .own base 0) ⟨.inr ⟨rfl, rfl⟩, _, rfl, rfl, fun _ _ _ => (if_pos rfl : upd γ base (Value.slice (some ⟨w.heap.size, 0, none⟩) (List.length rows) cap) base = _).symm⟩ rfl rfl
  · rintro id' v2 (hv2 | ⟨rfl, rfl⟩)
    · exact .inl ⟨v2, hv2⟩
    · exact .inr ⟨rfl, rfl⟩
theorem new_full (h : Rel K S used γ a w) (hB : ∀ b, K.B b → b < K.base) (hid : ∀ v, ¬ used base v) {t : Ty} {rows : List t.den} {cells : Array Value} {e : TypeId} {w1 : World} (hw1 : w1 = w ∨ w1 = w.drew)
    (h2 : List.length rows ≤ maxLen) (h3 : cells.size = List.length rows * t.size) (h4 : RowsR (DR w (okOf K (lookO S.objs) γ true) t) t.size (cells.toList.take (List.length rows * t.size)) rows)
    (hex : (execOp a.eval o).run K.P w = .ok (.value (.slice (some ⟨w.heap.size, 0, none⟩) (List.length rows) (List.length rows))) (w1.alloc (.cells cells e))) :
    Out K S used γ a w o (.view base 0 0 (List.length rows) true) [(base, some (.sli 0 true t rows))] base := by
  have hbase : K.base ≤ w.heap.size := h.frame.size
  have hhp : w1.heap = w.heap ∧ w1.os = w.os ∧ w1.tape = w.tape ∧ w1.output = w.output := by rcases hw1 with rfl | rfl <;> exact ⟨rfl, rfl, rfl, rfl⟩
  have hnew : (w1.alloc (.cells cells e)).heap[w.heap.size]? = some (.cells cells e (0, 0)) := by
    have := heap_alloc_new w1 (.cells cells e)
    rw [hhp.1] at this
    exact this
  have hold : ∀ b, b < w.heap.size → (w1.alloc (.cells cells e)).heap[b]? = w.heap[b]? := fun b hb => by
    rw [heap_alloc_old w1 _ b (by rw [hhp.1]; exact hb), hhp.1]
  have hsize : w.heap.size ≤ (w1.alloc (.cells cells e)).heap.size := by simp [hhp.1]
  have hrel := h.new (w' := w1.alloc (.cells cells e)) (id := base) (o := .sli 0 true t rows) (hv := .slice (some ⟨w.heap.size, 0, none⟩) (List.length rows) (List.length rows)) hid (fun g hg => by
      simp [liveBlk] at hg
      exact ⟨hg.symm, fun hb => by have := hB _ hb; omega⟩) hsize hold
    ⟨(by show w1.os = _; rw [hhp.2.1]; exact h.frame.os), (by show w1.tape = _; rw [hhp.2.2.1]; exact h.frame.tape), (by show w1.output = _; rw [hhp.2.2.2]; exact h.frame.output), Nat.le_trans h.frame.size hsize,
      fun b hb hbo => by rw [hold b (Nat.lt_of_lt_of_le hb hbase)]; exact h.frame.block b hb hbo⟩
    (fun E' hs' hE => by
      have hw' : E'.w = w1.alloc (.cells cells e) := by rw [hE]; rfl
      have hγ : E'.γ base = .slice (some ⟨w.heap.size, 0, none⟩) (List.length rows) (List.length rows) := by rw [hE]; exact if_pos rfl
      refine .inr ⟨w.heap.size, List.length rows, cells, e, hγ, by rw [hw']; exact hnew, Nat.le_refl _, h2, h3, ?_, fun _ => hbase⟩
      exact h4.mono fun _ _ hd => DR.move (fun b hb ho => hs'.ok true b hb ho) hd)
  refine ⟨_, _, _, _, _, hex, .inl rfl, ?_, hrel, ?_⟩
  · refine vrel1_of (a := .view base 0 0 (List.length rows) true) ⟨.inr ⟨rfl, rfl⟩, _, rfl, rfl, fun t' n' hsl => ?_⟩ rfl rfl
    have hsl : isSl (lookO ((base, some (Obj.sli 0 true t rows)) :: S.objs) base) 0 t' n' := hsl
    rw [lookO_cons, if_pos rfl] at hsl
    obtain ⟨f2, r2, k1, k2⟩ := hsl
    rcases k2 with k2 | k2
    · cases k2
      exact ⟨Nat.zero_le _, by omega, _, _, rfl, Nat.le_refl _, h2, (fun h => by cases h), fun _ => ⟨w.heap.size, _, _, (if_pos rfl : upd γ base (Value.slice (some ⟨w.heap.size, 0, none⟩) (List.length rows) (List.length rows)) base = _), by rw [Nat.zero_mul]⟩, fun _ => rfl⟩
    · cases k2
  · rintro id' v2 (hv2 | ⟨rfl, rfl⟩)
    · exact .inl ⟨v2, hv2⟩
    · exact .inr ⟨rfl, rfl⟩
theorem makeFull_out (h : Rel K S used γ a w) (hB : ∀ b, K.B b → b < K.base) (hid : ∀ v, ¬ used base v) {T : TypeId} {x y : Operand} (ho : o.op = .makeSlice T x y) {t : Ty} (hT : tyB K.P (.slice t) T = true) {k k' : IntKind} {lo : Int}
    (hx : a.eval x = .int k lo) (hy : a.eval y = .int k' lo) (h0 : 0 ≤ lo) (hr : roomy lo.toNat t = true) : Out K S used γ a w o (.view base 0 0 lo.toNat true) [(base, some (.sli 0 true t (List.replicate lo.toNat t.zero)))] base := by
  obtain ⟨e, ht, he⟩ := tyB_slice hT
  obtain ⟨i, z, hi, hisz, hiby, hz, hzc, _⟩ := rowB_spec (tyB_row he)
  have hzs : z.cells.size = t.size := by rw [← Array.length_toList, hzc, zcells_len]
  obtain ⟨r1, r2, r3⟩ := roomy_spec hr
  have hrun := run_make (P := K.P) w T e i z ht hi hz k k' lo lo h0 (Int.le_refl _) (by
    have h1 : lo.toNat * i.bytes ≤ lo.toNat * (24 * t.size) := Nat.mul_le_mul_left _ hiby
    have h2 : ((lo.toNat * i.bytes : Nat) : Int) ≤ 140737488355328 := by omega
    rw [Int.natCast_mul, Int.toNat_of_nonneg (by omega)] at h2
    rw [Int.mul_comm]; omega) (by simp only [maxLen] at r2; omega)
  have hrows := made_rows hzc lo.toNat
  rw [hzs] at hrows
  rw [hisz] at hrun
  have hlen : (List.replicate lo.toNat t.zero).length = lo.toNat := by simp
  have := new_full (rows := List.replicate lo.toNat t.zero) h hB hid (cells := madeCells z.cells (lo.toNat * t.size)) (e := e) (o := o) (.inl rfl) (by rw [hlen]; exact r2) (by rw [hlen]; exact size_madeCells _ _) (by
      rw [hrows, hlen, List.take_of_length_le (by simp [zcells_len])]
      exact RowsR.replicate (zcells_len t) (DR.zero t) _)
    (by rw [hlen]; simp only [execOp, ho, hx, hy, Sem.run_bind, hrun, Result.andThen_ok, Sem.run_pure])
  rw [hlen] at this
  exact this
theorem makeSlice_out (h : Rel K S used γ a w) (hB : ∀ b, K.B b → b < K.base) (hid : ∀ v, ¬ used base v) {T : TypeId} {x y : Operand} (ho : o.op = .makeSlice T x y) {t : Ty} (hT : tyB K.P (.slice t) T = true) {k k' : IntKind} {lo c : Int}
    (hx : a.eval x = .int k lo) (hy : a.eval y = .int k' c) (h0 : 0 ≤ lo) (hlc : lo ≤ c) (hr : roomy c.toNat t = true) : Out K S used γ a w o (.own base 0) [(base, some (.sli 0 true t (List.replicate lo.toNat t.zero)))] base := by
  obtain ⟨e, ht, he⟩ := tyB_slice hT
  obtain ⟨i, z, hi, hisz, hiby, hz, hzc, _⟩ := rowB_spec (tyB_row he)
  have hzs : z.cells.size = t.size := by rw [← Array.length_toList, hzc, zcells_len]
  obtain ⟨r1, r2, r3⟩ := roomy_spec hr
  have hrun := run_make (P := K.P) w T e i z ht hi hz k k' lo c h0 hlc (by
    have h1 : c.toNat * i.bytes ≤ c.toNat * (24 * t.size) := Nat.mul_le_mul_left _ hiby
    have h2 : ((c.toNat * i.bytes : Nat) : Int) ≤ 140737488355328 := by omega
    rw [Int.natCast_mul, Int.toNat_of_nonneg (by omega)] at h2
    rw [Int.mul_comm]; omega) (by simp only [maxLen] at r2; omega)
  have hrows := made_rows hzc c.toNat
  rw [hzs] at hrows
  rw [hisz] at hrun
  have hlen : (List.replicate lo.toNat t.zero).length = lo.toNat := by simp
  refine new_own h hB hid (cap := c.toNat) (cells := madeCells z.cells (c.toNat * t.size)) (e := e) (.inl rfl) (by rw [hlen]; omega) r2 (size_madeCells _ _) ?_ (by rw [hlen]; simp only [execOp, ho, hx, hy, Sem.run_bind, hrun, Result.andThen_ok, Sem.run_pure])
  rw [hrows, hlen]
  have e1 : ((List.replicate c.toNat (zcells t)).flatten).take (lo.toNat * t.size) = (List.replicate lo.toNat (zcells t)).flatten := by
    have : c.toNat = lo.toNat + (c.toNat - lo.toNat) := by omega
    rw [this, ← List.replicate_append_replicate, List.flatten_append]
    refine List.take_left' ?_
    simp [zcells_len]
  rw [e1]
  exact RowsR.replicate (zcells_len t) (DR.zero t) _
theorem zero_run {P : Program} (w : World) (t tn ty e e' : TypeId) (i : TypeInfo) (z : Value) (kn kq : IntKind) (ht : P.underlying t = some (.slice e)) (htn : P.underlying tn = some (.int kn)) (hi : P.info? e = some i) (hz : i.zero = some z) (hzs : z.cells.size = i.size) (hpos : 0 < i.size)
    (h1 : ∀ u ∈ z.cells.toList, u.oneCell' = true)
    (s : Value) (n : Nat) (olds : List Value) (hs : (s = .slice none 0 0 ∧ n = 0 ∧ olds = []) ∨ ∃ g cap cur, s = .slice (some ⟨g, 0, none⟩) n cap ∧ w.heap[g]? = some (.cells cur e' (0, 0)) ∧ n ≤ cap ∧ cap ≤ maxLen ∧ cur.size = cap * i.size ∧
      cur.toList.take (n * i.size) = olds) (m : Nat) (h63 : n + m ≤ maxLen) (hbytes : (n + m) * i.bytes ≤ 140737488355328) :
    ∃ v' w', (Builtin.append_ #[t, tn] ty #[s, .int kq m]).run P w = .ok v' w' ∧ Grown w i.size e s n m olds (List.replicate m z.cells.toList).flatten v' w' := by
  have hw : IntKind.i64.wrap (m : Int) = m := by rw [IntKind.wrap_i64]; simp only [maxLen] at h63; omega
  have hneg : ¬ ((m : Int) < 0) := by omega
  have hmb : m * i.bytes ≤ (n + m) * i.bytes := Nat.mul_le_mul_right _ (by omega)
  have h48i : ¬ (281474976710656 < (m : Int) * (i.bytes : Int)) := by
    rw [← Int.natCast_mul]
    omega
  have hnews : ((List.replicate m z.cells.toList).flatten).length = m * i.size := by simp [hzs]
  have hzc : (Builtin.zeroCells z.cells m).toList = (List.replicate m z.cells.toList).flatten := by rw [zeroCells_made]; exact made_rows rfl m
  have one : ∀ u ∈ (List.replicate m z.cells.toList).flatten, u.oneCell' = true := fun u hu => by
    obtain ⟨l, hl, hu⟩ := List.mem_flatten.1 hu
    rw [List.eq_of_mem_replicate hl] at hu
    exact h1 u hu
  have grown : ∀ (old : Nat), olds.length = n * i.size →
      Grown w i.size e s n m olds (List.replicate m z.cells.toList).flatten (.slice (some ⟨w.heap.size, 0, none⟩) (n + m) (grownCap w (n + m) old e)) (w.drew.alloc (.cells (olds.toArray ++ Builtin.zeroCells z.cells m ++ Builtin.zeroCells z.cells (grownCap w (n + m) old e - (n + m))) e)) := by
    intro old hol
    have hge := grownCap_ge w (n + m) old e
    have hlen : (olds ++ (List.replicate m z.cells.toList).flatten).length = (n + m) * i.size := by rw [List.length_append, hol, hnews, Nat.add_mul]
    refine .fresh _ _ hge (grownCap_le_maxLen w (n + m) old e h63) ?_ ?_
    · simp only [Array.size_append, List.size_toArray, size_zeroCells, hzs, hol, ← Nat.add_mul]
      congr 1
      omega
    · simp only [Array.toList_append, List.append_assoc, hzc]
      rw [← List.append_assoc, ← hlen]
      exact List.take_left
  by_cases hm : m = 0
  · subst hm
    rcases hs with ⟨rfl, rfl, rfl⟩ | ⟨g, cap, cur, rfl, hg, hnc, hcm, hcs, htake⟩
    · refine ⟨_, _, ?_, .none rfl rfl rfl⟩
      simp [Builtin.append_, run_underlying ht, run_underlying htn, sizeOf, typeInfo, hi, Go.asInt, asIntOf, IntKind.wrap_i64]
    · have hfit : n * i.size ≤ cur.size := by rw [hcs]; exact Nat.mul_le_mul_right _ hnc
      refine ⟨_, _, ?_, .room g cap cur e' hg rfl (by simpa using hnc) (by simpa using hfit)⟩
      have hst := run_storeCells_at P g (n * i.size) e' [] 0 cur w hg (by simpa using hfit) (by simp)
      simp only [Nat.add_zero] at hst
      simp [Builtin.append_, run_underlying ht, run_underlying htn, sizeOf, typeInfo, hi, Go.asInt, asIntOf, IntKind.wrap_i64, hnc, Addr.add_lit, hst, splice]
  · have hns : ¬ (m = 0 ∨ i.size = 0) := by omega
    have hms : ¬ (m * i.size = 0) := Nat.mul_ne_zero hm (by omega)
    rcases hs with ⟨rfl, rfl, rfl⟩ | ⟨g, cap, cur, rfl, hg, hnc, hcm, hcs, htake⟩
    · refine ⟨_, _, ?_, grown 0 (by simp)⟩
      have hm0 : ¬ m = 0 := hm
      have h63' : ¬ (9223372036854775807 < (m : Int)) := by simp only [maxLen] at h63; omega
      have h48' : ¬ (281474976710656 < Builtin.nextslicecap m 0 * i.bytes) := by
        have := growslice_fits (need := m) (old := 0) (bytes := i.bytes) (by omega) (by simpa using hbytes)
        omega
      simp [Builtin.append_, run_underlying ht, run_underlying htn, sizeOf, typeInfo, zeroValue, hi, hz, Go.asInt, asIntOf, hw, hm0, hneg, hms, h63', h48', h48i, Question.forced, run_firstCells_none, newRow, grownCap]
    · have hol : olds.length = n * i.size := by
        rw [← htake, List.length_take, Array.length_toList, hcs]
        exact Nat.min_eq_left (Nat.mul_le_mul_right _ hnc)
      by_cases hroom : n + m ≤ cap
      · have hfit : n * i.size + ((List.replicate m z.cells.toList).flatten).length ≤ cur.size := by rw [hnews, hcs, ← Nat.add_mul]; exact Nat.mul_le_mul_right _ hroom
        refine ⟨_, _, ?_, .room g cap cur e' hg rfl hroom hfit⟩
        have hst := run_storeCells_at P g (n * i.size) e' _ 0 cur w hg (by simpa using hfit) one
        simp only [Nat.add_zero] at hst
        simp [Builtin.append_, run_underlying ht, run_underlying htn, sizeOf, typeInfo, zeroValue, hi, hz, Go.asInt, asIntOf, hw, hneg, hms, h48i, hroom, Addr.add_lit, hzc, hst, splice]
      · have holds : ∀ j u, olds[j]? = some u → w.drew.cell? ((⟨g, 0, none⟩ : Addr).add j) = some u := fun j u hj => by
          have := cells_at hg 0 (n * i.size) j u (by rw [List.drop_zero, htake]; exact hj)
          exact this
        have hfo := run_firstCells_some (P := P) w.drew i.size n ⟨g, 0, none⟩ n cap olds hol holds
        refine ⟨_, _, ?_, grown cap hol⟩
        have hn : ¬ (n + m ≤ cap) := hroom
        have h63' : ¬ (9223372036854775807 < ((n : Int) + (m : Int))) := by simp only [maxLen] at h63; omega
        have h48' : ¬ (281474976710656 < Builtin.nextslicecap (n + m) cap * i.bytes) := by
          have := growslice_fits (need := n + m) (old := cap) (bytes := i.bytes) (by omega) hbytes
          omega
        simp [Builtin.append_, run_underlying ht, run_underlying htn, sizeOf, typeInfo, zeroValue, hi, hz, Go.asInt, asIntOf, hw, hn, hneg, hms, h63', h48', h48i, Question.forced, hfo, newRow, grownCap]
theorem zcells_one : ∀ (t : Ty), ∀ u ∈ zcells t, u.oneCell' = true := fun t => DR.one (w := default) (ok := fun _ => True) (DR.zero t)
theorem appendZ_exec {T T' : TypeId} {x y : Operand} (ho : o.op = .call { callee := .builtin .append, args := #[x, y], argTypes := #[T, T'] }) {v' : Value} {w' : World}
    (hr : (Builtin.append_ #[T, T'] o.type #[a.eval x, a.eval y]).run K.P w = .ok v' w') : (execOp a.eval o).run K.P w = .ok (.value v') w' := by
  simp only [execOp, ho, resolve, invoke, builtin, Sem.run_bind, Sem.run_pure, Result.andThen_ok, List.map_toArray, List.map_cons, List.map_nil, hr]
theorem appendZ_out (h : Rel K S used γ a w) (hB : ∀ b, K.B b → b < K.base) (hid : ∀ v, ¬ used base v) {T T' : TypeId} {t : Ty} {x y : Operand} {n : Int} {k kn : IntKind}
    (ho : o.op = .call { callee := .builtin .append, args := #[x, y], argTypes := #[T, T'] }) (hx : constOK x = true) (hy : a.eval y = .int k n) (hT : tyB K.P (.slice t) T = true) (hT' : tyB K.P (.int kn) T' = true)
    (hl : Leads K.C S.objs (appendZ (S.eval x) n t base) [] (v, u) l) : Out K S used γ a w o v u base := by
  have hvx := eval_rel h x hx
  obtain ⟨e, ht, he⟩ := tyB_slice hT
  obtain ⟨i, z, hi, hisz, hiby, hz, hzc, _⟩ := rowB_spec (tyB_row he)
  have hzs : z.cells.size = i.size := by rw [← Array.length_toList, hzc, zcells_len, hisz]
  have hrows : ∀ (fr : Bool) (m : Nat), RowsR (DR w (okOf K (lookO S.objs) γ fr) t) t.size (List.replicate m z.cells.toList).flatten (List.replicate m t.zero) := fun fr m => by
    rw [hzc]
    exact RowsR.replicate (zcells_len t) (DR.zero t) m
  unfold appendZ at hl
  split at hl
  · rename_i id ver heq
    obtain ⟨ob, hob, hl⟩ := hl
    dsimp only at hl
    split at hl
    · rename_i ver' fr u' rows
      split at hl
      · rename_i old h1 hy1
        obtain rfl := Nat.eq_of_beq_eq_true h1
        obtain ⟨e1, rfl⟩ := castD_some hy1
        cases e1
        obtain ⟨hr, hl⟩ := leads_chk hl
        simp only [Bool.and_eq_true, decide_eq_true_eq] at hr
        obtain ⟨⟨hn0, hr⟩, hbare⟩ := hr
        obtain ⟨r1, r2, r3⟩ := roomy_spec hr
        obtain ⟨e1, _⟩ := hl; cases e1
        rw [heq] at hvx
        obtain ⟨hus, hna, hval⟩ := own_inv hvx
        have hval : a.eval x = γ id := hval t _ (isSl_of _ ver' fr t rows (.inl hob))
        obtain ⟨e', olds, hs, hro⟩ := own_row h e hob
        obtain ⟨v', w', q1, q2⟩ := zero_run (P := K.P) w T T' o.type e e' i z kn k ht (tyB_int hT') hi hz hzs (by rw [hisz]; exact r1) (by rw [hzc]; exact zcells_one t) (γ id) (List.length rows) olds (by
          rcases hs with hs | ⟨g, cap, cur, k1, k2, k3, k4, k5, k6, _⟩
          · exact .inl hs
          · exact .inr ⟨g, cap, cur, k1, k2, k3, k4, by rw [hisz]; exact k5, by rw [hisz]; exact k6⟩) n.toNat (by omega)
          (Nat.le_trans (Nat.mul_le_mul_left _ hiby) r3)
        rw [hisz] at q2
        have hlen : (List.replicate n.toNat t.zero).length = n.toNat := by simp
        rw [← hlen] at q2
        have := own_grown (o := o) (base := base) h hB hob ⟨_, hus⟩ hs hro (hrows true (List.replicate n.toNat t.zero).length |> fun h => by rw [hlen] at h ⊢; exact h) q2 (appendZ_exec ho (by rw [hval, hy]; rw [Int.toNat_of_nonneg hn0] at q1; exact q1))
        simpa using this
      · exact hl.elim
    · exact hl.elim
  · rename_i heq
    obtain ⟨hr, hl⟩ := leads_chk hl
    simp only [Bool.and_eq_true, decide_eq_true_eq] at hr
    obtain ⟨⟨hn0, hr⟩, hbare⟩ := hr
    obtain ⟨r1, r2, r3⟩ := roomy_spec hr
    obtain ⟨e1, _⟩ := hl; cases e1
    rw [heq] at hvx
    have hval : a.eval x = .slice none 0 0 := by
      obtain ⟨k1, k2⟩ := (show vrel1 _ .nils _ from hvx)
      rw [cells_one k2.symm] at k1
      simpa [ARc] using k1
    obtain ⟨v', w', q1, q2⟩ := zero_run (P := K.P) w T T' o.type e e i z kn k ht (tyB_int hT') hi hz hzs (by rw [hisz]; exact r1) (by rw [hzc]; exact zcells_one t) (.slice none 0 0) 0 [] (.inl ⟨rfl, rfl, rfl⟩) n.toNat (by omega)
      (Nat.le_trans (Nat.mul_le_mul_left _ hiby) (by simpa using r3))
    rw [hisz] at q2
    have hlen : (List.replicate n.toNat t.zero).length = n.toNat := by simp
    rw [← hlen] at q2
    have := nil_grown (o := o) (base := base) h hB hid (hrows true (List.replicate n.toNat t.zero).length |> fun h => by rw [hlen] at h ⊢; exact h) q2 (appendZ_exec ho (by rw [hval, hy]; rw [Int.toNat_of_nonneg hn0] at q1; exact q1))
    simpa using this
  · exact hl.elim
theorem ownCut_out (h : Rel K S used γ a w) (hB : ∀ b, K.B b → b < K.base) {T : TypeId} {x : Operand} {lo hi mx : Option Operand} {i j m : Option Int} (ho : o.op = .slice T x lo hi mx) (hx : constOK x = true)
    (hlo : ∀ x, lo = some x → constOK x = true) (hhi : ∀ x, hi = some x → constOK x = true) (hri : resolveI (lo.map S.eval) = some i) (hrj : resolveI (hi.map S.eval) = some j)
    (hmx : ∀ x, mx = some x → constOK x = true) (hrm : resolveI (mx.map S.eval) = some m)
    (hT : ∀ T t, K.G.ty T = some t → tyB K.P t T = true)
    (hsl : ∀ i' j', Leads K.C S.objs (sliceK3 (S.eval x) (K.G.ty T) i' j' m) [] (v, u) l → i' = i → j' = j → Out K S used γ a w o v u base)
    (hl : Leads K.C S.objs (ownCut (S.eval x) (K.G.ty T) i j m) [] (v, u) l) : Out K S used γ a w o v u base := by
  unfold ownCut at hl
  split at hl
  · rename_i id ver t' hh heq hG
    have hv := eval_rel h x hx
    rw [heq] at hv
    obtain ⟨hus, hna, hval⟩ := own_inv hv
    obtain ⟨ob, hob, hl⟩ := hl
    dsimp only at hl
    split at hl
    · rename_i ver' fr t rows
      cases hc : (Nat.beq ver' ver && Ty.beq t t') with
      | false => rw [hc] at hl; exact hl.elim
      | true =>
        rw [hc] at hl
        simp only [Bool.and_eq_true, Nat.beq_eq] at hc
        obtain ⟨rfl, h2⟩ := hc
        obtain rfl := Ty.beq_iff.1 h2
        obtain ⟨hq, hl⟩ := leads_chk hl
        simp only [Bool.and_eq_true, decide_eq_true_eq] at hq
        obtain ⟨e1, _⟩ := hl; cases e1
        have hval : a.eval x = γ id := hval t _ (isSl_of _ ver' fr t rows (.inl hob))
        obtain ⟨q, rfl⟩ : ∃ q : Nat, hh = q := ⟨hh.toNat, by omega⟩
        have hq2 : q ≤ rows.length := by have := hq.2; omega
        have hlo0 : lo.map a.eval = none := by
          cases lo with
          | none => rfl
          | some z =>
            simp only [Option.map_some, resolveI] at hri
            split at hri <;> cases hri
        have hmx0 : mx.map a.eval = none := by
          cases mx with
          | none => rfl
          | some z =>
            simp only [Option.map_some, resolveI] at hrm
            split at hrm <;> cases hrm
        obtain ⟨e, k1, k2⟩ := tyB_slice (hT _ _ hG)
        have hs := run_sizeOf' w k2
        have hrun : ∀ (ad : Option Addr) (len cap : Nat), q ≤ cap → (Instr.sliceAt T (.slice ad len cap) (lo.map a.eval) (hi.map a.eval) (mx.map a.eval)).run K.P w = .ok (.slice ad q cap) w := by
          intro ad len cap hqc
          have hb := run_bounds (P := K.P) w true (len := len) (cap := cap) (lo := 0) (hi := q) (l := lo.map a.eval) (h := hi.map a.eval) (.inl ⟨hlo0, rfl⟩) (resolve_bnd h hhi hrj (.inr rfl)) (Nat.zero_le _) hqc
          rw [hmx0]
          simp only [Instr.sliceAt, run_underlying k1, Instr.slice, Sem.run_bind, hb, hs, Result.andThen_ok, Sem.run_pure, Nat.zero_mul, Nat.sub_zero]
          cases ad with
          | none => simp
          | some ad => simp [Addr.add]
        have hown := h.objs id _ hob
        obtain ⟨hv', hrv, hO⟩ : ∃ hv', (Instr.sliceAt T (γ id) (lo.map a.eval) (hi.map a.eval) (mx.map a.eval)).run K.P w = .ok hv' w ∧
            ((hv' = .slice none 0 0 ∧ γ id = .slice none 0 0 ∧ rows = []) ∨ ∃ g cap cur e, γ id = .slice (some ⟨g, 0, none⟩) rows.length cap ∧ hv' = .slice (some ⟨g, 0, none⟩) q cap ∧ w.heap[g]? = some (.cells cur e (0, 0)) ∧
              rows.length ≤ cap ∧ cap ≤ maxLen ∧ cur.size = cap * t.size ∧ RowsR (DR w (okOf K (lookO S.objs) γ fr) t) t.size (cur.toList.take (rows.length * t.size)) rows ∧ (fr = true → K.base ≤ g)) := by
          rcases hown with ⟨p1, p2⟩ | ⟨g, cap, cur, e, p1, p2, p3, p4, p5, p6, p7⟩
          · have p1 : γ id = _ := p1
            subst p2
            obtain rfl : q = 0 := by simpa using hq2
            rw [p1]
            exact ⟨_, hrun none 0 0 (Nat.le_refl _), .inl ⟨rfl, rfl, rfl⟩⟩
          · have p1 : γ id = _ := p1
            have p3 : rows.length ≤ cap := p3
            rw [p1]
            exact ⟨_, hrun _ _ _ (by omega), .inr ⟨g, cap, cur, e, rfl, rfl, p2, p3, p4, p5, p6, p7⟩⟩
        have hrel := h.renew hB (fr' := fr) (rows' := rows.take q) hob (hv := hv') (w' := w) (Nat.le_refl _) (fun _ _ _ => rfl) ⟨rfl, rfl, rfl⟩
          (fun g hg => by
            rcases hO with ⟨p1, _, _⟩ | ⟨g', cap, cur, e, p1, p2, _⟩
            · rw [p1] at hg; simp [liveBlk] at hg
            · rw [p2] at hg
              rw [p1]
              exact .inl hg)
          (fun E' hs' hE => by
            have hw' : E'.w = w := by rw [hE]; rfl
            have hγ : E'.γ id = hv' := by rw [hE]; exact if_pos rfl
            show OwnC E' fr t (rows.take q) K.base (E'.γ id)
            rw [hγ]
            rcases hO with ⟨p1, _, p3⟩ | ⟨g, cap, cur, e, p1, p2, p3, p4, p5, p6, p7, p8⟩
            · exact .inl ⟨p1, by rw [p3]; simp⟩
            · have hl2 : (rows.take q).length = q := by simp; omega
              refine .inr ⟨g, cap, cur, e, by rw [hl2]; exact p2, by rw [hw']; exact p3, by rw [hl2]; omega, p5, p6, ?_, p8⟩
              rw [hl2]
              have := (p7.take q).mono fun _ _ hd => DR.move (fun b hb ho => hs'.ok fr b hb ho) hd
              rw [List.take_take, Nat.min_eq_left (Nat.mul_le_mul_right _ hq2)] at this
              exact this)
        refine ⟨_, hv', w, _, _, ?_, .inl rfl, ?_, hrel, ?_⟩
        · simp only [execOp, ho, hval, Sem.run_bind, hrv, Result.andThen_ok, Sem.run_pure]
        · have ha' : isAgg' hv' = false := by rcases hO with ⟨p1, _⟩ | ⟨_, _, _, _, _, p1, _⟩ <;> rw [p1] <;> rfl
          have h1' : hv'.oneCell' = true := by rcases hO with ⟨p1, _⟩ | ⟨_, _, _, _, _, p1, _⟩ <;> rw [p1] <;> rfl
          exact vrel1_of (a := .own id (ver' + 1)) ⟨.inr ⟨rfl, rfl⟩, hv', rfl, h1', fun _ _ _ => (if_pos rfl : upd γ id hv' id = hv').symm⟩ rfl ha'
        · rintro id' v2 (hv2 | ⟨rfl, rfl⟩)
          · exact .inl ⟨v2, hv2⟩
          · exact .inl ⟨_, hus⟩
    · exact hl.elim
  · exact hsl _ _ hl rfl rfl
end
end Go.Pon
set_option autoImplicit false
set_option linter.unusedVariables false
namespace Go.Pon
open Go
section
variable {K : Konst} {S : St} {used : Id → Nat → Prop} {γ : Id → Value} {a : Act} {w : World} {o : Oper} {base : Id} {v : AV} {u : Ups} {l : List Id}
theorem Rel.refreeze (h : Rel K S used γ a w) {id : Id} {ver : Nat} {fr : Bool} {t : Ty} {rows : List t.den} (ho : lookO S.objs id = some (.sli ver fr t rows)) {g n cap : Nat} (hγ : γ id = .slice (some ⟨g, 0, none⟩) n cap) {w' : World}
    (hsize : w'.heap.size = w.heap.size) (hkeep : ∀ b, b ≠ g → w'.heap[b]? = w.heap[b]?) (hos : w'.os = w.os ∧ w'.tape = w.tape ∧ w'.output = w.output)
    (hor : ∀ E', EStep (envOf K S.objs used γ w) E' → E' = envOf K ((id, some (.frz ver fr t rows)) :: S.objs) used γ w' → E'.ok fr g ∨ (fr = true ∧ ¬ K.base ≤ g) → OR K E' id (.frz ver fr t rows)) :
    Rel K { S with objs := (id, some (.frz ver fr t rows)) :: S.objs } used γ a w' := by
  have hlook : ∀ j, lookO ((id, some (Obj.frz ver fr t rows)) :: S.objs) j = if id = j then some (.frz ver fr t rows) else lookO S.objs j := fun j => lookO_cons ..
  have hg : liveBlk (lookO S.objs id) (γ id) = some g := by rw [ho, hγ]; rfl
  have hlv : ∀ j b, liveBlk (lookO ((id, some (Obj.frz ver fr t rows)) :: S.objs) j) (γ j) = some b → j ≠ id ∧ liveBlk (lookO S.objs j) (γ j) = some b := by
    intro j b hb
    rw [hlook] at hb
    by_cases e : id = j
    · rw [if_pos e] at hb; cases hb
    · rw [if_neg e] at hb
      exact ⟨fun e' => e e'.symm, hb⟩
  have hs : EStep (envOf K S.objs used γ w) (envOf K ((id, some (.frz ver fr t rows)) :: S.objs) used γ w') := by
    refine ⟨Nat.le_of_eq hsize.symm, fun f b hb hok => ⟨⟨fun j hj => hok.1 j (hlv j b hj).2, hok.2⟩, hkeep b fun e => hok.1 id (by rw [e]; exact hg)⟩, fun j v hj => hj, fun j v hj t' n' hsl => ?_, fun j hj t' hmm => ?_⟩
    · have hsl : isSl (lookO ((id, some (Obj.frz ver fr t rows)) :: S.objs) j) v t' n' := hsl
      rw [hlook] at hsl
      by_cases e : id = j
      · subst e
        rw [if_pos rfl] at hsl
        obtain ⟨f2, r2, h1, h2⟩ := hsl
        rcases h2 with h2 | h2
        · cases h2
        · cases h2
          exact ⟨⟨fr, rows, h1, .inl ho⟩, rfl⟩
      · rw [if_neg e] at hsl
        exact ⟨hsl, rfl⟩
    · have hmm : isMm (lookO ((id, some (Obj.frz ver fr t rows)) :: S.objs) j) t' := hmm
      rw [hlook] at hmm
      by_cases e : id = j
      · rw [if_pos e] at hmm
        obtain ⟨_, _, h2⟩ := hmm
        rcases h2 with h2 | h2 <;> cases h2
      · rw [if_neg e] at hmm
        exact ⟨hmm, rfl⟩
  refine h.move hs (fun j oj hj => ?_) (fun j oj hj => ?_) (fun j ver' f' t' rows2 v hj hu => ?_) (fun i j b hi hj => ?_) (fun i b hi => ?_) ?_
  · rw [hlook] at hj
    by_cases e : id = j
    · rw [if_pos e] at hj; cases hj; subst e
      refine hor _ hs rfl ?_
      by_cases hb : fr = true → K.base ≤ g
      · refine .inl ⟨fun j hj => ?_, (h.mod id g hg).2, hb⟩
        obtain ⟨q1, q2⟩ := hlv j g hj
        exact q1 (h.sep j id g q2 hg)
      · refine .inr ?_
        cases fr with
        | true => exact ⟨rfl, fun h2 => hb fun _ => h2⟩
        | false => exact absurd (fun h2 => by cases h2) hb
    · rw [if_neg e] at hj
      exact OR.step hs rfl (fun b hb => hkeep b fun eb => e (h.sep id j g hg (by rw [hj]; rw [← eb]; exact hb))) (h.objs j oj hj)
  · rw [hlook] at hj
    by_cases e : id = j
    · subst e; exact h.ou id _ ho
    · rw [if_neg e] at hj
      exact h.ou j oj hj
  · rw [hlook] at hj
    by_cases e : id = j
    · rw [if_pos e] at hj; cases hj
    · rw [if_neg e] at hj
      exact h.vers j ver' f' t' rows2 v hj hu
  · exact h.sep i j b (hlv i b hi).2 (hlv j b hj).2
  · exact h.mod i b (hlv i b hi).2
  · refine ⟨hos.1.trans h.frame.os, hos.2.1.trans h.frame.tape, hos.2.2.trans h.frame.output, by rw [hsize]; exact h.frame.size, fun b hb hbo => ?_⟩
    rw [hkeep b fun e => ?_]
    · exact h.frame.block b hb hbo
    · subst e
      rcases (h.mod id b hg).1 with h1 | h1
      · have : K.base = K.w0.heap.size := rfl
        omega
      · exact hbo h1
theorem freeze_other (w : World) (ad : Addr) (n b : Nat) (hb : b ≠ ad.block) : (w.freeze ad n).heap[b]? = w.heap[b]? := by
  unfold World.freeze
  split
  · rfl
  · simp only [Array.getElem?_modify]
    rw [if_neg (fun e => hb e.symm)]
theorem freeze_at (w : World) (g off n : Nat) {cur : Array Value} {e : TypeId} {fz : Nat × Nat} (h : w.heap[g]? = some (.cells cur e fz)) : ∃ fz', (w.freeze ⟨g, off, none⟩ n).heap[g]? = some (.cells cur e fz') := by
  unfold World.freeze
  split
  · exact ⟨fz, h⟩
  · simp only [Array.getElem?_modify, if_true, h, Option.map_some]
    exact ⟨_, rfl⟩
theorem freeze_size (w : World) (ad : Addr) (n : Nat) : (w.freeze ad n).heap.size = w.heap.size := by
  unfold World.freeze
  split
  · rfl
  · simp
theorem convSame_out (h : Rel K S used γ a w) {T : TypeId} {x : Operand} (ho : o.op = .convert T T x) (hx : constOK x = true) (h1 : tyB K.P (.slice (.int .u8)) T = true)
    (hl : Leads K.C S.objs (convSame (S.eval x)) [] (v, u) l) : Out K S used γ a w o v u base := by
  unfold convSame at hl
  split at hl
  · rename_i id ver heq
    have hv := eval_rel h x hx
    rw [heq] at hv
    obtain ⟨hus, hna, hval⟩ := own_inv hv
    obtain ⟨ob, hob, hl⟩ := hl
    dsimp only at hl
    split at hl
    · rename_i ver' fr t rows
      cases hc : (Nat.beq ver' ver && Ty.beq t (.int .u8)) with
      | false => rw [hc] at hl; exact hl.elim
      | true =>
        rw [hc] at hl
        simp only [Bool.and_eq_true, Nat.beq_eq] at hc
        obtain ⟨rfl, h2⟩ := hc
        obtain rfl := Ty.beq_iff.1 h2
        obtain ⟨hq, hl⟩ := leads_chk hl
        simp only [decide_eq_true_eq] at hq
        obtain ⟨e1, _⟩ := hl; cases e1
        have hval : a.eval x = γ id := hval _ _ (isSl_of _ ver' fr _ rows (.inl hob))
        obtain ⟨el, u1, u2⟩ := tyB_slice h1
        rcases h.objs id _ hob with ⟨p1, p2⟩ | ⟨g, cap, cur, e, p1, p2, p3, p4, p5, p6, p7⟩
        · subst p2; simp at hq
        · have p1 : γ id = _ := p1
          have p2 : w.heap[g]? = _ := p2
          have hrun : (convert T T (γ id)).run K.P w = .ok (γ id) (w.freeze ⟨g, cur.size, none⟩ 1) := by
            rw [p1]
            have hsh : w.shape? g = some (e, cur.size) := by simp [World.shape?, p2]
            simp only [convert, Sem.run_bind, run_underlying u1, run_underlying (tyB_int u2), Result.andThen_ok, beq_self_eq_true]
            simp [markStringish, shape, freeze, Sem.run, hsh]
          obtain ⟨fz, p8⟩ := freeze_at w g cur.size 1 p2
          have hrel := h.refreeze hob p1 (w' := w.freeze ⟨g, cur.size, none⟩ 1) (freeze_size ..) (fun b hb => freeze_other _ _ _ _ hb) (by unfold World.freeze; exact ⟨rfl, rfl, rfl⟩)
            (fun E' hs' hE hok => by
              have hw' : E'.w = w.freeze ⟨g, cur.size, none⟩ 1 := by rw [hE]; rfl
              have hγ : E'.γ id = γ id := by rw [hE]; rfl
              have hok : E'.ok fr g := by
                rcases hok with h3 | ⟨h3, h4⟩
                · exact h3
                · exact absurd (p7 h3) h4
              refine ⟨?_, ?_⟩
              · rw [hγ, p1]
                refine ⟨some ⟨g, 0, none⟩, cap, rfl, p3, p4, (fun h => by cases h), _, p6.mono fun _ _ hd => DR.move (fun b hb ho => hs'.ok fr b hb ho) hd, fun _ => ⟨⟨g, 0, none⟩, rfl, hok, fun j y hj => ?_⟩⟩
                rw [hw']
                simp only [World.cell?, add_block, p8]
                have : cur[j]? = some y := by
                  rw [List.getElem?_take] at hj
                  split at hj
                  · simpa using hj
                  · cases hj
                by_cases hj0 : j = 0 <;> simpa [Addr.add, hj0] using this
              · intro a' n' c' hh
                rw [hγ, p1] at hh
                cases hh
                exact ⟨rfl, rfl⟩)
          refine ⟨_, γ id, _, used, γ, ?_, .inl rfl, ?_, hrel, Grow.refl _ _⟩
          · simp only [execOp, ho, hval, Sem.run_bind, hrun, Result.andThen_ok, Sem.run_pure]
          · exact vrel1_of (a := .own id ver') ⟨hus, γ id, rfl, by rw [p1]; rfl, fun _ _ _ => rfl⟩ rfl (by rw [p1]; rfl)
    · exact hl.elim
  · exact hl.elim
end
end Go.Pon
set_option autoImplicit false
set_option linter.unusedVariables false
namespace Go.Pon
open Go
theorem roK_solid {α : Type} {C : CallD} {objs : Ups} {frz : Bool} {v : AV} {t : Ty} {c : Cl} {k : Bool → t.den → Cl → OpT α} {l0 l : List Id} {r : α} (hl : Leads C objs (roK frz v t c k) l0 r l) : solid v = true := by
  cases v
  case any => cases t <;> simp only [roK, rowsK, Leads] at hl
  case un => cases t <;> simp only [roK, rowsK, Leads] at hl
  case tup _ => cases t <;> simp only [roK, rowsK, Leads] at hl
  all_goals rfl
section
variable {K : Konst} {S : St} {used : Id → Nat → Prop} {γ : Id → Value} {a : Act} {w : World} {o : Oper} {base : Id} {v : AV} {u : Ups} {l : List Id}
theorem rows_splice {α : Type} {R : List Value → α → Prop} {n : Nat} {cs d : List Value} {xs : List α} {y : α} {i : Nat} (h : RowsR R n cs xs) (hi : i < xs.length) (hd : d.length = n) (hy : R d y) : RowsR R n (splice cs (i * n) d) (xs.set i y) := by
  have := h.set i hi d y hd hy
  unfold splice
  rwa [hd]
theorem buildRows_spec (h : Rel K S used γ a w) {t : Ty} {nn : Nat} : ∀ (ps : List (Nat × Operand)) (acc : List t.den) (fr : Bool) (c : Cl) (cells : Array Value) {k : List t.den → Bool → Cl → OpV} {l0 : List Id} {r : AV × Ups}, (∀ p ∈ ps, constOK p.2 = true ∧ p.1 < nn) →
    List.length acc = nn → CInv S true c → RowsR (DR w (okL K S γ c fr) t) t.size cells.toList acc →
    Leads K.C S.objs (buildRows t (ps.map fun p => (p.1, S.eval p.2)) acc fr c k) l0 r l →
    ∃ rows fr' c' l1 cells', Leads K.C S.objs (k rows fr' c') l1 r l ∧ CInv S true c' ∧ Ext c c' ∧ movedL c'.ups = movedL c.ups ∧ List.length rows = nn ∧
      Instr.fill (fun i => some (i * t.size, t.size)) cells (ps.map fun p => (p.1, a.eval p.2)) = some cells' ∧ cells'.size = cells.size ∧ RowsR (DR w (okL K S γ c' fr') t) t.size cells'.toList rows
  | [], acc, fr, c, cells, k, l0, r, _, hn, hc, hr, hl => ⟨acc, fr, c, l0, cells, hl, hc, Ext.refl c, rfl, hn, rfl, rfl, hr⟩
  | (i, x) :: ps, acc, fr, c, cells, k, l0, r, hp, hn, hc, hr, hl => by
    obtain ⟨p1, p2⟩ := hp (i, x) (List.mem_cons_self ..)
    simp only [List.map_cons, buildRows] at hl
    have hsol := roK_solid hl
    obtain ⟨f, y, c1, l1, hl, h1, h2, h3, h4, h5⟩ := roK_spec h (S.eval x) t hc hl
    obtain ⟨v1, v2⟩ := vrel_solid hsol (eval_rel h x p1)
    have hd := h5 _ v1
    have hlen := DR.len hd
    simp only [Array.length_toList] at hlen
    have hcl := hr.length
    simp only [Array.length_toList] at hcl
    have hfit : i * t.size + t.size ≤ cells.size := by
      rw [hcl, hn]
      have : (i + 1) * t.size ≤ nn * t.size := Nat.mul_le_mul_right _ p2
      rwa [Nat.add_mul, Nat.one_mul] at this
    have hfa := fold_arr (i * t.size) (a.eval x).cells cells (by omega)
    have hr1 : RowsR (DR w (okL K S γ c1 (fr && (f || t.flat))) t) t.size ((a.eval x).cells.zipIdx.foldl (fun cs (c, j) => cs.setIfInBounds (i * t.size + j) c) cells).toList (acc.set i y) := by
      rw [hfa]
      refine rows_splice (hr.mono fun _ _ hd => DR.mono (fun b hb => okL_mono h2 (by simp only [Bool.and_eq_true]; exact fun h => h.1) b hb) hd) (by rw [hn]; exact p2) (by simpa using hlen) ?_
      cases hft : t.flat with
      | true => exact DR.flat hft hd
      | false => exact hd.mono fun b hb => okL_mono (Ext.refl c1) (by simp only [Bool.and_eq_true, Bool.or_false]; exact fun h => h.2) b hb
    obtain ⟨rows, fr', c', l2, cells', g1, g2, g3, g4, g5, g6, g7, g8⟩ := buildRows_spec h ps (acc.set i y) _ c1 _ (fun p hm => hp p (List.mem_cons_of_mem _ hm)) (by simpa using hn) h1 hr1 hl
    refine ⟨rows, fr', c', l2, cells', g1, g2, h2.trans g3, g4.trans h3, g5, ?_, ?_, g8⟩
    · simp only [List.map_cons, Instr.fill]
      rw [if_neg (by simp; omega)]
      exact g6
    · have := congrArg List.length hfa
      rw [splice_len (by simp; omega)] at this
      simp only [Array.length_toList] at this
      rw [g7]
      exact this
theorem buildSlice_out (h : Rel K S used γ a w) (hB : ∀ b, K.B b → b < K.base) (hid : ∀ v, ¬ used base v) {T : TypeId} {n : Nat} {ps : Array (Nat × Operand)} {t : Ty} (ho : o.op = .buildSlice T n ps) (hc : ∀ p ∈ ps.toList, constOK p.2 = true ∧ p.1 < n)
    (hT : tyB K.P (.slice t) T = true) (hsm : n * t.size ≤ 16777216) (hpos : 0 < t.size)
    (hl : Leads K.C S.objs (buildRows t (mapE (fun p => (p.1, S.eval p.2)) ps.toList) (List.replicate n t.zero) true ⟨[], []⟩ fun rows fr c => .done (.own base 0, (base, some (.sli 0 fr t rows)) :: c.ups)) [] (v, u) l) :
    Out K S used γ a w o v u base := by
  rw [mapE_eq] at hl
  obtain ⟨e, ht, he⟩ := tyB_slice hT
  obtain ⟨i, z, hi, hisz, hiby, hz, hzc, _⟩ := rowB_spec (tyB_row he)
  have hzs : z.cells.size = t.size := by rw [← Array.length_toList, hzc, zcells_len]
  have hmade := made_rows hzc n
  rw [hzs] at hmade
  have hstart : RowsR (DR w (okL K S γ ⟨[], []⟩ true) t) t.size (madeCells z.cells (n * t.size)).toList (List.replicate n t.zero) := by
    rw [hmade]; exact RowsR.replicate (zcells_len t) (DR.zero t) n
  obtain ⟨rows, fr, c, l1, cells, hl, g2, g3, g4, g5, g6, g7, g8⟩ := buildRows_spec h ps.toList (List.replicate n t.zero) true ⟨[], []⟩ (madeCells z.cells (n * t.size)) hc (by simp) (CInv.start S true) hstart hl
  obtain ⟨e1, _⟩ := hl
  cases e1
  have hmv : movedL c.ups = [] := g4
  have hcsz : cells.size = n * t.size := by rw [g7]; exact size_madeCells _ _
  have hpl : (ps.map fun (i, x) => (i, a.eval x)).toList = ps.toList.map fun p => (p.1, a.eval p.2) := by simp
  have hrun : (Instr.buildSlice T n (ps.map fun (i, x) => (i, a.eval x))).run K.P w = .ok (.slice (some ⟨w.heap.size, 0, none⟩) n n) (w.alloc (.cells cells e)) := by
    have hsm' : ¬ n * i.size > 2 ^ 24 := by rw [hisz]; omega
    by_cases hn : n = 0
    · subst hn
      have hps : ps = #[] := by
        rcases Nat.eq_zero_or_pos ps.size with h0 | h0
        · exact Array.eq_empty_of_size_eq_zero h0
        · have := (hc ps[0] (by simp)).2
          omega
      subst hps
      have hcells : cells = #[] := Array.eq_empty_of_size_eq_zero (by rw [hcsz]; simp)
      subst hcells
      simp [Instr.buildSlice, run_underlying ht, sizeOf, typeInfo, hi, newRow, Instr.fill, Array.range_zero']
    · have hpos' : ¬ n * i.size = 0 := by rw [hisz]; exact Nat.mul_ne_zero hn (by omega)
      refine run_buildSlice w T e n _ cells i z ht hi hz hsm' hpos' ?_
      rw [hisz, hpl]
      exact g6
  have hex : (execOp a.eval o).run K.P w = .ok (.value (.slice (some ⟨w.heap.size, 0, none⟩) n n)) (w.alloc (.cells cells e)) := by
    simp only [execOp, ho, Sem.run_bind, hrun, Result.andThen_ok, Sem.run_pure]
  have hbase : K.base ≤ w.heap.size := h.frame.size
  have hold : ∀ b, b < w.heap.size → (w.alloc (.cells cells e)).heap[b]? = w.heap[b]? := fun b hb => heap_alloc_old w _ b hb
  obtain ⟨used', γ', r1, r2, r3⟩ := h.after hB g2 (w' := w.alloc (.cells cells e)) (M := [(base, .sli 0 fr t rows, .slice (some ⟨w.heap.size, 0, none⟩) n n)])
    (ok := fun f b => okL K S γ c f b ∧ b < w.heap.size) (by simp) (fun b hb _ => hold b hb) ⟨rfl, rfl, rfl⟩
    (fun p hp => by
      obtain rfl := List.mem_singleton.1 hp
      exact .inl hid)
    (fun p hp => by
      obtain rfl := List.mem_singleton.1 hp
      trivial)
    (by simp) (by simp [New.blk, liveBlk])
    (fun g hg => by
      simp [New.blk, liveBlk] at hg
      exact .inr (by omega))
    (fun f b ⟨hb, hlt⟩ => by
      refine ⟨?_, hb.2.1, hb.2.2, fun id hid' => ?_⟩
      · simp [New.blk, liveBlk]; omega
      · obtain ⟨j1, j2, j3⟩ := left_live (g2.left id) hid'
        have := lent_dead g2 (hb.1 id j1) (γ id)
        rw [this] at hid'
        cases hid')
    (fun K' E hp p hpm => by
      obtain rfl := List.mem_singleton.1 hpm
      obtain ⟨a1, a2, a3⟩ := hp.at_ _ (List.mem_singleton.2 rfl)
      have a2 : E.γ base = _ := a2
      refine .inr ⟨w.heap.size, n, cells, e, by rw [a2, g5], by rw [hp.w]; exact heap_alloc_new w _, by rw [g5]; exact Nat.le_refl _, ?_, hcsz, ?_, fun _ => by rw [hp.base]; exact hbase⟩
      · have : n * 1 ≤ n * t.size := Nat.mul_le_mul_left _ hpos
        simp only [maxLen]
        omega
      · rw [List.take_of_length_le (by rw [Array.length_toList, hcsz, g5]; exact Nat.le_refl _), hp.w]
        exact g8.mono fun _ _ hd => DR.move (fun b hb ho => ⟨hp.ok _ _ ⟨ho, hb⟩, hold b hb⟩) hd)
  have hob : appE (New.ups [(base, Obj.sli 0 fr t rows, Value.slice (some ⟨w.heap.size, 0, none⟩) n n)]) (appE c.ups S.objs) = appE ((base, some (.sli 0 fr t rows)) :: c.ups) S.objs := rfl
  rw [hob] at r1 r2
  refine ⟨_, _, _, used', γ', hex, .inl rfl, ?_, r1, fun id v hv => ?_⟩
  · obtain ⟨a1, a2, a3⟩ := r2.at_ _ (List.mem_singleton.2 rfl)
    have a2 : γ' base = _ := a2
    exact vrel1_of (a := .own base 0) ⟨a3, _, rfl, rfl, fun _ _ _ => a2.symm⟩ rfl rfl
  · rcases r3 id v hv with hv | ⟨p, hp, rfl⟩
    · exact .inl ⟨v, hv⟩
    · obtain rfl := List.mem_singleton.1 hp
      exact .inr ⟨rfl, rfl⟩
theorem buildArr_out (h : Rel K S used γ a w) (hB : ∀ b, K.B b → b < K.base) {T : TypeId} {n : Nat} {ps : Array (Nat × Operand)} {t : Ty} (ho : o.op = .build T ps) (hc : ∀ p ∈ ps.toList, constOK p.2 = true ∧ p.1 < n)
    (hT : tyB K.P (.arr n t) T = true)
    (hl : Leads K.C S.objs (buildRows t (mapE (fun p => (p.1, S.eval p.2)) ps.toList) (List.replicate n t.zero) true ⟨[], []⟩ fun rows fr c => .done (.d fr (.arr n t) rows, c.ups)) [] (v, u) l) :
    Out K S used γ a w o v u base := by
  rw [mapE_eq] at hl
  obtain ⟨inf, z, i1, i2, _, i3, i4, i5⟩ := rowB_spec (tyB_row hT)
  obtain ⟨e, u1, u2⟩ := tyB_arr hT
  obtain ⟨ie, ze, j1, j2, _⟩ := rowB_spec (tyB_row u2)
  have hstart : RowsR (DR w (okL K S γ ⟨[], []⟩ true) t) t.size z.cells.toList (List.replicate n t.zero) := by
    rw [i4]
    have hz : DR w (okL K S γ ⟨[], []⟩ true) (.arr n t) _ _ := DR.zero (.arr n t)
    exact hz.2
  obtain ⟨rows, fr, c, l1, cells, hl, g2, g3, g4, g5, g6, g7, g8⟩ := buildRows_spec h ps.toList (List.replicate n t.zero) true ⟨[], []⟩ z.cells hc (by simp) (CInv.start S true) hstart hl
  obtain ⟨e1, _⟩ := hl
  cases e1
  have hpl : (ps.map fun (i, x) => (i, a.eval x)).toList = ps.toList.map fun p => (p.1, a.eval p.2) := by simp
  have hcl : K.P.built T (ps.map fun (i, x) => (i, a.eval x)).toList = some cells := by
    rw [hpl]
    simp only [Program.built, i1, u1, i3, j1, j2]
    exact g6
  have hex : (execOp a.eval o).run K.P w = .ok (.value (.agg cells)) w := by
    simp only [execOp, ho, Sem.run_bind, run_build w T _ cells hcl, Result.andThen_ok, Sem.run_pure]
  obtain ⟨used', γ', r1, r2, r3⟩ := h.after hB g2 (w' := w) (M := []) (ok := fun f b => okL K S γ c f b) (Nat.le_refl _) (fun b hb _ => rfl) ⟨rfl, rfl, rfl⟩
    (fun p hp => by cases hp) (fun p hp => by cases hp) (by simp) (by simp [New.blk]) (fun g hg => by simp [New.blk] at hg)
    (fun f b hb => by
      refine ⟨by simp [New.blk], hb.2.1, hb.2.2, fun id hid' => ?_⟩
      obtain ⟨j1, j2, j3⟩ := left_live (g2.left id) hid'
      have := lent_dead g2 (hb.1 id j1) (γ id)
      rw [this] at hid'
      cases hid')
    (fun K' E hp p hpm => by cases hpm)
  have hob : appE (New.ups []) (appE c.ups S.objs) = appE c.ups S.objs := rfl
  rw [hob] at r1 r2
  refine ⟨_, _, _, used', γ', hex, .inl rfl, ?_, r1, fun id v hv => ?_⟩
  · refine vrel_fits (t := .arr n t) (by simp [fitsA, Ty.beq_iff]) ?_ rfl
    exact ⟨g5, g8.mono fun _ _ hd => DR.mono (fun b hb => r2.ok _ _ hb) hd⟩
  · rcases r3 id v hv with hv | ⟨p, hp, _⟩
    · exact .inl ⟨v, hv⟩
    · cases hp
end
end Go.Pon
set_option autoImplicit false
set_option linter.unusedVariables false
namespace Go.Pon
open Go
structure Konst.OK (K : Konst) : Prop where
  below : ∀ b, K.B b → b < K.base
  depth : 64 ≤ K.P.depth
  ty : ∀ T t, K.G.ty T = some t → tyB K.P t T = true
  sig : ∀ f s, K.G.sig f = some s → (∀ m ∈ s.ins, m.insOK = true) ∧ FnOK K.P f s (K.C f s)
def optOK : Option Operand → Bool
  | none => true
  | some x => constOK x
def opOK (o : Oper) : Bool :=
  match o.op with
  | .move x => constOK x
  | .assign x => constOK x
  | .pick c a b => constOK c && constOK a && constOK b
  | .alloc _ => true
  | .box _ x => constOK x
  | .build _ ps => allE (fun p => constOK p.2) ps.toList
  | .buildSlice _ n ps => allE (fun p => constOK p.2 && Nat.blt p.1 n) ps.toList
  | .makeSlice _ x y => constOK x && constOK y
  | .load _ a => constOK a
  | .store _ a x => constOK a && constOK x
  | .nilCheck x => constOK x
  | .binOp _ _ x y _ => constOK x && constOK y
  | .unOp _ _ x => constOK x
  | .convert _ _ x => constOK x
  | .slice _ x lo hi mx => constOK x && optOK lo && optOK hi && optOK mx
  | .fieldAddr _ x _ => constOK x
  | .field _ x _ => constOK x
  | .indexAddr _ x i => constOK x && constOK i
  | .index _ x i => constOK x && constOK i
  | .extract x _ => constOK x
  | .makeFunc _ _ caps => allE constOK caps.toList
  | .call c => allE constOK c.args.toList && (match c.callee with
    | .value x => constOK x
    | _ => true)
  | _ => true
section
variable {K : Konst} {S : St} {used : Id → Nat → Prop} {γ : Id → Value} {a : Act} {w : World} {o : Oper} {base : Id} {v : AV} {u : Ups} {l : List Id}
theorem ofOpt_leads {C : CallD} {objs : Ups} {x : Option AV} {l0 : List Id} (h : Leads C objs (ofOpt x) l0 (v, u) l) : x = some v ∧ u = [] := by
  cases x with
  | none => exact h.elim
  | some y => obtain ⟨e, _⟩ := h; cases e; exact ⟨rfl, rfl⟩
theorem elemTy_some {o : Option Ty} {t : Ty} (h : elemTy o = some t) : o = some (.slice t) := by
  unfold elemTy at h
  split at h
  · cases h; rfl
  · cases h
theorem op_out (h : Rel K S used γ a w) (hK : K.OK) (hu : ∀ v, ¬ used base v) (hop : opOK o = true) (hnc : ∀ c, o.op ≠ .call c) (hnv : ∀ s d x, o.op ≠ .convert s d x)
    (hl : Leads K.C S.objs (opTree K.G o S.eval base) [] (v, u) l) : Out K S used γ a w o v u base := by
  unfold opOK at hop
  unfold opTree at hl
  cases ho : o.op with
  | move x => rw [ho] at hl hop; obtain ⟨e, _⟩ := hl; cases e; exact move_out h (.inl ho) hop
  | assign x => rw [ho] at hl hop; obtain ⟨e, _⟩ := hl; cases e; exact move_out h (.inr ho) hop
  | pick c x y =>
    rw [ho] at hl hop
    simp only [Bool.and_eq_true] at hop
    dsimp only at hl
    split at hl
    · rename_i q hq
      exact pick_out h ho hop.1.1 hop.1.2 hop.2 hq hl
    · exact hl.elim
  | alloc e =>
    rw [ho] at hl
    dsimp only at hl
    split at hl
    · rename_i t ht
      obtain ⟨e, _⟩ := hl; cases e
      exact alloc_out h hK.below hu ho (hK.ty _ _ ht)
    · exact hl.elim
  | box e x =>
    rw [ho] at hl hop
    dsimp only at hl
    split at hl
    · rename_i t ht
      cases hf : fitsA t (S.eval x) with
      | false => rw [hf] at hl; exact hl.elim
      | true =>
        rw [hf] at hl
        obtain ⟨e, _⟩ := hl; cases e
        exact box_out h hK.below hu ho hop hf
    · exact hl.elim
  | build T ps =>
    rw [ho] at hl hop
    dsimp only at hl
    split at hl
    · rename_i t ht
      split at hl
      · rename_i n t
        cases hq : t.bare with
        | true =>
          rw [hq] at hl
          obtain ⟨e, rfl⟩ := ofOpt_leads hl
          exact build_out h ho (allE_iff.1 hop) (hK.ty _ _ ht) e
        | false =>
          rw [hq] at hl
          cases hr : allE (fun p : Nat × Operand => Nat.blt p.1 n) ps.toList with
          | false => rw [hr] at hl; exact hl.elim
          | true =>
            rw [hr] at hl
            exact buildArr_out h hK.below ho (fun p hp => ⟨allE_iff.1 hop p hp, by simpa only [Nat.blt_eq] using allE_iff.1 hr p hp⟩) (hK.ty _ _ ht) hl
      · obtain ⟨e, rfl⟩ := ofOpt_leads hl
        exact build_out h ho (allE_iff.1 hop) (hK.ty _ _ ht) e
    · exact hl.elim
  | buildSlice T n ps =>
    rw [ho] at hl hop
    dsimp only at hl
    split at hl
    · rename_i t ht
      cases hq : (Nat.ble (n * t.size) 16777216 && Nat.blt 0 t.size) with
      | false => rw [hq] at hl; exact hl.elim
      | true =>
        rw [hq] at hl
        simp only [Bool.and_eq_true, Nat.ble_eq, Nat.blt_eq] at hq
        refine buildSlice_out h hK.below hu ho (fun p hp => ?_) (hK.ty _ _ (elemTy_some ht)) hq.1 hq.2 hl
        have := allE_iff.1 hop p hp
        simpa only [Bool.and_eq_true, Nat.blt_eq] using this
    · exact hl.elim
  | makeSlice T x y =>
    rw [ho] at hl hop
    simp only [Bool.and_eq_true] at hop
    dsimp only at hl
    split at hl
    · rename_i t k lo k' c ht hx hy
      cases hcut : K.G.cut with
      | true =>
        rw [hcut] at hl
        obtain ⟨hq, hl⟩ := leads_chk hl
        simp only [Bool.and_eq_true, decide_eq_true_eq] at hq
        obtain ⟨e, _⟩ := hl; cases e
        obtain ⟨⟨⟨q1, q2⟩, q3⟩, q4⟩ := hq
        subst q2
        exact makeFull_out h hK.below hu ho (hK.ty _ _ (elemTy_some ht)) (asInt_spec hx (eval_rel h x hop.1)).1 (asInt_spec hy (eval_rel h y hop.2)).1 q1 q3
      | false =>
      rw [hcut] at hl
      obtain ⟨hq, hl⟩ := leads_chk hl
      simp only [Bool.and_eq_true, decide_eq_true_eq] at hq
      obtain ⟨e, _⟩ := hl; cases e
      exact makeSlice_out h hK.below hu ho (hK.ty _ _ (elemTy_some ht)) (asInt_spec hx (eval_rel h x hop.1)).1 (asInt_spec hy (eval_rel h y hop.2)).1 hq.1.1.1 hq.1.1.2 hq.1.2
    · exact hl.elim
  | load T x =>
    rw [ho] at hl hop
    dsimp only at hl
    split at hl
    · rename_i t ht
      exact loadK_out h ho hop (hK.ty _ _ ht) hl
    · exact hl.elim
  | store T x y =>
    rw [ho] at hl hop
    simp only [Bool.and_eq_true] at hop
    dsimp only at hl
    split at hl
    · rename_i t ht
      exact storeK_out h ho hop.1 hop.2 (hK.ty _ _ ht) hl
    · exact hl.elim
  | binOp op T x y T' =>
    rw [ho] at hl hop
    simp only [Bool.and_eq_true] at hop
    exact binK_out h ho hop.1 hop.2 hK.ty hK.depth hl
  | unOp op T x =>
    rw [ho] at hl hop
    exact unOp_out h ho hop hl
  | fieldAddr T x n =>
    rw [ho] at hl hop
    exact fieldAddrK_out h ho hop hK.ty hl
  | indexAddr T x i =>
    rw [ho] at hl hop
    simp only [Bool.and_eq_true] at hop
    dsimp only at hl
    split at hl
    · rename_i k n hi
      exact indexAddrK_out h ho hop.1 hK.ty (asInt_spec hi (eval_rel h i hop.2)).1 hl
    · exact hl.elim
  | field T x n =>
    rw [ho] at hl hop
    dsimp only at hl
    split at hl
    · rename_i t y ht hy
      cases hb : (fitsA t (S.eval x) && hasField t n) with
      | false => rw [hb] at hl; exact hl.elim
      | true =>
        rw [hb] at hl
        simp only [Bool.and_eq_true] at hb
        obtain ⟨e, _⟩ := hl; cases e
        exact field_out h ho hop (hK.ty _ _ ht) hy hb.1 hb.2
    · exact hl.elim
  | slice T x lo hi mx =>
    rw [ho] at hl hop
    simp only [Bool.and_eq_true] at hop
    dsimp only at hl
    split at hl
    · rename_i i j m h1 h2 h3
      have hlo : ∀ x, lo = some x → constOK x = true := fun x hx => by rw [hx] at hop; exact hop.1.1.2
      have hhi : ∀ x, hi = some x → constOK x = true := fun x hx => by rw [hx] at hop; exact hop.1.2
      have hmx : ∀ x, mx = some x → constOK x = true := fun x hx => by rw [hx] at hop; exact hop.2
      have key : Leads K.C S.objs (sliceK3 (S.eval x) (K.G.ty T) i j m) [] (v, u) l → Out K S used γ a w o v u base := by
        clear hl
        intro hl
        unfold sliceK3 at hl
        split at hl
        · exact sliceK_out h ho hop.1.1.1 hlo hhi h1 h2 hmx h3 (.inl rfl) hK.ty (fun h => by cases h) hl
        · split at hl
          · rename_i hh t hG
            obtain ⟨hq, hk⟩ := leads_chk hl
            simp only [decide_eq_true_eq] at hq
            subst hq
            rw [← hG] at hk
            exact sliceK_out h ho hop.1.1.1 hlo hhi h1 h2 hmx h3 (.inr ⟨rfl, t, hG⟩) hK.ty (fun _ h => by cases h) hk
          · exact hl.elim
      cases hcut : K.G.cut with
      | false => rw [hcut] at hl; exact key hl
      | true =>
        rw [hcut] at hl
        exact ownCut_out h hK.below ho hop.1.1.1 hlo hhi h1 h2 hmx h3 hK.ty (fun i' j' hk e1 e2 => by subst e1 e2; exact key hk) hl
    · exact hl.elim
  | extract x n =>
    rw [ho] at hl hop
    dsimp only at hl
    split at hl
    · rename_i t ht
      obtain ⟨e, rfl⟩ := ofOpt_leads hl
      exact extract_out h ho hop ht e
    · exact hl.elim
  | makeFunc fn first caps =>
    rw [ho] at hl hop
    cases fn with
    | func f =>
      obtain ⟨first⟩ := first
      cases first with
      | nil =>
        have hl : Leads K.C S.objs (bif allE oneB (mapE S.eval caps.toList) then .done (.fn f (chainA (mapE S.eval caps.toList)), []) else .fail) [] (v, u) l := hl
        cases hb : allE oneB (mapE S.eval caps.toList) with
        | false => rw [hb] at hl; exact hl.elim
        | true =>
          rw [hb] at hl
          obtain ⟨e, _⟩ := hl; cases e
          exact makeFunc_out h ho (allE_iff.1 hop) hb
      | cons _ _ => exact hl.elim
    | _ => exact hl.elim
  | nilCheck x =>
    rw [ho] at hl hop
    have hv := eval_rel h x hop
    dsimp only at hl
    split at hl
    · rename_i i p he
      obtain ⟨t, h1, h2⟩ := alive_mm h hl
      obtain ⟨e, _⟩ := h2; cases e
      rw [he] at hv
      obtain ⟨_, hp⟩ := ptr_inv hv
      obtain ⟨g, u', _, _, _, p4⟩ := hp t h1
      have := nilCheck_out h (base := base) ho hop p4
      rwa [he] at this
    · rename_i i ver j p he
      rw [he] at hv
      obtain ⟨_, hp⟩ := eptr_inv hv
      have key : ∀ t n, isSl (lookO S.objs i) ver t n → Out K S used γ a w o (.eptr i ver j p) [] base := fun t n hs => by
        obtain ⟨_, g, m, cp, u', _, _, _, p4⟩ := hp t n hs
        have := nilCheck_out h (base := base) ho hop p4
        rwa [he] at this
      obtain ⟨ob, hob, hl⟩ := hl
      dsimp only at hl
      split at hl
      · rename_i ver' fr t rows
        cases hb : Nat.beq ver' ver with
        | false => rw [hb] at hl; exact hl.elim
        | true =>
          rw [hb] at hl
          obtain ⟨e, _⟩ := hl; cases e
          obtain rfl := Nat.eq_of_beq_eq_true hb
          exact key t _ (isSl_of _ ver' fr t rows (.inl hob))
      · rename_i ver' fr t rows
        cases hb : Nat.beq ver' ver with
        | false => rw [hb] at hl; exact hl.elim
        | true =>
          rw [hb] at hl
          obtain ⟨e, _⟩ := hl; cases e
          obtain rfl := Nat.eq_of_beq_eq_true hb
          exact key t _ (isSl_of _ ver' fr t rows (.inr hob))
      · exact hl.elim
    · rename_i fr t y he
      obtain ⟨e, _⟩ := hl; cases e
      rw [he] at hv
      obtain ⟨ad, vs, p1, _⟩ := rptr_inv hv
      have := nilCheck_out h (base := base) ho hop p1
      rwa [he] at this
    · exact hl.elim
  | index T x i =>
    rw [ho] at hl hop
    simp only [Bool.and_eq_true] at hop
    dsimp only at hl
    split at hl
    · rename_i k n fr m t xs m' t' hi he ht
      cases hb : (Nat.beq m m' && Ty.beq t t') with
      | false => rw [hb] at hl; exact hl.elim
      | true =>
        rw [hb] at hl
        simp only [Bool.and_eq_true] at hb
        obtain rfl := Nat.eq_of_beq_eq_true hb.1
        obtain rfl := Ty.beq_iff.1 hb.2
        obtain ⟨h1, h2⟩ := leads_chk hl
        obtain ⟨e, _⟩ := h2; cases e
        exact index_arr_out h ho hop.1 (hK.ty _ _ ht) (asInt_spec hi (eval_rel h i hop.2)).1 he h1
    · rename_i k n fr xs hi he ht
      obtain ⟨h1, h2⟩ := leads_chk hl
      obtain ⟨e, _⟩ := h2; cases e
      exact index_str_out h ho hop.1 (hK.ty _ _ ht) (asInt_spec hi (eval_rel h i hop.2)).1 he h1
    · exact hl.elim
  | call c => exact absurd ho (hnc c)
  | convert s d x => exact absurd ho (hnv s d x)
  | _ => rw [ho] at hl; exact hl.elim
end
end Go.Pon
set_option autoImplicit false
set_option linter.unusedVariables false
namespace Go.Pon
open Go
section
variable {K : Konst} {S : St} {used : Id → Nat → Prop} {γ : Id → Value} {a : Act} {w : World} {o : Oper} {base : Id} {v : AV} {u : Ups} {l : List Id}
theorem oneB_spec {E : Env} {v : AV} {cs : List Value} (h : oneB v = true) (hr : ARc E v cs) : ∃ val, cs = [val] ∧ (isAgg' val = false → vrel E v val) ∧ val.oneCell' = true := by
  have key : ∀ val, cs = [val] → val.oneCell' = true → aggA v = false → solid v = true → ∃ val, cs = [val] ∧ (isAgg' val = false → vrel E v val) ∧ val.oneCell' = true :=
    fun val e h1 ha hs => ⟨val, e, fun hn => vrel_of1 hs ⟨by rw [cells_one hn, ← e]; exact hr, by rw [ha, hn]⟩, h1⟩
  cases v with
  | any => cases h
  | un => cases h
  | tup _ => cases h
  | pair _ _ => cases h
  | d fr t x =>
    have ht : t.agg = false := by simpa [oneB] using h
    have hl := DR.len (show DR _ _ _ cs x from hr)
    rw [one_size ht] at hl
    have h1 := DR.one (show DR _ _ _ cs x from hr)
    match cs, hl, h1 with
    | [val], _, h1 => exact key val rfl (h1 val (by simp)) ht rfl
  | nilp => exact key _ (show cs = _ from hr) rfl rfl rfl
  | nils => exact key _ (show cs = _ from hr) rfl rfl rfl
  | ub _ _ => obtain ⟨b, e, _⟩ := hr; exact key _ e rfl rfl rfl
  | own _ _ => obtain ⟨_, val, e, h1, _⟩ := hr; exact key _ e h1 rfl rfl
  | view _ _ _ _ _ => obtain ⟨_, val, e, h1, _⟩ := hr; exact key _ e h1 rfl rfl
  | mview _ _ _ _ => obtain ⟨_, val, e, h1, _⟩ := hr; exact key _ e h1 rfl rfl
  | ptr _ _ => obtain ⟨_, val, e, h1, _⟩ := hr; exact key _ e h1 rfl rfl
  | eptr _ _ _ _ => obtain ⟨_, val, e, h1, _⟩ := hr; exact key _ e h1 rfl rfl
  | rptr _ _ _ => obtain ⟨val, e, h1, _⟩ := hr; exact key _ e h1 rfl rfl
  | fn _ _ => obtain ⟨vs, e, _⟩ := hr; exact key _ e rfl rfl rfl
theorem unchain_spec {E : Env} : ∀ {c : AV} {cs : List AV} {vs : List Value}, unchainA c = some cs → ARc E c vs →
    vs.length = cs.length ∧ ∀ (i : Nat) (v : AV) (val : Value), cs[i]? = some v → vs[i]? = some val → vrel E v val := by
  intro c
  induction c with
  | d fr t x =>
    intro cs vs h hr
    cases t <;> simp only [unchainA] at h <;> try cases h
    rw [show vs = [] from hr]
    exact ⟨rfl, by simp⟩
  | pair p q _ ih =>
    intro cs vs h hr
    simp only [unchainA] at h
    cases hb : oneB p with
    | false => rw [hb] at h; cases h
    | true =>
      rw [hb] at h
      have h : (unchainA q).map (p :: ·) = some cs := h
      cases hq : unchainA q with
      | none => rw [hq] at h; cases h
      | some cs' =>
        rw [hq] at h; cases h
        obtain ⟨c1, c2, rfl, h1, h2⟩ := hr
        obtain ⟨val, rfl, k1, k2⟩ := oneB_spec hb h1
        obtain ⟨i1, i2⟩ := ih hq h2
        refine ⟨by simp [i1], fun i v val' e1 e2 => ?_⟩
        cases i with
        | zero => simp at e1 e2; subst e1 e2; exact k1 (one_not_agg k2)
        | succ i => exact i2 i v val' (by simpa using e1) (by simpa using e2)
  | _ => intro cs vs h _; simp only [unchainA] at h; cases h
theorem value_call_wp (h : Rel K S used γ a w) (hK : K.OK) (hu : ∀ id : Id, id.1 = base.1 → id.2.1 = base.2.1 → ∀ v, ¬ used id v) {c : Call} {x : Operand} (ho : o.op = .call c) (hc : c.callee = .value x) (hx : constOK x = true)
    (ha : ∀ y ∈ c.args.toList, constOK y = true) {f : FuncId} {c' : AV} {cs : List AV} (hf : S.eval x = .fn f c') (hcs : unchainA c' = some cs) (hd : ∀ d, o.dst = some d → K.dok d)
    (hl : Leads K.C S.objs (callA K.G f (appE (mapE S.eval c.args.toList) cs) base) [] (v, u) l) {Q : Exit → Act → World → Prop} {k : Act → World → Prop}
    (hk : ∀ used' γ' a' w', Grow used used' base → Rel K { S with env := putDst S.env o.dst v, objs := appE u S.objs } used' γ' a' w' → k a' w') : o.wp K.P a w k Q := by
  have hv := eval_rel h x hx
  rw [hf] at hv
  obtain ⟨⟨vs, e1, e2⟩, e3⟩ := (show vrel1 _ (.fn f c') _ from hv)
  have e3 : isAgg' (a.eval x) = false := e3.symm
  have ex : a.eval x = .func (.func f) #[] vs := by
    rw [cells_one e3] at e1
    simpa using e1
  obtain ⟨u1, u2⟩ := unchain_spec hcs e2
  unfold callA at hl
  split at hl
  · rename_i s hs
    obtain ⟨s1, s2⟩ := hK.sig f s hs
    rw [appE_eq, mapE_eq] at hl
    have hr := call_runs h hK.below s2 s1 (vals := c.args.toList.map a.eval ++ vs.toList) (by simp [← u1]) (fun i v val h1 h2 => by
      rcases Nat.lt_or_ge i c.args.toList.length with hi | hi
      · rw [List.getElem?_append_left (by simpa using hi)] at h1 h2
        rw [List.getElem?_map] at h1 h2
        obtain ⟨y, hy1, rfl⟩ := Option.map_eq_some_iff.1 h1
        rw [hy1] at h2
        cases h2
        exact eval_rel h y (ha y (List.mem_of_getElem? hy1))
      · rw [List.getElem?_append_right (by simpa using hi)] at h1 h2
        simp only [List.length_map] at h1 h2
        exact u2 _ v val h1 h2) hu hl
    have hex : (execOp a.eval o).run K.P w = (callFunc f (c.args.toList.map a.eval ++ vs.toList).toArray).run K.P w := by
      simp only [execOp, ho, resolve, hc, ex, Deferred.ofValue, Sem.run_bind, Sem.run_pure, Result.andThen_ok, invoke]
      congr 2
      apply Array.toList_inj.1
      simp
    have fin : ∀ val w', (∃ used' γ', vrel (envOf K (appE u S.objs) used' γ' w') v val ∧ Rel K { S with objs := appE u S.objs } used' γ' a w' ∧ Grow used used' base) → k (a.put o.dst val) w' := by
      rintro val w' ⟨used', γ', r1, r2, r3⟩
      exact hk used' γ' _ w' r3 (r2.put r1 o.dst hd)
    unfold Oper.wp
    rw [hex]
    rcases hr with ⟨h1, h2⟩ | ⟨val, w', h1, h2⟩
    · rw [h1, Oper.upon_enter]
      intro stack
      obtain ⟨e, w', fr, k1, k2⟩ := h2 stack
      refine ⟨e, w', fr, ?_, k2⟩
      cases e with
      | returned val => exact fin val w' k1
      | panicked _ => exact k1.elim
      | outgrown => exact k1.elim
    · rw [h1, Oper.upon_value]
      exact fin val w' h2
  · exact hl.elim
theorem bytes_rows {w : World} {ok : Nat → Prop} : ∀ {xs : List Int} {cs : List Value}, RowsR (DR w ok (.int .u8)) 1 cs xs → cs = xs.map (Value.int .u8) ∧ ∀ x ∈ xs, 0 ≤ x ∧ x ≤ 255
  | [], cs, h => ⟨by rw [show cs = [] from h]; rfl, by simp⟩
  | x :: xs, cs, ⟨h1, h2, h3⟩ => by
    obtain ⟨k1, k2⟩ := bytes_rows h3
    obtain ⟨e1, e2⟩ := h2
    refine ⟨?_, fun y hy => ?_⟩
    · rw [← List.take_append_drop 1 cs, e1, k1]; rfl
    · rcases List.mem_cons.1 hy with rfl | hy
      · exact e2
      · exact k2 y hy
theorem push_bytes : ∀ (ns : List Int) (b : ByteArray), (ns.foldl (fun r n => r.push (UInt8.ofNat n.toNat)) b).data.toList = b.data.toList ++ ns.map fun n => UInt8.ofNat n.toNat
  | [], b => by simp
  | n :: ns, b => by
    rw [List.foldl_cons, push_bytes ns]
    simp [ByteArray.push]
theorem bytes_back : ∀ (xs : List Int), (∀ x ∈ xs, 0 ≤ x ∧ x ≤ 255) → xs.map ((fun b : UInt8 => (b.toNat : Int)) ∘ fun n => UInt8.ofNat n.toNat) = xs
  | [], _ => rfl
  | n :: ns, r2 => by
    obtain ⟨b1, b2⟩ := r2 n (List.mem_cons_self ..)
    rw [List.map_cons, bytes_back ns (fun y hy => r2 y (List.mem_cons_of_mem _ hy))]
    congr 1
    show (((UInt8.ofNat n.toNat).toNat : Nat) : Int) = n
    rw [UInt8.toNat_ofNat_of_lt' (by show n.toNat < 256; omega)]
    omega
theorem conv_str_out (h : Rel K S used γ a w) {T T' : TypeId} {x : Operand} (ho : o.op = .convert T T' x) (hx : constOK x = true) (h1 : tyB K.P (.slice (.int .u8)) T = true) (h2 : tyB K.P .str T' = true)
    (hl : Leads K.C S.objs (rowsK (S.eval x) (.int .u8) ⟨[], []⟩ false fun _ x _ => .done (.d true .str x, [])) [] (v, u) l) : Out K S used γ a w o v u base := by
  have hv := eval_rel h x hx
  have hv := vrel_solid (rowsK_solid hl) hv
  obtain ⟨fr, xs, c', l1, ⟨e, _⟩, _, _, _, hag, hd⟩ := rowsK_spec h (CInv.start S false) hl
  cases e
  obtain ⟨v1, v2⟩ := hv
  rw [hag] at v2
  rw [cells_one v2.symm] at v1
  obtain ⟨ad, cap, e1, e2, e3, e4, rows, e5, e6⟩ := hd _ v1
  have e1 : a.eval x = .slice ad (List.length xs) cap := by simpa using e1
  obtain ⟨r1, r2⟩ := bytes_rows (w := w) e5
  obtain ⟨el, u1, u2⟩ := tyB_slice h1
  have hcv : (convert T T' (a.eval x)).run K.P w = (Conv.bytesToString (a.eval x)).run K.P w := by
    rw [e1]
    simp only [convert, Sem.run_bind, run_underlying u1, run_underlying (tyB_str h2), run_underlying (tyB_int u2), Result.andThen_ok]
  have hst : ∀ s : ByteArray, (Conv.bytesToString (a.eval x)).run K.P w = .ok (.string s) w → s.data.toList.map (fun b => (b.toNat : Int)) = xs → Out K S used γ a w o (.d true .str xs) [] base := by
    intro s hs hsx
    refine Out.pure h (val := .string s) (by simp only [execOp, ho, Sem.run_bind, hcv, hs, Result.andThen_ok, Sem.run_pure]) (vrel1_of (a := .d true .str xs) ⟨s, rfl, hsx.symm, ?_⟩ rfl rfl)
    have q1 : s.data.toList.length = List.length xs := by rw [← hsx, List.length_map]
    have q2 : s.size = s.data.toList.length := by rw [Array.length_toList]; rfl
    rw [q2, q1]
    exact Nat.le_trans e2 e3
  cases ad with
  | none =>
    have : cap = 0 := e4 rfl
    have hx0 : xs = [] := List.eq_nil_of_length_eq_zero (by omega)
    subst hx0
    exact hst .empty (by rw [e1]; simp [Conv.bytesToString]) rfl
  | some ad =>
    have hc : ∀ j y, (xs.map (Value.int .u8))[j]? = some y → w.cell? (ad.add j) = some y := by
      intro j y hj
      rw [← r1] at hj
      have hne : rows ≠ [] := by rintro rfl; simp at hj
      obtain ⟨ad', k1, _, k3⟩ := e6 hne
      cases k1
      exact k3 j y hj
    have hld := run_loadCells_list (P := K.P) w ad (xs.map (Value.int .u8)) hc
    rw [List.length_map] at hld
    refine hst _ (by rw [e1]; exact run_bytesToString w ad (List.length xs) cap xs hld) ?_
    rw [push_bytes, show (ByteArray.empty).data.toList = [] from rfl, List.nil_append, List.map_map]
    exact bytes_back xs r2
theorem mapE_one {f : Operand → AV} {xs : List Operand} {v : AV} (h : mapE f xs = [v]) : ∃ x, xs = [x] ∧ v = f x := by
  match xs, h with
  | [x], h => simp [mapE] at h; exact ⟨x, rfl, h.symm⟩
  | x :: y :: r, h => simp [mapE] at h
theorem mapE_two {f : Operand → AV} {xs : List Operand} {v w : AV} (h : mapE f xs = [v, w]) : ∃ x y, xs = [x, y] ∧ v = f x ∧ w = f y := by
  match xs, h with
  | [x, y], h => simp [mapE] at h; exact ⟨x, y, rfl, h.1.symm, h.2.symm⟩
  | [x], h => simp [mapE] at h
  | x :: y :: z :: r, h => simp [mapE] at h
theorem op_wp (h : Rel K S used γ a w) (hK : K.OK) (hu : ∀ id : Id, id.1 = base.1 → id.2.1 = base.2.1 → ∀ v, ¬ used id v) (hop : opOK o = true) (hd : ∀ d, o.dst = some d → K.dok d)
    (hl : Leads K.C S.objs (opTree K.G o S.eval base) [] (v, u) l) {Q : Exit → Act → World → Prop} {k : Act → World → Prop}
    (hk : ∀ used' γ' a' w', Grow used used' base → Rel K { S with env := putDst S.env o.dst v, objs := appE u S.objs } used' γ' a' w' → k a' w') : o.wp K.P a w k Q := by
  cases ho : o.op with
  | call c =>
    have hop0 := hop
    unfold opOK at hop
    unfold opTree at hl
    rw [ho] at hl hop
    simp only [Bool.and_eq_true] at hop
    dsimp only at hl
    split at hl
    · rename_i b hb
      split at hl
      · rename_i v1 hm
        split at hl
        · rename_i T hT
          obtain ⟨x, hx, rfl⟩ := mapE_one hm
          refine (lenK_out h (T := T) (x := x) ?_ (allE_iff.1 hop.1 x (by rw [hx]; simp)) hK.ty hl).wp hd hk
          rw [ho]
          congr 1
          obtain ⟨cal, args, tys⟩ := c
          simp only at hb hx hT ⊢
          rw [hb, ← Array.toArray_toList (xs := args), hx, ← Array.toArray_toList (xs := tys), hT]
        · exact hl.elim
      · rename_i v1 hm
        split at hl
        · rename_i T hT
          obtain ⟨x, hx, rfl⟩ := mapE_one hm
          split at hl
          · rename_i t heq hG
            obtain ⟨e, _⟩ := hl; cases e
            have hv := eval_rel h x (allE_iff.1 hop.1 x (by rw [hx]; simp))
            rw [heq] at hv
            have hval : a.eval x = .slice none 0 0 := by
              obtain ⟨k1, k2⟩ := (show vrel1 _ .nils _ from hv)
              rw [cells_one k2.symm] at k1
              simpa [ARc] using k1
            obtain ⟨e, he, _⟩ := tyB_slice (hK.ty _ _ hG)
            have hoc : o.op = .call { callee := .builtin .cap, args := #[x], argTypes := #[T] } := by
              rw [ho]
              congr 1
              obtain ⟨cal, args, tys⟩ := c
              simp only at hb hx hT ⊢
              rw [hb, ← Array.toArray_toList (xs := args), hx, ← Array.toArray_toList (xs := tys), hT]
            refine (Out.pure h (val := .int .i64 0) ?_ (mkInt_rel _ (inK_zero .i64))).wp hd hk
            simp only [execOp, hoc, resolve, invoke, builtin, Sem.run_bind, Sem.run_pure, Result.andThen_ok, List.map_toArray, List.map_cons, List.map_nil, hval]
            simp [Builtin.cap_, run_underlying he, goInt]
          · exact hl.elim
        · exact hl.elim
      · rename_i v1 v2 hm
        split at hl
        · rename_i T T' hT
          obtain ⟨x, y, hx, rfl, rfl⟩ := mapE_two hm
          split at hl
          · rename_i t he
            have hcx : constOK x = true := allE_iff.1 hop.1 x (by rw [hx]; simp)
            have hcy : constOK y = true := allE_iff.1 hop.1 y (by rw [hx]; simp)
            have hoc : o.op = .call { callee := .builtin .append, args := #[x, y], argTypes := #[T, T'] } := by
              rw [ho]
              congr 1
              obtain ⟨cal, args, tys⟩ := c
              simp only at hb hx hT ⊢
              rw [hb, ← Array.toArray_toList (xs := args), hx, ← Array.toArray_toList (xs := tys), hT]
            split at hl
            · rename_i hn
              obtain rfl := Nat.eq_of_beq_eq_true hn
              cases hcut : K.G.cut with
              | false =>
                rw [hcut] at hl
                exact (appendK_out h hK.below (fun v => hu base rfl rfl v) hoc hcx hcy (hK.ty _ _ (elemTy_some he)) hl).wp hd hk
              | true =>
                rw [hcut] at hl
                exact (appendO_out h hK.below (fun v => hu base rfl rfl v) hoc hcx hcy (hK.ty _ _ (elemTy_some he)) hl).wp hd hk
            · split at hl
              · rename_i kn k n hg hy
                exact (appendZ_out h hK.below (fun v => hu base rfl rfl v) hoc hcx (asInt_spec hy (eval_rel h y hcy)).1 (hK.ty _ _ (elemTy_some he)) (hK.ty _ _ hg) hl).wp hd hk
              · exact hl.elim
          · exact hl.elim
        · exact hl.elim
      · exact hl.elim
    · rename_i x hx
      rw [hx] at hop
      split at hl
      · rename_i f c' hf
        split at hl
        · rename_i cs hcs
          exact value_call_wp h hK hu ho hx hop.2 (allE_iff.1 hop.1) hf hcs hd hl hk
        · exact hl.elim
      · exact hl.elim
    · exact hl.elim
  | convert s d x =>
    unfold opOK at hop
    unfold opTree at hl
    rw [ho] at hl hop
    dsimp only at hl
    cases hsame : (Nat.beq s d && isBytes (K.G.ty s)) with
    | true =>
      rw [hsame] at hl
      simp only [Bool.and_eq_true, Nat.beq_eq] at hsame
      obtain ⟨rfl, hby⟩ := hsame
      have hty : K.G.ty s = some (.slice (.int .u8)) := by
        unfold isBytes at hby
        split at hby
        · assumption
        · cases hby
      exact (convSame_out h ho hop (hK.ty _ _ hty) hl).wp hd hk
    | false =>
    rw [hsame] at hl
    replace hl : Leads K.C S.objs (convK (K.G.ty s) (K.G.ty d) (S.eval x) base) [] (v, u) l := hl
    unfold convK at hl
    split at hl
    · rename_i k' fr k2 n hd2 he
      split at hl
      · rename_i k0 hs2
        obtain ⟨e, _⟩ := hl; cases e
        exact (conv_int_out h ho hop (hK.ty _ _ hs2) (hK.ty _ _ hd2) he).wp hd hk
      · exact hl.elim
    · rename_i v0 hd2
      cases hb : isBytes (K.G.ty s) with
      | false => rw [hb] at hl; exact hl.elim
      | true =>
        rw [hb] at hl
        unfold isBytes at hb
        split at hb
        · rename_i hs2
          exact (conv_str_out h ho hop (hK.ty _ _ hs2) (hK.ty _ _ hd2) hl).wp hd hk
        · cases hb
    · exact hl.elim
  | _ => exact (op_out h hK (fun v => hu base rfl rfl v) hop (by rw [ho]; intro c hc; cases hc) (by rw [ho]; intro s d x hc; cases hc) hl).wp hd hk
end
end Go.Pon
set_option autoImplicit false
set_option linter.unusedVariables false
namespace Go.Pon
open Go
structure Eqv (S S' : St) : Prop where
  next : S.next = S'.next
  env : ∀ t, look S.env t = look S'.env t
  objs : ∀ id, lookO S.objs id = lookO S'.objs id
theorem Eqv.refl (S : St) : Eqv S S := ⟨rfl, fun _ => rfl, fun _ => rfl⟩
theorem Eqv.symm {S S' : St} (h : Eqv S S') : Eqv S' S := ⟨h.next.symm, fun t => (h.env t).symm, fun t => (h.objs t).symm⟩
theorem Eqv.trans {S S' S'' : St} (h : Eqv S S') (k : Eqv S' S'') : Eqv S S'' := ⟨h.next.trans k.next, fun t => (h.env t).trans (k.env t), fun t => (h.objs t).trans (k.objs t)⟩
theorem Rel.eqv {K : Konst} {S S' : St} {used : Id → Nat → Prop} {γ : Id → Value} {a : Act} {w : World} (h : Rel K S used γ a w) (e : Eqv S S') : Rel K S' used γ a w := by
  have ho : lookO S.objs = lookO S'.objs := funext e.objs
  have hE : envOf K S.objs used γ w = envOf K S'.objs used γ w := by unfold envOf; rw [ho]
  refine ⟨h.size, h.defers, h.kept, fun t => ?_, fun id o hid => ?_, fun id o hid => h.ou id o ((e.objs id).trans hid), fun id ver fr t rows v hid => h.vers id ver fr t rows v ((e.objs id).trans hid), ?_, ?_, h.frame⟩
  · rw [← hE, ← e.env]; exact h.env t
  · rw [← hE]; exact h.objs id o ((e.objs id).trans hid)
  · rw [← ho]; exact h.sep
  · rw [← ho]; exact h.mod
theorem St.eval_eqv {S S' : St} (e : Eqv S S') : S.eval = S'.eval := by
  funext x
  cases x with
  | tmp t => exact e.env t
  | _ => rfl
theorem Leads.sub {α : Type} {C : CallD} {objs : Ups} : ∀ {t : OpT α} {l : List Id} {r : α} {l' : List Id}, Leads C objs t l r l' → ∀ id ∈ l, id ∈ l'
  | .fail, _, _, _, h, _, _ => h.elim
  | .done a, _, _, _, h, id, hi => h.2 ▸ hi
  | .br c t e, _, _, _, .inl ⟨_, h⟩, id, hi => Leads.sub h id hi
  | .br c t e, _, _, _, .inr ⟨_, h⟩, id, hi => Leads.sub h id hi
  | .get i f, _, _, _, ⟨o, _, h⟩, id, hi => Leads.sub h id (List.mem_cons_of_mem _ hi)
  | .call f s x g, _, _, _, ⟨y, _, h⟩, id, hi => Leads.sub h id hi
  | .opt _ o n s, _, _, _, .inl ⟨_, h⟩, id, hi => Leads.sub h id hi
  | .opt _ o n s, _, _, _, .inr ⟨y, _, h⟩, id, hi => Leads.sub h id hi
theorem Leads.congr {α : Type} {C : CallD} {objs objs' : Ups} : ∀ {t : OpT α} {l : List Id} {r : α} {l' : List Id}, Leads C objs t l r l' → (∀ id ∈ l', lookO objs' id = lookO objs id) → Leads C objs' t l r l'
  | .fail, _, _, _, h, _ => h
  | .done a, _, _, _, h, _ => h
  | .br c t e, _, _, _, .inl ⟨h0, h⟩, hi => .inl ⟨h0, Leads.congr h hi⟩
  | .br c t e, _, _, _, .inr ⟨h0, h⟩, hi => .inr ⟨h0, Leads.congr h hi⟩
  | .get i f, _, _, _, ⟨o, h0, h⟩, hi => ⟨o, (hi i (Leads.sub h i (List.mem_cons_self ..))).trans h0, Leads.congr h hi⟩
  | .call f s x g, _, _, _, ⟨y, h0, h⟩, hi => ⟨y, h0, Leads.congr h hi⟩
  | .opt _ o n s, _, _, _, .inl ⟨h0, h⟩, hi => .inl ⟨h0, Leads.congr h hi⟩
  | .opt _ o n s, _, _, _, .inr ⟨y, h0, h⟩, hi => .inr ⟨y, h0, Leads.congr h hi⟩
theorem mapE_congr {α β : Type} {f g : α → β} : ∀ {l : List α}, (∀ x ∈ l, f x = g x) → mapE f l = mapE g l
  | [], _ => rfl
  | a :: l, h => by simp only [mapE]; rw [h a (List.mem_cons_self ..), mapE_congr fun x hx => h x (List.mem_cons_of_mem _ hx)]
theorem opTree_congr {G : Ctx} {o : Oper} {ρ ρ' : Operand → AV} {base : Id} (h : ∀ x ∈ o.op.operands, ρ x = ρ' x) : opTree G o ρ base = opTree G o ρ' base := by
  have pairs : ∀ ps : Array (Nat × Operand), (∀ x ∈ (ps.toList.map (·.2)).toArray, ρ x = ρ' x) → mapE (fun p => (p.1, ρ p.2)) ps.toList = mapE (fun p => (p.1, ρ' p.2)) ps.toList := fun ps hp =>
    mapE_congr fun p hm => by rw [hp p.2 (by simp only [List.mem_toArray, List.mem_map]; exact ⟨p, hm, rfl⟩)]
  unfold opTree
  cases ho : o.op <;> rw [ho] at h <;> simp only [Op.operands] at h <;> try dsimp only
  case build t ps => rw [pairs ps h]
  case buildSlice t n ps => rw [pairs ps h]
  case makeFunc fn first captured =>
    have hc : mapE ρ captured.toList = mapE ρ' captured.toList := mapE_congr fun x hx => h x (by simp; exact .inr (by simpa using hx))
    obtain ⟨l⟩ := first
    cases fn with
    | func f => cases l with
      | nil => exact congrArg (fun m => (bif allE oneB m then OpT.done (AV.fn f (chainA m), []) else OpT.fail : OpV)) hc
      | cons _ _ => rfl
    | _ => rfl
  case call c =>
    have hargs : mapE ρ c.args.toList = mapE ρ' c.args.toList := mapE_congr fun x hx => h x (by simp [Call.operands]; exact .inr (by simpa using hx))
    rw [hargs]
    cases hc : c.callee with
    | value f => dsimp only; rw [h f (by simp [Call.operands, hc])]
    | _ => rfl
  case slice t x lo hi mx => cases lo <;> cases hi <;> cases mx <;> simp_all
  all_goals first | rfl | (simp_all; done)
structure Sp where
  i : Nat
  dst : Option Tmp
  v : AV
  u : Ups
  l : List Id
def St.app (S : St) (s : Sp) : St := { S with env := putDst S.env s.dst s.v, objs := appE s.u S.objs }
def unB : AV → Bool
  | .un => true
  | _ => false
def wantA (S : St) (ops : Array Oper) (o : Oper) : Option Bool :=
  match o.guard with
  | none => some true
  | some (j, want) => match dstOf (nthE ops.toList j) with
    | none => none
    | some d => match asBool (look S.env d) with
      | some b => some (b == want)
      | none => bif unB (look S.env d) then some false else none
def Stp (C : CallD) (G : Ctx) (ops : Array Oper) (S : St) (i : Nat) (o : Oper) (s : Sp) : Prop :=
  s.i = i ∧ s.dst = o.dst ∧ ((wantA S ops o = some true ∧ Leads C S.objs (opTree G o S.eval (S.next, i, 0)) [] (s.v, s.u) s.l) ∨
    (wantA S ops o = some false ∧ s.v = .un ∧ s.u = [] ∧ s.l = []))
theorem wantA_congr {S S' : St} {ops : Array Oper} {o : Oper} (h : ∀ j want d, o.guard = some (j, want) → dstOf (nthE ops.toList j) = some d → look S.env d = look S'.env d) : wantA S ops o = wantA S' ops o := by
  unfold wantA
  cases hg : o.guard with
  | none => rfl
  | some p =>
    obtain ⟨j, want⟩ := p
    dsimp only
    cases hd : dstOf (nthE ops.toList j) with
    | none => rfl
    | some d => dsimp only; rw [h j want d hg hd]
theorem Stp.eqv {C : CallD} {G : Ctx} {ops : Array Oper} {S S' : St} {i : Nat} {o : Oper} {s : Sp} (h : Stp C G ops S i o s) (e : Eqv S S') : Stp C G ops S' i o s := by
  refine ⟨h.1, h.2.1, ?_⟩
  rw [← wantA_congr (S := S) fun j want d _ _ => e.env d, ← St.eval_eqv e, ← e.next]
  rcases h.2.2 with ⟨h1, h2⟩ | h1
  · exact .inl ⟨h1, h2.congr fun id _ => (e.objs id).symm⟩
  · exact .inr h1
theorem app_eqv {S S' : St} (e : Eqv S S') (s : Sp) : Eqv (S.app s) (S'.app s) := by
  refine ⟨e.next, fun t => ?_, fun id => ?_⟩
  · simp only [St.app]
    cases s.dst with
    | none => exact e.env t
    | some d => simp only [putDst, look_cons, e.env t]
  · simp only [St.app, lookO_app, e.objs id]
inductive Tr (C : CallD) (G : Ctx) (ops : Array Oper) : List (Nat × Oper) → St → List Sp → St → Prop
  | nil (S : St) : Tr C G ops [] S [] S
  | cons (i : Nat) (o : Oper) (rest : List (Nat × Oper)) (S S1 : St) (s : Sp) (sps : List Sp) (S' : St) (h : Stp C G ops S i o s) (h1 : Eqv (S.app s) S1) (hr : Tr C G ops rest S1 sps S') : Tr C G ops ((i, o) :: rest) S (s :: sps) S'
def Sp.row (s : Sp) : Row := ⟨s.i, s.l, fsts s.u⟩
theorem refine_eqv {S : St} {d : Nat} {fr b : Bool} {q : Bool} (h : look S.env d = .d fr .bool b) (hq : b = q) : Eqv { S with env := (d, .d fr .bool q) :: S.env } S :=
  ⟨rfl, fun t => by
    show look ((d, AV.d fr .bool q) :: S.env) t = _
    rw [look_cons]
    by_cases e : d = t
    · rw [if_pos e, ← e, h, hq]
    · rw [if_neg e], fun _ => rfl⟩
theorem brR_some {α : Type} {c : Bool} {t e : Option α} {r : α} (h : brR c t e = some r) : (c = true ∧ t = some r) ∨ (c = false ∧ e = some r) := by
  cases c
  · exact .inr ⟨rfl, h⟩
  · exact .inl ⟨rfl, h⟩
theorem evalOps_tr {ω : Type} {C : CallD} {G : Ctx} {ops : Array Oper} {draw : Bool} {k : St → Option ω} {r : ω} : ∀ (lst : List (Nat × Oper)) (S : St) (rows : List Row),
    evalOps C G ops draw lst S rows k = some r →
    ∃ sps S', Tr C G ops lst S sps S' ∧ (draw = true → freeOK ops (befores ops.toList []) ((sps.map Sp.row).reverse ++ rows) = true) ∧ k { S' with next := Nat.succ S'.next } = some r
  | [], S, rows, h => by
    simp only [evalOps] at h
    rcases brR_some h with ⟨h1, h2⟩ | ⟨_, h2⟩
    · refine ⟨[], S, .nil S, fun hd => ?_, h2⟩
      subst hd
      simpa using h1
    · cases h2
  | (i, o) :: rest, S, rows, h => by
    have run : ∀ S0 : St, Eqv S0 S → wantA S0 ops o = some true →
        (interp C S0.objs (opTree G o S0.eval (S0.next, i, 0)) [] fun a l => evalOps C G ops draw rest { S0 with env := putDst S0.env o.dst a.1, objs := appE a.2 S0.objs } (⟨i, l, fsts a.2⟩ :: rows) k) = some r →
        ∃ sps S', Tr C G ops ((i, o) :: rest) S sps S' ∧ (draw = true → freeOK ops (befores ops.toList []) ((sps.map Sp.row).reverse ++ rows) = true) ∧ k { S' with next := Nat.succ S'.next } = some r := by
      intro S0 he hw hi
      obtain ⟨a, l, h1, h2⟩ := interp_leads hi
      obtain ⟨sps, S', k1, k2, k3⟩ := evalOps_tr rest _ _ h2
      refine ⟨⟨i, o.dst, a.1, a.2, l⟩ :: sps, S', .cons i o rest S _ _ sps S' ?_ (app_eqv he.symm _) k1, fun hd => ?_, k3⟩
      · exact Stp.eqv (S := S0) ⟨rfl, rfl, .inl ⟨hw, h1⟩⟩ he
      · have := k2 hd
        simpa [Sp.row] using this
    have skip : ∀ S0 : St, Eqv S0 S → wantA S0 ops o = some false →
        evalOps C G ops draw rest { S0 with env := putDst S0.env o.dst .un } (⟨i, [], []⟩ :: rows) k = some r →
        ∃ sps S', Tr C G ops ((i, o) :: rest) S sps S' ∧ (draw = true → freeOK ops (befores ops.toList []) ((sps.map Sp.row).reverse ++ rows) = true) ∧ k { S' with next := Nat.succ S'.next } = some r := by
      intro S0 he hw hi
      obtain ⟨sps, S', k1, k2, k3⟩ := evalOps_tr rest _ _ hi
      refine ⟨⟨i, o.dst, .un, [], []⟩ :: sps, S', .cons i o rest S _ _ sps S' ?_ (app_eqv he.symm _) k1, fun hd => ?_, k3⟩
      · exact Stp.eqv (S := S0) ⟨rfl, rfl, .inr ⟨hw, rfl, rfl, rfl⟩⟩ he
      · have := k2 hd
        simpa [Sp.row, fsts] using this
    simp only [evalOps] at h
    split at h
    · rename_i hg
      exact run S (Eqv.refl S) (by simp only [wantA, hg]) h
    · rename_i j want hg
      split at h
      · cases h
      · rename_i d hd
        split at h
        · rename_i fr b hl
          have hwant : ∀ q : Bool, b = q → wantA { S with env := (d, .d fr .bool q) :: S.env } ops o = some ((b : Bool) == want) := by
            intro q hq
            simp only [wantA, hg, hd, look_cons, if_true, hq, asBool]
          cases want with
          | true =>
            rcases brR_some h with ⟨h1, h2⟩ | ⟨h1, h2⟩
            · exact run _ (refine_eqv hl h1) (by rw [hwant true h1, h1]; rfl) h2
            · exact skip _ (refine_eqv hl h1) (by rw [hwant false h1, h1]; rfl) h2
          | false =>
            rcases brR_some h with ⟨h1, h2⟩ | ⟨h1, h2⟩
            · exact skip _ (refine_eqv hl h1) (by rw [hwant true h1, h1]; rfl) h2
            · exact run _ (refine_eqv hl h1) (by rw [hwant false h1, h1]; rfl) h2
        · rename_i hl
          exact skip S (Eqv.refl S) (by simp only [wantA, hg, hd, hl, asBool, unB, cond_true]) h
        · cases h
end Go.Pon
