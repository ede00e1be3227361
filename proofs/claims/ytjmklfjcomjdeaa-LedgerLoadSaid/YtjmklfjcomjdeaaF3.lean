/-
  Part of a proof: general lemmas, merged by a program of this work.
-/
import Derived.Below
import Derived.Carry
import Derived.ChangeOld
import Derived.Laws.Externs
import Derived.OpenShut
import Derived.ProofKit
import Derived.Shelf.Slices.Delete
import Derived.Shelf.Spec.SlicesInsertGrow
import Derived.WalkKit
import Derived.Test.YtjmklfjcomjdeaaF2
set_option autoImplicit false
set_option linter.unusedVariables false
namespace Go.Pon
open Go
def codeOK (ps : List Bool) (nt : Nat) : Code → Bool
  | .region _ ops _ => regOK ps nt ops
  | .seq a b => codeOK ps nt a && codeOK ps nt b
  | .cond c a b => constOK c && codeOK ps nt a && codeOK ps nt b
  | .block _ c => codeOK ps nt c
  | .loop c => codeOK ps nt c
  | _ => true
theorem allE_mem0 {α : Type} {f : α → Bool} : ∀ {l : List α}, allE f l = true → ∀ x ∈ l, f x = true
  | [], _, x, h => by cases h
  | a :: l, h, x, hx => by
    simp only [allE, Bool.and_eq_true] at h
    rcases List.mem_cons.1 hx with rfl | hx
    · exact h.1
    · exact allE_mem0 h.2 x hx
def LoopOK (L : LoopD) : Prop := ∀ (ω δ : Type) (round : (δ → Option ω) → δ → Option ω) (x : δ) (r : ω), L ω δ round x = some r → ∃ n, loopN round n x = some r
theorem bigLoop_ok : LoopOK bigLoop := fun _ _ _ _ _ h => ⟨bigN, by rw [bigLoop_def] at h; exact h⟩
def Inv (K : Konst) (S : St) (used : Id → Nat → Prop) (γ : Id → Value) (a : Act) (w : World) : Prop := Rel K S used γ a w ∧ ∀ id v, used id v → id.1 < S.next
theorem putSlots_look {a : Act} : ∀ (hs : List (Nat × MTy)) (vs : List AV), vs.length = hs.length → ∀ t, look (putSlots hs vs) t = .any ∨
    ∃ (i : Nat) (v : AV) (val : Value), vs[i]? = some v ∧ (hs.map fun p => a.tmps.getD p.1 undef)[i]? = some val ∧ look (putSlots hs vs) t = v ∧ a.tmps.getD t undef = val
  | [], [], _, t => .inl rfl
  | (s, m) :: hs, v :: vs, hlen, t => by
    simp only [putSlots, look_cons]
    by_cases e : s = t
    · rw [if_pos e]
      exact .inr ⟨0, v, a.tmps.getD s undef, rfl, rfl, rfl, by rw [e]⟩
    · rw [if_neg e]
      rcases putSlots_look (a := a) hs vs (by simpa using hlen) t with h | ⟨i, v', val, h1, h2, h3, h4⟩
      · exact .inl h
      · exact .inr ⟨i + 1, v', val, by simpa using h1, by simpa using h2, h3, h4⟩
theorem slotsOf_get (S : St) : ∀ (hs : List (Nat × MTy)), slotsOf S hs = hs.map fun p => look S.env p.1
  | [] => rfl
  | (i, _) :: hs => by simp [slotsOf, slotsOf_get S hs]
theorem MRL.len {w : World} {ok : Bool → Nat → Prop} {base : Nat} : ∀ {ms : List MTy} {vs : List Value} {x : denL ms} {bs : List Nat}, MRL w ok base ms vs x bs → vs.length = ms.length
  | [], _, _, _, ⟨h, _⟩ => by rw [h]; rfl
  | _ :: _, _, _, _, ⟨_, _, _, _, h, _, _, h2, _⟩ => by rw [h]; simp [MRL.len h2]
theorem least {p : Nat → Prop} (h : ∃ n, p n) : ∃ n, p n ∧ ∀ m, p m → n ≤ m := by
  obtain ⟨n, hn⟩ := h
  induction n using Nat.strongRecOn with
  | ind n ih =>
    by_cases hm : ∃ m, m < n ∧ p m
    · obtain ⟨m, h1, h2⟩ := hm
      exact ih m h1 h2
    · refine ⟨n, hn, fun m h2 => ?_⟩
      rcases Nat.lt_or_ge m n with h1 | h1
      · exact absurd ⟨m, h1, h2⟩ hm
      · exact h1
noncomputable def leastOf (p : Nat → Prop) : Nat := @dite Nat (∃ n, p n) (Classical.propDecidable _) (fun h => Classical.choose (least h)) (fun _ => 0)
theorem leastOf_spec {p : Nat → Prop} (h : ∃ n, p n) : p (leastOf p) ∧ ∀ m, p m → leastOf p ≤ m := by
  have : leastOf p = Classical.choose (least h) := dif_pos h
  rw [this]
  exact Classical.choose_spec (least h)
section
variable {K : Konst}
theorem region_wp (hK : K.OK) (hmix : K.P.follows .mixedOrders = true) {ω : Type} {k : St → Option ω} {r : ω} {id : Nat} {ops : Array Oper} {draw : Bool} (hreg : regOK (K.args.map (·.isSome)) K.nt ops = true)
    {Q : Exit → Act → World → Prop} (hQ : ∀ S used γ a w, Inv K S used γ a w → k S = some r → Q .normal a w) {S : St} {used : Id → Nat → Prop} {γ : Id → Value} {a : Act} {w : World}
    (h : Inv K S used γ a w) (he : evalOps K.C K.G ops draw (idxE 0 ops.toList) S [] k = some r) : (Code.region id ops draw).wp K.P Q a w := by
  obtain ⟨sps, S', ht, hfree, hk⟩ := evalOps_tr _ _ _ he
  have hnext : S'.next = S.next := by
    have := ht.get.1.next
    rw [rep_next] at this
    exact this.symm
  have hfin : ∀ used' γ' a' w', Rel K S' used' γ' a' w' → (∀ id v, used' id v → id.1 < S.next + 1) → Q .normal a' w' := fun used' γ' a' w' hr hu =>
    hQ { S' with next := Nat.succ S'.next } used' γ' a' w' ⟨⟨hr.size, hr.defers, hr.kept, hr.env, hr.objs, hr.ou, hr.vers, hr.sep, hr.mod, hr.frame⟩, fun id v hv => by
      show id.1 < S'.next + 1
      rw [hnext]; exact hu id v hv⟩ hk
  cases draw with
  | false =>
    refine wp_region ?_
    have hfst : (idxE 0 ops.toList).map (·.1) = List.range ops.size := by rw [idxE_fst, List.range_eq_range']; simp
    rw [← hfst]
    refine ord_wp hK hfin _ S sps ht (fun p hp => ?_) ?_ rfl used γ a w h.1 fun id v hv => .inl (h.2 id v hv)
    · obtain ⟨n, hn⟩ := List.getElem?_of_mem hp
      rw [idxE_nth] at hn
      obtain ⟨o, ho, rfl⟩ := Option.map_eq_some_iff.1 hn
      have ho : ops[n]? = some o := by simpa using ho
      obtain ⟨r1, r2, _⟩ := regOK_spec hreg ho
      exact ⟨by simpa using ho, r1, fun d hd => dok_of (r2 d hd)⟩
    · rw [hfst]; exact List.nodup_range
  | true =>
    refine wp_region_any hmix ?_
    refine any_wp hK ht hreg (hfree rfl) hfin ops.size _ used γ a _ (by simp) ?_ (fun i o _ hl => ?_) ?_ fun id v hv => .inl (h.2 id v hv)
    · unfold left
      refine Nat.le_trans (List.length_filter_le ..) ?_
      simp
    · exfalso
      simp only [Array.getD_eq_getD_getElem?, Array.getElem?_replicate] at hl
      split at hl <;> simp at hl
    · have hf : ∀ (l : List Sp) (S : St), rep (fun i => (Array.replicate ops.size false).getD i false) S l = S := by
        intro l
        induction l with
        | nil => intro S; rfl
        | cons x l ih =>
          intro S
          simp only [rep]
          have : (Array.replicate ops.size false).getD x.i false = false := by
            simp only [Array.getD_eq_getD_getElem?, Array.getElem?_replicate]
            split <;> rfl
          rw [this]
          exact ih S
      rw [hf]
      exact h.1.drawn _
theorem code_wp (hK : K.OK) (hmix : K.P.follows .mixedOrders = true) {L : LoopD} (hL : LoopOK L) {ω : Type} {r : ω} {f : FuncId} : ∀ (c : Code) (id : Nat) (kn : St → Option ω) (ke : Nat → St → Option ω) (kr : St → Option ω) (Q : Exit → Act → World → Prop),
    codeOK (K.args.map (·.isSome)) K.nt c = true → (∀ S used γ a w, Inv K S used γ a w → kn S = some r → Q .normal a w) → (∀ i S used γ a w, Inv K S used γ a w → ke i S = some r → Q (.exit i) a w) →
    (∀ S used γ a w, Inv K S used γ a w → kr S = some r → Q .ret a w) → ∀ S used γ a w, Inv K S used γ a w → evalCode K.C L K.G f c id kn ke kr S = some r → c.wp K.P Q a w := by
  intro c
  induction c with
  | skip => intro id kn ke kr Q _ hn _ _ S used γ a w h he; exact wp_skip (hn S used γ a w h he)
  | label l => intro id kn ke kr Q _ hn _ _ S used γ a w h he; exact wp_label (hn S used γ a w h he)
  | exit i => intro id kn ke kr Q _ _ hx _ S used γ a w h he; exact wp_exit (hx i S used γ a w h he)
  | ret => intro id kn ke kr Q _ _ _ hr S used γ a w h he; exact wp_ret (hr S used γ a w h he)
  | region i ops draw =>
    intro id kn ke kr Q hc hn _ _ S used γ a w h he
    simp only [evalCode] at he
    split at he
    · exact region_wp hK hmix hc hn h he
    · generalize hhs : K.G.hint f (Nat.add 1000000 i) = hs at he
      generalize K.G.ali f (Nat.add 1000000 i) = al at he
      unfold closeSt at he
      cases hal : allE (aliOne S) al with
      | false => rw [hal] at he; cases he
      | true =>
      rw [hal] at he
      have h0 : ∀ x ∈ al, AL a w x := fun x hx => ali_close h.1 (allE_mem0 hal x hx)
      obtain ⟨y, l, h1, h2⟩ := interp_leads he
      have hh : Head K (modesOf hs) (hs.map fun p => a.tmps.getD p.1 undef) y w := close_head h.1 (by simp [slotsOf_get]) (fun i v val e1 e2 => by
        rw [slotsOf_get, List.getElem?_map] at e1
        rw [List.getElem?_map] at e2
        obtain ⟨p, hp, rfl⟩ := Option.map_eq_some_iff.1 e1
        rw [hp] at e2; cases e2
        exact h.1.env p.1) h1
      obtain ⟨⟨vs, u⟩, l, q1, q2⟩ := interp_leads (show interp K.C [] (openL (modesOf hs) y (0, 0, 0) [] fun vs _ u => .done (vs, u)) [] _ = some r from h2)
      obtain ⟨used', γ', u1, u2, u3, u4⟩ := open_rel (a := a) hh h.1.size h.1.defers h.1.kept q1
      have hlen : vs.length = hs.length := by simpa using u2
      exact region_wp hK hmix hc hn ⟨rel_env (u4 (putSlots hs vs) (putSlots_look hs vs hlen)) (ali_open (u4 (putSlots hs vs) (putSlots_look hs vs hlen)) h0), fun id v hv => by rw [u1 id v hv]; exact Nat.zero_lt_one⟩ q2
  | seq x y ihx ihy =>
    intro id kn ke kr Q hc hn hx hr S used γ a w h he
    simp only [codeOK, Bool.and_eq_true] at hc
    refine wp_seq (ihx id _ ke kr (Exit.then (y.wp K.P Q) Q) hc.1 ?_ hx hr S used γ a w h he)
    intro S' used' γ' a' w' h' he'
    exact ihy id kn ke kr Q hc.2 hn hx hr S' used' γ' a' w' h' he'
  | cond o x y ihx ihy =>
    intro id kn ke kr Q hc hn hx hr S used γ a w h he
    simp only [codeOK, Bool.and_eq_true] at hc
    simp only [evalCode] at he
    split at he
    · rename_i fr q hq
      have hv := eval_rel h.1 o hc.1.1
      rw [hq] at hv
      have e := bool_rel hv
      rcases brR_some he with ⟨h1, h2⟩ | ⟨h1, h2⟩
      · exact wp_cond e (by rw [h1]; exact ihx id kn ke kr Q hc.1.2 hn hx hr S used γ a w h h2)
      · exact wp_cond e (by rw [h1]; exact ihy id kn ke kr Q hc.2 hn hx hr S used γ a w h h2)
    · rename_i e0 r0 hq
      have hv := eval_rel h.1 o hc.1.1
      rw [hq] at hv
      obtain ⟨⟨b, hb, hbr⟩, h2⟩ := (show vrel1 _ (.ub e0 r0) _ from hv)
      rw [cells_one h2.symm] at hb
      have e : a.eval o = .bool b := by simpa using hb
      rcases brR_some he with ⟨q1, q2⟩ | ⟨q1, q2⟩
      · obtain ⟨k1, k2⟩ := bothR_some q2
        exact wp_cond_split e (fun _ => ihx id kn ke kr Q hc.1.2 hn hx hr S used γ a w h k1) (fun _ => ihy id kn ke kr Q hc.2 hn hx hr S used γ a w h k2)
      · rcases brR_some q2 with ⟨h1, h2⟩ | ⟨h1, h2⟩
        · exact wp_cond e (by rw [hbr q1, h1]; exact ihx id kn ke kr Q hc.1.2 hn hx hr S used γ a w h h2)
        · exact wp_cond e (by rw [hbr q1, h1]; exact ihy id kn ke kr Q hc.2 hn hx hr S used γ a w h h2)
    · cases he
  | block i x ih =>
    intro id kn ke kr Q hc hn hx hr S used γ a w h he
    refine wp_block (ih i kn _ kr (Exit.inBlock i Q) hc hn ?_ hr S used γ a w h he)
    intro j S' used' γ' a' w' h' he'
    simp only [Exit.inBlock]
    by_cases hj : j = i
    · subst hj
      rw [if_pos rfl]
      rw [Nat.beq_refl] at he'
      exact hn S' used' γ' a' w' h' he'
    · rw [if_neg hj]
      have : Nat.beq j i = false := by rw [Bool.eq_false_iff]; exact fun e => hj (Nat.eq_of_beq_eq_true e)
      rw [this] at he'
      exact hx j S' used' γ' a' w' h' he'
  | loop x ih =>
    intro id kn ke kr Q hc hn hx hr S used γ a w h he
    let hs := K.G.hint f id
    let al := K.G.ali f id
    let round : (denL (modesOf hs) → Option ω) → denL (modesOf hs) → Option ω := fun again x' => openSt K.C al (modesOf hs) hs x'
      (evalCode K.C L K.G f x id (fun S => closeSt K.C al (modesOf hs) hs S again) ke kr)
    let P : Act → World → Nat → Prop := fun a w n => a.tmps.size = K.nt ∧ a.defers = [] ∧ (∀ (i : Nat) (v : Value), K.args[i]? = some (some v) → a.tmps.getD i undef = v) ∧
      (∀ x ∈ al, AL a w x) ∧ ∃ y, loopN round n y = some r ∧ Head K (modesOf hs) (hs.map fun p => a.tmps.getD p.1 undef) y w
    have hclose : ∀ S used γ a w (k : denL (modesOf hs) → Option ω), Inv K S used γ a w → closeSt K.C al (modesOf hs) hs S k = some r →
        (∀ x ∈ al, AL a w x) ∧ ∃ y, k y = some r ∧ Head K (modesOf hs) (hs.map fun p => a.tmps.getD p.1 undef) y w := by
      intro S used γ a w k h he
      unfold closeSt at he
      cases hal : allE (aliOne S) al with
      | false => rw [hal] at he; cases he
      | true =>
      rw [hal] at he
      refine ⟨fun x hx => ali_close h.1 (allE_mem0 hal x hx), ?_⟩
      obtain ⟨y, l, h1, h2⟩ := interp_leads he
      refine ⟨y, h2, close_head h.1 (by simp [slotsOf_get]) (fun i v val e1 e2 => ?_) h1⟩
      rw [slotsOf_get, List.getElem?_map] at e1
      rw [List.getElem?_map] at e2
      obtain ⟨p, hp, rfl⟩ := Option.map_eq_some_iff.1 e1
      rw [hp] at e2; cases e2
      exact h.1.env p.1
    have hstart : ∃ n, P a w n := by
      obtain ⟨h0, y, h1, h2⟩ := hclose S used γ a w _ h he
      obtain ⟨n, hn⟩ := hL _ _ _ _ _ h1
      exact ⟨n, h.1.size, h.1.defers, h.1.kept, h0, y, hn, h2⟩
    refine wp_loop (I := fun a w => ∃ n, P a w n) (μ := fun a w => leastOf (P a w)) hstart ?_
    intro a w hI
    obtain ⟨m1, m2⟩ := leastOf_spec hI
    generalize hn0 : leastOf (P a w) = n at m1 m2
    obtain ⟨p1, p2, p3, p0, y, p4, p5⟩ := m1
    cases n with
    | zero => cases p4
    | succ n =>
      rw [loopN_succ] at p4
      obtain ⟨⟨vs, u⟩, l, q1, q2⟩ := interp_leads (show interp K.C [] (openL (modesOf hs) y (0, 0, 0) [] fun vs _ u => .done (vs, u)) [] _ = some r from p4)
      obtain ⟨used', γ', u1, u2, u3, u4⟩ := open_rel (a := a) p5 p1 p2 p3 q1
      have hlen : vs.length = hs.length := by simpa using u2
      refine ih id _ ke kr (Exit.then (fun a' w' => (∃ n, P a' w' n) ∧ leastOf (P a' w') < n + 1) Q) hc ?_ hx hr _ used' γ' a w ⟨rel_env (u4 (putSlots hs vs) (putSlots_look hs vs hlen)) (ali_open (u4 (putSlots hs vs) (putSlots_look hs vs hlen)) p0), fun id v hv => ?_⟩ q2
      · intro S'' used'' γ'' a'' w'' h'' he''
        obtain ⟨h0, y', h1, h2⟩ := hclose S'' used'' γ'' a'' w'' _ h'' he''
        have hP : P a'' w'' n := ⟨h''.1.size, h''.1.defers, h''.1.kept, h0, y', h1, h2⟩
        refine ⟨⟨n, hP⟩, ?_⟩
        have := (leastOf_spec ⟨n, hP⟩).2 n hP
        omega
      · rw [u1 id v hv]; exact Nat.zero_lt_one
  | _ => intro id kn ke kr Q hc hn hx hr S used γ a w h he; cases he
end
end Go.Pon
set_option autoImplicit false
set_option linter.unusedVariables false
namespace Go.Pon
open Go
structure Sure (P : Program) (G : Ctx) (C : CallD) : Prop where
  depth : 64 ≤ P.depth
  mix : P.follows .mixedOrders = true
  ty : ∀ T t, G.ty T = some t → tyB P t T = true
  sig : ∀ f s, G.sig f = some s → (∀ m ∈ s.ins, m.insOK = true) ∧ FnOK P f s (C f s)
def ptrsOf : List MTy → List Bool
  | [] => []
  | m :: ms => (match m with
    | .ptr _ => true
    | .optr _ => true
    | _ => false) :: ptrsOf ms
def keepL : List MTy → List Value → List (Option Value)
  | m :: ms, v :: vs => (match m with
    | .ptr _ => some v
    | .optr _ => some v
    | _ => none) :: keepL ms vs
  | _, _ => []
theorem keepL_ptrs : ∀ (ms : List MTy) (vs : List Value), vs.length = ms.length → (keepL ms vs).map (·.isSome) = ptrsOf ms
  | [], [], _ => rfl
  | m :: ms, v :: vs, h => by
    simp only [keepL, ptrsOf, List.map_cons, keepL_ptrs ms vs (by simpa using h)]
    cases m <;> rfl
theorem keepL_get : ∀ (ms : List MTy) (vs : List Value) (i : Nat) (v : Value), (keepL ms vs)[i]? = some (some v) → vs[i]? = some v
  | [], _, _, _, h => by simp [keepL] at h
  | _ :: _, [], _, _, h => by simp [keepL] at h
  | m :: ms, v :: vs, 0, v', h => by
    cases m <;> simp_all [keepL]
  | m :: ms, v :: vs, i + 1, v', h => by
    have := keepL_get ms vs i v' (by simpa [keepL] using h)
    simpa using this
theorem keepL_ptr : ∀ (ms : List MTy) (vs : List Value) (i : Nat) (m : MTy) (v : Value), ms[i]? = some m → vs[i]? = some v → ((∃ m', m = .ptr m') ∨ ∃ m', m = .optr m') → (keepL ms vs)[i]? = some (some v)
  | [], _, _, _, _, h, _, _ => by simp at h
  | _ :: _, [], _, _, _, _, h, _ => by simp at h
  | m :: ms, v :: vs, 0, m', v', h1, h2, h3 => by
    simp at h1 h2
    subst h1 h2
    rcases h3 with ⟨_, rfl⟩ | ⟨_, rfl⟩ <;> rfl
  | m :: ms, v :: vs, i + 1, m', v', h1, h2, h3 => by
    simpa [keepL] using keepL_ptr ms vs i m' v' (by simpa using h1) (by simpa using h2) h3
def funcOK (s : Sig) (fn : Func) (c : Code) : Bool :=
  (fn.name != "runtime.NumGoroutine") && codeOK (ptrsOf s.ins) fn.ntmps c && Nat.ble s.ins.length fn.ntmps
def resVal (tmps : Array Value) : ResultVar → Sem Value
  | .tmp t => pure (tmps.getD t undef)
  | .cell a t => do loadVar t (← asAddr (tmps.getD a undef))
section
variable {K : Konst} {S : St} {used : Id → Nat → Prop} {γ : Id → Value} {a : Act} {w : World}
theorem resultsK_spec (h : Rel K S used γ a w) (hK : K.OK) {α : Type} : ∀ (rvs : List ResultVar) {k : List AV → OpT α} {l0 l : List Id} {r : α}, Leads K.C S.objs (resultsK K.G S rvs k) l0 r l →
    ∃ (vs : List AV) (l1 : List Id) (vals : List Value), Leads K.C S.objs (k vs) l1 r l ∧ vals.length = vs.length ∧ (∀ (i : Nat) (v : AV) (val : Value), vs[i]? = some v → vals[i]? = some val → vrel (envOf K S.objs used γ w) v val) ∧
      (rvs.mapM (resVal a.tmps)).run K.P w = .ok vals w
  | [], k, l0, l, r, hl => ⟨[], l0, [], hl, rfl, by simp, by simp⟩
  | .tmp t :: rvs, k, l0, l, r, hl => by
    obtain ⟨vs, l1, vals, h1, h2, h3, h4⟩ := resultsK_spec h hK rvs (k := fun vs => k (look S.env t :: vs)) hl
    refine ⟨look S.env t :: vs, l1, a.tmps.getD t undef :: vals, h1, by simp [h2], fun i v val e1 e2 => ?_, by simp [List.mapM_cons, resVal, h4]⟩
    cases i with
    | zero => simp at e1 e2; subst e1 e2; simpa using h.env t
    | succ i => exact h3 i v val (by simpa using e1) (by simpa using e2)
  | .cell b e :: rvs, k, l0, l, r, hl => by
    simp only [resultsK] at hl
    split at hl
    · rename_i t id path ht hlk
      have key : ∀ (fr : Bool) (u w' : Ty) (c v : AV), (lookO S.objs id = some (.mem fr u c) ∨ lookO S.objs id = some (.mfz fr u c)) → tyAt u path = some w' → navA c path = some v → ∀ l0,
          Leads K.C S.objs (bif Ty.beq w' t && fitsA t v then resultsK K.G S rvs fun vs => k (v :: vs) else .fail) l0 r l →
          ∃ (vs : List AV) (l1 : List Id) (vals : List Value), Leads K.C S.objs (k vs) l1 r l ∧ vals.length = vs.length ∧ (∀ (i : Nat) (v : AV) (val : Value), vs[i]? = some v → vals[i]? = some val → vrel (envOf K S.objs used γ w) v val) ∧
            ((ResultVar.cell b e :: rvs).mapM (resVal a.tmps)).run K.P w = .ok vals w := by
        intro fr u w' c v ho htyp hnav l9 hk
        cases hb : (Ty.beq w' t && fitsA t v) with
        | false => rw [hb] at hk; exact hk.elim
        | true =>
          rw [hb] at hk
          simp only [Bool.and_eq_true] at hb
          obtain rfl := Ty.beq_iff.1 hb.1
          have hl : Leads K.C S.objs (resultsK K.G S rvs fun vs => k (v :: vs)) l9 r l := hk
          obtain ⟨vs, l1, vals, h1, h2, h3, h4⟩ := resultsK_spec h hK rvs (k := fun vs => k (v :: vs)) hl
          have hv := h.env b
          rw [hlk] at hv
          obtain ⟨_, hp⟩ := ptr_inv hv
          obtain ⟨g', u', p1, p2, p3, p4⟩ := hp u (isMm_of _ fr u c ho)
          obtain ⟨x, x1, x2⟩ := ptr_load h ho (hK.ty _ _ ht) hv htyp hnav
          rw [p4] at x1
          simp only [Instr.loadAt, Instr.sureAddr, Sem.run_bind, Sem.run_pure, Result.andThen_ok] at x1
          refine ⟨v :: vs, l1, x :: vals, h1, by simp [h2], fun i v' val e1 e2 => ?_, ?_⟩
          · cases i with
            | zero => simp at e1 e2; subst e1 e2; exact x2
            | succ i => exact h3 i v' val (by simpa using e1) (by simpa using e2)
          · simp only [List.mapM_cons, resVal, Sem.run_bind, p4, asAddr, Sem.run_pure, Result.andThen_ok, x1, h4]
      obtain ⟨ob, hob, hl⟩ := hl
      dsimp only at hl
      split at hl
      · split at hl
        · rename_i w' v htyp hnav
          exact key _ _ w' _ v (.inl hob) htyp hnav _ hl
        · exact hl.elim
      · split at hl
        · rename_i w' v htyp hnav
          exact key _ _ w' _ v (.inr hob) htyp hnav _ hl
        · exact hl.elim
      · exact hl.elim
    · exact hl.elim
theorem results_run {fn : Func} {vals : List Value} (h : (fn.results.toList.mapM (resVal a.tmps)).run K.P w = .ok vals w) : (results fn a.tmps).run K.P w = .ok (packV vals) w := by
  have e : results fn a.tmps = (do let vs ← fn.results.mapM (resVal a.tmps); pure (if h : vs.size = 1 then vs[0] else .tuple vs)) := by
    unfold results
    congr 2
  rw [e]
  simp only [Array.mapM_eq_mapM_toList, Sem.run_bind, map_eq_pure_bind, h, Result.andThen_ok, Sem.run_pure]
  congr 1
  match vals with
  | [] => rfl
  | [v] => rfl
  | v :: v' :: vs => simp [packV]
theorem argsNow_get (S : St) : ∀ (ms : List MTy) (n i : Nat), (argsNow S n ms)[i]? = if i < ms.length then some (look S.env (n + i)) else none
  | [], n, i => by simp [argsNow]
  | m :: ms, n, 0 => by simp [argsNow]
  | m :: ms, n, i + 1 => by
    simp only [argsNow, List.getElem?_cons_succ, argsNow_get S ms (Nat.succ n) i, List.length_cons, Nat.add_lt_add_iff_right]
    rw [show Nat.succ n + i = n + (i + 1) by omega]
theorem back_rel {E : Env} : ∀ (ms : List MTy) (vs : List AV) (vals : List Value), vs.length = ms.length → vals.length = ms.length →
    (∀ (i : Nat) (m : MTy) (v : AV) (val : Value), ms[i]? = some m → ((∃ m', m = .ptr m') ∨ ∃ m', m = .optr m') → vs[i]? = some v → vals[i]? = some val → vrel E v val) →
    (backV ms vals).length = (backArgs ms vs).length ∧ ∀ (i : Nat) (v : AV) (val : Value), (backArgs ms vs)[i]? = some v → (backV ms vals)[i]? = some val → vrel E v val
  | [], [], [], _, _, _ => ⟨rfl, by simp [backArgs]⟩
  | m :: ms, v :: vs, val :: vals, h1, h2, h3 => by
    obtain ⟨k1, k2⟩ := back_rel (E := E) ms vs vals (by simpa using h1) (by simpa using h2) fun i m v val e0 em e1 e2 => h3 (i + 1) m v val (by simpa using e0) em (by simpa using e1) (by simpa using e2)
    refine ⟨by simp [backV, backArgs, k1], fun i v' val' e1 e2 => ?_⟩
    cases i with
    | zero =>
      have h0 := fun hm => h3 0 m v val rfl hm rfl rfl
      simp only [backArgs, backV, List.getElem?_cons_zero, Option.some.injEq] at e1 e2
      subst e1 e2
      cases m with
      | ptr _ => exact h0 (.inl ⟨_, rfl⟩)
      | optr _ => exact h0 (.inr ⟨_, rfl⟩)
      | _ => exact (show vrel1 E (.d true .unit ()) (.agg #[]) from ⟨rfl, rfl⟩)
    | succ i => exact k2 i v' val' (by simpa [backArgs] using e1) (by simpa [backV] using e2)
end
theorem body_ok {P : Program} {G : Ctx} {C : CallD} {L : LoopD} (hS : Sure P G C) (hL : LoopOK L) {f : FuncId} {fn : Func} {c : Code} {s : Sig} (hf : P.funcs[f]? = some fn) (hb : fn.body = some c) (hok : funcOK s fn c = true) :
    FnOK P f s (evalBody L C G f fn c s) := by
  intro w B vals x bs y hF hB hnd hnB hm
  simp only [funcOK, Bool.and_eq_true, bne_iff_ne, ne_eq, Nat.ble_eq] at hok
  obtain ⟨⟨hname, hcode⟩, hnp⟩ := hok
  have hlen : vals.length = s.ins.length := hm.len
  refine .inl ⟨?_, calls_of_wp hf hb ?_⟩
  · simp [callFunc, hf, hname, hb]
  · let K : Konst := { P := P, G := G, C := C, w0 := w, own := bs, B := B, nt := fn.ntmps, args := keepL s.ins vals }
    have hK : K.OK := ⟨hB, hS.depth, hS.ty, hS.sig⟩
    have hH : Head K s.ins vals x w := ⟨⟨rfl, rfl, rfl, Nat.le_refl _, fun _ _ _ => rfl⟩, bs, okIn w B bs, hm, hnd, fun f b h => h, fun g hg => ⟨.inr hg, hnB g hg⟩⟩
    obtain ⟨⟨vs, u⟩, l, q1, q2⟩ := interp_leads (show interp C [] (openL s.ins x (0, 0, 0) [] fun vs _ u => .done (vs, u)) [] _ = some y from hF)
    have hsz : ((vals.toArray ++ Array.replicate (fn.ntmps - vals.toArray.size) undef : Array Value)).size = fn.ntmps := by simp; omega
    have hget : ∀ (i : Nat) (v : Value), vals[i]? = some v → (vals.toArray ++ Array.replicate (fn.ntmps - vals.toArray.size) undef : Array Value).getD i undef = v := fun i v hi => by
      have hlt := (List.getElem?_eq_some_iff.1 hi).1
      rw [Array.getD_eq_getD_getElem?, Array.getElem?_append_left (by simpa using hlt)]
      simp [hi]
    obtain ⟨used, γ, u1, u2, u3, u4⟩ := open_rel (K := K) (a := { tmps := vals.toArray ++ Array.replicate (fn.ntmps - vals.toArray.size) undef, defers := [] }) hH hsz rfl (fun i v hi => hget i v (keepL_get _ _ i v hi)) q1
    have hstart := u4 (idxE 0 vs) fun t => by
      rcases Nat.lt_or_ge t vs.length with ht | ht
      · have hv : vs[t]? = some vs[t] := by simp [ht]
        have hval : vals[t]? = some (vals[t]'(by omega)) := by simp
        refine .inr ⟨t, vs[t], _, hv, hval, ?_, hget t _ hval⟩
        have : ∀ (l : List AV) (n i : Nat) (v : AV), l[i]? = some v → look (idxE n l) (n + i) = v := by
          intro l
          induction l with
          | nil => intro n i v h; simp at h
          | cons x l ih =>
            intro n i v h
            simp only [idxE, look_cons]
            cases i with
            | zero => simp at h; simp [h]
            | succ i =>
              rw [if_neg (by omega), show n + (i + 1) = Nat.succ n + i by omega]
              exact ih (Nat.succ n) i v (by simpa using h)
        simpa using this vs 0 t _ hv
      · refine .inl ?_
        have : ∀ (l : List AV) (n t : Nat), n + l.length ≤ t → look (idxE n l) t = .any := by
          intro l
          induction l with
          | nil => intro n t _; rfl
          | cons x l ih =>
            intro n t h
            simp only [idxE, look_cons]
            simp only [List.length_cons] at h
            rw [if_neg (by omega)]
            exact ih (Nat.succ n) t (by omega)
        exact this vs 0 t (by omega)
    have hfin : ∀ S used γ a w', Inv K S used γ a w' → (interp C S.objs (resultsK G S fn.results.toList fun rs => closeL true s.outs rs ⟨[], []⟩ fun y c =>
        closeL true (updL s.ins) (backArgs s.ins (argsNow S 0 s.ins)) c fun z _ => .done (y, z)) [] fun y _ => some y) = some y → a.defers = [] ∧ ∃ v, (results fn a.tmps).run P w' = .ok v w' ∧ Gives w B s vals bs y v w' := by
      intro S used γ a w' hI he
      obtain ⟨y', l, k1, k2⟩ := interp_leads he
      cases k2
      obtain ⟨h, _⟩ := hI
      obtain ⟨rs, l1, rvals, k1, k2, k3, k4⟩ := resultsK_spec (K := K) h hK _ k1
      obtain ⟨y1, c1, l2, n1, k1, m2, m3, m4, m5, m6⟩ := closeL_spec h s.outs rs (CInv.start S true) k1
      obtain ⟨z1, c2, l3, n2, k1, d2, d3, d4, d5, d6⟩ := closeL_spec h (updL s.ins) _ m2 k1
      obtain ⟨e, _⟩ := k1
      subst e
      obtain ⟨b1, b2⟩ := back_rel (E := envOf K S.objs used γ w') s.ins (argsNow S 0 s.ins) vals (by
        have : ∀ (ms : List MTy) (n : Nat), (argsNow S n ms).length = ms.length := by
          intro ms
          induction ms with
          | nil => intro n; rfl
          | cons m ms ih => intro n; simp [argsNow, ih]
        exact this _ _) hlen fun i m v val e0 em e1 e2 => by
          rw [argsNow_get] at e1
          split at e1
          · cases e1
            rw [Nat.zero_add]
            have := h.env i
            rw [h.kept i val (keepL_ptr _ _ i m val e0 e2 em)] at this
            exact this
          · cases e1
      have hp1 : (movedL c1.ups).Perm n1 := by simpa [movedL] using m4
      have hp2 : (movedL c2.ups).Perm (n1 ++ n2) := d4.trans ((List.Perm.append_left n2 hp1).trans List.perm_append_comm)
      have hnd2 : (n1 ++ n2).Nodup := hp2.nodup_iff.1 d2.nodup
      have hblk : blkOf S γ (n1 ++ n2) = blkOf S γ n1 ++ blkOf S γ n2 := by simp [blkOf]
      have hok : ∀ f b, okL K S γ c2 f b → okIn w B (blkOf S γ n1 ++ blkOf S γ n2) f b := fun f b hb => ⟨fun hm => by
        rw [← hblk] at hm
        obtain ⟨i, hi, hi2⟩ := mem_blkOf.1 hm
        exact d2.apart i (mem_moved.1 (hp2.mem_iff.2 hi)) (hb.1 i hi2), hb.2⟩
      refine ⟨h.defers, packV rvals, results_run (K := K) k4, rvals, blkOf S γ n1, blkOf S γ n2, rfl, ?_, ?_, ?_, fun g hg => ?_, h.frame⟩
      · exact ((m6 rvals k2 k3).mono fun f => okL_mono d3 id).mono hok
      · exact (d6 (backV s.ins vals) b1 b2).mono hok
      · rw [← hblk]; exact blkOf_nodup h hnd2
      · rw [← hblk] at hg
        obtain ⟨i, _, hi2⟩ := mem_blkOf.1 hg
        exact (h.mod i g hi2).1
    exact code_wp (K := K) hK hS.mix hL c 0 _ _ _ _ (by rw [show K.args.map (·.isSome) = ptrsOf s.ins from keepL_ptrs _ _ hlen]; exact hcode) (fun S used γ a w' hI he => hfin S used γ a w' hI he) (fun i S used γ a w' hI he => by cases he)
      (fun S used γ a w' hI he => hfin S used γ a w' hI he) _ used γ _ w ⟨hstart, fun id v hv => by rw [u1 id v hv]; exact Nat.zero_lt_one⟩ q2
end Go.Pon
set_option autoImplicit false
set_option linter.unusedVariables false
namespace Go.Pon
open Go
open Go.ChangeShapes Go.WideShapes Go.ChangeAt Go.RowKit
def lookN {α : Type} : List (Nat × α) → Nat → Option α
  | [], _ => none
  | (i, x) :: r, n => bif Nat.beq i n then some x else lookN r n
def lookH : List ((Nat × Nat) × List (Nat × MTy)) → Nat → Nat → List (Nat × MTy)
  | [], _, _ => []
  | ((f, b), x) :: r, n, k => bif Nat.beq f n && Nat.beq b k then x else lookH r n k
def lookA : List ((Nat × Nat) × List Ali) → Nat → Nat → List Ali
  | [], _, _ => []
  | ((f, b), x) :: r, n, k => bif Nat.beq f n && Nat.beq b k then x else lookA r n k
theorem lookN_mem {α : Type} : ∀ {l : List (Nat × α)} {n : Nat} {x : α}, lookN l n = some x → (n, x) ∈ l
  | (i, y) :: r, n, x, h => by
    simp only [lookN] at h
    cases hb : Nat.beq i n with
    | true =>
      rw [hb] at h
      cases h
      obtain rfl := Nat.eq_of_beq_eq_true hb
      exact List.mem_cons_self ..
    | false =>
      rw [hb] at h
      exact List.mem_cons_of_mem _ (lookN_mem h)
def Ty.wf : (t : Ty) → t.den → Prop
  | .unit, _ => True
  | .pair a b, x => a.wf x.1 ∧ b.wf x.2
  | .int k, x => inK k x
  | .bool, _ => True
  | .str, x => List.length x ≤ maxLen ∧ ∀ n ∈ (x : List Int), 0 ≤ n ∧ n ≤ 255
  | .arr n t, x => List.length x = n ∧ ∀ y ∈ (x : List t.den), t.wf y
  | .slice t, x => List.length x ≤ maxLen ∧ ∀ y ∈ (x : List t.den), t.wf y
  | .ptr, _ => True
theorem RowsR.each {α : Type} {R : List Value → α → Prop} {p : α → Prop} {n : Nat} (h : ∀ c x, R c x → p x) : ∀ {cs : List Value} {xs : List α}, RowsR R n cs xs → ∀ x ∈ xs, p x
  | _, [], _, x, hx => by simp at hx
  | _, y :: ys, ⟨_, h2, h3⟩, x, hx => by
    rcases List.mem_cons.1 hx with rfl | hx
    · exact h _ _ h2
    · exact RowsR.each h h3 x hx
theorem DR.wf {w : World} {ok : Nat → Prop} : ∀ {t : Ty} {cs : List Value} {x : t.den}, DR w ok t cs x → t.wf x
  | .unit, _, _, _ => trivial
  | .pair _ _, _, _, ⟨h1, h2⟩ => ⟨DR.wf h1, DR.wf h2⟩
  | .int _, _, _, h => h.2
  | .bool, _, _, _ => trivial
  | .str, _, x, ⟨s, _, h2, h3⟩ => by
    refine ⟨?_, fun n hn => ?_⟩
    · rw [h2, List.length_map]
      exact h3
    · rw [h2] at hn
      obtain ⟨b, _, rfl⟩ := List.mem_map.1 hn
      have := b.toNat_lt
      omega
  | .arr _ _, _, _, ⟨h1, h2⟩ => ⟨h1, h2.each fun _ _ hd => DR.wf hd⟩
  | .slice _, _, _, ⟨_, _, _, h2, h3, _, _, h5, _⟩ => ⟨Nat.le_trans h2 h3, h5.each fun _ _ hd => DR.wf hd⟩
  | .ptr, _, _, _ => trivial
def Ty.noPtr : Ty → Bool
  | .pair a b => a.noPtr && b.noPtr
  | .arr _ t => t.noPtr
  | .slice t => t.noPtr
  | .ptr => false
  | _ => true
theorem cellsOf_tyB {P : Program} {t : Ty} {T : TypeId} (h : tyB P t T = true) : P.cellsOf T = t.size := by
  obtain ⟨i, z, h1, h2, _⟩ := rowB_spec (tyB_row h)
  simp [Program.cellsOf, h1, h2]
theorem mapM_get {α β : Type} {f : α → Option β} : ∀ {l : List α} {r : List β}, l.mapM f = some r → ∀ x ∈ l, ∃ y, f x = some y
  | [], _, _, x, hx => by simp at hx
  | a :: l, r, h, x, hx => by
    simp only [List.mapM_cons, Option.pure_def, Option.bind_eq_bind, Option.bind_eq_some_iff] at h
    obtain ⟨y, h1, ys, h2, _⟩ := h
    rcases List.mem_cons.1 hx with rfl | hx
    · exact ⟨y, h1⟩
    · exact mapM_get h2 x hx
theorem wf_inK {k : IntKind} {n : Int} (h : (Lit.int k n).wf = true) : inK k n := by simpa [Lit.wf, inK] using h
theorem cells?_spec {w : World} {a : Addr} : ∀ {n : Nat} {cs : List Value}, w.cells? 0 a n = some cs → cs.length = n ∧ ∀ j v, cs[j]? = some v → w.cell? (a.add j) = some v := by
  intro n cs h
  unfold World.cells? at h
  rw [if_pos (Nat.zero_le _)] at h
  have key : ∀ (l : List Nat) (cs : List Value), l.mapM (fun i => w.cell? (a.add i)) = some cs → cs.length = l.length ∧ ∀ (j : Nat) (v : Value) (i : Nat), cs[j]? = some v → l[j]? = some i → w.cell? (a.add i) = some v := by
    intro l
    induction l with
    | nil => intro cs h; simp at h; subst h; simp
    | cons x l ih =>
      intro cs h
      simp only [List.mapM_cons, Option.pure_def, Option.bind_eq_bind, Option.bind_eq_some_iff] at h
      obtain ⟨y, h1, ys, h2, h3⟩ := h
      cases h3
      obtain ⟨k1, k2⟩ := ih ys h2
      refine ⟨by simp [k1], fun j v i e1 e2 => ?_⟩
      cases j with
      | zero => simp at e1 e2; subst e1 e2; exact h1
      | succ j => exact k2 j v i (by simpa using e1) (by simpa using e2)
  obtain ⟨k1, k2⟩ := key _ _ h
  simp only [List.length_range] at k1
  refine ⟨k1, fun j v hj => ?_⟩
  have hlt : j < n := by rw [← k1]; exact (List.getElem?_eq_some_iff.1 hj).1
  exact k2 j v j hj (by simp [hlt])
section
variable {H : Type} {enc : TypeId × Value → H} {P : Program} {w : World} {spare : Nat → Bool} {held : Bool}
theorem rows_of {α : Type} {R : List Value → α → Prop} {n : Nat} (a : Addr) : ∀ (k : Nat), (∀ i, i < k → ∃ c x, c.length = n ∧ R c x ∧ ∀ j v, c[j]? = some v → w.cell? ((a.add (i * n)).add j) = some v) →
    ∃ (rows : List Value) (xs : List α), xs.length = k ∧ RowsR R n rows xs ∧ ∀ j v, rows[j]? = some v → w.cell? (a.add j) = some v
  | 0, _ => ⟨[], [], rfl, rfl, fun j v hj => by simp at hj⟩
  | k + 1, h => by
    obtain ⟨rows, xs, h1, h2, h3⟩ := rows_of a k fun i hi => h i (by omega)
    obtain ⟨c, x, k1, k2, k3⟩ := h k (by omega)
    have hl := h2.length
    refine ⟨rows ++ c, xs ++ [x], by simp [h1], h2.append (RowsR.single k1 k2), fun j v hj => ?_⟩
    rcases Nat.lt_or_ge j rows.length with hlt | hge
    · rw [List.getElem?_append_left hlt] at hj
      exact h3 j v hj
    · rw [List.getElem?_append_right hge] at hj
      have hc := k3 _ v hj
      have hn : 0 < n := by
        have := (List.getElem?_eq_some_iff.1 hj).1
        omega
      have ha : a.spot = none := by
        obtain ⟨c0, x0, m1, _, m3⟩ := h 0 (by omega)
        have h0 : c0[0]? = some (c0[0]'(by omega)) := by simp
        have := m3 0 _ h0
        rw [Nat.zero_mul] at this
        simp only [Addr.add, if_true] at this
        exact spot_of_cell this
      rw [add_assoc' ha] at hc
      rw [show k * n + (j - rows.length) = j by rw [hl, h1] at *; omega] at hc
      exact hc
theorem trod_DR : ∀ (t : Ty), t.noPtr = true →
    (∀ (T : TypeId) (fuel : Nat) (cs : List Value) (x : DataW H × List MemPlace), tyB P t T = true → DataW.trod enc P w 0 spare held fuel T cs = some x → ∃ y : t.den, DR w (fun _ => True) t cs y) ∧
    (∀ (fs : List Field) (off fuel : Nat) (cs : List Value) (r : List (DataW H × List MemPlace)), fieldsB P t off fs = true → fs.mapM (fun f => DataW.trod enc P w 0 spare held fuel f.type ((cs.drop f.offset).take (P.cellsOf f.type))) = some r →
      cs.length = off + t.size → ∃ y : t.den, DR w (fun _ => True) t (cs.drop off) y)
  | .unit, _ => by
    have hf : ∀ (fs : List Field) (off fuel : Nat) (cs : List Value) (r : List (DataW H × List MemPlace)), fieldsB P .unit off fs = true → fs.mapM (fun f => DataW.trod enc P w 0 spare held fuel f.type ((cs.drop f.offset).take (P.cellsOf f.type))) = some r →
      cs.length = off + Ty.unit.size → ∃ y : Ty.unit.den, DR w (fun _ => True) .unit (cs.drop off) y := fun fs off fuel cs r h _ hl => ⟨(), List.drop_eq_nil_of_le (by simp only [Ty.size] at hl; omega)⟩
    refine ⟨fun T fuel cs x hT hx => ?_, hf⟩
    obtain ⟨fs, u1, u2, _⟩ := tyB_unit hT
    cases fuel with
    | zero => cases hx
    | succ fuel =>
      simp only [DataW.trod, u1] at hx
      split at hx
      · rename_i hl
        rw [cellsOf_tyB hT] at hl
        obtain ⟨r, hr, _⟩ := Option.map_eq_some_iff.1 hx
        have := hf fs.toList 0 fuel cs r u2 hr (by omega)
        simpa using this
      · cases hx
  | .pair a b, hp => by
    simp only [Ty.noPtr, Bool.and_eq_true] at hp
    obtain ⟨iha, _⟩ := trod_DR a hp.1
    obtain ⟨_, ihb⟩ := trod_DR b hp.2
    have hf : ∀ (fs : List Field) (off fuel : Nat) (cs : List Value) (r : List (DataW H × List MemPlace)), fieldsB P (.pair a b) off fs = true → fs.mapM (fun f => DataW.trod enc P w 0 spare held fuel f.type ((cs.drop f.offset).take (P.cellsOf f.type))) = some r →
      cs.length = off + (Ty.pair a b).size → ∃ y : (Ty.pair a b).den, DR w (fun _ => True) (.pair a b) (cs.drop off) y := by
      intro fs off fuel cs r h hr hl
      obtain ⟨f, fr, rfl, f1, f2, f3, _, f4⟩ := fieldsB_pair h
      simp only [List.mapM_cons, Option.pure_def, Option.bind_eq_bind, Option.bind_eq_some_iff] at hr
      obtain ⟨z, h1, zs, h2, _⟩ := hr
      simp only [Ty.size] at hl
      rw [f1, cellsOf_tyB f2] at h1
      obtain ⟨y1, d1⟩ := iha f.type fuel _ _ f2 h1
      obtain ⟨y2, d2⟩ := ihb fr (off + a.size) fuel cs zs f4 h2 (by omega)
      exact ⟨(y1, y2), d1, by rw [List.drop_drop]; exact d2⟩
    refine ⟨fun T fuel cs x hT hx => ?_, hf⟩
    obtain ⟨fs, u1, u2, _⟩ := tyB_pair hT
    cases fuel with
    | zero => cases hx
    | succ fuel =>
      simp only [DataW.trod, u1] at hx
      split at hx
      · rename_i hl
        rw [cellsOf_tyB hT] at hl
        obtain ⟨r, hr, _⟩ := Option.map_eq_some_iff.1 hx
        have := hf fs.toList 0 fuel cs r u2 hr (by omega)
        simpa using this
      · cases hx
  | .int k, _ => by
    refine ⟨fun T fuel cs x hT hx => ?_, fun fs off fuel cs r h => by simp [fieldsB, tyC] at h⟩
    obtain ⟨n, rfl, _, hw⟩ := DataW.trod_int (tyB_int hT) hx
    exact ⟨n, rfl, wf_inK hw⟩
  | .bool, _ => by
    refine ⟨fun T fuel cs x hT hx => ?_, fun fs off fuel cs r h => by simp [fieldsB, tyC] at h⟩
    obtain ⟨b, rfl, _⟩ := DataW.trod_bool (tyB_bool hT) hx
    exact ⟨b, rfl⟩
  | .str, _ => by
    refine ⟨fun T fuel cs x hT hx => ?_, fun fs off fuel cs r h => by simp [fieldsB, tyC] at h⟩
    obtain ⟨s, rfl, _, hs⟩ := DataW.trod_string (tyB_str hT) hx
    exact ⟨_, s, rfl, rfl, hs⟩
  | .arr n t, hp => by
    obtain ⟨ih, _⟩ := trod_DR t hp
    refine ⟨fun T fuel cs x hT hx => ?_, fun fs off fuel cs r h => by simp [fieldsB, tyC] at h⟩
    obtain ⟨e, u1, u2⟩ := tyB_arr hT
    cases fuel with
    | zero => cases hx
    | succ fuel =>
      simp only [DataW.trod, u1] at hx
      split at hx
      · rename_i hl
        rw [cellsOf_tyB hT] at hl
        obtain ⟨r, hr, _⟩ := Option.map_eq_some_iff.1 hx
        have hget := mapM_get hr
        have key : ∀ k, k ≤ n → ∃ xs : List t.den, xs.length = k ∧ RowsR (DR w (fun _ => True) t) t.size (cs.take (k * t.size)) xs := by
          intro k
          induction k with
          | zero => intro _; exact ⟨[], rfl, by simp [RowsR]⟩
          | succ k ihk =>
            intro hk
            obtain ⟨xs, h1, h2⟩ := ihk (by omega)
            obtain ⟨z, hz⟩ := hget k (by simp; omega)
            rw [cellsOf_tyB u2] at hz
            obtain ⟨y, hy⟩ := ih e fuel _ _ u2 hz
            refine ⟨xs ++ [y], by simp [h1], ?_⟩
            have e1 : cs.take ((k + 1) * t.size) = cs.take (k * t.size) ++ (cs.drop (k * t.size)).take t.size := by
              rw [Nat.add_mul, Nat.one_mul, List.take_add]
            rw [e1]
            exact h2.append (RowsR.single (DR.len hy) hy)
        obtain ⟨xs, h1, h2⟩ := key n (Nat.le_refl _)
        rw [List.take_of_length_le (by rw [hl]; exact Nat.le_refl _)] at h2
        exact ⟨xs, h1, h2⟩
      · cases hx
  | .slice t, hp => by
    obtain ⟨ih, _⟩ := trod_DR t hp
    refine ⟨fun T fuel cs x hT hx => ?_, fun fs off fuel cs r h => by simp [fieldsB, tyC] at h⟩
    obtain ⟨e, u1, u2⟩ := tyB_slice hT
    cases fuel with
    | zero => cases hx
    | succ fuel =>
      simp only [DataW.trod, u1] at hx
      have two : (∃ a len cap, cs = [.slice (some a) len cap]) ∨ cs = [.slice none 0 0] := by
        split at hx <;> simp_all
      rcases two with ⟨a, len, cap, rfl⟩ | rfl
      · dsimp only at hx
        split at hx
        · rename_i hc
          obtain ⟨_, hc1, hc2⟩ := hc
          obtain ⟨r, hr, _⟩ := Option.bind_eq_some_iff.1 hx
          have hget := mapM_get hr
          obtain ⟨rows, xs, h1, h2, h3⟩ := rows_of (R := DR w (fun _ => True) t) (n := t.size) a len fun i hi => by
            obtain ⟨z, hz⟩ := hget i (by simpa using hi)
            obtain ⟨c, k1, k2⟩ := Option.bind_eq_some_iff.1 hz
            rw [cellsOf_tyB u2] at k1
            obtain ⟨m1, m2⟩ := cells?_spec k1
            obtain ⟨y, hy⟩ := ih e fuel _ _ u2 k2
            exact ⟨c, y, m1, hy, m2⟩
          exact ⟨xs, some a, cap, by rw [h1], by rw [h1]; exact hc1, hc2, (fun h => by cases h), rows, h2, fun _ => ⟨a, rfl, trivial, h3⟩⟩
        · cases hx
      · exact ⟨[], none, 0, rfl, Nat.le_refl _, Nat.zero_le _, fun _ => rfl, [], rfl, fun h => absurd rfl h⟩
  | .ptr, h => by cases h
def lawIns (P : Program) : List MTy → List TypeId → Bool
  | [], [] => true
  | .ro fr t :: ms, T :: Ts => (!fr || t.flat) && t.noPtr && tyB P t T && lawIns P ms Ts
  | _, _ => false
def wfL : (ms : List MTy) → denL ms → Prop
  | [], _ => True
  | .ro _ t :: ms, x => t.wf x.1 ∧ wfL ms x.2
  | _ :: ms, x => wfL ms x.2
theorem okWide_agg {base : Nat} {t : Ty} {T : TypeId} {v : Value} (h : tyB P t T = true) (hp : t.noPtr = true) (hv : Value.okWide P w .any base T v) : isAgg' v = t.agg := by
  cases t with
  | unit =>
    obtain ⟨fs, u, _⟩ := tyB_unit h
    simp only [Value.okWide, u] at hv
    obtain ⟨cs, rfl, _⟩ := hv
    rfl
  | pair a b =>
    obtain ⟨fs, u, _⟩ := tyB_pair h
    simp only [Value.okWide, u] at hv
    obtain ⟨cs, rfl, _⟩ := hv
    rfl
  | arr n t =>
    obtain ⟨e, u, _⟩ := tyB_arr h
    simp only [Value.okWide, u] at hv
    obtain ⟨cs, rfl, _⟩ := hv
    rfl
  | int k => obtain ⟨n, rfl⟩ := okWide_int (tyB_int h) hv; rfl
  | bool => obtain ⟨n, rfl⟩ := okWide_bool (tyB_bool h) hv; rfl
  | str => obtain ⟨n, rfl⟩ := okWide_string (tyB_str h) hv; rfl
  | slice t =>
    obtain ⟨e, u, _⟩ := tyB_slice h
    obtain ⟨a, l, c, rfl⟩ := okWide_slice u hv
    rfl
  | ptr => cases hp
theorem args_MRL {base : Nat} : ∀ (ms : List MTy) (Ts : List TypeId) (vs : List Value) (ds : List (DataW H)) (ps : List MemPlace), lawIns P ms Ts = true → DataW.TrodAll enc P w 0 spare held Ts vs ds ps →
    (∀ (j : Nat) (T : TypeId) (v : Value), Ts[j]? = some T → vs[j]? = some v → Value.okWide P w .any base T v) →
    ∃ x : denL ms, MRL w (okIn w (fun _ => False) []) w.heap.size ms vs x [] ∧ wfL ms x
  | [], [], vs, ds, ps, _, h, _ => by
    cases vs with
    | nil => exact ⟨(), ⟨rfl, rfl⟩, trivial⟩
    | cons _ _ => cases ds <;> exact h.elim
  | m :: ms, T :: Ts, vs, ds, ps, hl, h, hv => by
    cases m with
    | ro fr t =>
      simp only [lawIns, Bool.and_eq_true] at hl
      obtain ⟨⟨⟨l1, l2⟩, l3⟩, l4⟩ := hl
      cases vs with
      | nil => cases ds <;> exact h.elim
      | cons v vs =>
        cases ds with
        | nil => exact h.elim
        | cons d ds =>
          obtain ⟨p, q, ⟨fuel, h1⟩, h2, rfl⟩ := h
          obtain ⟨y, hy⟩ := (trod_DR t l2).1 T fuel _ _ l3 h1
          obtain ⟨x, hx, hw⟩ := args_MRL ms Ts vs ds q l4 h2 fun j T v e1 e2 => hv (j + 1) T v (by simpa using e1) (by simpa using e2)
          have hag := okWide_agg l3 l2 (hv 0 T v rfl rfl)
          refine ⟨(y, x), ⟨v, vs, [], [], rfl, hag, ⟨rfl, ?_⟩, hx, rfl⟩, hy.wf, hw⟩
          cases fr with
          | false => exact hy.mono fun b _ => ⟨by simp, (fun h => h), (fun h => by cases h)⟩
          | true => exact DR.flat (by simpa using l1) hy
    | _ => cases hl
  | [], _ :: _, _, _, _, hl, _, _ => by cases hl
  | m :: _, [], _, _, _, hl, _, _ => by cases m <;> cases hl
theorem law_calls {f : FuncId} {fn : Func} {c : Code} {ins : List MTy} {F : denL ins → Option (Sig.outDen ⟨ins, [.ro true .bool]⟩)} (hF : FnOK P f ⟨ins, [.ro true .bool]⟩ F) (hf : P.funcs[f]? = some fn) (hb : fn.body = some c) (hname : fn.name ≠ "runtime.NumGoroutine")
    {x : denL ins} {y : Sig.outDen ⟨ins, [.ro true .bool]⟩} (hy : F x = some y) (hb1 : y.1.1 = true) {vals : List Value} (hm : MRL w (okIn w (fun _ => False) []) w.heap.size ins vals x []) :
    Calls P f vals.toArray w fun e w' => e = .returned (.bool true) ∧ Below w.heap.size w w' := by
  have hc : (callFunc f vals.toArray).run P w = .ok (.enter f vals.toArray) w := by simp [callFunc, hf, hname, hb]
  rcases hF w (fun _ => False) vals x [] y hy (fun b h => h.elim) List.nodup_nil (by simp) hm with ⟨_, h⟩ | ⟨v, w', h, _⟩
  · refine h.mono fun e w' he => ?_
    cases e with
    | returned v =>
      obtain ⟨rs, b1, b2, rfl, g1, g2, g3, g4, g5⟩ := he
      obtain ⟨v0, r0, c1, c2, rfl, ha, ⟨_, hd⟩, ⟨rfl, _⟩, _⟩ := g1
      have hv : v0.cells.toList = [.bool true] := by
        have h1 : v0.cells.toList = [.bool y.1.1] := hd
        rw [hb1] at h1; exact h1
      have ha : isAgg' v0 = false := ha
      rw [cells_one ha] at hv
      have hv : v0 = .bool true := by simpa using hv
      refine ⟨by rw [hv]; rfl, ⟨g5.os, g5.tape, g5.output, g5.size, fun k hk => g5.block k hk (by simp)⟩⟩
    | panicked _ => exact he.elim
    | outgrown => exact he.elim
  · rw [hc] at h
    cases h
theorem trodAll_below (hlaid : laidOutB P = true) {w' : World} (hb : Below w.heap.size w w') : ∀ {Ts : List TypeId} {vs : List Value} {ds : List (DataW H)} {ps : List MemPlace},
    (∀ T ∈ Ts, P.readableRec T = true ∧ T < P.types.size) → DataW.TrodAll enc P w 0 (fun _ => true) true Ts vs ds ps → DataW.TrodAll enc P w' 0 (fun b => decide (b < w.heap.size)) true Ts vs ds ps
  | [], [], [], _, _, h => h
  | [], [], _ :: _, _, _, h => h.elim
  | [], _ :: _, _, _, _, h => by cases ‹List (DataW H)› <;> exact h.elim
  | _ :: _, [], _, _, _, h => by cases ‹List (DataW H)› <;> exact h.elim
  | _ :: _, _ :: _, [], _, _, h => h.elim
  | T :: Ts, v :: vs, d :: ds, ps, hT, ⟨p, q, h1, h2, e⟩ => by
    obtain ⟨r1, r2⟩ := hT T (List.mem_cons_self ..)
    have hlt : ∀ x ∈ p, x.block < w.heap.size := by obtain ⟨m, hm⟩ := h1; exact DataW.trod_lt m _ _ _ hm
    exact ⟨p, q, Below.trod hlaid r1 r2 h1 hb hlt, trodAll_below hlaid hb (fun T hT' => hT T (List.mem_cons_of_mem _ hT')) h2, e⟩
end
theorem law_lifted {C : Checked} {os : Os} {f : FuncId} {fn : Func} {c : Code} {ins : List MTy} {F : denL ins → Option (Sig.outDen ⟨ins, [.ro true .bool]⟩)} {spec : ChangeSpec} {Tb : TypeId} {H : Type} {enc : TypeId × Value → H}
    (own : ownKnob C.prog.godebug = none) (started : os.Started) (noInit : C.prog.inits.idxOf? f = none) (hlaid : laidOutB C.prog = true)
    (witness : ∃ (w : World) (tape : Tape) (i : Input), w.os = os ∧ (w.forCall tape i).Shaped C.prog ∧ i.vars = [] ∧ Input.okWide C.prog (w.forCall tape i) .any w.heap.size f i ∧
      spec.pre6 enc C.prog fn [] false (w.forCall tape i).memory i.args ∧ ({} : Assume).holds C.prog (lone (Frame.enter C.prog f i.args .normal) [] (w.forCall tape i)))
    (hF : FnOK C.prog f ⟨ins, [.ro true .bool]⟩ F) (hf : C.prog.funcs[f]? = some fn) (hb : fn.body = some c) (hname : fn.name ≠ "runtime.NumGoroutine")
    (hins : lawIns C.prog ins fn.params.toList = true) (hread : ∀ T ∈ fn.params.toList, C.prog.readableRec T = true ∧ T < C.prog.types.size) (hres : fn.resultTypes = #[Tb]) (hbool : C.prog.underlying Tb = some .bool)
    (hvars : spec.vars = []) (hspec : ∀ ds : List (DataW H), ds.length = fn.params.size → (spec.fn H ds).results = [.lit (.bool true)] ∧ (spec.fn H ds).args = ds ∧ (spec.fn H ds).vars = [])
    (hall : ∀ x, wfL ins x → ∃ y, F x = some y ∧ y.1.1 = true) :
    ReturnsInHanded {} C os f .any (spec.pre6 enc C.prog fn [] false) (spec.post enc C.prog fn false true false false) := by
  refine returnsInHanded_of_change (C := C) own started noInit hf witness ?_
  intro W base args ds gs before hval hW _ _
  have hW' := hW
  obtain ⟨p, q, hA, hV, rfl, hfz, hnd⟩ := hW
  rw [hvars] at hV
  obtain ⟨rfl, rfl⟩ := trodVars_none hV
  obtain ⟨x, hm, hwf⟩ := args_MRL (base := base) ins fn.params.toList args.toList ds p hins hA fun j T v e1 e2 => hval j T v (by simpa using e1) (by simpa using e2)
  obtain ⟨y, hy, hyb⟩ := hall x hwf
  have hlen : ds.length = fn.params.size := by
    have key : ∀ (Ts : List TypeId) (vs : List Value) (ds : List (DataW H)) (ps : List MemPlace), DataW.TrodAll enc C.prog W 0 (fun _ => true) true Ts vs ds ps → ds.length = Ts.length := by
      intro Ts
      induction Ts with
      | nil => intro vs ds ps h; cases vs <;> cases ds <;> first | rfl | exact h.elim
      | cons T Ts ih =>
        intro vs ds ps h
        cases vs with
        | nil => cases ds <;> exact h.elim
        | cons v vs =>
          cases ds with
          | nil => exact h.elim
          | cons d ds =>
            obtain ⟨p, q, _, h2, _⟩ := h
            simp [ih vs ds q h2]
    have := key _ _ _ _ hA
    simpa using this
  obtain ⟨s1, s2, s3⟩ := hspec ds hlen
  have hcalls := law_calls (w := W) hF hf hb hname hy hyb hm
  rw [Array.toArray_toList] at hcalls
  refine hcalls.mono fun e W' ⟨he, bel⟩ => ?_
  subst he
  refine ⟨_, rfl, ds, [], p ++ [], [], p, [], hW', ?_, ?_, ?_, bel.frame _, fun h => by cases h⟩
  · rw [List.append_nil, s1, hres]
    exact trodAll_mk1 (shut_bool hbool _)
  · rw [List.append_nil, s2]
    exact trodAll_below hlaid bel hread hA
  · rw [List.append_nil, s3, hvars]
    rfl
end Go.Pon
set_option autoImplicit false
set_option linter.unusedVariables false
namespace Go.Pon
open Go
noncomputable def mkG (tys : List (Nat × Ty)) (sigs : List (Nat × Sig)) (hints : List ((Nat × Nat) × List (Nat × MTy))) (cut : Bool) (als : List ((Nat × Nat) × List Ali) := []) : Ctx :=
  ⟨fun f b => lookA als f b, lookN tys, lookN sigs, fun f b => lookH hints f b, cut, fun _ => none⟩
structure Entry where
  f : Nat
  s : Sig
  F : denL s.ins → Option s.outDen
def pick : List Entry → CallD
  | [], _, _ => fun _ => none
  | e :: l, f, s => if h : e.f = f ∧ e.s = s then h.2 ▸ e.F else pick l f s
theorem pick_hit (f : Nat) (s : Sig) (F : denL s.ins → Option s.outDen) (l : List Entry) : pick (⟨f, s, F⟩ :: l) f s = F := by
  simp [pick]
theorem pick_miss {f g : Nat} (s t : Sig) (F : denL s.ins → Option s.outDen) (l : List Entry) (h : Nat.beq f g = false) : pick (⟨f, s, F⟩ :: l) g t = pick l g t := by
  have : ¬ f = g := fun e => by subst e; simp at h
  simp [pick, this]
theorem pick_ok {P : Program} : ∀ {l : List Entry}, (∀ e ∈ l, FnOK P e.f e.s e.F) → ∀ f s, FnOK P f s (pick l f s)
  | [], _, f, s => fun w B vals x bs y h => by cases h
  | e :: l, h, f, s => by
    unfold pick
    split
    · rename_i hh
      obtain ⟨h1, h2⟩ := hh
      subst h1; subst h2
      exact h e (List.mem_cons_self ..)
    · exact pick_ok (fun e' he => h e' (List.mem_cons_of_mem _ he)) f s
structure TabOK (P : Program) (tys : List (Nat × Ty)) (sigs : List (Nat × Sig)) : Prop where
  depth : 64 ≤ P.depth
  mix : P.follows .mixedOrders = true
  tys : allE (fun p : Nat × Ty => tyB P p.2 p.1) tys = true
  sigs : allE (fun p : Nat × Sig => allE MTy.insOK p.2.ins) sigs = true
theorem allE_mem {α : Type} {f : α → Bool} : ∀ {l : List α}, allE f l = true → ∀ x ∈ l, f x = true
  | [], _, x, h => by cases h
  | a :: l, h, x, hx => by
    simp only [allE, Bool.and_eq_true] at h
    rcases List.mem_cons.1 hx with rfl | hx
    · exact h.1
    · exact allE_mem h.2 x hx
theorem TabOK.sure {P : Program} {tys : List (Nat × Ty)} {sigs : List (Nat × Sig)} {hints : List ((Nat × Nat) × List (Nat × MTy))} {cut : Bool} {als : List ((Nat × Nat) × List Ali)} (h : TabOK P tys sigs) {l : List Entry} (hl : ∀ e ∈ l, FnOK P e.f e.s e.F) :
    Sure P (mkG tys sigs hints cut als) (pick l) :=
  ⟨h.depth, h.mix, fun T t e => allE_mem h.tys (T, t) (lookN_mem e), fun f s e => ⟨fun m hm => allE_mem (allE_mem h.sigs (f, s) (lookN_mem e)) m hm, pick_ok hl f s⟩⟩
theorem fn_ok {P : Program} {tys : List (Nat × Ty)} {sigs : List (Nat × Sig)} {hints : List ((Nat × Nat) × List (Nat × MTy))} {cut : Bool} {als : List ((Nat × Nat) × List Ali)} (h : TabOK P tys sigs) (l : List Entry) (hl : ∀ e ∈ l, FnOK P e.f e.s e.F)
    {f : FuncId} {fn : Func} {c : Code} {s : Sig} {F : denL s.ins → Option s.outDen} (hf : P.funcs[f]? = some fn) (hb : fn.body = some c) (hok : funcOK s fn c = true)
    (he : ∀ x, evalBody bigLoop (pick l) (mkG tys sigs hints cut als) f fn c s x = F x) : FnOK P f s F :=
  (funext he : evalBody bigLoop (pick l) (mkG tys sigs hints cut als) f fn c s = F) ▸ body_ok (h.sure hl) bigLoop_ok hf hb hok
theorem fnOK_none {P : Program} {f : FuncId} {s : Sig} : FnOK P f s (fun _ => none) := fun w B vals x bs y h => by cases h
theorem mem_nil_ok {P : Program} : ∀ e ∈ ([] : List Entry), FnOK P e.f e.s e.F := fun e h => by cases h
theorem mem_cons_ok {P : Program} {f : Nat} {s : Sig} {F : denL s.ins → Option s.outDen} {l : List Entry} (h : FnOK P f s F) (hl : ∀ e ∈ l, FnOK P e.f e.s e.F) : ∀ e ∈ (⟨f, s, F⟩ :: l : List Entry), FnOK P e.f e.s e.F := fun e he => by
  rcases List.mem_cons.1 he with rfl | he
  · exact h
  · exact hl e he
end Go.Pon
set_option autoImplicit false
set_option linter.unusedVariables false
namespace Go.Pon
open Go
abbrev u64M : MTy := .ro true (.int .u64)
theorem one_u64 {w : World} {ok : Bool → Nat → Prop} {base : Nat} {v : Value} {x : Int} {bs : List Nat} (ha : isAgg' v = (u64M).ty.agg) (h : MR w ok base u64M v.cells.toList x bs) :
    v = .int .u64 x ∧ (0 ≤ x ∧ x ≤ 18446744073709551615) ∧ bs = [] := by
  obtain ⟨h1, h2⟩ := h
  have ha : isAgg' v = false := ha
  rw [cells_one ha] at h2
  obtain ⟨h3, h4⟩ := h2
  refine ⟨by simpa using h3, ?_, h1⟩
  simpa [inK, IntKind.min, IntKind.max, IntKind.signed, IntKind.bits] using h4
theorem mr_u64 {w : World} {ok : Bool → Nat → Prop} {base : Nat} {x : Int} (h : 0 ≤ x ∧ x ≤ 18446744073709551615) : MR w ok base u64M (Value.int .u64 x).cells.toList x [] :=
  ⟨rfl, rfl, by simpa [inK, IntKind.min, IntKind.max, IntKind.signed, IntKind.bits] using h⟩
abbrev s_carry : Sig := ⟨[u64M, u64M, u64M], [u64M, u64M]⟩
theorem carry_ok {P : Program} {f : FuncId} {fn : Func} {e : Array Value → Sem Value} (hf : P.funcs[f]? = some fn) (hname : (fn.name == "runtime.NumGoroutine") = false)
    (hb : fn.body.isNone = true) (hn : Extern.findNext fn = none) (he : Extern.find fn = some e) {F : denL s_carry.ins → Option s_carry.outDen}
    (hF : ∀ (x y c : Int) (r : s_carry.outDen) (w : World), (0 ≤ x ∧ x ≤ 18446744073709551615) → (0 ≤ y ∧ y ≤ 18446744073709551615) → (0 ≤ c ∧ c ≤ 18446744073709551615) → F (x, (y, (c, ()))) = some r →
      (e #[.int .u64 x, .int .u64 y, .int .u64 c]).run P w = .ok (.tuple #[.int .u64 r.1.1, .int .u64 r.1.2.1]) w ∧ (0 ≤ r.1.1 ∧ r.1.1 ≤ 18446744073709551615) ∧ (0 ≤ r.1.2.1 ∧ r.1.2.1 ≤ 18446744073709551615)) : FnOK P f s_carry F := by
  intro w B vals x bs y hy hB hnd hnB hr
  obtain ⟨v1, r1, b1, c1, rfl, a1, m1, hr, rfl⟩ := hr
  obtain ⟨v2, r2, b2, c2, rfl, a2, m2, hr, rfl⟩ := hr
  obtain ⟨v3, r3, b3, c3, rfl, a3, m3, hr, rfl⟩ := hr
  obtain ⟨rfl, rfl⟩ := hr
  obtain ⟨x1, x2, x3, xu⟩ := x
  obtain ⟨e1, k1, rfl⟩ := one_u64 a1 m1
  obtain ⟨e2, k2, rfl⟩ := one_u64 a2 m2
  obtain ⟨e3, k3, rfl⟩ := one_u64 a3 m3
  subst e1 e2 e3
  obtain ⟨g1, g2, g3⟩ := hF x1 x2 x3 y w k1 k2 k3 hy
  refine .inr ⟨_, w, ?_, [.int .u64 y.1.1, .int .u64 y.1.2.1], [], [], rfl, ?_, ?_, by simp, by simp, ?_⟩
  · rw [run_callFunc_extern hf hname hb hn he]
    show ((e #[.int .u64 x1, .int .u64 x2, .int .u64 x3]).run P w).andThen _ = _
    rw [g1]
    rfl
  · exact ⟨_, _, [], [], rfl, rfl, mr_u64 g2, ⟨_, _, [], [], rfl, rfl, mr_u64 g3, ⟨rfl, rfl⟩, rfl⟩, rfl⟩
  · exact ⟨_, _, [], [], rfl, rfl, ⟨rfl, rfl⟩, ⟨_, _, [], [], rfl, rfl, ⟨rfl, rfl⟩, ⟨_, _, [], [], rfl, rfl, ⟨rfl, rfl⟩, ⟨rfl, rfl⟩, rfl⟩, rfl⟩, rfl⟩
  · exact ⟨rfl, rfl, rfl, Nat.le_refl _, fun _ _ _ => rfl⟩
def addC (x : denL s_carry.ins) : Option s_carry.outDen :=
  if x.2.2.1 ≤ 1 then some (((x.1 + x.2.1 + x.2.2.1) % 18446744073709551616, ((x.1 + x.2.1 + x.2.2.1) / 18446744073709551616, ())), ((), ((), ((), ())))) else none
def subC (x : denL s_carry.ins) : Option s_carry.outDen :=
  if x.2.2.1 ≤ 1 then some (((x.1 - x.2.1 - x.2.2.1) % 18446744073709551616, ((if x.1 < x.2.1 + x.2.2.1 then 1 else 0), ())), ((), ((), ((), ())))) else none
def carryE (which : String) (g : Nat → Nat → Nat → Nat × Nat) : Array Value → Sem Value := fun args => do
  let (x, y, c) ← Extern.MathBitsCarry.three which args
  pure (Extern.MathBitsCarry.pair (g x y c).1 (g x y c).2)
theorem run_carryE {P : Program} {which : String} {g : Nat → Nat → Nat → Nat × Nat} (x y c : Nat) (hc : c ≤ 1) (w : World) :
    (carryE which g #[.int .u64 x, .int .u64 y, .int .u64 c]).run P w = .ok (.tuple #[.int .u64 ((g x y c).1 : Nat), .int .u64 ((g x y c).2 : Nat)]) w := by
  have : c = 0 ∨ c = 1 := by omega
  rcases this with rfl | rfl <;> rfl
abbrev addG (x y c : Nat) : Nat × Nat := ((x + y + c) % Extern.MathBitsCarry.m64, (x + y + c) / Extern.MathBitsCarry.m64)
abbrev subG (x y c : Nat) : Nat × Nat := ((x + Extern.MathBitsCarry.m64 - y - c) % Extern.MathBitsCarry.m64, if x < y + c then 1 else 0)
theorem add64_ok {P : Program} {f : FuncId} {fn : Func} (hf : P.funcs[f]? = some fn) (hname : (fn.name == "runtime.NumGoroutine") = false)
    (hb : fn.body.isNone = true) (hn : Extern.findNext fn = none) (he : Extern.find fn = some (carryE "Add64" addG)) : FnOK P f s_carry addC :=
  carry_ok hf hname hb hn he fun x y c r w hx hy hc h => by
    unfold addC at h
    simp only at h
    split at h
    · rename_i hc1
      cases h
      obtain ⟨a, rfl⟩ := Int.eq_ofNat_of_zero_le hx.1
      obtain ⟨b, rfl⟩ := Int.eq_ofNat_of_zero_le hy.1
      obtain ⟨d, rfl⟩ := Int.eq_ofNat_of_zero_le hc.1
      have hm : Extern.MathBitsCarry.m64 = 18446744073709551616 := rfl
      have hc1 : (d : Int) ≤ 1 := hc1
      rw [run_carryE a b d (by omega)]
      have q1 : 0 ≤ ((a : Int) + b + d) % 18446744073709551616 ∧ ((a : Int) + b + d) % 18446744073709551616 ≤ 18446744073709551615 := by omega
      have q2 : 0 ≤ ((a : Int) + b + d) / 18446744073709551616 ∧ ((a : Int) + b + d) / 18446744073709551616 ≤ 18446744073709551615 := by omega
      refine ⟨?_, q1, q2⟩
      simp only [hm]
      congr 5
    · cases h
theorem sub64_ok {P : Program} {f : FuncId} {fn : Func} (hf : P.funcs[f]? = some fn) (hname : (fn.name == "runtime.NumGoroutine") = false)
    (hb : fn.body.isNone = true) (hn : Extern.findNext fn = none) (he : Extern.find fn = some (carryE "Sub64" subG)) : FnOK P f s_carry subC :=
  carry_ok hf hname hb hn he fun x y c r w hx hy hc h => by
    unfold subC at h
    simp only at h
    split at h
    · rename_i hc1
      cases h
      obtain ⟨a, rfl⟩ := Int.eq_ofNat_of_zero_le hx.1
      obtain ⟨b, rfl⟩ := Int.eq_ofNat_of_zero_le hy.1
      obtain ⟨d, rfl⟩ := Int.eq_ofNat_of_zero_le hc.1
      have hm : Extern.MathBitsCarry.m64 = 18446744073709551616 := rfl
      have hc1 : (d : Int) ≤ 1 := hc1
      rw [run_carryE a b d (by omega)]
      have q1 : 0 ≤ ((a : Int) - b - d) % 18446744073709551616 ∧ ((a : Int) - b - d) % 18446744073709551616 ≤ 18446744073709551615 := by omega
      have q2 : 0 ≤ (if (a : Int) < (b : Int) + (d : Int) then 1 else 0 : Int) ∧ (if (a : Int) < (b : Int) + (d : Int) then 1 else 0 : Int) ≤ 18446744073709551615 := by split <;> omega
      refine ⟨?_, q1, q2⟩
      have e1 : (((a + 18446744073709551616 - b - d) % 18446744073709551616 : Nat) : Int) = ((a : Int) - b - d) % 18446744073709551616 := by omega
      have e2 : ((if a < b + d then 1 else 0 : Nat) : Int) = if (a : Int) < (b : Int) + (d : Int) then 1 else 0 := by split <;> split <;> omega
      simp only [hm]
      rw [e1, e2]
    · cases h
end Go.Pon
set_option autoImplicit false
set_option linter.unusedVariables false
set_option linter.unusedSimpArgs false
namespace Go.Pon
open Go Go.Proofs Go.Shelf Go.RowKit Go.Lib
structure InsLay (P : Program) (ρ : Ren) (f : FuncId) (nm : String) (ta : Array TypeId) (t : Ty) : Prop where
  mixed : P.follows .mixedOrders = true
  hf : P.funcs[f]? = some { Body2.n22 ρ with name := nm, targs := ta }
  t0 : P.underlying (ρ.t 0) = some (.tuple #[])
  t3 : tyB P (.int .i64) (ρ.t 3) = true
  t4 : tyB P .bool (ρ.t 4) = true
  t24 : tyB P (.slice t) (ρ.t 24) = true
  ov : ∃ fn, P.funcs[ρ.f 29]? = some fn ∧ (fn.name == "runtime.NumGoroutine") = false ∧ fn.body.isNone = true ∧ Extern.findNext fn = none ∧ Extern.find fn = some (Extern.SlicesOverlaps.overlaps #[(ρ.t 24), (ρ.t 24)] #[(ρ.t 4)])
theorem ins_end {P : Program} {ρ : Ren} {f : FuncId} {nm : String} {ta : Array TypeId} {t : Ty} (L : InsLay P ρ f nm ta t) (w w' : World) (s v v' : Value) (n m : Nat)
    (hs : ∃ ad cap, s = .slice ad n cap ∧ n ≤ cap ∧ cap ≤ maxLen) (hv : ∃ ad cap, v = .slice ad m cap) (hm : 0 < m)
    (hr : ∀ ty, (Builtin.append_ #[(ρ.t 24), (ρ.t 24)] ty #[s, v]).run P w = .ok v' w') :
    Calls P f #[s, .int .i64 (n : Int), v] w fun e w2 => e = .returned v' ∧ w2 = w' := by
  obtain ⟨e, k1, k2⟩ := tyB_slice L.t24
  have hzE := fun w => run_sizeOf' (P := P) w k2
  have t3 := tyB_int L.t3; have t4 := tyB_bool L.t4
  have u24 := run_underlying (P := P) k1
  have u3 := run_underlying (P := P) t3
  have mixed := L.mixed
  have hz1 : ¬ ((m : Int) = 0) := by omega
  obtain ⟨ad, cap, rfl, h1, h2⟩ := hs
  obtain ⟨ad2, cap2, rfl⟩ := hv
  go_enter L.hf, Body2.n22_ntmps ρ
  go_wp2_with (at_builtin; refine Lib.wpList_append_run _ rfl _ _ _ _ rfl _ _ rfl rfl _ _ (hr _) ?_)
  all_goals
    go_ret
    exact ⟨rfl, rfl⟩
theorem copy_run {P : Program} (w : World) (dT sT ty elem : TypeId) {sz : Nat} (hu : P.underlying dT = some (.slice elem)) (hz : ∀ w, (sizeOf elem).run P w = .ok sz w)
    (g o dLen dCap : Nat) (a : Addr) (sLen sCap n : Nat) (cur : Array Value) (e' : TypeId) (cs : List Value) (hg : w.heap[g]? = some (.cells cur e' (0, 0))) (hn : n = Nat.min sLen dLen) (hl : cs.length = n * sz)
    (hsrc : ∀ j v, cs[j]? = some v → w.cell? (a.add j) = some v) (hfit : o + cs.length ≤ cur.size) (h1 : ∀ v ∈ cs, v.oneCell' = true) :
    (Builtin.copy_ #[dT, sT] ty #[.slice (some ⟨g, o, none⟩) dLen dCap, .slice (some a) sLen sCap]).run P w = .ok (goInt n) (w.setRow g (splice cur.toList o cs).toArray) := by
  have hf := run_firstCells_some (P := P) w sz n a sLen sCap cs hl hsrc
  have hst := run_storeCells_at P g o e' cs 0 cur w hg (by simpa using hfit) h1
  simp only [Nat.add_zero] at hst
  simp [Builtin.copy_, run_underlying hu, hz, Builtin.lenOf, ← hn, hf, hst, splice]
theorem ins_shift {P : Program} {ρ : Ren} {f : FuncId} {nm : String} {ta : Array TypeId} {t : Ty} (L : InsLay P ρ f nm ta t) (w : World) (g vb n c i m vc : Nat) (cur vcur : Array Value) (e1 e2 : TypeId)
    (hg : w.heap[g]? = some (.cells cur e1 (0, 0))) (hvg : w.heap[vb]? = some (.cells vcur e2 (0, 0))) (hsz0 : 0 < t.size) (hi : i < n) (hm : 0 < m) (hroom : n + m ≤ c) (hc63 : c ≤ maxLen) (hvb : vb ≠ g)
    (hcs : cur.size = c * t.size) (hvs : vcur.size = vc * t.size) (hmv : m ≤ vc) (h1c : ∀ v ∈ cur.toList.take (n * t.size), v.oneCell' = true) (h1v : ∀ v ∈ vcur.toList.take (m * t.size), v.oneCell' = true) :
    Calls P f #[.slice (some ⟨g, 0, none⟩) n c, .int .i64 (i : Int), .slice (some ⟨vb, 0, none⟩) m vc] w fun e w2 => e = .returned (.slice (some ⟨g, 0, none⟩) (n + m) c) ∧
      w2 = (w.drew.setRow g (splice cur.toList ((i + m) * t.size) ((cur.toList.take (n * t.size)).drop (i * t.size))).toArray).setRow g
        (splice (splice cur.toList ((i + m) * t.size) ((cur.toList.take (n * t.size)).drop (i * t.size))) (i * t.size) (vcur.toList.take (m * t.size))).toArray := by
  obtain ⟨e, k1, k2⟩ := tyB_slice L.t24
  have hzE := fun w => run_sizeOf' (P := P) (w := w) k2
  have t3 := tyB_int L.t3; have t4 := tyB_bool L.t4
  have u24 := run_underlying (P := P) k1
  have u3 := run_underlying (P := P) t3
  have mixed := L.mixed
  have hmax : (maxLen : Nat) = 9223372036854775807 := rfl
  rw [hmax] at hc63
  have hz1 : ¬ ((m : Int) = 0) := by omega
  have hz2 : ¬ ((i : Int) = (n : Int)) := by omega
  generalize hsz : t.size = sz at *
  have hov : ∀ lb cb, (callFunc (ρ.f 29) #[.slice (some ⟨vb, 0, none⟩) m vc, .slice (some ⟨g, (i + m) * sz, none⟩) lb cb]).run P w = .ok (.value (.bool false)) w := fun lb cb => by
    obtain ⟨fn, q1, q2, q3, q4, q5⟩ := L.ov
    have hc0 : cur.size ≠ 0 := by rw [hcs]; exact Nat.mul_ne_zero (by omega) (by omega)
    rw [run_callFunc_extern q1 q2 q3 q4 q5,
      Lib.run_overlaps_apart w (ρ.t 24) (ρ.t 4) e k1 sz hzE ⟨vb, 0, none⟩ ⟨g, (i + m) * sz, none⟩ m vc lb cb hvb e2 e1 vcur.size cur.size (by simp [World.shape?, hvg]) (by simp [World.shape?, hg]) hc0 (by simp [World.frozen?, hvg]) (by simp [World.frozen?, hvg])]
    rfl
  have mul1 : ∀ a b : Nat, a ≤ b → a * sz ≤ b * sz := fun a b h => Nat.mul_le_mul_right sz h
  have hw1 : IntKind.i64.wrap ((i : Int) + (m : Int)) = (i : Int) + (m : Int) := by rw [IntKind.wrap_i64]; omega
  have hb1 : (0 : Int) ≤ (i : Int) + (m : Int) := by omega
  have hin : i ≤ n := by omega
  have htn : ((i : Int) + (m : Int)).toNat = i + m := by omega
  have hb2 : ¬ (c = i + m) := by omega
  have hb3 : (i : Int) ≤ (n : Int) + (m : Int) := by omega
  have hb4 : ¬ (c = i) := by omega
  have hlen : cur.toList.length = c * sz := by rw [Array.length_toList, hcs]
  have hvlen : vcur.toList.length = vc * sz := by rw [Array.length_toList, hvs]
  have hnc := mul1 n c (by omega)
  have hnmc := mul1 (n + m) c hroom
  have hin' := mul1 i n (by omega)
  have hmvc := mul1 m vc hmv
  have hsub : (n - i) * sz = n * sz - i * sz := Nat.sub_mul ..
  have hadd : (i + m) * sz = i * sz + m * sz := Nat.add_mul ..
  have hadd2 : (n + m) * sz = n * sz + m * sz := Nat.add_mul ..
  obtain ⟨CS, hCS⟩ : ∃ CS, CS = (cur.toList.take (n * sz)).drop (i * sz) := ⟨_, rfl⟩
  have hCSl : CS.length = (n - i) * sz := by rw [hCS, List.length_drop, List.length_take, hlen, hsub]; omega
  have hCS1 : ∀ v ∈ CS, v.oneCell' = true := fun v hv => h1c v (by rw [hCS] at hv; exact List.mem_of_mem_drop hv)
  obtain ⟨VS, hVS⟩ : ∃ VS, VS = vcur.toList.take (m * sz) := ⟨_, rfl⟩
  have hVSl : VS.length = m * sz := by rw [hVS, List.length_take, hvlen]; omega
  rw [← hCS, ← hVS]
  rw [← hVS] at h1v
  obtain ⟨CUR1, hCUR1⟩ : ∃ CUR1, CUR1 = (splice cur.toList ((i + m) * sz) CS).toArray := ⟨_, rfl⟩
  have hC1 : CUR1.toList = splice cur.toList ((i + m) * sz) CS := by rw [hCUR1]
  have hC1s : CUR1.size = c * sz := by
    rw [hCUR1, List.size_toArray]
    unfold splice
    rw [List.length_append, List.length_append, List.length_take, List.length_drop, hCSl, hlen]
    omega
  rw [← hC1]
  have hcp1 : ∀ ty dc sc, (Builtin.copy_ #[(ρ.t 24), (ρ.t 24)] ty #[.slice (some ⟨g, (i + m) * sz, none⟩) (n + m - (i + m)) dc, .slice (some ⟨g, i * sz, none⟩) (n + m - i) sc]).run P w.drew = .ok (goInt ((n - i : Nat) : Int)) (w.drew.setRow g CUR1) := fun ty dc sc => by
    rw [hCUR1]
    refine copy_run w.drew _ _ ty e k1 hzE g ((i + m) * sz) (n + m - (i + m)) dc ⟨g, i * sz, none⟩ (n + m - i) sc (n - i) cur e1 CS hg (by simp only [Nat.min_def]; split <;> omega) hCSl (fun j v hj => ?_) (by rw [hCSl, hcs, hsub]; omega) hCS1
    have hj2 : cur[i * sz + j]? = some v := by
      rw [hCS, List.getElem?_drop, List.getElem?_take] at hj
      split at hj
      · rw [Array.getElem?_toList] at hj; exact hj
      · cases hj
    rw [Addr.add_lit]
    show w.cell? ⟨g, i * sz + j, none⟩ = some v
    simpa [World.cell?, hg] using hj2
  have hW1 : (w.drew.setRow g CUR1).heap[g]? = some (.cells CUR1 e1 (0, 0)) := setRow_heap w.drew g cur CUR1 e1 (0, 0) hg
  have hW2 : (w.drew.setRow g CUR1).heap[vb]? = some (.cells vcur e2 (0, 0)) := by rw [setRow_other w.drew g vb CUR1 hvb]; exact hvg
  have hcp2 : ∀ ty dc, (Builtin.copy_ #[(ρ.t 24), (ρ.t 24)] ty #[.slice (some ⟨g, i * sz, none⟩) (n + m - i) dc, .slice (some ⟨vb, 0, none⟩) m vc]).run P (w.drew.setRow g CUR1) = .ok (goInt (m : Int)) ((w.drew.setRow g CUR1).setRow g (splice CUR1.toList (i * sz) VS).toArray) := fun ty dc => by
    refine copy_run _ _ _ ty e k1 hzE g (i * sz) (n + m - i) dc ⟨vb, 0, none⟩ m vc m CUR1 e1 VS hW1 (by simp only [Nat.min_def]; split <;> omega) hVSl (fun j v hj => ?_) (by rw [hVSl, hC1s]; omega) h1v
    have hj2 : vcur[j]? = some v := by
      rw [hVS, List.getElem?_take] at hj
      split at hj
      · rw [Array.getElem?_toList] at hj; exact hj
      · cases hj
    rw [Addr.add_lit, Nat.zero_add]
    simpa [World.cell?, hW2] using hj2
  rw [Array.toArray_toList]
  clear hlen hvlen hnc hnmc hin' hmvc hsub hadd hadd2 hCSl hCS1 hVSl hC1s hC1 hCUR1 hCS hVS hW1 hW2
  go_enter L.hf, Body2.n22_ntmps ρ
  go_wp2_with (simp only [hov])
  go_region_law_o (refine step_copy_runI rfl _ _ (ρ.t 24) (ρ.t 24) rfl _ _ (by simp [Act.eval, Act.put]) (by simp [Act.eval, Act.put]) (hcp1 _ _ _) ?_)
  go_wp2_with (at_builtin; refine wpList_copy_runI _ rfl _ _ (ρ.t 24) (ρ.t 24) rfl _ _ rfl rfl (hcp2 _ _) ?_)
  go_ret
  exact ⟨rfl, rfl⟩
theorem ins_grow {P : Program} {ρ : Ren} {f : FuncId} {nm : String} {ta : Array TypeId} {t : Ty} (L : InsLay P ρ f nm ta t) (w : World) (g vb n c i m vc : Nat) (cur vcur : Array Value) (e1 e2 : TypeId)
    (hg : w.heap[g]? = some (.cells cur e1 (0, 0))) (hvg : w.heap[vb]? = some (.cells vcur e2 (0, 0))) (hsz0 : 0 < t.size) (hi : i < n) (hm : 0 < m) (hnc : n ≤ c) (hroom : c < n + m) (hbig : (n + m) * (24 * t.size) ≤ 140737488355328)
    (hc63 : c ≤ maxLen) (hcs : cur.size = c * t.size) (hvs : vcur.size = vc * t.size) (hmv : m ≤ vc) (h1c : ∀ v ∈ cur.toList.take (n * t.size), v.oneCell' = true) (h1v : ∀ v ∈ vcur.toList.take (m * t.size), v.oneCell' = true) :
    ∃ e G, tyB P t e = true ∧ n + m ≤ G ∧ G ≤ maxLen ∧ ∃ ROW : Array Value, ROW.size = G * t.size ∧ ROW.toList.take (i * t.size) = cur.toList.take (i * t.size) ∧
    Calls P f #[.slice (some ⟨g, 0, none⟩) n c, .int .i64 (i : Int), .slice (some ⟨vb, 0, none⟩) m vc] w fun e' w2 => e' = .returned (.slice (some ⟨w.heap.size, 0, none⟩) (n + m) G) ∧
      w2 = ((((w.alloc (.cells ROW e)).drew.setRow w.heap.size (splice ROW.toList (i * t.size) (vcur.toList.take (m * t.size))).toArray)).drew).setRow w.heap.size
        (splice (splice ROW.toList (i * t.size) (vcur.toList.take (m * t.size))) ((i + m) * t.size) ((cur.toList.take (n * t.size)).drop (i * t.size))).toArray := by
  obtain ⟨e, k1, k2⟩ := tyB_slice L.t24
  have hzE := fun w => run_sizeOf' (P := P) (w := w) k2
  have t3 := tyB_int L.t3; have t4 := tyB_bool L.t4
  have u24 := run_underlying (P := P) k1
  have u3 := run_underlying (P := P) t3
  have mixed := L.mixed
  have hmax : (maxLen : Nat) = 9223372036854775807 := rfl
  obtain ⟨i0, z0, hi0, hz0s, hz0b, hz0z, hzc, _⟩ := rowB_spec (tyB_row k2)
  have hzcs : z0.cells.size = t.size := by rw [← Array.length_toList, hzc, zcells_len]
  have hz1 : ¬ ((m : Int) = 0) := by omega
  have hz2 : ¬ ((i : Int) = (n : Int)) := by omega
  have hz3 : (c : Int) < (n : Int) + (m : Int) := by omega
  have hbytes : (n + m) * i0.bytes ≤ 140737488355328 := Nat.le_trans (Nat.mul_le_mul_left _ hz0b) hbig
  generalize hsz : t.size = sz at *
  have mul1 : ∀ a b : Nat, a ≤ b → a * sz ≤ b * sz := fun a b h => Nat.mul_le_mul_right sz h
  have hlen : cur.toList.length = c * sz := by rw [Array.length_toList, hcs]
  have hvlen : vcur.toList.length = vc * sz := by rw [Array.length_toList, hvs]
  have hnc' := mul1 n c hnc
  have hin' := mul1 i n (by omega)
  have hmvc := mul1 m vc hmv
  have hsub : (n - i) * sz = n * sz - i * sz := Nat.sub_mul ..
  have hadd : (i + m) * sz = i * sz + m * sz := Nat.add_mul ..
  have hadd2 : (n + m) * sz = n * sz + m * sz := Nat.add_mul ..
  have hsmall : (n + m) * 1 ≤ (n + m) * (24 * sz) := Nat.mul_le_mul_left _ (by omega)
  have hkk : (n : Int) + (m : Int) - (i : Int) = ((n + m - i : Nat) : Int) := by omega
  have hik : i + (n + m - i) = n + m := by omega
  have hgw : g < w.heap.size := (Array.getElem?_eq_some_iff.1 hg).1
  have hvw : vb < w.heap.size := (Array.getElem?_eq_some_iff.1 hvg).1
  have hkb : (n + m - i) * i0.bytes ≤ (n + m) * i0.bytes := Nat.mul_le_mul_right _ (by omega)
  have hold : (Builtin.firstCells i0.size i (.slice (some ⟨g, 0, none⟩) i c)).run P w.drew = .ok (cur.toList.take (i * sz)).toArray w.drew := by
    rw [hz0s]
    exact run_firstCells_some w.drew sz i ⟨g, 0, none⟩ i c (cur.toList.take (i * sz)) (by rw [List.length_take, hlen]; omega) (fun j v hj => by
      rw [Addr.add_lit, Nat.zero_add]
      rw [List.getElem?_take] at hj
      split at hj
      · rw [Array.getElem?_toList] at hj
        show w.cell? ⟨g, j, none⟩ = some v
        simpa [World.cell?, hg] using hj
      · cases hj)
  have hrz : ∀ ty, (Builtin.append_ #[(ρ.t 24), (ρ.t 3)] ty #[.slice (some ⟨g, 0, none⟩) i c, .int .i64 ((n : Int) + (m : Int) - (i : Int))]).run P w =
      .ok (.slice (some ⟨w.heap.size, 0, none⟩) (n + m) (grownCap w (n + m) c e)) (w.drew.alloc (.cells ((cur.toList.take (i * sz)).toArray ++ Builtin.zeroCells z0.cells (n + m - i) ++ Builtin.zeroCells z0.cells (grownCap w (n + m) c e - (n + m))) e)) := fun ty => by
    have h := Lib.run_append_grow_zeros w (ρ.t 24) (ρ.t 3) ty e i0 z0 .i64 .i64 k1 t3 hi0 hz0z (some ⟨g, 0, none⟩) i c (cur.toList.take (i * sz)) hold (n + m - i) (by omega) (by omega) (by omega) (by omega) (by omega) (by rw [hik]; exact growslice_fits hroom hbytes)
    rw [hik] at h
    rw [hkk]
    exact h
  have hGn : n + m ≤ grownCap w (n + m) c e := grownCap_ge w _ _ _
  have hG63 : grownCap w (n + m) c e ≤ maxLen := grownCap_le_maxLen w (n + m) c e (by rw [hmax]; omega)
  refine ⟨e, grownCap w (n + m) c e, k2, hGn, hG63, (cur.toList.take (i * sz)).toArray ++ Builtin.zeroCells z0.cells (n + m - i) ++ Builtin.zeroCells z0.cells (grownCap w (n + m) c e - (n + m)), ?_, ?_, ?_⟩
  · have e1 : ∀ a b d : Nat, i ≤ a → a ≤ b → i * sz + (a - i) * sz + (b - a) * sz = b * sz := fun a b d h1 h2 => by
      rw [← Nat.add_mul, ← Nat.add_mul]; congr 1; omega
    simp only [Array.size_append, List.size_toArray, size_zeroCells, hzcs, List.length_take, hlen]
    rw [Nat.min_eq_left (by omega)]
    exact e1 (n + m) _ 0 (by omega) hGn
  · simp only [Array.toList_append, List.append_assoc]
    rw [List.take_append_of_le_length (by rw [List.length_take, hlen]; omega), List.take_of_length_le (by rw [List.length_take]; omega)]
  generalize hG : grownCap w (n + m) c e = G at hrz hGn hG63 ⊢
  rw [hmax] at hG63
  obtain ⟨ROW, hROW⟩ : ∃ ROW : Array Value, ROW = (cur.toList.take (i * sz)).toArray ++ Builtin.zeroCells z0.cells (n + m - i) ++ Builtin.zeroCells z0.cells (G - (n + m)) := ⟨_, rfl⟩
  have hRs : ROW.size = G * sz := by
    have e1 : ∀ a b : Nat, i ≤ a → a ≤ b → i * sz + (a - i) * sz + (b - a) * sz = b * sz := fun a b h1 h2 => by
      rw [← Nat.add_mul, ← Nat.add_mul]; congr 1; omega
    rw [hROW]
    simp only [Array.size_append, List.size_toArray, size_zeroCells, hzcs, List.length_take, hlen]
    rw [Nat.min_eq_left (by omega)]
    exact e1 (n + m) _ (by omega) hGn
  rw [← hROW] at hrz ⊢
  have hGs := mul1 (n + m) G hGn
  obtain ⟨CS, hCS⟩ : ∃ CS, CS = (cur.toList.take (n * sz)).drop (i * sz) := ⟨_, rfl⟩
  have hCSl : CS.length = (n - i) * sz := by rw [hCS, List.length_drop, List.length_take, hlen, hsub]; omega
  have hCS1 : ∀ v ∈ CS, v.oneCell' = true := fun v hv => h1c v (by rw [hCS] at hv; exact List.mem_of_mem_drop hv)
  obtain ⟨VS, hVS⟩ : ∃ VS, VS = vcur.toList.take (m * sz) := ⟨_, rfl⟩
  have hVSl : VS.length = m * sz := by rw [hVS, List.length_take, hvlen]; omega
  rw [← hCS, ← hVS]
  rw [← hVS] at h1v
  obtain ⟨R1, hR1⟩ : ∃ R1, R1 = (splice ROW.toList (i * sz) VS).toArray := ⟨_, rfl⟩
  have hR1l : R1.toList = splice ROW.toList (i * sz) VS := by rw [hR1]
  have hR1s : R1.size = G * sz := by
    rw [hR1, List.size_toArray]
    unfold splice
    rw [List.length_append, List.length_append, List.length_take, List.length_drop, hVSl, Array.length_toList, hRs]
    omega
  rw [← hR1l, Array.toArray_toList]
  have hcpA : ∀ (W : World), W.heap[w.heap.size]? = some (.cells ROW e (0, 0)) → W.heap[vb]? = some (.cells vcur e2 (0, 0)) → ∀ ty dc, (Builtin.copy_ #[(ρ.t 24), (ρ.t 24)] ty #[.slice (some ⟨w.heap.size, i * sz, none⟩) (n + m - i) dc, .slice (some ⟨vb, 0, none⟩) m vc]).run P W = .ok (goInt (m : Int)) (W.setRow w.heap.size R1) := fun W hW1 hW2 ty dc => by
    rw [hR1]
    refine copy_run W _ _ ty e k1 hzE w.heap.size (i * sz) (n + m - i) dc ⟨vb, 0, none⟩ m vc m ROW e VS hW1 (by simp only [Nat.min_def]; split <;> omega) hVSl (fun j v hj => ?_) (by rw [hVSl, hRs]; omega) h1v
    have hj2 : vcur[j]? = some v := by
      rw [hVS, List.getElem?_take] at hj
      split at hj
      · rw [Array.getElem?_toList] at hj; exact hj
      · cases hj
    rw [Addr.add_lit, Nat.zero_add]
    simpa [World.cell?, hW2] using hj2
  have hcpB : ∀ (W : World), W.heap[w.heap.size]? = some (.cells R1 e (0, 0)) → W.heap[g]? = some (.cells cur e1 (0, 0)) → ∀ ty dc sc, (Builtin.copy_ #[(ρ.t 24), (ρ.t 24)] ty #[.slice (some ⟨w.heap.size, (i + m) * sz, none⟩) (n + m - (i + m)) dc, .slice (some ⟨g, i * sz, none⟩) (n - i) sc]).run P W = .ok (goInt ((n - i : Nat) : Int)) (W.setRow w.heap.size (splice R1.toList ((i + m) * sz) CS).toArray) := fun W hW1 hW2 ty dc sc => by
    refine copy_run W _ _ ty e k1 hzE w.heap.size ((i + m) * sz) (n + m - (i + m)) dc ⟨g, i * sz, none⟩ (n - i) sc (n - i) R1 e CS hW1 (by simp only [Nat.min_def]; split <;> omega) hCSl (fun j v hj => ?_) (by rw [hCSl, hR1s, hsub]; omega) hCS1
    have hj2 : cur[i * sz + j]? = some v := by
      rw [hCS, List.getElem?_drop, List.getElem?_take] at hj
      split at hj
      · rw [Array.getElem?_toList] at hj; exact hj
      · cases hj
    rw [Addr.add_lit]
    simpa [World.cell?, hW2] using hj2
  have hA1 : ((w.alloc (.cells ROW e)).drew).heap[w.heap.size]? = some (.cells ROW e (0, 0)) := by
    show (w.heap.push _)[w.heap.size]? = _
    rw [Array.getElem?_push, if_pos rfl]
  have hA2 : ((w.alloc (.cells ROW e)).drew).heap[vb]? = some (.cells vcur e2 (0, 0)) := by
    show (w.heap.push _)[vb]? = _
    rw [Array.getElem?_push, if_neg (by omega)]; exact hvg
  have hA3 : ((w.alloc (.cells ROW e)).drew).heap[g]? = some (.cells cur e1 (0, 0)) := by
    show (w.heap.push _)[g]? = _
    rw [Array.getElem?_push, if_neg (by omega)]; exact hg
  have hB1 : (((w.alloc (.cells ROW e)).drew).setRow w.heap.size R1).heap[w.heap.size]? = some (.cells R1 e (0, 0)) := setRow_heap _ _ ROW R1 e (0, 0) hA1
  have hB2 : (((w.alloc (.cells ROW e)).drew).setRow w.heap.size R1).heap[g]? = some (.cells cur e1 (0, 0)) := by rw [setRow_other _ _ g R1 (by omega)]; exact hA3
  have hGi : ¬ (G = i) := by omega
  have hGim : ¬ (G = i + m) := by omega
  have hci : ¬ (c = i) := by omega
  have hw1 : IntKind.i64.wrap ((i : Int) + (m : Int)) = (i : Int) + (m : Int) := by rw [IntKind.wrap_i64]; omega
  have hb1 : (0 : Int) ≤ (i : Int) + (m : Int) := by omega
  have hin : i ≤ n := by omega
  have htn : ((i : Int) + (m : Int)).toNat = i + m := by omega
  have hb3 : (i : Int) ≤ (n : Int) := by omega
  clear hlen hvlen hnc' hin' hmvc hsub hadd hadd2 hsmall hkk hik hkb hold hROW hRs hGs hCS hCSl hCS1 hVS hVSl hR1 hR1l hR1s hG hbytes hbig
  have hcpA' := hcpA _ hA1 hA2
  have hcpB' := hcpB (((w.alloc (.cells ROW e)).drew.setRow w.heap.size R1).drew) hB1 hB2
  clear hcpA hcpB hA1 hA2 hA3 hB1 hB2
  go_enter L.hf, Body2.n22_ntmps ρ
  go_wp2_with (first
    | (at_builtin; refine Lib.wpList_append_run _ rfl _ _ _ _ rfl _ _ rfl rfl _ _ (hrz _) ?_)
    | (at_builtin; refine wpList_copy_runI _ rfl _ _ (ρ.t 24) (ρ.t 24) rfl _ _ rfl rfl (hcpA' _ _) ?_))
  go_region_law_o (refine step_copy_runI rfl _ _ (ρ.t 24) (ρ.t 24) rfl (.slice (some ⟨w.heap.size, (i + m) * sz, none⟩) (n + m - (i + m)) (G - (i + m))) (.slice (some ⟨g, i * sz, none⟩) (n - i) (c - i)) (by simp [Act.eval, Act.put]) (by simp [Act.eval, Act.put]) (hcpB' (ρ.t 3) (G - (i + m)) (c - i)) ?_)
  go_wp2
  go_ret
  exact ⟨rfl, rfl⟩
abbrev s_ins (t : Ty) : Sig := ⟨[.own false t, .ro true (.int .i64), .own false t], [.own false t]⟩
def insF (t : Ty) (x : denL (s_ins t).ins) : Option (s_ins t).outDen :=
  if 0 ≤ x.2.1 ∧ x.2.1 ≤ (List.length x.1 : Int) ∧ 0 < List.length x.2.2.1 ∧ roomy (List.length x.1 + List.length x.2.2.1) t = true then
    some ((List.append (List.take x.2.1.toNat x.1) (List.append x.2.2.1 (List.drop x.2.1.toNat x.1)), ()), ((), ((), ((), ())))) else none
theorem one_own {w : World} {ok : Bool → Nat → Prop} {base : Nat} {t : Ty} {v : Value} {x : List t.den} {bs : List Nat} (ha : isAgg' v = (MTy.own false t).ty.agg) (h : MR w ok base (.own false t) v.cells.toList x bs) :
    (v = .slice none 0 0 ∧ x = ([] : List t.den) ∧ bs = []) ∨ ∃ g cap cur e, v = .slice (some ⟨g, 0, none⟩) (List.length x) cap ∧ w.heap[g]? = some (.cells cur e (0, 0)) ∧
        List.length x ≤ cap ∧ cap ≤ maxLen ∧ cur.size = cap * t.size ∧ RowsR (DR w (ok false) t) t.size (cur.toList.take (List.length x * t.size)) x ∧ bs = [g] := by
  obtain ⟨v', h1, h2⟩ := h
  have ha : isAgg' v = false := ha
  rw [cells_one ha] at h1
  have : v = v' := by simpa using h1
  subst this
  rcases h2 with h2 | ⟨g, cap, cur, e, q1, q2, q3, q4, q5, q6, _, q8⟩
  · exact .inl h2
  · exact .inr ⟨g, cap, cur, e, q1, q2, q3, q4, q5, q6, q8⟩
theorem rows_one {w : World} {ok : Nat → Prop} {t : Ty} : ∀ {cs : List Value} {xs : List t.den}, RowsR (DR w ok t) t.size cs xs → ∀ v ∈ cs, v.oneCell' = true
  | cs, [], h, v, hv => by rw [show cs = [] from h] at hv; cases hv
  | cs, x :: xs, ⟨h1, h2, h3⟩, v, hv => by
    rw [← List.take_append_drop t.size cs] at hv
    rcases List.mem_append.1 hv with hv | hv
    · exact DR.one h2 v hv
    · exact rows_one h3 v hv
theorem splice_front {A V C : List Value} {o : Nat} (hA : A = C.take o) (h : o + V.length ≤ C.length) : (splice C o V).take (o + V.length) = A ++ V := by
  unfold splice
  have hl : (C.take o).length = o := by rw [List.length_take]; omega
  rw [List.take_append_of_le_length (by rw [List.length_append, hl]; omega), List.take_of_length_le (by rw [List.length_append, hl]; omega), hA]
theorem splice_sameL {V C : List Value} {o : Nat} (h : o + V.length ≤ C.length) : (splice C o V).length = C.length := by
  unfold splice
  rw [List.length_append, List.length_append, List.length_take, List.length_drop]
  omega
theorem shift_rows {C V : List Value} {A M N : Nat} (hA : A ≤ N) (hV : V.length = M) (hC : N + M ≤ C.length) :
    (splice (splice C (A + M) ((C.take N).drop A)) A V).take (N + M) = (C.take N).take A ++ (V ++ (C.take N).drop A) := by
  have hD : ((C.take N).drop A).length = N - A := by rw [List.length_drop, List.length_take]; omega
  have h1 : A + M + ((C.take N).drop A).length ≤ C.length := by omega
  have hl1 := splice_sameL h1
  have e1 : splice (splice C (A + M) ((C.take N).drop A)) A V = C.take A ++ V ++ (splice C (A + M) ((C.take N).drop A)).drop (A + M) := by
    conv => lhs; unfold splice
    rw [hV]
    congr 2
    rw [List.append_assoc, List.take_append_of_le_length (by rw [List.length_take]; omega), List.take_take, Nat.min_eq_left (by omega)]
  have e2 : (splice C (A + M) ((C.take N).drop A)).drop (A + M) = (C.take N).drop A ++ C.drop (N + M) := by
    unfold splice
    rw [List.append_assoc, List.drop_append, List.drop_of_length_le (by rw [List.length_take]; omega), List.length_take, Nat.min_eq_left (by omega), Nat.sub_self, List.drop_zero, hD, List.nil_append, show A + M + (N - A) = N + M by omega]
  rw [e1, e2, ← List.append_assoc, List.take_append_of_le_length (by simp only [List.length_append, List.length_take, hV, hD]; omega), List.take_of_length_le (by simp only [List.length_append, List.length_take, hV, hD]; omega), List.take_take, Nat.min_eq_left hA, List.append_assoc]
theorem grow_rows {C V R : List Value} {A M N : Nat} (hA : A ≤ N) (hV : V.length = M) (hN : N ≤ C.length) (hR : N + M ≤ R.length) (hRA : R.take A = C.take A) :
    (splice (splice R A V) (A + M) ((C.take N).drop A)).take (N + M) = (C.take N).take A ++ (V ++ (C.take N).drop A) := by
  have hD : ((C.take N).drop A).length = N - A := by rw [List.length_drop, List.length_take]; omega
  have h1 : A + V.length ≤ R.length := by omega
  have hl1 := splice_sameL h1
  have e1 : (splice R A V).take (A + M) = C.take A ++ V := by rw [← hV]; exact splice_front hRA.symm h1
  unfold splice at e1 ⊢
  rw [e1, List.take_append_of_le_length (by simp only [List.length_append, List.length_take, hV, hD]; omega), List.take_of_length_le (by simp only [List.length_append, List.length_take, hV, hD]; omega), List.take_take, Nat.min_eq_left hA, List.append_assoc]
theorem frame_drew (w : World) (bs : List Nat) : FrameW w w.drew bs := ⟨rfl, rfl, rfl, Nat.le_refl _, fun _ _ _ => rfl⟩
theorem insert_ok {P : Program} {ρ : Ren} {f : FuncId} {nm : String} {ta : Array TypeId} {t : Ty} (L : InsLay P ρ f nm ta t) (hname : (nm == "runtime.NumGoroutine") = false) : FnOK P f (s_ins t) (insF t) := by
  intro w B vals x bs y hy hB hnd hnB hr
  obtain ⟨s, i, v, xu⟩ := x
  unfold insF at hy
  simp only at hy
  split at hy
  case isFalse => cases hy
  rename_i hcond
  obtain ⟨i0, i1, hm, hroomy⟩ := hcond
  cases hy
  obtain ⟨v1, r1, b1, c1, rfl, a1, m1, hr, rfl⟩ := hr
  obtain ⟨v2, r2, b2, c2, rfl, a2, m2, hr, rfl⟩ := hr
  obtain ⟨v3, r3, b3, c3, rfl, a3, m3, hr, rfl⟩ := hr
  obtain ⟨rfl, rfl⟩ := hr
  obtain ⟨rfl, m2⟩ := m2
  have a2 : isAgg' v2 = false := a2
  rw [cells_one a2] at m2
  have e2 : v2 = .int .i64 i := by simpa using m2.1
  subst e2
  obtain ⟨i, rfl⟩ := Int.eq_ofNat_of_zero_le i0
  have i1 : i ≤ List.length s := Int.ofNat_le.1 i1
  simp only [List.append_nil, List.nil_append] at hnd hnB m1 m3 ⊢
  rw [Int.toNat_natCast]
  -- the sizes
  have hry : 0 < t.size ∧ (List.length s + List.length v) * (24 * t.size) ≤ 140737488355328 := by
    unfold roomy at hroomy
    simp only [Bool.and_eq_true, decide_eq_true_eq] at hroomy
    exact ⟨Nat.lt_of_lt_of_le Nat.zero_lt_one (Nat.le_of_ble_eq_true hroomy.1), hroomy.2⟩
  obtain ⟨hsz, hbig⟩ := hry
  have hsm : (List.length s + List.length v) * 1 ≤ (List.length s + List.length v) * (24 * t.size) := Nat.mul_le_mul_left _ (by omega)
  obtain ⟨vb, vc, vcur, ve, rfl, hvg, hvc, hvm, hvs, hvr, rfl⟩ : ∃ g cap cur e, v3 = .slice (some ⟨g, 0, none⟩) (List.length v) cap ∧ w.heap[g]? = some (.cells cur e (0, 0)) ∧
        List.length v ≤ cap ∧ cap ≤ maxLen ∧ cur.size = cap * t.size ∧ RowsR (DR w (okIn w B (b1 ++ b3) false) t) t.size (cur.toList.take (List.length v * t.size)) v ∧ b3 = [g] := by
    rcases one_own a3 m3 with ⟨_, h2, _⟩ | h
    · rw [h2] at hm; simp at hm
    · exact h
  have hv1 := rows_one hvr
  have hcall : (callFunc f [v1, .int .i64 (i : Int), .slice (some ⟨vb, 0, none⟩) (List.length v) vc].toArray).run P w = .ok (.enter f [v1, .int .i64 (i : Int), .slice (some ⟨vb, 0, none⟩) (List.length v) vc].toArray) w := by
    have hb : (Body2.n22 ρ).body.isSome = true := rfl
    obtain ⟨c, hc⟩ := Option.isSome_iff_exists.1 hb
    have hn : nm ≠ "runtime.NumGoroutine" := by simpa using hname
    simp [callFunc, L.hf, hn, hc]
  -- what is to be shown of the result
  have fin : ∀ (g' G : Nat) (CUR : Array Value) (e : TypeId) (w' : World), w'.heap[g']? = some (.cells CUR e (0, 0)) → List.length s + List.length v ≤ G → G ≤ maxLen → CUR.size = G * t.size →
      RowsR (DR w (okIn w B (b1 ++ [vb]) false) t) t.size (CUR.toList.take ((List.length s + List.length v) * t.size)) (List.append (List.take i s) (List.append v (List.drop i s))) →
      (w.heap.size ≤ g' ∨ g' ∈ b1) → FrameW w w' (b1 ++ [vb]) →
      Gives w B (s_ins t) [v1, .int .i64 (i : Int), .slice (some ⟨vb, 0, none⟩) (List.length v) vc] (b1 ++ [vb]) ((List.append (List.take i s) (List.append v (List.drop i s)), ()), ((), ((), ((), ())))) (.slice (some ⟨g', 0, none⟩) (List.length s + List.length v) G) w' := by
    intro g' G CUR e w' h1 h2 h3 h4 h5 h6 h7
    have hlen : List.length (List.append (List.take i s) (List.append v (List.drop i s))) = List.length s + List.length v := by
      simp only [List.append_eq, List.length_append, List.length_take, List.length_drop]
      omega
    refine ⟨[.slice (some ⟨g', 0, none⟩) (List.length s + List.length v) G], [g'], [], rfl, ?_, ?_, by simp, ?_, h7⟩
    · refine ⟨_, _, [g'], [], rfl, rfl, ⟨_, rfl, .inr ⟨g', G, CUR, e, by rw [hlen], h1, by rw [hlen]; exact h2, h3, h4, ?_, (by intro h; cases h), rfl⟩⟩, ⟨rfl, rfl⟩, rfl⟩
      rw [hlen]
      refine RowsR.mono (fun c z hz => DR.move (fun b hb hok => ⟨⟨?_, hok.2.1, (by intro h; cases h)⟩, h7.block b hb hok.1⟩) hz) h5
      intro hmem
      have : b = g' := by simpa using hmem
      subst this
      rcases h6 with h6 | h6
      · omega
      · exact hok.1 (by simp [h6])
    · exact ⟨_, _, [], [], rfl, rfl, ⟨rfl, rfl⟩, ⟨_, _, [], [], rfl, rfl, ⟨rfl, rfl⟩, ⟨_, _, [], [], rfl, rfl, ⟨rfl, rfl⟩, ⟨rfl, rfl⟩, rfl⟩, rfl⟩, rfl⟩
    · intro b hb
      have : b = g' := by simpa using hb
      subst this
      rcases h6 with h6 | h6
      · exact .inl h6
      · exact .inr (by simp [h6])
  have hvbl : vb < w.heap.size := (Array.getElem?_eq_some_iff.1 hvg).1
  have hvl0 : vcur.toList.length = vc * t.size := by rw [Array.length_toList, hvs]
  have hM : List.length v * t.size ≤ vc * t.size := Nat.mul_le_mul_right _ hvc
  have hVl : (vcur.toList.take (List.length v * t.size)).length = List.length v * t.size := by rw [List.length_take, hvl0]; omega
  obtain ⟨e, k1, k2⟩ := tyB_slice L.t24
  obtain ⟨ti, z0, hi0, hz0s, hz0b, hz0z, hzc, _⟩ := rowB_spec (tyB_row k2)
  have hzcs : z0.cells.size = ti.size := by rw [← Array.length_toList, hzc, zcells_len, hz0s]
  have hbytes : (List.length s + List.length v) * ti.bytes ≤ 140737488355328 := Nat.le_trans (Nat.mul_le_mul_left _ hz0b) hbig
  have hmax : (maxLen : Nat) = 9223372036854775807 := rfl
  -- an insertion at the end
  have hend : i = List.length s → ∀ (olds : List Value) (e' : TypeId), (v1 = .slice none 0 0 ∧ List.length s = 0 ∧ olds = [] ∨ ∃ g cap cur, v1 = .slice (some ⟨g, 0, none⟩) (List.length s) cap ∧ w.heap[g]? = some (.cells cur e' (0, 0)) ∧ List.length s ≤ cap ∧ cap ≤ maxLen ∧
      cur.size = cap * ti.size ∧ cur.toList.take (List.length s * ti.size) = olds ∧ b1 = [g]) → RowsR (DR w (okIn w B (b1 ++ [vb]) false) t) t.size (olds ++ vcur.toList.take (List.length v * t.size)) (List.append (List.take i s) (List.append v (List.drop i s))) →
      Runs P f [v1, .int .i64 (i : Int), .slice (some ⟨vb, 0, none⟩) (List.length v) vc] w (Gives w B (s_ins t) [v1, .int .i64 (i : Int), .slice (some ⟨vb, 0, none⟩) (List.length v) vc] (b1 ++ [vb]) ((List.append (List.take i s) (List.append v (List.drop i s)), ()), ((), ((), ((), ()))))) := by
    intro hi olds e' hs hrows
    obtain ⟨v', w', hr, hgr⟩ := append_run w (ρ.t 24) 0 e e' ti z0 k1 hi0 hz0z hzcs v1 (List.length s) olds (hs.imp id fun ⟨g, cap, cur, q1, q2, q3, q4, q5, q6, _⟩ => ⟨g, cap, cur, q1, q2, q3, q4, q5, q6⟩)
      (some ⟨vb, 0, none⟩) (List.length v) vc (vcur.toList.take (List.length v * t.size)) (by rw [hz0s]; exact hVl) (by intro h; cases h) (fun a ha j u hj => by
        cases ha
        rw [List.getElem?_take] at hj
        split at hj
        · rw [Array.getElem?_toList] at hj
          rw [Addr.add_lit, Nat.zero_add]
          simpa [World.cell?, hvg] using hj
        · cases hj) hv1 (by rw [hmax]; omega) hbytes
    subst hi
    have hsl : ∃ ad cap, v1 = .slice ad (List.length s) cap ∧ List.length s ≤ cap ∧ cap ≤ maxLen := by
      rcases hs with ⟨h1, h2, _⟩ | ⟨g, cap, cur, h1, _, h3, h4, _⟩
      · exact ⟨none, 0, by rw [h1, h2], by omega, by omega⟩
      · exact ⟨_, cap, h1, h3, h4⟩
    have hcl := ins_end L w w' v1 (.slice (some ⟨vb, 0, none⟩) (List.length v) vc) v' (List.length s) (List.length v) hsl ⟨_, _, rfl⟩ hm (fun ty => hr)
    refine .inl ⟨hcall, hcl.mono fun e2 w2 he => ?_⟩
    obtain ⟨rfl, rfl⟩ := he
    have hadd2 : (List.length s + List.length v) * t.size = List.length s * t.size + List.length v * t.size := Nat.add_mul ..
    rw [hz0s] at hgr hs
    cases hgr with
    | none h1 h2 h3 => omega
    | room g cap cur e'' hg hs' hr' hf =>
      obtain ⟨g2, cap2, cur2, q1, q2, q3, q4, q5, q6, q7⟩ : ∃ g2 cap2 cur2, v1 = .slice (some ⟨g2, 0, none⟩) (List.length s) cap2 ∧ w.heap[g2]? = some (.cells cur2 e' (0, 0)) ∧ List.length s ≤ cap2 ∧ cap2 ≤ maxLen ∧
          cur2.size = cap2 * t.size ∧ cur2.toList.take (List.length s * t.size) = olds ∧ b1 = [g2] := by
        rcases hs with ⟨h1, _, _⟩ | h
        · rw [h1] at hs'; cases hs'
        · exact h
      rw [q1] at hs'
      cases hs'
      rw [hg] at q2
      cases q2
      have hfit : List.length s * t.size + (vcur.toList.take (List.length v * t.size)).length ≤ cur.toList.length := by rw [Array.length_toList]; exact hf
      refine fin g cap _ e' _ (setRow_heap w g cur _ e' (0, 0) hg) hr' q4 ?_ ?_ (.inr (by rw [q7]; simp)) ((FrameW.setRow ⟨rfl, rfl, rfl, Nat.le_refl _, fun _ _ _ => rfl⟩ g _ (.inr (by rw [q7]; simp))))
      · rw [List.size_toArray, splice_sameL hfit, Array.length_toList, q5]
      · have := splice_front (A := olds) q6.symm hfit
        rw [hVl, ← hadd2] at this
        simp only
        rw [this]
        exact hrows
    | fresh cap cells h1 h2 h3 h4 =>
      refine fin w.heap.size cap cells e _ ?_ h1 h2 h3 ?_ (.inl (Nat.le_refl _)) ((frame_drew w _).alloc _)
      · show (w.heap.push _)[w.heap.size]? = _
        rw [Array.getElem?_push, if_pos rfl]
      · rw [h4]
        exact hrows
  rcases one_own a1 m1 with ⟨rfl, rfl, rfl⟩ | ⟨g, c, cur, e1, rfl, hg, hc1, hc2, hcs, hcr, rfl⟩
  · have hi : i = 0 := by simpa using i1
    subst hi
    have hv0 : List.append (List.take 0 ([] : List t.den)) (List.append v (List.drop 0 ([] : List t.den))) = v := by
      show [] ++ (v ++ []) = v
      rw [List.nil_append, List.append_nil]
    exact hend rfl [] e (.inl ⟨rfl, rfl, rfl⟩) (hv0.symm ▸ hvr)
  · have hc1v := rows_one hcr
    have hne : vb ≠ g := by
      intro he
      subst he
      simp at hnd
    have hA : i * t.size ≤ List.length s * t.size := Nat.mul_le_mul_right _ i1
    have hN : List.length s * t.size ≤ c * t.size := Nat.mul_le_mul_right _ hc1
    have hCl : cur.toList.length = c * t.size := by rw [Array.length_toList, hcs]
    have hadd : (i + List.length v) * t.size = i * t.size + List.length v * t.size := Nat.add_mul ..
    have hadd2 : (List.length s + List.length v) * t.size = List.length s * t.size + List.length v * t.size := Nat.add_mul ..
    have hrows : RowsR (DR w (okIn w B ([g] ++ [vb]) false) t) t.size ((cur.toList.take (List.length s * t.size)).take (i * t.size) ++ (vcur.toList.take (List.length v * t.size) ++ (cur.toList.take (List.length s * t.size)).drop (i * t.size))) (List.append (List.take i s) (List.append v (List.drop i s))) :=
      (hcr.take i).append (hvr.append (hcr.drop i))
    by_cases hin : i = List.length s
    · refine hend hin (cur.toList.take (List.length s * t.size)) e1 (.inr ⟨g, c, cur, rfl, hg, hc1, hc2, by rw [hz0s]; exact hcs, by rw [hz0s], rfl⟩) ?_
      have := hcr.append hvr
      rw [hin]
      simpa using this
    · by_cases hroom : List.length s + List.length v ≤ c
      · have hcl := ins_shift L w g vb (List.length s) c i (List.length v) vc cur vcur e1 ve hg hvg hsz (by omega) hm hroom hc2 hne hcs hvs hvc hc1v hv1
        have hS : (List.length s + List.length v) * t.size ≤ c * t.size := Nat.mul_le_mul_right _ hroom
        refine .inl ⟨hcall, hcl.mono fun e w' he => ?_⟩
        obtain ⟨rfl, rfl⟩ := he
        refine fin g c _ e1 _ (setRow_heap _ _ _ _ e1 (0, 0) (setRow_heap w.drew g cur _ e1 (0, 0) hg)) hroom hc2 ?_ ?_ (.inr (by simp)) (((frame_drew w _).setRow g _ (.inr (by simp))).setRow g _ (.inr (by simp)))
        · rw [List.size_toArray, splice_sameL, splice_sameL, hCl]
          · rw [List.length_drop, List.length_take, hCl]; omega
          · rw [splice_sameL, hVl, hCl]
            · omega
            · rw [List.length_drop, List.length_take, hCl]; omega
        · rw [hadd, hadd2]
          simp only
          rw [shift_rows hA hVl (by rw [hCl]; omega)]
          exact hrows
      · obtain ⟨e, G, k2, G1, G2, ROW, R1, R2, hcl⟩ := ins_grow L w g vb (List.length s) c i (List.length v) vc cur vcur e1 ve hg hvg hsz (by omega) hm hc1 (by omega) hbig hc2 hcs hvs hvc hc1v hv1
        have hS : (List.length s + List.length v) * t.size ≤ G * t.size := Nat.mul_le_mul_right _ G1
        have hRl : ROW.toList.length = G * t.size := by rw [Array.length_toList, R1]
        refine .inl ⟨hcall, hcl.mono fun e' w' he => ?_⟩
        obtain ⟨rfl, rfl⟩ := he
        have h0 : ((w.alloc (.cells ROW e)).drew).heap[w.heap.size]? = some (.cells ROW e (0, 0)) := by
          show (w.heap.push _)[w.heap.size]? = _
          rw [Array.getElem?_push, if_pos rfl]
        have hf1 : FrameW w ((w.alloc (.cells ROW e)).drew) ([g] ++ [vb]) := by
          have := ((frame_drew w ([g] ++ [vb])).alloc (.cells ROW e))
          exact this
        have hf2 : FrameW w ((((w.alloc (.cells ROW e)).drew.setRow w.heap.size (splice ROW.toList (i * t.size) (vcur.toList.take (List.length v * t.size))).toArray)).drew) ([g] ++ [vb]) := by
          have := hf1.setRow w.heap.size (splice ROW.toList (i * t.size) (vcur.toList.take (List.length v * t.size))).toArray (.inl (Nat.le_refl _))
          exact ⟨this.os, this.tape, this.output, this.size, this.block⟩
        refine fin w.heap.size G _ e _ (setRow_heap _ _ _ _ e (0, 0) (setRow_heap _ _ ROW _ e (0, 0) h0)) G1 G2 ?_ ?_ (.inl (Nat.le_refl _)) (hf2.setRow _ _ (.inl (Nat.le_refl _)))
        · rw [List.size_toArray, splice_sameL, splice_sameL, hRl]
          · rw [hVl, hRl]; omega
          · rw [splice_sameL, List.length_drop, List.length_take, hCl, hRl]
            · omega
            · rw [hVl, hRl]; omega
        · rw [hadd, hadd2]
          simp only
          rw [grow_rows hA hVl (by rw [hCl]; omega) (by rw [hRl]; omega) R2]
          exact hrows
end Go.Pon
set_option autoImplicit false
set_option linter.unusedVariables false
set_option linter.unusedSimpArgs false
namespace Go.Pon
open Go Go.Proofs Go.Shelf Go.RowKit Go.Lib
structure DelLay (P : Program) (ρ : Ren) (f : FuncId) (nm : String) (ta : Array TypeId) (t : Ty) : Prop where
  mixed : P.follows .mixedOrders = true
  hf : P.funcs[f]? = some { Body2.n24 ρ with name := nm, targs := ta }
  t0 : P.underlying (ρ.t 0) = some (.tuple #[])
  t3 : tyB P (.int .i64) (ρ.t 3) = true
  t4 : tyB P .bool (ρ.t 4) = true
  t24 : tyB P (.slice t) (ρ.t 24) = true
theorem wpList_clear_runI {P : Program} (w : World) {ops : Array Oper} {rest : List Oper} {o : Oper} {a : Act} {Q : Exit → Act → World → Prop} (hgd : o.guard = none) (d : Operand) (t : TypeId)
    (ho : o.op = .call { callee := .builtin .clear, args := #[d], argTypes := #[t] }) (v : Value) (hd : a.eval d = v) {v' : Value} {w' : World}
    (hr : (Builtin.clear_ #[t] o.type #[v]).run P w = .ok v' w') (h : wpList P ops Q rest (a.put o.dst v') w') : wpList P ops Q (o :: rest) a w :=
  wpList_plain hgd fun K hK => by
    unfold Oper.wp execOp
    simp only [ho, resolve, invoke, builtin, Sem.run_bind, Sem.run_pure, Result.andThen_ok, List.map_toArray, List.map_cons, List.map_nil, hd, hr]
    exact hK _ _ h
theorem step_append_runI {P : Program} {ops : Array Oper} {o : Oper} {a : Act} {w : World} {K : Act → World → Prop} {Q : Exit → Act → World → Prop} {E : Prop}
    (hg : o.guard = none) (d x : Operand) (dT sT : TypeId) (hop : o.op = Op.call { callee := Callee.builtin Builtin.append, args := #[d, x], argTypes := #[dT, sT] })
    (v u : Value) (hd : a.eval d = v) (hx : a.eval x = u) {v' : Value} {w' : World} (hr : (Builtin.append_ #[dT, sT] o.type #[v, u]).run P w = .ok v' w') (hK : K (a.put o.dst v') w') :
    if Region.wanted o (yielded ops a.tmps) = true then Oper.wp P o a w K Q else E := by
  have hw : Region.wanted o (yielded ops a.tmps) = true := by simp [Region.wanted, hg]
  rw [if_pos hw]
  unfold Oper.wp
  simp [execOp, hop, resolve, invoke, builtin, hd, hx, hr, Result.andThen]
  exact hK
theorem clear_run {P : Program} (w : World) (T ty elem : TypeId) (z : Value) (hu : P.underlying T = some (.slice elem)) (hz : ∀ w, (zeroValue elem).run P w = .ok z w)
    (g o n c : Nat) (hn : 0 < n) (cur : Array Value) (e' : TypeId) (hg : w.heap[g]? = some (.cells cur e' (0, 0))) (hfit : o + (Builtin.zeroCells z.cells n).toList.length ≤ cur.size) (h1 : ∀ v ∈ (Builtin.zeroCells z.cells n).toList, v.oneCell' = true) :
    (Builtin.clear_ #[T] ty #[.slice (some ⟨g, o, none⟩) n c]).run P w = .ok (.tuple #[]) (w.setRow g (splice cur.toList o (Builtin.zeroCells z.cells n).toList).toArray) := by
  have hst := run_storeCells_at P g o e' (Builtin.zeroCells z.cells n).toList 0 cur w hg (by simpa using hfit) h1
  simp only [Nat.add_zero] at hst
  obtain ⟨m, rfl⟩ : ∃ m, n = m + 1 := ⟨n - 1, by omega⟩
  simp [Builtin.clear_, run_underlying hu, hz, hst, splice]
theorem del_walk {P : Program} {ρ : Ren} {f : FuncId} {nm : String} {ta : Array TypeId} {t : Ty} (L : DelLay P ρ f nm ta t) (w : World) (g n c i j : Nat) (cur : Array Value) (e1 : TypeId)
    (hg : w.heap[g]? = some (.cells cur e1 (0, 0))) (hsz0 : 0 < t.size) (hij : i < j) (hj : j ≤ n) (hn : n ≤ c) (hc63 : c ≤ maxLen)
    (hcs : cur.size = c * t.size) (h1c : ∀ v ∈ cur.toList.take (n * t.size), v.oneCell' = true) :
    ∃ Z : List Value, Z.length = (j - i) * t.size ∧
    Calls P f #[.slice (some ⟨g, 0, none⟩) n c, .int .i64 (i : Int), .int .i64 (j : Int)] w fun e w2 => e = .returned (.slice (some ⟨g, 0, none⟩) (i + (n - j)) c) ∧
      w2 = (w.drew.setRow g (splice cur.toList (i * t.size) ((cur.toList.take (n * t.size)).drop (j * t.size))).toArray).setRow g
        (splice (splice cur.toList (i * t.size) ((cur.toList.take (n * t.size)).drop (j * t.size))) ((i + (n - j)) * t.size) Z).toArray := by
  obtain ⟨e, k1, k2⟩ := tyB_slice L.t24
  have hzE := fun w => run_sizeOf' (P := P) (w := w) k2
  have t3 := tyB_int L.t3; have t4 := tyB_bool L.t4
  have u24 := run_underlying (P := P) k1
  have u3 := run_underlying (P := P) t3
  have mixed := L.mixed
  have hmax : (maxLen : Nat) = 9223372036854775807 := rfl
  rw [hmax] at hc63
  obtain ⟨i0, z0, hi0, hz0s, hz0b, hz0z, hzc, hz1⟩ := rowB_spec (tyB_row k2)
  have hzcs : z0.cells.size = t.size := by rw [← Array.length_toList, hzc, zcells_len]
  have hzv : ∀ w, (zeroValue e).run P w = .ok z0 w := fun w => by simp [zeroValue, typeInfo, hi0, hz0z]
  have hZ1 : ∀ m, ∀ v ∈ (Builtin.zeroCells z0.cells m).toList, v.oneCell' = true := fun m v hv => by
    have hm := made_rows hzc m
    rw [← zeroCells_made] at hm
    rw [hm] at hv
    exact rows_one (w := w) (ok := fun _ => True) (RowsR.replicate (zcells_len t) (DR.zero t) m) v hv
  generalize hsz : t.size = sz at *
  have mul1 : ∀ a b : Nat, a ≤ b → a * sz ≤ b * sz := fun a b h => Nat.mul_le_mul_right sz h
  have hlen : cur.toList.length = c * sz := by rw [Array.length_toList, hcs]
  have hnc := mul1 n c hn
  have hjn := mul1 j n hj
  have hijs := mul1 i j (by omega)
  have hsub : (n - j) * sz = n * sz - j * sz := Nat.sub_mul ..
  have hsub2 : (j - i) * sz = j * sz - i * sz := Nat.sub_mul ..
  have hadd : (i + (n - j)) * sz = i * sz + (n - j) * sz := Nat.add_mul ..
  obtain ⟨CS, hCS⟩ : ∃ CS, CS = (cur.toList.take (n * sz)).drop (j * sz) := ⟨_, rfl⟩
  have hCSl : CS.length = (n - j) * sz := by rw [hCS, List.length_drop, List.length_take, hlen, hsub]; omega
  have hCS1 : ∀ v ∈ CS, v.oneCell' = true := fun v hv => h1c v (by rw [hCS] at hv; exact List.mem_of_mem_drop hv)
  obtain ⟨Z, hZ⟩ : ∃ Z, Z = (Builtin.zeroCells z0.cells (n - (i + (n - j)))).toList := ⟨_, rfl⟩
  have hZl : Z.length = (j - i) * sz := by rw [hZ, Array.length_toList, size_zeroCells, hzcs, show n - (i + (n - j)) = j - i by omega]
  have hZ1 : ∀ v ∈ Z, v.oneCell' = true := fun v hv => hZ1 _ v (by rw [hZ] at hv; exact hv)
  refine ⟨Z, hZl, ?_⟩
  rw [← hCS]
  obtain ⟨CUR1, hCUR1⟩ : ∃ CUR1, CUR1 = (splice cur.toList (i * sz) CS).toArray := ⟨_, rfl⟩
  have hC1 : CUR1.toList = splice cur.toList (i * sz) CS := by rw [hCUR1]
  have hC1s : CUR1.size = c * sz := by
    rw [hCUR1, List.size_toArray]
    unfold splice
    rw [List.length_append, List.length_append, List.length_take, List.length_drop, hCSl, hlen]
    omega
  rw [← hC1]
  obtain ⟨A, hA, hsrc⟩ : ∃ A : Addr, (if c = j then some (⟨g, 0, none⟩ : Addr) else some ⟨g, j * sz, none⟩) = some A ∧ (∀ t u, CS[t]? = some u → w.drew.cell? (A.add t) = some u) := by
    by_cases h : c = j
    · refine ⟨⟨g, 0, none⟩, by simp [h], fun t u hu => ?_⟩
      have h0 : n - j = 0 := by omega
      rw [h0, Nat.zero_mul] at hCSl
      rw [List.length_eq_zero_iff.1 hCSl] at hu
      simp at hu
    · refine ⟨⟨g, j * sz, none⟩, by simp [h], fun t u hu => ?_⟩
      have hj2 : cur[j * sz + t]? = some u := by
        rw [hCS, List.getElem?_drop, List.getElem?_take] at hu
        split at hu
        · rw [Array.getElem?_toList] at hu; exact hu
        · cases hu
      rw [Addr.add_lit]
      show w.cell? ⟨g, j * sz + t, none⟩ = some u
      simpa [World.cell?, hg] using hj2
  have hap : ∀ ty, (Builtin.append_ #[(ρ.t 24), (ρ.t 24)] ty #[.slice (some ⟨g, 0, none⟩) i c, .slice (some A) (n - j) (c - j)]).run P w.drew = .ok (.slice (some ⟨g, 0, none⟩) (i + (n - j)) c) (w.drew.setRow g CUR1) := fun ty => by
    rw [hCUR1]
    have := append_room (P := P) w.drew (ρ.t 24) ty e e1 i0 k1 hi0 g i c cur hg A (n - j) (c - j) CS (by rw [hz0s]; exact hCSl) hsrc hCS1 (by omega) (by rw [hz0s, hCSl, hcs]; omega)
    rw [hz0s] at this
    exact this
  have hW1 : (w.drew.setRow g CUR1).heap[g]? = some (.cells CUR1 e1 (0, 0)) := setRow_heap w.drew g cur CUR1 e1 (0, 0) hg
  have hcl : ∀ ty cc, (Builtin.clear_ #[(ρ.t 24)] ty #[.slice (some ⟨g, (i + (n - j)) * sz, none⟩) (n - (i + (n - j))) cc]).run P (w.drew.setRow g CUR1) = .ok (.tuple #[]) ((w.drew.setRow g CUR1).setRow g (splice CUR1.toList ((i + (n - j)) * sz) Z).toArray) := fun ty cc => by
    rw [hZ]
    exact clear_run _ _ ty e z0 k1 hzv g _ (n - (i + (n - j))) cc (by omega) CUR1 e1 hW1 (by rw [← hZ, hZl, hC1s, hadd]; omega) (by rw [← hZ]; exact hZ1)
  rw [Array.toArray_toList]
  clear hlen hnc hjn hijs hsub hsub2 hadd hCSl hCS1 hC1s hC1 hCUR1 hCS hsrc hZl hZ1 hZ hW1 hzv
  have q1 : (0 : Int) ≤ (i : Int) := by omega
  have q2 : (i : Int) ≤ (j : Int) := by omega
  have q3 : (j : Int) ≤ (n : Int) := by omega
  have q4 : n ≤ c := hn
  have q5 : i ≤ c := by omega
  have q6 : j ≤ c := by omega
  have q7 : ¬ ((i : Int) = (j : Int)) := by omega
  have q8 : ¬ (c = i + (n - j)) := by omega
  have q9 : i + (n - j) ≤ n := by omega
  go_enter L.hf, Body2.n24_ntmps ρ
  go_wp2_with fail
  go_region_law_o (refine step_append_runI rfl (.tmp 22) (.tmp 25) (ρ.t 24) (ρ.t 24) rfl (.slice (some ⟨g, 0, none⟩) i c) (.slice (some A) (n - j) (c - j)) (by simp [Act.eval, Act.put]) (by simp [Act.eval, Act.put, hA]) (hap _) ?_)
  go_wp2_with (at_builtin; refine wpList_clear_runI _ rfl _ (ρ.t 24) rfl _ rfl (hcl _ _) ?_)
  go_ret
  exact ⟨rfl, rfl⟩
abbrev s_del (t : Ty) : Sig := ⟨[.own false t, .ro true (.int .i64), .ro true (.int .i64)], [.own false t]⟩
def delF (t : Ty) (x : denL (s_del t).ins) : Option (s_del t).outDen :=
  if 0 ≤ x.2.1 ∧ x.2.1 < x.2.2.1 ∧ x.2.2.1 ≤ (List.length x.1 : Int) ∧ roomy (List.length x.1) t = true then
    some ((List.append (List.take x.2.1.toNat x.1) (List.drop x.2.2.1.toNat x.1), ()), ((), ((), ((), ())))) else none
theorem del_rows {C Z : List Value} {A J N : Nat} (hA : A ≤ J) (hJ : J ≤ N) (hN : N ≤ C.length) (hZ : A + (N - J) + Z.length ≤ C.length) :
    (splice (splice C A ((C.take N).drop J)) (A + (N - J)) Z).take (A + (N - J)) = (C.take N).take A ++ (C.take N).drop J := by
  have hD : ((C.take N).drop J).length = N - J := by rw [List.length_drop, List.length_take]; omega
  have h1 : A + ((C.take N).drop J).length ≤ C.length := by omega
  have hl1 := splice_sameL h1
  have e1 : (splice C A ((C.take N).drop J)).take (A + (N - J)) = C.take A ++ (C.take N).drop J := by rw [← hD]; exact splice_front rfl h1
  unfold splice at e1 hl1 ⊢
  rw [List.append_assoc, List.take_append_of_le_length (by rw [List.length_take, hl1]; omega), List.take_take, Nat.min_self, e1, List.take_take, Nat.min_eq_left (by omega)]
theorem delete_ok {P : Program} {ρ : Ren} {f : FuncId} {nm : String} {ta : Array TypeId} {t : Ty} (L : DelLay P ρ f nm ta t) (hname : (nm == "runtime.NumGoroutine") = false) : FnOK P f (s_del t) (delF t) := by
  intro w B vals x bs y hy hB hnd hnB hr
  obtain ⟨s, i, j, xu⟩ := x
  unfold delF at hy
  simp only at hy
  split at hy
  case isFalse => cases hy
  rename_i hcond
  obtain ⟨i0, ij, j1, hroomy⟩ := hcond
  cases hy
  obtain ⟨v1, r1, b1, c1, rfl, a1, m1, hr, rfl⟩ := hr
  obtain ⟨v2, r2, b2, c2, rfl, a2, m2, hr, rfl⟩ := hr
  obtain ⟨v3, r3, b3, c3, rfl, a3, m3, hr, rfl⟩ := hr
  obtain ⟨rfl, rfl⟩ := hr
  obtain ⟨rfl, m2⟩ := m2
  obtain ⟨rfl, m3⟩ := m3
  have a2 : isAgg' v2 = false := a2
  have a3 : isAgg' v3 = false := a3
  rw [cells_one a2] at m2
  rw [cells_one a3] at m3
  have e2 : v2 = .int .i64 i := by simpa using m2.1
  have e3 : v3 = .int .i64 j := by simpa using m3.1
  subst e2 e3
  obtain ⟨i, rfl⟩ := Int.eq_ofNat_of_zero_le i0
  obtain ⟨j, rfl⟩ := Int.eq_ofNat_of_zero_le (Int.le_trans i0 (Int.le_of_lt ij))
  have ij : i < j := Int.ofNat_lt.1 ij
  have j1 : j ≤ List.length s := Int.ofNat_le.1 j1
  simp only [List.append_nil, List.nil_append] at hnd hnB m1 ⊢
  rw [Int.toNat_natCast, Int.toNat_natCast]
  have hsz : 0 < t.size := by
    unfold roomy at hroomy
    simp only [Bool.and_eq_true, decide_eq_true_eq] at hroomy
    exact Nat.lt_of_lt_of_le Nat.zero_lt_one (Nat.le_of_ble_eq_true hroomy.1)
  obtain ⟨g, c, cur, e1, rfl, hg, hc1, hc2, hcs, hcr, rfl⟩ : ∃ g cap cur e, v1 = .slice (some ⟨g, 0, none⟩) (List.length s) cap ∧ w.heap[g]? = some (.cells cur e (0, 0)) ∧
        List.length s ≤ cap ∧ cap ≤ maxLen ∧ cur.size = cap * t.size ∧ RowsR (DR w (okIn w B b1 false) t) t.size (cur.toList.take (List.length s * t.size)) s ∧ b1 = [g] := by
    rcases one_own a1 m1 with ⟨_, h2, _⟩ | h
    · rw [h2] at j1; simp at j1; omega
    · exact h
  have hcall : (callFunc f [.slice (some ⟨g, 0, none⟩) (List.length s) c, .int .i64 (i : Int), .int .i64 (j : Int)].toArray).run P w = .ok (.enter f [.slice (some ⟨g, 0, none⟩) (List.length s) c, .int .i64 (i : Int), .int .i64 (j : Int)].toArray) w := by
    have hb : (Body2.n24 ρ).body.isSome = true := rfl
    obtain ⟨c, hc⟩ := Option.isSome_iff_exists.1 hb
    have hn : nm ≠ "runtime.NumGoroutine" := by simpa using hname
    simp [callFunc, L.hf, hn, hc]
  obtain ⟨Z, hZ, hcl⟩ := del_walk L w g (List.length s) c i j cur e1 hg hsz ij j1 hc1 hc2 hcs (rows_one hcr)
  refine .inl ⟨hcall, hcl.mono fun e w' he => ?_⟩
  obtain ⟨rfl, rfl⟩ := he
  have hCl : cur.toList.length = c * t.size := by rw [Array.length_toList, hcs]
  have hA : i * t.size ≤ j * t.size := Nat.mul_le_mul_right _ (by omega)
  have hJ : j * t.size ≤ List.length s * t.size := Nat.mul_le_mul_right _ j1
  have hN : List.length s * t.size ≤ c * t.size := Nat.mul_le_mul_right _ hc1
  have hadd : (i + (List.length s - j)) * t.size = i * t.size + (List.length s * t.size - j * t.size) := by rw [Nat.add_mul, Nat.sub_mul]
  have hsubz : (j - i) * t.size = j * t.size - i * t.size := Nat.sub_mul ..
  have hDl : ((cur.toList.take (List.length s * t.size)).drop (j * t.size)).length = List.length s * t.size - j * t.size := by rw [List.length_drop, List.length_take, hCl]; omega
  have hlen : List.length (List.append (List.take i s) (List.drop j s)) = i + (List.length s - j) := by
    simp only [List.append_eq, List.length_append, List.length_take, List.length_drop]
    omega
  have hrows : RowsR (DR w (okIn w B [g] false) t) t.size ((splice (splice cur.toList (i * t.size) ((cur.toList.take (List.length s * t.size)).drop (j * t.size))) ((i + (List.length s - j)) * t.size) Z).take ((i + (List.length s - j)) * t.size)) (List.append (List.take i s) (List.drop j s)) := by
    rw [hadd, del_rows hA hJ (by rw [hCl]; exact hN) (by rw [hZ, hsubz, hCl]; omega)]
    exact (hcr.take i).append (hcr.drop j)
  have hf : FrameW w ((w.drew.setRow g (splice cur.toList (i * t.size) ((cur.toList.take (List.length s * t.size)).drop (j * t.size))).toArray).setRow g (splice (splice cur.toList (i * t.size) ((cur.toList.take (List.length s * t.size)).drop (j * t.size))) ((i + (List.length s - j)) * t.size) Z).toArray) [g] :=
    ((frame_drew w _).setRow g _ (.inr (by simp))).setRow g _ (.inr (by simp))
  refine ⟨[.slice (some ⟨g, 0, none⟩) (i + (List.length s - j)) c], [g], [], rfl, ?_, ?_, by simp, ?_, hf⟩
  · refine ⟨_, _, [g], [], rfl, rfl, ⟨_, rfl, .inr ⟨g, c, _, e1, by rw [hlen], setRow_heap _ _ _ _ e1 (0, 0) (setRow_heap w.drew g cur _ e1 (0, 0) hg), ?_, hc2, ?_, ?_, (by intro h; cases h), rfl⟩⟩, ⟨rfl, rfl⟩, rfl⟩
    · show List.length (List.append (List.take i s) (List.drop j s)) ≤ c
      rw [hlen]
      omega
    · rw [List.size_toArray, splice_sameL, splice_sameL, hCl]
      · rw [hDl, hCl]; omega
      · rw [splice_sameL, hZ, hsubz, hadd, hCl]
        · omega
        · rw [hDl, hCl]; omega
    · rw [hlen]
      simp only
      refine RowsR.mono (fun c z hz => DR.move (fun b hb hok => ⟨⟨?_, hok.2.1, (by intro h; cases h)⟩, hf.block b hb hok.1⟩) hz) hrows
      exact hok.1
  · exact ⟨_, _, [], [], rfl, rfl, ⟨rfl, rfl⟩, ⟨_, _, [], [], rfl, rfl, ⟨rfl, rfl⟩, ⟨_, _, [], [], rfl, rfl, ⟨rfl, rfl⟩, ⟨rfl, rfl⟩, rfl⟩, rfl⟩, rfl⟩
  · intro b hb
    have : b = g := by simpa using hb
    subst this
    exact .inr (by simp)
end Go.Pon
