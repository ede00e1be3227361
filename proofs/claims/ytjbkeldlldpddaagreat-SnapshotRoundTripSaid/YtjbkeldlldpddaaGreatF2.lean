/-
  Part of a proof: general lemmas, merged by a program of this work.
-/
import Derived.Below
import Derived.Carry
import Derived.ChangeMaps3
import Derived.ChangeOld
import Derived.Great.BuildSlice
import Derived.Laws.AppendOwn
import Derived.Laws.BytesString
import Derived.Laws.CopyRow
import Derived.Laws.MakeOwn
import Derived.MapKept
import Derived.OpenShut
import Derived.ProofKit
import Derived.WalkKit
import Derived.Test.YtjbkeldlldpddaaGreatF1
set_option autoImplicit false
set_option linter.unusedVariables false
set_option linter.unusedSimpArgs false
noncomputable section
namespace Go.Pon
theorem aa2:type_of% @List.getD_eq_getElem?_getD:=@List.getD_eq_getElem?_getD
theorem ac8:type_of% @Nat.mod_eq_of_lt:=@Nat.mod_eq_of_lt
theorem ae1:type_of% @List.length_set:=@List.length_set
theorem ae8:type_of% @Nat.mul_le_mul_left:=@Nat.mul_le_mul_left
theorem af5:type_of% @List.getElem?_append_right:=@List.getElem?_append_right
theorem ag9:type_of% @List.getElem?_append_left:=@List.getElem?_append_left
theorem ah5:type_of% @Array.toArray_toList:=@Array.toArray_toList
theorem aj0:type_of% @List.getElem?_of_mem:=@List.getElem?_of_mem
theorem aj8:type_of% @Array.getD_eq_getD_getElem?:=@Array.getD_eq_getD_getElem?
theorem ak4:type_of% @List.drop_eq_getElem_cons:=@List.drop_eq_getElem_cons
theorem al3:type_of% @List.getElem?_cons_succ:=@List.getElem?_cons_succ
theorem am3:type_of% @List.length_nil:=@List.length_nil
theorem am4:type_of% @List.pairwise_iff_getElem:=@List.pairwise_iff_getElem
theorem am6:type_of% @congrArg:=@congrArg
theorem an0:type_of% @Nat.add_lt_add_iff_right:=@Nat.add_lt_add_iff_right
theorem an6:type_of% @Option.bind_eq_some_iff:=@Option.bind_eq_some_iff
theorem an9:type_of% @List.drop_succ_cons:=@List.drop_succ_cons
theorem ao1:type_of% @Bool.true_and:=@Bool.true_and
theorem ap0:type_of% @List.foldl_cons:=@List.foldl_cons
theorem ap1:type_of% @Int.natCast_mul:=@Int.natCast_mul
theorem ap9:type_of% @List.eq_of_mem_replicate:=@List.eq_of_mem_replicate
theorem aq1:type_of% @List.take_succ_cons:=@List.take_succ_cons
theorem aq5:type_of% @List.cons_append:=@List.cons_append
theorem ar5:type_of% @Go.run_storeCells_at:=@Go.run_storeCells_at
theorem ar6:type_of% @List.size_toArray:=@List.size_toArray
theorem ar7:type_of% @List.mapM_cons:=@List.mapM_cons
theorem ar8:type_of% @List.mem_of_getElem?:=@List.mem_of_getElem?
theorem as2:type_of% @List.take_append:=@List.take_append
theorem as3:type_of% @Go.IntKind.wrap_i64:=@Go.IntKind.wrap_i64
theorem as7:type_of% @List.flatten_append:=@List.flatten_append
theorem as8:type_of% @Int.toNat_of_nonneg:=@Int.toNat_of_nonneg
theorem as9:type_of% @Go.MapKept.run_findKey:=@Go.MapKept.run_findKey
theorem at3:type_of% @Nat.zero_lt_one:=@Nat.zero_lt_one
end Go.Pon
namespace Go.Pon
open Go
def Dz.insOK:Dz→Bool
 | .ro fr t=>!fr||t.flat
 | .own fr _=>!fr
 | .ptr m=>m.insOK
 | .optr m=>m.insOK
 | .pair a b=>a.insOK&&b.insOK
 | .fn _ m=>m.insOK
 | .nilm _=>true
 | .rp _=>true
 | .full _=>true
 | .bor _=>true
 | .mapm _ _=>true
 | .orp _=>false
 | .ign=>true
theorem MR.ins{w:World}{ok ok':Bool→Nat→Prop}{base fo:Nat}(h:∀ b,ok false b→ok' false b):∀ {m:Dz} {cs:List Value} {x:m.den} {bs:List Nat},m.insOK=true→MR w ok base m cs x bs→MR w ok' fo m cs x bs
 | .ro fr t,_,_,_,hi,⟨h1,h2⟩=>by
  refine⟨h1,?_⟩
  simp only[Dz.insOK,ak8,an4] at hi
  rcases hi with rfl|hi
  ·exact h2.mono h
  ·exact DR.flat hi h2
 | .own fr t,_,_,_,hi,⟨v,h0,hr⟩=>by
  have hi:fr=false:=by simpa [Dz.insOK] using hi
  subst hi
  exact⟨v,h0,hr.imp (fun h=>h) fun⟨g,cap,cur,e,h1,h2,h3,h4,h5,h6,h7,h8⟩=>⟨g,cap,cur,e,h1,h2,h3,h4,h5,h6.mono fun _ _=>DR.mono h,(fun h=>by cases h),h8⟩⟩
 | .ptr m,_,_,_,hi,⟨g,e,cur,eo,h1,h2,h3,h4⟩=>⟨g,e,cur,eo,h1,h2,MR.ins h (m:=m) hi h3,h4⟩
 | .optr m,_,none,_,hi,hr=>hr
 | .optr m,_,some _,_,hi,⟨g,e,cur,eo,h1,h2,h3,h4⟩=>⟨g,e,cur,eo,h1,h2,MR.ins h (m:=m) hi h3,h4⟩
 | .pair p q,_,_,_,hi,⟨c1,c2,b1,b2,h1,h2,h3,h4⟩=>by
  simp only[Dz.insOK,aa5] at hi
  exact⟨c1,c2,b1,b2,h1,MR.ins h hi.1 h2,MR.ins h hi.2 h3,h4⟩
 | .fn _ m,_,_,_,hi,⟨vs,h1,h2⟩=>⟨vs,h1,MR.ins h (m:=m) hi h2⟩
 | .nilm _,_,_,_,hi,hr=>hr
 | .full _,_,_,_,hi,⟨h0,hr⟩=>⟨h0,hr.imp (fun h=>h) fun⟨g,cap,cur,e,h1,h2,h3,h4,h5,h6,h7⟩=>⟨g,cap,cur,e,h1,h2,h3,h4,h5,h6.mono fun _ _=>DR.flat h0,h7⟩⟩
 | .mapm _ _,_,_,_,hi,hr=>hr
 | .orp _,_,_,_,hi,_=>by cases hi
 | .ign,_,_,_,hi,hr=>hr
 | .bor t,_,_,_,hi,⟨h0,v,h1,h2,h3⟩=>⟨h0,v,h1,DR.mono (t:=.slice t) h h2,h3⟩
 | .rp _,_,_,_,hi,⟨h0,v,h1,h2,a,vs,h3,h4,h5,h6,h7⟩=>⟨h0,v,h1,h2,a,vs,h3,h4,fun hp=>h _ (h5 hp),h6,h7.mono h⟩
theorem MRL.ins{w:World}{ok ok':Bool→Nat→Prop}{base fo:Nat}(h:∀ b,ok false b→ok' false b):∀ {ms:List Dz} {vs:List Value} {x:Iu ms} {bs:List Nat},(∀ m∈ms,m.insOK=true)→MRL w ok base ms vs x bs→MRL w ok' fo ms vs x bs
 | [],_,_,_,_,hr=>hr
 | _::_,_,_,_,hi,⟨v,r,b1,b2,h1,h2,h3,h4,h5⟩=>⟨v,r,b1,b2,h1,h2,h3.ins h (hi _ (ac1 ..)),MRL.ins h (fun m hm=>hi m (ab8 _ hm)) h4,h5⟩
theorem Bm2.mono{P:Program}{f:FuncId}{args:List Value}{w:World}{R R':Value→World→Prop}(h:∀ v w',R v w'→R' v w')(hr:Bm2 P f args w R):Bm2 P f args w R':=by
 rcases hr with⟨h1,h2⟩ | ⟨v,w',h1,h2⟩
 ·refine .inl ⟨h1,fun cs=>?_⟩
  obtain⟨e,w',fr,k1,k2⟩:=h2 cs
  refine⟨e,w',fr,?_,k2⟩
  cases e with
  | returned v=>exact h _ _ k1
  | panicked _=>exact k1.elim
  | outgrown=>exact k1.elim
 ·exact .inr ⟨v,w',h1,h _ _ h2⟩
section
variable {K:Dg} {S:St} {used:Id→Nat→Prop} {γ:Id→Value} {a:Act} {w:World}
theorem Auo{c:Cl}(hc:Xr S true c){j:Id}(hl:lent c j)(v:Value):Bc (Ak (Da c.ups S.objs) j) v=none:=by
 rcases hl with hl | ⟨o,ho⟩
 ·rw[hc.borrow rfl] at hl;simp at hl
 ·have jc:Aqn (Zh c.ups) j=true:=by
   rw[Apu,Bex];exact ag8.2 ⟨_,ho,rfl⟩
  have h5:=Ba5 jc
  rw[Aez,aa0 jc]
  cases h7:Ak c.ups j with
  | none=>rfl
  | some o' =>
   rw[h7] at h5
   obtain⟨_,⟨_,_,_,_,h8,rfl⟩ | ⟨_,_,_,h8,rfl⟩⟩:=hc.frozen j _ h5<;>rfl
theorem Ael(h:Gd K S used γ a w):∀ {l:List Id},l.Nodup→(Em S γ l).Nodup
 | [],_=>by simp[Em]
 | i::l,hn=>by
  rw[ai8] at hn
  have ih:=Ael h hn.2
  cases hi:Bc (Ak S.objs i) (γ i) with
  | none=>simpa [Em,hi] using ih
  | some g =>
   have:Em S γ (i::l)=g::Em S γ l:=by simp[Em,hi]
   rw[this,ai8]
   refine⟨fun hm=>?_,ih⟩
   obtain⟨j,hj,hj2⟩:=E8.1 hm
   rw[h.sep i j g hi hj2] at hn
   exact hn.1 hj
theorem Cho{E:U5}:∀ {vs:List AV} {rs:List Value},vs.length=rs.length→(∀ v∈vs,Aw3 v=true)→(∀ (i:Nat) (v:AV) (val:Value),vs[i]?=some v→rs[i]?=some val→Ev E v val)→Dn E (Blz vs) (Bp8 rs):=by
 intro vs rs ag hs hv
 have key:∀ (vs:List AV) (rs:List Value),vs.length=rs.length→(∀ (i:Nat) (v:AV) (val:Value),vs[i]?=some v→rs[i]?=some val→Ev E v val)→ARt E (Atm vs) rs:=by
  intro vs
  induction vs with
  | nil=>intro rs hl _;cases rs with
   | nil=>trivial
   | cons _ _=>simp at hl
  | cons v vs ih =>
   intro rs hl hv
   cases rs with
   | nil=>simp at hl
   | cons val rs=>exact⟨hv 0 v val rfl rfl,ih rs (by simpa using hl) fun i v val h1 h2=>hv (i+1) v val (by simpa using h1) (by simpa using h2)⟩
 have hk:=key vs rs ag hv
 match vs,rs,ag,hs,hv,hk with
 | [],[],_,_,_,hk=>exact⟨#[],rfl,hk⟩
 | [v],[val],_,hs,hv,_=>exact Ayu (hs v (by simp)) (hv 0 v val rfl rfl)
 | v::v'::vs,val::dt::rs,_,_,_,hk=>exact⟨(val::dt::rs).toArray,rfl,hk⟩
theorem Cg9(h:Gd K S used γ a w)(hB:∀ b,K.B b→b<K.base){f:FuncId}{s:B4}(hC:A7 K.P f s (K.C f s))(fp:∀ m∈s.ins,m.insOK=true)(fb:Ayx s=true)
  {args:List AV} {vals:List Value} (ag:vals.length=args.length) (hv:∀ (i:Nat) (v:AV) (val:Value),args[i]?=some v→vals[i]?=some val→Dn (A3 K S.objs used γ w) v val)
  {base:Id} {l0 l:List Id} {v:AV} {u:Pm} (hl:A6 K.C S.objs (Bt6 f s args) l0 (v,u) l) :
  Bm2 K.P f vals w fun val w'=>∃ ah γ',Dn (A3 K (Da u S.objs) ah γ' w') v val∧Gd K { S with objs:=Da u S.objs } ah γ' a w'∧Axz used ah base:=by
 unfold Bt6 at hl
 split at hl
 case h_2=>exact hl.elim
 rename_i id ab
 obtain⟨x,c,l1,new,hl,hc,_,bc,gv,mo⟩:=Uq h s.ins [.own id ab] (Xr.start S false) hl
 have mo:=mo vals ag hv
 obtain⟨y,hy,hl⟩:=hl
 obtain⟨e,_⟩:=hl
 have e:(AV.view id ab 0 (Bur s.outs y.1) false,c.ups)=(v,u):=e
 cases e
 have bc:(Cx c.ups).Perm new:=by simpa [Cx] using bc
 have ba:K.base≤w.heap.size:=h.frame.size
 have xf:new.Nodup:=bc.nodup_iff.1 hc.nodup
 have oa:=Ael h xf
 have vr:∀ g,g∈Em S γ new↔g∈Em S γ (Cx c.ups):=fun g=>by
  rw[E8,E8]
  exact⟨fun⟨i,h1,h2⟩=>⟨i,bc.mem_iff.2 h1,h2⟩,fun⟨i,h1,h2⟩=>⟨i,bc.mem_iff.1 h1,h2⟩⟩
 have bj:∀ b,okL K S γ c false b→Bdy w (fun _=>False) (Em S γ new) false b:=by
  intro b hb
  refine⟨fun hm=>?_,fun h=>h,fun h=>by cases h⟩
  obtain⟨i,hi,di⟩:=E8.1 hm
  exact hc.apart i (Nv.1 (bc.mem_iff.2 hi)) (hb.1 i di)
 refine (hC w (fun _=>False) vals x (Em S γ new) y hy (fun _ h=>h.elim) oa (fun _ _ h=>h) (mo.ins bj fp)).mono fun val w' hg=>?_
 obtain⟨rs,b1,b2,rfl,g1,g2,g3,g4,g5,g6⟩:=hg
 obtain⟨v0,r,rfl,rfl,a0,m,c0,ad,n,cc,rfl,rfl,p1,p2,p3,p4,p5⟩:=g6 fb
 obtain⟨ah,γ',r1,r2,r3,r4⟩:=h.after hB hc (w':=w') (M:=[]) (ok:=fun _ _=>False) g5.size (fun b hb hm=>g5.block b hb fun hx=>hm ((vr b).1 hx)) ⟨g5.os,g5.tape,g5.output⟩
  (fun p hp=>by cases hp) (fun p hp=>by cases hp) au1 au1 (fun g hg=>by cases hg) (fun f b h=>h.elim) (fun K' E hp p iu=>by cases iu)
 have r1:Gd K { S with objs:=Da c.ups S.objs } ah γ' a w':=r1
 refine⟨ah,γ',?_,r1,fun id v hv=>?_⟩
 ·obtain⟨hu,v1,e1,_,nc⟩:=(hv 0 _ _ rfl rfl:Ev _ (.own id ab) (.slice a0 m c0)).1
  have e1:v1=.slice a0 m c0:=by
   have:[Value.slice a0 m c0]=[v1]:=e1
   cases this;rfl
  subst e1
  obtain⟨u1,u2⟩:=r4 id ab hu
  have hn:Bur s.outs y.1=n:=by
   revert fb g1
   obtain⟨y1,y2⟩:=y
   clear hy g2
   obtain⟨ins,outs⟩:=s
   intro fb g1
   unfold Ayx at fb
   dsimp only at fb g1 y1 ⊢
   split at fb
   ·obtain⟨v',r',b1',b2',e1,e2,⟨_,a1,mq,e3,_⟩,_⟩:=g1
    cases e1
    have e3:[Value.slice ad n cc]=[.slice a1 (List.length y1.1) mq]:=e3
    cases e3
    rfl
   ·cases fb
  show Ev _ (.view id ab 0 (Bur s.outs y.1) false) (.slice ad n cc)
  rw[hn]
  refine⟨⟨u1,_,rfl,rfl,fun t k hs=>?_⟩,rfl⟩
  have hs:Ahd (Ak (Da c.ups S.objs) id) ab t k:=hs
  have dl:=Cb6 (hc.left id) hs
  have hγ:Value.slice a0 m c0=γ id:=nc t k dl
  have hk:m≤k:=by
   obtain⟨fr,rows,rfl,ho⟩:=dl
   rcases ho with ho|ho
   ·rcases h.objs id _ ho with⟨h1,h2⟩ | ⟨g,cap,cur,e',h1,_⟩
    ·have h1:γ id=_:=h1
     rw[← hγ] at h1;cases h1;exact ac2 _
    ·have h1:γ id=_:=h1
     rw[← hγ] at h1;cases h1;exact ab4 _
   ·obtain⟨⟨a1,mq,e3,_⟩,_⟩:=h.objs id _ ho
    have e3:[γ id]=_:=e3
    rw[← hγ] at e3;cases e3;exact ab4 _
  refine⟨ac2 _,af2 p1 hk,ad,cc,rfl,p2,p3,p4,fun ar=>?_,fun h=>by cases h⟩
  obtain⟨g,rfl,rfl⟩:=p5 ar
  refine⟨g,m,c0,?_,by rw[al9]⟩
  show γ' id=_
  rw[u2,← hγ]
 ·rcases r3 id v hv with hv | ⟨p,hp,_⟩
  ·exact .inl ⟨v,hv⟩
  ·cases hp
theorem Brm(h:Gd K S used γ a w)(hB:∀ b,K.B b→b<K.base){f:FuncId}{s:B4}
  {args:List AV} {vals act:List Value} (ag:vals.length=args.length) (hv:∀ (i:Nat) (v:AV) (val:Value),args[i]?=some v→vals[i]?=some val→Dn (A3 K S.objs used γ w) v val)
  {base:Id} (hu:∀ id:Id,id.1=base.1→id.2.1=base.2.1→∀ v,¬ used id v) {c:Cl} (hc:Xr S s.alias c) {new:List Id} (bc:(Cx c.ups).Perm new)
  (gv:∀ (i:Nat) (m:Dz) (v:AV),s.ins[i]?=some m→args[i]?=some v→Bvo S new m v) {y:s.outDen}
  (cw:∀ B:Nat→Prop,(∀ b,B b↔s.alias=true∧(K.B b∨∃ id,Bc (Ak (Da c.ups S.objs) id) (γ id)=some b))→(∀ g∈Em S γ new,¬ B g)→(∀ b,B b→b<w.heap.size)→(Em S γ new).Nodup →
   (∀ b,okL K S γ c false b→Bdy w B (Em S γ new) false b)→Bm2 K.P f act w (Bwk w B s vals (Em S γ new) y))
  {l1 l:List Id} {v:AV} {u:Pm} (hl:A6 K.C S.objs (Ark s.ins args y.2 base c.ups fun n u=>Af4 s.outs y.1 n u fun vs _ u'=>.done (Blz vs,u')) l1 (v,u) l) :
  Bm2 K.P f act w fun val w'=>∃ ah γ',Dn (A3 K (Da u S.objs) ah γ' w') v val∧Gd K { S with objs:=Da u S.objs } ah γ' a w'∧Axz used ah base:=by
 have ba:K.base≤w.heap.size:=h.frame.size
 have xf:new.Nodup:=bc.nodup_iff.1 hc.nodup
 have oa:=Ael h xf
 have vr:∀ g,g∈Em S γ new↔g∈Em S γ (Cx c.ups):=fun g=>by
  rw[E8,E8]
  exact⟨fun⟨i,h1,h2⟩=>⟨i,bc.mem_iff.2 h1,h2⟩,fun⟨i,h1,h2⟩=>⟨i,bc.mem_iff.1 h1,h2⟩⟩
 let B:Nat→Prop:=fun b=>s.alias=true∧(K.B b∨∃ id,Bc (Ak (Da c.ups S.objs) id) (γ id)=some b)
 have ts:∀ g∈Em S γ new,¬ B g:=by
  rintro g hg ⟨_,hb⟩
  obtain⟨i,hi,di⟩:=E8.1 hg
  rcases hb with hb | ⟨j,hj⟩
  ·exact (h.mod i g di).2 hb
  ·obtain⟨j1,j2,_⟩:=Wv (hc.left j) hj
   rw[h.sep i j g di j1] at hi
   exact j2 (bc.mem_iff.2 hi)
 have xg:∀ b,B b→b<w.heap.size:=by
  rintro b ⟨_,hb | ⟨j,hj⟩⟩
  ·exact ae3 (hB b hb) ba
  ·exact Aav h (Wv (hc.left j) hj).1
 have bj:∀ b,okL K S γ c false b→Bdy w B (Em S γ new) false b:=by
  intro b hb
  refine⟨fun hm=>?_,fun⟨ha,tu⟩=>?_,fun h=>by cases h⟩
  ·obtain⟨i,hi,di⟩:=E8.1 hm
   exact hc.apart i (Nv.1 (bc.mem_iff.2 hi)) (hb.1 i di)
  ·rcases tu with tu | ⟨j,hj⟩
   ·exact hb.2.1 tu
   ·have cf:=hb.1 j (Wv (hc.left j) hj).1
    rw[ha] at hc
    rw[Auo hc cf] at hj
    cases hj
 refine (cw B (fun _=>Iff.rfl) ts xg oa bj).mono fun val w' hg=>?_
 obtain⟨rs,b1,b2,rfl,g1,g2,g3,g4,g5,_⟩:=hg
 let xh:Bool→Nat→Prop:=fun f b=>b ∉ b1++b2∧¬ K.B b∧(f=true→K.base≤b)∧∀ id,Bc (Ak (Da c.ups S.objs) id) (γ id)≠some b
 have hF:MRL w' xh K.base s.outs rs y.1 b1∧MRL w' xh K.base (Aym s.ins) (Aty s.ins vals) y.2 b2:=by
  cases ha:s.alias with
  | true =>
   have hm:∀ f b,Bdy w B (b1++b2) f b→xh f b:=fun f b ⟨k1,k2,k3⟩ =>
    ⟨k1,fun hb=>k2 ⟨ha,.inl hb⟩,fun hf=>af2 ba (k3 hf),fun id bw=>k2 ⟨ha,.inr ⟨id,bw⟩⟩⟩
   exact⟨(g1.mono hm).low ba,(g2.mono hm).low ba⟩
  | false =>
   obtain⟨a1,a2⟩:=Bxu ha
   have hm:∀ f b,Bdy w B (b1++b2) true b→xh f b:=fun f b ⟨k1,k2,k3⟩=>by
    have k3:=k3 rfl
    exact⟨k1,fun hb=>by have:=hB b hb;omega,fun hf=>af2 ba k3,fun id bw=>by have:=Aav h (Wv (hc.left id) bw).1;omega⟩
   exact⟨((g1.noalias a1).mono hm).low ba,((g2.noalias a2).mono hm).low ba⟩
 rw[an5] at g3
 obtain⟨n1,M1,a1,a2,a3,a4⟩:=Bs1 h s.ins args ag hv gv hF.2 g3.2.1 hu hl
 obtain⟨vs,n2,M2,d1,d2,d3,d4,d5,d6⟩:=Blt s.outs hF.1 a1
 obtain⟨e1,_⟩:=d1
 have e1:(Blz vs,I7.ups M2++(I7.ups M1++c.ups))=(v,u):=e1
 cases e1
 have dh:(I7.blk (M2++M1)).Perm (b1++b2):=by rw[I7.blk_app];exact as1 d3 a3
 have dv:(b1++b2).Nodup:=an5.2 g3
 have hspan:=a2.app (Amo.of (S:=S) (used:=used) (γ:=γ) (mv:=new) d2) hu (by
  rw[(aj7.trans (I7.blk_app M2 M1▸dh)).nodup_iff];exact dv)
 have ak:Da (I7.ups M2++(I7.ups M1++c.ups)) S.objs=Da (I7.ups (M2++M1)) (Da c.ups S.objs):=by
  simp only[Adu,I7.ups_app,ab6]
 obtain⟨ah,γ',r1,r2,r3,_⟩:=h.after hB hc (w':=w') (M:=M2++M1) (ok:=xh) g5.size (fun b hb hm=>g5.block b hb fun hx=>hm ((vr b).1 hx)) ⟨g5.os,g5.tape,g5.output⟩
  (fun p hp=>by
   rcases hspan.ids p hp with⟨h1,h2,_⟩ | ⟨h1,h2,h3,h4,_⟩
   ·exact .inl (hu p.1 h1 h2)
   ·exact .inr ⟨h1,h2,bc.mem_iff.2 h3,h4⟩)
  hspan.fresh hspan.nodup (dh.nodup_iff.2 dv)
  (fun g hg=>by
   rcases g4 g (dh.mem_iff.1 hg) with h1|h1
   ·exact .inr h1
   ·exact .inl ((vr g).1 h1))
  (fun f b ⟨k1,k2,k3,k4⟩=>⟨fun hm=>k1 (dh.mem_iff.1 hm),k2,k3,k4⟩)
  (fun K' E hp p iu=>by
   rcases ad9.1 iu with iu|iu
   ·exact (d6 K' E (hp.sub fun p h=>al2 _ h)).2 p iu
   ·exact a4 K' E (hp.sub fun p h=>aj6 _ h) p iu)
 rw[ak]
 refine⟨ah,γ',Cho d4 d5 (d6 K _ (r2.sub fun p h=>al2 _ h)).1,r1,fun id v hv=>?_⟩
 rcases r3 id v hv with hv | ⟨p,hp,rfl⟩
 ·exact .inl ⟨v,hv⟩
 ·rcases hspan.ids p hp with⟨h1,h2,_⟩ | ⟨_,h2,_⟩
  ·exact .inr ⟨h1,h2⟩
  ·exact .inl ⟨0,h2⟩
theorem Ccz(h:Gd K S used γ a w)(hB:∀ b,K.B b→b<K.base){f:FuncId}{s:B4}(hC:A7 K.P f s (K.C f s))(fp:∀ m∈s.ins,m.insOK=true)
  {args:List AV} {vals:List Value} (ag:vals.length=args.length) (hv:∀ (i:Nat) (v:AV) (val:Value),args[i]?=some v→vals[i]?=some val→Dn (A3 K S.objs used γ w) v val)
  {base:Id} (hu:∀ id:Id,id.1=base.1→id.2.1=base.2.1→∀ v,¬ used id v) {l0 l:List Id} {v:AV} {u:Pm} (hl:A6 K.C S.objs (Cb5 f s args base) l0 (v,u) l) :
  Bm2 K.P f vals w fun val w'=>∃ ah γ',Dn (A3 K (Da u S.objs) ah γ' w') v val∧Gd K { S with objs:=Da u S.objs } ah γ' a w'∧Axz used ah base:=by
 cases fb:Ayx s with
 | true =>
  unfold Cb5 at hl
  rw[fb] at hl
  exact Cg9 h hB hC fp fb ag hv hl
 | false =>
 unfold Cb5 at hl
 rw[fb] at hl
 have hl:A6 K.C S.objs (Xc s.alias s.ins args ⟨[],[]⟩ fun x c=>.call f s x fun y=>Ark s.ins args y.2 base c.ups fun n u=>Af4 s.outs y.1 n u fun vs _ u'=>.done (Blz vs,u')) l0 (v,u) l:=hl
 obtain⟨x,c,l1,new,hl,hc,_,bc,gv,mo⟩:=Uq h s.ins args (Xr.start S s.alias) hl
 have mo:=mo vals ag hv
 obtain⟨y,hy,hl⟩:=hl
 have bc:(Cx c.ups).Perm new:=by simpa [Cx] using bc
 refine Brm h hB ag hv hu hc bc gv (fun B _ ts xg oa bj=>hC w B vals x (Em S γ new) y hy xg oa ts (mo.ins bj fp)) hl
end
end Go.Pon
namespace Go.Pon
open Go
def Gl(l:List Value)(o:Nat)(ds:List Value):List Value:=l.take o++ds++l.drop (o+ds.length)
theorem Aug{a b c ds:List Value}{off:Nat}(h:off+ds.length≤b.length):Gl (a++b++c) (a.length+off) ds=a++Gl b off ds++c:=by
 unfold Gl
 rw[ab6 a b c,as2,List.drop_append,aa8 (by omega),ag5 (as:=a) (by omega)]
 rw[show a.length+off-a.length=off by omega,show a.length+off+ds.length-a.length=off+ds.length by omega,ad4 (by omega),ae7 h]
 simp[ab6]
theorem Avt{l ds:List Value}{o:Nat}(h:o+ds.length≤l.length):(Gl l o ds).length=l.length:=by simp[Gl];omega
theorem Ab8:∀ (t:Ty) (p:List Nat) (u:Ty),La t p=some u→inT t p→Bz t p+u.size≤t.size
 | t,[],u,ht,_=>by
  have e:u=t:=by cases t<;>simpa [La] using ht.symm
  subst e
  rw[(Kc u).2.2];omega
 | .pair a b,0::p,u,ht,hi=>by
  have:=Ab8 a p u ht hi
  simp only[Bz,Ty.size];omega
 | .pair a b,(n+1)::p,u,ht,hi=>by
  have:=Ab8 b (n::p) u ht hi
  simp only[Bz,Ty.size];omega
 | .arr m t,i::p,u,ht,⟨hi,hp⟩=>by
  have:=Ab8 t p u ht hp
  simp only[Bz,Ty.size]
  have:i*t.size+t.size≤m*t.size:=by
   rw[← Nat.succ_mul];exact ac6 _ hi
  omega
theorem Bhu{E:U5}(fr:Bool):∀ (t:Ty) (x:t.den) (p:List Nat) (u:Ty) (v c':AV) (cs ds:List Value),La t p=some u→inT t p→DR E.w (E.ok fr) t cs x→Bg u v=true→ARc E v ds →
  Bpy fr t x p v=some c'→Bg t c'=true∧ARc E c' (Gl cs (Bz t p) ds)
 | t,x,[],u,v,c',cs,ds,ht,_,h,hv,hd,hs=>by
  have e:u=t:=by cases t<;>simpa [La] using ht.symm
  subst e
  have e:c'=v:=by cases u<;>simpa [Bpy] using hs.symm
  subst e
  refine⟨hv,?_⟩
  have l1:=DR.len h
  have l2:=Ka hv hd
  rw[(Kc u).2.2,Gl,ag5 (by omega)]
  simpa using hd
 | .pair ta tb,x,i::p,u,v,c',cs,ds,ht,hi,h,hv,hd,hs=>by
  obtain⟨h2,h3⟩:=h
  have l1:=DR.len h2
  have l2:=DR.len h3
  have l3:=Ka hv hd
  have h1:cs=cs.take ta.size++cs.drop ta.size:=(ad7 _ _).symm
  cases i with
  | zero =>
   have hs:(Bpy fr ta x.1 p v).map (fun a'=>AV.pair a' (.d fr tb x.2))=some c':=hs
   cases hx:Bpy fr ta x.1 p v with
   | none=>rw[hx] at hs;cases hs
   | some x' =>
    rw[hx] at hs;cases hs
    obtain⟨k1,k2⟩:=Bhu fr ta x.1 p u v x' _ ds ht hi h2 hv hd hx
    refine⟨by simp[Bg,k1,Ty.beq_iff],Gl (cs.take ta.size) (Bz ta p) ds,cs.drop ta.size,?_,k2,h3⟩
    have cf:Bz ta p+ds.length≤(cs.take ta.size).length:=by
     have:=Ab8 ta p u ht hi
     omega
    have:=Aug (a:=[]) (b:=cs.take ta.size) (c:=cs.drop ta.size) (ds:=ds) (off:=Bz ta p) cf
    rw[af8,← h1] at this
    simpa [Bz] using this
  | succ n =>
   have hs:(Bpy fr tb x.2 (n::p) v).map (fun a'=>AV.pair (.d fr ta x.1) a')=some c':=hs
   cases hx:Bpy fr tb x.2 (n::p) v with
   | none=>rw[hx] at hs;cases hs
   | some y' =>
    rw[hx] at hs;cases hs
    obtain⟨k1,k2⟩:=Bhu fr tb x.2 (n::p) u v y' _ ds ht hi h3 hv hd hx
    refine⟨by simp[Bg,k1,Ty.beq_iff],cs.take ta.size,Gl (cs.drop ta.size) (Bz tb (n::p)) ds,?_,h2,k2⟩
    have cf:Bz tb (n::p)+ds.length≤(cs.drop ta.size).length:=by
     have:=Ab8 tb (n::p) u ht hi
     omega
    have:=Aug (a:=cs.take ta.size) (b:=cs.drop ta.size) (c:=[]) (ds:=ds) (off:=Bz tb (n::p)) cf
    rw[ah9,← h1,l1] at this
    simpa [Bz] using this
 | .unit,_,_::_,_,_,_,_,_,ht,_,_,_,_,_=>by cases ht
 | .int _,_,_::_,_,_,_,_,_,ht,_,_,_,_,_=>by cases ht
 | .bool,_,_::_,_,_,_,_,_,ht,_,_,_,_,_=>by cases ht
 | .str,_,_::_,_,_,_,_,_,ht,_,_,_,_,_=>by cases ht
 | .slice _,_,_::_,_,_,_,_,_,ht,_,_,_,_,_=>by cases ht
 | .ptr,_,_::_,_,_,_,_,_,ht,_,_,_,_,_=>by cases ht
 | .arr _ _,_,_::_,_,_,_,_,_,_,_,_,_,_,hs=>by cases hs
theorem Bav{E:U5}(hm:∀ f g b,(g=true→f=true)→E.ok f b→E.ok g b):∀ (c:AV) (t:Ty) (p:List Nat) (u:Ty) (v c':AV) (cs ds:List Value),Bg t c=true→La t p=some u→inT t p→ARc E c cs→Bg u v=true→ARc E v ds →
  Blr c p v=some c'→Bg t c'=true∧ARc E c' (Gl cs (Bz t p) ds)
 | c,t,[],u,v,c',cs,ds,hf,ht,_,h,hv,hd,hs=>by
  have e:u=t:=by cases t<;>simpa [La] using ht.symm
  subst e
  have e:c'=v:=by cases c<;>simpa [Blr] using hs.symm
  subst e
  refine⟨hv,?_⟩
  have l1:=Ka hf h
  have l2:=Ka hv hd
  rw[(Kc u).2.2,Gl,ag5 (by omega)]
  simpa using hd
 | .pair x y,t,i::p,u,v,c',cs,ds,hf,ht,hi,⟨c1,c2,h1,h2,h3⟩,hv,hd,hs=>by
  cases t<;>simp only[Bg,aa5,al0] at hf
  rename_i ta tb
  have l1:=Ka hf.1 h2
  have l2:=Ka hf.2 h3
  have l3:=Ka hv hd
  cases i with
  | zero =>
   have hs:(Blr x p v).map (fun a'=>AV.pair a' y)=some c':=hs
   cases hx:Blr x p v with
   | none=>rw[hx] at hs;cases hs
   | some x' =>
    rw[hx] at hs;cases hs
    obtain⟨k1,k2⟩:=Bav hm x ta p u v x' c1 ds hf.1 ht hi h2 hv hd hx
    refine⟨by simp[Bg,k1,hf.2],Gl c1 (Bz ta p) ds,c2,?_,k2,h3⟩
    have cf:Bz ta p+ds.length≤c1.length:=by
     have:=Ab8 ta p u ht hi
     omega
    rw[h1]
    have:=Aug (a:=[]) (b:=c1) (c:=c2) (ds:=ds) (off:=Bz ta p) cf
    simpa [Bz] using this
  | succ n =>
   have hs:(Blr y (n::p) v).map (fun a'=>AV.pair x a')=some c':=hs
   cases hx:Blr y (n::p) v with
   | none=>rw[hx] at hs;cases hs
   | some y' =>
    rw[hx] at hs;cases hs
    obtain⟨k1,k2⟩:=Bav hm y tb (n::p) u v y' c2 ds hf.2 ht hi h3 hv hd hx
    refine⟨by simp[Bg,k1,hf.1],c1,Gl c2 (Bz tb (n::p)) ds,?_,h2,k2⟩
    have cf:Bz tb (n::p)+ds.length≤c2.length:=by
     have:=Ab8 tb (n::p) u ht hi
     omega
    rw[h1]
    have:=Aug (a:=c1) (b:=c2) (c:=[]) (ds:=ds) (off:=Bz tb (n::p)) cf
    simpa [Bz,l1] using this
 | .d fr s x,t,i::p,u,v,c',cs,ds,hf,ht,hi,h,hv,hd,hs=>by
  have e:=Ty.beq_iff.1 (show Ty.beq s t=true by simpa [Bg] using hf)
  subst e
  by_cases dv:∃ fr' u' y,v=.d fr' u' y
  case neg =>
   have hs:Bpy fr s x (i::p) v=some c':=by
    cases v<;>first|exact hs|exact absurd ⟨_,_,_,rfl⟩ dv
   exact Bhu fr s x (i::p) u v c' cs ds ht hi h hv hd hs
  obtain⟨fr',u',y,rfl⟩:=dv
  simp only[Blr] at hs
  have e:=Ty.beq_iff.1 (show Ty.beq u' u=true by simpa [Bg] using hv)
  subst e
  cases hz:Bob s x (i::p) u' y with
  | none=>rw[hz] at hs;cases hs
  | some z =>
   rw[hz] at hs;cases hs
   have l3:=DR.len (show DR E.w _ u' ds y from hd)
   obtain⟨k1,k2⟩:=Aol s x (i::p) u' y z cs ds hz hi (DR.mono (ok':=E.ok (fr&&fr')) (fun b=>hm fr _ b (by simp;intro h _;exact h)) h) (DR.mono (fun b=>hm fr' _ b (by simp)) hd)
   exact⟨by simp[Bg,Ty.beq_iff],by unfold Gl;rw[l3];exact k2⟩
 | .any,_,_::_,_,_,_,_,_,hf,_,_,_,_,_,hs=>by cases hs
 | .un,_,_::_,_,_,_,_,_,hf,_,_,_,_,_,hs=>by cases hs
 | .nilp,_,_::_,_,_,_,_,_,hf,_,_,_,_,_,hs=>by cases hs
 | .nils,_,_::_,_,_,_,_,_,hf,_,_,_,_,_,hs=>by cases hs
 | .own _ _,_,_::_,_,_,_,_,_,hf,_,_,_,_,_,hs=>by cases hs
 | .view _ _ _ _ _,_,_::_,_,_,_,_,_,hf,_,_,_,_,_,hs=>by cases hs
 | .mapp _,_,_::_,_,_,_,_,_,hf,_,_,_,_,_,hs=>by cases hs
 | .mview _ _ _ _,_,_::_,_,_,_,_,_,hf,_,_,_,_,_,hs=>by cases hs
 | .ptr _ _,_,_::_,_,_,_,_,_,hf,_,_,_,_,_,hs=>by cases hs
 | .eptr _ _ _ _,_,_::_,_,_,_,_,_,hf,_,_,_,_,_,hs=>by cases hs
 | .rptr _ _ _,_,_::_,_,_,_,_,_,hf,_,_,_,_,_,hs=>by cases hs
 | .fn _ _,_,_::_,_,_,_,_,_,hf,_,_,_,_,_,hs=>by cases hs
 | .tup _,_,_::_,_,_,_,_,_,hf,_,_,_,_,_,hs=>by cases hs
section
variable {K:Dg} {S:St} {used:Id→Nat→Prop} {γ:Id→Value} {a:Act} {w:World}
inductive Ce4:Obj→Obj→Prop
 | sli (ab:Nat) (fr fr':Bool) (t:Ty) (r r':List t.den) (h:r'.length=r.length):Ce4 (.sli ab fr t r) (.sli ab fr' t r')
 | mem (fr fr':Bool) (t:Ty) (c c':AV):Ce4 (.mem fr t c) (.mem fr' t c')
theorem Gd.setRow(h:Gd K S used γ a w){id:Id}{o o':Obj}(ho:Ak S.objs id=some o)(js:Ce4 o o'){g:Nat}(hg:Bc (some o) (γ id)=some g){cs:Array Value}
  (nm:∀ E',Um (A3 K S.objs used γ w) E'→E'=A3 K ((id,some o')::S.objs) used γ (w.setRow g cs)→OR K E' id o') :
  Gd K { S with objs:=(id,some o')::S.objs } used γ a (w.setRow g cs)∧Um (A3 K S.objs used γ w) (A3 K ((id,some o')::S.objs) used γ (w.setRow g cs)):=by
 have ap:∀ j,Ak ((id,some o')::S.objs) j=if id=j then some o' else Ak S.objs j:=fun j=>Mp ..
 have da:∀ j b,Bc (Ak ((id,some o')::S.objs) j) (γ j)=some b→Bc (Ak S.objs j) (γ j)=some b:=by
  intro j b hb
  rw[ap] at hb
  by_cases e:id=j
  ·subst e
   rw[aa0 rfl] at hb
   rw[ho]
   generalize γ id=q at hb ⊢
   cases js<;>cases q<;>first|exact hb | (rename_i p _ _;cases p<;>exact hb) | (rename_i p;cases p<;>exact hb)
  ·rwa [aa1 e] at hb
 have oc:Bc (Ak S.objs id) (γ id)=some g:=by rw[ho];exact hg
 have hs:Um (A3 K S.objs used γ w) (A3 K ((id,some o')::S.objs) used γ (w.setRow g cs)):=by
  refine⟨by simp[A3],fun fr b hb bj=>⟨⟨fun j hj=>bj.1 j (da j b hj),bj.2⟩,setRow_other w g b cs fun e=>bj.1 id (e▸oc)⟩,fun _ _ h=>h,fun j v hj t n bo=>⟨?_,rfl⟩,fun j hj t bh=>⟨?_,rfl⟩,fun j hj kk t bh=>⟨?_,rfl⟩⟩
  ·have bo:Ahd (Ak ((id,some o')::S.objs) j) v t n:=bo
   rw[ap] at bo
   by_cases e:id=j
   ·subst e
    rw[aa0 rfl] at bo
    obtain⟨fr,rows,h1,h2⟩:=bo
    show Ahd (Ak S.objs id) v t n
    rw[ho]
    cases js with
    | sli ab f f' t' r r' hl =>
     rcases h2 with h2|h2
     ·cases h2;exact⟨f,r,by omega,.inl rfl⟩
     ·cases h2
    | mem=>rcases h2 with h2|h2<;>cases h2
   ·rwa [aa1 e] at bo
  ·have bh:Awc (Ak ((id,some o')::S.objs) j) t:=bh
   rw[ap] at bh
   by_cases e:id=j
   ·subst e
    rw[aa0 rfl] at bh
    obtain⟨fr,c,h2⟩:=bh
    show Awc (Ak S.objs id) t
    rw[ho]
    cases js with
    | sli=>rcases h2 with h2|h2<;>cases h2
    | mem f f' t' c c' =>
     rcases h2 with h2|h2
     ·cases h2;exact⟨f,c,.inl rfl⟩
     ·cases h2
   ·rwa [aa1 e] at bh
  ·have bh:Bpi (Ak ((id,some o')::S.objs) j) kk t:=bh
   rw[ap] at bh
   by_cases e:id=j
   ·subst e
    rw[aa0 rfl] at bh
    obtain⟨c,h2⟩:=bh
    cases js<;>cases h2
   ·rwa [aa1 e] at bh
 refine⟨h.move hs (fun j oj hj=>?_) (fun j oj hj=>?_) (fun j ab fr t rows v hj hu=>?_) (fun i j b hi hj=>h.sep i j b (da i b hi) (da j b hj)) (fun i b hi=>h.mod i b (da i b hi)) (h.frame.setRow g cs (h.mod id g oc).1),hs⟩
 ·rw[ap] at hj
  by_cases e:id=j
  ·rw[aa0 e] at hj;cases hj;subst e
   exact nm _ hs rfl
  ·rw[aa1 e] at hj
   refine OR.step hs rfl (fun b hb=>setRow_other w g b cs fun eb=>e ?_) (h.objs j oj hj)
   subst eb
   exact h.sep id j b oc (by rw[hj];exact hb)
 ·rw[ap] at hj
  by_cases e:id=j
  ·subst e;exact h.ou id o ho
  ·rw[aa1 e] at hj;exact h.ou j oj hj
 ·rw[ap] at hj
  by_cases e:id=j
  ·subst e
   rw[aa0 rfl] at hj;cases hj
   cases js with
   | sli ab f f' t' r r' hl=>exact h.vers id ab f t r v ho hu
  ·rw[aa1 e] at hj;exact h.vers j ab fr t rows v hj hu
theorem Bqd{P:Program}{t:Ty}{T:TypeId}(hT:U2 P t T=true){E:U5}{x:AV}{val:Value}(hf:Bg t x=true)(hv:Dn E x val){g o:Nat}{cur:Array Value}{e:TypeId}
  (hg:w.heap[g]?=some (.cells cur e (0,0))) (cf:o+t.size≤cur.size) :
  (Instr.storeAt T (.pointer (some ⟨g,o,none⟩)) val).run P w=.ok () (w.setRow g (Gl cur.toList o val.cells.toList).toArray):=by
 obtain⟨h1,h2⟩:=Aii hf hv
 have hl:=Ka hf h1
 have mn:=Azg hf h1
 have f8:val.cells.size=t.size:=by rw[← hl];simp
 have:=ar5 (P:=P) g o e val.cells.toList 0 cur w hg (by simp;omega) mn
 simp only[Instr.storeAt,Instr.sureAddr,ac7,af3,ab7,storeVar,Ls (P:=P) (T:=T) w hT,f8,ne_eq,not_true_eq_false,if_false]
 rw[this]
 simp[Gl]
theorem Ad0(K:Dg)(objs:Pm)(used:Id→Nat→Prop)(γ:Id→Value)(w:World):∀ f g b,(g=true→f=true)→(A3 K objs used γ w).ok f b→(A3 K objs used γ w).ok g b :=
 fun f g b hfg ⟨h1,h2,h3⟩=>⟨h1,h2,fun hg=>h3 (hfg hg)⟩
variable {o:Oper} {v:AV} {u:Pm} {base:Id} {l l0:List Id}
theorem Bzv(h:Gd K S used γ a w){t:Ty}{T:TypeId}{x y:Operand}(ho:o.op=.store T x y)(hx:A1 x=true)(hy:A1 y=true)(hT:U2 K.P t T=true)
  (hl:A6 K.C S.objs (Bz3 (S.eval x) (S.eval y) t) l0 (v,u) l):Qm K S used γ a w o v u base:=by
 have vx:=Bo h x hx
 have vy:=Bo h y hy
 revert hl vx vy
 generalize S.eval x=ax
 generalize S.eval y=ay
 intro hl vx vy
 unfold Bz3 at hl
 split at hl
 ·rename_i id ai
  obtain⟨ob,ak,hl⟩:=hl
  dsimp only at hl
  split at hl
  ·rename_i fm tm c
   split at hl
   ·rename_i wt c' h1 h2
    cases hb:(Ty.beq wt t&&Bg t ay) with
    | false=>rw[hb] at hl;exact hl.elim
    | true =>
     rw[hb] at hl
     simp only[aa5] at hb
     obtain⟨f0,jr⟩:=hb
     obtain rfl:=Ty.beq_iff.1 f0
     obtain⟨e1,rfl⟩:=hl
     cases e1
     obtain⟨_,hp⟩:=Abe vx
     obtain⟨g,u',p1,p2,p3,p4⟩:=hp tm (Aa2 _ fm tm c (.inl ak))
     have p1:γ id=.pointer (some ⟨g,0,none⟩):=p1
     obtain⟨g',e,cur,o1,o2,o3,o4,o5⟩:=h.objs id _ ak
     have o1:γ id=_:=o1
     rw[p1] at o1;cases o1
     have bv:Bc (some (.mem fm tm c)) (γ id)=some g:=by rw[p1];rfl
     obtain⟨f1,f2⟩:=Aii jr vy
     have cf:Bz tm ai+wt.size≤cur.size:=by
      have:=Ab8 tm ai wt h1 p3
      have l2:=Ka o3 o4
      simp only[ac9] at l2
      omega
     have ci:=Bqd (w:=w) hT jr vy o2 cf
     obtain⟨r1,r2⟩:=h.setRow (o':=.mem fm tm c') ak (.mem fm fm tm c c') bv (cs:=(Gl cur.toList (Bz tm ai) (a.eval y).cells.toList).toArray) fun E' hE he=>by
      have hmo:∀ f g b,(g=true→f=true)→E'.ok f b→E'.ok g b:=by rw[he];exact Ad0 K _ used γ _
      obtain⟨s1,s2⟩:=Bav hmo c tm ai wt ay c' cur.toList _ o3 h1 p3 (o4.step hE) jr (f1.step hE) h2
      refine⟨g,e,_,by rw[he];exact p1,by rw[he];exact setRow_heap w g cur _ e (0,0) o2,s1,by simpa using s2,o5⟩
     refine⟨.skip,undef,_,used,γ,?_,.inr ⟨rfl,rfl⟩,trivial,r1,Axz.refl _ _⟩
     simp only[execOp,ho,ac7]
     rw[p4,ci]
     rfl
   ·exact hl.elim
  ·exact hl.elim
 ·rename_i id ab i ai
  obtain⟨ob,ak,hl⟩:=hl
  dsimp only at hl
  split at hl
  ·rename_i af fr ut rows
   split at hl
   ·rename_i fr' u' y' tr
    split at hl
    ·rename_i z hz
     cases hb:Ty.beq u' t with
     | false=>rw[hb] at hl;exact hl.elim
     | true =>
      rw[hb] at hl
      obtain rfl:=Ty.beq_iff.1 hb
      obtain rfl:=ab1 tr
      obtain⟨e1,rfl⟩:=hl
      cases e1
      obtain⟨_,hp⟩:=Bfe vx
      obtain⟨p0,g,m,ru,u2,p1,p2,p3,p4⟩:=hp ut _ (Fp _ af fr ut rows (.inl ak))
      have p1:γ id=.slice (some ⟨g,0,none⟩) m ru:=p1
      rcases h.objs id _ ak with⟨o1,o2⟩ | ⟨g',cap,cur,e,o1,o2,o3,o4,o5,o6,o7⟩
      ·subst o2;simp at p0
      have o1:γ id=_:=o1
      rw[p1] at o1;cases o1
      have bv:Bc (some (.sli af fr ut rows)) (γ id)=some g:=by rw[p1];rfl
      have dz:Bg u' (.d fr' u' y')=true:=by simp[Bg,Ty.beq_iff]
      obtain⟨f1,f2⟩:=Aii dz vy
      have f1:DR w (Ahh K (Ak S.objs) γ fr') u' (a.eval y).cells.toList y':=f1
      have f3:=DR.len f1
      have fk:=o6.get i p0
      rw[Awf p0] at hz
      obtain⟨ht,_⟩:=Aol ut rows[i] ai u' y' z _ _ hz p3 (DR.mono (ok':=Ahh K (Ak S.objs) γ false) (fun b ⟨h1,h2,_⟩=>⟨h1,h2,fun h=>by cases h⟩) fk) (DR.mono (fun b ⟨h1,h2,_⟩=>⟨h1,h2,fun h=>by cases h⟩) f1)
      have gf:=Ab8 ut ai u' ht p3
      have ir:i*ut.size+ut.size≤rows.length*ut.size:=by rw[← Nat.succ_mul];exact ac6 _ p0
      have ba1:rows.length*ut.size≤cur.size:=by rw[o5];exact ac6 _ o3
      have ci:=Bqd (w:=w) hT dz vy o2 (o:=i*ut.size+Bz ut ai) (by omega)
      have aw1:cur.toList=(cur.toList.take (rows.length*ut.size)).take (i*ut.size)++((cur.toList.take (rows.length*ut.size)).drop (i*ut.size)).take ut.size ++
        ((cur.toList.take (rows.length*ut.size)).drop (i*ut.size+ut.size)++cur.toList.drop (rows.length*ut.size)):=by
       rw[← ab6,← ah4]
       conv=>rhs;lhs;rw[ab6,ad7,ad7]
       rw[ad7]
      have nv:=Aug (a:=(cur.toList.take (rows.length*ut.size)).take (i*ut.size)) (b:=((cur.toList.take (rows.length*ut.size)).drop (i*ut.size)).take ut.size)
       (c:=(cur.toList.take (rows.length*ut.size)).drop (i*ut.size+ut.size)++cur.toList.drop (rows.length*ut.size)) (ds:=(a.eval y).cells.toList) (off:=Bz ut ai)
       (by simp only[ab2,ac0,ac9] at *;omega)
      rw[← aw1,show ((cur.toList.take (rows.length*ut.size)).take (i*ut.size)).length=i*ut.size by simp only[ab2,ac9];omega,← ab6] at nv
      obtain⟨r1,r2⟩:=h.setRow (o':=.sli af (fr&&(fr'||u'.flat)) ut (rows.set i z)) ak (.sli af _ _ ut _ _ (by simp)) bv (cs:=(Gl cur.toList (i*ut.size+Bz ut ai) (a.eval y).cells.toList).toArray) fun E' hE he=>by
       have hmo:∀ f g b,(g=true→f=true)→E'.ok f b→E'.ok g b:=by rw[he];exact Ad0 K _ used γ _
       have hf1:(fr&&(fr'||u'.flat))=true→fr=true:=by simp;intro h _;exact h
       have old:B7 (DR E'.w (E'.ok (fr&&(fr'||u'.flat))) ut) ut.size (cur.toList.take (rows.length*ut.size)) rows :=
        o6.mono fun _ _ hd=>DR.mono (fun b=>hmo _ _ b hf1) (DR.move (fun b hb ck=>hE.ok fr b hb ck) hd)
       have new:DR E'.w (E'.ok (fr&&(fr'||u'.flat))) u' (a.eval y).cells.toList y':=by
        cases qo:u'.flat with
        | true=>exact DR.flat qo f1
        | false=>exact DR.mono (fun b=>hmo fr' _ b (by simp)) (DR.move (fun b hb ck=>hE.ok fr' b hb ck) f1)
       obtain⟨_,rt⟩:=Aol ut rows[i] ai u' y' z _ _ hz p3 (old.get i p0) new
       have cx:=old.set i p0 (Gl (((cur.toList.take (rows.length*ut.size)).drop (i*ut.size)).take ut.size) (Bz ut ai) (a.eval y).cells.toList) z
        (by rw[Avt]<;>simp only[ab2,ac0,ac9] at *<;>omega) (by unfold Gl;rw[f3];exact rt)
       refine .inr ⟨g,ru,_,e,by rw[he,ae1];exact p1,by rw[he];exact setRow_heap w g cur _ e (0,0) o2,by simpa using o3,o4,?_,?_,fun hf=>o7 (hf1 hf)⟩
       ·have:=Avt (l:=cur.toList) (ds:=(a.eval y).cells.toList) (o:=i*ut.size+Bz ut ai) (by simp only[ac9] at *;omega)
        simp only[ar6,this,ac9]
        exact o5
       ·rw[ae1,List.toList_toArray,nv,ad4,aa8]
        ·exact cx
        ·simp only[aa4,ab2,ac0,ac9,Gl] at *;omega
        ·simp only[aa4,ab2,ac0,ac9,Gl] at *;omega
      refine⟨.skip,undef,_,used,γ,?_,.inr ⟨rfl,rfl⟩,trivial,r1,Axz.refl _ _⟩
      simp only[execOp,ho,ac7]
      rw[p4,ci]
      rfl
    ·exact hl.elim
   ·exact hl.elim
  ·exact hl.elim
 ·exact hl.elim
end
end Go.Pon
namespace Go.Pon
open Go
theorem Bp2(off:Nat):∀ (l:List Value) (k:Nat) (cells:Array Value),off+k+l.length≤cells.size →
  ((l.zipIdx k).foldl (fun cs p=>cs.setIfInBounds (off+p.2) p.1) cells).toList=Gl cells.toList (off+k) l
 | [],k,cells,h=>by simp[Gl]
 | v::l,k,cells,h=>by
  simp only[ac5] at h
  simp only[List.zipIdx_cons,ap0]
  rw[Bp2 off l (k+1) _ (by simp;omega)]
  unfold Gl
  have e:(cells.setIfInBounds (off+k) v).toList=cells.toList.take (off+k)++v::cells.toList.drop (off+k+1):=by
   rw[Array.toList_setIfInBounds,List.set_eq_take_append_cons_drop,aa0 (by simp;omega)]
  have hl:(cells.toList.take (off+k)).length=off+k:=by simp;omega
  rw[e,as2,List.drop_append,aa8 (by omega),ag5 (as:=cells.toList.take (off+k)) (by omega),hl,
   show off+(k+1)-(off+k)=1 by omega,show off+(k+1)+l.length-(off+k)=l.length+1 by omega]
  simp only[aq1,ag1,an9,ah4,ac5,af8,ab6,aq5]
  rw[show off+k+1+l.length=off+k+(l.length+1) by omega]
theorem Bvn(off:Nat)(vs cells:Array Value)(h:off+vs.size≤cells.size) :
  (vs.zipIdx.foldl (fun cs (c,j)=>cs.setIfInBounds (off+j) c) cells).toList=Gl cells.toList off vs.toList:=by
 have:=Bp2 off vs.toList 0 cells (by simpa using h)
 rw[af6] at this
 rw[← this,← Array.foldl_toList,Array.toList_zipIdx]
def Cmp(t:Ty)(place:Nat→Option (Nat×Nat)):Prop:=∀ i u,La t [i]=some u→place i=some (Bz t [i],u.size)
theorem Bkl:∀ {t u:Ty} {i:Nat},La t [i]=some u→Bre t i=true→inT t [i]
 | .arr m t,_,i,_,h=>⟨by simpa [Bre] using h,(Kc t).2.1⟩
 | .pair p q,_,0,_,_=>(Kc p).2.1
 | .pair p q,u,n+1,h,hr=>Bkl (t:=q) (i:=n) h hr
 | .unit,_,_,h,_=>by cases h
 | .int _,_,_,h,_=>by cases h
 | .bool,_,_,h,_=>by cases h
 | .str,_,_,h,_=>by cases h
 | .slice _,_,_,h,_=>by cases h
 | .ptr,_,_,h,_=>by cases h
section
variable {K:Dg} {S:St} {used:Id→Nat→Prop} {γ:Id→Value} {a:Act} {w:World}
theorem Ba8(h:Gd K S used γ a w){t:Ty}{place:Nat→Option (Nat×Nat)}(hp:Cmp t place):∀ (ps:List (Nat×Operand)) (ce jp:AV) (cells:Array Value),(∀ p∈ps,A1 p.2=true) →
  Bai t (ps.map fun p=>(p.1,S.eval p.2))=true→Bg t ce=true→ARc (A3 K S.objs used γ w) ce cells.toList →
  Bah (ps.map fun p=>(p.1,S.eval p.2)) ce=some jp →
  ∃ dd,Instr.fill place cells (ps.map fun p=>(p.1,a.eval p.2))=some dd∧Bg t jp=true∧ARc (A3 K S.objs used γ w) jp dd.toList
 | [],ce,jp,cells,_,_,hf,hr,hb=>by
  cases hb
  exact⟨cells,rfl,hf,hr⟩
 | (i,x)::ps,ce,jp,cells,hc,lm,hf,hr,hb=>by
  simp only[ae5,Bai,aa5] at lm
  obtain⟨⟨h1,h2⟩,h3⟩:=lm
  split at h1
  ·rename_i u hu
   simp only[ae5,Bah] at hb
   split at hb
   ·rename_i xi ha
    have hv:=Bo h x (hc _ (ac1 ..))
    obtain⟨f1,f2⟩:=Aii h1 hv
    have hi:=Bkl hu h2
    obtain⟨s1,s2⟩:=Bav (Ad0 K S.objs used γ w) ce t [i] u _ xi cells.toList _ hf hu hi hr h1 f1 ha
    have gf:=Ab8 t [i] u hu hi
    have l1:=Ka hf hr
    have l2:=Ka h1 f1
    simp only[ac9] at l1 l2
    have hfa:=Bvn (Bz t [i]) (a.eval x).cells cells (by omega)
    obtain⟨dd,g1,g2,g3⟩:=Ba8 h hp ps xi jp ((a.eval x).cells.zipIdx.foldl (fun cs (c,j)=>cs.setIfInBounds (Bz t [i]+j) c) cells)
     (fun p hm=>hc p (ab8 _ hm)) h3 s1 (by rw[hfa];exact s2) hb
    refine⟨dd,?_,g2,g3⟩
    simp only[ae5,Instr.fill,hp i u hu]
    rw[aa1 (by simp;omega)]
    exact g1
   ·cases hb
  ·cases h1
theorem Bio{E:U5}(fr:Bool):∀ (t:Ty) (x:t.den) (cs:List Value),DR E.w (E.ok fr) t cs x→Bg t (Aix.splitD fr t x)=true∧ARc E (Aix.splitD fr t x) cs
 | .pair p q,x,cs,h=>by
  obtain⟨h1,h2⟩:=h
  obtain⟨k1,k2⟩:=Bio fr q x.2 _ h2
  exact⟨by simp[Aix.splitD,Bg,Ty.beq_iff,k1],cs.take p.size,cs.drop p.size,(ad7 _ _).symm,h1,k2⟩
 | .unit,_,_,h=>⟨rfl,h⟩
 | .int k,_,_,h=>⟨by simp[Aix.splitD,Bg,Ty.beq_iff],h⟩
 | .bool,_,_,h=>⟨rfl,h⟩
 | .str,_,_,h=>⟨rfl,h⟩
 | .arr _ _,_,_,h=>⟨by simp[Aix.splitD,Bg,Ty.beq_iff],h⟩
 | .slice _,_,_,h=>⟨by simp[Aix.splitD,Bg,Ty.beq_iff],h⟩
 | .ptr,_,_,h=>⟨rfl,h⟩
theorem Bit{E:U5}:∀ (t:Ty) (v:AV) (cs:List Value),Bg t v=true→ARc E v cs→Bg t (Aix v)=true∧ARc E (Aix v) cs
 | .pair p q,.pair v1 v2,cs,hf,⟨c1,c2,h1,h2,h3⟩=>by
  simp only[Bg,aa5] at hf
  obtain⟨k1,k2⟩:=Bit q v2 c2 hf.2 h3
  exact⟨by simp[Aix,Bg,hf.1,k1],c1,c2,h1,h2,k2⟩
 | t,.d fr (.pair p q) x,cs,hf,⟨h1,h2⟩=>by
  have e:=Ty.beq_iff.1 (show Ty.beq (.pair p q) t=true by simpa [Bg] using hf)
  subst e
  obtain⟨k1,k2⟩:=Bio (E:=E) fr q x.2 _ h2
  exact⟨by simp[Aix,Bg,Ty.beq_iff,k1],cs.take p.size,cs.drop p.size,(ad7 _ _).symm,h1,k2⟩
 | t,.d fr .unit x,cs,hf,h=>⟨hf,h⟩
 | t,.d fr (.int _) x,cs,hf,h=>⟨hf,h⟩
 | t,.d fr .bool x,cs,hf,h=>⟨hf,h⟩
 | t,.d fr .str x,cs,hf,h=>⟨hf,h⟩
 | t,.d fr (.arr _ _) x,cs,hf,h=>⟨hf,h⟩
 | t,.d fr (.slice _) x,cs,hf,h=>⟨hf,h⟩
 | t,.d fr .ptr x,cs,hf,h=>⟨hf,h⟩
 | .unit,.pair v1 v2,cs,hf,_=>by simp[Bg] at hf
 | .int _,.pair v1 v2,cs,hf,_=>by simp[Bg] at hf
 | .bool,.pair v1 v2,cs,hf,_=>by simp[Bg] at hf
 | .str,.pair v1 v2,cs,hf,_=>by simp[Bg] at hf
 | .arr _ _,.pair v1 v2,cs,hf,_=>by simp[Bg] at hf
 | .slice _,.pair v1 v2,cs,hf,_=>by simp[Bg] at hf
 | .ptr,.pair v1 v2,cs,hf,_=>by simp[Bg] at hf
 | t,.mapp _,cs,hf,h=>⟨hf,h⟩
 | t,.any,cs,hf,h=>⟨hf,h⟩
 | t,.un,cs,hf,h=>⟨hf,h⟩
 | t,.ub _ _,cs,hf,h=>⟨hf,h⟩
 | t,.nilp,cs,hf,h=>⟨hf,h⟩
 | t,.nils,cs,hf,h=>⟨hf,h⟩
 | t,.own _ _,cs,hf,h=>⟨hf,h⟩
 | t,.view _ _ _ _ _,cs,hf,h=>⟨hf,h⟩
 | t,.mview _ _ _ _,cs,hf,h=>⟨hf,h⟩
 | t,.ptr _ _,cs,hf,h=>⟨hf,h⟩
 | t,.eptr _ _ _ _,cs,hf,h=>⟨hf,h⟩
 | t,.rptr _ _ _,cs,hf,h=>⟨hf,h⟩
 | t,.tup _,cs,hf,h=>⟨hf,h⟩
 | t,.fn _ _,cs,hf,h=>⟨hf,h⟩
theorem Bej{α β:Type}(f:α→β):∀ l:List α,Vj f l=l.map f
 | []=>rfl
 | a::l=>by simp[Vj,Bej f l]
theorem Ati{P:Program}:∀ (t:Ty) (off:Nat) (fs:List Field),Ek P t off fs=true→t.agg=true→(∀ n u,t≠.arr n u) →
  ∃ ec,fs.mapM (fun f=>(P.info? f.type).map fun i=>(f.offset,i.size))=some ec∧∀ i u,La t [i]=some u→ec[i]?=some (off+Bz t [i],u.size)
 | .unit,off,fs,h,_,_=>by
  rw[Ag3 h]
  exact⟨[],rfl,fun i u hu=>by cases hu⟩
 | .pair p q,off,fs,h,_,_=>by
  obtain⟨f,r,rfl,h1,h2,h3,_,h4⟩:=Aaz h
  obtain⟨qq,z,i1,i2,_⟩:=Ku (Uv h2)
  have hq:q.agg=true∧∀ n u,q≠.arr n u:=by
   cases q<;>first | (simp[Ek,tyC] at h4;done)|exact⟨rfl,fun _ _ h=>by cases h⟩
  obtain⟨ec,k1,k2⟩:=Ati q (off+p.size) r h4 hq.1 hq.2
  refine⟨(off,p.size)::ec,by simp[ar7,i1,i2,k1,h1],fun i u hu=>?_⟩
  cases i with
  | zero =>
   have:u=p:=by
    have hu:La p []=some u:=hu
    rw[(Kc p).1] at hu;exact (at1 hu).symm
   subst this
   simp[Bz,(Kc u).2.2]
  | succ n =>
   have:=k2 n u hu
   simp only[al3,this,Bz]
   rw[aj3]
 | .arr n t,_,_,_,_,h=>absurd rfl (h n t)
variable {o:Oper} {base:Id}
theorem Bp7(h:Gd K S used γ a w){T:TypeId}{ps:Array (Nat×Operand)}{t:Ty}{ce:AV}(ho:o.op=.build T ps)(hc:∀ p∈ps.toList,A1 p.2=true)(hT:U2 K.P t T=true)
  (hb:Bsy t (Vj (fun p=>(p.1,S.eval p.2)) ps.toList)=some ce):Qm K S used γ a w o ce [] base:=by
 rw[Bej] at hb
 unfold Bsy at hb
 cases hag:t.agg with
 | false=>rw[hag] at hb;cases hb
 | true =>
 rw[hag,ao1] at hb
 cases lm:Bai t (ps.toList.map fun p=>(p.1,S.eval p.2)) with
 | false=>rw[lm] at hb;cases hb
 | true =>
  rw[lm] at hb
  obtain⟨qq,z,i1,i2,_,i3,i4,i5⟩:=Ku (Uv hT)
  have ci:∃ ko,Bg t ko=true∧ARc (A3 K S.objs used γ w) ko z.cells.toList∧Bah (ps.toList.map fun p=>(p.1,S.eval p.2)) ko=some ce:=by
   rw[i4]
   have hb:(bif t.bare&&Sc (fun p=>isD p.2) (ps.toList.map fun p=>(p.1,S.eval p.2)) then Bah (ps.toList.map fun p=>(p.1,S.eval p.2)) (.d true t t.zero) else Bah (ps.toList.map fun p=>(p.1,S.eval p.2)) (Aix (Ayw t)))=some ce:=hb
   cases hq:(t.bare&&Sc (fun p=>isD p.2) (ps.toList.map fun p=>(p.1,S.eval p.2))) with
   | true=>rw[hq] at hb;exact⟨.d true t t.zero,by simp[Bg,Ty.beq_iff],DR.zero t,hb⟩
   | false =>
    rw[hq] at hb
    obtain⟨f1,f2⟩:=Avi (A3 K S.objs used γ w) t
    obtain⟨g1,g2⟩:=Bit t _ _ f1 f2
    exact⟨_,g1,g2,hb⟩
  obtain⟨ko,f1,f2,jr⟩:=ci
  have cw:∀ cells,K.P.built T (ps.map fun (i,x)=>(i,a.eval x)).toList=some cells→Bg t ce=true→t.agg=true→ARc (A3 K S.objs used γ w) ce cells.toList→Qm K S used γ a w o ce [] base:=by
   intro cells f9 hf hag hr
   refine Qm.pure h (val:=.agg cells) ?_ (Aop hf (by simpa [Value.cells] using hr) (by rw[hag];rfl))
   simp only[execOp,ho,ac7,run_build w T _ cells f9,ab7,af3]
  have hl:(ps.map fun (i,x)=>(i,a.eval x)).toList=ps.toList.map fun p=>(p.1,a.eval p.2):=by simp
  cases t with
  | arr n t =>
   obtain⟨e,u1,u2⟩:=Afg hT
   obtain⟨ie,ze,j1,j2,_⟩:=Ku (Uv u2)
   obtain⟨cells,g1,g2,g3⟩:=Ba8 h (t:=.arr n t) (place:=fun i=>some (i*ie.size,ie.size)) (fun i u hu=>by
    have hu:La t []=some u:=hu
    rw[(Kc t).1] at hu;cases hu
    simp[Bz,(Kc t).2.2,j2]) ps.toList ko ce z.cells hc lm f1 f2 jr
   exact cw cells (by rw[hl];simp only[Program.built,i1,u1,i3,j1];exact g1) g2 rfl g3
  | unit =>
   obtain⟨fs,u1,u2,_⟩:=Au0 hT
   obtain⟨ec,p1,p2⟩:=Ati .unit 0 fs.toList u2 rfl (fun _ _ h=>by cases h)
   obtain⟨cells,g1,g2,g3⟩:=Ba8 h (t:=.unit) (place:=(ec.toArray[·]?)) (fun i u hu=>by simpa using p2 i u hu) ps.toList ko ce z.cells hc lm f1 f2 jr
   exact cw cells (by rw[hl];simp only[Program.built,i1,u1,i3,p1];exact g1) g2 rfl g3
  | pair p q =>
   obtain⟨fs,u1,u2,_⟩:=Ap3 hT
   obtain⟨ec,p1,p2⟩:=Ati (.pair p q) 0 fs.toList u2 rfl (fun _ _ h=>by cases h)
   obtain⟨cells,g1,g2,g3⟩:=Ba8 h (t:=.pair p q) (place:=(ec.toArray[·]?)) (fun i u hu=>by simpa using p2 i u hu) ps.toList ko ce z.cells hc lm f1 f2 jr
   exact cw cells (by rw[hl];simp only[Program.built,i1,u1,i3,p1];exact g1) g2 rfl g3
  | _=>cases hag
end
end Go.Pon
namespace Go.Pon
open Go
theorem Bvq{P:Program}(w:World)(t ty e e':TypeId)(i:TypeInfo)(ht:P.underlying t=some (.slice e))(hi:P.info? e=some i)
  (g mt tv:Nat) (cur:Array Value) (hg:w.heap[g]?=some (.cells cur e' (0,0)))
  (a:Addr) (m c:Nat) (news:List Value) (hl:news.length=m*i.size) (cy:∀ j u,news[j]?=some u→w.cell? (a.add j)=some u) (h1:∀ u∈news,u.oneCell'=true)
  (dc:mt+m≤tv) (dz:mt*i.size+news.length≤cur.size) :
  (Builtin.append_ #[t,t] ty #[.slice (some ⟨g,0,none⟩) mt tv,.slice (some a) m c]).run P w =
   .ok (.slice (some ⟨g,0,none⟩) (mt+m) tv) (w.setRow g (Gl cur.toList (mt*i.size) news).toArray):=by
 have hf:=run_firstCells_some (P:=P) w i.size m a m c news hl cy
 have ci:=ar5 P g (mt*i.size) e' news 0 cur w hg (by simpa using dz) h1
 simp only[af6] at ci
 simp[Builtin.append_,ab9 ht,sizeOf,typeInfo,hi,Builtin.lenOf,dc,hf,Addr.add_lit,ci,Gl]
inductive Aqu(w:World)(size:Nat)(e:TypeId)(s:Value)(n m:Nat)(olds news:List Value):Value→World→Prop
 | none (h:s=.slice none 0 0) (hn:n=0) (hm:m=0):Aqu w size e s n m olds news (.slice none 0 0) w
 | room (g cap:Nat) (cur:Array Value) (e':TypeId) (hg:w.heap[g]?=some (.cells cur e' (0,0))) (hs:s=.slice (some ⟨g,0,none⟩) n cap) (hr:n+m≤cap) (hf:n*size+news.length≤cur.size) :
   Aqu w size e s n m olds news (.slice (some ⟨g,0,none⟩) (n+m) cap) (w.setRow g (Gl cur.toList (n*size) news).toArray)
 | fresh (cap:Nat) (cells:Array Value) (h1:n+m≤cap) (h2:cap≤maxLen) (h3:cells.size=cap*size) (h4:cells.toList.take ((n+m)*size)=olds++news) :
   Aqu w size e s n m olds news (.slice (some ⟨w.heap.size,0,none⟩) (n+m) cap) (w.drew.alloc (.cells cells e))
theorem Bl9{P:Program}(w:World)(t ty e e':TypeId)(i:TypeInfo)(z:Value)(ht:P.underlying t=some (.slice e))(hi:P.info? e=some i)(hz:i.zero=some z)(iw:z.cells.size=i.size)
  (s:Value) (n:Nat) (olds:List Value) (hs:(s=.slice none 0 0∧n=0∧olds=[])∨∃ g cap cur,s=.slice (some ⟨g,0,none⟩) n cap∧w.heap[g]?=some (.cells cur e' (0,0))∧n≤cap∧cap≤maxLen∧cur.size=cap*i.size ∧
   cur.toList.take (n*i.size)=olds)
  (x:Option Addr) (m c:Nat) (news:List Value) (hl:news.length=m*i.size) (hx:x=none→m=0) (cy:∀ a,x=some a→∀ j u,news[j]?=some u→w.cell? (a.add j)=some u) (h1:∀ u∈news,u.oneCell'=true)
  (qr:n+m≤maxLen) (ef:(n+m)*i.bytes≤140737488355328) :
  ∃ v' w',(Builtin.append_ #[t,t] ty #[s,.slice x m c]).run P w=.ok v' w'∧Aqu w i.size e s n m olds news v' w':=by
 have tw:n+m≤9223372036854775807:=by simp only[maxLen] at qr;omega
 have gg:∀ (old:Nat),old<n+m→olds.length=n*i.size →
   Aqu w i.size e s n m olds news (.slice (some ⟨w.heap.size,0,none⟩) (n+m) (grownCap w (n+m) old e)) (w.drew.alloc (.cells (olds.toArray++news.toArray++Builtin.zeroCells z.cells (grownCap w (n+m) old e-(n+m))) e)):=by
  intro old ho i7
  have lk:=grownCap_ge w (n+m) old e
  have ag:(olds++news).length=(n+m)*i.size:=by rw[aa4,i7,hl,ae4]
  refine .fresh _ _ lk (grownCap_le_maxLen w (n+m) old e qr) ?_ ?_
  ·simp only[Array.size_append,ar6,size_zeroCells,iw,i7,hl,← ae4]
   congr 1
   omega
  ·simp only[Array.toList_append,ab6]
   rw[← ab6,← ag]
   exact List.take_left
 cases x with
 | none =>
  have hm:=hx rfl
  subst hm
  have hn:news=[]:=af7 (by simpa using hl)
  subst hn
  rcases hs with⟨rfl,rfl,rfl⟩ | ⟨g,cap,cur,rfl,hg,mu,hcm,er,et⟩
  ·refine⟨_,_,?_,.none rfl rfl rfl⟩
   simp[Builtin.append_,ab9 ht,sizeOf,typeInfo,hi,Builtin.lenOf,Builtin.firstCells]
  ·have dz:n*i.size≤cur.size:=by rw[er];exact ac6 _ mu
   refine⟨_,_,?_,.room g cap cur e' hg rfl (by simpa using mu) (by simpa using dz)⟩
   have ci:=ar5 P g (n*i.size) e' [] 0 cur w hg (by simpa using dz) (by simp)
   simp only[af6] at ci
   simp[Builtin.append_,ab9 ht,sizeOf,typeInfo,hi,Builtin.lenOf,mu,run_firstCells_none,Addr.add_lit,ci,Gl]
 | some a =>
  have cy:=cy a rfl
  rcases hs with⟨rfl,rfl,rfl⟩ | ⟨g,cap,cur,rfl,hg,mu,hcm,er,et⟩
  ·by_cases hm:m=0
   ·subst hm
    have hn:news=[]:=af7 (by simpa using hl)
    subst hn
    refine⟨_,_,?_,.none rfl rfl rfl⟩
    simp[Builtin.append_,ab9 ht,sizeOf,typeInfo,hi,Builtin.lenOf,Builtin.firstCells,loadCells,loadCellsFrom]
   ·have hr:=run_append_nil (P:=P) w t ty e i z ht hi hz a m c news hl cy (by omega) (by omega) (by have hb:=ef;simp only[af1] at hb;omega)
    have vu:=gg 0 (by omega) (by simp)
    simp only[af1,Array.empty_append] at vu
    exact⟨_,_,hr,by simpa using vu⟩
  ·by_cases dc:n+m≤cap
   ·have dz:n*i.size+news.length≤cur.size:=by rw[hl,er,← ae4];exact ac6 _ dc
    exact⟨_,_,Bvq w t ty e e' i ht hi g n cap cur hg a m c news hl cy h1 dc dz,.room g cap cur e' hg rfl dc dz⟩
   ·have i7:olds.length=n*i.size:=by
     rw[← et,ab2,ac9,er]
     exact ad8 (ac6 _ mu)
    have holds:∀ j u,olds[j]?=some u→w.cell? ((⟨g,0,none⟩:Addr).add j)=some u:=fun j u hj=>by
     have:=Ab7 hg 0 (n*i.size) j u (by rw[ag0,et];exact hj)
     exact this
    have hr:=run_append_grow (P:=P) w t ty e i z ht hi hz ⟨g,0,none⟩ n cap olds i7 holds a m c news hl cy (by omega) (by omega) (growslice_fits (by omega) ef)
    exact⟨_,_,hr,gg cap (by omega) i7⟩
theorem Bbv{P:Program}(w:World)(t ty e:TypeId)(i:TypeInfo)(z:Value)(ht:P.underlying t=some (.slice e))(hi:P.info? e=some i)(hz:i.zero=some z)(iw:z.cells.size=i.size)
  (ad:Option Addr) (n:Nat) (olds:List Value) (i7:olds.length=n*i.size) (hn:ad=none→n=0) (holds:∀ a,ad=some a→∀ j u,olds[j]?=some u→w.cell? (a.add j)=some u)
  (x:Option Addr) (m c:Nat) (news:List Value) (hl:news.length=m*i.size) (hx:x=none→m=0) (cy:∀ a,x=some a→∀ j u,news[j]?=some u→w.cell? (a.add j)=some u)
  (qr:n+m≤maxLen) (ef:(n+m)*i.bytes≤140737488355328) :
  ∃ v' w',(Builtin.append_ #[t,t] ty #[.slice ad n n,.slice x m c]).run P w=.ok v' w'∧((m=0∧v'=.slice ad n n∧w'=w) ∨
   (0<m∧∃ cap cells,n+m≤cap∧cap≤maxLen∧cells.size=cap*i.size∧cells.toList.take ((n+m)*i.size)=olds++news∧v'=.slice (some ⟨w.heap.size,0,none⟩) (n+m) cap∧w'=w.drew.alloc (.cells cells e))):=by
 have tw:n+m≤9223372036854775807:=by simp only[maxLen] at qr;omega
 have gg:∀ (old:Nat),old<n+m→0<m →
   (0<m∧∃ cap cells,n+m≤cap∧cap≤maxLen∧cells.size=cap*i.size∧cells.toList.take ((n+m)*i.size)=olds++news ∧
    Value.slice (some ⟨w.heap.size,0,none⟩) (n+m) (grownCap w (n+m) old e)=.slice (some ⟨w.heap.size,0,none⟩) (n+m) cap ∧
    w.drew.alloc (.cells (olds.toArray++news.toArray++Builtin.zeroCells z.cells (grownCap w (n+m) old e-(n+m))) e)=w.drew.alloc (.cells cells e)):=by
  intro old ho hm
  have lk:=grownCap_ge w (n+m) old e
  have ag:(olds++news).length=(n+m)*i.size:=by rw[aa4,i7,hl,ae4]
  refine⟨hm,_,_,lk,grownCap_le_maxLen w (n+m) old e qr,?_,?_,rfl,rfl⟩
  ·simp only[Array.size_append,ar6,size_zeroCells,iw,i7,hl,← ae4]
   congr 1
   omega
  ·simp only[Array.toList_append,ab6]
   rw[← ab6,← ag]
   exact List.take_left
 by_cases hm:m=0
 ·subst hm
  refine⟨_,w,?_,.inl ⟨rfl,rfl,rfl⟩⟩
  cases ad<;>cases x<;>simp[Builtin.append_,ab9 ht,sizeOf,typeInfo,hi,Builtin.lenOf,Builtin.firstCells,loadCells,loadCellsFrom,storeCells]
 ·cases x with
  | none=>exact absurd (hx rfl) hm
  | some a =>
   have cy:=cy a rfl
   cases ad with
   | none =>
    have hn:=hn rfl
    subst hn
    have:olds=[]:=af7 (by simpa using i7)
    subst this
    have hr:=run_append_nil (P:=P) w t ty e i z ht hi hz a m c news hl cy (by omega) (by omega) (by have hb:=ef;simp only[af1] at hb;omega)
    have vu:=gg 0 (by omega) (by omega)
    simp only[af1,af8] at vu ⊢
    exact⟨_,_,hr,.inr (by simpa using vu)⟩
   | some b =>
    have hr:=run_append_grow (P:=P) w t ty e i z ht hi hz b n n olds i7 (holds b rfl) a m c news hl cy (by omega) (by omega) (growslice_fits (by omega) ef)
    exact⟨_,_,hr,.inr (gg n (by omega) (by omega))⟩
end Go.Pon
namespace Go.Pon
open Go
section
variable {K:Dg} {S:St} {used:Id→Nat→Prop} {γ:Id→Value} {a:Act} {w:World}
theorem Gd.renew(h:Gd K S used γ a w)(hB:∀ b,K.B b→b<K.base){id:Id}{ab:Nat}{fr fr':Bool}{t:Ty}{rows rows':List t.den}(ho:Ak S.objs id=some (.sli ab fr t rows)){hv:Value}{w':World}
  (bp:w.heap.size≤w'.heap.size) (hkeep:∀ b,b<w.heap.size→Bc (some (.sli ab fr t rows)) (γ id)≠some b→w'.heap[b]?=w.heap[b]?)
  (n7:w'.os=w.os∧w'.tape=w.tape∧w'.output=w.output)
  (bv:∀ g,Bc (some (.sli (ab+1) fr' t rows')) hv=some g→Bc (some (.sli ab fr t rows)) (γ id)=some g∨g=w.heap.size)
  (nm:∀ E',Um (A3 K S.objs used γ w) E'→E'=A3 K ((id,some (.sli (ab+1) fr' t rows'))::S.objs) (Auc used id (ab+1)) (upd γ id hv) w'→OR K E' id (.sli (ab+1) fr' t rows')) :
  Gd K { S with objs:=(id,some (.sli (ab+1) fr' t rows'))::S.objs } (Auc used id (ab+1)) (upd γ id hv) a w':=by
 have ba:K.base≤w.heap.size:=h.frame.size
 have ap:∀ j,Ak ((id,some (Obj.sli (ab+1) fr' t rows'))::S.objs) j=if id=j then some (.sli (ab+1) fr' t rows') else Ak S.objs j:=fun j=>Mp ..
 have da:∀ j g,Bc (Ak ((id,some (Obj.sli (ab+1) fr' t rows'))::S.objs) j) (upd γ id hv j)=some g →
   Bc (Ak S.objs j) (γ j)=some g∨(j=id∧g=w.heap.size):=by
  intro j g hg
  rw[ap] at hg
  unfold upd at hg
  by_cases e:id=j
  ·rw[aa0 e,aa0 e] at hg
   subst e
   rcases bv g hg with h1|h1
   ·exact .inl (by rw[ho];exact h1)
   ·exact .inr ⟨rfl,h1⟩
  ·rw[aa1 e,aa1 e] at hg
   exact .inl hg
 have hs:Um (A3 K S.objs used γ w) (A3 K ((id,some (.sli (ab+1) fr' t rows'))::S.objs) (Auc used id (ab+1)) (upd γ id hv) w'):=by
  refine⟨bp,fun f b hb bj=>⟨⟨fun j hj=>?_,bj.2⟩,hkeep b hb fun e=>bj.1 id (by rw[ho];exact e)⟩,fun j v hj=>.inl hj,fun j v hj t' n bo=>?_,fun j hj t' bh=>?_,fun j hj kk t' bh=>?_⟩
  ·rcases da j b hj with e | ⟨_,e⟩
   ·exact bj.1 j e
   ·have:b<w.heap.size:=hb
    omega
  ·have bo:Ahd (Ak ((id,some (Obj.sli (ab+1) fr' t rows'))::S.objs) j) v t' n:=bo
   rw[ap] at bo
   by_cases e:id=j
   ·subst e
    rw[aa0 rfl] at bo
    obtain⟨_,_,_,h2⟩:=bo
    have cf:=h.vers id ab fr t rows v ho hj
    rcases h2 with h2|h2
    ·cases h2;omega
    ·cases h2
   ·rw[aa1 e] at bo
    exact⟨bo,aa1 e⟩
  ·have bh:Awc (Ak ((id,some (Obj.sli (ab+1) fr' t rows'))::S.objs) j) t':=bh
   rw[ap] at bh
   by_cases e:id=j
   ·rw[aa0 e] at bh
    obtain⟨_,_,h2⟩:=bh
    rcases h2 with h2|h2<;>cases h2
   ·rw[aa1 e] at bh
    exact⟨bh,aa1 e⟩
  ·have bh:Bpi (Ak ((id,some (Obj.sli (ab+1) fr' t rows'))::S.objs) j) kk t':=bh
   rw[ap] at bh
   by_cases e:id=j
   ·rw[aa0 e] at bh
    obtain⟨_,h2⟩:=bh
    cases h2
   ·rw[aa1 e] at bh
    exact⟨bh,aa1 e⟩
 refine h.move hs (fun j oj hj=>?_) (fun j oj hj=>?_) (fun j af f' t' oe v hj hu=>?_) (fun i j g hi hj=>?_) (fun i g hi=>?_) ?_
 ·rw[ap] at hj
  by_cases e:id=j
  ·rw[aa0 e] at hj;cases hj;subst e
   exact nm _ hs rfl
  ·rw[aa1 e] at hj
   refine OR.step hs (aa1 e) (fun g hg=>hkeep g (Aav h (i:=j) (by rw[hj];exact hg)) fun eg=>e ?_) (h.objs j oj hj)
   exact h.sep id j g (by rw[ho];exact eg) (by rw[hj];exact hg)
 ·rw[ap] at hj
  by_cases e:id=j
  ·exact⟨ab+1,.inr ⟨e.symm,rfl⟩⟩
  ·rw[aa1 e] at hj
   exact (h.ou j oj hj).imp fun v hv=>.inl hv
 ·rw[ap] at hj
  by_cases e:id=j
  ·rw[aa0 e] at hj;cases hj
   subst e
   rcases hu with hu | ⟨_,hu⟩
   ·have:=h.vers id ab fr t rows v ho hu;omega
   ·omega
  ·rw[aa1 e] at hj
   rcases hu with hu | ⟨e',_⟩
   ·exact h.vers j af f' t' oe v hj hu
   ·exact absurd e'.symm e
 ·rcases da i g hi with e1 | ⟨e1,e2⟩<;>rcases da j g hj with f1 | ⟨f1,f2⟩
  ·exact h.sep i j g e1 f1
  ·have:=Aav h e1;omega
  ·have:=Aav h f1;omega
  ·rw[e1,f1]
 ·rcases da i g hi with e1 | ⟨e1,e2⟩
  ·exact h.mod i g e1
  ·exact⟨.inl (by omega),fun hb=>by have:=hB g hb;omega⟩
 ·refine⟨n7.1.trans h.frame.os,n7.2.1.trans h.frame.tape,n7.2.2.trans h.frame.output,af2 h.frame.size bp,fun b hb ck=>?_⟩
  rw[hkeep b (ae3 hb ba) fun e=>?_]
  ·exact h.frame.block b hb ck
  ·rcases (h.mod id b (by rw[ho];exact e)).1 with h1|h1
   ·have:K.base=K.w0.heap.size:=rfl
    omega
   ·exact ck h1
end
end Go.Pon
namespace Go.Pon
open Go
section
variable {K:Dg} {S:St} {used:Id→Nat→Prop} {γ:Id→Value} {a:Act} {w:World} {o:Oper} {base:Id} {v:AV} {u:Pm} {l:List Id}
theorem Bqc{E:U5}{fr:Bool}{t:Ty}{e:TypeId}{s v':Value}{olds news:List Value}{xs ys:List t.den}{w w':World}{b0:Nat}{e':TypeId}
  (hg:Aqu w t.size e s (List.length xs) (List.length ys) olds news v' w') (hE:E.w=w')
  (hs:(s=.slice none 0 0∧List.length xs=0∧olds=[])∨∃ g cap cur,s=.slice (some ⟨g,0,none⟩) (List.length xs) cap∧w.heap[g]?=some (.cells cur e' (0,0))∧List.length xs≤cap∧cap≤maxLen∧cur.size=cap*t.size ∧
   cur.toList.take (List.length xs*t.size)=olds∧(fr=true→b0≤g))
  (hx:B7 (DR E.w (E.ok fr) t) t.size olds xs) (hy:B7 (DR E.w (E.ok fr) t) t.size news ys) (hb:b0≤w.heap.size):Bzj E fr t (xs++ys) b0 v':=by
 have sc:=hx.append hy
 have lx:=hx.length
 have ly:=hy.length
 cases hg with
 | none h hn hm=>exact .inl ⟨rfl,by rw[af7 hn,af7 hm];rfl⟩
 | room g cap cur e2 hgc dl hr hf =>
  rcases hs with⟨h1,_⟩ | ⟨g2,av8,av9,h1,h2,h3,h4,h5,h6,h7⟩
  ·rw[dl] at h1;cases h1
  ·rw[dl] at h1;cases h1
   rw[hgc] at h2;cases h2
   refine .inr ⟨g,cap,_,_,by rw[aa4],by rw[hE];exact setRow_heap w g cur _ _ (0,0) hgc,by rw[aa4];exact hr,h4,?_,?_,h7⟩
   ·have:=Avt (l:=cur.toList) (ds:=news) (o:=List.length xs*t.size) (by simpa using hf)
    simp only[ar6,this,ac9]
    exact h5
   ·rw[aa4,List.toList_toArray]
    have e4:(Gl cur.toList (List.length xs*t.size) news).take ((List.length xs+List.length ys)*t.size)=olds++news:=by
     unfold Gl
     rw[h6,ad4 (by simp only[aa4];rw[lx,ly,ae4];exact ab4 _),aa8 (by simp only[aa4];rw[lx,ly,ae4];exact ab4 _)]
    rw[e4]
    exact sc
 | fresh cap cells h1 h2 h3 h4 =>
  refine .inr ⟨w.heap.size,cap,cells,e,by rw[aa4],by rw[hE];exact aq3 w.drew _,by rw[aa4];exact h1,h2,h3,?_,fun _=>hb⟩
  rw[aa4,h4]
  exact sc
end
end Go.Pon
namespace Go.Pon
open Go
section
variable {K:Dg} {S:St} {used:Id→Nat→Prop} {γ:Id→Value} {a:Act} {w:World} {o:Oper} {base:Id} {v:AV} {u:Pm} {l:List Id}
theorem Cgs{E:U5}{v:AV}{val:Value}(h:Bhe v=true)(hv:Dn E v val):ARc E v [val]:=by
 have hs:Bfy v=true:=by cases v<;>simp_all [Bhe,Bfy]
 have ha:Aoe v=false:=by cases v<;>simp_all [Bhe,Aoe]
 obtain⟨h1,h2⟩:=Zk hs hv
 rw[ha] at h2
 rwa [Bm h2.symm] at h1
theorem Bp3(h:Gd K S used γ a w):∀ xs:List Operand,(∀ x∈xs,A1 x=true)→Sc Bhe (Vj S.eval xs)=true→ARc (A3 K S.objs used γ w) (Atm (Vj S.eval xs)) (xs.map a.eval)
 | [],_,_=>rfl
 | x::xs,hc,ho=>by
  simp only[Vj,Sc,aa5] at ho
  exact⟨[a.eval x],xs.map a.eval,rfl,Cgs ho.1 (Bo h x (hc x (ac1 ..))),Bp3 h xs (fun y hy=>hc y (ab8 _ hy)) ho.2⟩
theorem Buo(h:Gd K S used γ a w){f:FuncId}{caps:Array Operand}(ho:o.op=.makeFunc (.func f) #[] caps)(hc:∀ x∈caps.toList,A1 x=true)(h1:Sc Bhe (Vj S.eval caps.toList)=true) :
  Qm K S used γ a w o (.fn f (Atm (Vj S.eval caps.toList))) [] base:=by
 refine Qm.pure h (val:=.func (.func f) #[] (caps.map a.eval)) (by simp[execOp,ho,Instr.makeFunc]) (Df (a:=.fn f _) ⟨caps.map a.eval,rfl,?_⟩ rfl rfl)
 rw[Array.toList_map]
 exact Bp3 h caps.toList hc h1
end
end Go.Pon
namespace Go.Pon
open Go
def SlR(w:World)(ok:Nat→Prop)(t:Ty)(cs:List Value)(x:List t.den):Prop :=
 ∃ ad cap rows,cs=[.slice ad (List.length x) cap]∧List.length x≤cap∧cap≤maxLen∧(ad=none→cap=0)∧B7 (DR w ok t) t.size rows x ∧
  ∀ a,ad=some a→∀ j v,rows[j]?=some v→w.cell? (a.add j)=some v
theorem SlR.of{w:World}{ok:Nat→Prop}{t:Ty}{cs:List Value}{x:List t.den}(h:DR w ok (.slice t) cs x):SlR w ok t cs x:=by
 obtain⟨ad,cap,e1,e2,e3,e4,rows,e5,e6⟩:=h
 refine⟨ad,cap,rows,e1,e2,e3,e4,e5,fun a ha j v hj=>?_⟩
 have bm:rows≠[]:=by rintro rfl;simp at hj
 obtain⟨a',k1,_,k3⟩:=e6 bm
 rw[ha] at k1;cases k1
 exact k3 j v hj
theorem SlR.empty{w:World}{ok:Nat→Prop}{t:Ty}{c n:Nat}{ad:Option Addr}{x:List t.den}(hx:x=[])(hn:n=0)(hc:c≤maxLen)(h0:ad=none→c=0):SlR w ok t [.slice ad n c] x:=by
 subst hx hn
 exact⟨ad,c,[],rfl,ac2 _,hc,h0,rfl,fun a _ j v hj=>by simp at hj⟩
theorem SlR.cut{w:World}{ok:Nat→Prop}{t:Ty}{g o lo hi c:Nat}{cs:List Value}{rows:List t.den}(hr:B7 (DR w ok t) t.size cs rows)
  (hc:∀ j y,cs[j]?=some y→w.cell? ⟨g,o+j,none⟩=some y) (h2:hi≤List.length rows) (h3:hi-lo≤c) (h4:c≤maxLen) {ad:Option Addr} (h0:ad=none→c=0)
  (kg:lo<hi→ad=some ⟨g,o+lo*t.size,none⟩):SlR w ok t [.slice ad (hi-lo) c] ((List.drop lo rows).take (hi-lo)):=by
 rcases ad3 lo hi with ar|lk
 ·have hl:((List.drop lo rows).take (hi-lo)).length=hi-lo:=by simp;omega
  refine⟨ad,c,_,by rw[hl],by rw[hl];exact h3,h4,h0,(hr.drop lo).take (hi-lo),fun a ha j v hj=>?_⟩
  rw[kg ar] at ha;cases ha
  rw[Ch,aj3]
  refine hc _ _ ?_
  rw[af4] at hj
  split at hj
  ·rwa [ai2] at hj
  ·cases hj
 ·exact SlR.empty (by rw[show hi-lo=0 by omega,ag1]) (by omega) h4 h0
section
variable {K:Dg} {S:St} {used:Id→Nat→Prop} {γ:Id→Value} {a:Act} {w:World} {o:Oper} {base:Id} {v:AV} {u:Pm} {l:List Id}
theorem Chx(h:Gd K S used γ a w){id:Id}{ab:Nat}{fr:Bool}{t:Ty}{rows:List t.den}
  (ho:Ak S.objs id=some (.sli ab fr t rows)∨Ak S.objs id=some (.frz ab fr t rows)) {lo hi:Nat} {v0:Value} {cc:Nat} {ad:Option Addr}
  (v2:hi≤rows.length) (v3:v0=.slice ad (hi-lo) cc) (v4:hi-lo≤cc) (v5:cc≤maxLen) (v6:ad=none→cc=0)
  (v7:lo<hi→∃ g m cp,γ id=.slice (some ⟨g,0,none⟩) m cp∧ad=some ⟨g,lo*t.size,none⟩) :
  SlR w (Ahh K (Ak S.objs) γ fr) t [v0] ((List.drop lo rows).take (hi-lo)):=by
 subst v3
 rcases ad3 lo hi with ar|lk
 ·obtain⟨g,cp,cs,h1,_,_,h4,h5⟩:=Ay7 h ho (by rintro rfl;simp at v2;omega)
  obtain⟨g',m,ru,k1,k2⟩:=v7 ar
  rw[h1] at k1;cases k1
  exact SlR.cut (g:=g) (o:=0) h4 (fun j y hj=>by rw[af1];exact h5 j y hj) v2 v4 v5 v6 (fun _=>by rw[af1];exact k2)
 ·exact SlR.empty (by rw[show hi-lo=0 by omega,ag1]) (by omega) v5 v6
theorem Caw(h:Gd K S used γ a w){id:Id}{ab:Nat}{fr:Bool}{t:Ty}{rows:List t.den}
  (ho:Ak S.objs id=some (.sli ab fr t rows)∨Ak S.objs id=some (.frz ab fr t rows)):SlR w (Ahh K (Ak S.objs) γ fr) t [γ id] rows:=by
 obtain⟨ad,cap,k1,k2,k3,k4⟩:=Bax h ho
 have:=Chx (lo:=0) (hi:=rows.length) (ad:=ad) (cc:=cap) (v0:=γ id) h ho (ab4 _) k1 k2 k3 k4 (fun ar=>by
  obtain⟨g,cp,cs,h1,_⟩:=Ay7 h ho (by rintro rfl;simp at ar)
  have go:=h1
  rw[k1] at h1;cases h1
  exact⟨g,_,_,go,by rw[al9]⟩)
 simpa using this
theorem Akt{α:Type}{C:Gi}{objs:Pm}{v:AV}{t:Ty}{c:Cl}{frz:Bool}{k:Bool→List t.den→Cl→OpT α}{l0 l:List Id}{r:α}(hl:A6 C objs (Wk v t c frz k) l0 r l):Bfy v=true:=by
 cases v<;>first|rfl|exact hl.elim
theorem Ayf{α:Type}{C:Gi}(h:Gd K S used γ a w){frz:Bool}{v:AV}{t:Ty}{c:Cl}{k:Bool→List t.den→Cl→OpT α}{l0 l:List Id}{r:α}
  (hl:A6 C S.objs (Wk v t c frz k) l0 r l) :
  ∃ fr x c' l1,A6 C S.objs (k fr x c') l1 r l∧Aoe v=false ∧
   ∀ cs,ARc (A3 K S.objs used γ w) v cs→SlR w (Ahh K (Ak S.objs) γ fr) t cs x:=by
 unfold Wk at hl
 split at hl
 ·rename_i fr u' x
  split at hl
  ·rename_i y hy
   obtain⟨e,rfl⟩:=Cu hy
   subst e
   exact⟨fr,_,c,l0,hl,rfl,fun cs hr=>SlR.of hr⟩
  ·exact hl.elim
 ·exact⟨true,[],c,l0,hl,rfl,fun cs hr=>by rw[show cs=_ from hr];exact SlR.empty rfl rfl (ac2 _) (fun _=>rfl)⟩
 ·rename_i id ab
  cases hg:Anf c.ups id with
  | true=>rw[hg] at hl;exact hl.elim
  | false =>
   rw[hg] at hl
   obtain⟨ob,ak,hl⟩:=hl
   dsimp only at hl
   split at hl
   ·rename_i af fr u' rows
    split at hl
    ·rename_i y h1 hy
     obtain rfl:=ab1 h1
     obtain⟨e,rfl⟩:=Cu hy
     cases e
     refine⟨fr,_,_,_,hl,rfl,fun cs hr=>?_⟩
     obtain⟨_,v0,rfl,_,ct⟩:=hr
     rw[ct t _ (Fp _ af fr t rows (.inl ak))]
     exact Caw h (.inl ak)
    ·exact hl.elim
   ·rename_i af fr u' rows
    split at hl
    ·rename_i y h1 hy
     obtain rfl:=ab1 h1
     obtain⟨e,rfl⟩:=Cu hy
     cases e
     refine⟨fr,_,_,_,hl,rfl,fun cs hr=>?_⟩
     obtain⟨_,v0,rfl,_,ct⟩:=hr
     rw[ct t _ (Fp _ af fr t rows (.inr ak))]
     exact Caw h (.inr ak)
    ·exact hl.elim
   ·exact hl.elim
 ·rename_i id ab lo hi cp0
  cases hg:Anf c.ups id with
  | true=>rw[hg] at hl;exact hl.elim
  | false =>
   rw[hg] at hl
   have key:∀ (ab:Nat) (fr:Bool) (t:Ty) (rows:List t.den),(Ak S.objs id=some (.sli ab fr t rows)∨Ak S.objs id=some (.frz ab fr t rows)) →
     ∀ cs,ARc (A3 K S.objs used γ w) (.view id ab lo hi cp0) cs→SlR w (Ahh K (Ak S.objs) γ fr) t cs ((rows.drop lo).take (hi-lo)):=by
    intro ab fr t rows bz cs hr
    obtain⟨_,v0,rfl,_,ct⟩:=hr
    obtain⟨v1,v2,ad,cc,v3,v4,v5,v6,v7,_⟩:=ct t _ (Fp _ ab fr t rows bz)
    exact Chx h bz v2 v3 v4 v5 v6 v7
   obtain⟨ob,ak,hl⟩:=hl
   dsimp only at hl
   split at hl
   ·rename_i af fr u' rows
    split at hl
    ·rename_i y h1 hy
     obtain rfl:=ab1 h1
     obtain⟨e,rfl⟩:=Cu hy
     cases e
     exact⟨fr,_,_,_,hl,rfl,key af fr t rows (.inl ak)⟩
    ·exact hl.elim
   ·rename_i af fr u' rows
    split at hl
    ·rename_i y h1 hy
     obtain rfl:=ab1 h1
     obtain⟨e,rfl⟩:=Cu hy
     cases e
     exact⟨fr,_,_,_,hl,rfl,key af fr t rows (.inr ak)⟩
    ·exact hl.elim
   ·exact hl.elim
 ·rename_i id ai lo hi
  cases hg:Anf c.ups id with
  | true=>rw[hg] at hl;exact hl.elim
  | false =>
   rw[hg] at hl
   have key:∀ (fm fr:Bool) (tm u':Ty) (m:AV) (n:Nat) (x:List u'.den),(Ak S.objs id=some (.mem fm tm m)∨Ak S.objs id=some (.mfz fm tm m))→Ax9 m ai=some (.d fr (.arr n u') x) →
     ∀ cs,ARc (A3 K S.objs used γ w) (.mview id ai lo hi) cs→SlR w (Ahh K (Ak S.objs) γ (fr&&fm)) u' cs ((x.drop lo).take (hi-lo)):=by
    intro fm fr tm u' m n x bz dy cs hr
    obtain⟨_,v0,rfl,_,ct⟩:=hr
    obtain⟨g,n',uu,q1,q2,q3,q4,q5,ad,cc,q6,q7,q8,q9⟩:=ct tm (Aa2 _ fm tm m bz)
    subst q6
    obtain⟨g',e',cur,m1,m2,m3,m4⟩:=Azb h bz
    have q1:γ id=_:=q1
    rw[q1] at m1
    cases m1
    obtain⟨n1,n2,n3⟩:=Ae1 m tm ai _ _ m3 q2 q3 m4 _ dy
    have eu:Ty.arr n u'=.arr n' uu:=Ty.beq_iff.1 (by simpa [Bg] using n1)
    cases eu
    obtain⟨nl,nr⟩:=n2
    refine SlR.cut (g:=g) (o:=Bz tm ai) (nr.mono fun _ _=>DR.mono fun b hb=>Ad0 K S.objs used γ w _ _ b (fun h=>(aa5 _ _▸h:fr=true∧fm=true).1) hb)
     (fun j y hj=>?_) (by rw[nl];exact q5) q7 q8 (fun e=>by cases e) (fun ar=>by rw[q9 ar])
    have:=Ab7 m2 (Bz tm ai) (Ty.size (.arr n u')) j y hj
    rwa [Ch] at this
   obtain⟨ob,ak,hl⟩:=hl
   dsimp only at hl
   split at hl
   ·rename_i fm tm m
    split at hl
    ·rename_i fr n u' x dy
     split at hl
     ·rename_i y hy
      obtain⟨e,rfl⟩:=Cu hy
      cases e
      exact⟨_,_,_,_,hl,rfl,key fm fr tm t m n x (.inl ak) dy⟩
     ·exact hl.elim
    ·exact hl.elim
   ·rename_i fm tm m
    split at hl
    ·rename_i fr n u' x dy
     split at hl
     ·rename_i y hy
      obtain⟨e,rfl⟩:=Cu hy
      cases e
      exact⟨_,_,_,_,hl,rfl,key fm fr tm t m n x (.inr ak) dy⟩
     ·exact hl.elim
    ·exact hl.elim
   ·exact hl.elim
 ·exact hl.elim
theorem Aqu.keeps{size:Nat}{e:TypeId}{s v':Value}{n m:Nat}{olds news:List Value}{w w':World}(hg:Aqu w size e s n m olds news v' w') :
  w.heap.size≤w'.heap.size∧(∀ b,b<w.heap.size→(∀ g l c,s=.slice (some g) l c→g.block≠b)→w'.heap[b]?=w.heap[b]?)∧(w'.os=w.os∧w'.tape=w.tape∧w'.output=w.output) ∧
   ∀ g l c,v'=.slice (some g) l c→(∃ l' c',s=.slice (some g) l' c')∨g.block=w.heap.size:=by
 cases hg with
 | none h hn hm=>exact⟨ab4 _,fun _ _ _=>rfl,⟨rfl,rfl,rfl⟩,fun g l c h=>by cases h⟩
 | room g cap cur e' hg hs hr hf =>
  refine⟨by simp[World.setRow],fun b _ hb=>setRow_other w g b _ fun e=>hb _ _ _ hs e.symm,⟨rfl,rfl,rfl⟩,fun g' l c h=>?_⟩
  cases h
  exact .inl ⟨_,_,hs⟩
 | fresh cap cells h1 h2 h3 h4 =>
  refine⟨by simp,fun b hb _=>Aq3 w.drew _ b hb,⟨rfl,rfl,rfl⟩,fun g' l c h=>?_⟩
  cases h
  exact .inr rfl
theorem Ze{n:Nat}{t:Ty}(h:A8 n t=true):0<t.size∧n≤maxLen∧n*(24*t.size)≤140737488355328:=by
 unfold A8 at h
 simp only[aa5,at5,ac4] at h
 refine⟨h.1,?_,h.2⟩
 have h1:n*1≤n*(24*t.size):=ae8 _ (by omega)
 simp only[maxLen]
 omega
theorem Arh{T:TypeId}{x y:Operand}(ho:o.op=.call { callee:=.builtin .append,args:=#[x,y],argTypes:=#[T,T] }){v':Value}{w':World}
  (hr:(Builtin.append_ #[T,T] o.type #[a.eval x,a.eval y]).run K.P w=.ok v' w'):(execOp a.eval o).run K.P w=.ok (.value v') w':=by
 simp only[execOp,ho,resolve,invoke,builtin,ac7,af3,ab7,ao2,ae5,ak0,hr]
theorem Bq6(h:Gd K S used γ a w)(hB:∀ b,K.B b→b<K.base){id:Id}{af:Nat}{fr fa:Bool}{t:Ty}{rows ys:List t.den}{olds news:List Value}{e e':TypeId}{v':Value}{w':World}
  (ak:Ak S.objs id=some (.sli af fr t rows)) (ll:∃ v,used id v)
  (hs:(γ id=.slice none 0 0∧List.length rows=0∧olds=[])∨∃ g cap cur,γ id=.slice (some ⟨g,0,none⟩) (List.length rows) cap∧w.heap[g]?=some (.cells cur e' (0,0))∧List.length rows≤cap∧cap≤maxLen∧cur.size=cap*t.size ∧
   cur.toList.take (List.length rows*t.size)=olds∧(fr=true→K.base≤g))
  (xj:B7 (DR w (Ahh K (Ak S.objs) γ fr) t) t.size olds rows) (n6:B7 (DR w (Ahh K (Ak S.objs) γ fa) t) t.size news ys)
  (q2:Aqu w t.size e (γ id) (List.length rows) (List.length ys) olds news v' w') (kp:(execOp a.eval o).run K.P w=.ok (.value v') w') :
  Qm K S used γ a w o (.own id (af+1)) [(id,some (.sli (af+1) (fr&&(fa||t.flat)) t (rows++ys)))] base:=by
 have ba:K.base≤w.heap.size:=h.frame.size
 obtain⟨p1,p2,p3,p4⟩:=q2.keeps
 have bd:=h.renew hB (fr':=fr&&(fa||t.flat)) (rows':=rows++ys) ak (hv:=v') p1 (fun b hb bm=>p2 b hb fun g l c oc e2=>bm (by rw[oc];exact am6 some e2)) p3
  (fun g hg=>by
   cases v' with
   | slice ad2 l2 c2 =>
    cases ad2 with
    | none=>simp[Bc] at hg
    | some g2 =>
     simp only[Bc,ak5] at hg
     subst hg
     rcases p4 g2 l2 c2 rfl with⟨l',c'',hh⟩|hh
     ·exact .inl (by rw[hh];rfl)
     ·exact .inr hh
   | _=>simp[Bc] at hg)
  (fun E' dl hE=>by
   have jq:E'.w=w':=by rw[hE];rfl
   have hγ:E'.γ id=v':=by rw[hE];exact aa0 rfl
   have dn:∀ f g b,(g=true→f=true)→E'.ok f b→E'.ok g b:=by rw[hE];exact Ad0 K _ _ _ _
   show Bzj E' (fr&&(fa||t.flat)) t (rows++ys) K.base (E'.γ id)
   rw[hγ]
   refine Bqc q2 jq (b0:=K.base) ?_ ?_ ?_ ba (e':=e')
   ·rcases hs with hs | ⟨g,cap,cur,k1,k2,k3,k4,k5,k6,k7⟩
    ·exact .inl hs
    ·exact .inr ⟨g,cap,cur,k1,k2,k3,k4,k5,k6,fun hf=>k7 (by simp only[aa5] at hf;exact hf.1)⟩
   ·exact xj.mono fun _ _ hd=>(DR.move (fun b hb ho=>dl.ok fr b hb ho) hd).mono fun b=>dn _ _ b (by simp only[aa5];exact fun hf=>hf.1)
   ·cases rf:t.flat with
    | true=>exact n6.mono fun _ _ hd=>DR.flat rf hd
    | false =>
     refine n6.mono fun _ _ hd=>(DR.move (fun b hb ho=>dl.ok fa b hb ho) hd).mono fun b=>dn _ _ b ?_
     simp only[aa5,at0];exact fun hf=>hf.2)
 refine⟨_,_,w',_,_,kp,.inl rfl,?_,bd,?_⟩
 ·have sf:Ck v'=false:=by cases q2<;>rfl
  have go:v'.oneCell'=true:=by cases q2<;>rfl
  exact Df (a:=.own id (af+1)) ⟨.inr ⟨rfl,rfl⟩,v',rfl,go,fun _ _ _=>(aa0 rfl:upd γ id v' id=v').symm⟩ rfl sf
 ·rintro j7 v2 (km | ⟨rfl,rfl⟩)
  ·exact .inl ⟨v2,km⟩
  ·exact .inl ll
theorem Bh2(h:Gd K S used γ a w)(hB:∀ b,K.B b→b<K.base)(bw:∀ v,¬ used base v){fa:Bool}{t:Ty}{ys:List t.den}{news:List Value}{e:TypeId}{v':Value}{w':World}
  (n6:B7 (DR w (Ahh K (Ak S.objs) γ fa) t) t.size news ys) (q2:Aqu w t.size e (.slice none 0 0) 0 (List.length ys) [] news v' w') (kp:(execOp a.eval o).run K.P w=.ok (.value v') w') :
  Qm K S used γ a w o (.own base 0) [(base,some (.sli 0 (fa||t.flat) t ys))] base:=by
 have ba:K.base≤w.heap.size:=h.frame.size
 obtain⟨p1,p2,p3,p4⟩:=q2.keeps
 have hkeep:∀ b,b<w.heap.size→w'.heap[b]?=w.heap[b]?:=fun b hb=>p2 b hb (fun g l c h=>by cases h)
 have bd:=h.new (w':=w') (id:=base) (o:=.sli 0 (fa||t.flat) t ys) (hv:=v') bw (fun g hg=>by
   have:g=w.heap.size:=by
    cases v' with
    | slice ad2 l2 c2 =>
     cases ad2 with
     | none=>simp[Bc] at hg
     | some g2 =>
      simp only[Bc,ak5] at hg
      subst hg
      rcases p4 g2 l2 c2 rfl with⟨l',c'',hh⟩|hh
      ·cases hh
      ·exact hh
    | _=>simp[Bc] at hg
   exact⟨this,fun hb=>by have:=hB _ hb;omega⟩) p1 hkeep
  ⟨p3.1.trans h.frame.os,p3.2.1.trans h.frame.tape,p3.2.2.trans h.frame.output,af2 h.frame.size p1,fun b hb ck=>by rw[hkeep b (ae3 hb ba)];exact h.frame.block b hb ck⟩
  (fun E' dl hE=>by
   have jq:E'.w=w':=by rw[hE];rfl
   have hγ:E'.γ base=v':=by rw[hE];exact aa0 rfl
   have dn:∀ f g b,(g=true→f=true)→E'.ok f b→E'.ok g b:=by rw[hE];exact Ad0 K _ _ _ _
   show Bzj E' (fa||t.flat) t ys K.base (E'.γ base)
   rw[hγ]
   have:=Bqc (E:=E') (fr:=fa||t.flat) (t:=t) (xs:=[]) (ys:=ys) q2 jq (b0:=K.base) (e':=e) (.inl ⟨rfl,rfl,rfl⟩) rfl ?_ ba
   ·simpa using this
   ·cases rf:t.flat with
    | true=>exact n6.mono fun _ _ hd=>DR.flat rf hd
    | false =>
     refine n6.mono fun _ _ hd=>(DR.move (fun b hb ho=>dl.ok fa b hb ho) hd).mono fun b=>dn _ _ b ?_
     simp only[at0];exact id)
 refine⟨_,_,w',_,_,kp,.inl rfl,?_,bd,?_⟩
 ·have sf:Ck v'=false:=by cases q2<;>rfl
  have go:v'.oneCell'=true:=by cases q2<;>rfl
  exact Df (a:=.own base 0) ⟨.inr ⟨rfl,rfl⟩,v',rfl,go,fun _ _ _=>(aa0 rfl:upd γ base v' base=v').symm⟩ rfl sf
 ·rintro j7 v2 (km | ⟨rfl,rfl⟩)
  ·exact .inl ⟨v2,km⟩
  ·exact .inr ⟨rfl,rfl⟩
theorem Cb0(h:Gd K S used γ a w)(e:TypeId){id:Id}{af:Nat}{fr:Bool}{t:Ty}{rows:List t.den}(ak:Ak S.objs id=some (.sli af fr t rows)) :
  ∃ e' olds,((γ id=.slice none 0 0∧List.length rows=0∧olds=[])∨∃ g cap cur,γ id=.slice (some ⟨g,0,none⟩) (List.length rows) cap∧w.heap[g]?=some (.cells cur e' (0,0))∧List.length rows≤cap∧cap≤maxLen∧cur.size=cap*t.size ∧
   cur.toList.take (List.length rows*t.size)=olds∧(fr=true→K.base≤g))∧B7 (DR w (Ahh K (Ak S.objs) γ fr) t) t.size olds rows:=by
 rcases h.objs id _ ak with⟨k1,k2⟩ | ⟨g,cap,cur,e2,k1,k2,k3,k4,k5,k6,k7⟩
 ·exact⟨e,[],.inl ⟨k1,by rw[k2];rfl,rfl⟩,by rw[k2];rfl⟩
 ·exact⟨e2,_,.inr ⟨g,cap,cur,k1,k2,k3,k4,k5,rfl,k7⟩,k6⟩
theorem Cdn(h:Gd K S used γ a w)(hB:∀ b,K.B b→b<K.base){c:Cl}(hc:Xr S true c)(hmv:Cx c.ups=[]){mh fa:Bool}{t:Ty}{xs ys:List t.den}{ad:Option Addr}{news:List Value}{e:TypeId}{v':Value}{w':World}{olds:List Value}
  (dr:0<t.size) (hn:List.length xs+List.length ys≤maxLen) (hx:DR w (okL K S γ c mh) (.slice t) [.slice ad (List.length xs) (List.length xs)] xs) (hxo:B7 (DR w (okL K S γ c mh) t) t.size olds xs)
  (n6:B7 (DR w (Ahh K (Ak S.objs) γ fa) t) t.size news ys)
  (q2:(List.length ys=0∧v'=.slice ad (List.length xs) (List.length xs)∧w'=w)∨(0<List.length ys∧∃ cap cells,List.length xs+List.length ys≤cap∧cap≤maxLen∧cells.size=cap*t.size ∧
   cells.toList.take ((List.length xs+List.length ys)*t.size)=olds++news∧v'=.slice (some ⟨w.heap.size,0,none⟩) (List.length xs+List.length ys) cap∧w'=w.drew.alloc (.cells cells e)))
  (kp:(execOp a.eval o).run K.P w=.ok (.value v') w') :
  Qm K S used γ a w o (.d (mh&&(fa||t.flat)) (.slice t) (List.append xs ys)) c.ups base:=by
 have ba:K.base≤w.heap.size:=h.frame.size
 have f8:w.heap.size≤w'.heap.size∧(∀ b,b<w.heap.size→w'.heap[b]?=w.heap[b]?)∧(w'.os=w.os∧w'.tape=w.tape∧w'.output=w.output):=by
  rcases q2 with⟨_,_,rfl⟩ | ⟨_,cap,cells,_,_,_,_,_,rfl⟩
  ·exact⟨ab4 _,fun _ _=>rfl,rfl,rfl,rfl⟩
  ·exact⟨by simp,fun b hb=>Aq3 w.drew _ b hb,rfl,rfl,rfl⟩
 obtain⟨p1,p2,p3⟩:=f8
 obtain⟨ah,γ',r1,r2,r3,_⟩:=h.after hB hc (w':=w') (M:=[]) (ok:=fun f b=>(okL K S γ c f b∧b<w.heap.size)∨b=w.heap.size) p1 (fun b hb _=>p2 b hb) p3
  (fun p hp=>by cases hp) (fun p hp=>by cases hp) (by simp) (by simp[I7.blk]) (fun g hg=>by simp[I7.blk] at hg)
  (fun f b hb=>by
   rcases hb with⟨hb,_⟩|rfl
   ·refine⟨by simp[I7.blk],hb.2.1,hb.2.2,fun id dj=>?_⟩
    obtain⟨j1,j2,j3⟩:=Wv (hc.left id) dj
    have:=Auo hc (hb.1 id j1) (γ id)
    rw[this] at dj
    cases dj
   ·refine⟨by simp[I7.blk],fun hb=>by have:=hB _ hb;omega,fun _=>ba,fun id dj=>?_⟩
    have:=Aav h (Wv (hc.left id) dj).1
    omega)
  (fun K' E hp p iu=>by cases iu)
 have ak:Da (I7.ups []) (Da c.ups S.objs)=Da c.ups S.objs:=rfl
 rw[ak] at r1 r2
 have ar:∀ (f:Bool) (b:Nat),okL K S γ c f b→b<w.heap.size→(A3 K (Da c.ups S.objs) ah γ' w').ok f b:=fun f b hb hl=>r2.ok _ _ (.inl ⟨hb,hl⟩)
 have dn:∀ f g b,(g=true→f=true)→(A3 K (Da c.ups S.objs) ah γ' w').ok f b→(A3 K (Da c.ups S.objs) ah γ' w').ok g b:=Ad0 K _ _ _ _
 have hw:∀ {f:Bool} {u:Ty} {cs:List Value} {z:u.den},DR w (okL K S γ c f) u cs z→DR w' ((A3 K (Da c.ups S.objs) ah γ' w').ok f) u cs z:=fun hd =>
  DR.move (fun b hl hb=>⟨ar _ b hb hl,p2 b hl⟩) hd
 have hd:DR w' ((A3 K (Da c.ups S.objs) ah γ' w').ok (mh&&(fa||t.flat))) (.slice t) [v'] (List.append xs ys):=by
  rcases q2 with⟨h0,rfl,_⟩ | ⟨h0,cap,cells,h1,h2,h3,h4,rfl,rfl⟩
  ·have:ys=[]:=af7 h0
   subst this
   rw[show List.append xs []=xs from ah9 xs]
   exact (hw hx).mono fun b=>dn _ _ b (by simp only[aa5];exact fun h=>h.1)
  ·refine⟨some ⟨w.heap.size,0,none⟩,cap,by simp,by simpa using h1,h2,(fun h=>by cases h),olds++news,?_,fun _=>⟨_,rfl,r2.ok _ _ (.inr rfl),fun j v hj=>?_⟩⟩
   ·refine B7.append ?_ ?_
    ·exact hxo.mono fun _ _ hd=>(hw hd).mono fun b=>dn _ _ b (by simp only[aa5];exact fun h=>h.1)
    ·cases rf:t.flat with
     | true=>exact n6.mono fun _ _ hd=>DR.flat rf (hw (hd.mono fun b hb=>Agt (fun h=>h) b hb))
     | false =>
      refine n6.mono fun _ _ hd=>(hw (hd.mono fun b hb=>Agt (c:=c) (fun h=>h) b hb)).mono fun b=>dn _ _ b ?_
      simp only[aa5,at0];exact fun hf=>hf.2
   ·rw[← h4] at hj
    have:=Ab7 (aq3 w.drew (.cells cells e)) 0 ((List.length xs+List.length ys)*t.size) j v (by rw[ag0];exact hj)
    simpa using this
 refine⟨_,_,w',ah,γ',kp,.inl rfl,?_,r1,fun id v hv=>?_⟩
 ·have sf:Ck v'=false:=by rcases q2 with⟨_,rfl,_⟩ | ⟨_,_,_,_,_,_,_,rfl,_⟩<;>rfl
  have f9:v'.cells.toList=[v']:=Bm sf
  refine⟨by rw[f9];exact hd,sf.symm⟩
 ·rcases r3 id v hv with hv | ⟨p,hp,_⟩
  ·exact .inl ⟨v,hv⟩
  ·cases hp
theorem Bim(h:Gd K S used γ a w)(hB:∀ b,K.B b→b<K.base)(bw:∀ v,¬ used base v){T:TypeId}{t:Ty}{x y:Operand}
  (ho:o.op=.call { callee:=.builtin .append,args:=#[x,y],argTypes:=#[T,T] }) (hx:A1 x=true) (hy:A1 y=true) (hT:U2 K.P (.slice t) T=true)
  (hl:A6 K.C S.objs (Bku (S.eval x) (S.eval y) t base) [] (v,u) l):Qm K S used γ a w o v u base:=by
 have ip:=Bo h x hx
 have ml:=Bo h y hy
 obtain⟨e,ht,he⟩:=H6 hT
 obtain⟨i,z,hi,cd,gd,hz,i9,_⟩:=Ku (Uv he)
 have iw:z.cells.size=i.size:=by rw[← ac9,i9,E7,cd]
 have ba:K.base≤w.heap.size:=h.frame.size
 have jd:∀ {fr:Bool} {ys:List t.den} (hs:SlR w (Ahh K (Ak S.objs) γ fr) t [a.eval y] ys),∃ ad cap news,a.eval y=.slice ad (List.length ys) cap∧news.length=List.length ys*t.size∧(ad=none→List.length ys=0) ∧
   (∀ b,ad=some b→∀ j v,news[j]?=some v→w.cell? (b.add j)=some v)∧(∀ v∈news,v.oneCell'=true)∧B7 (DR w (Ahh K (Ak S.objs) γ fr) t) t.size news ys:=by
  rintro fr ys ⟨ad,cap,news,e1,e2,e3,e4,e5,e6⟩
  refine⟨ad,cap,news,by simpa using e1,e5.length,fun hn=>by have:=e4 hn;omega,e6,?_,e5⟩
  exact DR.one (t:=.arr (List.length ys) t) ⟨rfl,e5⟩
 unfold Bku at hl
 split at hl
 ·rename_i id ab heq
  obtain⟨ob,ak,hl⟩:=hl
  dsimp only at hl
  split at hl
  ·rename_i af fr u' rows
   split at hl
   ·rename_i old h1 rd
    obtain rfl:=ab1 h1
    obtain⟨e1,rfl⟩:=Cu rd
    cases e1
    have gm:=Akt hl
    obtain⟨fa,ys,c',l1,hl,hag,bo⟩:=Ayf h hl
    obtain⟨hr,hl⟩:=C7 hl
    obtain⟨r1,r2,r3⟩:=Ze hr
    obtain⟨e1,_⟩:=hl;cases e1
    rw[heq] at ip
    obtain⟨ll,m9,aq⟩:=Ar5 ip
    have aq:a.eval x=γ id:=aq t _ (Fp _ af fr t rows (.inl ak))
    have gw:Ev (A3 K S.objs used γ w) (S.eval y) (a.eval y):=Zk gm ml
    have tx:(a.eval y).cells.toList=[a.eval y]:=Bm (by rw[← gw.2,hag])
    have bo:=bo [a.eval y] (by rw[← tx];exact gw.1)
    obtain⟨ad,cap,news,n1,n2,n3,n4,n5,n6⟩:=jd bo
    obtain⟨e',olds,hs,xj⟩:=Cb0 h e ak
    obtain⟨v',w',q1,q2⟩:=Bl9 (P:=K.P) w T o.type e e' i z ht hi hz iw (γ id) (List.length rows) olds (by
     rcases hs with hs | ⟨g,cap,cur,k1,k2,k3,k4,k5,k6,_⟩
     ·exact .inl hs
     ·exact .inr ⟨g,cap,cur,k1,k2,k3,k4,by rw[cd];exact k5,by rw[cd];exact k6⟩) ad (List.length ys) cap news (by rw[cd];exact n2) n3 n4 n5 (by omega)
     (af2 (ae8 _ gd) (by simpa [aa4] using r3))
    rw[cd] at q2
    exact Bq6 h hB ak ⟨_,ll⟩ hs xj n6 q2 (Arh ho (by rw[aq,n1];exact q1))
   ·exact hl.elim
  ·exact hl.elim
 ·rename_i heq
  have gm:=Akt hl
  obtain⟨fa,ys,c',l1,hl,hag,bo⟩:=Ayf h hl
  obtain⟨hr,hl⟩:=C7 hl
  obtain⟨r1,r2,r3⟩:=Ze hr
  obtain⟨e1,_⟩:=hl;cases e1
  rw[heq] at ip
  have aq:a.eval x=.slice none 0 0:=by
   obtain⟨k1,k2⟩:=(show Ev _ .nils _ from ip)
   rw[Bm k2.symm] at k1
   simpa [ARc] using k1
  have gw:Ev (A3 K S.objs used γ w) (S.eval y) (a.eval y):=Zk gm ml
  have tx:(a.eval y).cells.toList=[a.eval y]:=Bm (by rw[← gw.2,hag])
  have bo:=bo [a.eval y] (by rw[← tx];exact gw.1)
  obtain⟨ad,cap,news,n1,n2,n3,n4,n5,n6⟩:=jd bo
  obtain⟨v',w',q1,q2⟩:=Bl9 (P:=K.P) w T o.type e e i z ht hi hz iw (.slice none 0 0) 0 [] (.inl ⟨rfl,rfl,rfl⟩) ad (List.length ys) cap news (by rw[cd];exact n2) n3 n4 n5 (by omega)
   (af2 (ae8 _ gd) (by simpa using r3))
  rw[cd] at q2
  exact Bh2 h hB bw n6 q2 (Arh ho (by rw[aq,n1];exact q1))
 ·rename_i id ab lo1 sh cp heq
  cases cp with
  | false=>exact hl.elim
  | true =>
   have hl:A6 K.C S.objs (Wk (.view id ab lo1 sh true) t ⟨[],[]⟩ true fun mh old c=>Wk (S.eval y) t ⟨[],[]⟩ false fun fa new _ =>
    .chk (A8 (List.length old+List.length new) t) (.done (.d (mh&&(fa||t.flat)) (.slice t) (List.append old new),c.ups))) [] (v,u) l:=hl
   have vv:=hl
   obtain⟨mh,xs,c,l1,hl,c1,c2,c3,c4,c5⟩:=Hl h (Xr.start S true) hl
   have gm:=Akt hl
   obtain⟨fa,ys,c',l2,hl,hag,bo⟩:=Ayf h hl
   obtain⟨hr,hl⟩:=C7 hl
   obtain⟨r1,r2,r3⟩:=Ze hr
   obtain⟨e1,_⟩:=hl;cases e1
   rw[heq] at ip
   obtain⟨nx,rv⟩:=(show Ev (A3 K S.objs used γ w) (.view id ab lo1 sh true) (a.eval x) from ip)
   have hxc:(a.eval x).cells.toList=[a.eval x]:=Bm (by rw[← rv];rfl)
   rw[hxc] at nx
   have hd:=c5 _ nx
   obtain⟨tz,t7,d1,d2,d3,d4,olds,d5,d6⟩:=hd
   have ln:a.eval x=.slice tz (List.length xs) (List.length xs):=by
    have kt:∃ t n,Ahd (Ak S.objs id) ab t n:=by
     have db:=vv
     unfold Wk at db
     dsimp only[Anf,an8] at db
     obtain⟨ob,ak,db⟩:=db
     dsimp only at db
     split at db
     ·rename_i af fr u' rows
      split at db
      ·rename_i y h1 hy
       obtain rfl:=ab1 h1
       exact⟨u',_,Fp _ af fr u' rows (.inl ak)⟩
      ·exact db.elim
     ·rename_i af fr u' rows
      split at db
      ·rename_i y h1 hy
       obtain rfl:=ab1 h1
       exact⟨u',_,Fp _ af fr u' rows (.inr ak)⟩
      ·exact db.elim
     ·exact db.elim
    obtain⟨t0,n0,kt⟩:=kt
    obtain⟨_,v0,ct,_,nc⟩:=nx
    obtain⟨_,_,ad1,cc1,e5,_,_,_,_,e6⟩:=nc t0 n0 kt
    have e6:=e6 rfl
    cases ct
    have d1:a.eval x=.slice tz (List.length xs) t7:=by simpa using d1
    rw[e5] at d1 ⊢
    simp only[Value.slice.injEq] at d1
    rw[d1.1,d1.2.1,e6,d1.2.1]
   have gw:Ev (A3 K S.objs used γ w) (S.eval y) (a.eval y):=Zk gm ml
   have tx:(a.eval y).cells.toList=[a.eval y]:=Bm (by rw[← gw.2,hag])
   have bo:=bo [a.eval y] (by rw[← tx];exact gw.1)
   obtain⟨ad,cap,news,n1,n2,n3,n4,n5,n6⟩:=jd bo
   have hd:=c5 _ nx
   rw[ln] at hd
   obtain⟨v',w',q1,q2⟩:=Bbv (P:=K.P) w T o.type e i z ht hi hz iw tz (List.length xs) olds (by rw[cd];exact d5.length) (fun hn=>by have:=d4 hn;omega)
    (fun b hb j v hj=>by
     have bm:olds≠[]:=by rintro rfl;simp at hj
     obtain⟨a',k1,_,k3⟩:=d6 bm
     rw[hb] at k1;cases k1
     exact k3 j v hj) ad (List.length ys) cap news (by rw[cd];exact n2) n3 n4 r2 (af2 (ae8 _ gd) (by simpa using r3))
   rw[cd] at q2
   exact Cdn h hB c1 c3 r1 r2 hd d5 n6 q2 (Arh ho (by rw[ln,n1];exact q1))
 ·exact hl.elim
theorem Bwf(h:Gd K S used γ a w)(hB:∀ b,K.B b→b<K.base)(bw:∀ v,¬ used base v){T:TypeId}{t:Ty}{x y:Operand}
  (ho:o.op=.call { callee:=.builtin .append,args:=#[x,y],argTypes:=#[T,T] }) (hx:A1 x=true) (hy:A1 y=true) (hT:U2 K.P (.slice t) T=true)
  (hl:A6 K.C S.objs (Btb (S.eval x) (S.eval y) t base) [] (v,u) l):Qm K S used γ a w o v u base:=by
 unfold Btb at hl
 split at hl
 case h_2=>exact Bim h hB bw ho hx hy hT hl
 rename_i id ab lo1 sh heq
 have ip:=Bo h x hx
 have ml:=Bo h y hy
 obtain⟨e,ht,he⟩:=H6 hT
 obtain⟨i,z,hi,cd,gd,hz,i9,_⟩:=Ku (Uv he)
 have iw:z.cells.size=i.size:=by rw[← ac9,i9,E7,cd]
 have vv:=hl
 obtain⟨mh,xs,c,l1,hl,ba2,aw2⟩:=Ayf h hl
 have gm:=Akt hl
 obtain⟨fa,ys,c',l2,hl,hag,bo⟩:=Ayf h hl
 obtain⟨hr,hl⟩:=C7 hl
 simp only[aa5,ac4] at hr
 obtain⟨wr,hr⟩:=hr
 obtain⟨r1,r2,r3⟩:=Ze hr
 obtain⟨e1,_⟩:=hl;cases e1
 rw[heq] at ip
 obtain⟨nx,rv⟩:=(show Ev (A3 K S.objs used γ w) (.view id ab lo1 sh true) (a.eval x) from ip)
 have hxc:(a.eval x).cells.toList=[a.eval x]:=Bm (by rw[← rv];rfl)
 rw[hxc] at nx
 obtain⟨tz,t7,olds,d1,d2,d3,d4,d5,d6⟩:=aw2 [a.eval x] nx
 have ln:a.eval x=.slice tz (List.length xs) (List.length xs):=by
  have kt:∃ t n,Ahd (Ak S.objs id) ab t n:=by
   have db:=vv
   unfold Wk at db
   dsimp only[Anf,an8] at db
   obtain⟨ob,ak,db⟩:=db
   dsimp only at db
   split at db
   ·rename_i af fr u' rows
    split at db
    ·rename_i y h1 hy
     obtain rfl:=ab1 h1
     exact⟨u',_,Fp _ af fr u' rows (.inl ak)⟩
    ·exact db.elim
   ·rename_i af fr u' rows
    split at db
    ·rename_i y h1 hy
     obtain rfl:=ab1 h1
     exact⟨u',_,Fp _ af fr u' rows (.inr ak)⟩
    ·exact db.elim
   ·exact db.elim
  obtain⟨t0,n0,kt⟩:=kt
  obtain⟨_,v0,ct,_,nc⟩:=nx
  obtain⟨_,_,ad1,cc1,e5,_,_,_,_,e6⟩:=nc t0 n0 kt
  have e6:=e6 rfl
  cases ct
  have d1:a.eval x=.slice tz (List.length xs) t7:=by simpa using d1
  rw[e5] at d1 ⊢
  simp only[Value.slice.injEq] at d1
  rw[d1.1,d1.2.1,e6,d1.2.1]
 have gw:Ev (A3 K S.objs used γ w) (S.eval y) (a.eval y):=Zk gm ml
 have tx:(a.eval y).cells.toList=[a.eval y]:=Bm (by rw[← gw.2,hag])
 obtain⟨ad,cap,news,n1,n2,n3,n4,n5,n6⟩:=bo [a.eval y] (by rw[← tx];exact gw.1)
 have n1:a.eval y=.slice ad (List.length ys) cap:=by simpa using n1
 have mn:∀ v∈news,v.oneCell'=true:=DR.one (t:=.arr (List.length ys) t) ⟨rfl,n5⟩
 obtain⟨v',w',q1,q2⟩:=Bbv (P:=K.P) w T o.type e i z ht hi hz iw tz (List.length xs) olds (by rw[cd];exact d5.length) (fun hn=>by have:=d4 hn;omega) d6 ad (List.length ys) cap news (by rw[cd];exact n5.length) (fun hn=>by have:=n4 hn;omega) n6 r2 (af2 (ae8 _ gd) (by simpa using r3))
 rw[cd] at q2
 rcases q2 with⟨h0,_⟩ | ⟨_,G,cells,h1,h2,h3,h4,rfl,rfl⟩
 ·omega
 have ew:B7 (DR w (Ahh K (Ak S.objs) γ (mh&&fa)) t) t.size (olds++news) (List.append xs ys) :=
  (d5.mono fun _ _ hd=>hd.mono fun b hb=>Bkw (by simp only[aa5];exact fun h=>h.1) b hb).append (n5.mono fun _ _ hd=>hd.mono fun b hb=>Bkw (by simp only[aa5];exact fun h=>h.2) b hb)
 have ag:List.length (List.append xs ys)=List.length xs+List.length ys:=aa4
 have hG:Aqu w t.size e (.slice none 0 0) 0 (List.length (List.append xs ys)) [] (olds++news) (.slice (some ⟨w.heap.size,0,none⟩) (List.length xs+List.length ys) G) (w.drew.alloc (.cells cells e)):=by
  have:=Aqu.fresh (w:=w) (size:=t.size) (e:=e) (s:=.slice none 0 0) (n:=0) (m:=List.length (List.append xs ys)) (olds:=[]) (news:=olds++news) G cells (by rw[ag];omega) h2 h3 (by rw[ag,af1];exact h4)
  rw[af1,ag] at this
  rw[ag]
  exact this
 exact Bh2 h hB bw ew hG (Arh ho (by rw[ln,n1];exact q1))
end
end Go.Pon
namespace Go.Pon
open Go
theorem Bar{z:Array Value}{zs:List Value}(hz:z.toList=zs)(k:Nat):(madeCells z (k*z.size)).toList=(List.replicate k zs).flatten:=by
 subst hz
 induction k with
 | zero=>simp[madeCells]
 | succ k ih =>
  have e:(madeCells z ((k+1)*z.size)).toList=(madeCells z (k*z.size)).toList++z.toList:=by
   apply List.ext_getElem?
   intro j
   have f8:((madeCells z (k*z.size)).toList).length=k*z.size:=by simp[madeCells]
   rcases ad3 j (k*z.size) with h|h
   ·rw[ag9 (by rw[f8];exact h)]
    have h':j<(k+1)*z.size:=by rw[ae4];omega
    simp[madeCells,h,h']
   ·rw[af5 (by rw[f8];exact h),f8]
    rcases ad3 j ((k+1)*z.size) with h2|h2
    ·have hj:j-k*z.size<z.size:=by rw[ae4] at h2;omega
     have hm:j % z.size=j-k*z.size:=by
      have:j=(j-k*z.size)+k*z.size:=by omega
      rw[this,Nat.add_mul_mod_self_right,ac8 hj]
      omega
     simp only[madeCells,ai7,Array.getElem?_map]
     rw[Array.getElem?_eq_getElem (by simpa using h2)]
     simp only[Array.getElem_range,am2,hm]
     rw[getElem!_pos z _ hj,Array.getElem?_eq_getElem hj]
    ·have hj:¬ j-k*z.size<z.size:=by rw[ae4] at h2;omega
     simp only[madeCells,ai7,Array.getElem?_map]
     rw[Array.getElem?_eq_none (by simpa using h2),Array.getElem?_eq_none (by omega)]
     rfl
  rw[e,ih,List.replicate_succ',as7]
  simp
theorem Bm1(z:Array Value)(n:Nat):Builtin.zeroCells z n=madeCells z (n*z.size):=rfl
section
variable {K:Dg} {S:St} {used:Id→Nat→Prop} {γ:Id→Value} {a:Act} {w:World} {o:Oper} {base:Id} {v:AV} {u:Pm} {l:List Id}
theorem Cka(h:Gd K S used γ a w)(hB:∀ b,K.B b→b<K.base)(bw:∀ v,¬ used base v){t:Ty}{rows:List t.den}{cap:Nat}{cells:Array Value}{e:TypeId}{w1:World}(xk:w1=w∨w1=w.drew)
  (h1:List.length rows≤cap) (h2:cap≤maxLen) (h3:cells.size=cap*t.size) (h4:B7 (DR w (Ahh K (Ak S.objs) γ true) t) t.size (cells.toList.take (List.length rows*t.size)) rows)
  (kp:(execOp a.eval o).run K.P w=.ok (.value (.slice (some ⟨w.heap.size,0,none⟩) (List.length rows) cap)) (w1.alloc (.cells cells e))) :
  Qm K S used γ a w o (.own base 0) [(base,some (.sli 0 true t rows))] base:=by
 have ba:K.base≤w.heap.size:=h.frame.size
 have ku:w1.heap=w.heap∧w1.os=w.os∧w1.tape=w.tape∧w1.output=w.output:=by rcases xk with rfl|rfl<;>exact⟨rfl,rfl,rfl,rfl⟩
 have gj:(w1.alloc (.cells cells e)).heap[w.heap.size]?=some (.cells cells e (0,0)):=by
  have:=aq3 w1 (.cells cells e)
  rw[ku.1] at this
  exact this
 have dx:∀ b,b<w.heap.size→(w1.alloc (.cells cells e)).heap[b]?=w.heap[b]?:=fun b hb=>by
  rw[Aq3 w1 _ b (by rw[ku.1];exact hb),ku.1]
 have bp:w.heap.size≤(w1.alloc (.cells cells e)).heap.size:=by simp[ku.1]
 have bd:=h.new (w':=w1.alloc (.cells cells e)) (id:=base) (o:=.sli 0 true t rows) (hv:=.slice (some ⟨w.heap.size,0,none⟩) (List.length rows) cap) bw (fun g hg=>by
   simp[Bc] at hg
   exact⟨hg.symm,fun hb=>by have:=hB _ hb;omega⟩) bp dx
  ⟨(by show w1.os=_;rw[ku.2.1];exact h.frame.os),(by show w1.tape=_;rw[ku.2.2.1];exact h.frame.tape),(by show w1.output=_;rw[ku.2.2.2];exact h.frame.output),af2 h.frame.size bp,
   fun b hb ck=>by rw[dx b (ae3 hb ba)];exact h.frame.block b hb ck⟩
  (fun E' dl hE=>by
   have jq:E'.w=w1.alloc (.cells cells e):=by rw[hE];rfl
   have hγ:E'.γ base=.slice (some ⟨w.heap.size,0,none⟩) (List.length rows) cap:=by rw[hE];exact aa0 rfl
   refine .inr ⟨w.heap.size,cap,cells,e,hγ,by rw[jq];exact gj,h1,h2,h3,?_,fun _=>ba⟩
   exact h4.mono fun _ _ hd=>DR.move (fun b hb ho=>dl.ok true b hb ho) hd)
 refine⟨_,_,_,_,_,kp,.inl rfl,?_,bd,?_⟩
 ·exact Df (a:=.own base 0) ⟨.inr ⟨rfl,rfl⟩,_,rfl,rfl,fun _ _ _=>(aa0 rfl:upd γ base (Value.slice (some ⟨w.heap.size,0,none⟩) (List.length rows) cap) base=_).symm⟩ rfl rfl
 ·rintro j7 v2 (km | ⟨rfl,rfl⟩)
  ·exact .inl ⟨v2,km⟩
  ·exact .inr ⟨rfl,rfl⟩
theorem Cf9(h:Gd K S used γ a w)(hB:∀ b,K.B b→b<K.base)(bw:∀ v,¬ used base v){t:Ty}{rows:List t.den}{cells:Array Value}{e:TypeId}{w1:World}(xk:w1=w∨w1=w.drew)
  (h2:List.length rows≤maxLen) (h3:cells.size=List.length rows*t.size) (h4:B7 (DR w (Ahh K (Ak S.objs) γ true) t) t.size (cells.toList.take (List.length rows*t.size)) rows)
  (kp:(execOp a.eval o).run K.P w=.ok (.value (.slice (some ⟨w.heap.size,0,none⟩) (List.length rows) (List.length rows))) (w1.alloc (.cells cells e))) :
  Qm K S used γ a w o (.view base 0 0 (List.length rows) true) [(base,some (.sli 0 true t rows))] base:=by
 have ba:K.base≤w.heap.size:=h.frame.size
 have ku:w1.heap=w.heap∧w1.os=w.os∧w1.tape=w.tape∧w1.output=w.output:=by rcases xk with rfl|rfl<;>exact⟨rfl,rfl,rfl,rfl⟩
 have gj:(w1.alloc (.cells cells e)).heap[w.heap.size]?=some (.cells cells e (0,0)):=by
  have:=aq3 w1 (.cells cells e)
  rw[ku.1] at this
  exact this
 have dx:∀ b,b<w.heap.size→(w1.alloc (.cells cells e)).heap[b]?=w.heap[b]?:=fun b hb=>by
  rw[Aq3 w1 _ b (by rw[ku.1];exact hb),ku.1]
 have bp:w.heap.size≤(w1.alloc (.cells cells e)).heap.size:=by simp[ku.1]
 have bd:=h.new (w':=w1.alloc (.cells cells e)) (id:=base) (o:=.sli 0 true t rows) (hv:=.slice (some ⟨w.heap.size,0,none⟩) (List.length rows) (List.length rows)) bw (fun g hg=>by
   simp[Bc] at hg
   exact⟨hg.symm,fun hb=>by have:=hB _ hb;omega⟩) bp dx
  ⟨(by show w1.os=_;rw[ku.2.1];exact h.frame.os),(by show w1.tape=_;rw[ku.2.2.1];exact h.frame.tape),(by show w1.output=_;rw[ku.2.2.2];exact h.frame.output),af2 h.frame.size bp,
   fun b hb ck=>by rw[dx b (ae3 hb ba)];exact h.frame.block b hb ck⟩
  (fun E' dl hE=>by
   have jq:E'.w=w1.alloc (.cells cells e):=by rw[hE];rfl
   have hγ:E'.γ base=.slice (some ⟨w.heap.size,0,none⟩) (List.length rows) (List.length rows):=by rw[hE];exact aa0 rfl
   refine .inr ⟨w.heap.size,List.length rows,cells,e,hγ,by rw[jq];exact gj,ab4 _,h2,h3,?_,fun _=>ba⟩
   exact h4.mono fun _ _ hd=>DR.move (fun b hb ho=>dl.ok true b hb ho) hd)
 refine⟨_,_,_,_,_,kp,.inl rfl,?_,bd,?_⟩
 ·refine Df (a:=.view base 0 0 (List.length rows) true) ⟨.inr ⟨rfl,rfl⟩,_,rfl,rfl,fun t' n' bo=>?_⟩ rfl rfl
  have bo:Ahd (Ak ((base,some (Obj.sli 0 true t rows))::S.objs) base) 0 t' n':=bo
  rw[Mp,aa0 rfl] at bo
  obtain⟨f2,r2,k1,k2⟩:=bo
  rcases k2 with k2|k2
  ·cases k2
   exact⟨ac2 _,by omega,_,_,rfl,ab4 _,h2,(fun h=>by cases h),fun _=>⟨w.heap.size,_,_,(aa0 rfl:upd γ base (Value.slice (some ⟨w.heap.size,0,none⟩) (List.length rows) (List.length rows)) base=_),by rw[al9]⟩,fun _=>rfl⟩
  ·cases k2
 ·rintro j7 v2 (km | ⟨rfl,rfl⟩)
  ·exact .inl ⟨v2,km⟩
  ·exact .inr ⟨rfl,rfl⟩
theorem Btg(h:Gd K S used γ a w)(hB:∀ b,K.B b→b<K.base)(bw:∀ v,¬ used base v){T:TypeId}{x y:Operand}(ho:o.op=.makeSlice T x y){t:Ty}(hT:U2 K.P (.slice t) T=true){k k':IntKind}{lo:Int}
  (hx:a.eval x=.int k lo) (hy:a.eval y=.int k' lo) (h0:0≤lo) (hr:A8 lo.toNat t=true):Qm K S used γ a w o (.view base 0 0 lo.toNat true) [(base,some (.sli 0 true t (List.replicate lo.toNat t.zero)))] base:=by
 obtain⟨e,ht,he⟩:=H6 hT
 obtain⟨i,z,hi,cd,gd,hz,i9,_⟩:=Ku (Uv he)
 have iw:z.cells.size=t.size:=by rw[← ac9,i9,E7]
 obtain⟨r1,r2,r3⟩:=Ze hr
 have cw:=run_make (P:=K.P) w T e i z ht hi hz k k' lo lo h0 (ap5 _) (by
  have h1:lo.toNat*i.bytes≤lo.toNat*(24*t.size):=ae8 _ gd
  have h2:((lo.toNat*i.bytes:Nat):Int)≤140737488355328:=by omega
  rw[ap1,as8 (by omega)] at h2
  rw[Int.mul_comm];omega) (by simp only[maxLen] at r2;omega)
 have ew:=Bar i9 lo.toNat
 rw[iw] at ew
 rw[cd] at cw
 have ag:(List.replicate lo.toNat t.zero).length=lo.toNat:=by simp
 have:=Cf9 (rows:=List.replicate lo.toNat t.zero) h hB bw (cells:=madeCells z.cells (lo.toNat*t.size)) (e:=e) (o:=o) (.inl rfl) (by rw[ag];exact r2) (by rw[ag];exact size_madeCells _ _) (by
   rw[ew,ag,aa8 (by simp[E7])]
   exact B7.replicate (E7 t) (DR.zero t) _)
  (by rw[ag];simp only[execOp,ho,hx,hy,ac7,cw,ab7,af3])
 rw[ag] at this
 exact this
theorem Bpm(h:Gd K S used γ a w)(hB:∀ b,K.B b→b<K.base)(bw:∀ v,¬ used base v){T:TypeId}{x y:Operand}(ho:o.op=.makeSlice T x y){t:Ty}(hT:U2 K.P (.slice t) T=true){k k':IntKind}{lo c:Int}
  (hx:a.eval x=.int k lo) (hy:a.eval y=.int k' c) (h0:0≤lo) (hlc:lo≤c) (hr:A8 c.toNat t=true):Qm K S used γ a w o (.own base 0) [(base,some (.sli 0 true t (List.replicate lo.toNat t.zero)))] base:=by
 obtain⟨e,ht,he⟩:=H6 hT
 obtain⟨i,z,hi,cd,gd,hz,i9,_⟩:=Ku (Uv he)
 have iw:z.cells.size=t.size:=by rw[← ac9,i9,E7]
 obtain⟨r1,r2,r3⟩:=Ze hr
 have cw:=run_make (P:=K.P) w T e i z ht hi hz k k' lo c h0 hlc (by
  have h1:c.toNat*i.bytes≤c.toNat*(24*t.size):=ae8 _ gd
  have h2:((c.toNat*i.bytes:Nat):Int)≤140737488355328:=by omega
  rw[ap1,as8 (by omega)] at h2
  rw[Int.mul_comm];omega) (by simp only[maxLen] at r2;omega)
 have ew:=Bar i9 c.toNat
 rw[iw] at ew
 rw[cd] at cw
 have ag:(List.replicate lo.toNat t.zero).length=lo.toNat:=by simp
 refine Cka h hB bw (cap:=c.toNat) (cells:=madeCells z.cells (c.toNat*t.size)) (e:=e) (.inl rfl) (by rw[ag];omega) r2 (size_madeCells _ _) ?_ (by rw[ag];simp only[execOp,ho,hx,hy,ac7,cw,ab7,af3])
 rw[ew,ag]
 have e1:((List.replicate c.toNat (Po t)).flatten).take (lo.toNat*t.size)=(List.replicate lo.toNat (Po t)).flatten:=by
  have:c.toNat=lo.toNat+(c.toNat-lo.toNat):=by omega
  rw[this,← List.replicate_append_replicate,as7]
  refine List.take_left' ?_
  simp[E7]
 rw[e1]
 exact B7.replicate (E7 t) (DR.zero t) _
theorem Bxv{P:Program}(w:World)(t tn ty e e':TypeId)(i:TypeInfo)(z:Value)(kn kq:IntKind)(ht:P.underlying t=some (.slice e))(xl:P.underlying tn=some (.int kn))(hi:P.info? e=some i)(hz:i.zero=some z)(iw:z.cells.size=i.size)(dr:0<i.size)
  (h1:∀ u∈z.cells.toList,u.oneCell'=true)
  (s:Value) (n:Nat) (olds:List Value) (hs:(s=.slice none 0 0∧n=0∧olds=[])∨∃ g cap cur,s=.slice (some ⟨g,0,none⟩) n cap∧w.heap[g]?=some (.cells cur e' (0,0))∧n≤cap∧cap≤maxLen∧cur.size=cap*i.size ∧
   cur.toList.take (n*i.size)=olds) (m:Nat) (qr:n+m≤maxLen) (ef:(n+m)*i.bytes≤140737488355328) :
  ∃ v' w',(Builtin.append_ #[t,tn] ty #[s,.int kq m]).run P w=.ok v' w'∧Aqu w i.size e s n m olds (List.replicate m z.cells.toList).flatten v' w':=by
 have hw:IntKind.i64.wrap (m:Int)=m:=by rw[as3];simp only[maxLen] at qr;omega
 have t8:¬ ((m:Int)<0):=by omega
 have vr:m*i.bytes≤(n+m)*i.bytes:=ac6 _ (by omega)
 have t9:¬ (281474976710656<(m:Int)*(i.bytes:Int)):=by
  rw[← ap1]
  omega
 have cy:((List.replicate m z.cells.toList).flatten).length=m*i.size:=by simp[iw]
 have i9:(Builtin.zeroCells z.cells m).toList=(List.replicate m z.cells.toList).flatten:=by rw[Bm1];exact Bar rfl m
 have one:∀ u∈(List.replicate m z.cells.toList).flatten,u.oneCell'=true:=fun u hu=>by
  obtain⟨l,hl,hu⟩:=List.mem_flatten.1 hu
  rw[ap9 hl] at hu
  exact h1 u hu
 have gg:∀ (old:Nat),olds.length=n*i.size →
   Aqu w i.size e s n m olds (List.replicate m z.cells.toList).flatten (.slice (some ⟨w.heap.size,0,none⟩) (n+m) (grownCap w (n+m) old e)) (w.drew.alloc (.cells (olds.toArray++Builtin.zeroCells z.cells m++Builtin.zeroCells z.cells (grownCap w (n+m) old e-(n+m))) e)):=by
  intro old i7
  have lk:=grownCap_ge w (n+m) old e
  have ag:(olds++(List.replicate m z.cells.toList).flatten).length=(n+m)*i.size:=by rw[aa4,i7,cy,ae4]
  refine .fresh _ _ lk (grownCap_le_maxLen w (n+m) old e qr) ?_ ?_
  ·simp only[Array.size_append,ar6,size_zeroCells,iw,i7,← ae4]
   congr 1
   omega
  ·simp only[Array.toList_append,ab6,i9]
   rw[← ab6,← ag]
   exact List.take_left
 by_cases hm:m=0
 ·subst hm
  rcases hs with⟨rfl,rfl,rfl⟩ | ⟨g,cap,cur,rfl,hg,mu,hcm,er,et⟩
  ·refine⟨_,_,?_,.none rfl rfl rfl⟩
   simp[Builtin.append_,ab9 ht,ab9 xl,sizeOf,typeInfo,hi,Go.asInt,asIntOf,as3]
  ·have dz:n*i.size≤cur.size:=by rw[er];exact ac6 _ mu
   refine⟨_,_,?_,.room g cap cur e' hg rfl (by simpa using mu) (by simpa using dz)⟩
   have ci:=ar5 P g (n*i.size) e' [] 0 cur w hg (by simpa using dz) (by simp)
   simp only[af6] at ci
   simp[Builtin.append_,ab9 ht,ab9 xl,sizeOf,typeInfo,hi,Go.asInt,asIntOf,as3,mu,Addr.add_lit,ci,Gl]
 ·have hns:¬ (m=0∨i.size=0):=by omega
  have hms:¬ (m*i.size=0):=Nat.mul_ne_zero hm (by omega)
  rcases hs with⟨rfl,rfl,rfl⟩ | ⟨g,cap,cur,rfl,hg,mu,hcm,er,et⟩
  ·refine⟨_,_,?_,gg 0 (by simp)⟩
   have hm0:¬ m=0:=hm
   have ua:¬ (9223372036854775807<(m:Int)):=by simp only[maxLen] at qr;omega
   have uc:¬ (281474976710656<Builtin.nextslicecap m 0*i.bytes):=by
    have:=growslice_fits (need:=m) (old:=0) (bytes:=i.bytes) (by omega) (by simpa using ef)
    omega
   simp[Builtin.append_,ab9 ht,ab9 xl,sizeOf,typeInfo,zeroValue,hi,hz,Go.asInt,asIntOf,hw,hm0,t8,hms,ua,uc,t9,Question.forced,run_firstCells_none,newRow,grownCap]
  ·have i7:olds.length=n*i.size:=by
    rw[← et,ab2,ac9,er]
    exact ad8 (ac6 _ mu)
   by_cases dc:n+m≤cap
   ·have dz:n*i.size+((List.replicate m z.cells.toList).flatten).length≤cur.size:=by rw[cy,er,← ae4];exact ac6 _ dc
    refine⟨_,_,?_,.room g cap cur e' hg rfl dc dz⟩
    have ci:=ar5 P g (n*i.size) e' _ 0 cur w hg (by simpa using dz) one
    simp only[af6] at ci
    simp[Builtin.append_,ab9 ht,ab9 xl,sizeOf,typeInfo,zeroValue,hi,hz,Go.asInt,asIntOf,hw,t8,hms,t9,dc,Addr.add_lit,i9,ci,Gl]
   ·have holds:∀ j u,olds[j]?=some u→w.drew.cell? ((⟨g,0,none⟩:Addr).add j)=some u:=fun j u hj=>by
     have:=Ab7 hg 0 (n*i.size) j u (by rw[ag0,et];exact hj)
     exact this
    have tl:=run_firstCells_some (P:=P) w.drew i.size n ⟨g,0,none⟩ n cap olds i7 holds
    refine⟨_,_,?_,gg cap i7⟩
    have hn:¬ (n+m≤cap):=dc
    have ua:¬ (9223372036854775807<((n:Int)+(m:Int))):=by simp only[maxLen] at qr;omega
    have uc:¬ (281474976710656<Builtin.nextslicecap (n+m) cap*i.bytes):=by
     have:=growslice_fits (need:=n+m) (old:=cap) (bytes:=i.bytes) (by omega) ef
     omega
    simp[Builtin.append_,ab9 ht,ab9 xl,sizeOf,typeInfo,zeroValue,hi,hz,Go.asInt,asIntOf,hw,hn,t8,hms,ua,uc,t9,Question.forced,tl,newRow,grownCap]
theorem Bml:∀ (t:Ty),∀ u∈Po t,u.oneCell'=true:=fun t=>DR.one (w:=default) (ok:=fun _=>True) (DR.zero t)
theorem Bff{T T':TypeId}{x y:Operand}(ho:o.op=.call { callee:=.builtin .append,args:=#[x,y],argTypes:=#[T,T'] }){v':Value}{w':World}
  (hr:(Builtin.append_ #[T,T'] o.type #[a.eval x,a.eval y]).run K.P w=.ok v' w'):(execOp a.eval o).run K.P w=.ok (.value v') w':=by
 simp only[execOp,ho,resolve,invoke,builtin,ac7,af3,ab7,ao2,ae5,ak0,hr]
theorem Bxn(h:Gd K S used γ a w)(hB:∀ b,K.B b→b<K.base)(bw:∀ v,¬ used base v){T T':TypeId}{t:Ty}{x y:Operand}{n:Int}{k kn:IntKind}
  (ho:o.op=.call { callee:=.builtin .append,args:=#[x,y],argTypes:=#[T,T'] }) (hx:A1 x=true) (hy:a.eval y=.int k n) (hT:U2 K.P (.slice t) T=true) (hT':U2 K.P (.int kn) T'=true)
  (hl:A6 K.C S.objs (Bsc (S.eval x) n t base) [] (v,u) l):Qm K S used γ a w o v u base:=by
 have ip:=Bo h x hx
 obtain⟨e,ht,he⟩:=H6 hT
 obtain⟨i,z,hi,cd,gd,hz,i9,_⟩:=Ku (Uv he)
 have iw:z.cells.size=i.size:=by rw[← ac9,i9,E7,cd]
 have ew:∀ (fr:Bool) (m:Nat),B7 (DR w (Ahh K (Ak S.objs) γ fr) t) t.size (List.replicate m z.cells.toList).flatten (List.replicate m t.zero):=fun fr m=>by
  rw[i9]
  exact B7.replicate (E7 t) (DR.zero t) m
 unfold Bsc at hl
 split at hl
 ·rename_i id ab heq
  obtain⟨ob,ak,hl⟩:=hl
  dsimp only at hl
  split at hl
  ·rename_i af fr u' rows
   split at hl
   ·rename_i old h1 rd
    obtain rfl:=ab1 h1
    obtain⟨e1,rfl⟩:=Cu rd
    cases e1
    obtain⟨hr,hl⟩:=C7 hl
    simp only[aa5,ac4] at hr
    obtain⟨⟨vw,hr⟩,xm⟩:=hr
    obtain⟨r1,r2,r3⟩:=Ze hr
    obtain⟨e1,_⟩:=hl;cases e1
    rw[heq] at ip
    obtain⟨ll,m9,aq⟩:=Ar5 ip
    have aq:a.eval x=γ id:=aq t _ (Fp _ af fr t rows (.inl ak))
    obtain⟨e',olds,hs,xj⟩:=Cb0 h e ak
    obtain⟨v',w',q1,q2⟩:=Bxv (P:=K.P) w T T' o.type e e' i z kn k ht (Afb hT') hi hz iw (by rw[cd];exact r1) (by rw[i9];exact Bml t) (γ id) (List.length rows) olds (by
     rcases hs with hs | ⟨g,cap,cur,k1,k2,k3,k4,k5,k6,_⟩
     ·exact .inl hs
     ·exact .inr ⟨g,cap,cur,k1,k2,k3,k4,by rw[cd];exact k5,by rw[cd];exact k6⟩) n.toNat (by omega)
     (af2 (ae8 _ gd) r3)
    rw[cd] at q2
    have ag:(List.replicate n.toNat t.zero).length=n.toNat:=by simp
    rw[← ag] at q2
    have:=Bq6 (o:=o) (base:=base) h hB ak ⟨_,ll⟩ hs xj (ew true (List.replicate n.toNat t.zero).length |> fun h=>by rw[ag] at h⊢;exact h) q2 (Bff ho (by rw[aq,hy];rw[as8 vw] at q1;exact q1))
    simpa using this
   ·exact hl.elim
  ·exact hl.elim
 ·rename_i heq
  obtain⟨hr,hl⟩:=C7 hl
  simp only[aa5,ac4] at hr
  obtain⟨⟨vw,hr⟩,xm⟩:=hr
  obtain⟨r1,r2,r3⟩:=Ze hr
  obtain⟨e1,_⟩:=hl;cases e1
  rw[heq] at ip
  have aq:a.eval x=.slice none 0 0:=by
   obtain⟨k1,k2⟩:=(show Ev _ .nils _ from ip)
   rw[Bm k2.symm] at k1
   simpa [ARc] using k1
  obtain⟨v',w',q1,q2⟩:=Bxv (P:=K.P) w T T' o.type e e i z kn k ht (Afb hT') hi hz iw (by rw[cd];exact r1) (by rw[i9];exact Bml t) (.slice none 0 0) 0 [] (.inl ⟨rfl,rfl,rfl⟩) n.toNat (by omega)
   (af2 (ae8 _ gd) (by simpa using r3))
  rw[cd] at q2
  have ag:(List.replicate n.toNat t.zero).length=n.toNat:=by simp
  rw[← ag] at q2
  have:=Bh2 (o:=o) (base:=base) h hB bw (ew true (List.replicate n.toNat t.zero).length |> fun h=>by rw[ag] at h⊢;exact h) q2 (Bff ho (by rw[aq,hy];rw[as8 vw] at q1;exact q1))
  simpa using this
 ·exact hl.elim
theorem Byy(h:Gd K S used γ a w)(hB:∀ b,K.B b→b<K.base){T:TypeId}{x:Operand}{lo hi mx:Option Operand}{i j m:Option Int}(ho:o.op=.slice T x lo hi mx)(hx:A1 x=true)
  (fv:∀ x,lo=some x→A1 x=true) (lf:∀ x,hi=some x→A1 x=true) (nw:Jh (lo.map S.eval)=some i) (na:Jh (hi.map S.eval)=some j)
  (vl:∀ x,mx=some x→A1 x=true) (kh:Jh (mx.map S.eval)=some m)
  (hT:∀ T t,K.G.ty T=some t→U2 K.P t T=true)
  (bo:∀ i' j',A6 K.C S.objs (Be4 (S.eval x) (K.G.ty T) i' j' m) [] (v,u) l→i'=i→j'=j→Qm K S used γ a w o v u base)
  (hl:A6 K.C S.objs (Byp (S.eval x) (K.G.ty T) i j m) [] (v,u) l):Qm K S used γ a w o v u base:=by
 unfold Byp at hl
 split at hl
 ·rename_i id ab t' hh heq hG
  have hv:=Bo h x hx
  rw[heq] at hv
  obtain⟨ll,m9,aq⟩:=Ar5 hv
  obtain⟨ob,ak,hl⟩:=hl
  dsimp only at hl
  split at hl
  ·rename_i af fr t rows
   cases hc:(Nat.beq af ab&&Ty.beq t t') with
   | false=>rw[hc] at hl;exact hl.elim
   | true =>
    rw[hc] at hl
    simp only[aa5,aj9] at hc
    obtain⟨rfl,h2⟩:=hc
    obtain rfl:=Ty.beq_iff.1 h2
    obtain⟨hq,hl⟩:=C7 hl
    simp only[aa5,ac4] at hq
    obtain⟨e1,_⟩:=hl;cases e1
    have aq:a.eval x=γ id:=aq t _ (Fp _ af fr t rows (.inl ak))
    obtain⟨q,rfl⟩:∃ q:Nat,hh=q:=⟨hh.toNat,by omega⟩
    have qp:q≤rows.length:=by have:=hq.2;omega
    have aw3:lo.map a.eval=none:=by
     cases lo with
     | none=>rfl
     | some z =>
      simp only[am2,Jh] at nw
      split at nw<;>cases nw
    have aw4:mx.map a.eval=none:=by
     cases mx with
     | none=>rfl
     | some z =>
      simp only[am2,Jh] at kh
      split at kh<;>cases kh
    obtain⟨e,k1,k2⟩:=H6 (hT _ _ hG)
    have hs:=Ls w k2
    have cw:∀ (ad:Option Addr) (len cap:Nat),q≤cap→(Instr.sliceAt T (.slice ad len cap) (lo.map a.eval) (hi.map a.eval) (mx.map a.eval)).run K.P w=.ok (.slice ad q cap) w:=by
     intro ad len cap hqc
     have hb:=Av7 (P:=K.P) w true (len:=len) (cap:=cap) (lo:=0) (hi:=q) (l:=lo.map a.eval) (h:=hi.map a.eval) (.inl ⟨aw3,rfl⟩) (Gb h lf na (.inr rfl)) (ac2 _) hqc
     rw[aw4]
     simp only[Instr.sliceAt,ab9 k1,Instr.slice,ac7,hb,hs,ab7,af3,al9,ak1]
     cases ad with
     | none=>simp
     | some ad=>simp[Addr.add]
    have aw5:=h.objs id _ ak
    obtain⟨ix,hrv,hO⟩:∃ ix,(Instr.sliceAt T (γ id) (lo.map a.eval) (hi.map a.eval) (mx.map a.eval)).run K.P w=.ok ix w ∧
      ((ix=.slice none 0 0∧γ id=.slice none 0 0∧rows=[])∨∃ g cap cur e,γ id=.slice (some ⟨g,0,none⟩) rows.length cap∧ix=.slice (some ⟨g,0,none⟩) q cap∧w.heap[g]?=some (.cells cur e (0,0)) ∧
       rows.length≤cap∧cap≤maxLen∧cur.size=cap*t.size∧B7 (DR w (Ahh K (Ak S.objs) γ fr) t) t.size (cur.toList.take (rows.length*t.size)) rows∧(fr=true→K.base≤g)):=by
     rcases aw5 with⟨p1,p2⟩ | ⟨g,cap,cur,e,p1,p2,p3,p4,p5,p6,p7⟩
     ·have p1:γ id=_:=p1
      subst p2
      obtain rfl:q=0:=by simpa using qp
      rw[p1]
      exact⟨_,cw none 0 0 (ab4 _),.inl ⟨rfl,rfl,rfl⟩⟩
     ·have p1:γ id=_:=p1
      have p3:rows.length≤cap:=p3
      rw[p1]
      exact⟨_,cw _ _ _ (by omega),.inr ⟨g,cap,cur,e,rfl,rfl,p2,p3,p4,p5,p6,p7⟩⟩
    have bd:=h.renew hB (fr':=fr) (rows':=rows.take q) ak (hv:=ix) (w':=w) (ab4 _) (fun _ _ _=>rfl) ⟨rfl,rfl,rfl⟩
     (fun g hg=>by
      rcases hO with⟨p1,_,_⟩ | ⟨g',cap,cur,e,p1,p2,_⟩
      ·rw[p1] at hg;simp[Bc] at hg
      ·rw[p2] at hg
       rw[p1]
       exact .inl hg)
     (fun E' dl hE=>by
      have jq:E'.w=w:=by rw[hE];rfl
      have hγ:E'.γ id=ix:=by rw[hE];exact aa0 rfl
      show Bzj E' fr t (rows.take q) K.base (E'.γ id)
      rw[hγ]
      rcases hO with⟨p1,_,p3⟩ | ⟨g,cap,cur,e,p1,p2,p3,p4,p5,p6,p7,p8⟩
      ·exact .inl ⟨p1,by rw[p3];simp⟩
      ·have db:(rows.take q).length=q:=by simp;omega
       refine .inr ⟨g,cap,cur,e,by rw[db];exact p2,by rw[jq];exact p3,by rw[db];omega,p5,p6,?_,p8⟩
       rw[db]
       have:=(p7.take q).mono fun _ _ hd=>DR.move (fun b hb ho=>dl.ok fr b hb ho) hd
       rw[ao3,ad8 (ac6 _ qp)] at this
       exact this)
    refine⟨_,ix,w,_,_,?_,.inl rfl,?_,bd,?_⟩
    ·simp only[execOp,ho,aq,ac7,hrv,ab7,af3]
    ·have sf:Ck ix=false:=by rcases hO with⟨p1,_⟩ | ⟨_,_,_,_,_,p1,_⟩<;>rw[p1]<;>rfl
     have go:ix.oneCell'=true:=by rcases hO with⟨p1,_⟩ | ⟨_,_,_,_,_,p1,_⟩<;>rw[p1]<;>rfl
     exact Df (a:=.own id (af+1)) ⟨.inr ⟨rfl,rfl⟩,ix,rfl,go,fun _ _ _=>(aa0 rfl:upd γ id ix id=ix).symm⟩ rfl sf
    ·rintro j7 v2 (km | ⟨rfl,rfl⟩)
     ·exact .inl ⟨v2,km⟩
     ·exact .inl ⟨_,ll⟩
  ·exact hl.elim
 ·exact bo _ _ hl rfl rfl
end
end Go.Pon
namespace Go.Pon
open Go
section
variable {K:Dg} {S:St} {used:Id→Nat→Prop} {γ:Id→Value} {a:Act} {w:World} {o:Oper} {base:Id} {v:AV} {u:Pm} {l:List Id}
theorem Gd.refreeze(h:Gd K S used γ a w){id:Id}{ab:Nat}{fr:Bool}{t:Ty}{rows:List t.den}(ho:Ak S.objs id=some (.sli ab fr t rows)){g n cap:Nat}(hγ:γ id=.slice (some ⟨g,0,none⟩) n cap){w':World}
  (bp:w'.heap.size=w.heap.size) (hkeep:∀ b,b≠g→w'.heap[b]?=w.heap[b]?) (n7:w'.os=w.os∧w'.tape=w.tape∧w'.output=w.output)
  (nm:∀ E',Um (A3 K S.objs used γ w) E'→E'=A3 K ((id,some (.frz ab fr t rows))::S.objs) used γ w'→E'.ok fr g∨(fr=true∧¬ K.base≤g)→OR K E' id (.frz ab fr t rows)) :
  Gd K { S with objs:=(id,some (.frz ab fr t rows))::S.objs } used γ a w':=by
 have ap:∀ j,Ak ((id,some (Obj.frz ab fr t rows))::S.objs) j=if id=j then some (.frz ab fr t rows) else Ak S.objs j:=fun j=>Mp ..
 have hg:Bc (Ak S.objs id) (γ id)=some g:=by rw[ho,hγ];rfl
 have da:∀ j b,Bc (Ak ((id,some (Obj.frz ab fr t rows))::S.objs) j) (γ j)=some b→j≠id∧Bc (Ak S.objs j) (γ j)=some b:=by
  intro j b hb
  rw[ap] at hb
  by_cases e:id=j
  ·rw[aa0 e] at hb;cases hb
  ·rw[aa1 e] at hb
   exact⟨fun e'=>e e'.symm,hb⟩
 have hs:Um (A3 K S.objs used γ w) (A3 K ((id,some (.frz ab fr t rows))::S.objs) used γ w'):=by
  refine⟨Nat.le_of_eq bp.symm,fun f b hb bj=>⟨⟨fun j hj=>bj.1 j (da j b hj).2,bj.2⟩,hkeep b fun e=>bj.1 id (by rw[e];exact hg)⟩,fun j v hj=>hj,fun j v hj t' n' bo=>?_,fun j hj t' bh=>?_,fun j hj kk t' bh=>?_⟩
  ·have bo:Ahd (Ak ((id,some (Obj.frz ab fr t rows))::S.objs) j) v t' n':=bo
   rw[ap] at bo
   by_cases e:id=j
   ·subst e
    rw[aa0 rfl] at bo
    obtain⟨f2,r2,h1,h2⟩:=bo
    rcases h2 with h2|h2
    ·cases h2
    ·cases h2
     exact⟨⟨fr,rows,h1,.inl ho⟩,rfl⟩
   ·rw[aa1 e] at bo
    exact⟨bo,rfl⟩
  ·have bh:Awc (Ak ((id,some (Obj.frz ab fr t rows))::S.objs) j) t':=bh
   rw[ap] at bh
   by_cases e:id=j
   ·rw[aa0 e] at bh
    obtain⟨_,_,h2⟩:=bh
    rcases h2 with h2|h2<;>cases h2
   ·rw[aa1 e] at bh
    exact⟨bh,rfl⟩
  ·have bh:Bpi (Ak ((id,some (Obj.frz ab fr t rows))::S.objs) j) kk t':=bh
   rw[ap] at bh
   by_cases e:id=j
   ·rw[aa0 e] at bh
    obtain⟨_,h2⟩:=bh
    cases h2
   ·rw[aa1 e] at bh
    exact⟨bh,rfl⟩
 refine h.move hs (fun j oj hj=>?_) (fun j oj hj=>?_) (fun j af f' t' oe v hj hu=>?_) (fun i j b hi hj=>?_) (fun i b hi=>?_) ?_
 ·rw[ap] at hj
  by_cases e:id=j
  ·rw[aa0 e] at hj;cases hj;subst e
   refine nm _ hs rfl ?_
   by_cases hb:fr=true→K.base≤g
   ·refine .inl ⟨fun j hj=>?_,(h.mod id g hg).2,hb⟩
    obtain⟨q1,q2⟩:=da j g hj
    exact q1 (h.sep j id g q2 hg)
   ·refine .inr ?_
    cases fr with
    | true=>exact⟨rfl,fun h2=>hb fun _=>h2⟩
    | false=>exact absurd (fun h2=>by cases h2) hb
  ·rw[aa1 e] at hj
   exact OR.step hs rfl (fun b hb=>hkeep b fun eb=>e (h.sep id j g hg (by rw[hj];rw[← eb];exact hb))) (h.objs j oj hj)
 ·rw[ap] at hj
  by_cases e:id=j
  ·subst e;exact h.ou id _ ho
  ·rw[aa1 e] at hj
   exact h.ou j oj hj
 ·rw[ap] at hj
  by_cases e:id=j
  ·rw[aa0 e] at hj;cases hj
  ·rw[aa1 e] at hj
   exact h.vers j af f' t' oe v hj hu
 ·exact h.sep i j b (da i b hi).2 (da j b hj).2
 ·exact h.mod i b (da i b hi).2
 ·refine⟨n7.1.trans h.frame.os,n7.2.1.trans h.frame.tape,n7.2.2.trans h.frame.output,by rw[bp];exact h.frame.size,fun b hb ck=>?_⟩
  rw[hkeep b fun e=>?_]
  ·exact h.frame.block b hb ck
  ·subst e
   rcases (h.mod id b hg).1 with h1|h1
   ·have:K.base=K.w0.heap.size:=rfl
    omega
   ·exact ck h1
theorem Btn(w:World)(ad:Addr)(n b:Nat)(hb:b≠ad.block):(w.freeze ad n).heap[b]?=w.heap[b]?:=by
 unfold World.freeze
 split
 ·rfl
 ·simp only[Array.getElem?_modify]
  rw[aa1 (fun e=>hb e.symm)]
theorem Cdc(w:World)(g off n:Nat){cur:Array Value}{e:TypeId}{fz:Nat×Nat}(h:w.heap[g]?=some (.cells cur e fz)):∃ fz',(w.freeze ⟨g,off,none⟩ n).heap[g]?=some (.cells cur e fz'):=by
 unfold World.freeze
 split
 ·exact⟨fz,h⟩
 ·simp only[Array.getElem?_modify,ar3,h,am2]
  exact⟨_,rfl⟩
theorem Bwe(w:World)(ad:Addr)(n:Nat):(w.freeze ad n).heap.size=w.heap.size:=by
 unfold World.freeze
 split
 ·rfl
 ·simp
theorem Bt9(h:Gd K S used γ a w){T:TypeId}{x:Operand}(ho:o.op=.convert T T x)(hx:A1 x=true)(h1:U2 K.P (.slice (.int .u8)) T=true)
  (hl:A6 K.C S.objs (Bm5 (S.eval x)) [] (v,u) l):Qm K S used γ a w o v u base:=by
 unfold Bm5 at hl
 split at hl
 ·rename_i id ab heq
  have hv:=Bo h x hx
  rw[heq] at hv
  obtain⟨ll,m9,aq⟩:=Ar5 hv
  obtain⟨ob,ak,hl⟩:=hl
  dsimp only at hl
  split at hl
  ·rename_i af fr t rows
   cases hc:(Nat.beq af ab&&Ty.beq t (.int .u8)) with
   | false=>rw[hc] at hl;exact hl.elim
   | true =>
    rw[hc] at hl
    simp only[aa5,aj9] at hc
    obtain⟨rfl,h2⟩:=hc
    obtain rfl:=Ty.beq_iff.1 h2
    obtain⟨hq,hl⟩:=C7 hl
    simp only[ac4] at hq
    obtain⟨e1,_⟩:=hl;cases e1
    have aq:a.eval x=γ id:=aq _ _ (Fp _ af fr _ rows (.inl ak))
    obtain⟨el,u1,u2⟩:=H6 h1
    rcases h.objs id _ ak with⟨p1,p2⟩ | ⟨g,cap,cur,e,p1,p2,p3,p4,p5,p6,p7⟩
    ·subst p2;simp at hq
    ·have p1:γ id=_:=p1
     have p2:w.heap[g]?=_:=p2
     have cw:(convert T T (γ id)).run K.P w=.ok (γ id) (w.freeze ⟨g,cur.size,none⟩ 1):=by
      rw[p1]
      have hsh:w.shape? g=some (e,cur.size):=by simp[World.shape?,p2]
      simp only[convert,ac7,ab9 u1,ab9 (Afb u2),ab7,beq_self_eq_true]
      simp[markStringish,shape,freeze,Sem.run,hsh]
     obtain⟨fz,p8⟩:=Cdc w g cur.size 1 p2
     have bd:=h.refreeze ak p1 (w':=w.freeze ⟨g,cur.size,none⟩ 1) (Bwe ..) (fun b hb=>Btn _ _ _ _ hb) (by unfold World.freeze;exact⟨rfl,rfl,rfl⟩)
      (fun E' dl hE bj=>by
       have jq:E'.w=w.freeze ⟨g,cur.size,none⟩ 1:=by rw[hE];rfl
       have hγ:E'.γ id=γ id:=by rw[hE];rfl
       have bj:E'.ok fr g:=by
        rcases bj with h3 | ⟨h3,h4⟩
        ·exact h3
        ·exact absurd (p7 h3) h4
       refine⟨?_,?_⟩
       ·rw[hγ,p1]
        refine⟨some ⟨g,0,none⟩,cap,rfl,p3,p4,(fun h=>by cases h),_,p6.mono fun _ _ hd=>DR.move (fun b hb ho=>dl.ok fr b hb ho) hd,fun _=>⟨⟨g,0,none⟩,rfl,bj,fun j y hj=>?_⟩⟩
        rw[jq]
        simp only[World.cell?,Aoo,p8]
        have:cur[j]?=some y:=by
         rw[af4] at hj
         split at hj
         ·simpa using hj
         ·cases hj
        by_cases hj0:j=0<;>simpa [Addr.add,hj0] using this
       ·intro a' n' c' hh
        rw[hγ,p1] at hh
        cases hh
        exact⟨rfl,rfl⟩)
     refine⟨_,γ id,_,used,γ,?_,.inl rfl,?_,bd,Axz.refl _ _⟩
     ·simp only[execOp,ho,aq,ac7,cw,ab7,af3]
     ·exact Df (a:=.own id af) ⟨ll,γ id,rfl,by rw[p1];rfl,fun _ _ _=>rfl⟩ rfl (by rw[p1];rfl)
  ·exact hl.elim
 ·exact hl.elim
end
end Go.Pon
namespace Go.Pon
open Go
theorem Cc4{E:U5}{v:AV}{cs:List Value}(h:Bhe v=true)(hr:ARc E v cs):∃ val,cs=[val]∧(Ck val=false→Dn E v val)∧val.oneCell'=true:=by
 have key:∀ val,cs=[val]→val.oneCell'=true→Aoe v=false→Bfy v=true→∃ val,cs=[val]∧(Ck val=false→Dn E v val)∧val.oneCell'=true :=
  fun val e h1 ha hs=>⟨val,e,fun hn=>Ayu (Bp9 hs) ⟨by rw[Bm hn,← e];exact hr,by rw[ha,hn]⟩,h1⟩
 cases v with
 | any=>cases h
 | un=>cases h
 | tup _=>cases h
 | pair _ _=>cases h
 | d fr t x =>
  have ht:t.agg=false:=by simpa [Bhe] using h
  have hl:=DR.len (show DR _ _ _ cs x from hr)
  rw[N4 ht] at hl
  have h1:=DR.one (show DR _ _ _ cs x from hr)
  match cs,hl,h1 with
  | [val],_,h1=>exact key val rfl (h1 val (by simp)) ht rfl
 | nilp=>exact key _ (show cs=_ from hr) rfl rfl rfl
 | nils=>exact key _ (show cs=_ from hr) rfl rfl rfl
 | ub _ _=>obtain⟨b,e,_⟩:=hr;exact key _ e rfl rfl rfl
 | own _ _=>obtain⟨_,val,e,h1,_⟩:=hr;exact key _ e h1 rfl rfl
 | view _ _ _ _ _=>obtain⟨_,val,e,h1,_⟩:=hr;exact key _ e h1 rfl rfl
 | mview _ _ _ _=>obtain⟨_,val,e,h1,_⟩:=hr;exact key _ e h1 rfl rfl
 | mapp _=>obtain⟨_,val,e,h1,_⟩:=hr;exact key _ e h1 rfl rfl
 | ptr _ _=>obtain⟨_,val,e,h1,_⟩:=hr;exact key _ e h1 rfl rfl
 | eptr _ _ _ _=>obtain⟨_,val,e,h1,_⟩:=hr;exact key _ e h1 rfl rfl
 | rptr _ _ _=>obtain⟨val,e,h1,_⟩:=hr;exact key _ e h1 rfl rfl
 | fn _ _=>obtain⟨vs,e,_⟩:=hr;exact key _ e rfl rfl rfl
theorem Bfp{E:U5}:∀ {c:AV} {cs:List AV} {vs:List Value},Z1 c=some cs→ARc E c vs →
  vs.length=cs.length∧∀ (i:Nat) (v:AV) (val:Value),cs[i]?=some v→vs[i]?=some val→Dn E v val:=by
 intro c
 induction c with
 | d fr t x =>
  intro cs vs h hr
  cases t<;>simp only[Z1] at h<;>try cases h
  rw[show vs=[] from hr]
  exact⟨rfl,by simp⟩
 | pair p q _ ih =>
  intro cs vs h hr
  simp only[Z1] at h
  cases hb:Bhe p with
  | false=>rw[hb] at h;cases h
  | true =>
   rw[hb] at h
   have h:(Z1 q).map (p::·)=some cs:=h
   cases hq:Z1 q with
   | none=>rw[hq] at h;cases h
   | some og =>
    rw[hq] at h;cases h
    obtain⟨c1,c2,rfl,h1,h2⟩:=hr
    obtain⟨val,rfl,k1,k2⟩:=Cc4 hb h1
    obtain⟨i1,i2⟩:=ih hq h2
    refine⟨by simp[i1],fun i v dt e1 e2=>?_⟩
    cases i with
    | zero=>simp at e1 e2;subst e1 e2;exact k1 (Zo k2)
    | succ i=>exact i2 i v dt (by simpa using e1) (by simpa using e2)
 | _=>intro cs vs h _;simp only[Z1] at h;cases h
theorem Bme{α:Type}:∀ (l:List α) (n:Nat),Bhh l n=l[n]?
 | [],n=>by cases n<;>rfl
 | a::l,0=>rfl
 | a::l,n+1=>by simp[Bhh,Bme l n]
theorem Bof{α:Type}:∀ {n:Nat} {l:List α},n<l.length→(Ii n l).length+1=l.length
 | _,[],h=>absurd h (Nat.not_lt_zero _)
 | 0,_::_,_=>rfl
 | n+1,a::l,h=>by simp only[Ii,ac5];rw[Bof (Nat.lt_of_succ_lt_succ h)]
theorem Bch{α β:Type}{p:α→β→Prop}:∀ {n:Nat} {l:List α} {m:List β},l.length=m.length→(∀ (i:Nat) (v:α) (x:β),l[i]?=some v→m[i]?=some x→p v x) →
  (Ii n l).length=(Ii n m).length∧∀ (i:Nat) (v:α) (x:β),(Ii n l)[i]?=some v→(Ii n m)[i]?=some x→p v x
 | n,[],[],_,_=>by cases n<;>exact⟨rfl,by simp[Ii]⟩
 | 0,a::l,b::m,h,hp=>⟨by simpa [Ii] using h,fun i v x h1 h2=>hp (i+1) v x (by simpa [Ii] using h1) (by simpa [Ii] using h2)⟩
 | n+1,a::l,b::m,h,hp=>by
  obtain⟨k1,k2⟩:=Bch (p:=p) (n:=n) (l:=l) (m:=m) (by simpa using h) fun i v x h1 h2=>hp (i+1) v x (by simpa using h1) (by simpa using h2)
  refine⟨by simp[Ii,k1],fun i v x h1 h2=>?_⟩
  cases i with
  | zero=>simp[Ii] at h1 h2;subst h1 h2;exact hp 0 _ _ rfl rfl
  | succ i=>exact k2 i v x (by simpa [Ii] using h1) (by simpa [Ii] using h2)
theorem Bmm{α:Type}{x:α}:∀ {n:Nat} {l:List α},l[n]?=some x→At7 x n (Ii n l)=l
 | _,[],h=>by simp at h
 | 0,a::l,h=>by simp at h;simp[Ii,At7,h]
 | n+1,a::l,h=>by simp only[Ii,At7];rw[Bmm (by simpa using h)]
theorem Bwv{α β:Type}{p:α→β→Prop}{a:α}{b:β}(h0:p a b):∀ {n:Nat} {l:List α} {m:List β},l.length=m.length→(∀ (i:Nat) (v:α) (x:β),l[i]?=some v→m[i]?=some x→p v x) →
  (At7 a n l).length=(At7 b n m).length∧∀ (i:Nat) (v:α) (x:β),(At7 a n l)[i]?=some v→(At7 b n m)[i]?=some x→p v x
 | 0,l,m,h,hp=>⟨by simp[At7,h],fun i v x h1 h2=>by
   cases i with
   | zero=>simp[At7] at h1 h2;subst h1 h2;exact h0
   | succ i=>exact hp i v x (by simpa [At7] using h1) (by simpa [At7] using h2)⟩
 | n+1,[],[],_,_=>⟨rfl,fun i v x h1 h2=>by
   cases i with
   | zero=>simp[At7] at h1 h2;subst h1 h2;exact h0
   | succ i=>simp[At7] at h1⟩
 | n+1,c::l,d::m,h,hp=>by
  obtain⟨k1,k2⟩:=Bwv h0 (n:=n) (l:=l) (m:=m) (by simpa using h) fun i v x h1 h2=>hp (i+1) v x (by simpa using h1) (by simpa using h2)
  refine⟨by simp[At7,k1],fun i v x h1 h2=>?_⟩
  cases i with
  | zero=>simp[At7] at h1 h2;subst h1 h2;exact hp 0 _ _ rfl rfl
  | succ i=>exact k2 i v x (by simpa [At7] using h1) (by simpa [At7] using h2)
def Clw(y:Lay)(w:World)(vals act:List Value)(b:Nat):Prop :=
 ∃ caps v0 e,(y.wrap=none∧act=caps∨∃ g,y.wrap=some g∧act=[v0,.func (.func g) #[] caps.toArray]) ∧
  caps[y.j]?=some (.pointer (some ⟨b,0,none⟩))∧vals=v0::Ii y.j caps∧w.heap[b]?=some (.cells #[v0] e (0,0))
def VOK(P:Program)(y:Lay)(s:B4)(F:Iu s.ins→Option s.outDen):Prop :=
 ∀ (w:World) (B:Nat→Prop) (vals:List Value) (x:Iu s.ins) (bs:List Nat) (r:s.outDen) (act:List Value) (b:Nat),F x=some r→(∀ b,B b→b<w.heap.size)→bs.Nodup→(∀ g∈bs,¬ B g) →
  MRL w (Bdy w B bs) w.heap.size s.ins vals x bs→Clw y w vals act b→b ∉ bs→¬ B b→Bm2 P y.f act w (Bwk w B s vals bs r)
theorem Ait{v:AV}{b:Id}(h:Bin v=some b):v=.ptr b []:=by
 cases v with
 | ptr i p =>
  cases p with
  | nil=>cases h;rfl
  | cons _ _=>cases h
 | _=>cases h
theorem Bdq{ob:Obj}{r:Id}{fz:Option Obj}(h:Bxm ob=some (r,fz)):∃ fm,(ob=.mem fm .ptr (.ptr r [])∧fz=some (.mfz fm .ptr (.ptr r [])))∨(ob=.mfz fm .ptr (.ptr r [])∧fz=none):=by
 unfold Bxm at h
 split at h
 ·rename_i fm t c
  split at h
  ·rename_i r' hr
   obtain rfl:=Ait hr
   cases ht:Ty.beq t .ptr with
   | false=>rw[ht] at h;cases h
   | true=>rw[ht] at h;cases h;rw[Ty.beq_iff.1 ht];exact⟨fm,.inl ⟨rfl,rfl⟩⟩
  ·cases h
 ·rename_i fm t c
  split at h
  ·rename_i r' hr
   obtain rfl:=Ait hr
   cases ht:Ty.beq t .ptr with
   | false=>rw[ht] at h;cases h
   | true=>rw[ht] at h;cases h;rw[Ty.beq_iff.1 ht];exact⟨fm,.inr ⟨rfl,rfl⟩⟩
  ·cases h
 ·cases h
section
variable {K:Dg} {S:St} {used:Id→Nat→Prop} {γ:Id→Value} {a:Act} {w:World}
theorem Cjc{E:U5}{r:Id}{v:Value}(h:ARc E (.ptr r []) [v]):Ev E (.ptr r []) v:=by
 obtain⟨h1,v',e,h2,h3⟩:=h
 cases e
 have:Ck v=false:=by cases v<;>simp_all [Value.oneCell',Ck]
 exact⟨by rw[Bm this];exact⟨h1,v,rfl,h2,h3⟩,this.symm⟩
theorem Brp(h:Gd K S used γ a w){b:Id}{fm:Bool}{r:Id}(ak:Ak S.objs b=some (.mem fm .ptr (.ptr r []))∨Ak S.objs b=some (.mfz fm .ptr (.ptr r []))){val:Value}
  (hv:Dn (A3 K S.objs used γ w) (.ptr b []) val) :
  ∃ gb v0 e,γ b=.pointer (some ⟨gb,0,none⟩)∧val=.pointer (some ⟨gb,0,none⟩)∧w.heap[gb]?=some (.cells #[v0] e (0,0))∧Ev (A3 K S.objs used γ w) (.ptr r []) v0∧¬ K.B gb:=by
 obtain⟨g,e,cur,m1,m2,m3,m4⟩:=Azb h ak
 obtain⟨_,hp⟩:=Abe hv
 obtain⟨g',u,k1,_,_,k4⟩:=hp .ptr (Aa2 _ fm .ptr _ ak)
 have k1:γ b=_:=k1
 rw[m1] at k1
 cases k1
 have hc:∃ v0,cur=#[v0]:=by
  obtain⟨_,v0,e0,_⟩:=m4
  exact⟨v0,by apply as0.1;simpa using e0⟩
 obtain⟨v0,rfl⟩:=hc
 refine⟨g,v0,e,m1,k4,m2,Cjc m4,?_⟩
 rcases ak with ak|ak
 ·exact (h.mod b g (by rw[ak,m1];rfl)).2
 ·exact ((h.objs b _ ak).2 _ m1).2.1
theorem Bx3{E:U5}{y:Lay}{args:List AV}{act:List Value}(ag:act.length=args.length)(hv:∀ (i:Nat) (v:AV) (val:Value),args[i]?=some v→act[i]?=some val→Dn E v val)
  {h0:Option AV} {cs:List AV} (cz:unA y args=some (h0,cs)) :
  ∃ caps:List Value,caps.length=cs.length∧(∀ (i:Nat) (v:AV) (val:Value),cs[i]?=some v→caps[i]?=some val→Dn E v val) ∧
   ((y.wrap=none∧h0=none∧act=caps)∨∃ g h1 a0,y.wrap=some g∧h0=some h1∧act=[a0,.func (.func g) #[] caps.toArray]∧Dn E h1 a0):=by
 unfold unA at cz
 split at cz
 ·rename_i hw
  cases cz
  exact⟨act,ag,hv,.inl ⟨hw,rfl,rfl⟩⟩
 ·rename_i g hw
  split at cz
  ·cases cz
  rename_i h1 l
  split at cz
  ·cases cz
  rename_i v1 r1
  split at cz
  case h_2=>cases cz
  unfold Cp8 at cz
  split at cz
  ·rename_i g' c
   cases hg:Nat.beq g g' with
   | false=>rw[hg] at cz;cases cz
   | true =>
    rw[hg] at cz
    obtain rfl:=ab1 hg
    have cz:(match Z1 c with
     | some cs=>some (some h1,cs)
     | none=>none)=some (h0,cs):=cz
    split at cz
    case h_2=>cases cz
    rename_i og h2
    cases cz
    match act,ag with
    | [a0,a1],_ =>
     obtain⟨⟨vs,e1,e2⟩,e3⟩:=(show Ev E (.fn g c) a1 from hv 1 _ _ rfl rfl)
     have ea:a1=.func (.func g) #[] vs:=by
      rw[Bm e3.symm] at e1
      simpa using e1
     obtain⟨u1,u2⟩:=Bfp h2 e2
     exact⟨vs.toList,u1,u2,.inr ⟨g,h1,a0,hw,rfl,by rw[ea],hv 0 _ _ rfl rfl⟩⟩
  ·cases cz
theorem Cft(h:Gd K S used γ a w){r:Id}{v1 v2:Value}(h1:Dn (A3 K S.objs used γ w) (.ptr r []) v1)(h2:Dn (A3 K S.objs used γ w) (.ptr r []) v2){fr:Bool}{t:Ty}{c:AV}
  (ho:Ak S.objs r=some (.mem fr t c)∨Ak S.objs r=some (.mfz fr t c)):v1=v2:=by
 obtain⟨_,p1⟩:=Abe h1
 obtain⟨_,p2⟩:=Abe h2
 obtain⟨g,u,k1,_,_,k4⟩:=p1 t (Aa2 _ fr t c ho)
 obtain⟨g',u',m1,_,_,m4⟩:=p2 t (Aa2 _ fr t c ho)
 rw[k1] at m1
 cases m1
 rw[k4,m4]
theorem Bzh{frz:Bool}{c:Cl}(hc:Xr S frz c){b:Id}{ob:Obj}{r:Id}{fz:Option Obj}(ak:Ak S.objs b=some ob)(hb:Bxm ob=some (r,fz))(hg:¬ (b,none)∈c.ups) :
  Xr S frz (Brc c frz b fz)∧Ext c (Brc c frz b fz)∧Cx (Brc c frz b fz).ups=Cx c.ups∧((∃ fr t m,Ak S.objs b=some (.mem fr t m))→lent (Brc c frz b fz) b):=by
 obtain⟨fm,⟨rfl,rfl⟩ | ⟨rfl,rfl⟩⟩:=Bdq hb
 ·obtain⟨i1,i2,i3,i4⟩:=hc.lend (id:=b) (o:=.mfz fm .ptr (.ptr r [])) hg (.inr ⟨_,_,_,ak,rfl⟩)
  exact⟨i1,i2,i3,fun _=>i4⟩
 ·exact⟨hc,Ext.refl c,rfl,fun⟨_,_,_,h⟩=>by rw[ak] at h;cases h⟩
theorem Bvt{h1:AV}{r:Id}(h:Bgx (some h1) r=true):h1=.ptr r []:=by
 simp only[Bgx] at h
 split at h
 ·rename_i i hi
  rw[Ait hi,Xw.1 h]
 ·cases h
theorem Byr(h:Gd K S used γ a w)(hB:∀ b,K.B b→b<K.base){v:Nat}{s:B4}{y:Lay}(hC:VOK K.P y s (K.C v s))(fp:∀ m∈s.ins,m.insOK=true)
  {args:List AV} {act:List Value} (ag:act.length=args.length) (hv:∀ (i:Nat) (v:AV) (val:Value),args[i]?=some v→act[i]?=some val→Dn (A3 K S.objs used γ w) v val)
  {base:Id} (hu:∀ id:Id,id.1=base.1→id.2.1=base.2.1→∀ v,¬ used id v) {l0 l:List Id} {av:AV} {u:Pm} (hl:A6 K.C S.objs (Ce9 v s y args base) l0 (av,u) l) :
  Bm2 K.P y.f act w fun val w'=>∃ ah γ',Dn (A3 K (Da u S.objs) ah γ' w') av val∧Gd K { S with objs:=Da u S.objs } ah γ' a w'∧Axz used ah base:=by
 unfold Ce9 at hl
 split at hl
 case h_2=>exact hl.elim
 rename_i h0 cs cz
 split at hl
 case h_2=>exact hl.elim
 rename_i vb hb
 split at hl
 case h_2=>exact hl.elim
 rename_i b aw6
 obtain rfl:=Ait aw6
 obtain⟨ob,ak,hl⟩:=hl
 dsimp only at hl
 split at hl
 case h_2=>exact hl.elim
 rename_i r fz hbx
 cases hq:(Bkm s.ins&&Bgx h0 r) with
 | false=>rw[hq] at hl;exact hl.elim
 | true =>
 rw[hq] at hl
 simp only[aa5] at hq
 obtain⟨vo,qp⟩:=hq
 obtain⟨caps,c1,c2,c3⟩:=Bx3 ag hv cz
 rw[Bme] at hb
 have hjl:y.j<cs.length:=(ae9.1 hb).1
 have hjc:caps[y.j]?=some (caps[y.j]'(by omega)):=by simp
 have rg:=c2 _ _ _ hb hjc
 obtain⟨fm,ck⟩:=Bdq hbx
 have kv:Ak S.objs b=some (.mem fm .ptr (.ptr r []))∨Ak S.objs b=some (.mfz fm .ptr (.ptr r [])):=by
  rcases ck with⟨e,_⟩ | ⟨e,_⟩
  ·exact .inl (by rw[ak,e])
  ·exact .inr (by rw[ak,e])
 obtain⟨gb,v0,e,k1,k2,k3,k4,k5⟩:=Brp h kv rg
 obtain⟨r1,r2⟩:=Bch (p:=Dn (A3 K S.objs used γ w)) (n:=y.j) c1.symm c2
 have hl:A6 K.C S.objs (Xc s.alias s.ins (.ptr r []::Ii y.j cs) ⟨[],[]⟩ fun x c =>
      bif Anf c.ups b then .fail else .call v s x fun z =>
       Ark s.ins (.ptr r []::Ii y.j cs) z.2 base (Brc c s.alias b fz).ups fun n u =>
        Af4 s.outs z.1 n u fun vs _ u'=>.done (Blz vs,u')) _ (av,u) l:=hl
 obtain⟨x,c,l1,new,hl,hc,_,bc,gv,mo⟩:=Uq h s.ins _ (Xr.start S s.alias) hl
 have hvv:∀ (i:Nat) (v:AV) (val:Value),(AV.ptr r []::Ii y.j cs)[i]?=some v→(v0::Ii y.j caps)[i]?=some val→Dn (A3 K S.objs used γ w) v val:=by
  intro i v val e1 e2
  cases i with
  | zero=>simp at e1 e2;subst e1 e2;exact k4
  | succ i=>exact r2 i v val (by simpa using e1) (by simpa using e2)
 have hll:(v0::Ii y.j caps).length=(AV.ptr r []::Ii y.j cs).length:=by simp[r1]
 have mo:=mo (v0::Ii y.j caps) hll hvv
 cases hg:Anf c.ups b with
 | true=>rw[hg] at hl;exact hl.elim
 | false =>
 rw[hg] at hl
 have kj:¬ (b,none)∈c.ups:=fun hm=>by rw[Akx.2 hm] at hg;cases hg
 obtain⟨z,hz,hl⟩:=hl
 obtain⟨d1,d2,d3,d4⟩:=Bzh hc ak hbx kj
 have bc:(Cx c.ups).Perm new:=by simpa [Cx] using bc
 refine Brm (f:=y.f) (act:=act) h hB hll hvv hu d1 (by rw[d3];exact bc) gv (fun B hBi ts xg oa bj=>?_) hl
 have bv:∀ id,Bc (Ak S.objs id) (γ id)=some gb→id=b∧∃ fr t m,Ak S.objs b=some (.mem fr t m):=by
  intro id bw
  rcases kv with kv|kv
  ·exact⟨h.sep id b gb bw (by rw[kv,k1];rfl),_,_,_,kv⟩
  ·exact absurd bw (((h.objs b _ kv).2 _ k1).1 id)
 refine hC w B _ x (Em S γ new) z act gb hz xg oa ts ((mo.mono fun f=>Tc d2 id).ins bj fp) ?_ (fun hm=>?_) fun hBb=>?_
 ·refine⟨caps,v0,e,?_,by rw[hjc,k2],rfl,k3⟩
  rcases c3 with⟨w1,_,w2⟩ | ⟨g,h1,a0,w1,w2,w3,w4⟩
  ·exact .inl ⟨w1,w2⟩
  ·refine .inr ⟨g,w1,?_⟩
   subst w2
   obtain rfl:=Bvt qp
   obtain⟨fr,c',hm⟩:∃ fr t c,Ak S.objs r=some (.mem fr t c):=by
    cases hs:s.ins with
    | nil=>rw[hs] at vo;cases vo
    | cons m ms =>
     rw[hs] at vo
     cases m<;>first|cases vo|skip
     have:=gv 0 _ (.ptr r []) (by rw[hs];rfl) rfl
     obtain⟨_,_,fr,c',hm⟩:=this
     exact⟨fr,_,c',hm⟩
   obtain⟨c',hm⟩:=hm
   rw[w3,Cft h w4 k4 (.inl hm)]
 ·obtain⟨i,hi,di⟩:=E8.1 hm
  obtain⟨rfl,_⟩:=bv i di
  exact kj (Nv.1 (bc.mem_iff.2 hi))
 ·obtain⟨ha,hBb | ⟨id,bw⟩⟩:=(hBi gb).1 hBb
  ·exact k5 hBb
  ·obtain⟨i1,_,_⟩:=Wv (d1.left id) bw
   obtain⟨rfl,hm⟩:=bv id i1
   rw[ha] at d1 d4
   rw[ha] at bw
   rw[Auo d1 (d4 hm)] at bw
   cases bw
end
end Go.Pon
namespace Go.Pon
open Go
theorem Cc1{α:Type}{C:Gi}{objs:Pm}{frz:Bool}{v:AV}{t:Ty}{c:Cl}{k:Bool→t.den→Cl→OpT α}{l0 l:List Id}{r:α}(hl:A6 C objs (roK frz v t c k) l0 r l):Bfy v=true:=by
 cases v
 case any=>cases t<;>simp only[roK,Wk,A6] at hl
 case un=>cases t<;>simp only[roK,Wk,A6] at hl
 case tup _=>cases t<;>simp only[roK,Wk,A6] at hl
 all_goals rfl
section
variable {K:Dg} {S:St} {used:Id→Nat→Prop} {γ:Id→Value} {a:Act} {w:World} {o:Oper} {base:Id} {v:AV} {u:Pm} {l:List Id}
theorem Bvz{α:Type}{R:List Value→α→Prop}{n:Nat}{cs d:List Value}{xs:List α}{y:α}{i:Nat}(h:B7 R n cs xs)(hi:i<xs.length)(hd:d.length=n)(hy:R d y):B7 R n (Gl cs (i*n) d) (xs.set i y):=by
 have:=h.set i hi d y hd hy
 unfold Gl
 rwa [hd]
theorem Ap2(h:Gd K S used γ a w){t:Ty}{nn:Nat}:∀ (ps:List (Nat×Operand)) (ce:List t.den) (fr:Bool) (c:Cl) (cells:Array Value) {k:List t.den→Bool→Cl→OpV} {l0:List Id} {r:AV×Pm},(∀ p∈ps,A1 p.2=true∧p.1<nn) →
  List.length ce=nn→Xr S true c→B7 (DR w (okL K S γ c fr) t) t.size cells.toList ce →
  A6 K.C S.objs (Ai3 t (ps.map fun p=>(p.1,S.eval p.2)) ce fr c k) l0 r l →
  ∃ rows fr' c' l1 dd,A6 K.C S.objs (k rows fr' c') l1 r l∧Xr S true c'∧Ext c c'∧Cx c'.ups=Cx c.ups∧List.length rows=nn ∧
   Instr.fill (fun i=>some (i*t.size,t.size)) cells (ps.map fun p=>(p.1,a.eval p.2))=some dd∧dd.size=cells.size∧B7 (DR w (okL K S γ c' fr') t) t.size dd.toList rows
 | [],ce,fr,c,cells,k,l0,r,_,hn,hc,hr,hl=>⟨ce,fr,c,l0,cells,hl,hc,Ext.refl c,rfl,hn,rfl,rfl,hr⟩
 | (i,x)::ps,ce,fr,c,cells,k,l0,r,hp,hn,hc,hr,hl=>by
  obtain⟨p1,p2⟩:=hp (i,x) (ac1 ..)
  simp only[ae5,Ai3] at hl
  have gm:=Cc1 hl
  obtain⟨f,y,c1,l1,hl,h1,h2,h3,h4,h5⟩:=Bec h (S.eval x) t hc hl
  obtain⟨v1,v2⟩:=Zk gm (Bo h x p1)
  have hd:=h5 _ v1
  have ag:=DR.len hd
  simp only[ac9] at ag
  have f9:=hr.length
  simp only[ac9] at f9
  have dz:i*t.size+t.size≤cells.size:=by
   rw[f9,hn]
   have:(i+1)*t.size≤nn*t.size:=ac6 _ p2
   rwa [ae4,ap4] at this
  have hfa:=Bvn (i*t.size) (a.eval x).cells cells (by omega)
  have mw:B7 (DR w (okL K S γ c1 (fr&&(f||t.flat))) t) t.size ((a.eval x).cells.zipIdx.foldl (fun cs (c,j)=>cs.setIfInBounds (i*t.size+j) c) cells).toList (ce.set i y):=by
   rw[hfa]
   refine Bvz (hr.mono fun _ _ hd=>DR.mono (fun b hb=>Tc h2 (by simp only[aa5];exact fun h=>h.1) b hb) hd) (by rw[hn];exact p2) (by simpa using ag) ?_
   cases rf:t.flat with
   | true=>exact DR.flat rf hd
   | false=>exact hd.mono fun b hb=>Tc (Ext.refl c1) (by simp only[aa5,at0];exact fun h=>h.2) b hb
  obtain⟨rows,fr',c',l2,dd,g1,g2,g3,g4,g5,g6,g7,g8⟩:=Ap2 h ps (ce.set i y) _ c1 _ (fun p hm=>hp p (ab8 _ hm)) (by simpa using hn) h1 mw hl
  refine⟨rows,fr',c',l2,dd,g1,g2,h2.trans g3,g4.trans h3,g5,?_,?_,g8⟩
  ·simp only[ae5,Instr.fill]
   rw[aa1 (by simp;omega)]
   exact g6
  ·have:=am6 List.length hfa
   rw[Avt (by simp;omega)] at this
   simp only[ac9] at this
   rw[g7]
   exact this
theorem Bnt(h:Gd K S used γ a w)(hB:∀ b,K.B b→b<K.base)(bw:∀ v,¬ used base v){T:TypeId}{n:Nat}{ps:Array (Nat×Operand)}{t:Ty}(ho:o.op=.buildSlice T n ps)(hc:∀ p∈ps.toList,A1 p.2=true∧p.1<n)
  (hT:U2 K.P (.slice t) T=true) (vz:n*t.size≤16777216) (dr:0<t.size)
  (hl:A6 K.C S.objs (Ai3 t (Vj (fun p=>(p.1,S.eval p.2)) ps.toList) (List.replicate n t.zero) true ⟨[],[]⟩ fun rows fr c=>.done (.own base 0,(base,some (.sli 0 fr t rows))::c.ups)) [] (v,u) l) :
  Qm K S used γ a w o v u base:=by
 rw[Bej] at hl
 obtain⟨e,ht,he⟩:=H6 hT
 obtain⟨i,z,hi,cd,gd,hz,i9,_⟩:=Ku (Uv he)
 have iw:z.cells.size=t.size:=by rw[← ac9,i9,E7]
 have sk:=Bar i9 n
 rw[iw] at sk
 have cj:B7 (DR w (okL K S γ ⟨[],[]⟩ true) t) t.size (madeCells z.cells (n*t.size)).toList (List.replicate n t.zero):=by
  rw[sk];exact B7.replicate (E7 t) (DR.zero t) n
 obtain⟨rows,fr,c,l1,cells,hl,g2,g3,g4,g5,g6,g7,g8⟩:=Ap2 h ps.toList (List.replicate n t.zero) true ⟨[],[]⟩ (madeCells z.cells (n*t.size)) hc (by simp) (Xr.start S true) cj hl
 obtain⟨e1,_⟩:=hl
 cases e1
 have hmv:Cx c.ups=[]:=g4
 have ud:cells.size=n*t.size:=by rw[g7];exact size_madeCells _ _
 have gf:(ps.map fun (i,x)=>(i,a.eval x)).toList=ps.toList.map fun p=>(p.1,a.eval p.2):=by simp
 have cw:(Instr.buildSlice T n (ps.map fun (i,x)=>(i,a.eval x))).run K.P w=.ok (.slice (some ⟨w.heap.size,0,none⟩) n n) (w.alloc (.cells cells e)):=by
  have aw7:¬ n*i.size>2 ^ 24:=by rw[cd];omega
  by_cases hn:n=0
  ·subst hn
   have so:ps=#[]:=by
    rcases Nat.eq_zero_or_pos ps.size with h0|h0
    ·exact am7 h0
    ·have:=(hc ps[0] (by simp)).2
     omega
   subst so
   have ue:cells=#[]:=am7 (by rw[ud];simp)
   subst ue
   simp[Instr.buildSlice,ab9 ht,sizeOf,typeInfo,hi,newRow,Instr.fill,Array.range_zero']
  ·have xn:¬ n*i.size=0:=by rw[cd];exact Nat.mul_ne_zero hn (by omega)
   refine run_buildSlice w T e n _ cells i z ht hi hz aw7 xn ?_
   rw[cd,gf]
   exact g6
 have kp:(execOp a.eval o).run K.P w=.ok (.value (.slice (some ⟨w.heap.size,0,none⟩) n n)) (w.alloc (.cells cells e)):=by
  simp only[execOp,ho,ac7,cw,ab7,af3]
 have ba:K.base≤w.heap.size:=h.frame.size
 have dx:∀ b,b<w.heap.size→(w.alloc (.cells cells e)).heap[b]?=w.heap[b]?:=fun b hb=>Aq3 w _ b hb
 obtain⟨ah,γ',r1,r2,r3,_⟩:=h.after hB g2 (w':=w.alloc (.cells cells e)) (M:=[(base,.sli 0 fr t rows,.slice (some ⟨w.heap.size,0,none⟩) n n)])
  (ok:=fun f b=>okL K S γ c f b∧b<w.heap.size) (by simp) (fun b hb _=>dx b hb) ⟨rfl,rfl,rfl⟩
  (fun p hp=>by
   obtain rfl:=ac3.1 hp
   exact .inl bw)
  (fun p hp=>by
   obtain rfl:=ac3.1 hp
   trivial)
  (by simp) (by simp[I7.blk,Bc])
  (fun g hg=>by
   simp[I7.blk,Bc] at hg
   exact .inr (by omega))
  (fun f b ⟨hb,ar⟩=>by
   refine⟨?_,hb.2.1,hb.2.2,fun id dj=>?_⟩
   ·simp[I7.blk,Bc];omega
   ·obtain⟨j1,j2,j3⟩:=Wv (g2.left id) dj
    have:=Auo g2 (hb.1 id j1) (γ id)
    rw[this] at dj
    cases dj)
  (fun K' E hp p iu=>by
   obtain rfl:=ac3.1 iu
   obtain⟨a1,a2,a3⟩:=hp.at_ _ (ac3.2 rfl)
   have a2:E.γ base=_:=a2
   refine .inr ⟨w.heap.size,n,cells,e,by rw[a2,g5],by rw[hp.w];exact aq3 w _,by rw[g5];exact ab4 _,?_,ud,?_,fun _=>by rw[hp.base];exact ba⟩
   ·have:n*1≤n*t.size:=ae8 _ dr
    simp only[maxLen]
    omega
   ·rw[aa8 (by rw[ac9,ud,g5];exact ab4 _),hp.w]
    exact g8.mono fun _ _ hd=>DR.move (fun b hb ho=>⟨hp.ok _ _ ⟨ho,hb⟩,dx b hb⟩) hd)
 have ak:Da (I7.ups [(base,Obj.sli 0 fr t rows,Value.slice (some ⟨w.heap.size,0,none⟩) n n)]) (Da c.ups S.objs)=Da ((base,some (.sli 0 fr t rows))::c.ups) S.objs:=rfl
 rw[ak] at r1 r2
 refine⟨_,_,_,ah,γ',kp,.inl rfl,?_,r1,fun id v hv=>?_⟩
 ·obtain⟨a1,a2,a3⟩:=r2.at_ _ (ac3.2 rfl)
  have a2:γ' base=_:=a2
  exact Df (a:=.own base 0) ⟨a3,_,rfl,rfl,fun _ _ _=>a2.symm⟩ rfl rfl
 ·rcases r3 id v hv with hv | ⟨p,hp,rfl⟩
  ·exact .inl ⟨v,hv⟩
  ·obtain rfl:=ac3.1 hp
   exact .inr ⟨rfl,rfl⟩
theorem Bs5(h:Gd K S used γ a w)(hB:∀ b,K.B b→b<K.base){T:TypeId}{n:Nat}{ps:Array (Nat×Operand)}{t:Ty}(ho:o.op=.build T ps)(hc:∀ p∈ps.toList,A1 p.2=true∧p.1<n)
  (hT:U2 K.P (.arr n t) T=true)
  (hl:A6 K.C S.objs (Ai3 t (Vj (fun p=>(p.1,S.eval p.2)) ps.toList) (List.replicate n t.zero) true ⟨[],[]⟩ fun rows fr c=>.done (.d fr (.arr n t) rows,c.ups)) [] (v,u) l) :
  Qm K S used γ a w o v u base:=by
 rw[Bej] at hl
 obtain⟨qq,z,i1,i2,_,i3,i4,i5⟩:=Ku (Uv hT)
 obtain⟨e,u1,u2⟩:=Afg hT
 obtain⟨ie,ze,j1,j2,_⟩:=Ku (Uv u2)
 have cj:B7 (DR w (okL K S γ ⟨[],[]⟩ true) t) t.size z.cells.toList (List.replicate n t.zero):=by
  rw[i4]
  have hz:DR w (okL K S γ ⟨[],[]⟩ true) (.arr n t) _ _:=DR.zero (.arr n t)
  exact hz.2
 obtain⟨rows,fr,c,l1,cells,hl,g2,g3,g4,g5,g6,g7,g8⟩:=Ap2 h ps.toList (List.replicate n t.zero) true ⟨[],[]⟩ z.cells hc (by simp) (Xr.start S true) cj hl
 obtain⟨e1,_⟩:=hl
 cases e1
 have gf:(ps.map fun (i,x)=>(i,a.eval x)).toList=ps.toList.map fun p=>(p.1,a.eval p.2):=by simp
 have f9:K.P.built T (ps.map fun (i,x)=>(i,a.eval x)).toList=some cells:=by
  rw[gf]
  simp only[Program.built,i1,u1,i3,j1,j2]
  exact g6
 have kp:(execOp a.eval o).run K.P w=.ok (.value (.agg cells)) w:=by
  simp only[execOp,ho,ac7,run_build w T _ cells f9,ab7,af3]
 obtain⟨ah,γ',r1,r2,r3,_⟩:=h.after hB g2 (w':=w) (M:=[]) (ok:=fun f b=>okL K S γ c f b) (ab4 _) (fun b hb _=>rfl) ⟨rfl,rfl,rfl⟩
  (fun p hp=>by cases hp) (fun p hp=>by cases hp) (by simp) (by simp[I7.blk]) (fun g hg=>by simp[I7.blk] at hg)
  (fun f b hb=>by
   refine⟨by simp[I7.blk],hb.2.1,hb.2.2,fun id dj=>?_⟩
   obtain⟨j1,j2,j3⟩:=Wv (g2.left id) dj
   have:=Auo g2 (hb.1 id j1) (γ id)
   rw[this] at dj
   cases dj)
  (fun K' E hp p iu=>by cases iu)
 have ak:Da (I7.ups []) (Da c.ups S.objs)=Da c.ups S.objs:=rfl
 rw[ak] at r1 r2
 refine⟨_,_,_,ah,γ',kp,.inl rfl,?_,r1,fun id v hv=>?_⟩
 ·refine Aop (t:=.arr n t) (by simp[Bg,Ty.beq_iff]) ?_ rfl
  exact⟨g5,g8.mono fun _ _ hd=>DR.mono (fun b hb=>r2.ok _ _ hb) hd⟩
 ·rcases r3 id v hv with hv | ⟨p,hp,_⟩
  ·exact .inl ⟨v,hv⟩
  ·cases hp
end
end Go.Pon
namespace Go.Pon
open Go
def Bvs(P:Program)(k:IntKind)(t:Ty)(T:TypeId):Bool :=
 match P.underlying T with
 | some (.map a b)=>(match P.underlying a with
  | some (.int l)=>kEq k l
  | _=>false)&&U2 P t b
 | _=>false
theorem Bgw{P:Program}{k:IntKind}{t:Ty}{T:TypeId}(h:Bvs P k t T=true) :
  ∃ a b,P.underlying T=some (.map a b)∧P.underlying a=some (.int k)∧U2 P t b=true:=by
 unfold Bvs at h
 split at h
 ·rename_i a b hT
  simp only[aa5] at h
  obtain⟨h1,h2⟩:=h
  split at h1
  ·rename_i l hl
   exact⟨a,b,hT,by rw[And.1 h1];exact hl,h2⟩
  ·cases h1
 ·cases h
theorem Ayq{w:World}{k:IntKind}{t:Ty}{x:Int}:∀ {es:List MapEntry} {l:List (Int×t.den)} (i:Nat),Auv w k t es l →
  (Instr.findNow (.int k) (.int k x) es i=some none∧(∀ d,Ug d l x=d)∧∀ y,Kr l x y=l++[(x,y)]) ∨
  ∃ j e,Instr.findNow (.int k) (.int k x) es i=some (some (i+j,e.val))∧es[j]?=some e∧e.key=.int k x ∧
   (∀ d,DR w (fun _=>False) t e.val.cells.toList (Ug d l x))∧Ck e.val=t.agg ∧
   ∀ (v':Value) (y:t.den),inK k x→DR w (fun _=>False) t v'.cells.toList y→Ck v'=t.agg→Auv w k t (es.set j { e with key:=.int k x,val:=v' }) (Kr l x y)
 | [],[],i,_=>.inl ⟨rfl,fun _=>rfl,fun _=>rfl⟩
 | e::es,p::l,i,⟨h1,h2,h3,h4,h5⟩=>by
  by_cases hx:p.1=x
  ·subst hx
   refine .inr ⟨0,e,by simp[Instr.findNow,Instr.sameNow,h1],rfl,h1,fun d=>?_,h4,fun v' y hk hd ha=>?_⟩
   ·have:Ug d (p::l) p.1=p.2:=by simp[Ug]
    rw[this];exact h3
   ·have:Kr (p::l) p.1 y=(p.1,y)::l:=by simp[Kr]
    rw[this]
    exact⟨rfl,hk,hd,ha,h5⟩
  ·have hs:Instr.sameNow (.int k) (.int k x) e.key=some false:=by
    rw[h1]
    simp[Instr.sameNow]
    exact fun h=>hx h.symm
   have hg:∀ d,Ug d (p::l) x=Ug d l x:=fun d=>by simp[Ug,hx]
   have hp:∀ y,Kr (p::l) x y=p::Kr l x y:=fun y=>by simp[Kr,hx]
   rcases Ayq (x:=x) (i+1) h5 with⟨k1,k2,k3⟩ | ⟨j,e',k1,k2,k3,k4,k5,k6⟩
   ·exact .inl ⟨by simp only[Instr.findNow,hs,k1],fun d=>by rw[hg,k2],fun y=>by rw[hp,k3];rfl⟩
   ·refine .inr ⟨j+1,e',by simp only[Instr.findNow,hs,k1];congr 3;omega,by simpa using k2,k3,fun d=>by rw[hg];exact k4 d,k5,fun v' y hk hd ha=>?_⟩
    rw[hp]
    exact⟨h1,h2,h3,h4,k6 v' y hk hd ha⟩
 | [],_::_,_,h=>h.elim
 | _::_,[],_,h=>h.elim
theorem Auv.snoc{w:World}{k:IntKind}{t:Ty}{e:MapEntry}{p:Int×t.den}(h1:e.key=.int k p.1)(h2:inK k p.1)(h3:DR w (fun _=>False) t e.val.cells.toList p.2)(h4:Ck e.val=t.agg) :
  ∀ {es:List MapEntry} {l:List (Int×t.den)},Auv w k t es l→Auv w k t (es++[e]) (l++[p])
 | [],[],_=>⟨h1,h2,h3,h4,trivial⟩
 | _::_,_::_,⟨k1,k2,k3,k4,k5⟩=>⟨k1,k2,k3,k4,Auv.snoc h1 h2 h3 h4 k5⟩
 | [],_::_,h=>h.elim
 | _::_,[],h=>h.elim
theorem Auv.len{w:World}{k:IntKind}{t:Ty}:∀ {es:List MapEntry} {l:List (Int×t.den)},Auv w k t es l→es.length=l.length
 | [],[],_=>rfl
 | _::_,_::_,⟨_,_,_,_,h⟩=>by simp[Auv.len h]
 | [],_::_,h=>h.elim
 | _::_,[],h=>h.elim
section
variable {K:Dg} {S:St} {used:Id→Nat→Prop} {γ:Id→Value} {a:Act} {w:World} {o:Oper} {base:Id} {v:AV} {u:Pm} {l:List Id}
def Aqb(w:World)(g:Nat)(o:Go.Obj):World:={ w with heap:=w.heap.setIfInBounds g o }
theorem Avu(w:World)(g b:Nat)(o:Go.Obj)(h:b≠g):(Aqb w g o).heap[b]?=w.heap[b]?:=by simp[Aqb,Ne.symm h]
theorem Bxi(h:Gd K S used γ a w)(hB:∀ b,K.B b→b<K.base)(bw:∀ v,¬ used base v){T:TypeId}{k:IntKind}{t:Ty}(ho:o.op=.makeMap T none)(hf:t.flat=true) :
  Qm K S used γ a w o (.mapp base) [(base,some (.mpo k t []))] base:=by
 have ba:K.base≤w.heap.size:=h.frame.size
 have bd:=h.new (w':=w.alloc (.map #[] 0)) (id:=base) (o:=.mpo k t []) (hv:=.map (some w.heap.size)) bw (fun g hg=>by
   simp[Bc] at hg
   exact⟨hg.symm,fun hb=>by have:=hB _ hb;omega⟩) (by simp) (fun b hb=>Aq3 w _ b hb) (h.frame.alloc _)
  (fun E' dl hE=>by
   have jq:E'.w=w.alloc (.map #[] 0):=by rw[hE];rfl
   have hγ:E'.γ base=.map (some w.heap.size):=by rw[hE];exact aa0 rfl
   exact⟨hf,w.heap.size,#[],0,hγ,by rw[jq];exact aq3 w _,trivial⟩)
 refine⟨_,.map (some w.heap.size),_,_,_,?_,.inl rfl,?_,bd,?_⟩
 ·simp only[execOp,ho,ac7,Option.map_none,show (Instr.makeMap T none).run K.P w=.ok (.map (some w.heap.size)) (w.alloc (.map #[] 0)) from rfl,ab7,af3]
 ·exact Df (a:=.mapp base) ⟨.inr ⟨rfl,rfl⟩,_,rfl,rfl,fun _ _ _=>(aa0 rfl:upd γ base (Value.map (some w.heap.size)) base=_).symm⟩ rfl rfl
 ·rintro id v (hv | ⟨rfl,rfl⟩)
  ·exact .inl ⟨v,hv⟩
  ·exact .inr ⟨rfl,rfl⟩
theorem Bgs(h:Gd K S used γ a w){x:AV}{val:Value}(hv:Dn (A3 K S.objs used γ w) x val){m:Option (IntKind×Ty)}{kk:Id→(t:Ty)→IntKind→List (Int×t.den)→OpV}{l0:List Id}
  (hl:A6 K.C S.objs (Cg7 x m kk) l0 (v,u) l) :
  ∃ id k t xs g es clock l1,m=some (k,t)∧t.flat=true∧Ak S.objs id=some (.mpo k t xs)∧γ id=.map (some g)∧val=.map (some g)∧w.heap[g]?=some (.map es clock)∧Auv w k t es.toList xs ∧
   A6 K.C S.objs (kk id t k xs) l1 (v,u) l:=by
 unfold Cg7 at hl
 split at hl
 ·rename_i id k t
  obtain⟨ob,ak,hl⟩:=hl
  dsimp only at hl
  split at hl
  ·rename_i k' u' xs
   split at hl
   ·rename_i y h1 hy
    obtain⟨e,rfl⟩:=Cu hy
    cases e
    simp only[aa5] at h1
    obtain rfl:=And.1 h1.1
    obtain⟨h0,g,es,clock,p1,p2,p3⟩:=h.objs id _ ak
    have p1:γ id=_:=p1
    obtain⟨⟨_,v0,e0,_,ct⟩,ha⟩:Ev _ (.mapp id) val:=hv
    have hc:val.cells.toList=[val]:=Bm ha.symm
    rw[hc] at e0
    have e0:val=v0:=by simpa using e0
    subst e0
    have aq:val=γ id:=ct _ _ ⟨xs,ak⟩
    exact⟨id,k',t,xs,g,es,clock,_,rfl,h0,ak,p1,aq.trans p1,p2,p3,hl⟩
   ·exact hl.elim
  ·exact hl.elim
 ·exact hl.elim
theorem Bw3(h:Gd K S used γ a w){T:TypeId}{m x:Operand}(ho:o.op=.lookup T m x false)(hm:A1 m=true)(hx:A1 x=true)
  (hT:∀ k t,K.G.mapT T=some (k,t)→Bvs K.P k t T=true) (hl:A6 K.C S.objs (Buh (S.eval m) (K.G.mapT T) (S.eval x)) [] (v,u) l):Qm K S used γ a w o v u base:=by
 unfold Buh at hl
 obtain⟨id,k,t,xs,g,es,clock,l1,xo,h0,ak,p1,aq,p2,p3,hl⟩:=Bgs h (Bo h m hm) hl
 obtain⟨ta,tb,t1,t2,t3⟩:=Bgw (hT k t xo)
 split at hl
 ·rename_i k' n uf
  obtain⟨hxv,hxk⟩:=Ge uf (Bo h x hx)
  cases hk:kEq k' k with
  | false=>rw[hk] at hl;exact hl.elim
  | true =>
   rw[hk] at hl
   obtain rfl:=And.1 hk
   obtain⟨e,_⟩:=hl
   cases e
   have nf:(Instr.checkKey es.isEmpty 10000 ta (.int k' n)).run K.P w=.ok () w:=MapKept.run_checkKey t2 (show MapKept.IsKey (.int k') (.int k' n) from rfl) _ 9999
   have dw:=MapKept.run_getObj_map (P:=K.P) p2
   obtain⟨z,z1,z2,z3⟩:=Azd (P:=K.P) w t3
   have key:∀ dt,(Instr.lookup T (.map (some g)) (.int k' n) false).run K.P w=.ok dt w→DR w (fun _=>False) t dt.cells.toList (Ug t.zero xs n)→Ck dt=t.agg →
     Qm K S used γ a w o (.d true t (Ug t.zero xs n)) [] base:=by
    intro dt cw hd ha
    refine⟨_,dt,w,used,γ,?_,.inl rfl,?_,h,fun id v hv=>.inl ⟨v,hv⟩⟩
    ·simp only[execOp,ho,aq,hxv,ac7,cw,ab7,af3]
    ·exact Aop (t:=t) (by simp[Bg,Ty.beq_iff]) (DR.flat h0 hd) ha
   rcases Ayq 0 p3 (x:=n) with⟨k1,k2,_⟩ | ⟨j,e,k1,k2,k3,k4,k5,_⟩
   ·refine key z ?_ ?_ z3
    ·have oh:=as9 (w:=w) t2 k1
     simp[Instr.lookup,ab9 t1,dw,nf,oh,z1,Result.andThen]
    ·rw[k2,z2];exact DR.zero t
   ·refine key e.val ?_ (k4 _) k5
    have oh:=as9 (w:=w) t2 k1
    simp[Instr.lookup,ab9 t1,dw,nf,oh,Result.andThen]
 ·exact hl.elim
theorem Bzt(h:Gd K S used γ a w){c:Call}{T:TypeId}{x:Operand}(ho:o.op=.call c)(hc:c.callee=.builtin .len)(jt:c.args.toList=[x])(ba3:c.argTypes.toList=[T])(hx:A1 x=true)
  (hT:∀ k t,K.G.mapT T=some (k,t)→Bvs K.P k t T=true) (hl:A6 K.C S.objs (Bzg (S.eval x) (K.G.mapT T)) [] (v,u) l) :
  ∃ n:Int,v=Ur .i64 n∧u=[]∧inK .i64 n∧∀ ty,(Builtin.len_ #[T] ty #[a.eval x]).run K.P w=.ok (.int .i64 n) w:=by
 unfold Bzg at hl
 obtain⟨id,k,t,xs,g,es,clock,l1,xo,h0,ak,p1,aq,p2,p3,hl⟩:=Bgs h (Bo h x hx) hl
 obtain⟨ta,tb,t1,t2,t3⟩:=Bgw (hT k t xo)
 obtain⟨hq,hl⟩:=C7 hl
 simp only[ac4] at hq
 obtain⟨e,_⟩:=hl
 cases e
 refine⟨_,rfl,rfl,⟨?_,?_⟩,fun ty=>?_⟩
 ·simp only[IntKind.min,IntKind.signed,IntKind.bits];simp
 ·simp only[IntKind.max,IntKind.signed,IntKind.bits];simp;omega
 ·have ag:=p3.len
  simp only[ac9] at ag
  rw[aq]
  simp[Builtin.len_,ab9 t1,MapKept.run_getObj_map p2,goInt,Result.andThen,ag]
theorem Gd.setMap(h:Gd K S used γ a w){id:Id}{k:IntKind}{t:Ty}{xs ys:List (Int×t.den)}{g:Nat}{es:Array MapEntry}{clock:Nat}(ho:Ak S.objs id=some (.mpo k t xs))(hf:t.flat=true)(hγ:γ id=.map (some g))
  (hb:w.heap[g]?=some (.map es clock)) {oi:Array MapEntry} {dk:Nat} (hr:Auv w k t oi.toList ys) :
  Gd K { S with objs:=(id,some (.mpo k t ys))::S.objs } used γ a (Aqb w g (.map oi dk)):=by
 have ap:∀ j,Ak ((id,some (.mpo k t ys))::S.objs) j=if id=j then some (.mpo k t ys) else Ak S.objs j:=fun j=>Mp ..
 have oc:Bc (Ak S.objs id) (γ id)=some g:=by rw[ho,hγ];rfl
 have da:∀ j b,Bc (Ak ((id,some (.mpo k t ys))::S.objs) j) (γ j)=some b→Bc (Ak S.objs j) (γ j)=some b:=by
  intro j b hb
  rw[ap] at hb
  by_cases e:id=j
  ·subst e
   rw[aa0 rfl,hγ] at hb
   rw[oc]
   exact hb
  ·rwa [aa1 e] at hb
 have hgs:(Aqb w g (.map oi dk)).heap[g]?=some (.map oi dk):=(MapKept.heap_set hb).1
 have hs:Um (A3 K S.objs used γ w) (A3 K ((id,some (.mpo k t ys))::S.objs) used γ (Aqb w g (.map oi dk))):=by
  refine⟨by simp[A3,Aqb],fun fr b hb bj=>⟨⟨fun j hj=>bj.1 j (da j b hj),bj.2⟩,Avu w g b _ fun e=>bj.1 id (e▸oc)⟩,fun _ _ h=>h,fun j v hj t' n bo=>⟨?_,rfl⟩,fun j hj t' bh=>⟨?_,rfl⟩,fun j hj kk t' bh=>⟨?_,rfl⟩⟩
  ·have bo:Ahd (Ak ((id,some (.mpo k t ys))::S.objs) j) v t' n:=bo
   rw[ap] at bo
   by_cases e:id=j
   ·subst e
    rw[aa0 rfl] at bo
    obtain⟨fr,rows,h1,h2⟩:=bo
    rcases h2 with h2|h2<;>cases h2
   ·rwa [aa1 e] at bo
  ·have bh:Awc (Ak ((id,some (.mpo k t ys))::S.objs) j) t':=bh
   rw[ap] at bh
   by_cases e:id=j
   ·subst e
    rw[aa0 rfl] at bh
    obtain⟨fr,c,h2⟩:=bh
    rcases h2 with h2|h2<;>cases h2
   ·rwa [aa1 e] at bh
  ·have bh:Bpi (Ak ((id,some (.mpo k t ys))::S.objs) j) kk t':=bh
   rw[ap] at bh
   by_cases e:id=j
   ·subst e
    rw[aa0 rfl] at bh
    obtain⟨c,h2⟩:=bh
    cases h2
    exact⟨xs,ho⟩
   ·rwa [aa1 e] at bh
 refine h.move hs (fun j oj hj=>?_) (fun j oj hj=>?_) (fun j ab fr t' rows v hj hu=>?_) (fun i j b hi hj=>h.sep i j b (da i b hi) (da j b hj)) (fun i b hi=>h.mod i b (da i b hi)) ?_
 ·rw[ap] at hj
  by_cases e:id=j
  ·rw[aa0 e] at hj;cases hj;subst e
   exact⟨hf,g,oi,dk,hγ,hgs,hr.world hf⟩
  ·rw[aa1 e] at hj
   refine OR.step hs rfl (fun b j9=>Avu w g b _ fun eb=>e ?_) (h.objs j oj hj)
   subst eb
   exact h.sep id j b oc (by rw[hj];exact j9)
 ·rw[ap] at hj
  by_cases e:id=j
  ·subst e;exact h.ou id _ ho
  ·rw[aa1 e] at hj;exact h.ou j oj hj
 ·rw[ap] at hj
  by_cases e:id=j
  ·subst e
   rw[aa0 rfl] at hj;cases hj
  ·rw[aa1 e] at hj;exact h.vers j ab fr t' rows v hj hu
 ·have hg:=(h.mod id g oc).1
  refine⟨h.frame.os,h.frame.tape,h.frame.output,?_,fun b hb hn=>?_⟩
  ·have:=h.frame.size;simpa [Aqb] using this
  ·rw[Avu w g b _ fun e=>by
    subst e
    rcases hg with hg|hg
    ·have:K.base=K.w0.heap.size:=rfl
     omega
    ·exact hn hg]
   exact h.frame.block b hb hn
theorem Bsp(h:Gd K S used γ a w){T:TypeId}{m x y:Operand}(ho:o.op=.mapUpdate T m x y)(hm:A1 m=true)(hx:A1 x=true)(hy:A1 y=true)
  (hT:∀ k t,K.G.mapT T=some (k,t)→Bvs K.P k t T=true) (hl:A6 K.C S.objs (Bl2 (S.eval m) (K.G.mapT T) (S.eval x) (S.eval y)) [] (v,u) l):Qm K S used γ a w o v u base:=by
 unfold Bl2 at hl
 obtain⟨id,k,t,xs,g,es,clock,l1,xo,h0,ak,p1,aq,p2,p3,hl⟩:=Bgs h (Bo h m hm) hl
 obtain⟨ta,tb,t1,t2,t3⟩:=Bgw (hT k t xo)
 have hyv:=Bo h y hy
 split at hl
 ·rename_i k' n fr u' z uf hy'
  obtain⟨hxv,hxk⟩:=Ge uf (Bo h x hx)
  split at hl
  ·rename_i z' hz
   obtain⟨e,rfl⟩:=Cu hz
   subst e
   cases hk:kEq k' k with
   | false=>rw[hk] at hl;exact hl.elim
   | true =>
    rw[hk] at hl
    obtain rfl:=And.1 hk
    obtain⟨e,_⟩:=hl
    cases e
    rw[hy'] at hyv
    obtain⟨f1,f2⟩:=Aii (t:=u') (by simp[Bg,Ty.beq_iff]) hyv
    have hd:DR w (fun _=>False) u' (a.eval y).cells.toList z:=DR.flat h0 f1
    have nf:(Instr.checkKey false 10000 ta (.int k' n)).run K.P w=.ok () w:=MapKept.run_checkKey t2 (show MapKept.IsKey (.int k') (.int k' n) from rfl) _ 9999
    have dw:=MapKept.run_getObj_map (P:=K.P) p2
    have ci:(Instr.keyThatStays (.int k' n) (.int k' n)).run K.P w=.ok (.int k' n) w:=MapKept.run_keyThatStays (show MapKept.IsKey (.int k') (.int k' n) from rfl)
    have key:∀ oi dk,(Instr.mapUpdate T (.map (some g)) (.int k' n) (a.eval y)).run K.P w=.ok () (Aqb w g (.map oi dk))→Auv w k' u' oi.toList (Kr xs n z) →
      Qm K S used γ a w o .any [(id,some (.mpo k' u' (Kr xs n z)))] base:=by
     intro oi dk cw hr
     refine⟨.skip,undef,Aqb w g (.map oi dk),used,γ,?_,.inr ⟨rfl,rfl⟩,trivial,h.setMap ak h0 p1 p2 hr,fun id v hv=>.inl ⟨v,hv⟩⟩
     simp only[execOp,ho,aq,hxv,ac7,cw,ab7,af3]
    rcases Ayq 0 p3 (x:=n) with⟨k1,_,k3⟩ | ⟨j,e,k1,k2,k3,_,_,k6⟩
    ·have oh:=as9 (w:=w) t2 k1
     refine key (es.push ⟨.int k' n,a.eval y,clock⟩) (clock+1) ?_ ?_
     ·simp[Instr.mapUpdate,ab9 t1,dw,nf,oh,MapKept.run_setObj_map _ p2,Result.andThen,Aqb]
     ·rw[k3,Array.toList_push]
      exact Auv.snoc rfl hxk hd f2 p3
    ·have oh:=as9 (w:=w) t2 k1
     rw[af1] at oh
     have hj:es[j]?=some e:=by simpa using k2
     have xq:(es.modify j (fun e'=>{ e' with key:=.int k' n,val:=a.eval y })).toList=es.toList.set j { e with key:=.int k' n,val:=a.eval y }:=by
      rw[Array.toList_modify,ChangeMaps.modify_eq_set _ _ _ _ k2]
     refine key (es.modify j (fun e'=>{ e' with key:=.int k' n,val:=a.eval y })) clock ?_ ?_
     ·simp[Instr.mapUpdate,ab9 t1,dw,nf,oh,hj,k3,ci,MapKept.run_setObj_map _ p2,Result.andThen,Aqb]
     ·rw[xq]
      exact k6 _ _ hxk hd f2
  ·exact hl.elim
 ·exact hl.elim
end
end Go.Pon
namespace Go.Pon
open Go
structure Dg.OK(K:Dg):Prop where
 below:∀ b,K.B b→b<K.base
 depth:64≤K.P.depth
 ty:∀ T t,K.G.ty T=some t→U2 K.P t T=true
 sig:∀ f s,K.G.sig f=some s→(∀ m∈s.ins,m.insOK=true)∧A7 K.P f s (K.C f s)
 map:∀ T k t,K.G.mapT T=some (k,t)→Bvs K.P k t T=true
 vsig:∀ f g v s y,K.G.vfor f g=some (v,s,y)→(∀ m∈s.ins,m.insOK=true)∧VOK K.P y s (K.C v s)
def Chu:Option Operand→Bool
 | none=>true
 | some x=>A1 x
def But(o:Oper):Bool :=
 match o.op with
 | .move x=>A1 x
 | .assign x=>A1 x
 | .pick c a b=>A1 c&&A1 a&&A1 b
 | .alloc _=>true
 | .box _ x=>A1 x
 | .build _ ps=>Sc (fun p=>A1 p.2) ps.toList
 | .buildSlice _ n ps=>Sc (fun p=>A1 p.2&&Nat.blt p.1 n) ps.toList
 | .makeSlice _ x y=>A1 x&&A1 y
 | .load _ a=>A1 a
 | .store _ a x=>A1 a&&A1 x
 | .nilCheck x=>A1 x
 | .binOp _ _ x y _=>A1 x&&A1 y
 | .unOp _ _ x=>A1 x
 | .convert _ _ x=>A1 x
 | .slice _ x lo hi mx=>A1 x&&Chu lo&&Chu hi&&Chu mx
 | .fieldAddr _ x _=>A1 x
 | .field _ x _=>A1 x
 | .indexAddr _ x i=>A1 x&&A1 i
 | .index _ x i=>A1 x&&A1 i
 | .extract x _=>A1 x
 | .makeFunc _ _ caps=>Sc A1 caps.toList
 | .makeMap _ r=>true
 | .lookup _ m x _=>A1 m&&A1 x
 | .mapUpdate _ m x y=>A1 m&&A1 x&&A1 y
 | .call c=>Sc A1 c.args.toList&&(match c.callee with
  | .value x=>A1 x
  | _=>true)
 | _=>true
section
variable {K:Dg} {S:St} {used:Id→Nat→Prop} {γ:Id→Value} {a:Act} {w:World} {o:Oper} {base:Id} {v:AV} {u:Pm} {l:List Id}
theorem Baf{C:Gi}{objs:Pm}{x:Option AV}{l0:List Id}(h:A6 C objs (Caz x) l0 (v,u) l):x=some v∧u=[]:=by
 cases x with
 | none=>exact h.elim
 | some y=>obtain⟨e,_⟩:=h;cases e;exact⟨rfl,rfl⟩
theorem Aed{o:Option Ty}{t:Ty}(h:Bno o=some t):o=some (.slice t):=by
 unfold Bno at h
 split at h
 ·cases h;rfl
 ·cases h
theorem Cmz(h:Gd K S used γ a w)(hK:K.OK)(hu:∀ v,¬ used base v)(aw:But o=true)(mu:∀ c,o.op≠.call c)(hnv:∀ s d x,o.op≠.convert s d x)
  (hl:A6 K.C S.objs (Ah8 K.G o S.eval base) [] (v,u) l):Qm K S used γ a w o v u base:=by
 unfold But at aw
 unfold Ah8 at hl
 cases ho:o.op with
 | move x=>rw[ho] at hl aw;obtain⟨e,_⟩:=hl;cases e;exact Bx7 h (.inl ho) aw
 | assign x=>rw[ho] at hl aw;obtain⟨e,_⟩:=hl;cases e;exact Bx7 h (.inr ho) aw
 | pick c x y =>
  rw[ho] at hl aw
  simp only[aa5] at aw
  dsimp only at hl
  split at hl
  ·rename_i q hq
   exact Ce6 h ho aw.1.1 aw.1.2 aw.2 hq hl
  ·exact hl.elim
 | alloc e =>
  rw[ho] at hl
  dsimp only at hl
  split at hl
  ·rename_i t ht
   obtain⟨e,_⟩:=hl;cases e
   exact Ceh h hK.below hu ho (hK.ty _ _ ht)
  ·exact hl.elim
 | box e x =>
  rw[ho] at hl aw
  dsimp only at hl
  split at hl
  ·rename_i t ht
   cases hf:Bg t (S.eval x) with
   | false=>rw[hf] at hl;exact hl.elim
   | true =>
    rw[hf] at hl
    obtain⟨e,_⟩:=hl;cases e
    exact Cim h hK.below hu ho aw hf
  ·exact hl.elim
 | build T ps =>
  rw[ho] at hl aw
  dsimp only at hl
  split at hl
  ·rename_i t ht
   split at hl
   ·rename_i n t
    cases hq:t.bare with
    | true =>
     rw[hq] at hl
     obtain⟨e,rfl⟩:=Baf hl
     exact Bp7 h ho (Hf.1 aw) (hK.ty _ _ ht) e
    | false =>
     rw[hq] at hl
     cases hr:Sc (fun p:Nat×Operand=>Nat.blt p.1 n) ps.toList with
     | false=>rw[hr] at hl;exact hl.elim
     | true =>
      rw[hr] at hl
      exact Bs5 h hK.below ho (fun p hp=>⟨Hf.1 aw p hp,by simpa only [at5] using Hf.1 hr p hp⟩) (hK.ty _ _ ht) hl
   ·obtain⟨e,rfl⟩:=Baf hl
    exact Bp7 h ho (Hf.1 aw) (hK.ty _ _ ht) e
  ·exact hl.elim
 | buildSlice T n ps =>
  rw[ho] at hl aw
  dsimp only at hl
  split at hl
  ·rename_i t ht
   cases hq:(Nat.ble (n*t.size) 16777216&&Nat.blt 0 t.size) with
   | false=>rw[hq] at hl;exact hl.elim
   | true =>
    rw[hq] at hl
    simp only[aa5,Nat.ble_eq,at5] at hq
    refine Bnt h hK.below hu ho (fun p hp=>?_) (hK.ty _ _ (Aed ht)) hq.1 hq.2 hl
    have:=Hf.1 aw p hp
    simpa only [aa5,at5] using this
  ·exact hl.elim
 | makeSlice T x y =>
  rw[ho] at hl aw
  simp only[aa5] at aw
  dsimp only at hl
  split at hl
  ·rename_i t k lo k' c ht hx hy
   cases ju:K.G.cut with
   | true =>
    rw[ju] at hl
    obtain⟨hq,hl⟩:=C7 hl
    simp only[aa5,ac4] at hq
    obtain⟨e,_⟩:=hl;cases e
    obtain⟨⟨⟨q1,q2⟩,q3⟩,q4⟩:=hq
    subst q2
    exact Btg h hK.below hu ho (hK.ty _ _ (Aed ht)) (Ge hx (Bo h x aw.1)).1 (Ge hy (Bo h y aw.2)).1 q1 q3
   | false =>
   rw[ju] at hl
   obtain⟨hq,hl⟩:=C7 hl
   simp only[aa5,ac4] at hq
   obtain⟨e,_⟩:=hl;cases e
   exact Bpm h hK.below hu ho (hK.ty _ _ (Aed ht)) (Ge hx (Bo h x aw.1)).1 (Ge hy (Bo h y aw.2)).1 hq.1.1.1 hq.1.1.2 hq.1.2
  ·exact hl.elim
 | load T x =>
  rw[ho] at hl aw
  dsimp only at hl
  split at hl
  ·rename_i t ht
   exact Ccj h ho aw (hK.ty _ _ ht) hl
  ·exact hl.elim
 | store T x y =>
  rw[ho] at hl aw
  simp only[aa5] at aw
  dsimp only at hl
  split at hl
  ·rename_i t ht
   exact Bzv h ho aw.1 aw.2 (hK.ty _ _ ht) hl
  ·exact hl.elim
 | binOp op T x y T' =>
  rw[ho] at hl aw
  simp only[aa5] at aw
  exact Chr h ho aw.1 aw.2 hK.ty hK.depth hl
 | unOp op T x =>
  rw[ho] at hl aw
  exact Ch6 h ho aw hl
 | fieldAddr T x n =>
  rw[ho] at hl aw
  exact Bmq h ho aw hK.ty hl
 | indexAddr T x i =>
  rw[ho] at hl aw
  simp only[aa5] at aw
  dsimp only at hl
  split at hl
  ·rename_i k n hi
   exact Bnd h ho aw.1 hK.ty (Ge hi (Bo h i aw.2)).1 hl
  ·exact hl.elim
 | field T x n =>
  rw[ho] at hl aw
  dsimp only at hl
  split at hl
  ·rename_i t y ht hy
   cases hb:(Bg t (S.eval x)&&N5 t n) with
   | false=>rw[hb] at hl;exact hl.elim
   | true =>
    rw[hb] at hl
    simp only[aa5] at hb
    obtain⟨e,_⟩:=hl;cases e
    exact Cdj h ho aw (hK.ty _ _ ht) hy hb.1 hb.2
  ·exact hl.elim
 | slice T x lo hi mx =>
  rw[ho] at hl aw
  simp only[aa5] at aw
  dsimp only at hl
  split at hl
  ·rename_i i j m h1 h2 h3
   have fv:∀ x,lo=some x→A1 x=true:=fun x hx=>by rw[hx] at aw;exact aw.1.1.2
   have lf:∀ x,hi=some x→A1 x=true:=fun x hx=>by rw[hx] at aw;exact aw.1.2
   have vl:∀ x,mx=some x→A1 x=true:=fun x hx=>by rw[hx] at aw;exact aw.2
   have key:A6 K.C S.objs (Be4 (S.eval x) (K.G.ty T) i j m) [] (v,u) l→Qm K S used γ a w o v u base:=by
    clear hl
    intro hl
    unfold Be4 at hl
    split at hl
    ·exact Blu h ho aw.1.1.1 fv lf h1 h2 vl h3 (.inl rfl) hK.ty (fun h=>by cases h) hl
    ·split at hl
     ·rename_i hh t hG
      obtain⟨hq,hk⟩:=C7 hl
      simp only[ac4] at hq
      subst hq
      rw[← hG] at hk
      exact Blu h ho aw.1.1.1 fv lf h1 h2 vl h3 (.inr ⟨rfl,t,hG⟩) hK.ty (fun _ h=>by cases h) hk
     ·exact hl.elim
   cases ju:K.G.cut with
   | false=>rw[ju] at hl;exact key hl
   | true =>
    rw[ju] at hl
    exact Byy h hK.below ho aw.1.1.1 fv lf h1 h2 vl h3 hK.ty (fun i' j' hk e1 e2=>by subst e1 e2;exact key hk) hl
  ·exact hl.elim
 | extract x n =>
  rw[ho] at hl aw
  dsimp only at hl
  split at hl
  ·rename_i t ht
   obtain⟨e,rfl⟩:=Baf hl
   exact Bvb h ho aw ht e
  ·exact hl.elim
 | makeFunc fn first caps =>
  rw[ho] at hl aw
  cases fn with
  | func f =>
   obtain⟨first⟩:=first
   cases first with
   | nil =>
    have hl:A6 K.C S.objs (bif Sc Bhe (Vj S.eval caps.toList) then .done (.fn f (Atm (Vj S.eval caps.toList)),[]) else .fail) [] (v,u) l:=hl
    cases hb:Sc Bhe (Vj S.eval caps.toList) with
    | false=>rw[hb] at hl;exact hl.elim
    | true =>
     rw[hb] at hl
     obtain⟨e,_⟩:=hl;cases e
     exact Buo h ho (Hf.1 aw) hb
   | cons _ _=>exact hl.elim
  | _=>exact hl.elim
 | nilCheck x =>
  rw[ho] at hl aw
  have hv:=Bo h x aw
  dsimp only at hl
  split at hl
  ·rename_i i p he
   obtain⟨t,h1,h2⟩:=Ce2 h hl
   obtain⟨e,_⟩:=h2;cases e
   rw[he] at hv
   obtain⟨_,hp⟩:=Abe hv
   obtain⟨g,u',_,_,_,p4⟩:=hp t h1
   have:=Aw2 h (base:=base) ho aw p4
   rwa [he] at this
  ·rename_i i ab j p he
   rw[he] at hv
   obtain⟨_,hp⟩:=Bfe hv
   have key:∀ t n,Ahd (Ak S.objs i) ab t n→Qm K S used γ a w o (.eptr i ab j p) [] base:=fun t n hs=>by
    obtain⟨_,g,m,cp,u',_,_,_,p4⟩:=hp t n hs
    have:=Aw2 h (base:=base) ho aw p4
    rwa [he] at this
   obtain⟨ob,ak,hl⟩:=hl
   dsimp only at hl
   split at hl
   ·rename_i af fr t rows
    cases hb:Nat.beq af ab with
    | false=>rw[hb] at hl;exact hl.elim
    | true =>
     rw[hb] at hl
     obtain⟨e,_⟩:=hl;cases e
     obtain rfl:=ab1 hb
     exact key t _ (Fp _ af fr t rows (.inl ak))
   ·rename_i af fr t rows
    cases hb:Nat.beq af ab with
    | false=>rw[hb] at hl;exact hl.elim
    | true =>
     rw[hb] at hl
     obtain⟨e,_⟩:=hl;cases e
     obtain rfl:=ab1 hb
     exact key t _ (Fp _ af fr t rows (.inr ak))
   ·exact hl.elim
  ·rename_i fr t y he
   obtain⟨e,_⟩:=hl;cases e
   rw[he] at hv
   obtain⟨ad,vs,p1,_⟩:=At2 hv
   have:=Aw2 h (base:=base) ho aw p1
   rwa [he] at this
  ·exact hl.elim
 | index T x i =>
  rw[ho] at hl aw
  simp only[aa5] at aw
  dsimp only at hl
  split at hl
  ·rename_i k n fr m t xs m' t' hi he ht
   cases hb:(Nat.beq m m'&&Ty.beq t t') with
   | false=>rw[hb] at hl;exact hl.elim
   | true =>
    rw[hb] at hl
    simp only[aa5] at hb
    obtain rfl:=ab1 hb.1
    obtain rfl:=Ty.beq_iff.1 hb.2
    obtain⟨h1,h2⟩:=C7 hl
    obtain⟨e,_⟩:=h2;cases e
    exact Bpu h ho aw.1 (hK.ty _ _ ht) (Ge hi (Bo h i aw.2)).1 he h1
  ·rename_i k n fr xs hi he ht
   obtain⟨h1,h2⟩:=C7 hl
   obtain⟨e,_⟩:=h2;cases e
   exact Bo5 h ho aw.1 (hK.ty _ _ ht) (Ge hi (Bo h i aw.2)).1 he h1
  ·exact hl.elim
 | makeMap T r =>
  rw[ho] at hl
  dsimp only at hl
  split at hl
  ·rename_i kk t hm
   cases hf:t.flat with
   | false=>rw[hf] at hl;exact hl.elim
   | true =>
    rw[hf] at hl
    obtain⟨e,_⟩:=hl;cases e
    exact Bxi h hK.below hu ho hf
  ·exact hl.elim
 | lookup T m x ok =>
  rw[ho] at hl aw
  simp only[aa5] at aw
  cases ok with
  | true=>exact hl.elim
  | false=>exact Bw3 h ho aw.1 aw.2 (hK.map T) hl
 | mapUpdate T m x y =>
  rw[ho] at hl aw
  simp only[aa5] at aw
  exact Bsp h ho aw.1.1 aw.1.2 aw.2 (hK.map T) hl
 | call c=>exact absurd ho (mu c)
 | convert s d x=>exact absurd ho (hnv s d x)
 | _=>rw[ho] at hl;exact hl.elim
end
end Go.Pon
namespace Go.Pon
open Go
section
variable {K:Dg} {S:St} {used:Id→Nat→Prop} {γ:Id→Value} {a:Act} {w:World} {o:Oper} {base:Id} {v:AV} {u:Pm} {l:List Id}
theorem Bpx(h:Gd K S used γ a w)(hK:K.OK)(hu:∀ id:Id,id.1=base.1→id.2.1=base.2.1→∀ v,¬ used id v){c:Call}{x:Operand}(ho:o.op=.call c)(hc:c.callee=.value x)(hx:A1 x=true)
  (ha:∀ y∈c.args.toList,A1 y=true) {f:FuncId} {c':AV} {cs:List AV} (hf:S.eval x=.fn f c') (er:Z1 c'=some cs) (hd:∀ d,o.dst=some d→K.dok d)
  (hl:A6 K.C S.objs (Cic K.G f (Da (Vj S.eval c.args.toList) cs) base) [] (v,u) l) {Q:Exit→Act→World→Prop} {k:Act→World→Prop}
  (hk:∀ ah γ' a' w',Axz used ah base→Gd K { S with env:=Ad5 S.env o.dst v,objs:=Da u S.objs } ah γ' a' w'→k a' w'):o.wp K.P a w k Q:=by
 have hv:=Bo h x hx
 rw[hf] at hv
 obtain⟨⟨vs,e1,e2⟩,e3⟩:=(show Ev _ (.fn f c') _ from hv)
 have e3:Ck (a.eval x)=false:=e3.symm
 have ex:a.eval x=.func (.func f) #[] vs:=by
  rw[Bm e3] at e1
  simpa using e1
 obtain⟨u1,u2⟩:=Bfp er e2
 have bd:∀ (i:Nat) (v:AV) (val:Value),(c.args.toList.map S.eval++cs)[i]?=some v→(c.args.toList.map a.eval++vs.toList)[i]?=some val→Dn (A3 K S.objs used γ w) v val:=fun i v val h1 h2=>by
  rcases ad3 i c.args.toList.length with hi|hi
  ·rw[ag9 (by simpa using hi)] at h1 h2
   rw[ag3] at h1 h2
   obtain⟨y,rd,rfl⟩:=ae0.1 h1
   rw[rd] at h2
   cases h2
   exact Bo h y (ha y (ar8 rd))
  ·rw[af5 (by simpa using hi)] at h1 h2
   simp only[ag7] at h1 h2
   exact u2 _ v val h1 h2
 rw[Adu,Bej] at hl
 have hr:Bm2 K.P f (c.args.toList.map a.eval++vs.toList) w fun val w'=>∃ ah γ',Dn (A3 K (Da u S.objs) ah γ' w') v val∧Gd K { S with objs:=Da u S.objs } ah γ' a w'∧Axz used ah base:=by
  unfold Cic at hl
  split at hl
  ·rename_i vi s y hs
   obtain⟨s1,s2⟩:=hK.vsig _ _ _ _ _ hs
   cases hf:Nat.beq y.f f with
   | false=>rw[hf] at hl;exact hl.elim
   | true =>
    rw[hf] at hl
    have hf:=ab1 hf
    have:=Byr h hK.below s2 s1 (act:=c.args.toList.map a.eval++vs.toList) (by simp[← u1]) bd hu hl
    rwa [hf] at this
  ·split at hl
   ·rename_i s hs
    obtain⟨s1,s2⟩:=hK.sig f s hs
    exact Ccz h hK.below s2 s1 (vals:=c.args.toList.map a.eval++vs.toList) (by simp[← u1]) bd hu hl
   ·exact hl.elim
 have kp:(execOp a.eval o).run K.P w=(callFunc f (c.args.toList.map a.eval++vs.toList).toArray).run K.P w:=by
  simp only[execOp,ho,resolve,hc,ex,Deferred.ofValue,ac7,af3,ab7,invoke]
  congr 2
  apply as0.1
  simp
 have cg:∀ val w',(∃ ah γ',Dn (A3 K (Da u S.objs) ah γ' w') v val∧Gd K { S with objs:=Da u S.objs } ah γ' a w'∧Axz used ah base)→k (a.put o.dst val) w':=by
  rintro val w' ⟨ah,γ',r1,r2,r3⟩
  exact hk ah γ' _ w' r3 (r2.put r1 o.dst hd)
 unfold Oper.wp
 rw[kp]
 rcases hr with⟨h1,h2⟩ | ⟨val,w',h1,h2⟩
 ·rw[h1,Oper.upon_enter]
  intro stack
  obtain⟨e,w',fr,k1,k2⟩:=h2 stack
  refine⟨e,w',fr,?_,k2⟩
  cases e with
  | returned val=>exact cg val w' k1
  | panicked _=>exact k1.elim
  | outgrown=>exact k1.elim
 ·rw[h1,Oper.upon_value]
  exact cg val w' h2
theorem Bmd{w:World}{ok:Nat→Prop}:∀ {xs:List Int} {cs:List Value},B7 (DR w ok (.int .u8)) 1 cs xs→cs=xs.map (Value.int .u8)∧∀ x∈xs,0≤x∧x≤255
 | [],cs,h=>⟨by rw[show cs=[] from h];rfl,by simp⟩
 | x::xs,cs,⟨h1,h2,h3⟩=>by
  obtain⟨k1,k2⟩:=Bmd h3
  obtain⟨e1,e2⟩:=h2
  refine⟨?_,fun y hy=>?_⟩
  ·rw[← ad7 1 cs,e1,k1];rfl
  ·rcases aa9.1 hy with rfl|hy
   ·exact e2
   ·exact k2 y hy
theorem Bmp:∀ (ns:List Int) (b:ByteArray),(ns.foldl (fun r n=>r.push (UInt8.ofNat n.toNat)) b).data.toList=b.data.toList++ns.map fun n=>UInt8.ofNat n.toNat
 | [],b=>by simp
 | n::ns,b=>by
  rw[ap0,Bmp ns]
  simp[ByteArray.push]
theorem Bny:∀ (xs:List Int),(∀ x∈xs,0≤x∧x≤255)→xs.map ((fun b:UInt8=>(b.toNat:Int))∘fun n=>UInt8.ofNat n.toNat)=xs
 | [],_=>rfl
 | n::ns,r2=>by
  obtain⟨b1,b2⟩:=r2 n (ac1 ..)
  rw[ae5,Bny ns (fun y hy=>r2 y (ab8 _ hy))]
  congr 1
  show (((UInt8.ofNat n.toNat).toNat:Nat):Int)=n
  rw[UInt8.toNat_ofNat_of_lt' (by show n.toNat<256;omega)]
  omega
theorem Btf(h:Gd K S used γ a w){T T':TypeId}{x:Operand}(ho:o.op=.convert T T' x)(hx:A1 x=true)(h1:U2 K.P (.slice (.int .u8)) T=true)(h2:U2 K.P .str T'=true)
  (hl:A6 K.C S.objs (Wk (S.eval x) (.int .u8) ⟨[],[]⟩ false fun _ x _=>.done (.d true .str x,[])) [] (v,u) l):Qm K S used γ a w o v u base:=by
 have hv:=Bo h x hx
 have hv:=Zk (Akt hl) hv
 obtain⟨fr,xs,c',l1,⟨e,_⟩,_,_,_,hag,hd⟩:=Hl h (Xr.start S false) hl
 cases e
 obtain⟨v1,v2⟩:=hv
 rw[hag] at v2
 rw[Bm v2.symm] at v1
 obtain⟨ad,cap,e1,e2,e3,e4,rows,e5,e6⟩:=hd _ v1
 have e1:a.eval x=.slice ad (List.length xs) cap:=by simpa using e1
 obtain⟨r1,r2⟩:=Bmd (w:=w) e5
 obtain⟨el,u1,u2⟩:=H6 h1
 have hcv:(convert T T' (a.eval x)).run K.P w=(Conv.bytesToString (a.eval x)).run K.P w:=by
  rw[e1]
  simp only[convert,ac7,ab9 u1,ab9 (Akg h2),ab9 (Afb u2),ab7]
 have ci:∀ s:ByteArray,(Conv.bytesToString (a.eval x)).run K.P w=.ok (.string s) w→s.data.toList.map (fun b=>(b.toNat:Int))=xs→Qm K S used γ a w o (.d true .str xs) [] base:=by
  intro s hs hsx
  refine Qm.pure h (val:=.string s) (by simp only[execOp,ho,ac7,hcv,hs,ab7,af3]) (Df (a:=.d true .str xs) ⟨s,rfl,hsx.symm,?_⟩ rfl rfl)
  have q1:s.data.toList.length=List.length xs:=by rw[← hsx,ag7]
  have q2:s.size=s.data.toList.length:=by rw[ac9];rfl
  rw[q2,q1]
  exact af2 e2 e3
 cases ad with
 | none =>
  have:cap=0:=e4 rfl
  have hx0:xs=[]:=af7 (by omega)
  subst hx0
  exact ci .empty (by rw[e1];simp[Conv.bytesToString]) rfl
 | some ad =>
  have hc:∀ j y,(xs.map (Value.int .u8))[j]?=some y→w.cell? (ad.add j)=some y:=by
   intro j y hj
   rw[← r1] at hj
   have bm:rows≠[]:=by rintro rfl;simp at hj
   obtain⟨mj,k1,_,k3⟩:=e6 bm
   cases k1
   exact k3 j y hj
  have z5:=run_loadCells_list (P:=K.P) w ad (xs.map (Value.int .u8)) hc
  rw[ag7] at z5
  refine ci _ (by rw[e1];exact run_bytesToString w ad (List.length xs) cap xs z5) ?_
  rw[Bmp,show (ByteArray.empty).data.toList=[] from rfl,af8,List.map_map]
  exact Bny xs r2
theorem Bx8{f:Operand→AV}{xs:List Operand}{v:AV}(h:Vj f xs=[v]):∃ x,xs=[x]∧v=f x:=by
 match xs,h with
 | [x],h=>simp[Vj] at h;exact⟨x,rfl,h.symm⟩
 | x::y::r,h=>simp[Vj] at h
theorem Boh{f:Operand→AV}{xs:List Operand}{v w:AV}(h:Vj f xs=[v,w]):∃ x y,xs=[x,y]∧v=f x∧w=f y:=by
 match xs,h with
 | [x,y],h=>simp[Vj] at h;exact⟨x,y,rfl,h.1.symm,h.2.symm⟩
 | [x],h=>simp[Vj] at h
 | x::y::z::r,h=>simp[Vj] at h
theorem Co2(h:Gd K S used γ a w)(hK:K.OK)(hu:∀ id:Id,id.1=base.1→id.2.1=base.2.1→∀ v,¬ used id v)(aw:But o=true)(hd:∀ d,o.dst=some d→K.dok d)
  (hl:A6 K.C S.objs (Ah8 K.G o S.eval base) [] (v,u) l) {Q:Exit→Act→World→Prop} {k:Act→World→Prop}
  (hk:∀ ah γ' a' w',Axz used ah base→Gd K { S with env:=Ad5 S.env o.dst v,objs:=Da u S.objs } ah γ' a' w'→k a' w'):o.wp K.P a w k Q:=by
 cases ho:o.op with
 | call c =>
  have ba4:=aw
  unfold But at aw
  unfold Ah8 at hl
  rw[ho] at hl aw
  simp only[aa5] at aw
  dsimp only at hl
  split at hl
  ·rename_i b hb
   split at hl
   ·rename_i v1 hm
    split at hl
    ·rename_i T hT
     obtain⟨x,hx,rfl⟩:=Bx8 hm
     have rh:A1 x=true:=Hf.1 aw.1 x (by rw[hx];simp)
     have ol:o.op=.call { callee:=.builtin .len,args:=#[x],argTypes:=#[T] }:=by
      rw[ho]
      congr 1
      obtain⟨xt,args,tys⟩:=c
      simp only at hb hx hT ⊢
      rw[hb,← ah5 (xs:=args),hx,← ah5 (xs:=tys),hT]
     split at hl
     ·rename_i m hm'
      rw[← hm'] at hl
      obtain⟨n,rfl,rfl,hn,cw⟩:=Bzt h ho hb hx hT rh (hK.map T) hl
      refine (Qm.pure h (val:=.int .i64 n) ?_ (Gs _ hn)).wp hd hk
      simp only[execOp,ol,resolve,invoke,builtin,ac7,af3,ab7,ao2,ae5,ak0,cw]
     refine (Chn h (T:=T) (x:=x) ?_ (Hf.1 aw.1 x (by rw[hx];simp)) hK.ty hl).wp hd hk
     rw[ho]
     congr 1
     obtain⟨xt,args,tys⟩:=c
     simp only at hb hx hT ⊢
     rw[hb,← ah5 (xs:=args),hx,← ah5 (xs:=tys),hT]
    ·exact hl.elim
   ·rename_i v1 hm
    split at hl
    ·rename_i T hT
     obtain⟨x,hx,rfl⟩:=Bx8 hm
     split at hl
     ·rename_i t heq hG
      obtain⟨e,_⟩:=hl;cases e
      have hv:=Bo h x (Hf.1 aw.1 x (by rw[hx];simp))
      rw[heq] at hv
      have aq:a.eval x=.slice none 0 0:=by
       obtain⟨k1,k2⟩:=(show Ev _ .nils _ from hv)
       rw[Bm k2.symm] at k1
       simpa [ARc] using k1
      obtain⟨e,he,_⟩:=H6 (hK.ty _ _ hG)
      have ol:o.op=.call { callee:=.builtin .cap,args:=#[x],argTypes:=#[T] }:=by
       rw[ho]
       congr 1
       obtain⟨xt,args,tys⟩:=c
       simp only at hb hx hT ⊢
       rw[hb,← ah5 (xs:=args),hx,← ah5 (xs:=tys),hT]
      refine (Qm.pure h (val:=.int .i64 0) ?_ (Gs _ (Bf1 .i64))).wp hd hk
      simp only[execOp,ol,resolve,invoke,builtin,ac7,af3,ab7,ao2,ae5,ak0,aq]
      simp[Builtin.cap_,ab9 he,goInt]
     ·exact hl.elim
    ·exact hl.elim
   ·rename_i v1 v2 hm
    split at hl
    ·rename_i T T' hT
     obtain⟨x,y,hx,rfl,rfl⟩:=Boh hm
     split at hl
     ·rename_i t he
      have rh:A1 x=true:=Hf.1 aw.1 x (by rw[hx];simp)
      have ug:A1 y=true:=Hf.1 aw.1 y (by rw[hx];simp)
      have ol:o.op=.call { callee:=.builtin .append,args:=#[x,y],argTypes:=#[T,T'] }:=by
       rw[ho]
       congr 1
       obtain⟨xt,args,tys⟩:=c
       simp only at hb hx hT ⊢
       rw[hb,← ah5 (xs:=args),hx,← ah5 (xs:=tys),hT]
      split at hl
      ·rename_i hn
       obtain rfl:=ab1 hn
       cases ju:K.G.cut with
       | false =>
        rw[ju] at hl
        exact (Bim h hK.below (fun v=>hu base rfl rfl v) ol rh ug (hK.ty _ _ (Aed he)) hl).wp hd hk
       | true =>
        rw[ju] at hl
        exact (Bwf h hK.below (fun v=>hu base rfl rfl v) ol rh ug (hK.ty _ _ (Aed he)) hl).wp hd hk
      ·split at hl
       ·rename_i kn k n hg hy
        exact (Bxn h hK.below (fun v=>hu base rfl rfl v) ol rh (Ge hy (Bo h y ug)).1 (hK.ty _ _ (Aed he)) (hK.ty _ _ hg) hl).wp hd hk
       ·exact hl.elim
     ·exact hl.elim
    ·exact hl.elim
   ·rename_i v1 v2 hm
    split at hl
    ·rename_i k x k' y hx hy
     obtain⟨p,q,qs,rfl,rfl⟩:=Boh hm
     cases ng:kEq k k' with
     | false=>rw[ng] at hl;exact hl.elim
     | true =>
      rw[ng] at hl
      have rh:A1 p=true:=Hf.1 aw.1 p (by rw[qs];simp)
      have ug:A1 q=true:=Hf.1 aw.1 q (by rw[qs];simp)
      have ex:=Ge hx (Bo h p rh)
      have ey:=Ge hy (Bo h q ug)
      obtain⟨xt,args,tys⟩:=c
      simp only at hb qs
      have ol:o.op=.call { callee:=.builtin .min,args:=#[p,q],argTypes:=tys }:=by
       rw[ho]
       congr 1
       rw[hb,← ah5 (xs:=args),qs]
      have xv:k=k':=by cases k<;>cases k'<;>first|rfl|cases ng
      subst xv
      have key:∀ z:Int,inK k z→(if y<x then y else x)=z→Qm K S used γ a w o (Ur k z) [] base:=fun z hz he=>by
       refine Qm.pure h (val:=.int k z) ?_ (Gs _ hz)
       simp only[execOp,ol,resolve,invoke,builtin,ac7,af3,ab7,ao2,ae5,ak0,ex.1,ey.1,run_min_int2,he]
      rcases hl with⟨hc,hl⟩ | ⟨hc,hl⟩
      ·obtain⟨e,_⟩:=hl;cases e
       exact (key y ey.2 (aa0 (ar4 hc))).wp hd hk
      ·obtain⟨e,_⟩:=hl;cases e
       exact (key x ex.2 (aa1 (of_decide_eq_false hc))).wp hd hk
    ·exact hl.elim
   ·rename_i v1 v2 hm
    split at hl
    ·rename_i k x k' y hx hy
     obtain⟨p,q,qs,rfl,rfl⟩:=Boh hm
     cases ng:kEq k k' with
     | false=>rw[ng] at hl;exact hl.elim
     | true =>
      rw[ng] at hl
      have rh:A1 p=true:=Hf.1 aw.1 p (by rw[qs];simp)
      have ug:A1 q=true:=Hf.1 aw.1 q (by rw[qs];simp)
      have ex:=Ge hx (Bo h p rh)
      have ey:=Ge hy (Bo h q ug)
      obtain⟨xt,args,tys⟩:=c
      simp only at hb qs
      have ol:o.op=.call { callee:=.builtin .max,args:=#[p,q],argTypes:=tys }:=by
       rw[ho]
       congr 1
       rw[hb,← ah5 (xs:=args),qs]
      have xv:k=k':=by cases k<;>cases k'<;>first|rfl|cases ng
      subst xv
      have key:∀ z:Int,inK k z→(if y>x then y else x)=z→Qm K S used γ a w o (Ur k z) [] base:=fun z hz he=>by
       refine Qm.pure h (val:=.int k z) ?_ (Gs _ hz)
       simp only[execOp,ol,resolve,invoke,builtin,ac7,af3,ab7,ao2,ae5,ak0,ex.1,ey.1,run_max_int2,he]
      rcases hl with⟨hc,hl⟩ | ⟨hc,hl⟩
      ·obtain⟨e,_⟩:=hl;cases e
       exact (key y ey.2 (aa0 (ar4 hc))).wp hd hk
      ·obtain⟨e,_⟩:=hl;cases e
       exact (key x ex.2 (aa1 (of_decide_eq_false hc))).wp hd hk
    ·exact hl.elim
   ·exact hl.elim
  ·rename_i x hx
   rw[hx] at aw
   split at hl
   ·rename_i f c' hf
    split at hl
    ·rename_i cs er
     exact Bpx h hK hu ho hx aw.2 (Hf.1 aw.1) hf er hd hl hk
    ·exact hl.elim
   ·exact hl.elim
  ·exact hl.elim
 | convert s d x =>
  unfold But at aw
  unfold Ah8 at hl
  rw[ho] at hl aw
  dsimp only at hl
  cases gx:(Nat.beq s d&&Bbd (K.G.ty s)) with
  | true =>
   rw[gx] at hl
   simp only[aa5,aj9] at gx
   obtain⟨rfl,kw⟩:=gx
   have hty:K.G.ty s=some (.slice (.int .u8)):=by
    unfold Bbd at kw
    split at kw
    ·assumption
    ·cases kw
   exact (Bt9 h ho aw (hK.ty _ _ hty) hl).wp hd hk
  | false =>
  rw[gx] at hl
  replace hl:A6 K.C S.objs (Cfd (K.G.ty s) (K.G.ty d) (S.eval x) base) [] (v,u) l:=hl
  unfold Cfd at hl
  split at hl
  ·rename_i k' fr k2 n hd2 he
   split at hl
   ·rename_i k0 sr
    obtain⟨e,_⟩:=hl;cases e
    exact (Bth h ho aw (hK.ty _ _ sr) (hK.ty _ _ hd2) he).wp hd hk
   ·exact hl.elim
  ·rename_i v0 hd2
   cases hb:Bbd (K.G.ty s) with
   | false=>rw[hb] at hl;exact hl.elim
   | true =>
    rw[hb] at hl
    unfold Bbd at hb
    split at hb
    ·rename_i sr
     exact (Btf h ho aw (hK.ty _ _ sr) (hK.ty _ _ hd2) hl).wp hd hk
    ·cases hb
  ·exact hl.elim
 | _=>exact (Cmz h hK (fun v=>hu base rfl rfl v) aw (by rw[ho];intro c hc;cases hc) (by rw[ho];intro s d x hc;cases hc) hl).wp hd hk
end
end Go.Pon
namespace Go.Pon
open Go
structure Eqv(S S':St):Prop where
 next:S.next=S'.next
 env:∀ t,Gk S.env t=Gk S'.env t
 objs:∀ id,Ak S.objs id=Ak S'.objs id
theorem Eqv.refl(S:St):Eqv S S:=⟨rfl,fun _=>rfl,fun _=>rfl⟩
theorem Eqv.symm{S S':St}(h:Eqv S S'):Eqv S' S:=⟨h.next.symm,fun t=>(h.env t).symm,fun t=>(h.objs t).symm⟩
theorem Eqv.trans{S S' sv:St}(h:Eqv S S')(k:Eqv S' sv):Eqv S sv:=⟨h.next.trans k.next,fun t=>(h.env t).trans (k.env t),fun t=>(h.objs t).trans (k.objs t)⟩
theorem Gd.eqv{K:Dg}{S S':St}{used:Id→Nat→Prop}{γ:Id→Value}{a:Act}{w:World}(h:Gd K S used γ a w)(e:Eqv S S'):Gd K S' used γ a w:=by
 have ho:Ak S.objs=Ak S'.objs:=funext e.objs
 have hE:A3 K S.objs used γ w=A3 K S'.objs used γ w:=by unfold A3;rw[ho]
 refine⟨h.size,h.defers,h.kept,fun t=>?_,fun id o bw=>?_,fun id o bw=>h.ou id o ((e.objs id).trans bw),fun id ab fr t rows v bw=>h.vers id ab fr t rows v ((e.objs id).trans bw),?_,?_,h.frame⟩
 ·rw[← hE,← e.env];exact h.env t
 ·rw[← hE];exact h.objs id o ((e.objs id).trans bw)
 ·rw[← ho];exact h.sep
 ·rw[← ho];exact h.mod
theorem St.eval_eqv{S S':St}(e:Eqv S S'):S.eval=S'.eval:=by
 funext x
 cases x with
 | tmp t=>exact e.env t
 | _=>rfl
theorem A6.sub{α:Type}{C:Gi}{objs:Pm}:∀ {t:OpT α} {l:List Id} {r:α} {l':List Id},A6 C objs t l r l'→∀ id∈l,id∈l'
 | .fail,_,_,_,h,_,_=>h.elim
 | .done a,_,_,_,h,id,hi=>h.2▸hi
 | .br c t e,_,_,_,.inl ⟨_,h⟩,id,hi=>A6.sub h id hi
 | .br c t e,_,_,_,.inr ⟨_,h⟩,id,hi=>A6.sub h id hi
 | .get i f,_,_,_,⟨o,_,h⟩,id,hi=>A6.sub h id (ab8 _ hi)
 | .call f s x g,_,_,_,⟨y,_,h⟩,id,hi=>A6.sub h id hi
 | .opt _ o n s,_,_,_,.inl ⟨_,h⟩,id,hi=>A6.sub h id hi
 | .opt _ o n s,_,_,_,.inr ⟨y,_,h⟩,id,hi=>A6.sub h id hi
theorem A6.congr{α:Type}{C:Gi}{objs dm:Pm}:∀ {t:OpT α} {l:List Id} {r:α} {l':List Id},A6 C objs t l r l'→(∀ id∈l',Ak dm id=Ak objs id)→A6 C dm t l r l'
 | .fail,_,_,_,h,_=>h
 | .done a,_,_,_,h,_=>h
 | .br c t e,_,_,_,.inl ⟨h0,h⟩,hi=>.inl ⟨h0,A6.congr h hi⟩
 | .br c t e,_,_,_,.inr ⟨h0,h⟩,hi=>.inr ⟨h0,A6.congr h hi⟩
 | .get i f,_,_,_,⟨o,h0,h⟩,hi=>⟨o,(hi i (A6.sub h i (ac1 ..))).trans h0,A6.congr h hi⟩
 | .call f s x g,_,_,_,⟨y,h0,h⟩,hi=>⟨y,h0,A6.congr h hi⟩
 | .opt _ o n s,_,_,_,.inl ⟨h0,h⟩,hi=>.inl ⟨h0,A6.congr h hi⟩
 | .opt _ o n s,_,_,_,.inr ⟨y,h0,h⟩,hi=>.inr ⟨y,h0,A6.congr h hi⟩
theorem Avk{α β:Type}{f g:α→β}:∀ {l:List α},(∀ x∈l,f x=g x)→Vj f l=Vj g l
 | [],_=>rfl
 | a::l,h=>by simp only[Vj];rw[h a (ac1 ..),Avk fun x hx=>h x (ab8 _ hx)]
theorem Bs4{G:Ctx}{o:Oper}{ρ ρ':Operand→AV}{base:Id}(h:∀ x∈o.op.operands,ρ x=ρ' x):Ah8 G o ρ base=Ah8 G o ρ' base:=by
 have sw:∀ ps:Array (Nat×Operand),(∀ x∈(ps.toList.map (·.2)).toArray,ρ x=ρ' x)→Vj (fun p=>(p.1,ρ p.2)) ps.toList=Vj (fun p=>(p.1,ρ' p.2)) ps.toList:=fun ps hp =>
  Avk fun p hm=>by rw[hp p.2 (by simp only[List.mem_toArray,ag8];exact⟨p,hm,rfl⟩)]
 unfold Ah8
 cases ho:o.op<;>rw[ho] at h<;>simp only[Op.operands] at h<;>try dsimp only
 case build t ps=>rw[sw ps h]
 case buildSlice t n ps=>rw[sw ps h]
 case makeFunc fn first jv =>
  have hc:Vj ρ jv.toList=Vj ρ' jv.toList:=Avk fun x hx=>h x (by simp;exact .inr (by simpa using hx))
  obtain⟨l⟩:=first
  cases fn with
  | func f=>cases l with
   | nil=>exact am6 (fun m=>(bif Sc Bhe m then OpT.done (AV.fn f (Atm m),[]) else OpT.fail:OpV)) hc
   | cons _ _=>rfl
  | _=>rfl
 case call c =>
  have jt:Vj ρ c.args.toList=Vj ρ' c.args.toList:=Avk fun x hx=>h x (by simp[Call.operands];exact .inr (by simpa using hx))
  rw[jt]
  cases hc:c.callee with
  | value f=>dsimp only;rw[h f (by simp[Call.operands,hc])]
  | _=>rfl
 case slice t x lo hi mx=>cases lo<;>cases hi<;>cases mx<;>simp_all
 all_goals first|rfl | (simp_all;done)
structure Sp where
 i:Nat
 dst:Option Tmp
 v:AV
 u:Pm
 l:List Id
def St.app(S:St)(s:Sp):St:={ S with env:=Ad5 S.env s.dst s.v,objs:=Da s.u S.objs }
def unB:AV→Bool
 | .un=>true
 | _=>false
def Apg(S:St)(ao:Array Oper)(o:Oper):Option Bool :=
 match o.guard with
 | none=>some true
 | some (j,fj)=>match Cbr (Bhh ao.toList j) with
  | none=>none
  | some d=>match asBool (Gk S.env d) with
   | some b=>some (b == fj)
   | none=>bif unB (Gk S.env d) then some false else none
def Stp(C:Gi)(G:Ctx)(ao:Array Oper)(S:St)(i:Nat)(o:Oper)(s:Sp):Prop :=
 s.i=i∧s.dst=o.dst∧((Apg S ao o=some true∧A6 C S.objs (Ah8 G o S.eval (S.next,i,0)) [] (s.v,s.u) s.l) ∨
  (Apg S ao o=some false∧s.v=.un∧s.u=[]∧s.l=[]))
theorem Bi4{S S':St}{ao:Array Oper}{o:Oper}(h:∀ j fj d,o.guard=some (j,fj)→Cbr (Bhh ao.toList j)=some d→Gk S.env d=Gk S'.env d):Apg S ao o=Apg S' ao o:=by
 unfold Apg
 cases hg:o.guard with
 | none=>rfl
 | some p =>
  obtain⟨j,fj⟩:=p
  dsimp only
  cases hd:Cbr (Bhh ao.toList j) with
  | none=>rfl
  | some d=>dsimp only;rw[h j fj d hg hd]
theorem Stp.eqv{C:Gi}{G:Ctx}{ao:Array Oper}{S S':St}{i:Nat}{o:Oper}{s:Sp}(h:Stp C G ao S i o s)(e:Eqv S S'):Stp C G ao S' i o s:=by
 refine⟨h.1,h.2.1,?_⟩
 rw[← Bi4 (S:=S) fun j fj d _ _=>e.env d,← St.eval_eqv e,← e.next]
 rcases h.2.2 with⟨h1,h2⟩|h1
 ·exact .inl ⟨h1,h2.congr fun id _=>(e.objs id).symm⟩
 ·exact .inr h1
theorem Bsk{S S':St}(e:Eqv S S')(s:Sp):Eqv (S.app s) (S'.app s):=by
 refine⟨e.next,fun t=>?_,fun id=>?_⟩
 ·simp only[St.app]
  cases s.dst with
  | none=>exact e.env t
  | some d=>simp only[Ad5,Py,e.env t]
 ·simp only[St.app,Aez,e.objs id]
inductive Tr(C:Gi)(G:Ctx)(ao:Array Oper):List (Nat×Oper)→St→List Sp→St→Prop
 | nil (S:St):Tr C G ao [] S [] S
 | cons (i:Nat) (o:Oper) (au:List (Nat×Oper)) (S S1:St) (s:Sp) (bl:List Sp) (S':St) (h:Stp C G ao S i o s) (h1:Eqv (S.app s) S1) (hr:Tr C G ao au S1 bl S'):Tr C G ao ((i,o)::au) S (s::bl) S'
def Sp.row(s:Sp):Row:=⟨s.i,s.l,Zh s.u⟩
theorem Aw6{S:St}{d:Nat}{fr b:Bool}{q:Bool}(h:Gk S.env d=.d fr .bool b)(hq:b=q):Eqv { S with env:=(d,.d fr .bool q)::S.env } S :=
 ⟨rfl,fun t=>by
  show Gk ((d,AV.d fr .bool q)::S.env) t=_
  rw[Py]
  by_cases e:d=t
  ·rw[aa0 e,← e,h,hq]
  ·rw[aa1 e],fun _=>rfl⟩
theorem Auf{α:Type}{c:Bool}{t e:Option α}{r:α}(h:Ag c t e=some r):(c=true∧t=some r)∨(c=false∧e=some r):=by
 cases c
 ·exact .inr ⟨rfl,h⟩
 ·exact .inl ⟨rfl,h⟩
theorem Bcs{ω:Type}{C:Gi}{G:Ctx}{ao:Array Oper}{dq:Bool}{k:St→Option ω}{r:ω}:∀ (my:List (Nat×Oper)) (S:St) (rows:List Row),
  Akq C G ao dq my S rows k=some r →
  ∃ bl S',Tr C G ao my S bl S'∧(dq=true→Bal ao (Vo ao.toList []) ((bl.map Sp.row).reverse++rows)=true)∧k { S' with next:=Nat.succ S'.next }=some r
 | [],S,rows,h=>by
  simp only[Akq] at h
  rcases Auf h with⟨h1,h2⟩ | ⟨_,h2⟩
  ·refine⟨[],S,.nil S,fun hd=>?_,h2⟩
   subst hd
   simpa using h1
  ·cases h2
 | (i,o)::au,S,rows,h=>by
  have run:∀ S0:St,Eqv S0 S→Apg S0 ao o=some true →
    (Lv C S0.objs (Ah8 G o S0.eval (S0.next,i,0)) [] fun a l=>Akq C G ao dq au { S0 with env:=Ad5 S0.env o.dst a.1,objs:=Da a.2 S0.objs } (⟨i,l,Zh a.2⟩::rows) k)=some r →
    ∃ bl S',Tr C G ao ((i,o)::au) S bl S'∧(dq=true→Bal ao (Vo ao.toList []) ((bl.map Sp.row).reverse++rows)=true)∧k { S' with next:=Nat.succ S'.next }=some r:=by
   intro S0 he hw hi
   obtain⟨a,l,h1,h2⟩:=Ee hi
   obtain⟨bl,S',k1,k2,k3⟩:=Bcs au _ _ h2
   refine⟨⟨i,o.dst,a.1,a.2,l⟩::bl,S',.cons i o au S _ _ bl S' ?_ (Bsk he.symm _) k1,fun hd=>?_,k3⟩
   ·exact Stp.eqv (S:=S0) ⟨rfl,rfl,.inl ⟨hw,h1⟩⟩ he
   ·have:=k2 hd
    simpa [Sp.row] using this
  have skip:∀ S0:St,Eqv S0 S→Apg S0 ao o=some false →
    Akq C G ao dq au { S0 with env:=Ad5 S0.env o.dst .un } (⟨i,[],[]⟩::rows) k=some r →
    ∃ bl S',Tr C G ao ((i,o)::au) S bl S'∧(dq=true→Bal ao (Vo ao.toList []) ((bl.map Sp.row).reverse++rows)=true)∧k { S' with next:=Nat.succ S'.next }=some r:=by
   intro S0 he hw hi
   obtain⟨bl,S',k1,k2,k3⟩:=Bcs au _ _ hi
   refine⟨⟨i,o.dst,.un,[],[]⟩::bl,S',.cons i o au S _ _ bl S' ?_ (Bsk he.symm _) k1,fun hd=>?_,k3⟩
   ·exact Stp.eqv (S:=S0) ⟨rfl,rfl,.inr ⟨hw,rfl,rfl,rfl⟩⟩ he
   ·have:=k2 hd
    simpa [Sp.row,Zh] using this
  simp only[Akq] at h
  split at h
  ·rename_i hg
   exact run S (Eqv.refl S) (by simp only[Apg,hg]) h
  ·rename_i j fj hg
   split at h
   ·cases h
   ·rename_i d hd
    split at h
    ·rename_i fr b hl
     have lq:∀ q:Bool,b=q→Apg { S with env:=(d,.d fr .bool q)::S.env } ao o=some ((b:Bool) == fj):=by
      intro q hq
      simp only[Apg,hg,hd,Py,ar3,hq,asBool]
     cases fj with
     | true =>
      rcases Auf h with⟨h1,h2⟩ | ⟨h1,h2⟩
      ·exact run _ (Aw6 hl h1) (by rw[lq true h1,h1];rfl) h2
      ·exact skip _ (Aw6 hl h1) (by rw[lq false h1,h1];rfl) h2
     | false =>
      rcases Auf h with⟨h1,h2⟩ | ⟨h1,h2⟩
      ·exact skip _ (Aw6 hl h1) (by rw[lq true h1,h1];rfl) h2
      ·exact run _ (Aw6 hl h1) (by rw[lq false h1,h1];rfl) h2
    ·rename_i hl
     exact skip S (Eqv.refl S) (by simp only[Apg,hg,hd,hl,asBool,unB,ao8]) h
    ·cases h
end Go.Pon
namespace Go.Pon
open Go
theorem Bel{α:Type}:∀ (l:List α) (n:Nat),Bhh l n=l[n]?
 | [],n=>by cases n<;>rfl
 | a::l,0=>rfl
 | a::l,n+1=>by simpa [Bhh] using Bel l n
section
variable {K:Dg} {S:St} {used:Id→Nat→Prop} {γ:Id→Value} {a:Act} {w:World} {ao:Array Oper} {o:Oper}
theorem Bp5(h:Gd K S used γ a w){b:Bool}(hw:Apg S ao o=some b):Region.wanted o (yielded ao a.tmps)=b:=by
 unfold Apg at hw
 unfold Region.wanted
 split at hw
 ·rename_i hg;rw[hg];exact at1 hw
 ·rename_i j fj hg
  rw[hg]
  dsimp only
  rw[Bel] at hw
  split at hw
  ·cases hw
  ·rename_i d hd
   have hd:(ao[j]?).bind (·.dst)=some d:=by
    cases ho:ao[j]? with
    | none=>rw[ai7,ho] at hd;cases hd
    | some x=>rw[ai7,ho] at hd;exact hd
   have hv:=h.env d
   cases hq:asBool (Gk S.env d) with
   | some q =>
    rw[hq] at hw
    have e:=Biy hq hv
    have:a.tmps[d]?=some (.bool q):=by
     rw[aj8] at e
     cases ht:a.tmps[d]? with
     | none=>rw[ht] at e;cases e
     | some x=>rw[ht] at e;exact am6 some e
    cases hw
    simp only[yielded,hd,Option.bind_some,this]
    cases q<;>cases fj<;>rfl
   | none =>
    rw[hq] at hw
    cases hl:Gk S.env d with
    | un =>
     rw[hl] at hv hw
     have e:a.tmps.getD d undef=undef:=hv
     cases hw
     rw[aj8] at e
     simp only[yielded,hd,Option.bind_some]
     cases ht:a.tmps[d]? with
     | none=>rfl
     | some x=>rw[ht] at e;rw[show x=undef from e];rfl
    | _=>rw[hl] at hw;cases hw
theorem Cfx(h:Gd K S used γ a w)(hK:K.OK){i:Nat}{s:Sp}(hs:Stp K.C K.G ao S i o s)(aw:But o=true)(hd:∀ d,o.dst=some d→K.dok d)(hi:ao[i]?=some o)
  (hu:∀ id:Id,id.1=S.next→id.2.1=i→∀ v,¬ used id v) {Q:Exit→Act→World→Prop} {k:Act→World→Prop}
  (hk:∀ ah γ' a' w',Axz used ah (S.next,i,0)→Gd K (S.app s) ah γ' a' w'→k a' w'):wpOp K.P ao Q i k a w:=by
 unfold wpOp
 rw[hi]
 dsimp only
 obtain⟨h1,h2,h3⟩:=hs
 rcases h3 with⟨hw,hl⟩ | ⟨hw,hv,jb,hl⟩
 ·rw[Bp5 h hw,aa0 rfl]
  refine .inl (Co2 h hK (base:=(S.next,i,0)) (fun id i1 i2=>hu id i1 i2) aw hd hl fun ah γ' a' w' hg hr=>hk ah γ' a' w' hg ?_)
  rw[← h2] at hr
  exact hr
 ·rw[Bp5 h hw,aa1 (by simp)]
  refine hk used γ _ w (Axz.refl _ _) ?_
  have:=h.put (v:=.un) (val:=undef) rfl o.dst hd
  have e:S.app s={ S with env:=Ad5 S.env o.dst .un }:=by
   simp only[St.app,hv,jb,h2];rfl
  rw[e]
  exact this
theorem Cg0{d:Nat}(h:(K.args.map (·.isSome)).getD d false=false∧d<K.nt):K.dok d:=by
 refine⟨fun v hv=>?_,h.2⟩
 have h1:=h.1
 rw[aa2,ag3,hv] at h1
 cases h1
def Cbp(ps:List Bool)(nt:Nat)(ao:Array Oper):Bool :=
 Sc (fun p=>But p.2&&(match p.2.dst with|none=>true|some d=>!(ps.getD d false)&&Nat.blt d nt)&&Sc (fun e=>!Region.binds .any e||Nat.blt e.on p.1) p.2.after.toList) (Ae6 0 ao.toList)
theorem Bu4{α:Type}:∀ (l:List α) (m i:Nat) (x:α),l[i]?=some x→(m+i,x)∈Ae6 m l
 | [],m,i,x,h=>by simp at h
 | y::l,m,0,x,h=>by simp at h;subst h;simp[Ae6]
 | y::l,m,i+1,x,h=>by
  have:=Bu4 l (m+1) i x (by simpa using h)
  rw[show m+(i+1)=m+1+i by omega]
  exact ab8 _ this
theorem Bnb{α:Type}:∀ (l:List α) (m i:Nat),(Ae6 m l)[i]?=(l[i]?).map fun x=>(m+i,x)
 | [],m,i=>by simp[Ae6]
 | y::l,m,0=>by simp[Ae6]
 | y::l,m,i+1=>by
  simp only[Ae6,al3,Bnb l (Nat.succ m) i]
  rw[show Nat.succ m+i=m+(i+1) by omega]
theorem Bm3{α:Type}:∀ (l:List α) (m:Nat),(Ae6 m l).map (·.1)=List.range' m l.length
 | [],m=>rfl
 | y::l,m=>by simp[Ae6,List.range',Bm3 l (m+1)]
theorem Bdl{ps:List Bool}{nt:Nat}(h:Cbp ps nt ao=true){i:Nat}(hi:ao[i]?=some o) :
  But o=true∧(∀ d,o.dst=some d→ps.getD d false=false∧d<nt)∧∀ e∈o.after,Region.binds .any e=true→e.on<i:=by
 have:=Hf.1 h (0+i,o) (Bu4 ao.toList 0 i o (by simpa using hi))
 simp only[aa5,af1] at this
 obtain⟨⟨h1,h2⟩,h3⟩:=this
 refine⟨h1,fun d hd=>?_,fun e he hb=>?_⟩
 ·rw[hd] at h2;simpa [at5] using h2
 ·have:=Hf.1 h3 e (by simpa using he)
  simpa [hb,at5] using this
theorem Cm9(hK:K.OK){Q:Exit→Act→World→Prop}{S':St}{n:Nat}(hQ:∀ ah γ' a' w',Gd K S' ah γ' a' w'→(∀ id v,ah id v→id.1<n+1)→Q .normal a' w') :
  ∀ (my:List (Nat×Oper)) (S:St) (bl:List Sp),Tr K.C K.G ao my S bl S'→(∀ p∈my,ao[p.1]?=some p.2∧But p.2=true∧∀ d,p.2.dst=some d→K.dok d)→(my.map (·.1)).Nodup→S.next=n →
   ∀ (used:Id→Nat→Prop) (γ:Id→Value) (a:Act) (w:World),Gd K S used γ a w→(∀ id v,used id v→id.1<n∨(id.1=n∧id.2.1 ∉ my.map (·.1)))→wpOps K.P ao Q (my.map (·.1)) a w:=by
 intro my S bl ht
 induction ht with
 | nil S =>
  intro _ _ hn used γ a w h hu
  refine hQ used γ a w h fun id v hv=>?_
  rcases hu id v hv with h1 | ⟨h1,_⟩<;>omega
 | cons i o au S S1 s bl S' hs he hr ih =>
  intro hp dv hn used γ a w h hu
  obtain⟨p1,p2,p3⟩:=hp (i,o) (ac1 ..)
  simp only[ae5,ai8] at dv
  simp only[ae5]
  rw[wpOps_cons]
  refine Cfx h hK hs p2 p3 p1 (fun id i1 i2 v hv=>?_) fun ah γ' a' w' hg bd=>?_
  ·rcases hu id v hv with h1 | ⟨_,h1⟩
   ·omega
   ·exact h1 (by rw[i2];simp)
  ·refine ih hQ (fun p hm=>hp p (ab8 _ hm)) dv.2 (by rw[← he.next];exact hn) ah γ' a' w' (bd.eqv he) fun id v hv=>?_
   rcases hg id v hv with⟨v',ix⟩ | ⟨i1,i2⟩
   ·rcases hu id v' ix with h1 | ⟨h1,h2⟩
    ·exact .inl h1
    ·exact .inr ⟨h1,fun hm=>h2 (ab8 _ hm)⟩
   ·refine .inr ⟨i1.trans hn,fun hm=>?_⟩
    have i2:id.2.1=i:=i2
    rw[i2] at hm
    exact dv.1 hm
end
def rep(D:Nat→Bool):St→List Sp→St
 | S,[]=>S
 | S,s::r=>rep D (bif D s.i then S.app s else S) r
theorem Aqe(D:Nat→Bool):∀ (l m:List Sp) (S:St),rep D S (l++m)=rep D (rep D S l) m
 | [],_,_=>rfl
 | s::l,m,S=>Aqe D l m _
theorem Alh(D:Nat→Bool):∀ (l:List Sp) (S:St),(rep D S l).next=S.next
 | [],_=>rfl
 | s::l,S=>by
  simp only[rep]
  rw[Alh D l]
  cases D s.i<;>rfl
theorem Bkv(D:Nat→Bool):∀ (l:List Sp) {S S':St},Eqv S S'→Eqv (rep D S l) (rep D S' l)
 | [],_,_,h=>h
 | s::l,S,S',h=>by
  simp only[rep]
  refine Bkv D l ?_
  cases D s.i with
  | true=>exact Bsk h s
  | false=>exact h
theorem Bxx{S:St}{s:Sp}{t:Nat}(h:s.dst≠some t):Gk (S.app s).env t=Gk S.env t:=by
 simp only[St.app]
 cases hd:s.dst with
 | none=>rfl
 | some d =>
  simp only[Ad5,Py]
  rw[aa1 (fun e=>h (by rw[hd,e]))]
theorem Bep{S:St}{s:Sp}{id:Id}(h:Aqn (Zh s.u) id=false):Ak (S.app s).objs id=Ak S.objs id:=by
 simp only[St.app,Aez,h];rfl
theorem Bey{D D':Nat→Bool}{t:Nat}:∀ (l:List Sp) {S S':St},Gk S.env t=Gk S'.env t→(∀ s∈l,D s.i≠D' s.i→s.dst≠some t)→Gk (rep D S l).env t=Gk (rep D' S' l).env t
 | [],_,_,h,_=>h
 | s::l,S,S',h,hd=>by
  simp only[rep]
  refine Bey l ?_ fun s' dl=>hd s' (ab8 _ dl)
  have h0:=hd s (ac1 ..)
  have hw:∀ (S S':St),Gk S.env t=Gk S'.env t→Gk (S.app s).env t=Gk (S'.app s).env t:=fun S S' h=>by
   simp only[St.app]
   cases s.dst with
   | none=>exact h
   | some d=>simp only[Ad5,Py,h]
  cases h1:D s.i<;>cases h2:D' s.i
  ·exact h
  ·show Gk S.env t=Gk (S'.app s).env t
   rw[Bxx (h0 (by rw[h1,h2];simp))];exact h
  ·show Gk (S.app s).env t=Gk S'.env t
   rw[Bxx (h0 (by rw[h1,h2];simp))];exact h
  ·exact hw S S' h
theorem Ba7{D D':Nat→Bool}{id:Id}:∀ (l:List Sp) {S S':St},Ak S.objs id=Ak S'.objs id→(∀ s∈l,D s.i≠D' s.i→Aqn (Zh s.u) id=false)→Ak (rep D S l).objs id=Ak (rep D' S' l).objs id
 | [],_,_,h,_=>h
 | s::l,S,S',h,hd=>by
  simp only[rep]
  refine Ba7 l ?_ fun s' dl=>hd s' (ab8 _ dl)
  have h0:=hd s (ac1 ..)
  cases h1:D s.i<;>cases h2:D' s.i
  ·exact h
  ·show Ak S.objs id=Ak (S'.app s).objs id
   rw[Bep (h0 (by rw[h1,h2];simp))];exact h
  ·show Ak (S.app s).objs id=Ak S'.objs id
   rw[Bep (h0 (by rw[h1,h2];simp))];exact h
  ·show Ak (S.app s).objs id=Ak (S'.app s).objs id
   simp only[St.app,Aez,h]
theorem Cbb{D:Nat→Bool}{s:Sp}:∀ (l:List Sp) (S:St),(∀ s'∈l,D s'.i=true→(∀ d,s.dst=some d→s'.dst≠some d)∧∀ id,Aqn (Zh s.u) id=true→Aqn (Zh s'.u) id=false) →
  Eqv (rep D (S.app s) l) ((rep D S l).app s)
 | [],S,_=>Eqv.refl _
 | s'::l,S,h=>by
  simp only[rep]
  have ih:=fun S=>Cbb (D:=D) (s:=s) l S fun s'' hs=>h s'' (ab8 _ hs)
  cases hd:D s'.i with
  | false=>exact ih S
  | true =>
   obtain⟨h1,h2⟩:=h s' (ac1 ..) hd
   refine Eqv.trans (Bkv D l ?_) (ih (S.app s'))
   refine⟨rfl,fun t=>?_,fun id=>?_⟩
   ·show Gk ((S.app s).app s').env t=Gk ((S.app s').app s).env t
    simp only[St.app]
    cases e1:s.dst with
    | none=>rfl
    | some d =>
     cases e2:s'.dst with
     | none=>rfl
     | some d' =>
      have bm:d'≠d:=fun e=>h1 d e1 (by rw[e2,e])
      simp only[Ad5,Py]
      by_cases e3:d'=t
      ·rw[aa0 e3,aa1 (fun e=>bm (e3.trans e.symm)),aa0 e3]
      ·rw[aa1 e3,aa1 e3]
   ·show Ak ((S.app s).app s').objs id=Ak ((S.app s').app s).objs id
    simp only[St.app,Aez]
    cases e1:Aqn (Zh s.u) id with
    | true=>rw[h2 id e1];simp
    | false=>simp
theorem Tr.get{C:Gi}{G:Ctx}{ao:Array Oper}{my:List (Nat×Oper)}{S S':St}{bl:List Sp}(h:Tr C G ao my S bl S') :
  Eqv (rep (fun _=>true) S bl) S'∧bl.length=my.length∧∀ (n:Nat) (p:Nat×Oper),my[n]?=some p→∃ s,bl[n]?=some s∧Stp C G ao (rep (fun _=>true) S (bl.take n)) p.1 p.2 s:=by
 induction h with
 | nil S=>exact⟨Eqv.refl S,rfl,fun n p h=>by simp at h⟩
 | cons i o au S S1 s bl S' hs he hr ih =>
  obtain⟨h1,h2,h3⟩:=ih
  refine⟨(Bkv _ bl he).trans h1,by simp[h2],fun n p hp=>?_⟩
  cases n with
  | zero=>simp at hp;subst hp;exact⟨s,rfl,hs⟩
  | succ n =>
   obtain⟨s',k1,k2⟩:=h3 n p (by simpa using hp)
   exact⟨s',by simpa using k1,k2.eqv (by simp only[aq1,rep];exact Bkv _ _ he.symm)⟩
def Apt(ao:Array Oper)(bs:List Nat)(q r:Sp):Prop :=
 Nat.testBit (bs.getD r.i 0) q.i=true∨(Bgq ao q.i r.i=true∧Aqa (Zh q.u) r.l=true∧Aqa (Zh q.u) (Zh r.u)=true∧Aqa (Zh r.u) q.l=true)
theorem Bfc{ao:Array Oper}{bs:List Nat}:∀ (l:List Sp),Bal ao bs (l.map Sp.row)=true→l.Pairwise fun r q=>Apt ao bs q r
 | [],_=>List.Pairwise.nil
 | r::l,h=>by
  simp only[ae5,Bal,aa5] at h
  refine List.Pairwise.cons (fun q hq=>?_) (Bfc l h.2)
  have:=Hf.1 h.1 q.row (ag8.2 ⟨q,hq,rfl⟩)
  simp only[Sp.row,ak8,aa5] at this
  exact this.imp (fun h=>h) fun h=>⟨h.1.1.1,h.1.1.2,h.1.2,h.2⟩
theorem Bdw{l m:List Id}(h:Aqa l m=true):∀ id,Aqn l id=true→id ∉ m:=by
 intro id bw hm
 rw[Apu] at bw
 induction l with
 | nil=>simp at bw
 | cons a l ih =>
  simp only[Aqa,aa5,an4] at h
  rcases aa9.1 bw with rfl|bw
  ·have:=Apu.2 hm
   rw[h.1] at this;cases this
  ·exact ih h.2 bw
theorem Bn1{ce:List Nat}:∀ (es:List Edge) (m q:Nat),Nat.testBit (Bi2 ce es m) q=true→Nat.testBit m q=true∨∃ e∈es,Region.binds .any e=true∧(q=e.on∨Nat.testBit (ce.getD e.on 0) q=true)
 | [],m,q,h=>.inl h
 | e::es,m,q,h=>by
  simp only[Bi2] at h
  rcases Bn1 es _ q h with h1 | ⟨e',h1,h2⟩
  ·cases hb:Region.binds .any e with
   | false=>rw[hb] at h1;exact .inl h1
   | true =>
    rw[hb] at h1
    have h1:Nat.testBit (m ||| ((1 <<< e.on) ||| ce.getD e.on 0)) q=true:=h1
    simp only[Nat.testBit_or,ak8] at h1
    rcases h1 with h1|h1|h1
    ·exact .inl h1
    ·refine .inr ⟨e,ac1 ..,hb,.inl ?_⟩
     rw[Nat.shiftLeft_eq,ap4,Nat.testBit_two_pow] at h1
     have h1:e.on=q:=by simpa using h1
     exact h1.symm
    ·exact .inr ⟨e,ac1 ..,hb,.inr h1⟩
  ·exact .inr ⟨e',ab8 _ h1,h2⟩
theorem Bf2:∀ (l:List Oper) (ce:List Nat),∃ r,Vo l ce=ce++r∧r.length=l.length ∧
  ∀ (i:Nat) (o:Oper),l[i]?=some o→(Vo l ce)[ce.length+i]?=some (Bi2 ((Vo l ce).take (ce.length+i)) o.after.toList 0)
 | [],ce=>⟨[],by simp[Vo],rfl,fun i o h=>by simp at h⟩
 | o::l,ce=>by
  obtain⟨r,h1,h2,h3⟩:=Bf2 l (ce++[Bi2 ce o.after.toList 0])
  have e:Vo (o::l) ce=Vo l (ce++[Bi2 ce o.after.toList 0]):=by simp only[Vo,Adu]
  rw[e]
  refine⟨Bi2 ce o.after.toList 0::r,by rw[h1];simp,by simp[h2],fun i o' hi=>?_⟩
  cases i with
  | zero =>
   simp at hi;subst hi
   rw[h1]
   simp[ab6]
  | succ i =>
   have:=h3 i o' (by simpa using hi)
   simp only[aa4,ac5,am3] at this
   rw[show ce.length+(i+1)=ce.length+(0+1)+i by omega]
   exact this
theorem Bby{ao:Array Oper}{D:Nat→Bool}(hc:∀ (i:Nat) (o:Oper),ao[i]?=some o→D i=true→∀ e∈o.after,Region.binds .any e=true→D e.on=true) :
  ∀ (i q:Nat) (o:Oper),ao[i]?=some o→(∀ e∈o.after,Region.binds .any e=true→D e.on=true)→Nat.testBit ((Vo ao.toList []).getD i 0) q=true→D q=true:=by
 obtain⟨r,h1,h2,h3⟩:=Bf2 ao.toList []
 intro i
 induction i using Nat.strongRecOn with
 | ind i ih =>
  intro q o hi he hq
  have hb:=h3 i o (by simpa using hi)
  simp only[am3,af1] at hb
  rw[aa2,hb,Option.getD_some] at hq
  rcases Bn1 _ _ _ hq with h4 | ⟨e,h4,h5,h6⟩
  ·simp at h4
  ·have hD:=he e (by simpa using h4) h5
   rcases h6 with rfl|h6
   ·exact hD
   ·have ar:e.on<i:=by
     rcases ad3 e.on i with ar|lk
     ·exact ar
     ·rw[aa2,af4,aa1 (by omega)] at h6
      simp at h6
    have ag:e.on<ao.size:=Nat.lt_trans ar (ai0.1 hi).1
    refine ih e.on ar q ao[e.on] (by simp[ag]) (fun e' sy j9=>hc e.on _ (by simp[ag]) hD e' sy j9) ?_
    rw[aa2,af4,aa0 ar] at h6
    rw[aa2]
    exact h6
section
variable {K:Dg} {S:St} {used:Id→Nat→Prop} {γ:Id→Value} {a:Act} {w:World} {ao:Array Oper} {o:Oper}
theorem Stp.congr{C:Gi}{G:Ctx}{S S':St}{i:Nat}{s:Sp}(h:Stp C G ao S i o s)(hn:S.next=S'.next)(ht:∀ t∈o.looksAt ao,Gk S.env t=Gk S'.env t)(ho:∀ id∈s.l,Ak S.objs id=Ak S'.objs id) :
  Stp C G ao S' i o s:=by
 have hw:Apg S ao o=Apg S' ao o:=Bi4 fun j fj d hg hd=>by
  refine ht d ?_
  unfold Oper.looksAt
  rw[hg]
  refine aj6 _ ?_
  rw[Bel] at hd
  cases hj:ao[j]? with
  | none=>rw[ai7,hj] at hd;cases hd
  | some x =>
   rw[ai7,hj] at hd
   have hd:x.dst=some d:=hd
   simp[hj,hd]
 refine⟨h.1,h.2.1,?_⟩
 rw[← hw]
 rcases h.2.2 with⟨h1,h2⟩|h1
 ·refine .inl ⟨h1,?_⟩
  have he:Ah8 G o S.eval (S.next,i,0)=Ah8 G o S'.eval (S'.next,i,0):=by
   rw[hn]
   refine Bs4 fun x hx=>?_
   cases x with
   | tmp t =>
    refine ht t (al2 _ (List.mem_filterMap.2 ⟨.tmp t,by simpa using hx,rfl⟩))
   | _=>rfl
  rw[← he]
  exact h2.congr fun id bw=>(ho id bw).symm
 ·exact .inr h1
theorem Gd.drawn(h:Gd K S used γ a w)(n:Nat):Gd K S used γ a { w with drawn:=n }:=by
 have hs:Um (A3 K S.objs used γ w) (A3 K S.objs used γ { w with drawn:=n }):=⟨ab4 _,fun _ _ _ h=>⟨h,rfl⟩,fun _ _ h=>h,fun _ _ _ _ _ h=>⟨h,rfl⟩,fun _ _ _ h=>⟨h,rfl⟩,fun _ _ _ _ h=>⟨h,rfl⟩⟩
 exact h.move hs (fun id o ho=>OR.step hs rfl (fun _ _=>rfl) (h.objs id o ho)) h.ou h.vers h.sep h.mod ⟨h.frame.os,h.frame.tape,h.frame.output,h.frame.size,h.frame.block⟩
def left(n:Nat)(ae:Array Bool):Nat:=((List.range n).filter fun i=>!ae.getD i true).length
theorem Chc{n i:Nat}{ae:Array Bool}(hi:i<n)(hl:ae.getD i true=false):left n (ae.setIfInBounds i true)<left n ae:=by
 unfold left
 have f8:i<ae.size:=by
  rcases ad3 i ae.size with h|h
  ·exact h
  ·simp[h] at hl
 have e:(List.range n).filter (fun j=>!(ae.setIfInBounds i true).getD j true)=((List.range n).filter fun j=>!ae.getD j true).filter fun j=>j != i:=by
  rw[List.filter_filter]
  refine List.filter_congr fun j _=>?_
  by_cases h:i=j
  ·subst h;simp[f8]
  ·rw[getD_set_ne true h]
   simp[Ne.symm h]
 rw[e]
 have hm:i∈(List.range n).filter fun j=>!ae.getD j true:=List.mem_filter.2 ⟨List.mem_range.2 hi,by simpa using hl⟩
 exact List.length_filter_lt_length_iff_exists.2 ⟨i,hm,by simp⟩
theorem Cc6{n:Nat}{ae:Array Bool}(h:left n ae=0)(i:Nat)(hi:i<n):ae.getD i true=true:=by
 unfold left at h
 have h0:=af7 h
 cases hl:ae.getD i true with
 | true=>rfl
 | false =>
  have:i∈(List.range n).filter fun i=>!ae.getD i true:=List.mem_filter.2 ⟨List.mem_range.2 hi,by simp only[hl];rfl⟩
  rw[h0] at this
  simp at this
theorem Cm0(hK:K.OK){Q:Exit→Act→World→Prop}{S0 Sn:St}{bl:List Sp}(ht:Tr K.C K.G ao (Ae6 0 ao.toList) S0 bl Sn)(oo:Cbp (K.args.map (·.isSome)) K.nt ao=true)
  (ja:Bal ao (Vo ao.toList []) ((bl.map Sp.row).reverse++[])=true)
  (hQ:∀ ah γ' a' w',Gd K Sn ah γ' a' w'→(∀ id v,ah id v→id.1<S0.next+1)→Q .normal a' w') :
  ∀ (be:Nat) (ae:Array Bool) (used:Id→Nat→Prop) (γ:Id→Value) (a:Act) (w:World),ae.size=ao.size→left ao.size ae≤be →
   (∀ (i:Nat) (o:Oper),ao[i]?=some o→ae.getD i false=true→∀ e∈o.after,Region.binds .any e=true→ae.getD e.on false=true) →
   Gd K (rep (fun i=>ae.getD i false) S0 bl) used γ a w→(∀ id v,used id v→id.1<S0.next∨(id.1=S0.next∧ae.getD id.2.1 false=true)) →
   wpAny K.P .any ao Q be ae a w:=by
 obtain⟨g1,g2,g3⟩:=ht.get
 have g2:bl.length=ao.size:=by
  rw[g2]
  have:=am6 List.length (Bm3 ao.toList 0)
  simpa using this
 have g3:∀ (i:Nat) (o:Oper),ao[i]?=some o→∃ s,bl[i]?=some s∧Stp K.C K.G ao (rep (fun _=>true) S0 (bl.take i)) i o s:=fun i o hi=>by
  have:=g3 i (0+i,o) (by rw[Bnb];simp[hi])
  simpa using this
 have gi:∀ (i:Nat) (s:Sp),bl[i]?=some s→s.i=i∧∃ o,ao[i]?=some o∧s.dst=o.dst:=fun i s hs=>by
  have ar:i<ao.size:=by rw[← g2];exact (ae9.1 hs).1
  obtain⟨s',k1,k2⟩:=g3 i ao[i] (by simp[ar])
  rw[hs] at k1;cases k1
  exact⟨k2.1,ao[i],by simp[ar],k2.2.1⟩
 have sz:∀ (i j:Nat) (si sj:Sp),j<i→bl[j]?=some sj→bl[i]?=some si→Apt ao (Vo ao.toList []) sj si:=by
  rw[ah9,← List.map_reverse] at ja
  have:=List.pairwise_reverse.1 (Bfc _ ja)
  rw[am4] at this
  intro i j si sj ar hj hi
  obtain⟨lj,rfl⟩:=ae9.1 hj
  obtain⟨li,rfl⟩:=ae9.1 hi
  exact this j i lj li ar
 have done:∀ (ae:Array Bool) (used:Id→Nat→Prop) (γ:Id→Value) (a:Act) (w:World),ae.size=ao.size→Gd K (rep (fun i=>ae.getD i false) S0 bl) used γ a w →
   (∀ id v,used id v→id.1<S0.next∨(id.1=S0.next∧ae.getD id.2.1 false=true))→(∀ i,i<ao.size→ae.getD i true=true)→Q .normal a w:=by
  intro ae used γ a w f8 h hu eh
  have hD:∀ i,i<ao.size→ae.getD i false=true:=fun i hi=>by
   have:=eh i hi
   have hs:i<ae.size:=by rw[f8];exact hi
   simpa [Array.getD,hs] using this
  have he:Eqv (rep (fun i=>ae.getD i false) S0 bl) (rep (fun _=>true) S0 bl):=by
   have bm:∀ s∈bl,ae.getD s.i false≠true→False:=fun s hs hn=>by
    obtain⟨i,hi⟩:=aj0 hs
    have:=(gi i s hi).1
    exact hn (this▸hD i (by rw[← g2];exact (ae9.1 hi).1))
   exact⟨by rw[Alh,Alh],fun t=>Bey bl rfl fun s hs hn=>(bm s hs hn).elim,fun id=>Ba7 bl rfl fun s hs hn=>(bm s hs hn).elim⟩
  refine hQ used γ a w (h.eqv (he.trans g1)) fun id v hv=>?_
  rcases hu id v hv with h1 | ⟨h1,_⟩<;>omega
 have mz:∀ (ae:Array Bool),ae.size=ao.size→Region.ready .any ao ae=[]→∀ i,i<ao.size→ae.getD i true=true:=by
  intro ae f8 hr i
  induction i using Nat.strongRecOn with
  | ind i ih =>
   intro hi
   cases hl:ae.getD i true with
   | true=>rfl
   | false =>
    have:i∈Region.ready .any ao ae:=mem_ready.2 ⟨hl,ao[i],by simp[hi],fun e he hb=>by
     have ar:=(Bdl oo (i:=i) (o:=ao[i]) (by simp[hi])).2.2 e he hb
     have:=ih e.on ar (by omega)
     have hs:e.on<ae.size:=by rw[f8];omega
     simpa [Array.getD,hs] using this⟩
    rw[hr] at this
    simp at this
 intro be
 induction be with
 | zero =>
  intro ae used γ a w f8 s8 _ h hu
  have hz:left ao.size ae=0:=by omega
  have eh:=Cc6 hz
  refine⟨List.eq_nil_iff_forall_not_mem.2 fun i hi=>?_,done ae used γ a w f8 h hu eh⟩
  obtain⟨h1,o,ho,_⟩:=mem_ready.1 hi
  rw[eh i (ai0.1 ho).1] at h1
  cases h1
 | succ be ih =>
  intro ae used γ a w f8 s8 f9 h hu
  refine⟨fun hr=>done ae used γ a w f8 h hu (mz ae f8 hr),fun i hi=>?_⟩
  obtain⟨cz,o,ho,je⟩:=mem_ready.1 hi
  have ar:i<ao.size:=(ai0.1 ho).1
  have m0:ae.getD i false=false:=by
   have hs:i<ae.size:=by rw[f8];exact ar
   simpa [Array.getD,hs] using cz
  obtain⟨s,hs,ci⟩:=g3 i o ho
  obtain⟨r1,r2,r3⟩:=Bdl oo ho
  have je:∀ e∈o.after,Region.binds .any e=true→ae.getD e.on false=true:=je
  have jo:s.i=i:=ci.1
  -- uh is az5 av2 and uh is not
  have xw:∀ (j:Nat) (sj:Sp),bl[j]?=some sj→j<i→ae.getD j false=false→Bgq ao j i=true∧Aqa (Zh sj.u) s.l=true∧Aqa (Zh sj.u) (Zh s.u)=true∧Aqa (Zh s.u) sj.l=true:=by
   intro j sj hj s9 hnl
   have e1:=(gi j sj hj).1
   rcases sz i j s sj s9 hj hs with hb|hb
   ·rw[jo,e1] at hb
    have:=Bby (D:=fun i=>ae.getD i false) f9 i j o ho je hb
    rw[show ae.getD j false=true from this] at hnl;cases hnl
   ·rw[e1,jo] at hb;exact hb
  have oq:∀ (j:Nat) (sj:Sp),bl[j]?=some sj→i<j→ae.getD j false=true→Bgq ao i j=true∧Aqa (Zh s.u) sj.l=true∧Aqa (Zh s.u) (Zh sj.u)=true∧Aqa (Zh sj.u) s.l=true:=by
   intro j sj hj s9 hl
   have e1:=(gi j sj hj).1
   rcases sz j i sj s s9 hs hj with hb|hb
   ·rw[jo,e1] at hb
    obtain⟨_,oj,lw,_⟩:=gi j sj hj
    have:=Bby (D:=fun i=>ae.getD i false) f9 j i oj lw (f9 j oj lw hl) hb
    rw[show ae.getD i false=true from this] at m0;cases m0
   ·rw[jo,e1] at hb;exact hb
  have hap:∀ (x y:Nat),Bgq ao x y=true→∃ ox oy,ao[x]?=some ox∧ao[y]?=some oy∧Oper.apart ao ox oy=true:=fun x y sc=>by
   unfold Bgq at sc
   rw[Bel,Bel,ai7,ai7] at sc
   split at sc
   ·rename_i ox oy hx hy;exact⟨ox,oy,hx,hy,sc⟩
   ·cases sc
  have jf:bl=bl.take i++s::bl.drop (i+1):=by
   obtain⟨hl,he⟩:=ae9.1 hs
   rw[← he,← ak4 hl,ad7]
  have ri:∀ (j:Nat) (sj:Sp),(bl.drop (i+1))[j]?=some sj→bl[i+1+j]?=some sj:=fun j sj hj=>by rwa [ai2] at hj
  have ot:∀ (j:Nat) (sj:Sp),(bl.take i)[j]?=some sj→j<i∧bl[j]?=some sj:=fun j sj hj=>by
   rw[af4] at hj
   split at hj
   ·exact⟨‹_›,hj⟩
   ·cases hj
  have aw8:Stp K.C K.G ao (rep (fun i=>ae.getD i false) S0 bl) i o s:=by
   refine ci.congr (by rw[Alh,Alh]) (fun t htm=>?_) (fun id bw=>?_)
   ·have h1:Gk (rep (fun i=>ae.getD i false) S0 bl).env t=Gk (rep (fun i=>ae.getD i false) S0 (bl.take i)).env t:=by
     have:Gk (rep (fun i=>ae.getD i false) (rep (fun i=>ae.getD i false) S0 (bl.take i)) (s::bl.drop (i+1))).env t=Gk (rep (fun _=>false) (rep (fun i=>ae.getD i false) S0 (bl.take i)) (s::bl.drop (i+1))).env t:=by
      refine Bey _ rfl fun sj jg bm ui=>?_
      have bm:ae.getD sj.i false=true:=by simpa using bm
      rcases aa9.1 jg with rfl|jg
      ·rw[jo,m0] at bm;cases bm
      ·obtain⟨j,hj⟩:=aj0 jg
       have hj:=ri j sj hj
       obtain⟨e1,oj,lw,e2⟩:=gi _ sj hj
       obtain⟨ox,oy,k1,k2,k3⟩:=hap _ _ (oq _ sj hj (by omega) (by rw[← e1];exact bm)).1
       rw[ho] at k1;rw[lw] at k2
       cases k1;cases k2
       exact (Oper.apart_spec k3).2.2 t (by rw[← e2];exact ui) htm
     have hf:∀ (l:List Sp) (S:St),rep (fun _=>false) S l=S:=by
      intro l;induction l with
      | nil=>intro S;rfl
      | cons x l ih=>intro S;exact ih S
     rw[hf] at this
     rw[← this,← Aqe,← jf]
    rw[h1]
    refine Bey _ rfl fun sj jg bm ui=>?_
    have bm:ae.getD sj.i false=false:=by simpa using Ne.symm bm
    obtain⟨j,hj⟩:=aj0 jg
    obtain⟨s9,hj⟩:=ot j sj hj
    obtain⟨e1,oj,lw,e2⟩:=gi _ sj hj
    obtain⟨ox,oy,k1,k2,k3⟩:=hap _ _ (xw j sj hj s9 (by rw[← e1];exact bm)).1
    rw[lw] at k1;rw[ho] at k2
    cases k1;cases k2
    exact (Oper.apart_spec k3).1 t (by rw[← e2];exact ui) htm
   ·have h1:Ak (rep (fun i=>ae.getD i false) S0 bl).objs id=Ak (rep (fun i=>ae.getD i false) S0 (bl.take i)).objs id:=by
     have:Ak (rep (fun i=>ae.getD i false) (rep (fun i=>ae.getD i false) S0 (bl.take i)) (s::bl.drop (i+1))).objs id=Ak (rep (fun _=>false) (rep (fun i=>ae.getD i false) S0 (bl.take i)) (s::bl.drop (i+1))).objs id:=by
      refine Ba7 _ rfl fun sj jg bm=>?_
      have bm:ae.getD sj.i false=true:=by simpa using bm
      rcases aa9.1 jg with rfl|jg
      ·rw[jo,m0] at bm;cases bm
      ·obtain⟨j,hj⟩:=aj0 jg
       have hj:=ri j sj hj
       obtain⟨e1,oj,lw,e2⟩:=gi _ sj hj
       have:=(oq _ sj hj (by omega) (by rw[← e1];exact bm)).2.2.2
       cases hm:Aqn (Zh sj.u) id with
       | false=>rfl
       | true=>exact absurd bw (Bdw this id hm)
     have hf:∀ (l:List Sp) (S:St),rep (fun _=>false) S l=S:=by
      intro l;induction l with
      | nil=>intro S;rfl
      | cons x l ih=>intro S;exact ih S
     rw[hf] at this
     rw[← this,← Aqe,← jf]
    rw[h1]
    refine Ba7 _ rfl fun sj jg bm=>?_
    have bm:ae.getD sj.i false=false:=by simpa using Ne.symm bm
    obtain⟨j,hj⟩:=aj0 jg
    obtain⟨s9,hj⟩:=ot j sj hj
    obtain⟨e1,oj,lw,e2⟩:=gi _ sj hj
    have:=(xw j sj hj s9 (by rw[← e1];exact bm)).2.1
    cases hm:Aqn (Zh sj.u) id with
    | false=>rfl
    | true=>exact absurd bw (Bdw this id hm)
  have gj:Eqv ((rep (fun i=>ae.getD i false) S0 bl).app s) (rep (fun j=>(ae.setIfInBounds i true).getD j false) S0 bl):=by
   have cx:∀ j,j≠i→(ae.setIfInBounds i true).getD j false=ae.getD j false:=fun j hj=>getD_set_ne false (Ne.symm hj)
   have gx:∀ (l:List Sp) (S:St),(∀ sj∈l,sj.i≠i)→rep (fun j=>(ae.setIfInBounds i true).getD j false) S l=rep (fun i=>ae.getD i false) S l:=by
    intro l
    induction l with
    | nil=>intro S _;rfl
    | cons x l tq =>
     intro S hx
     simp only[rep]
     rw[cx _ (hx x (ac1 ..))]
     exact tq _ fun sj jg=>hx sj (ab8 _ jg)
   have hA:∀ sj∈bl.take i,sj.i≠i:=fun sj jg e=>by
    obtain⟨j,hj⟩:=aj0 jg
    obtain⟨s9,hj⟩:=ot j sj hj
    have:=(gi j sj hj).1
    omega
   have hB:∀ sj∈bl.drop (i+1),sj.i≠i:=fun sj jg e=>by
    obtain⟨j,hj⟩:=aj0 jg
    have:=(gi _ sj (ri j sj hj)).1
    omega
   have e1:rep (fun i=>ae.getD i false) S0 bl=rep (fun i=>ae.getD i false) (rep (fun i=>ae.getD i false) S0 (bl.take i)) (bl.drop (i+1)):=by
    conv=>lhs;rw[jf]
    rw[Aqe]
    simp only[rep]
    rw[jo,m0];rfl
   have uj:i<ae.size:=by rw[f8];exact ar
   have e2:rep (fun j=>(ae.setIfInBounds i true).getD j false) S0 bl=rep (fun i=>ae.getD i false) ((rep (fun i=>ae.getD i false) S0 (bl.take i)).app s) (bl.drop (i+1)):=by
    conv=>lhs;rw[jf]
    rw[Aqe,gx _ _ hA]
    simp only[rep]
    rw[jo]
    have:(ae.setIfInBounds i true).getD i false=true:=by simp[uj]
    rw[this]
    exact gx _ _ hB
   rw[e1,e2]
   refine (Cbb (bl.drop (i+1)) _ fun sj jg hD=>?_).symm
   obtain⟨j,hj⟩:=aj0 jg
   have hj:=ri j sj hj
   obtain⟨f1,oj,lw,f2⟩:=gi _ sj hj
   obtain⟨p1,p2,p3,p4⟩:=oq _ sj hj (by omega) (by rw[← f1];exact hD)
   obtain⟨ox,oy,k1,k2,k3⟩:=hap _ _ p1
   rw[ho] at k1;rw[lw] at k2
   cases k1;cases k2
   refine⟨fun d hd=>?_,fun id bw=>?_⟩
   ·rw[f2]
    exact (Oper.apart_spec k3).2.1 d (by rw[← ci.2.1];exact hd)
   ·have:=Bdw p3 id bw
    cases hm:Aqn (Zh sj.u) id with
    | false=>rfl
    | true=>exact absurd (Apu.1 hm) this
  refine Cfx h hK aw8 r1 (fun d hd=>Cg0 (r2 d hd)) ho (fun id i1 i2 v hv=>?_) fun ah γ' a' w' hg hr=>?_
  ·rw[Alh] at i1
   rcases hu id v hv with h1 | ⟨_,h1⟩
   ·omega
   ·rw[i2,m0] at h1;cases h1
  ·have uj:i<ae.size:=by rw[f8];exact ar
   have xx:(ae.setIfInBounds i true).getD i false=true:=by simp[uj]
   refine ih (ae.setIfInBounds i true) ah γ' a' w' (by simpa using f8) ?_ (fun j oj lw hl e he hb=>?_) (hr.eqv gj) fun id v hv=>?_
   ·have:=Chc ar cz
    omega
   ·by_cases qt:i=j
    ·subst qt
     rw[ho] at lw;cases lw
     exact getD_set_true (je e he hb)
    ·rw[getD_set_ne false qt] at hl
     exact getD_set_true (f9 j oj lw hl e he hb)
   ·rcases hg id v hv with⟨v',ix⟩ | ⟨i1,i2⟩
    ·rcases hu id v' ix with h1 | ⟨h1,h2⟩
     ·exact .inl h1
     ·exact .inr ⟨h1,getD_set_true h2⟩
    ·refine .inr ⟨by rw[← Alh];exact i1,?_⟩
     rw[show id.2.1=i from i2]
     exact xx
end
end Go.Pon
namespace Go.Pon
open Go
structure Boi(K:Dg)(ms:List Dz)(vals:List Value)(x:Iu ms)(w:World):Prop where
 frame:Aif K.w0 w K.own
 mr:∃ bs ok,MRL w ok K.base ms vals x bs∧bs.Nodup∧(∀ f b,ok f b→b ∉ bs∧¬ K.B b∧(f=true→K.base≤b))∧∀ g∈bs,(K.base≤g∨g∈K.own)∧¬ K.B g
section
variable {K:Dg} {S:St} {used:Id→Nat→Prop} {γ:Id→Value} {a:Act} {w:World}
theorem Bdb(h:Gd K S used γ a w){ms:List Dz}{vs:List AV}{vals:List Value}(ag:vals.length=vs.length)
  (hv:∀ (i:Nat) (v:AV) (val:Value),vs[i]?=some v→vals[i]?=some val→Dn (A3 K S.objs used γ w) v val) {x:Iu ms} {l:List Id}
  (hl:A6 K.C S.objs (Xc true ms vs ⟨[],[]⟩ fun x _=>.done x) [] x l):Boi K ms vals x w:=by
 obtain⟨x',c,l1,new,hl,hc,_,bc,_,mo⟩:=Uq h ms vs (Xr.start S true) hl
 obtain⟨rfl,_⟩:=hl
 have bc:(Cx c.ups).Perm new:=by simpa [Cx] using bc
 have xf:new.Nodup:=bc.nodup_iff.1 hc.nodup
 refine⟨h.frame,Em S γ new,okL K S γ c,mo vals ag hv,Ael h xf,fun f b hb=>⟨fun hm=>?_,hb.2⟩,fun g hg=>?_⟩
 ·obtain⟨i,hi,di⟩:=E8.1 hm
  exact hc.apart i (Nv.1 (bc.mem_iff.2 hi)) (hb.1 i di)
 ·obtain⟨i,hi,di⟩:=E8.1 hg
  exact h.mod i g di
theorem Bhx{ms:List Dz}{vals:List Value}{x:Iu ms}(hh:Boi K ms vals x w)(bp:a.tmps.size=K.nt)(ov:a.defers=[])
  (hkept:∀ (i:Nat) (v:Value),K.args[i]?=some (some v)→a.tmps.getD i undef=v) {vs:List AV} {u:Pm} {l:List Id} {C:Gi}
  (hl:A6 C [] (Af4 ms x (0,0,0) [] fun vs _ u=>.done (vs,u)) [] (vs,u) l) :
  ∃ used γ,(∀ id v,used id v→id.1=0∧id.2.1=0)∧vs.length=vals.length∧(∀ v∈vs,Aw3 v=true)∧(∀ (i:Nat) (v:AV) (val:Value),vs[i]?=some v→vals[i]?=some val→Ev (A3 K u used γ w) v val)∧∀ env:List (Nat×AV),(∀ t,Gk env t=.any∨∃ (i:Nat) (v:AV) (val:Value),vs[i]?=some v∧vals[i]?=some val∧Gk env t=v∧a.tmps.getD t undef=val) →
   Gd K { env:=env,objs:=u,next:=1 } used γ a w:=by
 obtain⟨hf,bs,ok,hm,dv,bj,oa⟩:=hh
 obtain⟨gy,n',N,hl,hspan,dh,ag,gm,gf⟩:=Blt ms hm hl
 obtain⟨e,_⟩:=hl
 have e:(gy,I7.ups N++[])=(vs,u):=e
 rw[ah9] at e
 cases e
 let used:Id→Nat→Prop:=fun id v=>v=0∧∃ p∈N,p.1=id
 have xy:∀ j,Ak (I7.ups N) j=Ak (Da (I7.ups N) []) j:=fun j=>by rw[Adu,ah9]
 have xz:∀ p∈N,Ak (I7.ups N) p.1=some p.2.1:=fun p hp=>by rw[xy];exact Ara hspan.nodup hp
 have hno:∀ j,(∀ p∈N,p.1≠j)→Ak (I7.ups N) j=none:=fun j hj=>by rw[xy,Aqz hj];rfl
 have bv:∀ j g,Bc (Ak (I7.ups N) j) (Xj N (fun _=>undef) j)=some g→∃ p∈N,p.1=j∧Bc (some p.2.1) p.2.2=some g:=by
  intro j g hg
  by_cases hj:∃ p∈N,p.1=j
  ·obtain⟨p,hp,rfl⟩:=hj
   rw[Au2 hspan.nodup hp,xz p hp] at hg
   exact⟨p,hp,rfl,hg⟩
  ·rw[hno j fun p hp e=>hj ⟨p,hp,e⟩] at hg
   cases hg
 have uk:Zd w ok K.base N K (A3 K (I7.ups N) used (Xj N fun _=>undef) w):=by
  refine⟨rfl,rfl,fun f b hb=>⟨fun id bw=>?_,(bj f b hb).2⟩,fun p hp=>⟨xz p hp,(Au2 hspan.nodup hp:Xj N (fun _=>undef) p.1=p.2.2),rfl,p,hp,rfl⟩⟩
  obtain⟨p,hp,_,kc⟩:=bv id b bw
  exact (bj f b hb).1 (dh.mem_iff.1 (Ajw hp kc))
 obtain⟨q1,q2⟩:=gf K _ uk
 refine⟨used,Xj N fun _=>undef,?_,ag,gm,q1,fun env ul=>⟨bp,ov,hkept,fun t=>?_,fun id o ho=>?_,fun id o ho=>?_,fun id ab fr t rows v ho hu=>?_,fun i j g hi hj=>?_,fun i g hi=>?_,hf⟩⟩
 ·rintro id v ⟨_,p,hp,rfl⟩
  exact⟨(hspan.ids p hp).1,(hspan.ids p hp).2.1⟩
 ·rcases ul t with h1 | ⟨i,v,val,h1,h2,h3,h4⟩
  ·show Dn _ (Gk env t) _
   rw[h1];trivial
  ·show Dn _ (Gk env t) _
   rw[h3,h4]
   exact Ayu (gm v (ar8 h1)) (q1 i v val h1 h2)
 ·have ho:Ak (I7.ups N) id=some o:=ho
  by_cases hj:∃ p∈N,p.1=id
  ·obtain⟨p,hp,rfl⟩:=hj
   rw[xz p hp] at ho
   cases ho
   exact q2 p hp
  ·rw[hno id fun p hp e=>hj ⟨p,hp,e⟩] at ho
   cases ho
 ·have ho:Ak (I7.ups N) id=some o:=ho
  by_cases hj:∃ p∈N,p.1=id
  ·exact⟨0,rfl,hj⟩
  ·rw[hno id fun p hp e=>hj ⟨p,hp,e⟩] at ho
   cases ho
 ·obtain⟨rfl,_⟩:=hu
  exact ac2 _
 ·obtain⟨p,hp,rfl,kc⟩:=bv i g hi
  obtain⟨q,hq,rfl,qp⟩:=bv j g hj
  rw[Cah (dh.nodup_iff.2 dv) hp hq kc qp]
 ·obtain⟨p,hp,_,kc⟩:=bv i g hi
  exact oa g (dh.mem_iff.1 (Ajw hp kc))
theorem Bla{ms:List Dz}{vals:List Value}{x:Iu ms}(hh:Boi K ms vals x w)(bp:a.tmps.size=K.nt)(ov:a.defers=[])
  (hkept:∀ (i:Nat) (v:Value),K.args[i]?=some (some v)→a.tmps.getD i undef=v) {vs:List AV} {u:Pm} {l:List Id} {C:Gi}
  (hl:A6 C [] (Af4 ms x (0,0,0) [] fun vs _ u=>.done (vs,u)) [] (vs,u) l) :
  ∃ used γ,(∀ id v,used id v→id.1=0)∧vs.length=vals.length∧(∀ v∈vs,Aw3 v=true)∧∀ env:List (Nat×AV),(∀ t,Gk env t=.any∨∃ (i:Nat) (v:AV) (val:Value),vs[i]?=some v∧vals[i]?=some val∧Gk env t=v∧a.tmps.getD t undef=val) →
   Gd K { env:=env,objs:=u,next:=1 } used γ a w:=by
 obtain⟨used,γ,u1,u2,u3,_,u5⟩:=Bhx hh bp ov hkept hl
 exact⟨used,γ,fun id v h=>(u1 id v h).1,u2,u3,u5⟩
def AL(a:Act)(w:World)(x:Ali):Prop:=∃ g val,a.tmps.getD x.q undef=.pointer (some ⟨g,0,none⟩)∧w.cell? ⟨g,Bz x.t [x.i],none⟩=some val∧a.tmps.getD x.s undef=val
theorem Bwb(h:Gd K S used γ a w){x:Ali}{j:Id}{v:Nat}(hx:Cbk S x=some (j,v)) :
  ∃ g val,a.tmps.getD x.q undef=.pointer (some ⟨g,0,none⟩)∧w.cell? ⟨g,Bz x.t [x.i],none⟩=some val∧ARc (A3 K S.objs used γ w) (.own j v) [val]:=by
 unfold Cbk at hx
 split at hx
 ·rename_i id hq
  split at hx
  ·rename_i fm u c ho
   split at hx
   ·rename_i t' ht
    cases hb:(Ty.beq u x.t&&Bre x.t x.i) with
    | false=>rw[hb] at hx;cases hx
    | true =>
     rw[hb] at hx
     simp only[ao8] at hx
     simp only[aa5] at hb
     have e:=Ty.beq_iff.1 hb.1
     subst e
     split at hx
     ·rename_i j' v' hn
      cases hx
      have hv:Dn (A3 K S.objs used γ w) (Gk S.env x.q) (a.tmps.getD x.q undef):=h.env x.q
      rw[hq] at hv
      obtain⟨_,hp⟩:=Abe hv
      obtain⟨g,u',p1,p2,p3,p4⟩:=hp x.t ⟨fm,c,.inl ho⟩
      obtain⟨g',e',cur,m1,m2,m3,m4,_⟩:=h.objs id _ ho
      have m1:γ id=_:=m1
      have p1:γ id=_:=p1
      rw[m1] at p1
      obtain rfl:g'=g:=by cases p1;rfl
      have m2:w.heap[g']?=_:=m2
      obtain⟨n1,n2,n3⟩:=Ae1 c x.t [x.i] (.slice t') cur.toList m3 ht (Bkl ht hb.2) m4 _ hn
      obtain⟨_,val,aq,_,_⟩:=n2
      refine⟨g',val,by rw[p4,(Kc x.t).2.2],?_,?_⟩
      ·have:=Ab7 m2 (Bz x.t [x.i]) (Ty.slice t').size 0 val (by rw[aq];rfl)
       rw[Addr.add_lit] at this
       exact this
      ·rw[← aq];exact (Ae1 c x.t [x.i] (.slice t') cur.toList m3 ht (Bkl ht hb.2) m4 _ hn).2.1
     ·cases hx
   ·cases hx
  ·cases hx
 ·cases hx
theorem Cf2{o:Option Obj}{v:Nat}(h:slB o v=true):∃ t n,Ahd o v t n:=by
 unfold slB at h
 split at h
 ·rename_i w f t r
  have:=ab1 h
  subst this
  exact⟨t,_,f,r,rfl,.inl rfl⟩
 ·rename_i w f t r
  have:=ab1 h
  subst this
  exact⟨t,_,f,r,rfl,.inr rfl⟩
 ·cases h
theorem Brq(h:Gd K S used γ a w){x:Ali}(hx:Bn2 S x=true):AL a w x:=by
 unfold Bn2 at hx
 split at hx
 ·rename_i j v j' v' h1 h2
  simp only[aa5] at hx
  have e1:=Xw.1 hx.1
  have e2:=ab1 hx.2.1
  subst e1 e2
  obtain⟨t,n,hs⟩:=Cf2 hx.2.2
  obtain⟨g,val,q1,q2,q3⟩:=Bwb h h1
  have hv:Dn (A3 K S.objs used γ w) (Gk S.env x.s) (a.tmps.getD x.s undef):=h.env x.s
  rw[h2] at hv
  obtain⟨_,_,k1⟩:=Ar5 hv
  have k1:=k1 t n hs
  obtain⟨_,dt,e3,_,k2⟩:=q3
  cases e3
  have k2:=k2 t n hs
  exact⟨g,val,q1,q2,by rw[k1,k2]⟩
 ·cases hx
theorem Btj(h:Gd K S used γ a w){env:List (Nat×AV)}(he:∀ t,Dn (A3 K S.objs used γ w) (Gk env t) (a.tmps.getD t undef)):Gd K { S with env:=env } used γ a w :=
 ⟨h.size,h.defers,h.kept,he,h.objs,h.ou,h.vers,h.sep,h.mod,h.frame⟩
theorem Boj(h:Gd K S used γ a w):∀ {al:List Ali},(∀ x∈al,AL a w x)→∀ t,Dn (A3 K S.objs used γ w) (Gk (Bm9 S al) t) (a.tmps.getD t undef)
 | [],_,t=>h.env t
 | x::r,js,t=>by
  have ih:=Boj h (al:=r) (fun y hy=>js y (ab8 _ hy)) t
  simp only[Bm9]
  split
  ·rename_i j v hx
   rw[Py]
   by_cases e:x.s=t
   ·rw[aa0 e]
    subst e
    obtain⟨g,val,q1,q2,q3⟩:=Bwb h hx
    obtain⟨g',dt,r1,r2,r3⟩:=js x (ac1 ..)
    rw[q1] at r1
    cases r1
    rw[q2] at r2
    cases r2
    rw[r3]
    obtain⟨u1,dt,e3,u2,u3⟩:=q3
    cases e3
    exact Df (a:=.own j v) ⟨u1,val,rfl,u2,u3⟩ rfl (by cases val<;>simp_all [Value.oneCell',Ck])
   ·rw[aa1 e];exact ih
  ·exact ih
end
end Go.Pon
namespace Go.Pon
open Go
structure Amc(K:Dg)(y:Lay)(ins:List Dz)(vals act:List Value)(b:Nat):Prop where
 boxed:Clw y K.w0 vals act b
 nb:b ∉ K.own
 nB:¬ K.B b
 args:K.args=act.map some
 len:vals.length=ins.length
 one:∀ v∈vals,Ck v=false
theorem Wt{a:Act}:∀ (hs:List (Nat×Dz)) (vs:List AV),vs.length=hs.length→∀ t,Gk (Qi hs vs) t=.any ∨
  ∃ (i:Nat) (v:AV) (val:Value),vs[i]?=some v∧(hs.map fun p=>a.tmps.getD p.1 undef)[i]?=some val∧Gk (Qi hs vs) t=v∧a.tmps.getD t undef=val
 | [],[],_,t=>.inl rfl
 | (s,m)::hs,v::vs,ag,t=>by
  simp only[Qi,Py]
  by_cases e:s=t
  ·rw[aa0 e]
   exact .inr ⟨0,v,a.tmps.getD s undef,rfl,rfl,rfl,by rw[e]⟩
  ·rw[aa1 e]
   rcases Wt (a:=a) hs vs (by simpa using ag) t with h | ⟨i,v',val,h1,h2,h3,h4⟩
   ·exact .inl h
   ·exact .inr ⟨i+1,v',val,by simpa using h1,by simpa using h2,h3,h4⟩
theorem Bnp{α:Type}:∀ (n:Nat) (l:List α),Bca n l=l.take n
 | 0,l=>by simp[Bca]
 | n+1,[]=>by simp[Bca]
 | n+1,a::l=>by simp[Bca,Bnp n l]
theorem Bvr{α:Type}:∀ (n:Nat) (l:List α),Bbx n l=l.drop n
 | 0,l=>by simp[Bbx]
 | n+1,[]=>by simp[Bbx]
 | n+1,a::l=>by simp[Bbx,Bvr n l]
theorem Bnv(S:St):∀ (n k i:Nat),(Azy S k n)[i]?=if i<n then some (Gk S.env (k+i)) else none
 | 0,k,i=>by simp[Azy]
 | n+1,k,0=>by simp[Azy]
 | n+1,k,i+1=>by
  simp only[Azy,al3,Bnv S n (Nat.succ k) i,an0]
  rw[show Nat.succ k+i=k+(i+1) by omega]
theorem Bl3(S:St):∀ (n k:Nat),(Azy S k n).length=n
 | 0,k=>rfl
 | n+1,k=>by simp[Azy,Bl3 S n]
theorem Bwm:∀ (l:List AV) (r:List (Nat×AV)) (n t:Nat),Gk (Da (Ae6 n l) r) t=if n≤t∧t<n+l.length then l.getD (t-n) .any else Gk r t
 | [],r,n,t=>by
  simp only[Ae6,Da,am3,af6]
  rw[aa1 (by omega)]
 | x::l,r,n,t=>by
  show Gk ((n,x)::Da (Ae6 (Nat.succ n) l) r) t=_
  rw[Py,Bwm l r (Nat.succ n) t]
  by_cases e:n=t
  ·subst e
   rw[aa0 rfl,aa0 ⟨ab4 _,by simp⟩]
   simp
  ·rw[aa1 e]
   by_cases h:Nat.succ n≤t∧t<Nat.succ n+l.length
   ·rw[aa0 h,aa0 ⟨by omega,by simp;omega⟩]
    rw[show t-n=(t-Nat.succ n)+1 by omega]
    simp
   ·rw[aa1 h,aa1]
    simp only[ac5]
    omega
theorem Bva{β:Type}(f:Id→β)(i:Id)(v:β):upd f i v i=v:=by unfold upd;rw[aa0 rfl]
theorem Bwl{E:U5}:∀ {l:List AV} {vals:List Value},l.length=vals.length→(∀ (i:Nat) (v:AV) (val:Value),l[i]?=some v→vals[i]?=some val→Ev E v val∧Ck val=false)→ARc E (Atm l) vals
 | [],[],_,_=>rfl
 | v::l,val::vals,h,hp=>by
  obtain⟨⟨h1,_⟩,h2⟩:=hp 0 v val rfl rfl
  rw[Bm h2] at h1
  exact⟨[val],vals,rfl,h1,Bwl (by simpa using h) fun i v' dt e1 e2=>hp (i+1) v' dt (by simpa using e1) (by simpa using e2)⟩
section
variable {K:Dg} {S:St} {used:Id→Nat→Prop} {γ:Id→Value} {a:Act} {w:World} {y:Lay} {ins:List Dz} {vals act:List Value} {b:Nat}
theorem Amc.npar(hV:Amc K y ins vals act b):act.length=Bts y ins:=by
 obtain⟨caps,v0,e,h1,h2,h3,h4⟩:=hV.boxed
 have hj:y.j<caps.length:=(ae9.1 h2).1
 unfold Bts
 rcases h1 with⟨w1,w2⟩ | ⟨g,w1,w2⟩
 ·rw[w1,w2]
  have:=hV.len
  rw[h3] at this
  simp only[ac5] at this
  rw[Bof hj] at this
  exact this
 ·rw[w1,w2];rfl
theorem Amc.slot(hV:Amc K y ins vals act b)(hkept:∀ (i:Nat) (v:Value),K.args[i]?=some (some v)→a.tmps.getD i undef=v){i:Nat}{v:Value}(h:act[i]?=some v):a.tmps.getD i undef=v :=
 hkept i v (by rw[hV.args,ag3,h];rfl)
theorem Amc.block(hV:Amc K y ins vals act b)(hf:Aif K.w0 w K.own):w.heap[b]?=K.w0.heap[b]?∧b<K.base:=by
 obtain⟨caps,v0,e,h1,h2,h3,h4⟩:=hV.boxed
 have ar:b<K.w0.heap.size:=(ai0.1 h4).1
 exact⟨hf.block b ar hV.nb,ar⟩
theorem Amc.ok(hV:Amc K y ins vals act b)(h:Gd K S used γ a w):Ahh K (Ak S.objs) γ false b:=by
 obtain⟨h1,h2⟩:=hV.block h.frame
 refine⟨fun id bw=>?_,hV.nB,fun h=>by cases h⟩
 rcases (h.mod id b bw).1 with h3|h3
 ·omega
 ·exact hV.nb h3
theorem Bxh(hV:Amc K y ins vals act b)(h:Gd K S used γ a w){vs:List AV}(jh:Bxs y (Bts y ins) S=some vs) :
  vs.length=vals.length∧∀ (i:Nat) (v:AV) (val:Value),vs[i]?=some v→vals[i]?=some val→Dn (A3 K S.objs used γ w) v val:=by
 obtain⟨caps,v0,e,h1,h2,h3,h4⟩:=hV.boxed
 unfold Bxs at jh
 split at jh
 case h_2=>cases jh
 rename_i h0 cs cz
 obtain⟨x8,c1,c2,c3⟩:=Bx3 (E:=A3 K S.objs used γ w) (act:=act) (by rw[Bl3,hV.npar]) (fun i v val e1 e2=>by
  rw[Bnv] at e1
  split at e1
  ·cases e1
   rw[af1]
   have:=h.env i
   rwa [hV.slot h.kept e2] at this
  ·cases e1) cz
 have hcc:x8=caps:=by
  rcases h1 with⟨w1,w2⟩ | ⟨g,w1,w2⟩<;>rcases c3 with⟨x1,_,x2⟩ | ⟨g',_,a0,x1,_,x2,_⟩
  ·rw[← x2,w2]
  ·rw[w1] at x1;cases x1
  ·rw[w1] at x1;cases x1
  ·rw[w2] at x2
   have:=am6 (fun l=>l[1]?) x2
   simp only[al3,List.getElem?_cons_zero,ak5,Value.func.injEq] at this
   exact (as0.2 this.2.2.symm:_) |> (by simpa using ·)
 subst hcc
 split at jh
 case h_2=>cases jh
 rename_i vb hb
 split at jh
 case h_2=>cases jh
 rename_i bid aw9
 obtain rfl:=Ait aw9
 split at jh
 case h_2=>cases jh
 rename_i ob ak
 split at jh
 case h_2=>cases jh
 rename_i r fz hbx
 split at jh
 case h_2=>cases jh
 cases hq:Bgx h0 r with
 | false=>rw[hq] at jh;cases jh
 | true =>
 rw[hq] at jh
 cases jh
 rw[Bme] at hb
 obtain⟨fm,⟨_,hn⟩ | ⟨rfl,_⟩⟩:=Bdq hbx
 ·cases hn
 obtain⟨gb,v0',e',k1,k2,k3,k4,k5⟩:=Brp h (.inr ak) (c2 _ _ _ hb h2)
 cases k2
 rw[(hV.block h.frame).1,h4] at k3
 cases k3
 obtain⟨r1,r2⟩:=Bch (p:=Dn (A3 K S.objs used γ w)) (n:=y.j) c1.symm c2
 rw[h3]
 refine⟨by simp[r1],fun i v val e1 e2=>?_⟩
 cases i with
 | zero=>simp at e1 e2;subst e1 e2;exact k4
 | succ i=>exact r2 i v val (by simpa using e1) (by simpa using e2)
theorem Cg1(hV:Amc K y ins vals act b){hs:List (Nat×Dz)}{ms:List Dz}{x:Iu ms}(hh:Boi K ms (vals++hs.map fun p=>a.tmps.getD p.1 undef) x w)(bp:a.tmps.size=K.nt)(ov:a.defers=[])
  (hkept:∀ (i:Nat) (v:Value),K.args[i]?=some (some v)→a.tmps.getD i undef=v) {vs:List AV} {u:Pm} {l:List Id} {C:Gi}
  (hl:A6 C [] (Af4 ms x (0,0,0) [] fun vs _ u=>.done (vs,u)) [] (vs,u) l) (hp:Bb6 vs=true) :
  ∃ used γ,(∀ id v,used id v→id.1=0)∧Gd K { env:=Da (Ae6 0 (Adx y (Bca (List.length ins) vs))) (Qi hs (Bbx (List.length ins) vs)),objs:=Da (Bzd vs) u,next:=1 } used γ a w:=by
 obtain⟨used,γ,u1,ag,u3,q1,u4⟩:=Bhx hh bp ov hkept hl
 obtain⟨caps,v0,e,h1,h2,h3,h4⟩:=hV.boxed
 have hR:=u4 [] fun t=>.inl rfl
 obtain⟨r,vt,rfl⟩:∃ r vt,vs=.ptr r []::vt:=by
  cases vs with
  | nil=>cases hp
  | cons v vt =>
   simp only[Bb6] at hp
   split at hp
   ·rename_i r hr;exact⟨r,vt,by rw[Ait hr]⟩
   ·cases hp
 have ja:∀ v,¬ used Ah6 v:=fun v hv=>by
  have:=(u1 _ _ hv).2
  exact absurd this (by decide)
 have bj:=hV.ok hR
 obtain⟨dh,ar⟩:=hV.block hR.frame
 have hr0:Ev (A3 K u used γ w) (.ptr r []) v0:=q1 0 _ _ rfl (by rw[h3];rfl)
 have x9:Ck v0=false:=hr0.2.symm
 obtain⟨hs1,hR1⟩:=hR.newS (id:=Ah6) (o:=.mfz false .ptr (.ptr r [])) (hv:=.pointer (some ⟨b,0,none⟩)) ja (fun g hg=>by cases hg) (ab4 _) (fun _ _=>rfl) hR.frame
  (fun E' dl hE=>by
   have f0:E'.γ Ah6=.pointer (some ⟨b,0,none⟩):=by subst hE;exact Bva γ Ah6 _
   have hw:E'.w=w:=by subst hE;rfl
   have mw:=hr0.step dl
   refine⟨⟨b,e,#[v0],f0,by rw[hw,dh,h4],rfl,?_,fun h=>by cases h⟩,fun ad kg=>?_⟩
   ·have:=mw.1
    rw[Bm x9] at this
    exact this
   ·rw[f0] at kg
    cases kg
    exact (dl.ok false b (by
     have cf:=hR.frame.size
     show b<w.heap.size
     exact ae3 ar cf) bj).1)
 have uo:Ev (A3 K ((Ah6,some (.mfz false .ptr (.ptr r [])))::u) (Auc used Ah6 0) (upd γ Ah6 (.pointer (some ⟨b,0,none⟩))) w) (.ptr Ah6 []) (.pointer (some ⟨b,0,none⟩)):=by
  refine⟨⟨.inr ⟨rfl,rfl⟩,_,rfl,rfl,fun t' gn=>?_⟩,rfl⟩
  exact⟨b,t',Bva γ Ah6 _,(Kc t').1,(Kc t').2.1,by rw[(Kc t').2.2]⟩
 have bd:∀ (i:Nat) (v:AV) (val:Value),(AV.ptr r []::vt)[i]?=some v→(vals++hs.map fun p=>a.tmps.getD p.1 undef)[i]?=some val→Ev (A3 K ((Ah6,some (.mfz false .ptr (.ptr r [])))::u) (Auc used Ah6 0) (upd γ Ah6 (.pointer (some ⟨b,0,none⟩))) w) v val :=
  fun i v val e1 e2=>(q1 i v val e1 e2).step hs1
 refine⟨Auc used Ah6 0,upd γ Ah6 (.pointer (some ⟨b,0,none⟩)),fun id v hv=>?_,Btj hR1 fun t=>?_⟩
 ·rcases hv with hv | ⟨rfl,_⟩
  ·exact (u1 id v hv).1
  ·rfl
 ·have hvl:vals.length=(Ii y.j caps).length+1:=by rw[h3];rfl
  have bx:=hV.len
  have ya:vt.length+1=vals.length+hs.length:=by simpa using ag
  have ht1:∀ (i:Nat) (v:AV) (val:Value),(vt.take (ins.length-1))[i]?=some v→(Ii y.j caps)[i]?=some val →
    Ev (A3 K ((Ah6,some (.mfz false .ptr (.ptr r [])))::u) (Auc used Ah6 0) (upd γ Ah6 (.pointer (some ⟨b,0,none⟩))) w) v val∧Ck val=false:=fun i v val e1 e2=>by
   have ax0:i<ins.length-1:=by
    have:=(ae9.1 e1).1
    rw[ab2] at this
    omega
   rw[af4,aa0 ax0] at e1
   have e3:vals[i+1]?=some val:=by rw[h3];simpa using e2
   refine⟨bd (i+1) v val (by simpa using e1) ?_,hV.one val (ar8 e3)⟩
   rw[ag9 (ae9.1 e3).1,e3]
  have htl:(vt.take (ins.length-1)).length=(Ii y.j caps).length:=by rw[ab2];omega
  obtain⟨n1,n2⟩:=Bwv (p:=fun v val=>Ev (A3 K ((Ah6,some (.mfz false .ptr (.ptr r [])))::u) (Auc used Ah6 0) (upd γ Ah6 (.pointer (some ⟨b,0,none⟩))) w) v val∧Ck val=false)
   (a:=.ptr Ah6 []) (b:=.pointer (some ⟨b,0,none⟩)) ⟨uo,rfl⟩ (n:=y.j) htl ht1
  rw[Bmm h2] at n1 n2
  have fp:∃ k,ins.length=k+1:=⟨ins.length-1,by omega⟩
  obtain⟨k,hk⟩:=fp
  have htk:Bca ins.length (AV.ptr r []::vt)=.ptr r []::vt.take (ins.length-1):=by rw[Bnp,hk];simp
  have hdk:Bbx ins.length (AV.ptr r []::vt)=vt.drop (ins.length-1):=by rw[Bvr,hk];simp
  show Dn _ (Gk (Da (Ae6 0 (Adx y (Bca ins.length (AV.ptr r []::vt)))) (Qi hs (Bbx ins.length (AV.ptr r []::vt)))) t) _
  rw[htk,hdk,Bwm]
  have hmk:(Adx y (AV.ptr r []::vt.take (ins.length-1))).length=act.length∧∀ (i:Nat) (v:AV) (val:Value),(Adx y (AV.ptr r []::vt.take (ins.length-1)))[i]?=some v→act[i]?=some val →
    Ev (A3 K ((Ah6,some (.mfz false .ptr (.ptr r [])))::u) (Auc used Ah6 0) (upd γ Ah6 (.pointer (some ⟨b,0,none⟩))) w) v val:=by
   unfold Adx
   rcases h1 with⟨w1,w2⟩ | ⟨g,w1,w2⟩
   ·simp only[w1]
    rw[w2]
    exact⟨n1,fun i v val e1 e2=>(n2 i v val e1 e2).1⟩
   ·simp only[w1]
    rw[w2]
    refine⟨rfl,fun i v val e1 e2=>?_⟩
    match i with
    | 0 =>
     simp at e1 e2;subst e1 e2
     exact bd 0 _ _ rfl (by rw[h3];rfl)
    | 1 =>
     simp at e1 e2;subst e1 e2
     exact⟨⟨caps.toArray,rfl,by simpa using Bwl n1 n2⟩,rfl⟩
    | i+2=>simp at e1
  by_cases ht:0≤t∧t<0+(Adx y (AV.ptr r []::vt.take (ins.length-1))).length
  ·rw[aa0 ht]
   have gn:t<(Adx y (AV.ptr r []::vt.take (ins.length-1))).length:=by omega
   have rj:act[t]?=some (act[t]'(by omega)):=by simp
   rw[ak1,hV.slot hkept rj]
   have e1:(Adx y (AV.ptr r []::vt.take (ins.length-1)))[t]?=some ((Adx y (AV.ptr r []::vt.take (ins.length-1))).getD t .any):=by
    rw[aa2,aa6 gn];rfl
   have ng:=hmk.2 t _ _ e1 rj
   have hso:Aw3 ((Adx y (AV.ptr r []::vt.take (ins.length-1))).getD t .any)=true:=by
    generalize hz:(Adx y (AV.ptr r []::vt.take (ins.length-1))).getD t .any=z at ng
    cases z<;>first|rfl|exact absurd ng.1 (fun h=>h)
   exact Ayu hso ng
  ·rw[aa1 ht]
   rcases Wt (a:=a) hs (vt.drop (ins.length-1)) (by rw[ac0];omega) t with h | ⟨i,v,val,g1,g2,g3,g4⟩
   ·rw[h];trivial
   ·rw[g3,g4]
    rw[ai2] at g1
    have:=bd (ins.length+i) v val (by rw[hk] at g1⊢;rw[show k+1+i=(k+1-1+i)+1 by omega];simpa using g1) (by
     rw[af5 (by omega),show ins.length+i-vals.length=i by omega];exact g2)
    exact Ayu (u3 v (ab8 _ (ar8 g1))) this
end
end Go.Pon
namespace Go.Pon
open Go
def Ao5(ps:List Bool)(nt:Nat):Code→Bool
 | .region _ ao _=>Cbp ps nt ao
 | .seq a b=>Ao5 ps nt a&&Ao5 ps nt b
 | .cond c a b=>A1 c&&Ao5 ps nt a&&Ao5 ps nt b
 | .block _ c=>Ao5 ps nt c
 | .loop c=>Ao5 ps nt c
 | _=>true
theorem Bhd{α:Type}{f:α→Bool}:∀ {l:List α},Sc f l=true→∀ x∈l,f x=true
 | [],_,x,h=>by cases h
 | a::l,h,x,hx=>by
  simp only[Sc,aa5] at h
  rcases aa9.1 hx with rfl|hx
  ·exact h.1
  ·exact Bhd h.2 x hx
def Bui(L:Af):Prop:=∀ (ω δ:Type) (round:(δ→Option ω)→δ→Option ω) (x:δ) (r:ω),L ω δ round x=some r→∃ n,Bb8 round n x=some r
theorem Bck:Bui Ac:=fun _ _ _ _ _ h=>⟨Bo4,by rw[Arw] at h;exact h⟩
def Inv(K:Dg)(S:St)(used:Id→Nat→Prop)(γ:Id→Value)(a:Act)(w:World):Prop:=Gd K S used γ a w∧∀ id v,used id v→id.1<S.next
theorem Aad(S:St):∀ (hs:List (Nat×Dz)),Bew S hs=hs.map fun p=>Gk S.env p.1
 | []=>rfl
 | (i,_)::hs=>by simp[Bew,Aad S hs]
theorem MRL.len{w:World}{ok:Bool→Nat→Prop}{base:Nat}:∀ {ms:List Dz} {vs:List Value} {x:Iu ms} {bs:List Nat},MRL w ok base ms vs x bs→vs.length=ms.length
 | [],_,_,_,⟨h,_⟩=>by rw[h];rfl
 | _::_,_,_,_,⟨_,_,_,_,h,_,_,h2,_⟩=>by rw[h];simp[MRL.len h2]
theorem Cey{p:Nat→Prop}(h:∃ n,p n):∃ n,p n∧∀ m,p m→n≤m:=by
 obtain⟨n,hn⟩:=h
 induction n using Nat.strongRecOn with
 | ind n ih =>
  by_cases hm:∃ m,m<n∧p m
  ·obtain⟨m,h1,h2⟩:=hm
   exact ih m h1 h2
  ·refine⟨n,hn,fun m h2=>?_⟩
   rcases ad3 m n with h1|h1
   ·exact absurd ⟨m,h1,h2⟩ hm
   ·exact h1
def Adf(p:Nat→Prop):Nat:=@dite Nat (∃ n,p n) (Classical.propDecidable _) (fun h=>Classical.choose (Cey h)) (fun _=>0)
theorem Aa6{p:Nat→Prop}(h:∃ n,p n):p (Adf p)∧∀ m,p m→Adf p≤m:=by
 have:Adf p=Classical.choose (Cey h):=dif_pos h
 rw[this]
 exact Classical.choose_spec (Cey h)
section
variable {K:Dg}
theorem Bp0(hK:K.OK)(rk:K.P.follows .mixedOrders=true){ω:Type}{k:St→Option ω}{r:ω}{id:Nat}{ao:Array Oper}{dq:Bool}(oo:Cbp (K.args.map (·.isSome)) K.nt ao=true)
  {Q:Exit→Act→World→Prop} (hQ:∀ S used γ a w,Inv K S used γ a w→k S=some r→Q .normal a w) {S:St} {used:Id→Nat→Prop} {γ:Id→Value} {a:Act} {w:World}
  (h:Inv K S used γ a w) (he:Akq K.C K.G ao dq (Ae6 0 ao.toList) S [] k=some r):(Code.region id ao dq).wp K.P Q a w:=by
 obtain⟨bl,S',ht,ja,hk⟩:=Bcs _ _ _ he
 have yb:S'.next=S.next:=by
  have:=ht.get.1.next
  rw[Alh] at this
  exact this.symm
 have fd:∀ ah γ' a' w',Gd K S' ah γ' a' w'→(∀ id v,ah id v→id.1<S.next+1)→Q .normal a' w':=fun ah γ' a' w' hr hu =>
  hQ { S' with next:=Nat.succ S'.next } ah γ' a' w' ⟨⟨hr.size,hr.defers,hr.kept,hr.env,hr.objs,hr.ou,hr.vers,hr.sep,hr.mod,hr.frame⟩,fun id v hv=>by
   show id.1<S'.next+1
   rw[yb];exact hu id v hv⟩ hk
 cases dq with
 | false =>
  refine wp_region ?_
  have yc:(Ae6 0 ao.toList).map (·.1)=List.range ao.size:=by rw[Bm3,List.range_eq_range'];simp
  rw[← yc]
  refine Cm9 hK fd _ S bl ht (fun p hp=>?_) ?_ rfl used γ a w h.1 fun id v hv=>.inl (h.2 id v hv)
  ·obtain⟨n,hn⟩:=aj0 hp
   rw[Bnb] at hn
   obtain⟨o,ho,rfl⟩:=ae0.1 hn
   have ho:ao[n]?=some o:=by simpa using ho
   obtain⟨r1,r2,_⟩:=Bdl oo ho
   exact⟨by simpa using ho,r1,fun d hd=>Cg0 (r2 d hd)⟩
  ·rw[yc];exact List.nodup_range
 | true =>
  refine wp_region_any rk ?_
  refine Cm0 hK ht oo (ja rfl) fd ao.size _ used γ a _ (by simp) ?_ (fun i o _ hl=>?_) ?_ fun id v hv=>.inl (h.2 id v hv)
  ·unfold left
   refine af2 (List.length_filter_le ..) ?_
   simp
  ·exfalso
   simp only[aj8,Array.getElem?_replicate] at hl
   split at hl<;>simp at hl
  ·have hf:∀ (l:List Sp) (S:St),rep (fun i=>(Array.replicate ao.size false).getD i false) S l=S:=by
    intro l
    induction l with
    | nil=>intro S;rfl
    | cons x l ih =>
     intro S
     simp only[rep]
     have:(Array.replicate ao.size false).getD x.i false=false:=by
      simp only[aj8,Array.getElem?_replicate]
      split<;>rfl
     rw[this]
     exact ih S
   rw[hf]
   exact h.1.drawn _
theorem Ca4(hK:K.OK)(rk:K.P.follows .mixedOrders=true){L:Af}(hL:Bui L){ω:Type}{r:ω}{f:FuncId}(hV:∀ y ins,K.G.lay f=some (y,ins)→∃ vals act b,Amc K y ins vals act b):∀ (c:Code) (id:Nat) (kn:St→Option ω) (ke:Nat→St→Option ω) (kr:St→Option ω) (Q:Exit→Act→World→Prop),
  Ao5 (K.args.map (·.isSome)) K.nt c=true→(∀ S used γ a w,Inv K S used γ a w→kn S=some r→Q .normal a w)→(∀ i S used γ a w,Inv K S used γ a w→ke i S=some r→Q (.exit i) a w) →
  (∀ S used γ a w,Inv K S used γ a w→kr S=some r→Q .ret a w)→∀ S used γ a w,Inv K S used γ a w→Ij K.C L K.G f c id kn ke kr S=some r→c.wp K.P Q a w:=by
 intro c
 induction c with
 | skip=>intro id kn ke kr Q _ hn _ _ S used γ a w h he;exact wp_skip (hn S used γ a w h he)
 | label l=>intro id kn ke kr Q _ hn _ _ S used γ a w h he;exact wp_label (hn S used γ a w h he)
 | exit i=>intro id kn ke kr Q _ _ hx _ S used γ a w h he;exact wp_exit (hx i S used γ a w h he)
 | ret=>intro id kn ke kr Q _ _ _ hr S used γ a w h he;exact wp_ret (hr S used γ a w h he)
 | region i ao dq =>
  intro id kn ke kr Q hc hn _ _ S used γ a w h he
  simp only[Ij] at he
  split at he
  ·exact Bp0 hK rk hc hn h he
  ·generalize hhs:K.G.hint f (Nat.add 1000000 i)=hs at he
   generalize K.G.ali f (Nat.add 1000000 i)=al at he
   unfold Aw7 at he
   cases js:Sc (Bn2 S) al with
   | false=>rw[js] at he;cases he
   | true =>
   rw[js] at he
   have h0:∀ x∈al,AL a w x:=fun x hx=>Brq h.1 (Bhd js x hx)
   obtain⟨y,l,h1,h2⟩:=Ee he
   have hh:Boi K (Ha hs) (hs.map fun p=>a.tmps.getD p.1 undef) y w:=Bdb h.1 (by simp[Aad]) (fun i v val e1 e2=>by
    rw[Aad,ag3] at e1
    rw[ag3] at e2
    obtain⟨p,hp,rfl⟩:=ae0.1 e1
    rw[hp] at e2;cases e2
    exact h.1.env p.1) h1
   obtain⟨⟨vs,u⟩,l,q1,q2⟩:=Ee (show Lv K.C [] (Af4 (Ha hs) y (0,0,0) [] fun vs _ u=>.done (vs,u)) [] _=some r from h2)
   obtain⟨ah,γ',u1,u2,u3,u4⟩:=Bla (a:=a) hh h.1.size h.1.defers h.1.kept q1
   have ag:vs.length=hs.length:=by simpa using u2
   exact Bp0 hK rk hc hn ⟨Btj (u4 (Qi hs vs) (Wt hs vs ag)) (Boj (u4 (Qi hs vs) (Wt hs vs ag)) h0),fun id v hv=>by rw[u1 id v hv];exact at3⟩ q2
 | seq x y yd ye =>
  intro id kn ke kr Q hc hn hx hr S used γ a w h he
  simp only[Ao5,aa5] at hc
  refine wp_seq (yd id _ ke kr (Exit.then (y.wp K.P Q) Q) hc.1 ?_ hx hr S used γ a w h he)
  intro S' ah γ' a' w' h' sy
  exact ye id kn ke kr Q hc.2 hn hx hr S' ah γ' a' w' h' sy
 | cond o x y yd ye =>
  intro id kn ke kr Q hc hn hx hr S used γ a w h he
  simp only[Ao5,aa5] at hc
  simp only[Ij] at he
  split at he
  ·rename_i fr q hq
   have hv:=Bo h.1 o hc.1.1
   rw[hq] at hv
   have e:=Bnh hv
   rcases Auf he with⟨h1,h2⟩ | ⟨h1,h2⟩
   ·exact wp_cond e (by rw[h1];exact yd id kn ke kr Q hc.1.2 hn hx hr S used γ a w h h2)
   ·exact wp_cond e (by rw[h1];exact ye id kn ke kr Q hc.2 hn hx hr S used γ a w h h2)
  ·rename_i e0 r0 hq
   have hv:=Bo h.1 o hc.1.1
   rw[hq] at hv
   obtain⟨⟨b,hb,wa⟩,h2⟩:=(show Ev _ (.ub e0 r0) _ from hv)
   rw[Bm h2.symm] at hb
   have e:a.eval o=.bool b:=by simpa using hb
   rcases Auf he with⟨q1,q2⟩ | ⟨q1,q2⟩
   ·obtain⟨k1,k2⟩:=By4 q2
    exact wp_cond_split e (fun _=>yd id kn ke kr Q hc.1.2 hn hx hr S used γ a w h k1) (fun _=>ye id kn ke kr Q hc.2 hn hx hr S used γ a w h k2)
   ·rcases Auf q2 with⟨h1,h2⟩ | ⟨h1,h2⟩
    ·exact wp_cond e (by rw[wa q1,h1];exact yd id kn ke kr Q hc.1.2 hn hx hr S used γ a w h h2)
    ·exact wp_cond e (by rw[wa q1,h1];exact ye id kn ke kr Q hc.2 hn hx hr S used γ a w h h2)
  ·cases he
 | block i x ih =>
  intro id kn ke kr Q hc hn hx hr S used γ a w h he
  refine wp_block (ih i kn _ kr (Exit.inBlock i Q) hc hn ?_ hr S used γ a w h he)
  intro j S' ah γ' a' w' h' sy
  simp only[Exit.inBlock]
  by_cases hj:j=i
  ·subst hj
   rw[aa0 rfl]
   rw[Nat.beq_refl] at sy
   exact hn S' ah γ' a' w' h' sy
  ·rw[aa1 hj]
   have:Nat.beq j i=false:=by rw[an3];exact fun e=>hj (ab1 e)
   rw[this] at sy
   exact hx j S' ah γ' a' w' h' sy
 | loop x ih =>
  intro id kn ke kr Q hc hn hx hr S used γ a w h he
  simp only[Ij] at he
  split at he
  ·rename_i yi kx
   obtain⟨y,ins⟩:=yi
   obtain⟨vals,act,b,hV⟩:=hV y ins kx
   generalize hhs:K.G.hint f id=hs at he
   let round:(Iu (Da ins (Ha hs))→Option ω)→Iu (Da ins (Ha hs))→Option ω:=fun aa x'=>Clx K.C y ins hs x'
    (Ij K.C L K.G f x id (fun S=>Bnl K.C y ins hs S aa) ke kr)
   let P:Act→World→Nat→Prop:=fun a w n=>a.tmps.size=K.nt∧a.defers=[]∧(∀ (i:Nat) (v:Value),K.args[i]?=some (some v)→a.tmps.getD i undef=v) ∧
    ∃ z,Bb8 round n z=some r∧Boi K (Da ins (Ha hs)) (vals++hs.map fun p=>a.tmps.getD p.1 undef) z w
   have gz:∀ S used γ a w (k:Iu (Da ins (Ha hs))→Option ω),Inv K S used γ a w→Bnl K.C y ins hs S k=some r →
     ∃ z,k z=some r∧Boi K (Da ins (Ha hs)) (vals++hs.map fun p=>a.tmps.getD p.1 undef) z w:=by
    intro S used γ a w k h he
    unfold Bnl at he
    split at he
    case h_2=>cases he
    rename_i vs jh
    obtain⟨v1,v2⟩:=Bxh hV h.1 jh
    obtain⟨z,l,h1,h2⟩:=Ee he
    refine⟨z,h2,Bdb h.1 (by rw[Adu];simp[Aad,v1]) (fun i v val e1 e2=>?_) h1⟩
    rw[Adu] at e1
    rcases ad3 i vs.length with hi|hi
    ·rw[ag9 hi] at e1
     rw[ag9 (by omega)] at e2
     exact v2 i v val e1 e2
    ·rw[af5 hi] at e1
     rw[af5 (by omega),← v1] at e2
     rw[Aad,ag3] at e1
     rw[ag3] at e2
     obtain⟨p,hp,rfl⟩:=ae0.1 e1
     rw[hp] at e2;cases e2
     exact h.1.env p.1
   have cj:∃ n,P a w n:=by
    obtain⟨z,h1,h2⟩:=gz S used γ a w _ h he
    obtain⟨n,hn⟩:=hL _ _ _ _ _ h1
    exact⟨n,h.1.size,h.1.defers,h.1.kept,z,hn,h2⟩
   refine wp_loop (I:=fun a w=>∃ n,P a w n) (μ:=fun a w=>Adf (P a w)) cj ?_
   intro a w hI
   obtain⟨m1,m2⟩:=Aa6 hI
   generalize vw:Adf (P a w)=n at m1 m2
   obtain⟨p1,p2,p3,z,p4,p5⟩:=m1
   cases n with
   | zero=>cases p4
   | succ n =>
    rw[Axa] at p4
    obtain⟨⟨vs,u⟩,l,q1,q2⟩:=Ee (show Lv K.C [] (Af4 (Da ins (Ha hs)) z (0,0,0) [] fun vs _ u=>.done (vs,u)) [] _=some r from p4)
    cases hp:Bb6 vs with
    | false=>rw[show Bb6 (vs,u).1=false from hp] at q2;cases q2
    | true =>
    rw[show Bb6 (vs,u).1=true from hp] at q2
    obtain⟨ah,γ',u1,u4⟩:=Cg1 (a:=a) hV p5 p1 p2 p3 q1 hp
    refine ih id _ ke kr (Exit.then (fun a' w'=>(∃ n,P a' w' n)∧Adf (P a' w')<n+1) Q) hc ?_ hx hr _ ah γ' a w ⟨u4,fun id v hv=>?_⟩ q2
    ·intro sv ig yf uq uv oz o0
     obtain⟨z',h1,h2⟩:=gz sv ig yf uq uv _ oz o0
     have hP:P uq uv n:=⟨oz.1.size,oz.1.defers,oz.1.kept,z',h1,h2⟩
     refine⟨⟨n,hP⟩,?_⟩
     have:=(Aa6 ⟨n,hP⟩).2 n hP
     omega
    ·rw[u1 id v hv];exact at3
  split at he
  ·rename_i k _
   let step:(St→Option ω)→St→Option ω:=fun aa S=>Ij K.C L K.G f x id aa ke kr S
   let P:Act→World→Nat→Prop:=fun a w n=>∃ S used γ,Inv K S used γ a w∧Cbo step n S=some r
   refine wp_loop (I:=fun a w=>∃ n,P a w n) (μ:=fun a w=>Adf (P a w)) ⟨k+1,S,used,γ,h,he⟩ ?_
   intro a w hI
   obtain⟨m1,m2⟩:=Aa6 hI
   generalize vw:Adf (P a w)=n at m1 m2
   obtain⟨S1,yg,γ1,p1,p2⟩:=m1
   cases n with
   | zero=>cases p2
   | succ n =>
    refine ih id _ ke kr (Exit.then (fun a' w'=>(∃ n,P a' w' n)∧Adf (P a' w')<n+1) Q) hc ?_ hx hr S1 yg γ1 a w p1 p2
    intro sv ig yf uq uv oz o0
    have hP:P uq uv n:=⟨sv,ig,yf,oz,o0⟩
    refine⟨⟨n,hP⟩,?_⟩
    have:=(Aa6 ⟨n,hP⟩).2 n hP
    omega
  ·let hs:=K.G.hint f id
   let al:=K.G.ali f id
   let round:(Iu (Ha hs)→Option ω)→Iu (Ha hs)→Option ω:=fun aa x'=>Bzp K.C al (Ha hs) hs x'
    (Ij K.C L K.G f x id (fun S=>Aw7 K.C al (Ha hs) hs S aa) ke kr)
   let P:Act→World→Nat→Prop:=fun a w n=>a.tmps.size=K.nt∧a.defers=[]∧(∀ (i:Nat) (v:Value),K.args[i]?=some (some v)→a.tmps.getD i undef=v) ∧
    (∀ x∈al,AL a w x)∧∃ y,Bb8 round n y=some r∧Boi K (Ha hs) (hs.map fun p=>a.tmps.getD p.1 undef) y w
   have gz:∀ S used γ a w (k:Iu (Ha hs)→Option ω),Inv K S used γ a w→Aw7 K.C al (Ha hs) hs S k=some r →
     (∀ x∈al,AL a w x)∧∃ y,k y=some r∧Boi K (Ha hs) (hs.map fun p=>a.tmps.getD p.1 undef) y w:=by
    intro S used γ a w k h he
    unfold Aw7 at he
    cases js:Sc (Bn2 S) al with
    | false=>rw[js] at he;cases he
    | true =>
    rw[js] at he
    refine⟨fun x hx=>Brq h.1 (Bhd js x hx),?_⟩
    obtain⟨y,l,h1,h2⟩:=Ee he
    refine⟨y,h2,Bdb h.1 (by simp[Aad]) (fun i v val e1 e2=>?_) h1⟩
    rw[Aad,ag3] at e1
    rw[ag3] at e2
    obtain⟨p,hp,rfl⟩:=ae0.1 e1
    rw[hp] at e2;cases e2
    exact h.1.env p.1
   have cj:∃ n,P a w n:=by
    obtain⟨h0,y,h1,h2⟩:=gz S used γ a w _ h he
    obtain⟨n,hn⟩:=hL _ _ _ _ _ h1
    exact⟨n,h.1.size,h.1.defers,h.1.kept,h0,y,hn,h2⟩
   refine wp_loop (I:=fun a w=>∃ n,P a w n) (μ:=fun a w=>Adf (P a w)) cj ?_
   intro a w hI
   obtain⟨m1,m2⟩:=Aa6 hI
   generalize vw:Adf (P a w)=n at m1 m2
   obtain⟨p1,p2,p3,p0,y,p4,p5⟩:=m1
   cases n with
   | zero=>cases p4
   | succ n =>
    rw[Axa] at p4
    obtain⟨⟨vs,u⟩,l,q1,q2⟩:=Ee (show Lv K.C [] (Af4 (Ha hs) y (0,0,0) [] fun vs _ u=>.done (vs,u)) [] _=some r from p4)
    obtain⟨ah,γ',u1,u2,u3,u4⟩:=Bla (a:=a) p5 p1 p2 p3 q1
    have ag:vs.length=hs.length:=by simpa using u2
    refine ih id _ ke kr (Exit.then (fun a' w'=>(∃ n,P a' w' n)∧Adf (P a' w')<n+1) Q) hc ?_ hx hr _ ah γ' a w ⟨Btj (u4 (Qi hs vs) (Wt hs vs ag)) (Boj (u4 (Qi hs vs) (Wt hs vs ag)) p0),fun id v hv=>?_⟩ q2
    ·intro sv ig yf uq uv oz o0
     obtain⟨h0,y',h1,h2⟩:=gz sv ig yf uq uv _ oz o0
     have hP:P uq uv n:=⟨oz.1.size,oz.1.defers,oz.1.kept,h0,y',h1,h2⟩
     refine⟨⟨n,hP⟩,?_⟩
     have:=(Aa6 ⟨n,hP⟩).2 n hP
     omega
    ·rw[u1 id v hv];exact at3
 | _=>intro id kn ke kr Q hc hn hx hr S used γ a w h he;cases he
end
end Go.Pon
namespace Go.Pon
open Go
structure Ckg(P:Program)(G:Ctx)(C:Gi):Prop where
 depth:64≤P.depth
 mix:P.follows .mixedOrders=true
 ty:∀ T t,G.ty T=some t→U2 P t T=true
 sig:∀ f s,G.sig f=some s→(∀ m∈s.ins,m.insOK=true)∧A7 P f s (C f s)
 map:∀ T k t,G.mapT T=some (k,t)→Bvs P k t T=true
 vsig:∀ f g v s y,G.vfor f g=some (v,s,y)→(∀ m∈s.ins,m.insOK=true)∧VOK P y s (C v s)
def Blp:List Dz→List Bool
 | []=>[]
 | m::ms=>(match m with
  | .ptr _=>true
  | .optr _=>true
  | .bor _=>true
  | _=>false)::Blp ms
def Axk:List Dz→List Value→List (Option Value)
 | m::ms,v::vs=>(match m with
  | .ptr _=>some v
  | .optr _=>some v
  | .bor _=>some v
  | _=>none)::Axk ms vs
 | _,_=>[]
theorem Bmx:∀ (ms:List Dz) (vs:List Value),vs.length=ms.length→(Axk ms vs).map (·.isSome)=Blp ms
 | [],[],_=>rfl
 | m::ms,v::vs,h=>by
  simp only[Axk,Blp,ae5,Bmx ms vs (by simpa using h)]
  cases m<;>rfl
theorem Br2:∀ (ms:List Dz) (vs:List Value) (i:Nat) (v:Value),(Axk ms vs)[i]?=some (some v)→vs[i]?=some v
 | [],_,_,_,h=>by simp[Axk] at h
 | _::_,[],_,_,h=>by simp[Axk] at h
 | m::ms,v::vs,0,v',h=>by
  cases m<;>simp_all [Axk]
 | m::ms,v::vs,i+1,v',h=>by
  have:=Br2 ms vs i v' (by simpa [Axk] using h)
  simpa using this
theorem Bq8:∀ (ms:List Dz) (vs:List Value) (i:Nat) (m:Dz) (v:Value),ms[i]?=some m→vs[i]?=some v→((∃ m',m=.ptr m')∨∃ m',m=.optr m')→(Axk ms vs)[i]?=some (some v)
 | [],_,_,_,_,h,_,_=>by simp at h
 | _::_,[],_,_,_,_,h,_=>by simp at h
 | m::ms,v::vs,0,m',v',h1,h2,h3=>by
  simp at h1 h2
  subst h1 h2
  rcases h3 with⟨_,rfl⟩ | ⟨_,rfl⟩<;>rfl
 | m::ms,v::vs,i+1,m',v',h1,h2,h3=>by
  simpa [Axk] using Bq8 ms vs i m' v' (by simpa using h1) (by simpa using h2) h3
def Bc3(s:B4)(fn:Func)(c:Code):Bool :=
 (fn.name != "runtime.NumGoroutine")&&Ao5 (Blp s.ins) fn.ntmps c&&Nat.ble s.ins.length fn.ntmps
def Bh7(tmps:Array Value):ResultVar→Sem Value
 | .tmp t=>pure (tmps.getD t undef)
 | .cell a t=>do loadVar t (← asAddr (tmps.getD a undef))
section
variable {K:Dg} {S:St} {used:Id→Nat→Prop} {γ:Id→Value} {a:Act} {w:World}
theorem Aji(h:Gd K S used γ a w)(hK:K.OK){α:Type}:∀ (rl:List ResultVar) {k:List AV→OpT α} {l0 l:List Id} {r:α},A6 K.C S.objs (Aaa K.G S rl k) l0 r l →
  ∃ (vs:List AV) (l1:List Id) (vals:List Value),A6 K.C S.objs (k vs) l1 r l∧vals.length=vs.length∧(∀ (i:Nat) (v:AV) (val:Value),vs[i]?=some v→vals[i]?=some val→Dn (A3 K S.objs used γ w) v val) ∧
   (rl.mapM (Bh7 a.tmps)).run K.P w=.ok vals w
 | [],k,l0,l,r,hl=>⟨[],l0,[],hl,rfl,by simp,by simp⟩
 | .tmp t::rl,k,l0,l,r,hl=>by
  obtain⟨vs,l1,vals,h1,h2,h3,h4⟩:=Aji h hK rl (k:=fun vs=>k (Gk S.env t::vs)) hl
  refine⟨Gk S.env t::vs,l1,a.tmps.getD t undef::vals,h1,by simp[h2],fun i v val e1 e2=>?_,by simp[ar7,Bh7,h4]⟩
  cases i with
  | zero=>simp at e1 e2;subst e1 e2;simpa using h.env t
  | succ i=>exact h3 i v val (by simpa using e1) (by simpa using e2)
 | .cell b e::rl,k,l0,l,r,hl=>by
  simp only[Aaa] at hl
  split at hl
  ·rename_i t id ai ht xz
   have key:∀ (fr:Bool) (u w':Ty) (c v:AV),(Ak S.objs id=some (.mem fr u c)∨Ak S.objs id=some (.mfz fr u c))→La u ai=some w'→Ax9 c ai=some v→∀ l0,
     A6 K.C S.objs (bif Ty.beq w' t&&Bg t v then Aaa K.G S rl fun vs=>k (v::vs) else .fail) l0 r l →
     ∃ (vs:List AV) (l1:List Id) (vals:List Value),A6 K.C S.objs (k vs) l1 r l∧vals.length=vs.length∧(∀ (i:Nat) (v:AV) (val:Value),vs[i]?=some v→vals[i]?=some val→Dn (A3 K S.objs used γ w) v val) ∧
      ((ResultVar.cell b e::rl).mapM (Bh7 a.tmps)).run K.P w=.ok vals w:=by
    intro fr u w' c v ho o8 dy l9 hk
    cases hb:(Ty.beq w' t&&Bg t v) with
    | false=>rw[hb] at hk;exact hk.elim
    | true =>
     rw[hb] at hk
     simp only[aa5] at hb
     obtain rfl:=Ty.beq_iff.1 hb.1
     have hl:A6 K.C S.objs (Aaa K.G S rl fun vs=>k (v::vs)) l9 r l:=hk
     obtain⟨vs,l1,vals,h1,h2,h3,h4⟩:=Aji h hK rl (k:=fun vs=>k (v::vs)) hl
     have hv:=h.env b
     rw[xz] at hv
     obtain⟨_,hp⟩:=Abe hv
     obtain⟨g',u',p1,p2,p3,p4⟩:=hp u (Aa2 _ fr u c ho)
     obtain⟨x,x1,x2⟩:=Bmj h ho (hK.ty _ _ ht) hv o8 dy
     rw[p4] at x1
     simp only[Instr.loadAt,Instr.sureAddr,ac7,af3,ab7] at x1
     refine⟨v::vs,l1,x::vals,h1,by simp[h2],fun i v' val e1 e2=>?_,?_⟩
     ·cases i with
      | zero=>simp at e1 e2;subst e1 e2;exact x2
      | succ i=>exact h3 i v' val (by simpa using e1) (by simpa using e2)
     ·simp only[ar7,Bh7,ac7,p4,asAddr,af3,ab7,x1,h4]
   obtain⟨ob,ak,hl⟩:=hl
   dsimp only at hl
   split at hl
   ·split at hl
    ·rename_i w' v o8 dy
     exact key _ _ w' _ v (.inl ak) o8 dy _ hl
    ·exact hl.elim
   ·split at hl
    ·rename_i w' v o8 dy
     exact key _ _ w' _ v (.inr ak) o8 dy _ hl
    ·exact hl.elim
   ·exact hl.elim
  ·exact hl.elim
theorem Bis{fn:Func}{vals:List Value}(h:(fn.results.toList.mapM (Bh7 a.tmps)).run K.P w=.ok vals w):(results fn a.tmps).run K.P w=.ok (Bp8 vals) w:=by
 have e:results fn a.tmps=(do let vs ← fn.results.mapM (Bh7 a.tmps);pure (if h:vs.size=1 then vs[0] else .tuple vs)):=by
  unfold results
  congr 2
 rw[e]
 simp only[Array.mapM_eq_mapM_toList,ac7,map_eq_pure_bind,h,ab7,af3]
 congr 1
 match vals with
 | []=>rfl
 | [v]=>rfl
 | v::v'::vs=>simp[Bp8]
theorem Bja(S:St):∀ (ms:List Dz) (n i:Nat),(Aka S n ms)[i]?=if i<ms.length then some (Gk S.env (n+i)) else none
 | [],n,i=>by simp[Aka]
 | m::ms,n,0=>by simp[Aka]
 | m::ms,n,i+1=>by
  simp only[Aka,al3,Bja S ms (Nat.succ n) i,ac5,an0]
  rw[show Nat.succ n+i=n+(i+1) by omega]
theorem Bmf{E:U5}:∀ (ms:List Dz) (vs:List AV) (vals:List Value),vs.length=ms.length→vals.length=ms.length →
  (∀ (i:Nat) (m:Dz) (v:AV) (val:Value),ms[i]?=some m→((∃ m',m=.ptr m')∨∃ m',m=.optr m')→vs[i]?=some v→vals[i]?=some val→Dn E v val) →
  (Aty ms vals).length=(Zc ms vs).length∧∀ (i:Nat) (v:AV) (val:Value),(Zc ms vs)[i]?=some v→(Aty ms vals)[i]?=some val→Dn E v val
 | [],[],[],_,_,_=>⟨rfl,by simp[Zc]⟩
 | m::ms,v::vs,val::vals,h1,h2,h3=>by
  obtain⟨k1,k2⟩:=Bmf (E:=E) ms vs vals (by simpa using h1) (by simpa using h2) fun i m v val e0 em e1 e2=>h3 (i+1) m v val (by simpa using e0) em (by simpa using e1) (by simpa using e2)
  refine⟨by simp[Aty,Zc,k1],fun i v' dt e1 e2=>?_⟩
  cases i with
  | zero =>
   have h0:=fun hm=>h3 0 m v val rfl hm rfl rfl
   simp only[Zc,Aty,List.getElem?_cons_zero,ak5] at e1 e2
   subst e1 e2
   cases m with
   | ptr _=>exact h0 (.inl ⟨_,rfl⟩)
   | optr _=>exact h0 (.inr ⟨_,rfl⟩)
   | _=>exact (show Ev E (.d true .unit ()) (.agg #[]) from ⟨rfl,rfl⟩)
  | succ i=>exact k2 i v' dt (by simpa [Zc] using e1) (by simpa [Aty] using e2)
end
theorem Ccl{α:Type}{C:Gi}{objs:Pm}(s:B4)(rs:List AV)(v:AV){k:OpT α}{l0 l:List Id}{r:α}(hl:A6 C objs (Ci1 s rs v k) l0 r l) :
  ∃ l1,A6 C objs k l1 r l∧(Ayx s=true→∃ id ab hi cp fr t rows,rs=[.view id ab 0 hi cp]∧v=.own id ab∧Ak objs id=some (.frz ab fr t rows)):=by
 unfold Ci1 at hl
 cases hp:Ayx s with
 | false=>rw[hp] at hl;exact⟨l0,hl,fun h=>by cases h⟩
 | true =>
  rw[hp] at hl
  replace hl:A6 C objs (match rs,v with
   | [.view id ab lo _ _],.own j7 af=>bif idE id j7&&(Nat.beq ab af&&Nat.beq lo 0) then .get id fun
    | .frz i6 _ _ _=>bif Nat.beq i6 ab then k else .fail
    | _=>.fail
    else .fail
   | _,_=>.fail) l0 r l:=hl
  split at hl
  ·rename_i id ab lo hi cp j7 af
   cases hb:(idE id j7&&(Nat.beq ab af&&Nat.beq lo 0)) with
   | false=>rw[hb] at hl;exact hl.elim
   | true =>
    rw[hb] at hl
    simp only[aa5] at hb
    obtain rfl:=Xw.1 hb.1
    obtain rfl:=ab1 hb.2.1
    obtain rfl:=ab1 hb.2.2
    obtain⟨ob,ak,hl⟩:=hl
    dsimp only at hl
    split at hl
    ·rename_i i6 fr t rows
     cases hq:Nat.beq i6 ab with
     | false=>rw[hq] at hl;exact hl.elim
     | true =>
      rw[hq] at hl
      obtain rfl:=ab1 hq
      exact⟨_,hl,fun _=>⟨id,i6,hi,cp,fr,t,rows,rfl,rfl,ak⟩⟩
    ·exact hl.elim
  ·exact hl.elim
theorem Cew{K:Dg}{S:St}{used:Id→Nat→Prop}{γ:Id→Value}{a:Act}{w:World}(h:Gd K S used γ a w){s:B4}{vals:List Value}(ag:vals.length=s.ins.length)(hp:Ayx s=true)
  (jt:K.args=Axk s.ins vals) {rs:List AV} {dp:List Value}
  (hk:∃ id ab hi cp fr t rows,rs=[.view id ab 0 hi cp]∧Gk S.env 0=.own id ab∧Ak S.objs id=some (.frz ab fr t rows))
  (h2:dp.length=rs.length) (h3:∀ (i:Nat) (v:AV) (val:Value),rs[i]?=some v→dp[i]?=some val→Dn (A3 K S.objs used γ w) v val) :
  ∃ v0 r,vals=[v0]∧dp=[r]∧Cow v0 r:=by
 obtain⟨id,ab,hi,cp,fr,t,rows,rfl,e0,ho⟩:=hk
 have fp:∃ t',s.ins=[.bor t']:=by
  unfold Ayx at hp
  split at hp
  ·rename_i e _;exact⟨_,e⟩
  ·cases hp
 obtain⟨t',fp⟩:=fp
 rw[fp] at ag jt
 match vals,ag with
 | [v0],_ =>
  match dp,h2 with
  | [r],_ =>
   refine⟨v0,r,rfl,rfl,?_⟩
   have hv:=h.env 0
   rw[e0,h.kept 0 v0 (by rw[jt];rfl)] at hv
   obtain⟨⟨_,v1,e1,_,nc⟩,ha⟩:Ev _ (.own id ab) v0:=hv
   have bo:Ahd ((A3 K S.objs used γ w).o id) ab t rows.length:=⟨fr,rows,rfl,.inr ho⟩
   have nc:v1=γ id:=nc _ _ bo
   obtain⟨⟨a1,mq,e3,p1,p2,_⟩,ba5⟩:=h.objs id _ ho
   have e3:γ id=.slice a1 (List.length rows) mq:=by
    have:[γ id]=[Value.slice a1 (List.length rows) mq]:=e3
    simpa using this
   have ct:v0=γ id:=by
    have hc:v0.cells.toList=[v0]:=Bm ha.symm
    rw[hc] at e1
    have:v0=v1:=by simpa using e1
    rw[this,nc]
   obtain⟨⟨_,v2,e4,_,km⟩,hb⟩:Ev _ (.view id ab 0 hi cp) r:=h3 0 _ _ rfl rfl
   have hr:r=v2:=by
    have hc:r.cells.toList=[r]:=Bm hb.symm
    rw[hc] at e4
    simpa using e4
   obtain⟨_,q2,a,c,q3,q4,q5,q6,q7,_⟩:=km _ _ bo
   rw[ak1] at q3 q4
   refine⟨a1,rows.length,mq,a,hi,c,ct.trans e3,hr.trans q3,q2,q4,q5,q6,fun ar=>?_⟩
   obtain⟨g,m,ru,k1,k2⟩:=q7 ar
   have k1:γ id=_:=k1
   rw[e3] at k1
   cases k1
   exact⟨g,rfl,by rw[k2,al9]⟩
theorem Cba{P:Program}{G:Ctx}{C:Gi}{L:Af}(hS:Ckg P G C)(hL:Bui L){f:FuncId}{fn:Func}{c:Code}{s:B4}(hf:P.funcs[f]?=some fn)(hb:fn.body=some c)(bj:Bc3 s fn c=true)(kx:G.lay f=none) :
  A7 P f s (Afk L C G f fn c s):=by
 intro w B vals x bs y hF hB dv hnB hm
 simp only[Bc3,aa5,bne_iff_ne,ne_eq,Nat.ble_eq] at bj
 obtain⟨⟨ei,o9⟩,vm⟩:=bj
 have ag:vals.length=s.ins.length:=hm.len
 refine .inl ⟨?_,calls_of_wp hf hb ?_⟩
 ·simp[callFunc,hf,ei,hb]
 ·let K:Dg:={ P:=P,G:=G,C:=C,w0:=w,own:=bs,B:=B,nt:=fn.ntmps,args:=Axk s.ins vals }
  have hK:K.OK:=⟨hB,hS.depth,hS.ty,hS.sig,hS.map,hS.vsig⟩
  have hH:Boi K s.ins vals x w:=⟨⟨rfl,rfl,rfl,ab4 _,fun _ _ _=>rfl⟩,bs,Bdy w B bs,hm,dv,fun f b h=>h,fun g hg=>⟨.inr hg,hnB g hg⟩⟩
  obtain⟨⟨vs,u⟩,l,q1,q2⟩:=Ee (show Lv C [] (Af4 s.ins x (0,0,0) [] fun vs _ u=>.done (vs,u)) [] _=some y from hF)
  have f8:((vals.toArray++Array.replicate (fn.ntmps-vals.toArray.size) undef:Array Value)).size=fn.ntmps:=by simp;omega
  have jw:∀ (i:Nat) (v:Value),vals[i]?=some v→(vals.toArray++Array.replicate (fn.ntmps-vals.toArray.size) undef:Array Value).getD i undef=v:=fun i v hi=>by
   have ar:=(ae9.1 hi).1
   rw[aj8,Array.getElem?_append_left (by simpa using ar)]
   simp[hi]
  obtain⟨used,γ,u1,u2,u3,u4⟩:=Bla (K:=K) (a:={ tmps:=vals.toArray++Array.replicate (fn.ntmps-vals.toArray.size) undef,defers:=[] }) hH f8 rfl (fun i v hi=>jw i v (Br2 _ _ i v hi)) q1
  have cj:=u4 (Ae6 0 vs) fun t=>by
   rcases ad3 t vs.length with ht|ht
   ·have hv:vs[t]?=some vs[t]:=by simp[ht]
    have aq:vals[t]?=some (vals[t]'(by omega)):=by simp
    refine .inr ⟨t,vs[t],_,hv,aq,?_,jw t _ aq⟩
    have:∀ (l:List AV) (n i:Nat) (v:AV),l[i]?=some v→Gk (Ae6 n l) (n+i)=v:=by
     intro l
     induction l with
     | nil=>intro n i v h;simp at h
     | cons x l ih =>
      intro n i v h
      simp only[Ae6,Py]
      cases i with
      | zero=>simp at h;simp[h]
      | succ i =>
       rw[aa1 (by omega),show n+(i+1)=Nat.succ n+i by omega]
       exact ih (Nat.succ n) i v (by simpa using h)
    simpa using this vs 0 t _ hv
   ·refine .inl ?_
    have:∀ (l:List AV) (n t:Nat),n+l.length≤t→Gk (Ae6 n l) t=.any:=by
     intro l
     induction l with
     | nil=>intro n t _;rfl
     | cons x l ih =>
      intro n t h
      simp only[Ae6,Py]
      simp only[ac5] at h
      rw[aa1 (by omega)]
      exact ih (Nat.succ n) t (by omega)
    exact this vs 0 t (by omega)
  have fd:∀ S used γ a w',Inv K S used γ a w'→(Lv C S.objs (Aaa G S fn.results.toList fun rs=>Ci1 s rs (Gk S.env 0) (Xc true s.outs rs ⟨[],[]⟩ fun y c =>
    Xc true (Aym s.ins) (Zc s.ins (Aka S 0 s.ins)) c fun z _=>.done (y,z))) [] fun y _=>some y)=some y→a.defers=[]∧∃ v,(results fn a.tmps).run P w'=.ok v w'∧Bwk w B s vals bs y v w':=by
   intro S used γ a w' hI he
   obtain⟨y',l,k1,k2⟩:=Ee he
   cases k2
   obtain⟨h,_⟩:=hI
   obtain⟨rs,l1,dp,k1,k2,k3,k4⟩:=Aji (K:=K) h hK _ k1
   obtain⟨l9,k1,ax1⟩:=Ccl s rs (Gk S.env 0) k1
   obtain⟨y1,c1,l2,n1,k1,m2,m3,m4,m5,m6⟩:=Uq h s.outs rs (Xr.start S true) k1
   obtain⟨z1,c2,l3,n2,k1,d2,d3,d4,d5,d6⟩:=Uq h (Aym s.ins) _ m2 k1
   obtain⟨e,_⟩:=k1
   subst e
   obtain⟨b1,b2⟩:=Bmf (E:=A3 K S.objs used γ w') s.ins (Aka S 0 s.ins) vals (by
    have:∀ (ms:List Dz) (n:Nat),(Aka S n ms).length=ms.length:=by
     intro ms
     induction ms with
     | nil=>intro n;rfl
     | cons m ms ih=>intro n;simp[Aka,ih]
    exact this _ _) ag fun i m v val e0 em e1 e2=>by
     rw[Bja] at e1
     split at e1
     ·cases e1
      rw[af1]
      have:=h.env i
      rw[h.kept i val (Bq8 _ _ i m val e0 e2 em)] at this
      exact this
     ·cases e1
   have hp1:(Cx c1.ups).Perm n1:=by simpa [Cx] using m4
   have kc:(Cx c2.ups).Perm (n1++n2):=d4.trans ((ar2 n2 hp1).trans aj7)
   have uw:(n1++n2).Nodup:=kc.nodup_iff.1 d2.nodup
   have dh:Em S γ (n1++n2)=Em S γ n1++Em S γ n2:=by simp[Em]
   have bj:∀ f b,okL K S γ c2 f b→Bdy w B (Em S γ n1++Em S γ n2) f b:=fun f b hb=>⟨fun hm=>by
    rw[← dh] at hm
    obtain⟨i,hi,di⟩:=E8.1 hm
    exact d2.apart i (Nv.1 (kc.mem_iff.2 hi)) (hb.1 i di),hb.2⟩
   refine⟨h.defers,Bp8 dp,Bis (K:=K) k4,dp,Em S γ n1,Em S γ n2,rfl,?_,?_,?_,fun g hg=>?_,h.frame,fun hp=>?_⟩
   rotate_left 4
   ·exact Cew h ag hp rfl (ax1 hp) k2 k3
   ·exact ((m6 dp k2 k3).mono fun f=>Tc d3 id).mono bj
   ·exact (d6 (Aty s.ins vals) b1 b2).mono bj
   ·rw[← dh];exact Ael h uw
   ·rw[← dh] at hg
    obtain⟨i,_,di⟩:=E8.1 hg
    exact (h.mod i g di).1
  exact Ca4 (K:=K) hK hS.mix hL (fun y ins h=>by rw[show G.lay f=some (y,ins) from h] at kx;cases kx) c 0 _ _ _ _ (by rw[show K.args.map (·.isSome)=Blp s.ins from Bmx _ _ ag];exact o9) (fun S used γ a w' hI he=>fd S used γ a w' hI he) (fun i S used γ a w' hI he=>by cases he)
   (fun S used γ a w' hI he=>fd S used γ a w' hI he) _ used γ _ w ⟨cj,fun id v hv=>by rw[u1 id v hv];exact at3⟩ q2
end Go.Pon
namespace Go.Pon
open Go
open Go.ChangeShapes Go.WideShapes Go.ChangeAt Go.RowKit
def Bqa{α:Type}:List (Nat×α)→Nat→Option α
 | [],_=>none
 | (i,x)::r,n=>bif Nat.beq i n then some x else Bqa r n
def Ck6:List ((Nat×Nat)×List (Nat×Dz))→Nat→Nat→List (Nat×Dz)
 | [],_,_=>[]
 | ((f,b),x)::r,n,k=>bif Nat.beq f n&&Nat.beq b k then x else Ck6 r n k
def Clm:List ((Nat×Nat)×List Ali)→Nat→Nat→List Ali
 | [],_,_=>[]
 | ((f,b),x)::r,n,k=>bif Nat.beq f n&&Nat.beq b k then x else Clm r n k
theorem Aem{α:Type}:∀ {l:List (Nat×α)} {n:Nat} {x:α},Bqa l n=some x→(n,x)∈l
 | (i,y)::r,n,x,h=>by
  simp only[Bqa] at h
  cases hb:Nat.beq i n with
  | true =>
   rw[hb] at h
   cases h
   obtain rfl:=ab1 hb
   exact ac1 ..
  | false =>
   rw[hb] at h
   exact ab8 _ (Aem h)
def Ty.wf:(t:Ty)→t.den→Prop
 | .unit,_=>True
 | .pair a b,x=>a.wf x.1∧b.wf x.2
 | .int k,x=>inK k x
 | .bool,_=>True
 | .str,x=>List.length x≤maxLen∧∀ n∈(x:List Int),0≤n∧n≤255
 | .arr n t,x=>List.length x=n∧∀ y∈(x:List t.den),t.wf y
 | .slice t,x=>List.length x≤maxLen∧∀ y∈(x:List t.den),t.wf y
 | .ptr,_=>True
theorem B7.each{α:Type}{R:List Value→α→Prop}{p:α→Prop}{n:Nat}(h:∀ c x,R c x→p x):∀ {cs:List Value} {xs:List α},B7 R n cs xs→∀ x∈xs,p x
 | _,[],_,x,hx=>by simp at hx
 | _,y::ys,⟨_,h2,h3⟩,x,hx=>by
  rcases aa9.1 hx with rfl|hx
  ·exact h _ _ h2
  ·exact B7.each h h3 x hx
theorem DR.wf{w:World}{ok:Nat→Prop}:∀ {t:Ty} {cs:List Value} {x:t.den},DR w ok t cs x→t.wf x
 | .unit,_,_,_=>trivial
 | .pair _ _,_,_,⟨h1,h2⟩=>⟨DR.wf h1,DR.wf h2⟩
 | .int _,_,_,h=>h.2
 | .bool,_,_,_=>trivial
 | .str,_,x,⟨s,_,h2,h3⟩=>by
  refine⟨?_,fun n hn=>?_⟩
  ·rw[h2,ag7]
   exact h3
  ·rw[h2] at hn
   obtain⟨b,_,rfl⟩:=ag8.1 hn
   have:=b.toNat_lt
   omega
 | .arr _ _,_,_,⟨h1,h2⟩=>⟨h1,h2.each fun _ _ hd=>DR.wf hd⟩
 | .slice _,_,_,⟨_,_,_,h2,h3,_,_,h5,_⟩=>⟨af2 h2 h3,h5.each fun _ _ hd=>DR.wf hd⟩
 | .ptr,_,_,_=>trivial
def Ty.noPtr:Ty→Bool
 | .pair a b=>a.noPtr&&b.noPtr
 | .arr _ t=>t.noPtr
 | .slice t=>t.noPtr
 | .ptr=>false
 | _=>true
theorem Aep{P:Program}{t:Ty}{T:TypeId}(h:U2 P t T=true):P.cellsOf T=t.size:=by
 obtain⟨i,z,h1,h2,_⟩:=Ku (Uv h)
 simp[Program.cellsOf,h1,h2]
theorem Bmo{α β:Type}{f:α→Option β}:∀ {l:List α} {r:List β},l.mapM f=some r→∀ x∈l,∃ y,f x=some y
 | [],_,_,x,hx=>by simp at hx
 | a::l,r,h,x,hx=>by
  simp only[ar7,Option.pure_def,Option.bind_eq_bind,an6] at h
  obtain⟨y,h1,ys,h2,_⟩:=h
  rcases aa9.1 hx with rfl|hx
  ·exact⟨y,h1⟩
  ·exact Bmo h2 x hx
theorem Cmk{k:IntKind}{n:Int}(h:(Lit.int k n).wf=true):inK k n:=by simpa [Lit.wf,inK] using h
theorem Bx2{w:World}{a:Addr}:∀ {n:Nat} {cs:List Value},w.cells? 0 a n=some cs→cs.length=n∧∀ j v,cs[j]?=some v→w.cell? (a.add j)=some v:=by
 intro n cs h
 unfold World.cells? at h
 rw[aa0 (ac2 _)] at h
 have key:∀ (l:List Nat) (cs:List Value),l.mapM (fun i=>w.cell? (a.add i))=some cs→cs.length=l.length∧∀ (j:Nat) (v:Value) (i:Nat),cs[j]?=some v→l[j]?=some i→w.cell? (a.add i)=some v:=by
  intro l
  induction l with
  | nil=>intro cs h;simp at h;subst h;simp
  | cons x l ih =>
   intro cs h
   simp only[ar7,Option.pure_def,Option.bind_eq_bind,an6] at h
   obtain⟨y,h1,ys,h2,h3⟩:=h
   cases h3
   obtain⟨k1,k2⟩:=ih ys h2
   refine⟨by simp[k1],fun j v i e1 e2=>?_⟩
   cases j with
   | zero=>simp at e1 e2;subst e1 e2;exact h1
   | succ j=>exact k2 j v i (by simpa using e1) (by simpa using e2)
 obtain⟨k1,k2⟩:=key _ _ h
 simp only[List.length_range] at k1
 refine⟨k1,fun j v hj=>?_⟩
 have ar:j<n:=by rw[← k1];exact (ae9.1 hj).1
 exact k2 j v j hj (by simp[ar])
section
variable {H:Type} {enc:TypeId×Value→H} {P:Program} {w:World} {spare:Nat→Bool} {held:Bool}
theorem Ca0{α:Type}{R:List Value→α→Prop}{n:Nat}(a:Addr):∀ (k:Nat),(∀ i,i<k→∃ c x,c.length=n∧R c x∧∀ j v,c[j]?=some v→w.cell? ((a.add (i*n)).add j)=some v) →
  ∃ (rows:List Value) (xs:List α),xs.length=k∧B7 R n rows xs∧∀ j v,rows[j]?=some v→w.cell? (a.add j)=some v
 | 0,_=>⟨[],[],rfl,rfl,fun j v hj=>by simp at hj⟩
 | k+1,h=>by
  obtain⟨rows,xs,h1,h2,h3⟩:=Ca0 a k fun i hi=>h i (by omega)
  obtain⟨c,x,k1,k2,k3⟩:=h k (by omega)
  have hl:=h2.length
  refine⟨rows++c,xs++[x],by simp[h1],h2.append (B7.single k1 k2),fun j v hj=>?_⟩
  rcases ad3 j rows.length with ar|lk
  ·rw[ag9 ar] at hj
   exact h3 j v hj
  ·rw[af5 lk] at hj
   have hc:=k3 _ v hj
   have hn:0<n:=by
    have:=(ae9.1 hj).1
    omega
   have ha:a.spot=none:=by
    obtain⟨c0,x0,m1,_,m3⟩:=h 0 (by omega)
    have h0:c0[0]?=some (c0[0]'(by omega)):=by simp
    have:=m3 0 _ h0
    rw[al9] at this
    simp only[Addr.add,ar3] at this
    exact Bee this
   rw[Bma ha] at hc
   rw[show k*n+(j-rows.length)=j by rw[hl,h1] at *;omega] at hc
   exact hc
theorem Bem:∀ (t:Ty),t.noPtr=true →
  (∀ (T:TypeId) (be:Nat) (cs:List Value) (x:DataW H×List MemPlace),U2 P t T=true→DataW.trod enc P w 0 spare held be T cs=some x→∃ y:t.den,DR w (fun _=>True) t cs y) ∧
  (∀ (fs:List Field) (off be:Nat) (cs:List Value) (r:List (DataW H×List MemPlace)),Ek P t off fs=true→fs.mapM (fun f=>DataW.trod enc P w 0 spare held be f.type ((cs.drop f.offset).take (P.cellsOf f.type)))=some r →
   cs.length=off+t.size→∃ y:t.den,DR w (fun _=>True) t (cs.drop off) y)
 | .unit,_=>by
  have hf:∀ (fs:List Field) (off be:Nat) (cs:List Value) (r:List (DataW H×List MemPlace)),Ek P .unit off fs=true→fs.mapM (fun f=>DataW.trod enc P w 0 spare held be f.type ((cs.drop f.offset).take (P.cellsOf f.type)))=some r →
   cs.length=off+Ty.unit.size→∃ y:Ty.unit.den,DR w (fun _=>True) .unit (cs.drop off) y:=fun fs off be cs r h _ hl=>⟨(),ag5 (by simp only[Ty.size] at hl;omega)⟩
  refine⟨fun T be cs x hT hx=>?_,hf⟩
  obtain⟨fs,u1,u2,_⟩:=Au0 hT
  cases be with
  | zero=>cases hx
  | succ be =>
   simp only[DataW.trod,u1] at hx
   split at hx
   ·rename_i hl
    rw[Aep hT] at hl
    obtain⟨r,hr,_⟩:=ae0.1 hx
    have:=hf fs.toList 0 be cs r u2 hr (by omega)
    simpa using this
   ·cases hx
 | .pair a b,hp=>by
  simp only[Ty.noPtr,aa5] at hp
  obtain⟨z7,_⟩:=Bem a hp.1
  obtain⟨_,wq⟩:=Bem b hp.2
  have hf:∀ (fs:List Field) (off be:Nat) (cs:List Value) (r:List (DataW H×List MemPlace)),Ek P (.pair a b) off fs=true→fs.mapM (fun f=>DataW.trod enc P w 0 spare held be f.type ((cs.drop f.offset).take (P.cellsOf f.type)))=some r →
   cs.length=off+(Ty.pair a b).size→∃ y:(Ty.pair a b).den,DR w (fun _=>True) (.pair a b) (cs.drop off) y:=by
   intro fs off be cs r h hr hl
   obtain⟨f,fr,rfl,f1,f2,f3,_,f4⟩:=Aaz h
   simp only[ar7,Option.pure_def,Option.bind_eq_bind,an6] at hr
   obtain⟨z,h1,zs,h2,_⟩:=hr
   simp only[Ty.size] at hl
   rw[f1,Aep f2] at h1
   obtain⟨y1,d1⟩:=z7 f.type be _ _ f2 h1
   obtain⟨y2,d2⟩:=wq fr (off+a.size) be cs zs f4 h2 (by omega)
   exact⟨(y1,y2),d1,by rw[ah4];exact d2⟩
  refine⟨fun T be cs x hT hx=>?_,hf⟩
  obtain⟨fs,u1,u2,_⟩:=Ap3 hT
  cases be with
  | zero=>cases hx
  | succ be =>
   simp only[DataW.trod,u1] at hx
   split at hx
   ·rename_i hl
    rw[Aep hT] at hl
    obtain⟨r,hr,_⟩:=ae0.1 hx
    have:=hf fs.toList 0 be cs r u2 hr (by omega)
    simpa using this
   ·cases hx
 | .int k,_=>by
  refine⟨fun T be cs x hT hx=>?_,fun fs off be cs r h=>by simp[Ek,tyC] at h⟩
  obtain⟨n,rfl,_,hw⟩:=DataW.trod_int (Afb hT) hx
  exact⟨n,rfl,Cmk hw⟩
 | .bool,_=>by
  refine⟨fun T be cs x hT hx=>?_,fun fs off be cs r h=>by simp[Ek,tyC] at h⟩
  obtain⟨b,rfl,_⟩:=DataW.trod_bool (Azc hT) hx
  exact⟨b,rfl⟩
 | .str,_=>by
  refine⟨fun T be cs x hT hx=>?_,fun fs off be cs r h=>by simp[Ek,tyC] at h⟩
  obtain⟨s,rfl,_,hs⟩:=DataW.trod_string (Akg hT) hx
  exact⟨_,s,rfl,rfl,hs⟩
 | .arr n t,hp=>by
  obtain⟨ih,_⟩:=Bem t hp
  refine⟨fun T be cs x hT hx=>?_,fun fs off be cs r h=>by simp[Ek,tyC] at h⟩
  obtain⟨e,u1,u2⟩:=Afg hT
  cases be with
  | zero=>cases hx
  | succ be =>
   simp only[DataW.trod,u1] at hx
   split at hx
   ·rename_i hl
    rw[Aep hT] at hl
    obtain⟨r,hr,_⟩:=ae0.1 hx
    have jw:=Bmo hr
    have key:∀ k,k≤n→∃ xs:List t.den,xs.length=k∧B7 (DR w (fun _=>True) t) t.size (cs.take (k*t.size)) xs:=by
     intro k
     induction k with
     | zero=>intro _;exact⟨[],rfl,by simp[B7]⟩
     | succ k ihk =>
      intro hk
      obtain⟨xs,h1,h2⟩:=ihk (by omega)
      obtain⟨z,hz⟩:=jw k (by simp;omega)
      rw[Aep u2] at hz
      obtain⟨y,hy⟩:=ih e be _ _ u2 hz
      refine⟨xs++[y],by simp[h1],?_⟩
      have e1:cs.take ((k+1)*t.size)=cs.take (k*t.size)++(cs.drop (k*t.size)).take t.size:=by
       rw[ae4,ap4,List.take_add]
      rw[e1]
      exact h2.append (B7.single (DR.len hy) hy)
    obtain⟨xs,h1,h2⟩:=key n (ab4 _)
    rw[aa8 (by rw[hl];exact ab4 _)] at h2
    exact⟨xs,h1,h2⟩
   ·cases hx
 | .slice t,hp=>by
  obtain⟨ih,_⟩:=Bem t hp
  refine⟨fun T be cs x hT hx=>?_,fun fs off be cs r h=>by simp[Ek,tyC] at h⟩
  obtain⟨e,u1,u2⟩:=H6 hT
  cases be with
  | zero=>cases hx
  | succ be =>
   simp only[DataW.trod,u1] at hx
   have two:(∃ a len cap,cs=[.slice (some a) len cap])∨cs=[.slice none 0 0]:=by
    split at hx<;>simp_all
   rcases two with⟨a,len,cap,rfl⟩|rfl
   ·dsimp only at hx
    split at hx
    ·rename_i hc
     obtain⟨_,fw,qu⟩:=hc
     obtain⟨r,hr,_⟩:=an6.1 hx
     have jw:=Bmo hr
     obtain⟨rows,xs,h1,h2,h3⟩:=Ca0 (R:=DR w (fun _=>True) t) (n:=t.size) a len fun i hi=>by
      obtain⟨z,hz⟩:=jw i (by simpa using hi)
      obtain⟨c,k1,k2⟩:=an6.1 hz
      rw[Aep u2] at k1
      obtain⟨m1,m2⟩:=Bx2 k1
      obtain⟨y,hy⟩:=ih e be _ _ u2 k2
      exact⟨c,y,m1,hy,m2⟩
     exact⟨xs,some a,cap,by rw[h1],by rw[h1];exact fw,qu,(fun h=>by cases h),rows,h2,fun _=>⟨a,rfl,trivial,h3⟩⟩
    ·cases hx
   ·exact⟨[],none,0,rfl,ab4 _,ac2 _,fun _=>rfl,[],rfl,fun h=>absurd rfl h⟩
 | .ptr,h=>by cases h
def Bt1(P:Program):List Dz→List TypeId→Bool
 | [],[]=>true
 | .ro fr t::ms,T::Ts=>(!fr||t.flat)&&t.noPtr&&U2 P t T&&Bt1 P ms Ts
 | _,_=>false
def wfL:(ms:List Dz)→Iu ms→Prop
 | [],_=>True
 | .ro _ t::ms,x=>t.wf x.1∧wfL ms x.2
 | _::ms,x=>wfL ms x.2
theorem By1{base:Nat}{t:Ty}{T:TypeId}{v:Value}(h:U2 P t T=true)(hp:t.noPtr=true)(hv:Value.okWide P w .any base T v):Ck v=t.agg:=by
 cases t with
 | unit =>
  obtain⟨fs,u,_⟩:=Au0 h
  simp only[Value.okWide,u] at hv
  obtain⟨cs,rfl,_⟩:=hv
  rfl
 | pair a b =>
  obtain⟨fs,u,_⟩:=Ap3 h
  simp only[Value.okWide,u] at hv
  obtain⟨cs,rfl,_⟩:=hv
  rfl
 | arr n t =>
  obtain⟨e,u,_⟩:=Afg h
  simp only[Value.okWide,u] at hv
  obtain⟨cs,rfl,_⟩:=hv
  rfl
 | int k=>obtain⟨n,rfl⟩:=okWide_int (Afb h) hv;rfl
 | bool=>obtain⟨n,rfl⟩:=okWide_bool (Azc h) hv;rfl
 | str=>obtain⟨n,rfl⟩:=okWide_string (Akg h) hv;rfl
 | slice t =>
  obtain⟨e,u,_⟩:=H6 h
  obtain⟨a,l,c,rfl⟩:=okWide_slice u hv
  rfl
 | ptr=>cases hp
theorem Bu7{base:Nat}:∀ (ms:List Dz) (Ts:List TypeId) (vs:List Value) (ds:List (DataW H)) (ps:List MemPlace),Bt1 P ms Ts=true→DataW.TrodAll enc P w 0 spare held Ts vs ds ps →
  (∀ (j:Nat) (T:TypeId) (v:Value),Ts[j]?=some T→vs[j]?=some v→Value.okWide P w .any base T v) →
  ∃ x:Iu ms,MRL w (Bdy w (fun _=>False) []) w.heap.size ms vs x []∧wfL ms x
 | [],[],vs,ds,ps,_,h,_=>by
  cases vs with
  | nil=>exact⟨(),⟨rfl,rfl⟩,trivial⟩
  | cons _ _=>cases ds<;>exact h.elim
 | m::ms,T::Ts,vs,ds,ps,hl,h,hv=>by
  cases m with
  | ro fr t =>
   simp only[Bt1,aa5] at hl
   obtain⟨⟨⟨l1,l2⟩,l3⟩,l4⟩:=hl
   cases vs with
   | nil=>cases ds<;>exact h.elim
   | cons v vs =>
    cases ds with
    | nil=>exact h.elim
    | cons d ds =>
     obtain⟨p,q,⟨be,h1⟩,h2,rfl⟩:=h
     obtain⟨y,hy⟩:=(Bem t l2).1 T be _ _ l3 h1
     obtain⟨x,hx,hw⟩:=Bu7 ms Ts vs ds q l4 h2 fun j T v e1 e2=>hv (j+1) T v (by simpa using e1) (by simpa using e2)
     have hag:=By1 l3 l2 (hv 0 T v rfl rfl)
     refine⟨(y,x),⟨v,vs,[],[],rfl,hag,⟨rfl,?_⟩,hx,rfl⟩,hy.wf,hw⟩
     cases fr with
     | false=>exact hy.mono fun b _=>⟨by simp,(fun h=>h),(fun h=>by cases h)⟩
     | true=>exact DR.flat (by simpa using l1) hy
  | _=>cases hl
 | [],_::_,_,_,_,hl,_,_=>by cases hl
 | m::_,[],_,_,_,hl,_,_=>by cases m<;>cases hl
theorem Cd7{f:FuncId}{fn:Func}{c:Code}{ins:List Dz}{F:Iu ins→Option (B4.outDen ⟨ins,[.ro true .bool]⟩)}(hF:A7 P f ⟨ins,[.ro true .bool]⟩ F)(hf:P.funcs[f]?=some fn)(hb:fn.body=some c)(ei:fn.name≠"runtime.NumGoroutine")
  {x:Iu ins} {y:B4.outDen ⟨ins,[.ro true .bool]⟩} (hy:F x=some y) (f0:y.1.1=true) {vals:List Value} (hm:MRL w (Bdy w (fun _=>False) []) w.heap.size ins vals x []) :
  Calls P f vals.toArray w fun e w'=>e=.returned (.bool true)∧Below w.heap.size w w':=by
 have hc:(callFunc f vals.toArray).run P w=.ok (.enter f vals.toArray) w:=by simp[callFunc,hf,ei,hb]
 rcases hF w (fun _=>False) vals x [] y hy (fun b h=>h.elim) au1 (by simp) hm with⟨_,h⟩ | ⟨v,w',h,_⟩
 ·refine h.mono fun e w' he=>?_
  cases e with
  | returned v =>
   obtain⟨rs,b1,b2,rfl,g1,g2,g3,g4,g5,_⟩:=he
   obtain⟨v0,r0,c1,c2,rfl,ha,⟨_,hd⟩,⟨rfl,_⟩,_⟩:=g1
   have hv:v0.cells.toList=[.bool true]:=by
    have h1:v0.cells.toList=[.bool y.1.1]:=hd
    rw[f0] at h1;exact h1
   have ha:Ck v0=false:=ha
   rw[Bm ha] at hv
   have hv:v0=.bool true:=by simpa using hv
   refine⟨by rw[hv];rfl,⟨g5.os,g5.tape,g5.output,g5.size,fun k hk=>g5.block k hk (by simp)⟩⟩
  | panicked _=>exact he.elim
  | outgrown=>exact he.elim
 ·rw[hc] at h
  cases h
theorem Bb1(lz:laidOutB P=true){w':World}(hb:Below w.heap.size w w'):∀ {Ts:List TypeId} {vs:List Value} {ds:List (DataW H)} {ps:List MemPlace},
  (∀ T∈Ts,P.readableRec T=true∧T<P.types.size)→DataW.TrodAll enc P w 0 (fun _=>true) true Ts vs ds ps→DataW.TrodAll enc P w' 0 (fun b=>decide (b<w.heap.size)) true Ts vs ds ps
 | [],[],[],_,_,h=>h
 | [],[],_::_,_,_,h=>h.elim
 | [],_::_,_,_,_,h=>by cases ‹List (DataW H)›<;>exact h.elim
 | _::_,[],_,_,_,h=>by cases ‹List (DataW H)›<;>exact h.elim
 | _::_,_::_,[],_,_,h=>h.elim
 | T::Ts,v::vs,d::ds,ps,hT,⟨p,q,h1,h2,e⟩=>by
  obtain⟨r1,r2⟩:=hT T (ac1 ..)
  have ar:∀ x∈p,x.block<w.heap.size:=by obtain⟨m,hm⟩:=h1;exact DataW.trod_lt m _ _ _ hm
  exact⟨p,q,Below.trod lz r1 r2 h1 hb ar,Bb1 lz hb (fun T hT'=>hT T (ab8 _ hT')) h2,e⟩
end
theorem Bz1{C:Checked}{os:Os}{f:FuncId}{fn:Func}{c:Code}{ins:List Dz}{F:Iu ins→Option (B4.outDen ⟨ins,[.ro true .bool]⟩)}{spec:ChangeSpec}{Tb:TypeId}{H:Type}{enc:TypeId×Value→H}
  (own:ownKnob C.prog.godebug=none) (started:os.Started) (ux:C.prog.inits.idxOf? f=none) (lz:laidOutB C.prog=true)
  (rm:∃ (w:World) (tape:Tape) (i:Input),w.os=os∧(w.forCall tape i).Shaped C.prog∧i.vars=[]∧Input.okWide C.prog (w.forCall tape i) .any w.heap.size f i ∧
   spec.pre6 enc C.prog fn [] false (w.forCall tape i).memory i.args∧({}:Assume).holds C.prog (lone (Frame.enter C.prog f i.args .normal) [] (w.forCall tape i)))
  (hF:A7 C.prog f ⟨ins,[.ro true .bool]⟩ F) (hf:C.prog.funcs[f]?=some fn) (hb:fn.body=some c) (ei:fn.name≠"runtime.NumGoroutine")
  (fp:Bt1 C.prog ins fn.params.toList=true) (yh:∀ T∈fn.params.toList,C.prog.readableRec T=true∧T<C.prog.types.size) (ax2:fn.resultTypes=#[Tb]) (yj:C.prog.underlying Tb=some .bool)
  (tc:spec.vars=[]) (yk:∀ ds:List (DataW H),ds.length=fn.params.size→(spec.fn H ds).results=[.lit (.bool true)]∧(spec.fn H ds).args=ds∧(spec.fn H ds).vars=[])
  (eh:∀ x,wfL ins x→∃ y,F x=some y∧y.1.1=true) :
  ReturnsInHanded {} C os f .any (spec.pre6 enc C.prog fn [] false) (spec.post enc C.prog fn false true false false):=by
 refine returnsInHanded_of_change (C:=C) own started ux hf rm ?_
 intro W base args ds gs before aq hW _ _
 have hW':=hW
 obtain⟨p,q,hA,hV,rfl,hfz,dv⟩:=hW
 rw[tc] at hV
 obtain⟨rfl,rfl⟩:=trodVars_none hV
 obtain⟨x,hm,hwf⟩:=Bu7 (base:=base) ins fn.params.toList args.toList ds p fp hA fun j T v e1 e2=>aq j T v (by simpa using e1) (by simpa using e2)
 obtain⟨y,hy,hyb⟩:=eh x hwf
 have ag:ds.length=fn.params.size:=by
  have key:∀ (Ts:List TypeId) (vs:List Value) (ds:List (DataW H)) (ps:List MemPlace),DataW.TrodAll enc C.prog W 0 (fun _=>true) true Ts vs ds ps→ds.length=Ts.length:=by
   intro Ts
   induction Ts with
   | nil=>intro vs ds ps h;cases vs<;>cases ds<;>first|rfl|exact h.elim
   | cons T Ts ih =>
    intro vs ds ps h
    cases vs with
    | nil=>cases ds<;>exact h.elim
    | cons v vs =>
     cases ds with
     | nil=>exact h.elim
     | cons d ds =>
      obtain⟨p,q,_,h2,_⟩:=h
      simp[ih vs ds q h2]
  have:=key _ _ _ _ hA
  simpa using this
 obtain⟨s1,s2,s3⟩:=yk ds ag
 have pa:=Cd7 (w:=W) hF hf hb ei hy hyb hm
 rw[ah5] at pa
 refine pa.mono fun e W' ⟨he,bel⟩=>?_
 subst he
 refine⟨_,rfl,ds,[],p++[],[],p,[],hW',?_,?_,?_,bel.frame _,fun h=>by cases h⟩
 ·rw[ah9,s1,ax2]
  exact trodAll_mk1 (shut_bool yj _)
 ·rw[ah9,s2]
  exact Bb1 lz bel yh hA
 ·rw[ah9,s3,tc]
  rfl
end Go.Pon
namespace Go.Pon
open Go
def Bt7(y:Lay)(s:B4)(fn:Func)(c:Code):Bool :=
 (fn.name != "runtime.NumGoroutine")&&Ao5 (List.replicate (Bts y s.ins) true) fn.ntmps c&&Nat.ble (Bts y s.ins) fn.ntmps&&Bkm s.ins&&Sc (fun m=>!m.ty.agg) s.ins
theorem MRL.one{w:World}{ok:Bool→Nat→Prop}{base:Nat}:∀ {ms:List Dz} {vs:List Value} {x:Iu ms} {bs:List Nat},(∀ m∈ms,m.ty.agg=false)→MRL w ok base ms vs x bs→∀ v∈vs,Ck v=false
 | [],_,_,_,_,⟨h,_⟩=>by rw[h];simp
 | m::ms,_,_,_,hm,⟨v,r,b1,b2,h1,h2,h3,h4,h5⟩=>fun v' ix=>by
  rw[h1] at ix
  rcases aa9.1 ix with rfl|ix
  ·rw[h2];exact hm _ (ac1 ..)
  ·exact MRL.one (fun m h=>hm m (ab8 _ h)) h4 v' ix
theorem Ch3{P:Program}{G:Ctx}{C:Gi}{L:Af}(hS:Ckg P G C)(hL:Bui L){v:Nat}{y:Lay}{fn:Func}{c:Code}{s:B4}(hf:P.funcs[y.f]?=some fn)(hb:fn.body=some c)(bj:Bt7 y s fn c=true)
  (kx:G.lay v=some (y,s.ins)):VOK P y s (T0 L C G v fn c s y):=by
 intro w B vals x bs r act b hF hB dv hnB hm uo ts ax3
 simp only[Bt7,aa5,bne_iff_ne,ne_eq,Nat.ble_eq,Hf,an4] at bj
 obtain⟨⟨⟨⟨ei,o9⟩,vm⟩,hph⟩,mn⟩:=bj
 have ag:vals.length=s.ins.length:=hm.len
 refine .inl ⟨?_,calls_of_wp hf hb ?_⟩
 ·simp[callFunc,hf,ei,hb]
 ·let K:Dg:={ P:=P,G:=G,C:=C,w0:=w,own:=bs,B:=B,nt:=fn.ntmps,args:=act.map some }
  have hK:K.OK:=⟨hB,hS.depth,hS.ty,hS.sig,hS.map,hS.vsig⟩
  have hV:Amc K y s.ins vals act b:=⟨uo,ts,ax3,rfl,ag,hm.one mn⟩
  have rj:=hV.npar
  have hH:Boi K s.ins vals x w:=⟨⟨rfl,rfl,rfl,ab4 _,fun _ _ _=>rfl⟩,bs,Bdy w B bs,hm,dv,fun f b h=>h,fun g hg=>⟨.inr hg,hnB g hg⟩⟩
  obtain⟨⟨vs,u⟩,l,q1,q2⟩:=Ee (show Lv C [] (Af4 s.ins x (0,0,0) [] fun vs _ u=>.done (vs,u)) [] _=some r from hF)
  cases hp:Bb6 vs with
  | false=>rw[show Bb6 (vs,u).1=false from hp] at q2;cases q2
  | true =>
  rw[show Bb6 (vs,u).1=true from hp] at q2
  have f8:((act.toArray++Array.replicate (fn.ntmps-act.toArray.size) undef:Array Value)).size=fn.ntmps:=by simp;omega
  have jw:∀ (i:Nat) (v:Value),act[i]?=some v→(act.toArray++Array.replicate (fn.ntmps-act.toArray.size) undef:Array Value).getD i undef=v:=fun i v hi=>by
   have ar:=(ae9.1 hi).1
   rw[aj8,Array.getElem?_append_left (by simpa using ar)]
   simp[hi]
  have hkept:∀ (i:Nat) (v:Value),K.args[i]?=some (some v)→(act.toArray++Array.replicate (fn.ntmps-act.toArray.size) undef:Array Value).getD i undef=v:=fun i v hi=>by
   have hi:(act.map some)[i]?=some (some v):=hi
   rw[ag3] at hi
   obtain⟨v',h1,h2⟩:=ae0.1 hi
   cases h2
   exact jw i v h1
  obtain⟨used,γ,u1,cj⟩:=Cg1 (K:=K) (a:={ tmps:=act.toArray++Array.replicate (fn.ntmps-act.toArray.size) undef,defers:=[] }) hV (hs:=[]) (x:=x) (by rw[ak0,ah9];exact hH) f8 rfl hkept q1 hp
  have hvl:vs.length=s.ins.length:=by
   obtain⟨_,_,_,v2,_⟩:=Bhx (K:=K) (a:={ tmps:=act.toArray++Array.replicate (fn.ntmps-act.toArray.size) undef,defers:=[] }) hH f8 rfl hkept q1
   omega
  have ul:Da (Ae6 0 (Adx y (Bca (List.length s.ins) vs))) (Qi [] (Bbx (List.length s.ins) vs))=Ae6 0 (Adx y vs):=by
   rw[Bnp,aa8 (by omega),Adu]
   simp[Qi]
  rw[ul] at cj
  have fd:∀ S used γ a w',Inv K S used γ a w'→(match Bxs y (Bts y s.ins) S with
    | some vs=>Lv C S.objs (Aaa G S fn.results.toList fun rs=>Xc true s.outs rs ⟨[],[]⟩ fun y c =>
      Xc true (Aym s.ins) (Zc s.ins vs) c fun z _=>.done (y,z)) [] fun y _=>some y
    | none=>none)=some r→a.defers=[]∧∃ v,(results fn a.tmps).run P w'=.ok v w'∧Bwk w B s vals bs r v w':=by
   intro S used γ a w' hI he
   split at he
   case h_2=>cases he
   rename_i va hva
   obtain⟨y',l,k1,k2⟩:=Ee he
   cases k2
   obtain⟨h,_⟩:=hI
   obtain⟨g1,g2⟩:=Bxh hV h hva
   obtain⟨rs,l1,dp,k1,k2,k3,k4⟩:=Aji (K:=K) h hK _ k1
   obtain⟨y1,c1,l2,n1,k1,m2,m3,m4,m5,m6⟩:=Uq h s.outs rs (Xr.start S true) k1
   obtain⟨z1,c2,l3,n2,k1,d2,d3,d4,d5,d6⟩:=Uq h (Aym s.ins) _ m2 k1
   obtain⟨e,_⟩:=k1
   subst e
   obtain⟨b1,b2⟩:=Bmf (E:=A3 K S.objs used γ w') s.ins va vals (by omega) ag fun i m v val e0 em e1 e2=>g2 i v val e1 e2
   have hp1:(Cx c1.ups).Perm n1:=by simpa [Cx] using m4
   have kc:(Cx c2.ups).Perm (n1++n2):=d4.trans ((ar2 n2 hp1).trans aj7)
   have uw:(n1++n2).Nodup:=kc.nodup_iff.1 d2.nodup
   have dh:Em S γ (n1++n2)=Em S γ n1++Em S γ n2:=by simp[Em]
   have bj:∀ f b,okL K S γ c2 f b→Bdy w B (Em S γ n1++Em S γ n2) f b:=fun f b hb=>⟨fun hm=>by
    rw[← dh] at hm
    obtain⟨i,hi,di⟩:=E8.1 hm
    exact d2.apart i (Nv.1 (kc.mem_iff.2 hi)) (hb.1 i di),hb.2⟩
   refine⟨h.defers,Bp8 dp,Bis (K:=K) k4,dp,Em S γ n1,Em S γ n2,rfl,?_,?_,?_,fun g hg=>?_,h.frame,fun fb=>?_⟩
   rotate_left 4
   ·exfalso
    unfold Ayx at fb
    cases hs:s.ins with
    | nil=>rw[hs] at hph;cases hph
    | cons m ms =>
     rw[hs] at hph fb
     cases m<;>first | (simp[Bkm] at hph;done) | (simp at fb;done)
   ·exact ((m6 dp k2 k3).mono fun f=>Tc d3 id).mono bj
   ·exact (d6 (Aty s.ins vals) b1 b2).mono bj
   ·rw[← dh];exact Ael h uw
   ·rw[← dh] at hg
    obtain⟨i,_,di⟩:=E8.1 hg
    exact (h.mod i g di).1
  exact Ca4 (K:=K) hK hS.mix hL (f:=v) (fun y' ins h=>by
    rw[show G.lay v=some (y',ins) from h] at kx
    cases kx
    exact⟨vals,act,b,hV⟩) c 0 _ _ _ _ (by rw[show K.args.map (·.isSome)=List.replicate (Bts y s.ins) true from by
    show (act.map some).map (·.isSome)=_
    rw[List.map_map,← rj]
    exact List.map_const' .. |> (·.trans rfl)];exact o9) (fun S used γ a w' hI he=>fd S used γ a w' hI he) (fun i S used γ a w' hI he=>by cases he)
   (fun S used γ a w' hI he=>fd S used γ a w' hI he) _ used γ _ w ⟨cj,fun id v hv=>by rw[u1 id v hv];exact at3⟩ q2
end Go.Pon
