/-
  Part of a proof: general lemmas, merged by a program of this work.
-/
import Derived.Below
import Derived.Carry
import Derived.ChangeMaps3
import Derived.ChangeOld
import Derived.Great.BuildSlice
import Derived.Laws.AppendOwn
import Derived.Laws.BytesString
import Derived.Laws.CopyRow
import Derived.Laws.MakeOwn
import Derived.MapKept
import Derived.OpenShut
import Derived.ProofKit
import Derived.WalkKit
import Derived.Test.YtjbkeldlldpddaaGreatF1
set_option autoImplicit false
set_option linter.unusedVariables false
set_option linter.unusedSimpArgs false
noncomputable section
namespace Go.Pon
open Go
def Bza:List Value→Value
 | [v]=>v
 | vs=>.tuple vs.toArray
def Cf0(P:Program)(f:FuncId)(args:List Value)(w:World)(R:Value→World→Prop):Prop :=
 ((callFunc f args.toArray).run P w=.ok (.enter f args.toArray) w∧Calls P f args.toArray w fun
  | .returned v,w'=>R v w'
  | _,_=>False) ∨
 ∃ v w',(callFunc f args.toArray).run P w=.ok (.value v) w'∧R v w'
def Bl0:Ez→Value→Value
 | .ptr _,v=>v
 | .optr _,v=>v
 | _,_=>.agg #[]
def Awt:List Ez→List Value→List Value
 | m::ms,v::vs=>Bl0 m v::Awt ms vs
 | _,_=>[]
def Bo2(w:World)(B:Nat→Prop)(bs:List Nat)(f:Bool)(b:Nat):Prop:=b ∉ bs∧¬ B b∧(f=true→w.heap.size≤b)
def Cqn(v0 r:Value):Prop:=∃ a0 m c0 a n c,v0=.slice a0 m c0∧r=.slice a n c∧n≤m∧n≤c∧c≤maxLen∧(a=none→c=0) ∧
 (0<n→∃ g,a0=some ⟨g,0,none⟩∧a=some ⟨g,0,none⟩)
def Cnc(w:World)(B:Nat→Prop)(s:Ce)(vals:List Value)(bs:List Nat)(y:s.outDen)(v:Value)(w':World):Prop :=
 ∃ rs b1 b2,v=Bza rs∧MRL w' (Bo2 w B (b1++b2)) w.heap.size s.outs rs y.1 b1∧MRL w' (Bo2 w B (b1++b2)) w.heap.size (Bgo s.ins) (Awt s.ins vals) y.2 b2 ∧
  (b1++b2).Nodup∧(∀ g∈b1++b2,w.heap.size≤g∨g∈bs)∧Aos w w' bs∧(Bb1 s=true→∃ v0 r,vals=[v0]∧rs=[r]∧Cqn v0 r)
def A6(P:Program)(f:FuncId)(s:Ce)(F:O7 s.ins→Option s.outDen):Prop :=
 ∀ (w:World) (B:Nat→Prop) (vals:List Value) (x:O7 s.ins) (bs:List Nat) (y:s.outDen),F x=some y→(∀ b,B b→b<w.heap.size)→bs.Nodup→(∀ g∈bs,¬ B g) →
  MRL w (Bo2 w B bs) w.heap.size s.ins vals x bs→Cf0 P f vals w (Cnc w B s vals bs y)
theorem MR.low{w:World}{ok:Bool→Nat→Prop}{base base':Nat}(h:base'≤base):∀ {m:Ez} {cs:List Value} {x:m.den} {bs:List Nat},MR w ok base m cs x bs→MR w ok base' m cs x bs
 | .ro _ _,_,_,_,hr=>hr
 | .own _ _,_,_,_,⟨v,h0,hr⟩=>⟨v,h0,hr.imp id fun⟨g,cap,cur,e,h1,h2,h3,h4,h5,h6,h7,h8⟩=>⟨g,cap,cur,e,h1,h2,h3,h4,h5,h6,fun hf=>Nat.le_trans h (h7 hf),h8⟩⟩
 | .ptr m,_,_,_,⟨g,e,cur,bs',h1,h2,h3,h4⟩=>⟨g,e,cur,bs',h1,h2,MR.low h h3,h4⟩
 | .optr m,_,none,_,hr=>hr
 | .optr m,_,some _,_,⟨g,e,cur,bs',h1,h2,h3,h4⟩=>⟨g,e,cur,bs',h1,h2,MR.low h h3,h4⟩
 | .pair _ _,_,_,_,⟨c1,c2,b1,b2,h1,h2,h3,h4⟩=>⟨c1,c2,b1,b2,h1,MR.low h h2,MR.low h h3,h4⟩
 | .fn _ _,_,_,_,⟨vs,h1,h2⟩=>⟨vs,h1,MR.low h h2⟩
 | .nilm _,_,_,_,hr=>hr
 | .rp _,_,_,_,hr=>hr
 | .bor _,_,_,_,hr=>hr
 | .mapm _ _,_,_,_,hr=>hr
 | .orp _,_,none,_,hr=>hr
 | .orp _,_,some _,_,hr=>hr
 | .ign,_,_,_,hr=>hr
 | .full _,_,_,_,hr=>hr
theorem MRL.low{w:World}{ok:Bool→Nat→Prop}{base base':Nat}(h:base'≤base):∀ {ms:List Ez} {vs:List Value} {x:O7 ms} {bs:List Nat},MRL w ok base ms vs x bs→MRL w ok base' ms vs x bs
 | [],_,_,_,hr=>hr
 | _::_,_,_,_,⟨v,r,b1,b2,h1,h2,h3,h4,h5⟩=>⟨v,r,b1,b2,h1,h2,h3.low h,MRL.low h h4,h5⟩
theorem Cds{fr:Bool}{t:Ty}(h:(!fr&&!t.flat)=false):fr=true∨t.flat=true:=by
 cases fr<;>cases ht:t.flat<;>simp_all
theorem MR.noalias{w:World}{ok:Bool→Nat→Prop}{base:Nat}:∀ {m:Ez} {cs:List Value} {x:m.den} {bs:List Nat},m.alias=false→MR w ok base m cs x bs→MR w (fun f b=>ok true b) base m cs x bs
 | .ro fr t,_,_,_,ha,⟨h1,h2⟩=>by
  rcases Cds (show (!fr&&!t.flat)=false from ha) with rfl|ht
  ·exact⟨h1,h2⟩
  ·exact⟨h1,DR.flat ht h2⟩
 | .own fr t,_,_,_,ha,⟨v,h0,hr⟩=>⟨v,h0,hr.imp id fun⟨g,cap,cur,e,h1,h2,h3,h4,h5,h6,h7⟩=>⟨g,cap,cur,e,h1,h2,h3,h4,h5,by
   rcases Cds (show (!fr&&!t.flat)=false from ha) with rfl|ht
   ·exact h6
   ·exact h6.mono fun _ _=>DR.flat ht,h7⟩⟩
 | .ptr m,_,_,_,ha,⟨g,e,cur,bs',h1,h2,h3,h4⟩=>⟨g,e,cur,bs',h1,h2,MR.noalias (m:=m) ha h3,h4⟩
 | .optr m,_,none,_,ha,hr=>hr
 | .optr m,_,some _,_,ha,⟨g,e,cur,bs',h1,h2,h3,h4⟩=>⟨g,e,cur,bs',h1,h2,MR.noalias (m:=m) ha h3,h4⟩
 | .pair a b,_,_,_,ha,⟨c1,c2,b1,b2,h1,h2,h3,h4⟩=>by
  have ha:(a.alias||b.alias)=false:=ha
  rw[Bool.or_eq_false_iff] at ha
  exact⟨c1,c2,b1,b2,h1,MR.noalias ha.1 h2,MR.noalias ha.2 h3,h4⟩
 | .fn _ m,_,_,_,ha,⟨vs,h1,h2⟩=>⟨vs,h1,MR.noalias (m:=m) ha h2⟩
 | .nilm _,_,_,_,_,hr=>hr
 | .rp _,_,_,_,ha,_=>by cases ha
 | .bor _,_,_,_,ha,_=>by cases ha
 | .mapm _ _,_,_,_,ha,_=>by cases ha
 | .orp _,_,_,_,ha,_=>by cases ha
 | .ign,_,_,_,ha,_=>by cases ha
 | .full _,_,_,_,ha,⟨h0,hr⟩=>⟨h0,hr.imp id fun⟨g,cap,cur,e,h1,h2,h3,h4,h5,h6,h7⟩=>⟨g,cap,cur,e,h1,h2,h3,h4,h5,h6.mono fun _ _=>DR.flat h0,h7⟩⟩
theorem MRL.noalias{w:World}{ok:Bool→Nat→Prop}{base:Nat}:∀ {ms:List Ez} {vs:List Value} {x:O7 ms} {bs:List Nat},(∀ m∈ms,m.alias=false)→MRL w ok base ms vs x bs→MRL w (fun f b=>ok true b) base ms vs x bs
 | [],_,_,_,_,hr=>hr
 | _::_,_,_,_,ha,⟨v,r,b1,b2,h1,h2,h3,h4,h5⟩=>⟨v,r,b1,b2,h1,h2,h3.noalias (ha _ (List.mem_cons_self ..)),MRL.noalias (fun m hm=>ha m (List.mem_cons_of_mem _ hm)) h4,h5⟩
theorem H7{α:Type}{f:α→Bool}:∀ {l:List α},To f l=true↔∀ a∈l,f a=true
 | []=>by simp[To]
 | a::l=>by simp[To,H7 (l:=l)]
theorem Bx3{s:Ce}(h:s.alias=false):(∀ m∈s.outs,m.alias=false)∧∀ m∈Bgo s.ins,m.alias=false:=by
 unfold Ce.alias at h
 simp only[Bool.or_eq_false_iff,Bool.not_eq_false',H7] at h
 refine⟨fun m hm=>by simpa using h.1 m hm,?_⟩
 have:∀ ms:List Ez,(∀ m∈ms,m.upd.alias=false)→∀ m∈Bgo ms,m.alias=false:=by
  intro ms
  induction ms with
  | nil=>intro _ m hm;simp[Bgo] at hm
  | cons a ms ih =>
   intro h0 m hm
   rcases List.mem_cons.1 (show m∈a.upd::Bgo ms from hm) with rfl|hm
   ·exact h0 a (List.mem_cons_self ..)
   ·exact ih (fun m hm=>h0 m (List.mem_cons_of_mem _ hm)) m hm
 exact this s.ins fun m hm=>by simpa using h.2 m hm
section
variable {K:Dq} {S:St} {used:Id→Nat→Prop} {γ:Id→Value} {a:Act} {w:World}
def Cne(S:St)(used:Id→Nat→Prop)(γ:Id→Value)(mv:List Id)(p:Id×Obj×Value):Prop :=
 p.2.2=γ p.1∧used p.1 0∧p.1∈mv∧(∃ fr t c c',An S.objs p.1=some (.mem fr t c)∧p.2.1=.mem false t c')∧∃ g,p.2.2=.pointer (some ⟨g,0,none⟩)
structure Aly(S:St)(used:Id→Nat→Prop)(γ:Id→Value)(mv:List Id)(n n':Id)(M:I6):Prop where
 fst:n'.1=n.1
 snd:n'.2.1=n.2.1
 le:n.2.2≤n'.2.2
 ids:∀ p∈M,(p.1.1=n.1∧p.1.2.1=n.2.1∧n.2.2≤p.1.2.2∧p.1.2.2<n'.2.2)∨Cne S used γ mv p
 nodup:(M.map (·.1)).Nodup
 fresh:∀ p∈M,p.2.1.isNew
theorem Aly.of{mv:List Id}{n n':Id}{M:I6}(h:Agr n n' M):Aly S used γ mv n n' M :=
 ⟨h.fst,h.snd,h.le,fun p hp=>.inl (h.ids p hp),h.nodup,h.fresh⟩
theorem Bm1{mv:List Id}{p:Id×Obj×Value}(h:Cne S used γ mv p):∃ g,Bg (some p.2.1) p.2.2=some g∧γ p.1=.pointer (some ⟨g,0,none⟩):=by
 obtain⟨h1,_,_,⟨_,_,_,_,_,h2⟩,g,h3⟩:=h
 exact⟨g,by rw[h2,h3];rfl,by rw[← h1,h3]⟩
theorem Aly.app{mv:List Id}{n n' n'':Id}{N M:I6}(h:Aly S used γ mv n n' N)(k:Aly S used γ mv n' n'' M)
  (hu:∀ id:Id,id.1=n.1→id.2.1=n.2.1→∀ v,¬ used id v) (hnd:(I6.blk N++I6.blk M).Nodup):Aly S used γ mv n n'' (M++N) where
 fst:=k.fst.trans h.fst
 snd:=k.snd.trans h.snd
 le:=Nat.le_trans h.le k.le
 ids:=fun p hp=>by
  rcases List.mem_append.1 hp with hp|hp
  ·rcases k.ids p hp with⟨h1,h2,h3,h4⟩|hb
   ·exact .inl ⟨h1.trans h.fst,h2.trans h.snd,Nat.le_trans h.le h3,h4⟩
   ·exact .inr hb
  ·rcases h.ids p hp with⟨h1,h2,h3,h4⟩|hb
   ·exact .inl ⟨h1,h2,h3,Nat.lt_of_lt_of_le h4 k.le⟩
   ·exact .inr hb
 nodup:=by
  rw[List.map_append,List.nodup_append]
  refine⟨k.nodup,h.nodup,fun i hi j hj e=>?_⟩
  obtain⟨p,hp,rfl⟩:=List.mem_map.1 hi
  obtain⟨q,hq,rfl⟩:=List.mem_map.1 hj
  rcases k.ids p hp with h1|h1<;>rcases h.ids q hq with h2|h2
  ·rw[e] at h1
   omega
  ·exact hu p.1 (h1.1.trans h.fst) (h1.2.1.trans h.snd) 0 (by rw[e];exact h2.2.1)
  ·exact hu q.1 h2.1 h2.2.1 0 (by rw[← e];exact h1.2.1)
  ·obtain⟨g,g1,g2⟩:=Bm1 h1
   obtain⟨g',g3,g4⟩:=Bm1 h2
   rw[e,g4] at g2
   cases g2
   rw[List.nodup_append] at hnd
   exact hnd.2.2 g (Ajb hq g3) g (Ajb hp g1) rfl
 fresh:=fun p hp=>by
  rcases List.mem_append.1 hp with hp|hp
  ·exact k.fresh p hp
  ·exact h.fresh p hp
variable {α:Type} {C:Ap} {objs:Rc} {w':World} {ok:Bool→Nat→Prop} {base:Nat}
theorem Cao(h:Hi K S used γ a w){mv:List Id}{m:Ez}{id:Id}{p:List Nat}{val:Value}(hv:G7 (Bi K S.objs used γ w) (.ptr id p) val)(hb:Bbv S mv m (.ptr id p))
  {x:m.den} {bs:List Nat} (hm:∃ g e cur bs',[val]=[Value.pointer (some ⟨g,0,none⟩)]∧w'.heap[g]?=some (.cells cur e (0,0))∧MR w' ok base m cur.toList x bs'∧bs=g::bs')
  {n:Id} {u:Rc} {k:Id→Rc→OpT α} {l0 l:List Id} {r:α} (hu:∀ id:Id,id.1=n.1→id.2.1=n.2.1→∀ v,¬ used id v)
  (hl:Ba C objs (Ax4 m x n u fun a n' u'=>k n' ((id,some (.mem false m.ty a))::u')) l0 r l) :
  ∃ n' M,Ba C objs (k n' (I6.ups M++u)) l0 r l∧Aly S used γ mv n n' M∧(I6.blk M).Perm bs∧∀ (K':Dq) (E:Vv),Yz w' ok base M K' E→∀ p∈M,OR K' E p.1 p.2.1:=by
 obtain⟨rfl,hmem,fr,c,hob⟩:=hb
 obtain⟨g,e,cur,bs',h1,h2,h3,rfl⟩:=hm
 have hval:val=.pointer (some ⟨g,0,none⟩):=by simpa using h1
 obtain⟨hv1,hv2⟩:=hv
 have hcs:val.cells.toList=[val]:=Bq (by rw[hval];rfl)
 rw[hcs] at hv1
 obtain⟨hus,v0,e0,_,hv0⟩:=hv1
 have e0:val=v0:=by simpa using e0
 subst e0
 obtain⟨g',u',k1,k2,k3,k4⟩:=hv0 m.ty (Ai7 _ fr m.ty c (.inl hob))
 have hγ:γ id=.pointer (some ⟨g,0,none⟩):=by
  have k1:γ id=_:=k1
  rw[hval,(Oj m.ty).2.2] at k4
  cases k4
  exact k1
 obtain⟨v,n',N,a1,a2,a3,a4,a5,a6⟩:=Bo4 m h3 hl
 refine⟨n',(id,.mem false m.ty v,.pointer (some ⟨g,0,none⟩))::N,a1,⟨a2.fst,a2.snd,a2.le,fun p hp=>?_,?_,fun p hp=>?_⟩,?_,fun K' E hp p hpm=>(Bnv h2 a3 a6 hp).2 p hpm⟩
 ·rcases List.mem_cons.1 hp with rfl|hp
  ·exact .inr ⟨hγ.symm,hus,hmem,⟨fr,m.ty,c,v,hob,rfl⟩,g,rfl⟩
  ·exact .inl (a2.ids p hp)
 ·simp only[List.map_cons,List.nodup_cons]
  refine⟨fun hm=>?_,a2.nodup⟩
  obtain⟨p,hp,e⟩:=List.mem_map.1 hm
  obtain⟨i1,i2,_⟩:=a2.ids p hp
  exact hu p.1 i1 i2 0 (by rw[e];exact hus)
 ·rcases List.mem_cons.1 hp with rfl|hp
  ·trivial
  ·exact a2.fresh p hp
 ·show (g::I6.blk N).Perm _
  exact List.Perm.cons g a5
theorem Aly.nil(mv:List Id)(n:Id):Aly S used γ mv n n []:=Aly.of (Agr.nil n)
theorem Bui(h:Hi K S used γ a w){mv:List Id}(m:Ez)(v:AV){val:Value}(hv:E7 (Bi K S.objs used γ w) v val)(hb:Cby S mv m v)
  {x:m.upd.den} {bs:List Nat} (hm:MR w' ok base m.upd (Bl0 m val).cells.toList x bs)
  {n:Id} {u:Rc} {k:Id→Rc→OpT α} {l0 l:List Id} {r:α} (hu:∀ id:Id,id.1=n.1→id.2.1=n.2.1→∀ v,¬ used id v)
  (hl:Ba C objs (But m v x n u k) l0 r l) :
  ∃ n' M,Ba C objs (k n' (I6.ups M++u)) l0 r l∧Aly S used γ mv n n' M∧(I6.blk M).Perm bs∧∀ (K':Dq) (E:Vv),Yz w' ok base M K' E→∀ p∈M,OR K' E p.1 p.2.1:=by
 have triv:bs=[]→Ba C objs (k n u) l0 r l→∃ n' M,Ba C objs (k n' (I6.ups M++u)) l0 r l∧Aly S used γ mv n n' M∧(I6.blk M).Perm bs∧∀ (K':Dq) (E:Vv),Yz w' ok base M K' E→∀ p∈M,OR K' E p.1 p.2.1 :=
  fun hbs hl=>⟨n,[],hl,Aly.nil mv n,by rw[hbs];exact List.Perm.refl _,fun _ _ _ p hp=>by simp at hp⟩
 cases m with
 | ro fr t=>exact triv hm.1 hl
 | own fr t=>exact triv hm.1 hl
 | pair p q=>exact triv hm.1 hl
 | fn f m=>exact triv hm.1 hl
 | nilm t=>exact triv hm.1 hl
 | rp t=>exact triv hm.1 hl
 | bor t=>exact triv hm.1 hl
 | mapm k t=>exact triv hm.1 hl
 | orp t=>exact triv hm.1 hl
 | ign=>exact triv hm.1 hl
 | full t=>exact triv hm.1 hl
 | ptr m =>
  cases v
  case ptr id p =>
   have hb:Bbv S mv m (.ptr id p):=hb
   obtain rfl:=hb.1
   obtain⟨g,e,cur,bs',h1,h2,h3,h4⟩:=hm
   have h1:val.cells.toList=_:=h1
   have hv:G7 _ (.ptr id []) val:=hv
   have hcs:val.cells.toList=[val]:=Bq hv.2.symm
   exact Cao h hv hb ⟨g,e,cur,bs',by rw[← hcs,h1],h2,h3,h4⟩ hu hl
  all_goals exact (show False from hb).elim
 | optr m =>
  cases v
  case nilp =>
   rcases hl with⟨hx,hl⟩ | ⟨y,_,hl⟩
   ·subst hx
    exact triv hm.2 hl
   ·exact hl.elim
  case ptr id p =>
   have hb:Bbv S mv m (.ptr id p):=by
    rcases hb with hb|hb
    ·cases hb
    ·exact hb
   obtain rfl:=hb.1
   rcases hl with⟨hx,hl⟩ | ⟨y,hy,hl⟩
   ·exact hl.elim
   ·subst hy
    obtain⟨g,e,cur,bs',h1,h2,h3,h4⟩:=hm
    have h1:val.cells.toList=_:=h1
    have hv:G7 _ (.ptr id []) val:=hv
    have hcs:val.cells.toList=[val]:=Bq hv.2.symm
    exact Cao h hv hb ⟨g,e,cur,bs',by rw[← hcs,h1],h2,h3,h4⟩ hu hl
  all_goals
   rcases hb with hb|hb
   ·cases hb
   ·exact (show False from hb).elim
theorem Bw5(h:Hi K S used γ a w){mv:List Id}:∀ (ms:List Ez) (vs:List AV) {vals:List Value} (hlen:vals.length=vs.length)
  (hv:∀ (i:Nat) (v:AV) (val:Value),vs[i]?=some v→vals[i]?=some val→E7 (Bi K S.objs used γ w) v val)
  (hb:∀ (i:Nat) (m:Ez) (v:AV),ms[i]?=some m→vs[i]?=some v→Cby S mv m v)
  {x:O7 (Bgo ms)} {bs:List Nat} (hm:MRL w' ok base (Bgo ms) (Awt ms vals) x bs) (hnd:bs.Nodup)
  {n:Id} {u:Rc} {k:Id→Rc→OpT α} {l0 l:List Id} {r:α} (hu:∀ id:Id,id.1=n.1→id.2.1=n.2.1→∀ v,¬ used id v)
  (hl:Ba C objs (Bgk ms vs x n u k) l0 r l),
  ∃ n' M,Ba C objs (k n' (I6.ups M++u)) l0 r l∧Aly S used γ mv n n' M∧(I6.blk M).Perm bs∧∀ (K':Dq) (E:Vv),Yz w' ok base M K' E→∀ p∈M,OR K' E p.1 p.2.1:=by
 intro ms
 induction ms with
 | nil =>
  intro vs vals hlen hv hb x bs hm hnd n u k l0 l r hu hl
  cases vs with
  | nil=>exact⟨n,[],hl,Aly.nil mv n,by rw[hm.2];exact List.Perm.refl _,fun _ _ _ p hp=>by simp at hp⟩
  | cons _ _=>exact hl.elim
 | cons m ms ih =>
  intro vs vals hlen hv hb x bs hm hnd n u k l0 l r hu hl
  cases vs with
  | nil=>exact hl.elim
  | cons v vs =>
   cases vals with
   | nil=>simp at hlen
   | cons val vals =>
    obtain⟨v',r',b1,b2,e1,e2,e3,e4,rfl⟩:=hm
    obtain⟨rfl,rfl⟩:v'=Bl0 m val∧r'=Awt ms vals:=by
     have e1:Bl0 m val::Awt ms vals=v'::r':=e1
     cases e1;exact⟨rfl,rfl⟩
    have hl:Ba C objs (But m v x.1 n u fun n' u'=>Bgk ms vs x.2 n' u' k) l0 r l:=hl
    obtain⟨n1,M1,a1,a2,a3,a4⟩:=Bui h m v (hv 0 v val rfl rfl) (hb 0 m v rfl rfl) e3 hu hl
    rw[List.nodup_append] at hnd
    obtain⟨n2,M2,c1,c2,c3,c4⟩:=ih vs (by simpa using hlen) (fun i v val h1 h2=>hv (i+1) v val (by simpa using h1) (by simpa using h2)) (fun i m v h1 h2=>hb (i+1) m v (by simpa using h1) (by simpa using h2)) e4 hnd.2.1
     (fun id i1 i2=>hu id (i1.trans a2.fst) (i2.trans a2.snd)) a1
    refine⟨n2,M2++M1,by rw[I6.ups_app,List.append_assoc];exact c1,a2.app c2 hu ?_,?_,fun K' E hp p hpm=>?_⟩
    ·exact ((List.Perm.append a3 c3).nodup_iff).2 (List.nodup_append.2 hnd)
    ·rw[I6.blk_app]
     exact List.perm_append_comm.trans (List.Perm.append a3 c3)
    ·rcases List.mem_append.1 hpm with hpm|hpm
     ·exact c4 K' E (hp.sub fun p h=>List.mem_append_left _ h) p hpm
     ·exact a4 K' E (hp.sub fun p h=>List.mem_append_right _ h) p hpm
end
end Go.Pon
namespace Go.Pon
open Go
def Ez.insOK:Ez→Bool
 | .ro fr t=>!fr||t.flat
 | .own fr _=>!fr
 | .ptr m=>m.insOK
 | .optr m=>m.insOK
 | .pair a b=>a.insOK&&b.insOK
 | .fn _ m=>m.insOK
 | .nilm _=>true
 | .rp _=>true
 | .full _=>true
 | .bor _=>true
 | .mapm _ _=>true
 | .orp _=>false
 | .ign=>true
theorem MR.ins{w:World}{ok ok':Bool→Nat→Prop}{base base':Nat}(h:∀ b,ok false b→ok' false b):∀ {m:Ez} {cs:List Value} {x:m.den} {bs:List Nat},m.insOK=true→MR w ok base m cs x bs→MR w ok' base' m cs x bs
 | .ro fr t,_,_,_,hi,⟨h1,h2⟩=>by
  refine⟨h1,?_⟩
  simp only[Ez.insOK,Bool.or_eq_true,Bool.not_eq_true'] at hi
  rcases hi with rfl|hi
  ·exact h2.mono h
  ·exact DR.flat hi h2
 | .own fr t,_,_,_,hi,⟨v,h0,hr⟩=>by
  have hi:fr=false:=by simpa [Ez.insOK] using hi
  subst hi
  exact⟨v,h0,hr.imp (fun h=>h) fun⟨g,cap,cur,e,h1,h2,h3,h4,h5,h6,h7,h8⟩=>⟨g,cap,cur,e,h1,h2,h3,h4,h5,h6.mono fun _ _=>DR.mono h,(fun h=>by cases h),h8⟩⟩
 | .ptr m,_,_,_,hi,⟨g,e,cur,bs',h1,h2,h3,h4⟩=>⟨g,e,cur,bs',h1,h2,MR.ins h (m:=m) hi h3,h4⟩
 | .optr m,_,none,_,hi,hr=>hr
 | .optr m,_,some _,_,hi,⟨g,e,cur,bs',h1,h2,h3,h4⟩=>⟨g,e,cur,bs',h1,h2,MR.ins h (m:=m) hi h3,h4⟩
 | .pair p q,_,_,_,hi,⟨c1,c2,b1,b2,h1,h2,h3,h4⟩=>by
  simp only[Ez.insOK,Bool.and_eq_true] at hi
  exact⟨c1,c2,b1,b2,h1,MR.ins h hi.1 h2,MR.ins h hi.2 h3,h4⟩
 | .fn _ m,_,_,_,hi,⟨vs,h1,h2⟩=>⟨vs,h1,MR.ins h (m:=m) hi h2⟩
 | .nilm _,_,_,_,hi,hr=>hr
 | .full _,_,_,_,hi,⟨h0,hr⟩=>⟨h0,hr.imp (fun h=>h) fun⟨g,cap,cur,e,h1,h2,h3,h4,h5,h6,h7⟩=>⟨g,cap,cur,e,h1,h2,h3,h4,h5,h6.mono fun _ _=>DR.flat h0,h7⟩⟩
 | .mapm _ _,_,_,_,hi,hr=>hr
 | .orp _,_,_,_,hi,_=>by cases hi
 | .ign,_,_,_,hi,hr=>hr
 | .bor t,_,_,_,hi,⟨h0,v,h1,h2,h3⟩=>⟨h0,v,h1,DR.mono (t:=.slice t) h h2,h3⟩
 | .rp _,_,_,_,hi,⟨h0,v,h1,h2,a,vs,h3,h4,h5,h6,h7⟩=>⟨h0,v,h1,h2,a,vs,h3,h4,fun hp=>h _ (h5 hp),h6,h7.mono h⟩
theorem MRL.ins{w:World}{ok ok':Bool→Nat→Prop}{base base':Nat}(h:∀ b,ok false b→ok' false b):∀ {ms:List Ez} {vs:List Value} {x:O7 ms} {bs:List Nat},(∀ m∈ms,m.insOK=true)→MRL w ok base ms vs x bs→MRL w ok' base' ms vs x bs
 | [],_,_,_,_,hr=>hr
 | _::_,_,_,_,hi,⟨v,r,b1,b2,h1,h2,h3,h4,h5⟩=>⟨v,r,b1,b2,h1,h2,h3.ins h (hi _ (List.mem_cons_self ..)),MRL.ins h (fun m hm=>hi m (List.mem_cons_of_mem _ hm)) h4,h5⟩
theorem Cf0.mono{P:Program}{f:FuncId}{args:List Value}{w:World}{R R':Value→World→Prop}(h:∀ v w',R v w'→R' v w')(hr:Cf0 P f args w R):Cf0 P f args w R':=by
 rcases hr with⟨h1,h2⟩ | ⟨v,w',h1,h2⟩
 ·refine .inl ⟨h1,fun cs=>?_⟩
  obtain⟨e,w',fr,k1,k2⟩:=h2 cs
  refine⟨e,w',fr,?_,k2⟩
  cases e with
  | returned v=>exact h _ _ k1
  | panicked _=>exact k1.elim
  | outgrown=>exact k1.elim
 ·exact .inr ⟨v,w',h1,h _ _ h2⟩
section
variable {K:Dq} {S:St} {used:Id→Nat→Prop} {γ:Id→Value} {a:Act} {w:World}
theorem Baj{c:Cl}(hc:Ab8 S true c){j:Id}(hl:lent c j)(v:Value):Bg (An (Fg c.ups S.objs) j) v=none:=by
 rcases hl with hl | ⟨o,ho⟩
 ·rw[hc.borrow rfl] at hl;simp at hl
 ·have hmem:Ap1 (X6 c.ups) j=true:=by
   rw[Aom,Bgg];exact List.mem_map.2 ⟨_,ho,rfl⟩
  have h5:=Bap hmem
  rw[Ady,if_pos hmem]
  cases h7:An c.ups j with
  | none=>rfl
  | some o' =>
   rw[h7] at h5
   obtain⟨_,⟨_,_,_,_,h8,rfl⟩ | ⟨_,_,_,h8,rfl⟩⟩:=hc.frozen j _ h5<;>rfl
theorem Aj5(h:Hi K S used γ a w):∀ {l:List Id},l.Nodup→(Hh S γ l).Nodup
 | [],_=>by simp[Hh]
 | i::l,hn=>by
  rw[List.nodup_cons] at hn
  have ih:=Aj5 h hn.2
  cases hi:Bg (An S.objs i) (γ i) with
  | none=>simpa [Hh,hi] using ih
  | some g =>
   have:Hh S γ (i::l)=g::Hh S γ l:=by simp[Hh,hi]
   rw[this,List.nodup_cons]
   refine⟨fun hm=>?_,ih⟩
   obtain⟨j,hj,hj2⟩:=Gn.1 hm
   rw[h.sep i j g hi hj2] at hn
   exact hn.1 hj
theorem Ckh{E:Vv}:∀ {vs:List AV} {rs:List Value},vs.length=rs.length→(∀ v∈vs,Bcm v=true)→(∀ (i:Nat) (v:AV) (val:Value),vs[i]?=some v→rs[i]?=some val→G7 E v val)→E7 E (Cc9 vs) (Bza rs):=by
 intro vs rs hlen hs hv
 have key:∀ (vs:List AV) (rs:List Value),vs.length=rs.length→(∀ (i:Nat) (v:AV) (val:Value),vs[i]?=some v→rs[i]?=some val→G7 E v val)→ARt E (Aya vs) rs:=by
  intro vs
  induction vs with
  | nil=>intro rs hl _;cases rs with
   | nil=>trivial
   | cons _ _=>simp at hl
  | cons v vs ih =>
   intro rs hl hv
   cases rs with
   | nil=>simp at hl
   | cons val rs=>exact⟨hv 0 v val rfl rfl,ih rs (by simpa using hl) fun i v val h1 h2=>hv (i+1) v val (by simpa using h1) (by simpa using h2)⟩
 have hk:=key vs rs hlen hv
 match vs,rs,hlen,hs,hv,hk with
 | [],[],_,_,_,hk=>exact⟨#[],rfl,hk⟩
 | [v],[val],_,hs,hv,_=>exact Bnh (hs v (by simp)) (hv 0 v val rfl rfl)
 | v::v'::vs,val::val'::rs,_,_,_,hk=>exact⟨(val::val'::rs).toArray,rfl,hk⟩
theorem Chs(h:Hi K S used γ a w)(hB:∀ b,K.B b→b<K.base){f:FuncId}{s:Ce}(hC:A6 K.P f s (K.C f s))(hins:∀ m∈s.ins,m.insOK=true)(hpre:Bb1 s=true)
  {args:List AV} {vals:List Value} (hlen:vals.length=args.length) (hv:∀ (i:Nat) (v:AV) (val:Value),args[i]?=some v→vals[i]?=some val→E7 (Bi K S.objs used γ w) v val)
  {base:Id} {l0 l:List Id} {v:AV} {u:Rc} (hl:Ba K.C S.objs (Bw1 f s args) l0 (v,u) l) :
  Cf0 K.P f vals w fun val w'=>∃ used' γ',E7 (Bi K (Fg u S.objs) used' γ' w') v val∧Hi K { S with objs:=Fg u S.objs } used' γ' a w'∧Bck used used' base:=by
 unfold Bw1 at hl
 split at hl
 case h_2=>exact hl.elim
 rename_i id ver
 obtain⟨x,c,l1,new,hl,hc,_,hperm,hback,hmr⟩:=Aka h s.ins [.own id ver] (Ab8.start S false) hl
 have hmr:=hmr vals hlen hv
 obtain⟨y,hy,hl⟩:=hl
 obtain⟨e,_⟩:=hl
 have e:(AV.view id ver 0 (Bw3 s.outs y.1) false,c.ups)=(v,u):=e
 cases e
 have hperm:(Dn c.ups).Perm new:=by simpa [Dn] using hperm
 have hbase:K.base≤w.heap.size:=h.frame.size
 have hnn:new.Nodup:=hperm.nodup_iff.1 hc.nodup
 have hbs:=Aj5 h hnn
 have hmb:∀ g,g∈Hh S γ new↔g∈Hh S γ (Dn c.ups):=fun g=>by
  rw[Gn,Gn]
  exact⟨fun⟨i,h1,h2⟩=>⟨i,hperm.mem_iff.2 h1,h2⟩,fun⟨i,h1,h2⟩=>⟨i,hperm.mem_iff.1 h1,h2⟩⟩
 have hok:∀ b,okL K S γ c false b→Bo2 w (fun _=>False) (Hh S γ new) false b:=by
  intro b hb
  refine⟨fun hm=>?_,fun h=>h,fun h=>by cases h⟩
  obtain⟨i,hi,hi2⟩:=Gn.1 hm
  exact hc.apart i (Td.1 (hperm.mem_iff.2 hi)) (hb.1 i hi2)
 refine (hC w (fun _=>False) vals x (Hh S γ new) y hy (fun _ h=>h.elim) hbs (fun _ _ h=>h) (hmr.ins hok hins)).mono fun val w' hg=>?_
 obtain⟨rs,b1,b2,rfl,g1,g2,g3,g4,g5,g6⟩:=hg
 obtain⟨v0,r,rfl,rfl,a0,m,c0,ad,n,cc,rfl,rfl,p1,p2,p3,p4,p5⟩:=g6 hpre
 obtain⟨used',γ',r1,r2,r3,r4⟩:=h.after hB hc (w':=w') (M:=[]) (ok:=fun _ _=>False) g5.size (fun b hb hm=>g5.block b hb fun hx=>hm ((hmb b).1 hx)) ⟨g5.os,g5.tape,g5.output⟩
  (fun p hp=>by cases hp) (fun p hp=>by cases hp) List.nodup_nil List.nodup_nil (fun g hg=>by cases hg) (fun f b h=>h.elim) (fun K' E hp p hpm=>by cases hpm)
 have r1:Hi K { S with objs:=Fg c.ups S.objs } used' γ' a w':=r1
 refine⟨used',γ',?_,r1,fun id v hv=>?_⟩
 ·obtain⟨hu,v1,e1,_,hv1⟩:=(hv 0 _ _ rfl rfl:G7 _ (.own id ver) (.slice a0 m c0)).1
  have e1:v1=.slice a0 m c0:=by
   have:[Value.slice a0 m c0]=[v1]:=e1
   cases this;rfl
  subst e1
  obtain⟨u1,u2⟩:=r4 id ver hu
  have hn:Bw3 s.outs y.1=n:=by
   revert hpre g1
   obtain⟨y1,y2⟩:=y
   clear hy g2
   obtain⟨ins,outs⟩:=s
   intro hpre g1
   unfold Bb1 at hpre
   dsimp only at hpre g1 y1 ⊢
   split at hpre
   ·obtain⟨v',r',b1',b2',e1,e2,⟨_,a1,cap1,e3,_⟩,_⟩:=g1
    cases e1
    have e3:[Value.slice ad n cc]=[.slice a1 (List.length y1.1) cap1]:=e3
    cases e3
    rfl
   ·cases hpre
  show G7 _ (.view id ver 0 (Bw3 s.outs y.1) false) (.slice ad n cc)
  rw[hn]
  refine⟨⟨u1,_,rfl,rfl,fun t k hs=>?_⟩,rfl⟩
  have hs:Agt (An (Fg c.ups S.objs) id) ver t k:=hs
  have hs':=Cc7 (hc.left id) hs
  have hγ:Value.slice a0 m c0=γ id:=hv1 t k hs'
  have hk:m≤k:=by
   obtain⟨fr,rows,rfl,ho⟩:=hs'
   rcases ho with ho|ho
   ·rcases h.objs id _ ho with⟨h1,h2⟩ | ⟨g,cap,cur,e',h1,_⟩
    ·have h1:γ id=_:=h1
     rw[← hγ] at h1;cases h1;exact Nat.zero_le _
    ·have h1:γ id=_:=h1
     rw[← hγ] at h1;cases h1;exact Nat.le_refl _
   ·obtain⟨⟨a1,cap1,e3,_⟩,_⟩:=h.objs id _ ho
    have e3:[γ id]=_:=e3
    rw[← hγ] at e3;cases e3;exact Nat.le_refl _
  refine⟨Nat.zero_le _,Nat.le_trans p1 hk,ad,cc,rfl,p2,p3,p4,fun hlt=>?_,fun h=>by cases h⟩
  obtain⟨g,rfl,rfl⟩:=p5 hlt
  refine⟨g,m,c0,?_,by rw[Nat.zero_mul]⟩
  show γ' id=_
  rw[u2,← hγ]
 ·rcases r3 id v hv with hv | ⟨p,hp,_⟩
  ·exact .inl ⟨v,hv⟩
  ·cases hp
theorem Cgy(h:Hi K S used γ a w)(hB:∀ b,K.B b→b<K.base){f:FuncId}{s:Ce}(hC:A6 K.P f s (K.C f s))(hins:∀ m∈s.ins,m.insOK=true)
  {args:List AV} {vals:List Value} (hlen:vals.length=args.length) (hv:∀ (i:Nat) (v:AV) (val:Value),args[i]?=some v→vals[i]?=some val→E7 (Bi K S.objs used γ w) v val)
  {base:Id} (hu:∀ id:Id,id.1=base.1→id.2.1=base.2.1→∀ v,¬ used id v) {l0 l:List Id} {v:AV} {u:Rc} (hl:Ba K.C S.objs (Cek f s args base) l0 (v,u) l) :
  Cf0 K.P f vals w fun val w'=>∃ used' γ',E7 (Bi K (Fg u S.objs) used' γ' w') v val∧Hi K { S with objs:=Fg u S.objs } used' γ' a w'∧Bck used used' base:=by
 cases hpre:Bb1 s with
 | true =>
  unfold Cek at hl
  rw[hpre] at hl
  exact Chs h hB hC hins hpre hlen hv hl
 | false =>
 unfold Cek at hl
 rw[hpre] at hl
 have hl:Ba K.C S.objs (Any s.alias s.ins args ⟨[],[]⟩ fun x c=>.call f s x fun y=>Bgk s.ins args y.2 base c.ups fun n u=>Bbu s.outs y.1 n u fun vs _ u'=>.done (Cc9 vs,u')) l0 (v,u) l:=hl
 obtain⟨x,c,l1,new,hl,hc,_,hperm,hback,hmr⟩:=Aka h s.ins args (Ab8.start S s.alias) hl
 have hmr:=hmr vals hlen hv
 obtain⟨y,hy,hl⟩:=hl
 have hperm:(Dn c.ups).Perm new:=by simpa [Dn] using hperm
 have hbase:K.base≤w.heap.size:=h.frame.size
 have hnn:new.Nodup:=hperm.nodup_iff.1 hc.nodup
 have hbs:=Aj5 h hnn
 have hmb:∀ g,g∈Hh S γ new↔g∈Hh S γ (Dn c.ups):=fun g=>by
  rw[Gn,Gn]
  exact⟨fun⟨i,h1,h2⟩=>⟨i,hperm.mem_iff.2 h1,h2⟩,fun⟨i,h1,h2⟩=>⟨i,hperm.mem_iff.1 h1,h2⟩⟩
 let B:Nat→Prop:=fun b=>s.alias=true∧(K.B b∨∃ id,Bg (An (Fg c.ups S.objs) id) (γ id)=some b)
 have hnb:∀ g∈Hh S γ new,¬ B g:=by
  rintro g hg ⟨_,hb⟩
  obtain⟨i,hi,hi2⟩:=Gn.1 hg
  rcases hb with hb | ⟨j,hj⟩
  ·exact (h.mod i g hi2).2 hb
  ·obtain⟨j1,j2,_⟩:=Z5 (hc.left j) hj
   rw[h.sep i j g hi2 j1] at hi
   exact j2 (hperm.mem_iff.2 hi)
 have hBs:∀ b,B b→b<w.heap.size:=by
  rintro b ⟨_,hb | ⟨j,hj⟩⟩
  ·exact Nat.lt_of_lt_of_le (hB b hb) hbase
  ·exact Aak h (Z5 (hc.left j) hj).1
 have hok:∀ b,okL K S γ c false b→Bo2 w B (Hh S γ new) false b:=by
  intro b hb
  refine⟨fun hm=>?_,fun⟨ha,hbb⟩=>?_,fun h=>by cases h⟩
  ·obtain⟨i,hi,hi2⟩:=Gn.1 hm
   exact hc.apart i (Td.1 (hperm.mem_iff.2 hi)) (hb.1 i hi2)
  ·rcases hbb with hbb | ⟨j,hj⟩
   ·exact hb.2.1 hbb
   ·have hle:=hb.1 j (Z5 (hc.left j) hj).1
    rw[ha] at hc
    rw[Baj hc hle] at hj
    cases hj
 refine (hC w B vals x (Hh S γ new) y hy hBs hbs hnb (hmr.ins hok hins)).mono fun val w' hg=>?_
 obtain⟨rs,b1,b2,rfl,g1,g2,g3,g4,g5,_⟩:=hg
 let okF:Bool→Nat→Prop:=fun f b=>b ∉ b1++b2∧¬ K.B b∧(f=true→K.base≤b)∧∀ id,Bg (An (Fg c.ups S.objs) id) (γ id)≠some b
 have hF:MRL w' okF K.base s.outs rs y.1 b1∧MRL w' okF K.base (Bgo s.ins) (Awt s.ins vals) y.2 b2:=by
  cases ha:s.alias with
  | true =>
   have hm:∀ f b,Bo2 w B (b1++b2) f b→okF f b:=fun f b ⟨k1,k2,k3⟩ =>
    ⟨k1,fun hb=>k2 ⟨ha,.inl hb⟩,fun hf=>Nat.le_trans hbase (k3 hf),fun id hid=>k2 ⟨ha,.inr ⟨id,hid⟩⟩⟩
   exact⟨(g1.mono hm).low hbase,(g2.mono hm).low hbase⟩
  | false =>
   obtain⟨a1,a2⟩:=Bx3 ha
   have hm:∀ f b,Bo2 w B (b1++b2) true b→okF f b:=fun f b ⟨k1,k2,k3⟩=>by
    have k3:=k3 rfl
    exact⟨k1,fun hb=>by have:=hB b hb;omega,fun hf=>Nat.le_trans hbase k3,fun id hid=>by have:=Aak h (Z5 (hc.left id) hid).1;omega⟩
   exact⟨((g1.noalias a1).mono hm).low hbase,((g2.noalias a2).mono hm).low hbase⟩
 rw[List.nodup_append] at g3
 obtain⟨n1,M1,a1,a2,a3,a4⟩:=Bw5 h s.ins args hlen hv hback hF.2 g3.2.1 hu hl
 obtain⟨vs,n2,M2,d1,d2,d3,d4,d5,d6⟩:=Bn6 s.outs hF.1 a1
 obtain⟨e1,_⟩:=d1
 have e1:(Cc9 vs,I6.ups M2++(I6.ups M1++c.ups))=(v,u):=e1
 cases e1
 have hblk:(I6.blk (M2++M1)).Perm (b1++b2):=by rw[I6.blk_app];exact List.Perm.append d3 a3
 have hnd:(b1++b2).Nodup:=List.nodup_append.2 g3
 have hspan:=a2.app (Aly.of (S:=S) (used:=used) (γ:=γ) (mv:=new) d2) hu (by
  rw[(List.perm_append_comm.trans (I6.blk_app M2 M1▸hblk)).nodup_iff];exact hnd)
 have hob:Fg (I6.ups M2++(I6.ups M1++c.ups)) S.objs=Fg (I6.ups (M2++M1)) (Fg c.ups S.objs):=by
  simp only[Amb,I6.ups_app,List.append_assoc]
 obtain⟨used',γ',r1,r2,r3,_⟩:=h.after hB hc (w':=w') (M:=M2++M1) (ok:=okF) g5.size (fun b hb hm=>g5.block b hb fun hx=>hm ((hmb b).1 hx)) ⟨g5.os,g5.tape,g5.output⟩
  (fun p hp=>by
   rcases hspan.ids p hp with⟨h1,h2,_⟩ | ⟨h1,h2,h3,h4,_⟩
   ·exact .inl (hu p.1 h1 h2)
   ·exact .inr ⟨h1,h2,hperm.mem_iff.2 h3,h4⟩)
  hspan.fresh hspan.nodup (hblk.nodup_iff.2 hnd)
  (fun g hg=>by
   rcases g4 g (hblk.mem_iff.1 hg) with h1|h1
   ·exact .inr h1
   ·exact .inl ((hmb g).1 h1))
  (fun f b ⟨k1,k2,k3,k4⟩=>⟨fun hm=>k1 (hblk.mem_iff.1 hm),k2,k3,k4⟩)
  (fun K' E hp p hpm=>by
   rcases List.mem_append.1 hpm with hpm|hpm
   ·exact (d6 K' E (hp.sub fun p h=>List.mem_append_left _ h)).2 p hpm
   ·exact a4 K' E (hp.sub fun p h=>List.mem_append_right _ h) p hpm)
 rw[hob]
 refine⟨used',γ',Ckh d4 d5 (d6 K _ (r2.sub fun p h=>List.mem_append_left _ h)).1,r1,fun id v hv=>?_⟩
 rcases r3 id v hv with hv | ⟨p,hp,rfl⟩
 ·exact .inl ⟨v,hv⟩
 ·rcases hspan.ids p hp with⟨h1,h2,_⟩ | ⟨_,h2,_⟩
  ·exact .inr ⟨h1,h2⟩
  ·exact .inl ⟨0,h2⟩
end
end Go.Pon
namespace Go.Pon
open Go
def Gl(l:List Value)(o:Nat)(ds:List Value):List Value:=l.take o++ds++l.drop (o+ds.length)
theorem Aub{a b c ds:List Value}{off:Nat}(h:off+ds.length≤b.length):Gl (a++b++c) (a.length+off) ds=a++Gl b off ds++c:=by
 unfold Gl
 rw[List.append_assoc a b c,List.take_append,List.drop_append,List.take_of_length_le (by omega),List.drop_eq_nil_of_le (as:=a) (by omega)]
 rw[show a.length+off-a.length=off by omega,show a.length+off+ds.length-a.length=off+ds.length by omega,List.take_append_of_le_length (by omega),List.drop_append_of_le_length h]
 simp[List.append_assoc]
theorem Au8{l ds:List Value}{o:Nat}(h:o+ds.length≤l.length):(Gl l o ds).length=l.length:=by simp[Gl];omega
theorem Abm:∀ (t:Ty) (p:List Nat) (u:Ty),K9 t p=some u→inT t p→By t p+u.size≤t.size
 | t,[],u,ht,_=>by
  have e:u=t:=by cases t<;>simpa [K9] using ht.symm
  subst e
  rw[(Oj u).2.2];omega
 | .pair a b,0::p,u,ht,hi=>by
  have:=Abm a p u ht hi
  simp only[By,Ty.size];omega
 | .pair a b,(n+1)::p,u,ht,hi=>by
  have:=Abm b (n::p) u ht hi
  simp only[By,Ty.size];omega
 | .arr m t,i::p,u,ht,⟨hi,hp⟩=>by
  have:=Abm t p u ht hp
  simp only[By,Ty.size]
  have:i*t.size+t.size≤m*t.size:=by
   rw[← Nat.succ_mul];exact Nat.mul_le_mul_right _ hi
  omega
theorem Bhz{E:Vv}(fr:Bool):∀ (t:Ty) (x:t.den) (p:List Nat) (u:Ty) (v c':AV) (cs ds:List Value),K9 t p=some u→inT t p→DR E.w (E.ok fr) t cs x→Bh u v=true→ARc E v ds →
  Bq4 fr t x p v=some c'→Bh t c'=true∧ARc E c' (Gl cs (By t p) ds)
 | t,x,[],u,v,c',cs,ds,ht,_,h,hv,hd,hs=>by
  have e:u=t:=by cases t<;>simpa [K9] using ht.symm
  subst e
  have e:c'=v:=by cases u<;>simpa [Bq4] using hs.symm
  subst e
  refine⟨hv,?_⟩
  have l1:=DR.len h
  have l2:=Kh hv hd
  rw[(Oj u).2.2,Gl,List.drop_eq_nil_of_le (by omega)]
  simpa using hd
 | .pair ta tb,x,i::p,u,v,c',cs,ds,ht,hi,h,hv,hd,hs=>by
  obtain⟨h2,h3⟩:=h
  have l1:=DR.len h2
  have l2:=DR.len h3
  have l3:=Kh hv hd
  have h1:cs=cs.take ta.size++cs.drop ta.size:=(List.take_append_drop _ _).symm
  cases i with
  | zero =>
   have hs:(Bq4 fr ta x.1 p v).map (fun a'=>AV.pair a' (.d fr tb x.2))=some c':=hs
   cases hx:Bq4 fr ta x.1 p v with
   | none=>rw[hx] at hs;cases hs
   | some x' =>
    rw[hx] at hs;cases hs
    obtain⟨k1,k2⟩:=Bhz fr ta x.1 p u v x' _ ds ht hi h2 hv hd hx
    refine⟨by simp[Bh,k1,Ty.beq_iff],Gl (cs.take ta.size) (By ta p) ds,cs.drop ta.size,?_,k2,h3⟩
    have hle:By ta p+ds.length≤(cs.take ta.size).length:=by
     have:=Abm ta p u ht hi
     omega
    have:=Aub (a:=[]) (b:=cs.take ta.size) (c:=cs.drop ta.size) (ds:=ds) (off:=By ta p) hle
    rw[List.nil_append,← h1] at this
    simpa [By] using this
  | succ n =>
   have hs:(Bq4 fr tb x.2 (n::p) v).map (fun a'=>AV.pair (.d fr ta x.1) a')=some c':=hs
   cases hx:Bq4 fr tb x.2 (n::p) v with
   | none=>rw[hx] at hs;cases hs
   | some y' =>
    rw[hx] at hs;cases hs
    obtain⟨k1,k2⟩:=Bhz fr tb x.2 (n::p) u v y' _ ds ht hi h3 hv hd hx
    refine⟨by simp[Bh,k1,Ty.beq_iff],cs.take ta.size,Gl (cs.drop ta.size) (By tb (n::p)) ds,?_,h2,k2⟩
    have hle:By tb (n::p)+ds.length≤(cs.drop ta.size).length:=by
     have:=Abm tb (n::p) u ht hi
     omega
    have:=Aub (a:=cs.take ta.size) (b:=cs.drop ta.size) (c:=[]) (ds:=ds) (off:=By tb (n::p)) hle
    rw[List.append_nil,← h1,l1] at this
    simpa [By] using this
 | .unit,_,_::_,_,_,_,_,_,ht,_,_,_,_,_=>by cases ht
 | .int _,_,_::_,_,_,_,_,_,ht,_,_,_,_,_=>by cases ht
 | .bool,_,_::_,_,_,_,_,_,ht,_,_,_,_,_=>by cases ht
 | .str,_,_::_,_,_,_,_,_,ht,_,_,_,_,_=>by cases ht
 | .slice _,_,_::_,_,_,_,_,_,ht,_,_,_,_,_=>by cases ht
 | .ptr,_,_::_,_,_,_,_,_,ht,_,_,_,_,_=>by cases ht
 | .arr _ _,_,_::_,_,_,_,_,_,_,_,_,_,_,hs=>by cases hs
theorem Bat{E:Vv}(hm:∀ f g b,(g=true→f=true)→E.ok f b→E.ok g b):∀ (c:AV) (t:Ty) (p:List Nat) (u:Ty) (v c':AV) (cs ds:List Value),Bh t c=true→K9 t p=some u→inT t p→ARc E c cs→Bh u v=true→ARc E v ds →
  Bot c p v=some c'→Bh t c'=true∧ARc E c' (Gl cs (By t p) ds)
 | c,t,[],u,v,c',cs,ds,hf,ht,_,h,hv,hd,hs=>by
  have e:u=t:=by cases t<;>simpa [K9] using ht.symm
  subst e
  have e:c'=v:=by cases c<;>simpa [Bot] using hs.symm
  subst e
  refine⟨hv,?_⟩
  have l1:=Kh hf h
  have l2:=Kh hv hd
  rw[(Oj u).2.2,Gl,List.drop_eq_nil_of_le (by omega)]
  simpa using hd
 | .pair x y,t,i::p,u,v,c',cs,ds,hf,ht,hi,⟨c1,c2,h1,h2,h3⟩,hv,hd,hs=>by
  cases t<;>simp only[Bh,Bool.and_eq_true,Bool.false_eq_true] at hf
  rename_i ta tb
  have l1:=Kh hf.1 h2
  have l2:=Kh hf.2 h3
  have l3:=Kh hv hd
  cases i with
  | zero =>
   have hs:(Bot x p v).map (fun a'=>AV.pair a' y)=some c':=hs
   cases hx:Bot x p v with
   | none=>rw[hx] at hs;cases hs
   | some x' =>
    rw[hx] at hs;cases hs
    obtain⟨k1,k2⟩:=Bat hm x ta p u v x' c1 ds hf.1 ht hi h2 hv hd hx
    refine⟨by simp[Bh,k1,hf.2],Gl c1 (By ta p) ds,c2,?_,k2,h3⟩
    have hle:By ta p+ds.length≤c1.length:=by
     have:=Abm ta p u ht hi
     omega
    rw[h1]
    have:=Aub (a:=[]) (b:=c1) (c:=c2) (ds:=ds) (off:=By ta p) hle
    simpa [By] using this
  | succ n =>
   have hs:(Bot y (n::p) v).map (fun a'=>AV.pair x a')=some c':=hs
   cases hx:Bot y (n::p) v with
   | none=>rw[hx] at hs;cases hs
   | some y' =>
    rw[hx] at hs;cases hs
    obtain⟨k1,k2⟩:=Bat hm y tb (n::p) u v y' c2 ds hf.2 ht hi h3 hv hd hx
    refine⟨by simp[Bh,k1,hf.1],c1,Gl c2 (By tb (n::p)) ds,?_,h2,k2⟩
    have hle:By tb (n::p)+ds.length≤c2.length:=by
     have:=Abm tb (n::p) u ht hi
     omega
    rw[h1]
    have:=Aub (a:=c1) (b:=c2) (c:=[]) (ds:=ds) (off:=By tb (n::p)) hle
    simpa [By,l1] using this
 | .d fr s x,t,i::p,u,v,c',cs,ds,hf,ht,hi,h,hv,hd,hs=>by
  have e:=Ty.beq_iff.1 (show Ty.beq s t=true by simpa [Bh] using hf)
  subst e
  by_cases hnd:∃ fr' u' y,v=.d fr' u' y
  case neg =>
   have hs:Bq4 fr s x (i::p) v=some c':=by
    cases v<;>first|exact hs|exact absurd ⟨_,_,_,rfl⟩ hnd
   exact Bhz fr s x (i::p) u v c' cs ds ht hi h hv hd hs
  obtain⟨fr',u',y,rfl⟩:=hnd
  simp only[Bot] at hs
  have e:=Ty.beq_iff.1 (show Ty.beq u' u=true by simpa [Bh] using hv)
  subst e
  cases hz:Bmj s x (i::p) u' y with
  | none=>rw[hz] at hs;cases hs
  | some z =>
   rw[hz] at hs;cases hs
   have l3:=DR.len (show DR E.w _ u' ds y from hd)
   obtain⟨k1,k2⟩:=Anc s x (i::p) u' y z cs ds hz hi (DR.mono (ok':=E.ok (fr&&fr')) (fun b=>hm fr _ b (by simp;intro h _;exact h)) h) (DR.mono (fun b=>hm fr' _ b (by simp)) hd)
   exact⟨by simp[Bh,Ty.beq_iff],by unfold Gl;rw[l3];exact k2⟩
 | .any,_,_::_,_,_,_,_,_,hf,_,_,_,_,_,hs=>by cases hs
 | .un,_,_::_,_,_,_,_,_,hf,_,_,_,_,_,hs=>by cases hs
 | .nilp,_,_::_,_,_,_,_,_,hf,_,_,_,_,_,hs=>by cases hs
 | .nils,_,_::_,_,_,_,_,_,hf,_,_,_,_,_,hs=>by cases hs
 | .own _ _,_,_::_,_,_,_,_,_,hf,_,_,_,_,_,hs=>by cases hs
 | .view _ _ _ _ _,_,_::_,_,_,_,_,_,hf,_,_,_,_,_,hs=>by cases hs
 | .mapp _,_,_::_,_,_,_,_,_,hf,_,_,_,_,_,hs=>by cases hs
 | .mview _ _ _ _,_,_::_,_,_,_,_,_,hf,_,_,_,_,_,hs=>by cases hs
 | .ptr _ _,_,_::_,_,_,_,_,_,hf,_,_,_,_,_,hs=>by cases hs
 | .eptr _ _ _ _,_,_::_,_,_,_,_,_,hf,_,_,_,_,_,hs=>by cases hs
 | .rptr _ _ _,_,_::_,_,_,_,_,_,hf,_,_,_,_,_,hs=>by cases hs
 | .fn _ _,_,_::_,_,_,_,_,_,hf,_,_,_,_,_,hs=>by cases hs
 | .tup _,_,_::_,_,_,_,_,_,hf,_,_,_,_,_,hs=>by cases hs
section
variable {K:Dq} {S:St} {used:Id→Nat→Prop} {γ:Id→Value} {a:Act} {w:World}
inductive Ch7:Obj→Obj→Prop
 | sli (ver:Nat) (fr fr':Bool) (t:Ty) (r r':List t.den) (h:r'.length=r.length):Ch7 (.sli ver fr t r) (.sli ver fr' t r')
 | mem (fr fr':Bool) (t:Ty) (c c':AV):Ch7 (.mem fr t c) (.mem fr' t c')
theorem Hi.setRow(h:Hi K S used γ a w){id:Id}{o o':Obj}(ho:An S.objs id=some o)(hal:Ch7 o o'){g:Nat}(hg:Bg (some o) (γ id)=some g){cs:Array Value}
  (hor:∀ E',Wy (Bi K S.objs used γ w) E'→E'=Bi K ((id,some o')::S.objs) used γ (w.setRow g cs)→OR K E' id o') :
  Hi K { S with objs:=(id,some o')::S.objs } used γ a (w.setRow g cs)∧Wy (Bi K S.objs used γ w) (Bi K ((id,some o')::S.objs) used γ (w.setRow g cs)):=by
 have hlook:∀ j,An ((id,some o')::S.objs) j=if id=j then some o' else An S.objs j:=fun j=>L6 ..
 have hlv:∀ j b,Bg (An ((id,some o')::S.objs) j) (γ j)=some b→Bg (An S.objs j) (γ j)=some b:=by
  intro j b hb
  rw[hlook] at hb
  by_cases e:id=j
  ·subst e
   rw[if_pos rfl] at hb
   rw[ho]
   generalize γ id=q at hb ⊢
   cases hal<;>cases q<;>first|exact hb | (rename_i p _ _;cases p<;>exact hb) | (rename_i p;cases p<;>exact hb)
  ·rwa [if_neg e] at hb
 have hgl:Bg (An S.objs id) (γ id)=some g:=by rw[ho];exact hg
 have hs:Wy (Bi K S.objs used γ w) (Bi K ((id,some o')::S.objs) used γ (w.setRow g cs)):=by
  refine⟨by simp[Bi],fun fr b hb hok=>⟨⟨fun j hj=>hok.1 j (hlv j b hj),hok.2⟩,setRow_other w g b cs fun e=>hok.1 id (e▸hgl)⟩,fun _ _ h=>h,fun j v hj t n hsl=>⟨?_,rfl⟩,fun j hj t hmm=>⟨?_,rfl⟩,fun j hj kk t hmm=>⟨?_,rfl⟩⟩
  ·have hsl:Agt (An ((id,some o')::S.objs) j) v t n:=hsl
   rw[hlook] at hsl
   by_cases e:id=j
   ·subst e
    rw[if_pos rfl] at hsl
    obtain⟨fr,rows,h1,h2⟩:=hsl
    show Agt (An S.objs id) v t n
    rw[ho]
    cases hal with
    | sli ver f f' t' r r' hl =>
     rcases h2 with h2|h2
     ·cases h2;exact⟨f,r,by omega,.inl rfl⟩
     ·cases h2
    | mem=>rcases h2 with h2|h2<;>cases h2
   ·rwa [if_neg e] at hsl
  ·have hmm:Au6 (An ((id,some o')::S.objs) j) t:=hmm
   rw[hlook] at hmm
   by_cases e:id=j
   ·subst e
    rw[if_pos rfl] at hmm
    obtain⟨fr,c,h2⟩:=hmm
    show Au6 (An S.objs id) t
    rw[ho]
    cases hal with
    | sli=>rcases h2 with h2|h2<;>cases h2
    | mem f f' t' c c' =>
     rcases h2 with h2|h2
     ·cases h2;exact⟨f,c,.inl rfl⟩
     ·cases h2
   ·rwa [if_neg e] at hmm
  ·have hmm:Br9 (An ((id,some o')::S.objs) j) kk t:=hmm
   rw[hlook] at hmm
   by_cases e:id=j
   ·subst e
    rw[if_pos rfl] at hmm
    obtain⟨c,h2⟩:=hmm
    cases hal<;>cases h2
   ·rwa [if_neg e] at hmm
 refine⟨h.move hs (fun j oj hj=>?_) (fun j oj hj=>?_) (fun j ver fr t rows v hj hu=>?_) (fun i j b hi hj=>h.sep i j b (hlv i b hi) (hlv j b hj)) (fun i b hi=>h.mod i b (hlv i b hi)) (h.frame.setRow g cs (h.mod id g hgl).1),hs⟩
 ·rw[hlook] at hj
  by_cases e:id=j
  ·rw[if_pos e] at hj;cases hj;subst e
   exact hor _ hs rfl
  ·rw[if_neg e] at hj
   refine OR.step hs rfl (fun b hb=>setRow_other w g b cs fun eb=>e ?_) (h.objs j oj hj)
   subst eb
   exact h.sep id j b hgl (by rw[hj];exact hb)
 ·rw[hlook] at hj
  by_cases e:id=j
  ·subst e;exact h.ou id o ho
  ·rw[if_neg e] at hj;exact h.ou j oj hj
 ·rw[hlook] at hj
  by_cases e:id=j
  ·subst e
   rw[if_pos rfl] at hj;cases hj
   cases hal with
   | sli ver f f' t' r r' hl=>exact h.vers id ver f t r v ho hu
  ·rw[if_neg e] at hj;exact h.vers j ver fr t rows v hj hu
theorem Bsk{P:Program}{t:Ty}{T:TypeId}(hT:T1 P t T=true){E:Vv}{x:AV}{val:Value}(hf:Bh t x=true)(hv:E7 E x val){g o:Nat}{cur:Array Value}{e:TypeId}
  (hg:w.heap[g]?=some (.cells cur e (0,0))) (hle:o+t.size≤cur.size) :
  (Instr.storeAt T (.pointer (some ⟨g,o,none⟩)) val).run P w=.ok () (w.setRow g (Gl cur.toList o val.cells.toList).toArray):=by
 obtain⟨h1,h2⟩:=Ahu hf hv
 have hl:=Kh hf h1
 have hone:=Ay0 hf h1
 have hsz:val.cells.size=t.size:=by rw[← hl];simp
 have:=run_storeCells_at (P:=P) g o e val.cells.toList 0 cur w hg (by simp;omega) hone
 simp only[Instr.storeAt,Instr.sureAddr,Sem.run_bind,Sem.run_pure,Result.andThen_ok,storeVar,Lu (P:=P) (T:=T) w hT,hsz,ne_eq,not_true_eq_false,if_false]
 rw[this]
 simp[Gl]
theorem Ada(K:Dq)(objs:Rc)(used:Id→Nat→Prop)(γ:Id→Value)(w:World):∀ f g b,(g=true→f=true)→(Bi K objs used γ w).ok f b→(Bi K objs used γ w).ok g b :=
 fun f g b hfg ⟨h1,h2,h3⟩=>⟨h1,h2,fun hg=>h3 (hfg hg)⟩
variable {o:Oper} {v:AV} {u:Rc} {base:Id} {l l0:List Id}
theorem Cbg(h:Hi K S used γ a w){t:Ty}{T:TypeId}{x y:Operand}(ho:o.op=.store T x y)(hx:A0 x=true)(hy:A0 y=true)(hT:T1 K.P t T=true)
  (hl:Ba K.C S.objs (Ccv (S.eval x) (S.eval y) t) l0 (v,u) l):Pt K S used γ a w o v u base:=by
 have vx:=Bo h x hx
 have vy:=Bo h y hy
 revert hl vx vy
 generalize S.eval x=ax
 generalize S.eval y=ay
 intro hl vx vy
 unfold Ccv at hl
 split at hl
 ·rename_i id path
  obtain⟨ob,hob,hl⟩:=hl
  dsimp only at hl
  split at hl
  ·rename_i fm tm c
   split at hl
   ·rename_i wt c' h1 h2
    cases hb:(Ty.beq wt t&&Bh t ay) with
    | false=>rw[hb] at hl;exact hl.elim
    | true =>
     rw[hb] at hl
     simp only[Bool.and_eq_true] at hb
     obtain⟨hb1,hb2⟩:=hb
     obtain rfl:=Ty.beq_iff.1 hb1
     obtain⟨e1,rfl⟩:=hl
     cases e1
     obtain⟨_,hp⟩:=Aij vx
     obtain⟨g,u',p1,p2,p3,p4⟩:=hp tm (Ai7 _ fm tm c (.inl hob))
     have p1:γ id=.pointer (some ⟨g,0,none⟩):=p1
     obtain⟨g',e,cur,o1,o2,o3,o4,o5⟩:=h.objs id _ hob
     have o1:γ id=_:=o1
     rw[p1] at o1;cases o1
     have hlive:Bg (some (.mem fm tm c)) (γ id)=some g:=by rw[p1];rfl
     obtain⟨f1,f2⟩:=Ahu hb2 vy
     have hle:By tm path+wt.size≤cur.size:=by
      have:=Abm tm path wt h1 p3
      have l2:=Kh o3 o4
      simp only[Array.length_toList] at l2
      omega
     have hst:=Bsk (w:=w) hT hb2 vy o2 hle
     obtain⟨r1,r2⟩:=h.setRow (o':=.mem fm tm c') hob (.mem fm fm tm c c') hlive (cs:=(Gl cur.toList (By tm path) (a.eval y).cells.toList).toArray) fun E' hE he=>by
      have hmo:∀ f g b,(g=true→f=true)→E'.ok f b→E'.ok g b:=by rw[he];exact Ada K _ used γ _
      obtain⟨s1,s2⟩:=Bat hmo c tm path wt ay c' cur.toList _ o3 h1 p3 (o4.step hE) hb2 (f1.step hE) h2
      refine⟨g,e,_,by rw[he];exact p1,by rw[he];exact setRow_heap w g cur _ e (0,0) o2,s1,by simpa using s2,o5⟩
     refine⟨.skip,undef,_,used,γ,?_,.inr ⟨rfl,rfl⟩,trivial,r1,Bck.refl _ _⟩
     simp only[execOp,ho,Sem.run_bind]
     rw[p4,hst]
     rfl
   ·exact hl.elim
  ·exact hl.elim
 ·rename_i id ver i path
  obtain⟨ob,hob,hl⟩:=hl
  dsimp only at hl
  split at hl
  ·rename_i ver' fr ut rows
   split at hl
   ·rename_i fr' u' y' hver
    split at hl
    ·rename_i z hz
     cases hb:Ty.beq u' t with
     | false=>rw[hb] at hl;exact hl.elim
     | true =>
      rw[hb] at hl
      obtain rfl:=Ty.beq_iff.1 hb
      obtain rfl:=Nat.eq_of_beq_eq_true hver
      obtain⟨e1,rfl⟩:=hl
      cases e1
      obtain⟨_,hp⟩:=Be7 vx
      obtain⟨p0,g,m,cp',u2,p1,p2,p3,p4⟩:=hp ut _ (Ft _ ver' fr ut rows (.inl hob))
      have p1:γ id=.slice (some ⟨g,0,none⟩) m cp':=p1
      rcases h.objs id _ hob with⟨o1,o2⟩ | ⟨g',cap,cur,e,o1,o2,o3,o4,o5,o6,o7⟩
      ·subst o2;simp at p0
      have o1:γ id=_:=o1
      rw[p1] at o1;cases o1
      have hlive:Bg (some (.sli ver' fr ut rows)) (γ id)=some g:=by rw[p1];rfl
      have hfit:Bh u' (.d fr' u' y')=true:=by simp[Bh,Ty.beq_iff]
      obtain⟨f1,f2⟩:=Ahu hfit vy
      have f1:DR w (Ah9 K (An S.objs) γ fr') u' (a.eval y).cells.toList y':=f1
      have f3:=DR.len f1
      have hrow:=o6.get i p0
      rw[Avm p0] at hz
      obtain⟨ht,_⟩:=Anc ut rows[i] path u' y' z _ _ hz p3 (DR.mono (ok':=Ah9 K (An S.objs) γ false) (fun b ⟨h1,h2,_⟩=>⟨h1,h2,fun h=>by cases h⟩) hrow) (DR.mono (fun b ⟨h1,h2,_⟩=>⟨h1,h2,fun h=>by cases h⟩) f1)
      have hpl:=Abm ut path u' ht p3
      have hin:i*ut.size+ut.size≤rows.length*ut.size:=by rw[← Nat.succ_mul];exact Nat.mul_le_mul_right _ p0
      have hcap:rows.length*ut.size≤cur.size:=by rw[o5];exact Nat.mul_le_mul_right _ o3
      have hst:=Bsk (w:=w) hT hfit vy o2 (o:=i*ut.size+By ut path) (by omega)
      have hdec:cur.toList=(cur.toList.take (rows.length*ut.size)).take (i*ut.size)++((cur.toList.take (rows.length*ut.size)).drop (i*ut.size)).take ut.size ++
        ((cur.toList.take (rows.length*ut.size)).drop (i*ut.size+ut.size)++cur.toList.drop (rows.length*ut.size)):=by
       rw[← List.append_assoc,← List.drop_drop]
       conv=>rhs;lhs;rw[List.append_assoc,List.take_append_drop,List.take_append_drop]
       rw[List.take_append_drop]
      have hsp:=Aub (a:=(cur.toList.take (rows.length*ut.size)).take (i*ut.size)) (b:=((cur.toList.take (rows.length*ut.size)).drop (i*ut.size)).take ut.size)
       (c:=(cur.toList.take (rows.length*ut.size)).drop (i*ut.size+ut.size)++cur.toList.drop (rows.length*ut.size)) (ds:=(a.eval y).cells.toList) (off:=By ut path)
       (by simp only[List.length_take,List.length_drop,Array.length_toList] at *;omega)
      rw[← hdec,show ((cur.toList.take (rows.length*ut.size)).take (i*ut.size)).length=i*ut.size by simp only[List.length_take,Array.length_toList];omega,← List.append_assoc] at hsp
      obtain⟨r1,r2⟩:=h.setRow (o':=.sli ver' (fr&&(fr'||u'.flat)) ut (rows.set i z)) hob (.sli ver' _ _ ut _ _ (by simp)) hlive (cs:=(Gl cur.toList (i*ut.size+By ut path) (a.eval y).cells.toList).toArray) fun E' hE he=>by
       have hmo:∀ f g b,(g=true→f=true)→E'.ok f b→E'.ok g b:=by rw[he];exact Ada K _ used γ _
       have hf1:(fr&&(fr'||u'.flat))=true→fr=true:=by simp;intro h _;exact h
       have old:B5 (DR E'.w (E'.ok (fr&&(fr'||u'.flat))) ut) ut.size (cur.toList.take (rows.length*ut.size)) rows :=
        o6.mono fun _ _ hd=>DR.mono (fun b=>hmo _ _ b hf1) (DR.move (fun b hb hbo=>hE.ok fr b hb hbo) hd)
       have new:DR E'.w (E'.ok (fr&&(fr'||u'.flat))) u' (a.eval y).cells.toList y':=by
        cases hfl:u'.flat with
        | true=>exact DR.flat hfl f1
        | false=>exact DR.mono (fun b=>hmo fr' _ b (by simp)) (DR.move (fun b hb hbo=>hE.ok fr' b hb hbo) f1)
       obtain⟨_,hz2⟩:=Anc ut rows[i] path u' y' z _ _ hz p3 (old.get i p0) new
       have hset:=old.set i p0 (Gl (((cur.toList.take (rows.length*ut.size)).drop (i*ut.size)).take ut.size) (By ut path) (a.eval y).cells.toList) z
        (by rw[Au8]<;>simp only[List.length_take,List.length_drop,Array.length_toList] at *<;>omega) (by unfold Gl;rw[f3];exact hz2)
       refine .inr ⟨g,cp',_,e,by rw[he,List.length_set];exact p1,by rw[he];exact setRow_heap w g cur _ e (0,0) o2,by simpa using o3,o4,?_,?_,fun hf=>o7 (hf1 hf)⟩
       ·have:=Au8 (l:=cur.toList) (ds:=(a.eval y).cells.toList) (o:=i*ut.size+By ut path) (by simp only[Array.length_toList] at *;omega)
        simp only[List.size_toArray,this,Array.length_toList]
        exact o5
       ·rw[List.length_set,List.toList_toArray,hsp,List.take_append_of_le_length,List.take_of_length_le]
        ·exact hset
        ·simp only[List.length_append,List.length_take,List.length_drop,Array.length_toList,Gl] at *;omega
        ·simp only[List.length_append,List.length_take,List.length_drop,Array.length_toList,Gl] at *;omega
      refine⟨.skip,undef,_,used,γ,?_,.inr ⟨rfl,rfl⟩,trivial,r1,Bck.refl _ _⟩
      simp only[execOp,ho,Sem.run_bind]
      rw[p4,hst]
      rfl
    ·exact hl.elim
   ·exact hl.elim
  ·exact hl.elim
 ·exact hl.elim
end
end Go.Pon
namespace Go.Pon
open Go
theorem Btc(off:Nat):∀ (l:List Value) (k:Nat) (cells:Array Value),off+k+l.length≤cells.size →
  ((l.zipIdx k).foldl (fun cs p=>cs.setIfInBounds (off+p.2) p.1) cells).toList=Gl cells.toList (off+k) l
 | [],k,cells,h=>by simp[Gl]
 | v::l,k,cells,h=>by
  simp only[List.length_cons] at h
  simp only[List.zipIdx_cons,List.foldl_cons]
  rw[Btc off l (k+1) _ (by simp;omega)]
  unfold Gl
  have e:(cells.setIfInBounds (off+k) v).toList=cells.toList.take (off+k)++v::cells.toList.drop (off+k+1):=by
   rw[Array.toList_setIfInBounds,List.set_eq_take_append_cons_drop,if_pos (by simp;omega)]
  have hl:(cells.toList.take (off+k)).length=off+k:=by simp;omega
  rw[e,List.take_append,List.drop_append,List.take_of_length_le (by omega),List.drop_eq_nil_of_le (as:=cells.toList.take (off+k)) (by omega),hl,
   show off+(k+1)-(off+k)=1 by omega,show off+(k+1)+l.length-(off+k)=l.length+1 by omega]
  simp only[List.take_succ_cons,List.take_zero,List.drop_succ_cons,List.drop_drop,List.length_cons,List.nil_append,List.append_assoc,List.cons_append]
  rw[show off+k+1+l.length=off+k+(l.length+1) by omega]
theorem Byb(off:Nat)(vs cells:Array Value)(h:off+vs.size≤cells.size) :
  (vs.zipIdx.foldl (fun cs (c,j)=>cs.setIfInBounds (off+j) c) cells).toList=Gl cells.toList off vs.toList:=by
 have:=Btc off vs.toList 0 cells (by simpa using h)
 rw[Nat.add_zero] at this
 rw[← this,← Array.foldl_toList,Array.toList_zipIdx]
def Cn3(t:Ty)(place:Nat→Option (Nat×Nat)):Prop:=∀ i u,K9 t [i]=some u→place i=some (By t [i],u.size)
theorem Bl7:∀ {t u:Ty} {i:Nat},K9 t [i]=some u→Btt t i=true→inT t [i]
 | .arr m t,_,i,_,h=>⟨by simpa [Btt] using h,(Oj t).2.1⟩
 | .pair p q,_,0,_,_=>(Oj p).2.1
 | .pair p q,u,n+1,h,hr=>Bl7 (t:=q) (i:=n) h hr
 | .unit,_,_,h,_=>by cases h
 | .int _,_,_,h,_=>by cases h
 | .bool,_,_,h,_=>by cases h
 | .str,_,_,h,_=>by cases h
 | .slice _,_,_,h,_=>by cases h
 | .ptr,_,_,h,_=>by cases h
section
variable {K:Dq} {S:St} {used:Id→Nat→Prop} {γ:Id→Value} {a:Act} {w:World}
theorem Bav(h:Hi K S used γ a w){t:Ty}{place:Nat→Option (Nat×Nat)}(hp:Cn3 t place):∀ (ps:List (Nat×Operand)) (acc acc':AV) (cells:Array Value),(∀ p∈ps,A0 p.2=true) →
  Ax9 t (ps.map fun p=>(p.1,S.eval p.2))=true→Bh t acc=true→ARc (Bi K S.objs used γ w) acc cells.toList →
  Ayk (ps.map fun p=>(p.1,S.eval p.2)) acc=some acc' →
  ∃ cells',Instr.fill place cells (ps.map fun p=>(p.1,a.eval p.2))=some cells'∧Bh t acc'=true∧ARc (Bi K S.objs used γ w) acc' cells'.toList
 | [],acc,acc',cells,_,_,hf,hr,hb=>by
  cases hb
  exact⟨cells,rfl,hf,hr⟩
 | (i,x)::ps,acc,acc',cells,hc,hpf,hf,hr,hb=>by
  simp only[List.map_cons,Ax9,Bool.and_eq_true] at hpf
  obtain⟨⟨h1,h2⟩,h3⟩:=hpf
  split at h1
  ·rename_i u hu
   simp only[List.map_cons,Ayk] at hb
   split at hb
   ·rename_i acc1 ha
    have hv:=Bo h x (hc _ (List.mem_cons_self ..))
    obtain⟨f1,f2⟩:=Ahu h1 hv
    have hi:=Bl7 hu h2
    obtain⟨s1,s2⟩:=Bat (Ada K S.objs used γ w) acc t [i] u _ acc1 cells.toList _ hf hu hi hr h1 f1 ha
    have hpl:=Abm t [i] u hu hi
    have l1:=Kh hf hr
    have l2:=Kh h1 f1
    simp only[Array.length_toList] at l1 l2
    have hfa:=Byb (By t [i]) (a.eval x).cells cells (by omega)
    obtain⟨cells',g1,g2,g3⟩:=Bav h hp ps acc1 acc' ((a.eval x).cells.zipIdx.foldl (fun cs (c,j)=>cs.setIfInBounds (By t [i]+j) c) cells)
     (fun p hm=>hc p (List.mem_cons_of_mem _ hm)) h3 s1 (by rw[hfa];exact s2) hb
    refine⟨cells',?_,g2,g3⟩
    simp only[List.map_cons,Instr.fill,hp i u hu]
    rw[if_neg (by simp;omega)]
    exact g1
   ·cases hb
  ·cases h1
theorem Bjh{E:Vv}(fr:Bool):∀ (t:Ty) (x:t.den) (cs:List Value),DR E.w (E.ok fr) t cs x→Bh t (Ah3.splitD fr t x)=true∧ARc E (Ah3.splitD fr t x) cs
 | .pair p q,x,cs,h=>by
  obtain⟨h1,h2⟩:=h
  obtain⟨k1,k2⟩:=Bjh fr q x.2 _ h2
  exact⟨by simp[Ah3.splitD,Bh,Ty.beq_iff,k1],cs.take p.size,cs.drop p.size,(List.take_append_drop _ _).symm,h1,k2⟩
 | .unit,_,_,h=>⟨rfl,h⟩
 | .int k,_,_,h=>⟨by simp[Ah3.splitD,Bh,Ty.beq_iff],h⟩
 | .bool,_,_,h=>⟨rfl,h⟩
 | .str,_,_,h=>⟨rfl,h⟩
 | .arr _ _,_,_,h=>⟨by simp[Ah3.splitD,Bh,Ty.beq_iff],h⟩
 | .slice _,_,_,h=>⟨by simp[Ah3.splitD,Bh,Ty.beq_iff],h⟩
 | .ptr,_,_,h=>⟨rfl,h⟩
theorem Bjo{E:Vv}:∀ (t:Ty) (v:AV) (cs:List Value),Bh t v=true→ARc E v cs→Bh t (Ah3 v)=true∧ARc E (Ah3 v) cs
 | .pair p q,.pair v1 v2,cs,hf,⟨c1,c2,h1,h2,h3⟩=>by
  simp only[Bh,Bool.and_eq_true] at hf
  obtain⟨k1,k2⟩:=Bjo q v2 c2 hf.2 h3
  exact⟨by simp[Ah3,Bh,hf.1,k1],c1,c2,h1,h2,k2⟩
 | t,.d fr (.pair p q) x,cs,hf,⟨h1,h2⟩=>by
  have e:=Ty.beq_iff.1 (show Ty.beq (.pair p q) t=true by simpa [Bh] using hf)
  subst e
  obtain⟨k1,k2⟩:=Bjh (E:=E) fr q x.2 _ h2
  exact⟨by simp[Ah3,Bh,Ty.beq_iff,k1],cs.take p.size,cs.drop p.size,(List.take_append_drop _ _).symm,h1,k2⟩
 | t,.d fr .unit x,cs,hf,h=>⟨hf,h⟩
 | t,.d fr (.int _) x,cs,hf,h=>⟨hf,h⟩
 | t,.d fr .bool x,cs,hf,h=>⟨hf,h⟩
 | t,.d fr .str x,cs,hf,h=>⟨hf,h⟩
 | t,.d fr (.arr _ _) x,cs,hf,h=>⟨hf,h⟩
 | t,.d fr (.slice _) x,cs,hf,h=>⟨hf,h⟩
 | t,.d fr .ptr x,cs,hf,h=>⟨hf,h⟩
 | .unit,.pair v1 v2,cs,hf,_=>by simp[Bh] at hf
 | .int _,.pair v1 v2,cs,hf,_=>by simp[Bh] at hf
 | .bool,.pair v1 v2,cs,hf,_=>by simp[Bh] at hf
 | .str,.pair v1 v2,cs,hf,_=>by simp[Bh] at hf
 | .arr _ _,.pair v1 v2,cs,hf,_=>by simp[Bh] at hf
 | .slice _,.pair v1 v2,cs,hf,_=>by simp[Bh] at hf
 | .ptr,.pair v1 v2,cs,hf,_=>by simp[Bh] at hf
 | t,.mapp _,cs,hf,h=>⟨hf,h⟩
 | t,.any,cs,hf,h=>⟨hf,h⟩
 | t,.un,cs,hf,h=>⟨hf,h⟩
 | t,.ub _ _,cs,hf,h=>⟨hf,h⟩
 | t,.nilp,cs,hf,h=>⟨hf,h⟩
 | t,.nils,cs,hf,h=>⟨hf,h⟩
 | t,.own _ _,cs,hf,h=>⟨hf,h⟩
 | t,.view _ _ _ _ _,cs,hf,h=>⟨hf,h⟩
 | t,.mview _ _ _ _,cs,hf,h=>⟨hf,h⟩
 | t,.ptr _ _,cs,hf,h=>⟨hf,h⟩
 | t,.eptr _ _ _ _,cs,hf,h=>⟨hf,h⟩
 | t,.rptr _ _ _,cs,hf,h=>⟨hf,h⟩
 | t,.tup _,cs,hf,h=>⟨hf,h⟩
 | t,.fn _ _,cs,hf,h=>⟨hf,h⟩
theorem Bgj{α β:Type}(f:α→β):∀ l:List α,Tu f l=l.map f
 | []=>rfl
 | a::l=>by simp[Tu,Bgj f l]
theorem Ary{P:Program}:∀ (t:Ty) (off:Nat) (fs:List Field),Ef P t off fs=true→t.agg=true→(∀ n u,t≠.arr n u) →
  ∃ places,fs.mapM (fun f=>(P.info? f.type).map fun i=>(f.offset,i.size))=some places∧∀ i u,K9 t [i]=some u→places[i]?=some (off+By t [i],u.size)
 | .unit,off,fs,h,_,_=>by
  rw[Ae2 h]
  exact⟨[],rfl,fun i u hu=>by cases hu⟩
 | .pair p q,off,fs,h,_,_=>by
  obtain⟨f,r,rfl,h1,h2,h3,_,h4⟩:=Z0 h
  obtain⟨inf,z,i1,i2,_⟩:=Kz (Tn h2)
  have hq:q.agg=true∧∀ n u,q≠.arr n u:=by
   cases q<;>first | (simp[Ef,tyC] at h4;done)|exact⟨rfl,fun _ _ h=>by cases h⟩
  obtain⟨places,k1,k2⟩:=Ary q (off+p.size) r h4 hq.1 hq.2
  refine⟨(off,p.size)::places,by simp[List.mapM_cons,i1,i2,k1,h1],fun i u hu=>?_⟩
  cases i with
  | zero =>
   have:u=p:=by
    have hu:K9 p []=some u:=hu
    rw[(Oj p).1] at hu;exact (Option.some.inj hu).symm
   subst this
   simp[By,(Oj u).2.2]
  | succ n =>
   have:=k2 n u hu
   simp only[List.getElem?_cons_succ,this,By]
   rw[Nat.add_assoc]
 | .arr n t,_,_,_,_,h=>absurd rfl (h n t)
variable {o:Oper} {base:Id}
theorem Bsw(h:Hi K S used γ a w){T:TypeId}{ps:Array (Nat×Operand)}{t:Ty}{acc:AV}(ho:o.op=.build T ps)(hc:∀ p∈ps.toList,A0 p.2=true)(hT:T1 K.P t T=true)
  (hb:Bvb t (Tu (fun p=>(p.1,S.eval p.2)) ps.toList)=some acc):Pt K S used γ a w o acc [] base:=by
 rw[Bgj] at hb
 unfold Bvb at hb
 cases hag:t.agg with
 | false=>rw[hag] at hb;cases hb
 | true =>
 rw[hag,Bool.true_and] at hb
 cases hpf:Ax9 t (ps.toList.map fun p=>(p.1,S.eval p.2)) with
 | false=>rw[hpf] at hb;cases hb
 | true =>
  rw[hpf] at hb
  obtain⟨inf,z,i1,i2,_,i3,i4,i5⟩:=Kz (Tn hT)
  have hst:∃ acc0,Bh t acc0=true∧ARc (Bi K S.objs used γ w) acc0 z.cells.toList∧Ayk (ps.toList.map fun p=>(p.1,S.eval p.2)) acc0=some acc:=by
   rw[i4]
   have hb:(bif t.bare&&To (fun p=>isD p.2) (ps.toList.map fun p=>(p.1,S.eval p.2)) then Ayk (ps.toList.map fun p=>(p.1,S.eval p.2)) (.d true t t.zero) else Ayk (ps.toList.map fun p=>(p.1,S.eval p.2)) (Ah3 (Axt t)))=some acc:=hb
   cases hq:(t.bare&&To (fun p=>isD p.2) (ps.toList.map fun p=>(p.1,S.eval p.2))) with
   | true=>rw[hq] at hb;exact⟨.d true t t.zero,by simp[Bh,Ty.beq_iff],DR.zero t,hb⟩
   | false =>
    rw[hq] at hb
    obtain⟨f1,f2⟩:=Awi (Bi K S.objs used γ w) t
    obtain⟨g1,g2⟩:=Bjo t _ _ f1 f2
    exact⟨_,g1,g2,hb⟩
  obtain⟨acc0,f1,f2,hb2⟩:=hst
  have hrun:∀ cells,K.P.built T (ps.map fun (i,x)=>(i,a.eval x)).toList=some cells→Bh t acc=true→t.agg=true→ARc (Bi K S.objs used γ w) acc cells.toList→Pt K S used γ a w o acc [] base:=by
   intro cells hcl hf hag hr
   refine Pt.pure h (val:=.agg cells) ?_ (Am8 hf (by simpa [Value.cells] using hr) (by rw[hag];rfl))
   simp only[execOp,ho,Sem.run_bind,run_build w T _ cells hcl,Result.andThen_ok,Sem.run_pure]
  have hl:(ps.map fun (i,x)=>(i,a.eval x)).toList=ps.toList.map fun p=>(p.1,a.eval p.2):=by simp
  cases t with
  | arr n t =>
   obtain⟨e,u1,u2⟩:=Aez hT
   obtain⟨ie,ze,j1,j2,_⟩:=Kz (Tn u2)
   obtain⟨cells,g1,g2,g3⟩:=Bav h (t:=.arr n t) (place:=fun i=>some (i*ie.size,ie.size)) (fun i u hu=>by
    have hu:K9 t []=some u:=hu
    rw[(Oj t).1] at hu;cases hu
    simp[By,(Oj t).2.2,j2]) ps.toList acc0 acc z.cells hc hpf f1 f2 hb2
   exact hrun cells (by rw[hl];simp only[Program.built,i1,u1,i3,j1];exact g1) g2 rfl g3
  | unit =>
   obtain⟨fs,u1,u2,_⟩:=Atz hT
   obtain⟨places,p1,p2⟩:=Ary .unit 0 fs.toList u2 rfl (fun _ _ h=>by cases h)
   obtain⟨cells,g1,g2,g3⟩:=Bav h (t:=.unit) (place:=(places.toArray[·]?)) (fun i u hu=>by simpa using p2 i u hu) ps.toList acc0 acc z.cells hc hpf f1 f2 hb2
   exact hrun cells (by rw[hl];simp only[Program.built,i1,u1,i3,p1];exact g1) g2 rfl g3
  | pair p q =>
   obtain⟨fs,u1,u2,_⟩:=An7 hT
   obtain⟨places,p1,p2⟩:=Ary (.pair p q) 0 fs.toList u2 rfl (fun _ _ h=>by cases h)
   obtain⟨cells,g1,g2,g3⟩:=Bav h (t:=.pair p q) (place:=(places.toArray[·]?)) (fun i u hu=>by simpa using p2 i u hu) ps.toList acc0 acc z.cells hc hpf f1 f2 hb2
   exact hrun cells (by rw[hl];simp only[Program.built,i1,u1,i3,p1];exact g1) g2 rfl g3
  | _=>cases hag
end
end Go.Pon
namespace Go.Pon
open Go
theorem Cba{P:Program}(w:World)(t ty e e':TypeId)(i:TypeInfo)(ht:P.underlying t=some (.slice e))(hi:P.info? e=some i)
  (g sLen sCap:Nat) (cur:Array Value) (hg:w.heap[g]?=some (.cells cur e' (0,0)))
  (a:Addr) (m c:Nat) (news:List Value) (hl:news.length=m*i.size) (hnews:∀ j u,news[j]?=some u→w.cell? (a.add j)=some u) (h1:∀ u∈news,u.oneCell'=true)
  (hroom:sLen+m≤sCap) (hfit:sLen*i.size+news.length≤cur.size) :
  (Builtin.append_ #[t,t] ty #[.slice (some ⟨g,0,none⟩) sLen sCap,.slice (some a) m c]).run P w =
   .ok (.slice (some ⟨g,0,none⟩) (sLen+m) sCap) (w.setRow g (Gl cur.toList (sLen*i.size) news).toArray):=by
 have hf:=run_firstCells_some (P:=P) w i.size m a m c news hl hnews
 have hst:=run_storeCells_at P g (sLen*i.size) e' news 0 cur w hg (by simpa using hfit) h1
 simp only[Nat.add_zero] at hst
 simp[Builtin.append_,run_underlying ht,sizeOf,typeInfo,hi,Builtin.lenOf,hroom,hf,Addr.add_lit,hst,Gl]
inductive Aqn(w:World)(size:Nat)(e:TypeId)(s:Value)(n m:Nat)(olds news:List Value):Value→World→Prop
 | none (h:s=.slice none 0 0) (hn:n=0) (hm:m=0):Aqn w size e s n m olds news (.slice none 0 0) w
 | room (g cap:Nat) (cur:Array Value) (e':TypeId) (hg:w.heap[g]?=some (.cells cur e' (0,0))) (hs:s=.slice (some ⟨g,0,none⟩) n cap) (hr:n+m≤cap) (hf:n*size+news.length≤cur.size) :
   Aqn w size e s n m olds news (.slice (some ⟨g,0,none⟩) (n+m) cap) (w.setRow g (Gl cur.toList (n*size) news).toArray)
 | fresh (cap:Nat) (cells:Array Value) (h1:n+m≤cap) (h2:cap≤maxLen) (h3:cells.size=cap*size) (h4:cells.toList.take ((n+m)*size)=olds++news) :
   Aqn w size e s n m olds news (.slice (some ⟨w.heap.size,0,none⟩) (n+m) cap) (w.drew.alloc (.cells cells e))
theorem Bo1{P:Program}(w:World)(t ty e e':TypeId)(i:TypeInfo)(z:Value)(ht:P.underlying t=some (.slice e))(hi:P.info? e=some i)(hz:i.zero=some z)(hzs:z.cells.size=i.size)
  (s:Value) (n:Nat) (olds:List Value) (hs:(s=.slice none 0 0∧n=0∧olds=[])∨∃ g cap cur,s=.slice (some ⟨g,0,none⟩) n cap∧w.heap[g]?=some (.cells cur e' (0,0))∧n≤cap∧cap≤maxLen∧cur.size=cap*i.size ∧
   cur.toList.take (n*i.size)=olds)
  (x:Option Addr) (m c:Nat) (news:List Value) (hl:news.length=m*i.size) (hx:x=none→m=0) (hnews:∀ a,x=some a→∀ j u,news[j]?=some u→w.cell? (a.add j)=some u) (h1:∀ u∈news,u.oneCell'=true)
  (h63:n+m≤maxLen) (hbytes:(n+m)*i.bytes≤140737488355328) :
  ∃ v' w',(Builtin.append_ #[t,t] ty #[s,.slice x m c]).run P w=.ok v' w'∧Aqn w i.size e s n m olds news v' w':=by
 have hsmall:n+m≤9223372036854775807:=by simp only[maxLen] at h63;omega
 have grown:∀ (old:Nat),old<n+m→olds.length=n*i.size →
   Aqn w i.size e s n m olds news (.slice (some ⟨w.heap.size,0,none⟩) (n+m) (grownCap w (n+m) old e)) (w.drew.alloc (.cells (olds.toArray++news.toArray++Builtin.zeroCells z.cells (grownCap w (n+m) old e-(n+m))) e)):=by
  intro old ho hol
  have hge:=grownCap_ge w (n+m) old e
  have hlen:(olds++news).length=(n+m)*i.size:=by rw[List.length_append,hol,hl,Nat.add_mul]
  refine .fresh _ _ hge (grownCap_le_maxLen w (n+m) old e h63) ?_ ?_
  ·simp only[Array.size_append,List.size_toArray,size_zeroCells,hzs,hol,hl,← Nat.add_mul]
   congr 1
   omega
  ·simp only[Array.toList_append,List.append_assoc]
   rw[← List.append_assoc,← hlen]
   exact List.take_left
 cases x with
 | none =>
  have hm:=hx rfl
  subst hm
  have hn:news=[]:=List.eq_nil_of_length_eq_zero (by simpa using hl)
  subst hn
  rcases hs with⟨rfl,rfl,rfl⟩ | ⟨g,cap,cur,rfl,hg,hnc,hcm,hcs,htake⟩
  ·refine⟨_,_,?_,.none rfl rfl rfl⟩
   simp[Builtin.append_,run_underlying ht,sizeOf,typeInfo,hi,Builtin.lenOf,Builtin.firstCells]
  ·have hfit:n*i.size≤cur.size:=by rw[hcs];exact Nat.mul_le_mul_right _ hnc
   refine⟨_,_,?_,.room g cap cur e' hg rfl (by simpa using hnc) (by simpa using hfit)⟩
   have hst:=run_storeCells_at P g (n*i.size) e' [] 0 cur w hg (by simpa using hfit) (by simp)
   simp only[Nat.add_zero] at hst
   simp[Builtin.append_,run_underlying ht,sizeOf,typeInfo,hi,Builtin.lenOf,hnc,run_firstCells_none,Addr.add_lit,hst,Gl]
 | some a =>
  have hnews:=hnews a rfl
  rcases hs with⟨rfl,rfl,rfl⟩ | ⟨g,cap,cur,rfl,hg,hnc,hcm,hcs,htake⟩
  ·by_cases hm:m=0
   ·subst hm
    have hn:news=[]:=List.eq_nil_of_length_eq_zero (by simpa using hl)
    subst hn
    refine⟨_,_,?_,.none rfl rfl rfl⟩
    simp[Builtin.append_,run_underlying ht,sizeOf,typeInfo,hi,Builtin.lenOf,Builtin.firstCells,loadCells,loadCellsFrom]
   ·have hr:=run_append_nil (P:=P) w t ty e i z ht hi hz a m c news hl hnews (by omega) (by omega) (by have hb:=hbytes;simp only[Nat.zero_add] at hb;omega)
    have hgr:=grown 0 (by omega) (by simp)
    simp only[Nat.zero_add,Array.empty_append] at hgr
    exact⟨_,_,hr,by simpa using hgr⟩
  ·by_cases hroom:n+m≤cap
   ·have hfit:n*i.size+news.length≤cur.size:=by rw[hl,hcs,← Nat.add_mul];exact Nat.mul_le_mul_right _ hroom
    exact⟨_,_,Cba w t ty e e' i ht hi g n cap cur hg a m c news hl hnews h1 hroom hfit,.room g cap cur e' hg rfl hroom hfit⟩
   ·have hol:olds.length=n*i.size:=by
     rw[← htake,List.length_take,Array.length_toList,hcs]
     exact Nat.min_eq_left (Nat.mul_le_mul_right _ hnc)
    have holds:∀ j u,olds[j]?=some u→w.cell? ((⟨g,0,none⟩:Addr).add j)=some u:=fun j u hj=>by
     have:=Abx hg 0 (n*i.size) j u (by rw[List.drop_zero,htake];exact hj)
     exact this
    have hr:=run_append_grow (P:=P) w t ty e i z ht hi hz ⟨g,0,none⟩ n cap olds hol holds a m c news hl hnews (by omega) (by omega) (growslice_fits (by omega) hbytes)
    exact⟨_,_,hr,grown cap (by omega) hol⟩
theorem Bby{P:Program}(w:World)(t ty e:TypeId)(i:TypeInfo)(z:Value)(ht:P.underlying t=some (.slice e))(hi:P.info? e=some i)(hz:i.zero=some z)(hzs:z.cells.size=i.size)
  (ad:Option Addr) (n:Nat) (olds:List Value) (hol:olds.length=n*i.size) (hn:ad=none→n=0) (holds:∀ a,ad=some a→∀ j u,olds[j]?=some u→w.cell? (a.add j)=some u)
  (x:Option Addr) (m c:Nat) (news:List Value) (hl:news.length=m*i.size) (hx:x=none→m=0) (hnews:∀ a,x=some a→∀ j u,news[j]?=some u→w.cell? (a.add j)=some u)
  (h63:n+m≤maxLen) (hbytes:(n+m)*i.bytes≤140737488355328) :
  ∃ v' w',(Builtin.append_ #[t,t] ty #[.slice ad n n,.slice x m c]).run P w=.ok v' w'∧((m=0∧v'=.slice ad n n∧w'=w) ∨
   (0<m∧∃ cap cells,n+m≤cap∧cap≤maxLen∧cells.size=cap*i.size∧cells.toList.take ((n+m)*i.size)=olds++news∧v'=.slice (some ⟨w.heap.size,0,none⟩) (n+m) cap∧w'=w.drew.alloc (.cells cells e))):=by
 have hsmall:n+m≤9223372036854775807:=by simp only[maxLen] at h63;omega
 have grown:∀ (old:Nat),old<n+m→0<m →
   (0<m∧∃ cap cells,n+m≤cap∧cap≤maxLen∧cells.size=cap*i.size∧cells.toList.take ((n+m)*i.size)=olds++news ∧
    Value.slice (some ⟨w.heap.size,0,none⟩) (n+m) (grownCap w (n+m) old e)=.slice (some ⟨w.heap.size,0,none⟩) (n+m) cap ∧
    w.drew.alloc (.cells (olds.toArray++news.toArray++Builtin.zeroCells z.cells (grownCap w (n+m) old e-(n+m))) e)=w.drew.alloc (.cells cells e)):=by
  intro old ho hm
  have hge:=grownCap_ge w (n+m) old e
  have hlen:(olds++news).length=(n+m)*i.size:=by rw[List.length_append,hol,hl,Nat.add_mul]
  refine⟨hm,_,_,hge,grownCap_le_maxLen w (n+m) old e h63,?_,?_,rfl,rfl⟩
  ·simp only[Array.size_append,List.size_toArray,size_zeroCells,hzs,hol,hl,← Nat.add_mul]
   congr 1
   omega
  ·simp only[Array.toList_append,List.append_assoc]
   rw[← List.append_assoc,← hlen]
   exact List.take_left
 by_cases hm:m=0
 ·subst hm
  refine⟨_,w,?_,.inl ⟨rfl,rfl,rfl⟩⟩
  cases ad<;>cases x<;>simp[Builtin.append_,run_underlying ht,sizeOf,typeInfo,hi,Builtin.lenOf,Builtin.firstCells,loadCells,loadCellsFrom,storeCells]
 ·cases x with
  | none=>exact absurd (hx rfl) hm
  | some a =>
   have hnews:=hnews a rfl
   cases ad with
   | none =>
    have hn:=hn rfl
    subst hn
    have:olds=[]:=List.eq_nil_of_length_eq_zero (by simpa using hol)
    subst this
    have hr:=run_append_nil (P:=P) w t ty e i z ht hi hz a m c news hl hnews (by omega) (by omega) (by have hb:=hbytes;simp only[Nat.zero_add] at hb;omega)
    have hgr:=grown 0 (by omega) (by omega)
    simp only[Nat.zero_add,List.nil_append] at hgr ⊢
    exact⟨_,_,hr,.inr (by simpa using hgr)⟩
   | some b =>
    have hr:=run_append_grow (P:=P) w t ty e i z ht hi hz b n n olds hol (holds b rfl) a m c news hl hnews (by omega) (by omega) (growslice_fits (by omega) hbytes)
    exact⟨_,_,hr,.inr (grown n (by omega) (by omega))⟩
end Go.Pon
namespace Go.Pon
open Go
section
variable {K:Dq} {S:St} {used:Id→Nat→Prop} {γ:Id→Value} {a:Act} {w:World}
theorem Hi.renew(h:Hi K S used γ a w)(hB:∀ b,K.B b→b<K.base){id:Id}{ver:Nat}{fr fr':Bool}{t:Ty}{rows rows':List t.den}(ho:An S.objs id=some (.sli ver fr t rows)){hv:Value}{w':World}
  (hsize:w.heap.size≤w'.heap.size) (hkeep:∀ b,b<w.heap.size→Bg (some (.sli ver fr t rows)) (γ id)≠some b→w'.heap[b]?=w.heap[b]?)
  (hos:w'.os=w.os∧w'.tape=w.tape∧w'.output=w.output)
  (hlive:∀ g,Bg (some (.sli (ver+1) fr' t rows')) hv=some g→Bg (some (.sli ver fr t rows)) (γ id)=some g∨g=w.heap.size)
  (hor:∀ E',Wy (Bi K S.objs used γ w) E'→E'=Bi K ((id,some (.sli (ver+1) fr' t rows'))::S.objs) (Bpn used id (ver+1)) (upd γ id hv) w'→OR K E' id (.sli (ver+1) fr' t rows')) :
  Hi K { S with objs:=(id,some (.sli (ver+1) fr' t rows'))::S.objs } (Bpn used id (ver+1)) (upd γ id hv) a w':=by
 have hbase:K.base≤w.heap.size:=h.frame.size
 have hlook:∀ j,An ((id,some (Obj.sli (ver+1) fr' t rows'))::S.objs) j=if id=j then some (.sli (ver+1) fr' t rows') else An S.objs j:=fun j=>L6 ..
 have hlv:∀ j g,Bg (An ((id,some (Obj.sli (ver+1) fr' t rows'))::S.objs) j) (upd γ id hv j)=some g →
   Bg (An S.objs j) (γ j)=some g∨(j=id∧g=w.heap.size):=by
  intro j g hg
  rw[hlook] at hg
  unfold upd at hg
  by_cases e:id=j
  ·rw[if_pos e,if_pos e] at hg
   subst e
   rcases hlive g hg with h1|h1
   ·exact .inl (by rw[ho];exact h1)
   ·exact .inr ⟨rfl,h1⟩
  ·rw[if_neg e,if_neg e] at hg
   exact .inl hg
 have hs:Wy (Bi K S.objs used γ w) (Bi K ((id,some (.sli (ver+1) fr' t rows'))::S.objs) (Bpn used id (ver+1)) (upd γ id hv) w'):=by
  refine⟨hsize,fun f b hb hok=>⟨⟨fun j hj=>?_,hok.2⟩,hkeep b hb fun e=>hok.1 id (by rw[ho];exact e)⟩,fun j v hj=>.inl hj,fun j v hj t' n hsl=>?_,fun j hj t' hmm=>?_,fun j hj kk t' hmm=>?_⟩
  ·rcases hlv j b hj with e | ⟨_,e⟩
   ·exact hok.1 j e
   ·have:b<w.heap.size:=hb
    omega
  ·have hsl:Agt (An ((id,some (Obj.sli (ver+1) fr' t rows'))::S.objs) j) v t' n:=hsl
   rw[hlook] at hsl
   by_cases e:id=j
   ·subst e
    rw[if_pos rfl] at hsl
    obtain⟨_,_,_,h2⟩:=hsl
    have hle:=h.vers id ver fr t rows v ho hj
    rcases h2 with h2|h2
    ·cases h2;omega
    ·cases h2
   ·rw[if_neg e] at hsl
    exact⟨hsl,if_neg e⟩
  ·have hmm:Au6 (An ((id,some (Obj.sli (ver+1) fr' t rows'))::S.objs) j) t':=hmm
   rw[hlook] at hmm
   by_cases e:id=j
   ·rw[if_pos e] at hmm
    obtain⟨_,_,h2⟩:=hmm
    rcases h2 with h2|h2<;>cases h2
   ·rw[if_neg e] at hmm
    exact⟨hmm,if_neg e⟩
  ·have hmm:Br9 (An ((id,some (Obj.sli (ver+1) fr' t rows'))::S.objs) j) kk t':=hmm
   rw[hlook] at hmm
   by_cases e:id=j
   ·rw[if_pos e] at hmm
    obtain⟨_,h2⟩:=hmm
    cases h2
   ·rw[if_neg e] at hmm
    exact⟨hmm,if_neg e⟩
 refine h.move hs (fun j oj hj=>?_) (fun j oj hj=>?_) (fun j ver' f' t' rows2 v hj hu=>?_) (fun i j g hi hj=>?_) (fun i g hi=>?_) ?_
 ·rw[hlook] at hj
  by_cases e:id=j
  ·rw[if_pos e] at hj;cases hj;subst e
   exact hor _ hs rfl
  ·rw[if_neg e] at hj
   refine OR.step hs (if_neg e) (fun g hg=>hkeep g (Aak h (i:=j) (by rw[hj];exact hg)) fun eg=>e ?_) (h.objs j oj hj)
   exact h.sep id j g (by rw[ho];exact eg) (by rw[hj];exact hg)
 ·rw[hlook] at hj
  by_cases e:id=j
  ·exact⟨ver+1,.inr ⟨e.symm,rfl⟩⟩
  ·rw[if_neg e] at hj
   exact (h.ou j oj hj).imp fun v hv=>.inl hv
 ·rw[hlook] at hj
  by_cases e:id=j
  ·rw[if_pos e] at hj;cases hj
   subst e
   rcases hu with hu | ⟨_,hu⟩
   ·have:=h.vers id ver fr t rows v ho hu;omega
   ·omega
  ·rw[if_neg e] at hj
   rcases hu with hu | ⟨e',_⟩
   ·exact h.vers j ver' f' t' rows2 v hj hu
   ·exact absurd e'.symm e
 ·rcases hlv i g hi with e1 | ⟨e1,e2⟩<;>rcases hlv j g hj with f1 | ⟨f1,f2⟩
  ·exact h.sep i j g e1 f1
  ·have:=Aak h e1;omega
  ·have:=Aak h f1;omega
  ·rw[e1,f1]
 ·rcases hlv i g hi with e1 | ⟨e1,e2⟩
  ·exact h.mod i g e1
  ·exact⟨.inl (by omega),fun hb=>by have:=hB g hb;omega⟩
 ·refine⟨hos.1.trans h.frame.os,hos.2.1.trans h.frame.tape,hos.2.2.trans h.frame.output,Nat.le_trans h.frame.size hsize,fun b hb hbo=>?_⟩
  rw[hkeep b (Nat.lt_of_lt_of_le hb hbase) fun e=>?_]
  ·exact h.frame.block b hb hbo
  ·rcases (h.mod id b (by rw[ho];exact e)).1 with h1|h1
   ·have:K.base=K.w0.heap.size:=rfl
    omega
   ·exact hbo h1
end
end Go.Pon
namespace Go.Pon
open Go
section
variable {K:Dq} {S:St} {used:Id→Nat→Prop} {γ:Id→Value} {a:Act} {w:World} {o:Oper} {base:Id} {v:AV} {u:Rc} {l:List Id}
theorem Bsl{E:Vv}{fr:Bool}{t:Ty}{e:TypeId}{s v':Value}{olds news:List Value}{xs ys:List t.den}{w w':World}{b0:Nat}{e':TypeId}
  (hg:Aqn w t.size e s (List.length xs) (List.length ys) olds news v' w') (hE:E.w=w')
  (hs:(s=.slice none 0 0∧List.length xs=0∧olds=[])∨∃ g cap cur,s=.slice (some ⟨g,0,none⟩) (List.length xs) cap∧w.heap[g]?=some (.cells cur e' (0,0))∧List.length xs≤cap∧cap≤maxLen∧cur.size=cap*t.size ∧
   cur.toList.take (List.length xs*t.size)=olds∧(fr=true→b0≤g))
  (hx:B5 (DR E.w (E.ok fr) t) t.size olds xs) (hy:B5 (DR E.w (E.ok fr) t) t.size news ys) (hb:b0≤w.heap.size):Ccp E fr t (xs++ys) b0 v':=by
 have hxy:=hx.append hy
 have lx:=hx.length
 have ly:=hy.length
 cases hg with
 | none h hn hm=>exact .inl ⟨rfl,by rw[List.eq_nil_of_length_eq_zero hn,List.eq_nil_of_length_eq_zero hm];rfl⟩
 | room g cap cur e2 hgc hs' hr hf =>
  rcases hs with⟨h1,_⟩ | ⟨g2,cap2,cur2,h1,h2,h3,h4,h5,h6,h7⟩
  ·rw[hs'] at h1;cases h1
  ·rw[hs'] at h1;cases h1
   rw[hgc] at h2;cases h2
   refine .inr ⟨g,cap,_,_,by rw[List.length_append],by rw[hE];exact setRow_heap w g cur _ _ (0,0) hgc,by rw[List.length_append];exact hr,h4,?_,?_,h7⟩
   ·have:=Au8 (l:=cur.toList) (ds:=news) (o:=List.length xs*t.size) (by simpa using hf)
    simp only[List.size_toArray,this,Array.length_toList]
    exact h5
   ·rw[List.length_append,List.toList_toArray]
    have e4:(Gl cur.toList (List.length xs*t.size) news).take ((List.length xs+List.length ys)*t.size)=olds++news:=by
     unfold Gl
     rw[h6,List.take_append_of_le_length (by simp only[List.length_append];rw[lx,ly,Nat.add_mul];exact Nat.le_refl _),List.take_of_length_le (by simp only[List.length_append];rw[lx,ly,Nat.add_mul];exact Nat.le_refl _)]
    rw[e4]
    exact hxy
 | fresh cap cells h1 h2 h3 h4 =>
  refine .inr ⟨w.heap.size,cap,cells,e,by rw[List.length_append],by rw[hE];exact heap_alloc_new w.drew _,by rw[List.length_append];exact h1,h2,h3,?_,fun _=>hb⟩
  rw[List.length_append,h4]
  exact hxy
end
end Go.Pon
namespace Go.Pon
open Go
section
variable {K:Dq} {S:St} {used:Id→Nat→Prop} {γ:Id→Value} {a:Act} {w:World} {o:Oper} {base:Id} {v:AV} {u:Rc} {l:List Id}
theorem Ci1{E:Vv}{v:AV}{val:Value}(h:Bid v=true)(hv:E7 E v val):ARc E v [val]:=by
 have hs:Bfy v=true:=by cases v<;>simp_all [Bid,Bfy]
 have ha:Amy v=false:=by cases v<;>simp_all [Bid,Amy]
 obtain⟨h1,h2⟩:=Zh hs hv
 rw[ha] at h2
 rwa [Bq h2.symm] at h1
theorem Bte(h:Hi K S used γ a w):∀ xs:List Operand,(∀ x∈xs,A0 x=true)→To Bid (Tu S.eval xs)=true→ARc (Bi K S.objs used γ w) (Aya (Tu S.eval xs)) (xs.map a.eval)
 | [],_,_=>rfl
 | x::xs,hc,ho=>by
  simp only[Tu,To,Bool.and_eq_true] at ho
  exact⟨[a.eval x],xs.map a.eval,rfl,Ci1 ho.1 (Bo h x (hc x (List.mem_cons_self ..))),Bte h xs (fun y hy=>hc y (List.mem_cons_of_mem _ hy)) ho.2⟩
theorem Bup(h:Hi K S used γ a w){f:FuncId}{caps:Array Operand}(ho:o.op=.makeFunc (.func f) #[] caps)(hc:∀ x∈caps.toList,A0 x=true)(h1:To Bid (Tu S.eval caps.toList)=true) :
  Pt K S used γ a w o (.fn f (Aya (Tu S.eval caps.toList))) [] base:=by
 refine Pt.pure h (val:=.func (.func f) #[] (caps.map a.eval)) (by simp[execOp,ho,Instr.makeFunc]) (Dh (a:=.fn f _) ⟨caps.map a.eval,rfl,?_⟩ rfl rfl)
 rw[Array.toList_map]
 exact Bte h caps.toList hc h1
end
end Go.Pon
namespace Go.Pon
open Go
def SlR(w:World)(ok:Nat→Prop)(t:Ty)(cs:List Value)(x:List t.den):Prop :=
 ∃ ad cap rows,cs=[.slice ad (List.length x) cap]∧List.length x≤cap∧cap≤maxLen∧(ad=none→cap=0)∧B5 (DR w ok t) t.size rows x ∧
  ∀ a,ad=some a→∀ j v,rows[j]?=some v→w.cell? (a.add j)=some v
theorem SlR.of{w:World}{ok:Nat→Prop}{t:Ty}{cs:List Value}{x:List t.den}(h:DR w ok (.slice t) cs x):SlR w ok t cs x:=by
 obtain⟨ad,cap,e1,e2,e3,e4,rows,e5,e6⟩:=h
 refine⟨ad,cap,rows,e1,e2,e3,e4,e5,fun a ha j v hj=>?_⟩
 have hne:rows≠[]:=by rintro rfl;simp at hj
 obtain⟨a',k1,_,k3⟩:=e6 hne
 rw[ha] at k1;cases k1
 exact k3 j v hj
theorem SlR.empty{w:World}{ok:Nat→Prop}{t:Ty}{c n:Nat}{ad:Option Addr}{x:List t.den}(hx:x=[])(hn:n=0)(hc:c≤maxLen)(h0:ad=none→c=0):SlR w ok t [.slice ad n c] x:=by
 subst hx hn
 exact⟨ad,c,[],rfl,Nat.zero_le _,hc,h0,rfl,fun a _ j v hj=>by simp at hj⟩
theorem SlR.cut{w:World}{ok:Nat→Prop}{t:Ty}{g o lo hi c:Nat}{cs:List Value}{rows:List t.den}(hr:B5 (DR w ok t) t.size cs rows)
  (hc:∀ j y,cs[j]?=some y→w.cell? ⟨g,o+j,none⟩=some y) (h2:hi≤List.length rows) (h3:hi-lo≤c) (h4:c≤maxLen) {ad:Option Addr} (h0:ad=none→c=0)
  (had:lo<hi→ad=some ⟨g,o+lo*t.size,none⟩):SlR w ok t [.slice ad (hi-lo) c] ((List.drop lo rows).take (hi-lo)):=by
 rcases Nat.lt_or_ge lo hi with hlt|hge
 ·have hl:((List.drop lo rows).take (hi-lo)).length=hi-lo:=by simp;omega
  refine⟨ad,c,_,by rw[hl],by rw[hl];exact h3,h4,h0,(hr.drop lo).take (hi-lo),fun a ha j v hj=>?_⟩
  rw[had hlt] at ha;cases ha
  rw[Ch,Nat.add_assoc]
  refine hc _ _ ?_
  rw[List.getElem?_take] at hj
  split at hj
  ·rwa [List.getElem?_drop] at hj
  ·cases hj
 ·exact SlR.empty (by rw[show hi-lo=0 by omega,List.take_zero]) (by omega) h4 h0
section
variable {K:Dq} {S:St} {used:Id→Nat→Prop} {γ:Id→Value} {a:Act} {w:World} {o:Oper} {base:Id} {v:AV} {u:Rc} {l:List Id}
theorem Chp(h:Hi K S used γ a w){id:Id}{ver:Nat}{fr:Bool}{t:Ty}{rows:List t.den}
  (ho:An S.objs id=some (.sli ver fr t rows)∨An S.objs id=some (.frz ver fr t rows)) {lo hi:Nat} {v0:Value} {cc:Nat} {ad:Option Addr}
  (v2:hi≤rows.length) (v3:v0=.slice ad (hi-lo) cc) (v4:hi-lo≤cc) (v5:cc≤maxLen) (v6:ad=none→cc=0)
  (v7:lo<hi→∃ g m cp,γ id=.slice (some ⟨g,0,none⟩) m cp∧ad=some ⟨g,lo*t.size,none⟩) :
  SlR w (Ah9 K (An S.objs) γ fr) t [v0] ((List.drop lo rows).take (hi-lo)):=by
 subst v3
 rcases Nat.lt_or_ge lo hi with hlt|hge
 ·obtain⟨g,cp,cs,h1,_,_,h4,h5⟩:=Ayw h ho (by rintro rfl;simp at v2;omega)
  obtain⟨g',m,cp',k1,k2⟩:=v7 hlt
  rw[h1] at k1;cases k1
  exact SlR.cut (g:=g) (o:=0) h4 (fun j y hj=>by rw[Nat.zero_add];exact h5 j y hj) v2 v4 v5 v6 (fun _=>by rw[Nat.zero_add];exact k2)
 ·exact SlR.empty (by rw[show hi-lo=0 by omega,List.take_zero]) (by omega) v5 v6
theorem Ced(h:Hi K S used γ a w){id:Id}{ver:Nat}{fr:Bool}{t:Ty}{rows:List t.den}
  (ho:An S.objs id=some (.sli ver fr t rows)∨An S.objs id=some (.frz ver fr t rows)):SlR w (Ah9 K (An S.objs) γ fr) t [γ id] rows:=by
 obtain⟨ad,cap,k1,k2,k3,k4⟩:=Bay h ho
 have:=Chp (lo:=0) (hi:=rows.length) (ad:=ad) (cc:=cap) (v0:=γ id) h ho (Nat.le_refl _) k1 k2 k3 k4 (fun hlt=>by
  obtain⟨g,cp,cs,h1,_⟩:=Ayw h ho (by rintro rfl;simp at hlt)
  have h1':=h1
  rw[k1] at h1;cases h1
  exact⟨g,_,_,h1',by rw[Nat.zero_mul]⟩)
 simpa using this
theorem Akk{α:Type}{C:Ap}{objs:Rc}{v:AV}{t:Ty}{c:Cl}{frz:Bool}{k:Bool→List t.den→Cl→OpT α}{l0 l:List Id}{r:α}(hl:Ba C objs (Vl v t c frz k) l0 r l):Bfy v=true:=by
 cases v<;>first|rfl|exact hl.elim
theorem Azv{α:Type}{C:Ap}(h:Hi K S used γ a w){frz:Bool}{v:AV}{t:Ty}{c:Cl}{k:Bool→List t.den→Cl→OpT α}{l0 l:List Id}{r:α}
  (hl:Ba C S.objs (Vl v t c frz k) l0 r l) :
  ∃ fr x c' l1,Ba C S.objs (k fr x c') l1 r l∧Amy v=false ∧
   ∀ cs,ARc (Bi K S.objs used γ w) v cs→SlR w (Ah9 K (An S.objs) γ fr) t cs x:=by
 unfold Vl at hl
 split at hl
 ·rename_i fr u' x
  split at hl
  ·rename_i y hy
   obtain⟨e,rfl⟩:=Cs hy
   subst e
   exact⟨fr,_,c,l0,hl,rfl,fun cs hr=>SlR.of hr⟩
  ·exact hl.elim
 ·exact⟨true,[],c,l0,hl,rfl,fun cs hr=>by rw[show cs=_ from hr];exact SlR.empty rfl rfl (Nat.zero_le _) (fun _=>rfl)⟩
 ·rename_i id ver
  cases hg:Arz c.ups id with
  | true=>rw[hg] at hl;exact hl.elim
  | false =>
   rw[hg] at hl
   obtain⟨ob,hob,hl⟩:=hl
   dsimp only at hl
   split at hl
   ·rename_i ver' fr u' rows
    split at hl
    ·rename_i y h1 hy
     obtain rfl:=Nat.eq_of_beq_eq_true h1
     obtain⟨e,rfl⟩:=Cs hy
     cases e
     refine⟨fr,_,_,_,hl,rfl,fun cs hr=>?_⟩
     obtain⟨_,v0,rfl,_,hv0⟩:=hr
     rw[hv0 t _ (Ft _ ver' fr t rows (.inl hob))]
     exact Ced h (.inl hob)
    ·exact hl.elim
   ·rename_i ver' fr u' rows
    split at hl
    ·rename_i y h1 hy
     obtain rfl:=Nat.eq_of_beq_eq_true h1
     obtain⟨e,rfl⟩:=Cs hy
     cases e
     refine⟨fr,_,_,_,hl,rfl,fun cs hr=>?_⟩
     obtain⟨_,v0,rfl,_,hv0⟩:=hr
     rw[hv0 t _ (Ft _ ver' fr t rows (.inr hob))]
     exact Ced h (.inr hob)
    ·exact hl.elim
   ·exact hl.elim
 ·rename_i id ver lo hi cp0
  cases hg:Arz c.ups id with
  | true=>rw[hg] at hl;exact hl.elim
  | false =>
   rw[hg] at hl
   have key:∀ (ver:Nat) (fr:Bool) (t:Ty) (rows:List t.den),(An S.objs id=some (.sli ver fr t rows)∨An S.objs id=some (.frz ver fr t rows)) →
     ∀ cs,ARc (Bi K S.objs used γ w) (.view id ver lo hi cp0) cs→SlR w (Ah9 K (An S.objs) γ fr) t cs ((rows.drop lo).take (hi-lo)):=by
    intro ver fr t rows ho' cs hr
    obtain⟨_,v0,rfl,_,hv0⟩:=hr
    obtain⟨v1,v2,ad,cc,v3,v4,v5,v6,v7,_⟩:=hv0 t _ (Ft _ ver fr t rows ho')
    exact Chp h ho' v2 v3 v4 v5 v6 v7
   obtain⟨ob,hob,hl⟩:=hl
   dsimp only at hl
   split at hl
   ·rename_i ver' fr u' rows
    split at hl
    ·rename_i y h1 hy
     obtain rfl:=Nat.eq_of_beq_eq_true h1
     obtain⟨e,rfl⟩:=Cs hy
     cases e
     exact⟨fr,_,_,_,hl,rfl,key ver' fr t rows (.inl hob)⟩
    ·exact hl.elim
   ·rename_i ver' fr u' rows
    split at hl
    ·rename_i y h1 hy
     obtain rfl:=Nat.eq_of_beq_eq_true h1
     obtain⟨e,rfl⟩:=Cs hy
     cases e
     exact⟨fr,_,_,_,hl,rfl,key ver' fr t rows (.inr hob)⟩
    ·exact hl.elim
   ·exact hl.elim
 ·rename_i id path lo hi
  cases hg:Arz c.ups id with
  | true=>rw[hg] at hl;exact hl.elim
  | false =>
   rw[hg] at hl
   have key:∀ (fm fr:Bool) (tm u':Ty) (m:AV) (n:Nat) (x:List u'.den),(An S.objs id=some (.mem fm tm m)∨An S.objs id=some (.mfz fm tm m))→Axo m path=some (.d fr (.arr n u') x) →
     ∀ cs,ARc (Bi K S.objs used γ w) (.mview id path lo hi) cs→SlR w (Ah9 K (An S.objs) γ (fr&&fm)) u' cs ((x.drop lo).take (hi-lo)):=by
    intro fm fr tm u' m n x ho' hnav cs hr
    obtain⟨_,v0,rfl,_,hv0⟩:=hr
    obtain⟨g,n',uu,q1,q2,q3,q4,q5,ad,cc,q6,q7,q8,q9⟩:=hv0 tm (Ai7 _ fm tm m ho')
    subst q6
    obtain⟨g',e',cur,m1,m2,m3,m4⟩:=Bf1 h ho'
    have q1:γ id=_:=q1
    rw[q1] at m1
    cases m1
    obtain⟨n1,n2,n3⟩:=Adv m tm path _ _ m3 q2 q3 m4 _ hnav
    have eu:Ty.arr n u'=.arr n' uu:=Ty.beq_iff.1 (by simpa [Bh] using n1)
    cases eu
    obtain⟨nl,nr⟩:=n2
    refine SlR.cut (g:=g) (o:=By tm path) (nr.mono fun _ _=>DR.mono fun b hb=>Ada K S.objs used γ w _ _ b (fun h=>(Bool.and_eq_true _ _▸h:fr=true∧fm=true).1) hb)
     (fun j y hj=>?_) (by rw[nl];exact q5) q7 q8 (fun e=>by cases e) (fun hlt=>by rw[q9 hlt])
    have:=Abx m2 (By tm path) (Ty.size (.arr n u')) j y hj
    rwa [Ch] at this
   obtain⟨ob,hob,hl⟩:=hl
   dsimp only at hl
   split at hl
   ·rename_i fm tm m
    split at hl
    ·rename_i fr n u' x hnav
     split at hl
     ·rename_i y hy
      obtain⟨e,rfl⟩:=Cs hy
      cases e
      exact⟨_,_,_,_,hl,rfl,key fm fr tm t m n x (.inl hob) hnav⟩
     ·exact hl.elim
    ·exact hl.elim
   ·rename_i fm tm m
    split at hl
    ·rename_i fr n u' x hnav
     split at hl
     ·rename_i y hy
      obtain⟨e,rfl⟩:=Cs hy
      cases e
      exact⟨_,_,_,_,hl,rfl,key fm fr tm t m n x (.inr hob) hnav⟩
     ·exact hl.elim
    ·exact hl.elim
   ·exact hl.elim
 ·exact hl.elim
theorem Aqn.keeps{size:Nat}{e:TypeId}{s v':Value}{n m:Nat}{olds news:List Value}{w w':World}(hg:Aqn w size e s n m olds news v' w') :
  w.heap.size≤w'.heap.size∧(∀ b,b<w.heap.size→(∀ g l c,s=.slice (some g) l c→g.block≠b)→w'.heap[b]?=w.heap[b]?)∧(w'.os=w.os∧w'.tape=w.tape∧w'.output=w.output) ∧
   ∀ g l c,v'=.slice (some g) l c→(∃ l' c',s=.slice (some g) l' c')∨g.block=w.heap.size:=by
 cases hg with
 | none h hn hm=>exact⟨Nat.le_refl _,fun _ _ _=>rfl,⟨rfl,rfl,rfl⟩,fun g l c h=>by cases h⟩
 | room g cap cur e' hg hs hr hf =>
  refine⟨by simp[World.setRow],fun b _ hb=>setRow_other w g b _ fun e=>hb _ _ _ hs e.symm,⟨rfl,rfl,rfl⟩,fun g' l c h=>?_⟩
  cases h
  exact .inl ⟨_,_,hs⟩
 | fresh cap cells h1 h2 h3 h4 =>
  refine⟨by simp,fun b hb _=>Aq6 w.drew _ b hb,⟨rfl,rfl,rfl⟩,fun g' l c h=>?_⟩
  cases h
  exact .inr rfl
theorem Ym{n:Nat}{t:Ty}(h:A9 n t=true):0<t.size∧n≤maxLen∧n*(24*t.size)≤140737488355328:=by
 unfold A9 at h
 simp only[Bool.and_eq_true,Nat.blt_eq,decide_eq_true_eq] at h
 refine⟨h.1,?_,h.2⟩
 have h1:n*1≤n*(24*t.size):=Nat.mul_le_mul_left _ (by omega)
 simp only[maxLen]
 omega
theorem Ap7{T:TypeId}{x y:Operand}(ho:o.op=.call { callee:=.builtin .append,args:=#[x,y],argTypes:=#[T,T] }){v':Value}{w':World}
  (hr:(Builtin.append_ #[T,T] o.type #[a.eval x,a.eval y]).run K.P w=.ok v' w'):(execOp a.eval o).run K.P w=.ok (.value v') w':=by
 simp only[execOp,ho,resolve,invoke,builtin,Sem.run_bind,Sem.run_pure,Result.andThen_ok,List.map_toArray,List.map_cons,List.map_nil,hr]
theorem Bti(h:Hi K S used γ a w)(hB:∀ b,K.B b→b<K.base){id:Id}{ver':Nat}{fr frx:Bool}{t:Ty}{rows ys:List t.den}{olds news:List Value}{e e':TypeId}{v':Value}{w':World}
  (hob:An S.objs id=some (.sli ver' fr t rows)) (hus:∃ v,used id v)
  (hs:(γ id=.slice none 0 0∧List.length rows=0∧olds=[])∨∃ g cap cur,γ id=.slice (some ⟨g,0,none⟩) (List.length rows) cap∧w.heap[g]?=some (.cells cur e' (0,0))∧List.length rows≤cap∧cap≤maxLen∧cur.size=cap*t.size ∧
   cur.toList.take (List.length rows*t.size)=olds∧(fr=true→K.base≤g))
  (hro:B5 (DR w (Ah9 K (An S.objs) γ fr) t) t.size olds rows) (n6:B5 (DR w (Ah9 K (An S.objs) γ frx) t) t.size news ys)
  (q2:Aqn w t.size e (γ id) (List.length rows) (List.length ys) olds news v' w') (hex:(execOp a.eval o).run K.P w=.ok (.value v') w') :
  Pt K S used γ a w o (.own id (ver'+1)) [(id,some (.sli (ver'+1) (fr&&(frx||t.flat)) t (rows++ys)))] base:=by
 have hbase:K.base≤w.heap.size:=h.frame.size
 obtain⟨p1,p2,p3,p4⟩:=q2.keeps
 have hrel:=h.renew hB (fr':=fr&&(frx||t.flat)) (rows':=rows++ys) hob (hv:=v') p1 (fun b hb hne=>p2 b hb fun g l c hgl e2=>hne (by rw[hgl];exact congrArg some e2)) p3
  (fun g hg=>by
   cases v' with
   | slice ad2 l2 c2 =>
    cases ad2 with
    | none=>simp[Bg] at hg
    | some g2 =>
     simp only[Bg,Option.some.injEq] at hg
     subst hg
     rcases p4 g2 l2 c2 rfl with⟨l',c'',hh⟩|hh
     ·exact .inl (by rw[hh];rfl)
     ·exact .inr hh
   | _=>simp[Bg] at hg)
  (fun E' hs' hE=>by
   have hw':E'.w=w':=by rw[hE];rfl
   have hγ:E'.γ id=v':=by rw[hE];exact if_pos rfl
   have hmono:∀ f g b,(g=true→f=true)→E'.ok f b→E'.ok g b:=by rw[hE];exact Ada K _ _ _ _
   show Ccp E' (fr&&(frx||t.flat)) t (rows++ys) K.base (E'.γ id)
   rw[hγ]
   refine Bsl q2 hw' (b0:=K.base) ?_ ?_ ?_ hbase (e':=e')
   ·rcases hs with hs | ⟨g,cap,cur,k1,k2,k3,k4,k5,k6,k7⟩
    ·exact .inl hs
    ·exact .inr ⟨g,cap,cur,k1,k2,k3,k4,k5,k6,fun hf=>k7 (by simp only[Bool.and_eq_true] at hf;exact hf.1)⟩
   ·exact hro.mono fun _ _ hd=>(DR.move (fun b hb ho=>hs'.ok fr b hb ho) hd).mono fun b=>hmono _ _ b (by simp only[Bool.and_eq_true];exact fun hf=>hf.1)
   ·cases hft:t.flat with
    | true=>exact n6.mono fun _ _ hd=>DR.flat hft hd
    | false =>
     refine n6.mono fun _ _ hd=>(DR.move (fun b hb ho=>hs'.ok frx b hb ho) hd).mono fun b=>hmono _ _ b ?_
     simp only[Bool.and_eq_true,Bool.or_false];exact fun hf=>hf.2)
 refine⟨_,_,w',_,_,hex,.inl rfl,?_,hrel,?_⟩
 ·have ha':C7 v'=false:=by cases q2<;>rfl
  have h1':v'.oneCell'=true:=by cases q2<;>rfl
  exact Dh (a:=.own id (ver'+1)) ⟨.inr ⟨rfl,rfl⟩,v',rfl,h1',fun _ _ _=>(if_pos rfl:upd γ id v' id=v').symm⟩ rfl ha'
 ·rintro id' v2 (hv2 | ⟨rfl,rfl⟩)
  ·exact .inl ⟨v2,hv2⟩
  ·exact .inl hus
theorem Bhw(h:Hi K S used γ a w)(hB:∀ b,K.B b→b<K.base)(hid:∀ v,¬ used base v){frx:Bool}{t:Ty}{ys:List t.den}{news:List Value}{e:TypeId}{v':Value}{w':World}
  (n6:B5 (DR w (Ah9 K (An S.objs) γ frx) t) t.size news ys) (q2:Aqn w t.size e (.slice none 0 0) 0 (List.length ys) [] news v' w') (hex:(execOp a.eval o).run K.P w=.ok (.value v') w') :
  Pt K S used γ a w o (.own base 0) [(base,some (.sli 0 (frx||t.flat) t ys))] base:=by
 have hbase:K.base≤w.heap.size:=h.frame.size
 obtain⟨p1,p2,p3,p4⟩:=q2.keeps
 have hkeep:∀ b,b<w.heap.size→w'.heap[b]?=w.heap[b]?:=fun b hb=>p2 b hb (fun g l c h=>by cases h)
 have hrel:=h.new (w':=w') (id:=base) (o:=.sli 0 (frx||t.flat) t ys) (hv:=v') hid (fun g hg=>by
   have:g=w.heap.size:=by
    cases v' with
    | slice ad2 l2 c2 =>
     cases ad2 with
     | none=>simp[Bg] at hg
     | some g2 =>
      simp only[Bg,Option.some.injEq] at hg
      subst hg
      rcases p4 g2 l2 c2 rfl with⟨l',c'',hh⟩|hh
      ·cases hh
      ·exact hh
    | _=>simp[Bg] at hg
   exact⟨this,fun hb=>by have:=hB _ hb;omega⟩) p1 hkeep
  ⟨p3.1.trans h.frame.os,p3.2.1.trans h.frame.tape,p3.2.2.trans h.frame.output,Nat.le_trans h.frame.size p1,fun b hb hbo=>by rw[hkeep b (Nat.lt_of_lt_of_le hb hbase)];exact h.frame.block b hb hbo⟩
  (fun E' hs' hE=>by
   have hw':E'.w=w':=by rw[hE];rfl
   have hγ:E'.γ base=v':=by rw[hE];exact if_pos rfl
   have hmono:∀ f g b,(g=true→f=true)→E'.ok f b→E'.ok g b:=by rw[hE];exact Ada K _ _ _ _
   show Ccp E' (frx||t.flat) t ys K.base (E'.γ base)
   rw[hγ]
   have:=Bsl (E:=E') (fr:=frx||t.flat) (t:=t) (xs:=[]) (ys:=ys) q2 hw' (b0:=K.base) (e':=e) (.inl ⟨rfl,rfl,rfl⟩) rfl ?_ hbase
   ·simpa using this
   ·cases hft:t.flat with
    | true=>exact n6.mono fun _ _ hd=>DR.flat hft hd
    | false =>
     refine n6.mono fun _ _ hd=>(DR.move (fun b hb ho=>hs'.ok frx b hb ho) hd).mono fun b=>hmono _ _ b ?_
     simp only[Bool.or_false];exact id)
 refine⟨_,_,w',_,_,hex,.inl rfl,?_,hrel,?_⟩
 ·have ha':C7 v'=false:=by cases q2<;>rfl
  have h1':v'.oneCell'=true:=by cases q2<;>rfl
  exact Dh (a:=.own base 0) ⟨.inr ⟨rfl,rfl⟩,v',rfl,h1',fun _ _ _=>(if_pos rfl:upd γ base v' base=v').symm⟩ rfl ha'
 ·rintro id' v2 (hv2 | ⟨rfl,rfl⟩)
  ·exact .inl ⟨v2,hv2⟩
  ·exact .inr ⟨rfl,rfl⟩
theorem Cdj(h:Hi K S used γ a w)(e:TypeId){id:Id}{ver':Nat}{fr:Bool}{t:Ty}{rows:List t.den}(hob:An S.objs id=some (.sli ver' fr t rows)) :
  ∃ e' olds,((γ id=.slice none 0 0∧List.length rows=0∧olds=[])∨∃ g cap cur,γ id=.slice (some ⟨g,0,none⟩) (List.length rows) cap∧w.heap[g]?=some (.cells cur e' (0,0))∧List.length rows≤cap∧cap≤maxLen∧cur.size=cap*t.size ∧
   cur.toList.take (List.length rows*t.size)=olds∧(fr=true→K.base≤g))∧B5 (DR w (Ah9 K (An S.objs) γ fr) t) t.size olds rows:=by
 rcases h.objs id _ hob with⟨k1,k2⟩ | ⟨g,cap,cur,e2,k1,k2,k3,k4,k5,k6,k7⟩
 ·exact⟨e,[],.inl ⟨k1,by rw[k2];rfl,rfl⟩,by rw[k2];rfl⟩
 ·exact⟨e2,_,.inr ⟨g,cap,cur,k1,k2,k3,k4,k5,rfl,k7⟩,k6⟩
theorem Cgf(h:Hi K S used γ a w)(hB:∀ b,K.B b→b<K.base){c:Cl}(hc:Ab8 S true c)(hmv:Dn c.ups=[]){frs frx:Bool}{t:Ty}{xs ys:List t.den}{ad:Option Addr}{news:List Value}{e:TypeId}{v':Value}{w':World}{olds:List Value}
  (hpos:0<t.size) (hn:List.length xs+List.length ys≤maxLen) (hx:DR w (okL K S γ c frs) (.slice t) [.slice ad (List.length xs) (List.length xs)] xs) (hxo:B5 (DR w (okL K S γ c frs) t) t.size olds xs)
  (n6:B5 (DR w (Ah9 K (An S.objs) γ frx) t) t.size news ys)
  (q2:(List.length ys=0∧v'=.slice ad (List.length xs) (List.length xs)∧w'=w)∨(0<List.length ys∧∃ cap cells,List.length xs+List.length ys≤cap∧cap≤maxLen∧cells.size=cap*t.size ∧
   cells.toList.take ((List.length xs+List.length ys)*t.size)=olds++news∧v'=.slice (some ⟨w.heap.size,0,none⟩) (List.length xs+List.length ys) cap∧w'=w.drew.alloc (.cells cells e)))
  (hex:(execOp a.eval o).run K.P w=.ok (.value v') w') :
  Pt K S used γ a w o (.d (frs&&(frx||t.flat)) (.slice t) (List.append xs ys)) c.ups base:=by
 have hbase:K.base≤w.heap.size:=h.frame.size
 have hsz:w.heap.size≤w'.heap.size∧(∀ b,b<w.heap.size→w'.heap[b]?=w.heap[b]?)∧(w'.os=w.os∧w'.tape=w.tape∧w'.output=w.output):=by
  rcases q2 with⟨_,_,rfl⟩ | ⟨_,cap,cells,_,_,_,_,_,rfl⟩
  ·exact⟨Nat.le_refl _,fun _ _=>rfl,rfl,rfl,rfl⟩
  ·exact⟨by simp,fun b hb=>Aq6 w.drew _ b hb,rfl,rfl,rfl⟩
 obtain⟨p1,p2,p3⟩:=hsz
 obtain⟨used',γ',r1,r2,r3,_⟩:=h.after hB hc (w':=w') (M:=[]) (ok:=fun f b=>(okL K S γ c f b∧b<w.heap.size)∨b=w.heap.size) p1 (fun b hb _=>p2 b hb) p3
  (fun p hp=>by cases hp) (fun p hp=>by cases hp) (by simp) (by simp[I6.blk]) (fun g hg=>by simp[I6.blk] at hg)
  (fun f b hb=>by
   rcases hb with⟨hb,_⟩|rfl
   ·refine⟨by simp[I6.blk],hb.2.1,hb.2.2,fun id hid'=>?_⟩
    obtain⟨j1,j2,j3⟩:=Z5 (hc.left id) hid'
    have:=Baj hc (hb.1 id j1) (γ id)
    rw[this] at hid'
    cases hid'
   ·refine⟨by simp[I6.blk],fun hb=>by have:=hB _ hb;omega,fun _=>hbase,fun id hid'=>?_⟩
    have:=Aak h (Z5 (hc.left id) hid').1
    omega)
  (fun K' E hp p hpm=>by cases hpm)
 have hob:Fg (I6.ups []) (Fg c.ups S.objs)=Fg c.ups S.objs:=rfl
 rw[hob] at r1 r2
 have hlt:∀ (f:Bool) (b:Nat),okL K S γ c f b→b<w.heap.size→(Bi K (Fg c.ups S.objs) used' γ' w').ok f b:=fun f b hb hl=>r2.ok _ _ (.inl ⟨hb,hl⟩)
 have hmono:∀ f g b,(g=true→f=true)→(Bi K (Fg c.ups S.objs) used' γ' w').ok f b→(Bi K (Fg c.ups S.objs) used' γ' w').ok g b:=Ada K _ _ _ _
 have hw:∀ {f:Bool} {u:Ty} {cs:List Value} {z:u.den},DR w (okL K S γ c f) u cs z→DR w' ((Bi K (Fg c.ups S.objs) used' γ' w').ok f) u cs z:=fun hd =>
  DR.move (fun b hl hb=>⟨hlt _ b hb hl,p2 b hl⟩) hd
 have hd:DR w' ((Bi K (Fg c.ups S.objs) used' γ' w').ok (frs&&(frx||t.flat))) (.slice t) [v'] (List.append xs ys):=by
  rcases q2 with⟨h0,rfl,_⟩ | ⟨h0,cap,cells,h1,h2,h3,h4,rfl,rfl⟩
  ·have:ys=[]:=List.eq_nil_of_length_eq_zero h0
   subst this
   rw[show List.append xs []=xs from List.append_nil xs]
   exact (hw hx).mono fun b=>hmono _ _ b (by simp only[Bool.and_eq_true];exact fun h=>h.1)
  ·refine⟨some ⟨w.heap.size,0,none⟩,cap,by simp,by simpa using h1,h2,(fun h=>by cases h),olds++news,?_,fun _=>⟨_,rfl,r2.ok _ _ (.inr rfl),fun j v hj=>?_⟩⟩
   ·refine B5.append ?_ ?_
    ·exact hxo.mono fun _ _ hd=>(hw hd).mono fun b=>hmono _ _ b (by simp only[Bool.and_eq_true];exact fun h=>h.1)
    ·cases hft:t.flat with
     | true=>exact n6.mono fun _ _ hd=>DR.flat hft (hw (hd.mono fun b hb=>Agm (fun h=>h) b hb))
     | false =>
      refine n6.mono fun _ _ hd=>(hw (hd.mono fun b hb=>Agm (c:=c) (fun h=>h) b hb)).mono fun b=>hmono _ _ b ?_
      simp only[Bool.and_eq_true,Bool.or_false];exact fun hf=>hf.2
   ·rw[← h4] at hj
    have:=Abx (heap_alloc_new w.drew (.cells cells e)) 0 ((List.length xs+List.length ys)*t.size) j v (by rw[List.drop_zero];exact hj)
    simpa using this
 refine⟨_,_,w',used',γ',hex,.inl rfl,?_,r1,fun id v hv=>?_⟩
 ·have ha':C7 v'=false:=by rcases q2 with⟨_,rfl,_⟩ | ⟨_,_,_,_,_,_,_,rfl,_⟩<;>rfl
  have hcl:v'.cells.toList=[v']:=Bq ha'
  refine⟨by rw[hcl];exact hd,ha'.symm⟩
 ·rcases r3 id v hv with hv | ⟨p,hp,_⟩
  ·exact .inl ⟨v,hv⟩
  ·cases hp
theorem Bjq(h:Hi K S used γ a w)(hB:∀ b,K.B b→b<K.base)(hid:∀ v,¬ used base v){T:TypeId}{t:Ty}{x y:Operand}
  (ho:o.op=.call { callee:=.builtin .append,args:=#[x,y],argTypes:=#[T,T] }) (hx:A0 x=true) (hy:A0 y=true) (hT:T1 K.P (.slice t) T=true)
  (hl:Ba K.C S.objs (Blz (S.eval x) (S.eval y) t base) [] (v,u) l):Pt K S used γ a w o v u base:=by
 have hvx:=Bo h x hx
 have hvy:=Bo h y hy
 obtain⟨e,ht,he⟩:=Hy hT
 obtain⟨i,z,hi,hisz,hiby,hz,hzc,_⟩:=Kz (Tn he)
 have hzs:z.cells.size=i.size:=by rw[← Array.length_toList,hzc,Fa,hisz]
 have hbase:K.base≤w.heap.size:=h.frame.size
 have news_of:∀ {fr:Bool} {ys:List t.den} (hs:SlR w (Ah9 K (An S.objs) γ fr) t [a.eval y] ys),∃ ad cap news,a.eval y=.slice ad (List.length ys) cap∧news.length=List.length ys*t.size∧(ad=none→List.length ys=0) ∧
   (∀ b,ad=some b→∀ j v,news[j]?=some v→w.cell? (b.add j)=some v)∧(∀ v∈news,v.oneCell'=true)∧B5 (DR w (Ah9 K (An S.objs) γ fr) t) t.size news ys:=by
  rintro fr ys ⟨ad,cap,news,e1,e2,e3,e4,e5,e6⟩
  refine⟨ad,cap,news,by simpa using e1,e5.length,fun hn=>by have:=e4 hn;omega,e6,?_,e5⟩
  exact DR.one (t:=.arr (List.length ys) t) ⟨rfl,e5⟩
 unfold Blz at hl
 split at hl
 ·rename_i id ver heq
  obtain⟨ob,hob,hl⟩:=hl
  dsimp only at hl
  split at hl
  ·rename_i ver' fr u' rows
   split at hl
   ·rename_i old h1 hy1
    obtain rfl:=Nat.eq_of_beq_eq_true h1
    obtain⟨e1,rfl⟩:=Cs hy1
    cases e1
    have hsol:=Akk hl
    obtain⟨frx,ys,c',l1,hl,hag,hsl⟩:=Azv h hl
    obtain⟨hr,hl⟩:=C3 hl
    obtain⟨r1,r2,r3⟩:=Ym hr
    obtain⟨e1,_⟩:=hl;cases e1
    rw[heq] at hvx
    obtain⟨hus,hna,hval⟩:=Arc hvx
    have hval:a.eval x=γ id:=hval t _ (Ft _ ver' fr t rows (.inl hob))
    have hvy1:G7 (Bi K S.objs used γ w) (S.eval y) (a.eval y):=Zh hsol hvy
    have hyc:(a.eval y).cells.toList=[a.eval y]:=Bq (by rw[← hvy1.2,hag])
    have hsl:=hsl [a.eval y] (by rw[← hyc];exact hvy1.1)
    obtain⟨ad,cap,news,n1,n2,n3,n4,n5,n6⟩:=news_of hsl
    obtain⟨e',olds,hs,hro⟩:=Cdj h e hob
    obtain⟨v',w',q1,q2⟩:=Bo1 (P:=K.P) w T o.type e e' i z ht hi hz hzs (γ id) (List.length rows) olds (by
     rcases hs with hs | ⟨g,cap,cur,k1,k2,k3,k4,k5,k6,_⟩
     ·exact .inl hs
     ·exact .inr ⟨g,cap,cur,k1,k2,k3,k4,by rw[hisz];exact k5,by rw[hisz];exact k6⟩) ad (List.length ys) cap news (by rw[hisz];exact n2) n3 n4 n5 (by omega)
     (Nat.le_trans (Nat.mul_le_mul_left _ hiby) (by simpa [List.length_append] using r3))
    rw[hisz] at q2
    exact Bti h hB hob ⟨_,hus⟩ hs hro n6 q2 (Ap7 ho (by rw[hval,n1];exact q1))
   ·exact hl.elim
  ·exact hl.elim
 ·rename_i heq
  have hsol:=Akk hl
  obtain⟨frx,ys,c',l1,hl,hag,hsl⟩:=Azv h hl
  obtain⟨hr,hl⟩:=C3 hl
  obtain⟨r1,r2,r3⟩:=Ym hr
  obtain⟨e1,_⟩:=hl;cases e1
  rw[heq] at hvx
  have hval:a.eval x=.slice none 0 0:=by
   obtain⟨k1,k2⟩:=(show G7 _ .nils _ from hvx)
   rw[Bq k2.symm] at k1
   simpa [ARc] using k1
  have hvy1:G7 (Bi K S.objs used γ w) (S.eval y) (a.eval y):=Zh hsol hvy
  have hyc:(a.eval y).cells.toList=[a.eval y]:=Bq (by rw[← hvy1.2,hag])
  have hsl:=hsl [a.eval y] (by rw[← hyc];exact hvy1.1)
  obtain⟨ad,cap,news,n1,n2,n3,n4,n5,n6⟩:=news_of hsl
  obtain⟨v',w',q1,q2⟩:=Bo1 (P:=K.P) w T o.type e e i z ht hi hz hzs (.slice none 0 0) 0 [] (.inl ⟨rfl,rfl,rfl⟩) ad (List.length ys) cap news (by rw[hisz];exact n2) n3 n4 n5 (by omega)
   (Nat.le_trans (Nat.mul_le_mul_left _ hiby) (by simpa using r3))
  rw[hisz] at q2
  exact Bhw h hB hid n6 q2 (Ap7 ho (by rw[hval,n1];exact q1))
 ·rename_i id ver lo1 hi1 cp heq
  cases cp with
  | false=>exact hl.elim
  | true =>
   have hl:Ba K.C S.objs (Vl (.view id ver lo1 hi1 true) t ⟨[],[]⟩ true fun frs old c=>Vl (S.eval y) t ⟨[],[]⟩ false fun frx new _ =>
    .chk (A9 (List.length old+List.length new) t) (.done (.d (frs&&(frx||t.flat)) (.slice t) (List.append old new),c.ups))) [] (v,u) l:=hl
   have hl0:=hl
   obtain⟨frs,xs,c,l1,hl,c1,c2,c3,c4,c5⟩:=Hp h (Ab8.start S true) hl
   have hsol:=Akk hl
   obtain⟨frx,ys,c',l2,hl,hag,hsl⟩:=Azv h hl
   obtain⟨hr,hl⟩:=C3 hl
   obtain⟨r1,r2,r3⟩:=Ym hr
   obtain⟨e1,_⟩:=hl;cases e1
   rw[heq] at hvx
   obtain⟨hx1,hx2⟩:=(show G7 (Bi K S.objs used γ w) (.view id ver lo1 hi1 true) (a.eval x) from hvx)
   have hxc:(a.eval x).cells.toList=[a.eval x]:=Bq (by rw[← hx2];rfl)
   rw[hxc] at hx1
   have hd:=c5 _ hx1
   obtain⟨ad0,cap0,d1,d2,d3,d4,olds,d5,d6⟩:=hd
   have hcapd:a.eval x=.slice ad0 (List.length xs) (List.length xs):=by
    have hsl0:∃ t n,Agt (An S.objs id) ver t n:=by
     have hl2:=hl0
     unfold Vl at hl2
     dsimp only[Arz,cond_false] at hl2
     obtain⟨ob,hob,hl2⟩:=hl2
     dsimp only at hl2
     split at hl2
     ·rename_i ver' fr u' rows
      split at hl2
      ·rename_i y h1 hy
       obtain rfl:=Nat.eq_of_beq_eq_true h1
       exact⟨u',_,Ft _ ver' fr u' rows (.inl hob)⟩
      ·exact hl2.elim
     ·rename_i ver' fr u' rows
      split at hl2
      ·rename_i y h1 hy
       obtain rfl:=Nat.eq_of_beq_eq_true h1
       exact⟨u',_,Ft _ ver' fr u' rows (.inr hob)⟩
      ·exact hl2.elim
     ·exact hl2.elim
    obtain⟨t0,n0,hsl0⟩:=hsl0
    obtain⟨_,v0,hv0,_,hv1⟩:=hx1
    obtain⟨_,_,ad1,cc1,e5,_,_,_,_,e6⟩:=hv1 t0 n0 hsl0
    have e6:=e6 rfl
    cases hv0
    have d1:a.eval x=.slice ad0 (List.length xs) cap0:=by simpa using d1
    rw[e5] at d1 ⊢
    simp only[Value.slice.injEq] at d1
    rw[d1.1,d1.2.1,e6,d1.2.1]
   have hvy1:G7 (Bi K S.objs used γ w) (S.eval y) (a.eval y):=Zh hsol hvy
   have hyc:(a.eval y).cells.toList=[a.eval y]:=Bq (by rw[← hvy1.2,hag])
   have hsl:=hsl [a.eval y] (by rw[← hyc];exact hvy1.1)
   obtain⟨ad,cap,news,n1,n2,n3,n4,n5,n6⟩:=news_of hsl
   have hd:=c5 _ hx1
   rw[hcapd] at hd
   obtain⟨v',w',q1,q2⟩:=Bby (P:=K.P) w T o.type e i z ht hi hz hzs ad0 (List.length xs) olds (by rw[hisz];exact d5.length) (fun hn=>by have:=d4 hn;omega)
    (fun b hb j v hj=>by
     have hne:olds≠[]:=by rintro rfl;simp at hj
     obtain⟨a',k1,_,k3⟩:=d6 hne
     rw[hb] at k1;cases k1
     exact k3 j v hj) ad (List.length ys) cap news (by rw[hisz];exact n2) n3 n4 r2 (Nat.le_trans (Nat.mul_le_mul_left _ hiby) (by simpa using r3))
   rw[hisz] at q2
   exact Cgf h hB c1 c3 r1 r2 hd d5 n6 q2 (Ap7 ho (by rw[hcapd,n1];exact q1))
 ·exact hl.elim
theorem Bxv(h:Hi K S used γ a w)(hB:∀ b,K.B b→b<K.base)(hid:∀ v,¬ used base v){T:TypeId}{t:Ty}{x y:Operand}
  (ho:o.op=.call { callee:=.builtin .append,args:=#[x,y],argTypes:=#[T,T] }) (hx:A0 x=true) (hy:A0 y=true) (hT:T1 K.P (.slice t) T=true)
  (hl:Ba K.C S.objs (Bwx (S.eval x) (S.eval y) t base) [] (v,u) l):Pt K S used γ a w o v u base:=by
 unfold Bwx at hl
 split at hl
 case h_2=>exact Bjq h hB hid ho hx hy hT hl
 rename_i id ver lo1 hi1 heq
 have hvx:=Bo h x hx
 have hvy:=Bo h y hy
 obtain⟨e,ht,he⟩:=Hy hT
 obtain⟨i,z,hi,hisz,hiby,hz,hzc,_⟩:=Kz (Tn he)
 have hzs:z.cells.size=i.size:=by rw[← Array.length_toList,hzc,Fa,hisz]
 have hl0:=hl
 obtain⟨frs,xs,c,l1,hl,hagx,hslx⟩:=Azv h hl
 have hsol:=Akk hl
 obtain⟨frx,ys,c',l2,hl,hag,hsl⟩:=Azv h hl
 obtain⟨hr,hl⟩:=C3 hl
 simp only[Bool.and_eq_true,decide_eq_true_eq] at hr
 obtain⟨hy0,hr⟩:=hr
 obtain⟨r1,r2,r3⟩:=Ym hr
 obtain⟨e1,_⟩:=hl;cases e1
 rw[heq] at hvx
 obtain⟨hx1,hx2⟩:=(show G7 (Bi K S.objs used γ w) (.view id ver lo1 hi1 true) (a.eval x) from hvx)
 have hxc:(a.eval x).cells.toList=[a.eval x]:=Bq (by rw[← hx2];rfl)
 rw[hxc] at hx1
 obtain⟨ad0,cap0,olds,d1,d2,d3,d4,d5,d6⟩:=hslx [a.eval x] hx1
 have hcapd:a.eval x=.slice ad0 (List.length xs) (List.length xs):=by
  have hsl0:∃ t n,Agt (An S.objs id) ver t n:=by
   have hl2:=hl0
   unfold Vl at hl2
   dsimp only[Arz,cond_false] at hl2
   obtain⟨ob,hob,hl2⟩:=hl2
   dsimp only at hl2
   split at hl2
   ·rename_i ver' fr u' rows
    split at hl2
    ·rename_i y h1 hy
     obtain rfl:=Nat.eq_of_beq_eq_true h1
     exact⟨u',_,Ft _ ver' fr u' rows (.inl hob)⟩
    ·exact hl2.elim
   ·rename_i ver' fr u' rows
    split at hl2
    ·rename_i y h1 hy
     obtain rfl:=Nat.eq_of_beq_eq_true h1
     exact⟨u',_,Ft _ ver' fr u' rows (.inr hob)⟩
    ·exact hl2.elim
   ·exact hl2.elim
  obtain⟨t0,n0,hsl0⟩:=hsl0
  obtain⟨_,v0,hv0,_,hv1⟩:=hx1
  obtain⟨_,_,ad1,cc1,e5,_,_,_,_,e6⟩:=hv1 t0 n0 hsl0
  have e6:=e6 rfl
  cases hv0
  have d1:a.eval x=.slice ad0 (List.length xs) cap0:=by simpa using d1
  rw[e5] at d1 ⊢
  simp only[Value.slice.injEq] at d1
  rw[d1.1,d1.2.1,e6,d1.2.1]
 have hvy1:G7 (Bi K S.objs used γ w) (S.eval y) (a.eval y):=Zh hsol hvy
 have hyc:(a.eval y).cells.toList=[a.eval y]:=Bq (by rw[← hvy1.2,hag])
 obtain⟨ad,cap,news,n1,n2,n3,n4,n5,n6⟩:=hsl [a.eval y] (by rw[← hyc];exact hvy1.1)
 have n1:a.eval y=.slice ad (List.length ys) cap:=by simpa using n1
 have hone:∀ v∈news,v.oneCell'=true:=DR.one (t:=.arr (List.length ys) t) ⟨rfl,n5⟩
 obtain⟨v',w',q1,q2⟩:=Bby (P:=K.P) w T o.type e i z ht hi hz hzs ad0 (List.length xs) olds (by rw[hisz];exact d5.length) (fun hn=>by have:=d4 hn;omega) d6 ad (List.length ys) cap news (by rw[hisz];exact n5.length) (fun hn=>by have:=n4 hn;omega) n6 r2 (Nat.le_trans (Nat.mul_le_mul_left _ hiby) (by simpa using r3))
 rw[hisz] at q2
 rcases q2 with⟨h0,_⟩ | ⟨_,G,cells,h1,h2,h3,h4,rfl,rfl⟩
 ·omega
 have hrows:B5 (DR w (Ah9 K (An S.objs) γ (frs&&frx)) t) t.size (olds++news) (List.append xs ys) :=
  (d5.mono fun _ _ hd=>hd.mono fun b hb=>Bl4 (by simp only[Bool.and_eq_true];exact fun h=>h.1) b hb).append (n5.mono fun _ _ hd=>hd.mono fun b hb=>Bl4 (by simp only[Bool.and_eq_true];exact fun h=>h.2) b hb)
 have hlen:List.length (List.append xs ys)=List.length xs+List.length ys:=List.length_append
 have hG:Aqn w t.size e (.slice none 0 0) 0 (List.length (List.append xs ys)) [] (olds++news) (.slice (some ⟨w.heap.size,0,none⟩) (List.length xs+List.length ys) G) (w.drew.alloc (.cells cells e)):=by
  have:=Aqn.fresh (w:=w) (size:=t.size) (e:=e) (s:=.slice none 0 0) (n:=0) (m:=List.length (List.append xs ys)) (olds:=[]) (news:=olds++news) G cells (by rw[hlen];omega) h2 h3 (by rw[hlen,Nat.zero_add];exact h4)
  rw[Nat.zero_add,hlen] at this
  rw[hlen]
  exact this
 exact Bhw h hB hid hrows hG (Ap7 ho (by rw[hcapd,n1];exact q1))
end
end Go.Pon
namespace Go.Pon
open Go
theorem Baw{z:Array Value}{zs:List Value}(hz:z.toList=zs)(k:Nat):(madeCells z (k*z.size)).toList=(List.replicate k zs).flatten:=by
 subst hz
 induction k with
 | zero=>simp[madeCells]
 | succ k ih =>
  have e:(madeCells z ((k+1)*z.size)).toList=(madeCells z (k*z.size)).toList++z.toList:=by
   apply List.ext_getElem?
   intro j
   have hsz:((madeCells z (k*z.size)).toList).length=k*z.size:=by simp[madeCells]
   rcases Nat.lt_or_ge j (k*z.size) with h|h
   ·rw[List.getElem?_append_left (by rw[hsz];exact h)]
    have h':j<(k+1)*z.size:=by rw[Nat.add_mul];omega
    simp[madeCells,h,h']
   ·rw[List.getElem?_append_right (by rw[hsz];exact h),hsz]
    rcases Nat.lt_or_ge j ((k+1)*z.size) with h2|h2
    ·have hj:j-k*z.size<z.size:=by rw[Nat.add_mul] at h2;omega
     have hm:j % z.size=j-k*z.size:=by
      have:j=(j-k*z.size)+k*z.size:=by omega
      rw[this,Nat.add_mul_mod_self_right,Nat.mod_eq_of_lt hj]
      omega
     simp only[madeCells,Array.getElem?_toList,Array.getElem?_map]
     rw[Array.getElem?_eq_getElem (by simpa using h2)]
     simp only[Array.getElem_range,Option.map_some,hm]
     rw[getElem!_pos z _ hj,Array.getElem?_eq_getElem hj]
    ·have hj:¬ j-k*z.size<z.size:=by rw[Nat.add_mul] at h2;omega
     simp only[madeCells,Array.getElem?_toList,Array.getElem?_map]
     rw[Array.getElem?_eq_none (by simpa using h2),Array.getElem?_eq_none (by omega)]
     rfl
  rw[e,ih,List.replicate_succ',List.flatten_append]
  simp
theorem Bol(z:Array Value)(n:Nat):Builtin.zeroCells z n=madeCells z (n*z.size):=rfl
section
variable {K:Dq} {S:St} {used:Id→Nat→Prop} {γ:Id→Value} {a:Act} {w:World} {o:Oper} {base:Id} {v:AV} {u:Rc} {l:List Id}
theorem Cl0(h:Hi K S used γ a w)(hB:∀ b,K.B b→b<K.base)(hid:∀ v,¬ used base v){t:Ty}{rows:List t.den}{cap:Nat}{cells:Array Value}{e:TypeId}{w1:World}(hw1:w1=w∨w1=w.drew)
  (h1:List.length rows≤cap) (h2:cap≤maxLen) (h3:cells.size=cap*t.size) (h4:B5 (DR w (Ah9 K (An S.objs) γ true) t) t.size (cells.toList.take (List.length rows*t.size)) rows)
  (hex:(execOp a.eval o).run K.P w=.ok (.value (.slice (some ⟨w.heap.size,0,none⟩) (List.length rows) cap)) (w1.alloc (.cells cells e))) :
  Pt K S used γ a w o (.own base 0) [(base,some (.sli 0 true t rows))] base:=by
 have hbase:K.base≤w.heap.size:=h.frame.size
 have hhp:w1.heap=w.heap∧w1.os=w.os∧w1.tape=w.tape∧w1.output=w.output:=by rcases hw1 with rfl|rfl<;>exact⟨rfl,rfl,rfl,rfl⟩
 have hnew:(w1.alloc (.cells cells e)).heap[w.heap.size]?=some (.cells cells e (0,0)):=by
  have:=heap_alloc_new w1 (.cells cells e)
  rw[hhp.1] at this
  exact this
 have hold:∀ b,b<w.heap.size→(w1.alloc (.cells cells e)).heap[b]?=w.heap[b]?:=fun b hb=>by
  rw[Aq6 w1 _ b (by rw[hhp.1];exact hb),hhp.1]
 have hsize:w.heap.size≤(w1.alloc (.cells cells e)).heap.size:=by simp[hhp.1]
 have hrel:=h.new (w':=w1.alloc (.cells cells e)) (id:=base) (o:=.sli 0 true t rows) (hv:=.slice (some ⟨w.heap.size,0,none⟩) (List.length rows) cap) hid (fun g hg=>by
   simp[Bg] at hg
   exact⟨hg.symm,fun hb=>by have:=hB _ hb;omega⟩) hsize hold
  ⟨(by show w1.os=_;rw[hhp.2.1];exact h.frame.os),(by show w1.tape=_;rw[hhp.2.2.1];exact h.frame.tape),(by show w1.output=_;rw[hhp.2.2.2];exact h.frame.output),Nat.le_trans h.frame.size hsize,
   fun b hb hbo=>by rw[hold b (Nat.lt_of_lt_of_le hb hbase)];exact h.frame.block b hb hbo⟩
  (fun E' hs' hE=>by
   have hw':E'.w=w1.alloc (.cells cells e):=by rw[hE];rfl
   have hγ:E'.γ base=.slice (some ⟨w.heap.size,0,none⟩) (List.length rows) cap:=by rw[hE];exact if_pos rfl
   refine .inr ⟨w.heap.size,cap,cells,e,hγ,by rw[hw'];exact hnew,h1,h2,h3,?_,fun _=>hbase⟩
   exact h4.mono fun _ _ hd=>DR.move (fun b hb ho=>hs'.ok true b hb ho) hd)
 refine⟨_,_,_,_,_,hex,.inl rfl,?_,hrel,?_⟩
 ·exact Dh (a:=.own base 0) ⟨.inr ⟨rfl,rfl⟩,_,rfl,rfl,fun _ _ _=>(if_pos rfl:upd γ base (Value.slice (some ⟨w.heap.size,0,none⟩) (List.length rows) cap) base=_).symm⟩ rfl rfl
 ·rintro id' v2 (hv2 | ⟨rfl,rfl⟩)
  ·exact .inl ⟨v2,hv2⟩
  ·exact .inr ⟨rfl,rfl⟩
theorem Cii(h:Hi K S used γ a w)(hB:∀ b,K.B b→b<K.base)(hid:∀ v,¬ used base v){t:Ty}{rows:List t.den}{cells:Array Value}{e:TypeId}{w1:World}(hw1:w1=w∨w1=w.drew)
  (h2:List.length rows≤maxLen) (h3:cells.size=List.length rows*t.size) (h4:B5 (DR w (Ah9 K (An S.objs) γ true) t) t.size (cells.toList.take (List.length rows*t.size)) rows)
  (hex:(execOp a.eval o).run K.P w=.ok (.value (.slice (some ⟨w.heap.size,0,none⟩) (List.length rows) (List.length rows))) (w1.alloc (.cells cells e))) :
  Pt K S used γ a w o (.view base 0 0 (List.length rows) true) [(base,some (.sli 0 true t rows))] base:=by
 have hbase:K.base≤w.heap.size:=h.frame.size
 have hhp:w1.heap=w.heap∧w1.os=w.os∧w1.tape=w.tape∧w1.output=w.output:=by rcases hw1 with rfl|rfl<;>exact⟨rfl,rfl,rfl,rfl⟩
 have hnew:(w1.alloc (.cells cells e)).heap[w.heap.size]?=some (.cells cells e (0,0)):=by
  have:=heap_alloc_new w1 (.cells cells e)
  rw[hhp.1] at this
  exact this
 have hold:∀ b,b<w.heap.size→(w1.alloc (.cells cells e)).heap[b]?=w.heap[b]?:=fun b hb=>by
  rw[Aq6 w1 _ b (by rw[hhp.1];exact hb),hhp.1]
 have hsize:w.heap.size≤(w1.alloc (.cells cells e)).heap.size:=by simp[hhp.1]
 have hrel:=h.new (w':=w1.alloc (.cells cells e)) (id:=base) (o:=.sli 0 true t rows) (hv:=.slice (some ⟨w.heap.size,0,none⟩) (List.length rows) (List.length rows)) hid (fun g hg=>by
   simp[Bg] at hg
   exact⟨hg.symm,fun hb=>by have:=hB _ hb;omega⟩) hsize hold
  ⟨(by show w1.os=_;rw[hhp.2.1];exact h.frame.os),(by show w1.tape=_;rw[hhp.2.2.1];exact h.frame.tape),(by show w1.output=_;rw[hhp.2.2.2];exact h.frame.output),Nat.le_trans h.frame.size hsize,
   fun b hb hbo=>by rw[hold b (Nat.lt_of_lt_of_le hb hbase)];exact h.frame.block b hb hbo⟩
  (fun E' hs' hE=>by
   have hw':E'.w=w1.alloc (.cells cells e):=by rw[hE];rfl
   have hγ:E'.γ base=.slice (some ⟨w.heap.size,0,none⟩) (List.length rows) (List.length rows):=by rw[hE];exact if_pos rfl
   refine .inr ⟨w.heap.size,List.length rows,cells,e,hγ,by rw[hw'];exact hnew,Nat.le_refl _,h2,h3,?_,fun _=>hbase⟩
   exact h4.mono fun _ _ hd=>DR.move (fun b hb ho=>hs'.ok true b hb ho) hd)
 refine⟨_,_,_,_,_,hex,.inl rfl,?_,hrel,?_⟩
 ·refine Dh (a:=.view base 0 0 (List.length rows) true) ⟨.inr ⟨rfl,rfl⟩,_,rfl,rfl,fun t' n' hsl=>?_⟩ rfl rfl
  have hsl:Agt (An ((base,some (Obj.sli 0 true t rows))::S.objs) base) 0 t' n':=hsl
  rw[L6,if_pos rfl] at hsl
  obtain⟨f2,r2,k1,k2⟩:=hsl
  rcases k2 with k2|k2
  ·cases k2
   exact⟨Nat.zero_le _,by omega,_,_,rfl,Nat.le_refl _,h2,(fun h=>by cases h),fun _=>⟨w.heap.size,_,_,(if_pos rfl:upd γ base (Value.slice (some ⟨w.heap.size,0,none⟩) (List.length rows) (List.length rows)) base=_),by rw[Nat.zero_mul]⟩,fun _=>rfl⟩
  ·cases k2
 ·rintro id' v2 (hv2 | ⟨rfl,rfl⟩)
  ·exact .inl ⟨v2,hv2⟩
  ·exact .inr ⟨rfl,rfl⟩
theorem Bwq(h:Hi K S used γ a w)(hB:∀ b,K.B b→b<K.base)(hid:∀ v,¬ used base v){T:TypeId}{x y:Operand}(ho:o.op=.makeSlice T x y){t:Ty}(hT:T1 K.P (.slice t) T=true){k k':IntKind}{lo:Int}
  (hx:a.eval x=.int k lo) (hy:a.eval y=.int k' lo) (h0:0≤lo) (hr:A9 lo.toNat t=true):Pt K S used γ a w o (.view base 0 0 lo.toNat true) [(base,some (.sli 0 true t (List.replicate lo.toNat t.zero)))] base:=by
 obtain⟨e,ht,he⟩:=Hy hT
 obtain⟨i,z,hi,hisz,hiby,hz,hzc,_⟩:=Kz (Tn he)
 have hzs:z.cells.size=t.size:=by rw[← Array.length_toList,hzc,Fa]
 obtain⟨r1,r2,r3⟩:=Ym hr
 have hrun:=run_make (P:=K.P) w T e i z ht hi hz k k' lo lo h0 (Int.le_refl _) (by
  have h1:lo.toNat*i.bytes≤lo.toNat*(24*t.size):=Nat.mul_le_mul_left _ hiby
  have h2:((lo.toNat*i.bytes:Nat):Int)≤140737488355328:=by omega
  rw[Int.natCast_mul,Int.toNat_of_nonneg (by omega)] at h2
  rw[Int.mul_comm];omega) (by simp only[maxLen] at r2;omega)
 have hrows:=Baw hzc lo.toNat
 rw[hzs] at hrows
 rw[hisz] at hrun
 have hlen:(List.replicate lo.toNat t.zero).length=lo.toNat:=by simp
 have:=Cii (rows:=List.replicate lo.toNat t.zero) h hB hid (cells:=madeCells z.cells (lo.toNat*t.size)) (e:=e) (o:=o) (.inl rfl) (by rw[hlen];exact r2) (by rw[hlen];exact size_madeCells _ _) (by
   rw[hrows,hlen,List.take_of_length_le (by simp[Fa])]
   exact B5.replicate (Fa t) (DR.zero t) _)
  (by rw[hlen];simp only[execOp,ho,hx,hy,Sem.run_bind,hrun,Result.andThen_ok,Sem.run_pure])
 rw[hlen] at this
 exact this
theorem Br2(h:Hi K S used γ a w)(hB:∀ b,K.B b→b<K.base)(hid:∀ v,¬ used base v){T:TypeId}{x y:Operand}(ho:o.op=.makeSlice T x y){t:Ty}(hT:T1 K.P (.slice t) T=true){k k':IntKind}{lo c:Int}
  (hx:a.eval x=.int k lo) (hy:a.eval y=.int k' c) (h0:0≤lo) (hlc:lo≤c) (hr:A9 c.toNat t=true):Pt K S used γ a w o (.own base 0) [(base,some (.sli 0 true t (List.replicate lo.toNat t.zero)))] base:=by
 obtain⟨e,ht,he⟩:=Hy hT
 obtain⟨i,z,hi,hisz,hiby,hz,hzc,_⟩:=Kz (Tn he)
 have hzs:z.cells.size=t.size:=by rw[← Array.length_toList,hzc,Fa]
 obtain⟨r1,r2,r3⟩:=Ym hr
 have hrun:=run_make (P:=K.P) w T e i z ht hi hz k k' lo c h0 hlc (by
  have h1:c.toNat*i.bytes≤c.toNat*(24*t.size):=Nat.mul_le_mul_left _ hiby
  have h2:((c.toNat*i.bytes:Nat):Int)≤140737488355328:=by omega
  rw[Int.natCast_mul,Int.toNat_of_nonneg (by omega)] at h2
  rw[Int.mul_comm];omega) (by simp only[maxLen] at r2;omega)
 have hrows:=Baw hzc c.toNat
 rw[hzs] at hrows
 rw[hisz] at hrun
 have hlen:(List.replicate lo.toNat t.zero).length=lo.toNat:=by simp
 refine Cl0 h hB hid (cap:=c.toNat) (cells:=madeCells z.cells (c.toNat*t.size)) (e:=e) (.inl rfl) (by rw[hlen];omega) r2 (size_madeCells _ _) ?_ (by rw[hlen];simp only[execOp,ho,hx,hy,Sem.run_bind,hrun,Result.andThen_ok,Sem.run_pure])
 rw[hrows,hlen]
 have e1:((List.replicate c.toNat (O9 t)).flatten).take (lo.toNat*t.size)=(List.replicate lo.toNat (O9 t)).flatten:=by
  have:c.toNat=lo.toNat+(c.toNat-lo.toNat):=by omega
  rw[this,← List.replicate_append_replicate,List.flatten_append]
  refine List.take_left' ?_
  simp[Fa]
 rw[e1]
 exact B5.replicate (Fa t) (DR.zero t) _
theorem Byk{P:Program}(w:World)(t tn ty e e':TypeId)(i:TypeInfo)(z:Value)(kn kq:IntKind)(ht:P.underlying t=some (.slice e))(htn:P.underlying tn=some (.int kn))(hi:P.info? e=some i)(hz:i.zero=some z)(hzs:z.cells.size=i.size)(hpos:0<i.size)
  (h1:∀ u∈z.cells.toList,u.oneCell'=true)
  (s:Value) (n:Nat) (olds:List Value) (hs:(s=.slice none 0 0∧n=0∧olds=[])∨∃ g cap cur,s=.slice (some ⟨g,0,none⟩) n cap∧w.heap[g]?=some (.cells cur e' (0,0))∧n≤cap∧cap≤maxLen∧cur.size=cap*i.size ∧
   cur.toList.take (n*i.size)=olds) (m:Nat) (h63:n+m≤maxLen) (hbytes:(n+m)*i.bytes≤140737488355328) :
  ∃ v' w',(Builtin.append_ #[t,tn] ty #[s,.int kq m]).run P w=.ok v' w'∧Aqn w i.size e s n m olds (List.replicate m z.cells.toList).flatten v' w':=by
 have hw:IntKind.i64.wrap (m:Int)=m:=by rw[IntKind.wrap_i64];simp only[maxLen] at h63;omega
 have hneg:¬ ((m:Int)<0):=by omega
 have hmb:m*i.bytes≤(n+m)*i.bytes:=Nat.mul_le_mul_right _ (by omega)
 have h48i:¬ (281474976710656<(m:Int)*(i.bytes:Int)):=by
  rw[← Int.natCast_mul]
  omega
 have hnews:((List.replicate m z.cells.toList).flatten).length=m*i.size:=by simp[hzs]
 have hzc:(Builtin.zeroCells z.cells m).toList=(List.replicate m z.cells.toList).flatten:=by rw[Bol];exact Baw rfl m
 have one:∀ u∈(List.replicate m z.cells.toList).flatten,u.oneCell'=true:=fun u hu=>by
  obtain⟨l,hl,hu⟩:=List.mem_flatten.1 hu
  rw[List.eq_of_mem_replicate hl] at hu
  exact h1 u hu
 have grown:∀ (old:Nat),olds.length=n*i.size →
   Aqn w i.size e s n m olds (List.replicate m z.cells.toList).flatten (.slice (some ⟨w.heap.size,0,none⟩) (n+m) (grownCap w (n+m) old e)) (w.drew.alloc (.cells (olds.toArray++Builtin.zeroCells z.cells m++Builtin.zeroCells z.cells (grownCap w (n+m) old e-(n+m))) e)):=by
  intro old hol
  have hge:=grownCap_ge w (n+m) old e
  have hlen:(olds++(List.replicate m z.cells.toList).flatten).length=(n+m)*i.size:=by rw[List.length_append,hol,hnews,Nat.add_mul]
  refine .fresh _ _ hge (grownCap_le_maxLen w (n+m) old e h63) ?_ ?_
  ·simp only[Array.size_append,List.size_toArray,size_zeroCells,hzs,hol,← Nat.add_mul]
   congr 1
   omega
  ·simp only[Array.toList_append,List.append_assoc,hzc]
   rw[← List.append_assoc,← hlen]
   exact List.take_left
 by_cases hm:m=0
 ·subst hm
  rcases hs with⟨rfl,rfl,rfl⟩ | ⟨g,cap,cur,rfl,hg,hnc,hcm,hcs,htake⟩
  ·refine⟨_,_,?_,.none rfl rfl rfl⟩
   simp[Builtin.append_,run_underlying ht,run_underlying htn,sizeOf,typeInfo,hi,Go.asInt,asIntOf,IntKind.wrap_i64]
  ·have hfit:n*i.size≤cur.size:=by rw[hcs];exact Nat.mul_le_mul_right _ hnc
   refine⟨_,_,?_,.room g cap cur e' hg rfl (by simpa using hnc) (by simpa using hfit)⟩
   have hst:=run_storeCells_at P g (n*i.size) e' [] 0 cur w hg (by simpa using hfit) (by simp)
   simp only[Nat.add_zero] at hst
   simp[Builtin.append_,run_underlying ht,run_underlying htn,sizeOf,typeInfo,hi,Go.asInt,asIntOf,IntKind.wrap_i64,hnc,Addr.add_lit,hst,Gl]
 ·have hns:¬ (m=0∨i.size=0):=by omega
  have hms:¬ (m*i.size=0):=Nat.mul_ne_zero hm (by omega)
  rcases hs with⟨rfl,rfl,rfl⟩ | ⟨g,cap,cur,rfl,hg,hnc,hcm,hcs,htake⟩
  ·refine⟨_,_,?_,grown 0 (by simp)⟩
   have hm0:¬ m=0:=hm
   have h63':¬ (9223372036854775807<(m:Int)):=by simp only[maxLen] at h63;omega
   have h48':¬ (281474976710656<Builtin.nextslicecap m 0*i.bytes):=by
    have:=growslice_fits (need:=m) (old:=0) (bytes:=i.bytes) (by omega) (by simpa using hbytes)
    omega
   simp[Builtin.append_,run_underlying ht,run_underlying htn,sizeOf,typeInfo,zeroValue,hi,hz,Go.asInt,asIntOf,hw,hm0,hneg,hms,h63',h48',h48i,Question.forced,run_firstCells_none,newRow,grownCap]
  ·have hol:olds.length=n*i.size:=by
    rw[← htake,List.length_take,Array.length_toList,hcs]
    exact Nat.min_eq_left (Nat.mul_le_mul_right _ hnc)
   by_cases hroom:n+m≤cap
   ·have hfit:n*i.size+((List.replicate m z.cells.toList).flatten).length≤cur.size:=by rw[hnews,hcs,← Nat.add_mul];exact Nat.mul_le_mul_right _ hroom
    refine⟨_,_,?_,.room g cap cur e' hg rfl hroom hfit⟩
    have hst:=run_storeCells_at P g (n*i.size) e' _ 0 cur w hg (by simpa using hfit) one
    simp only[Nat.add_zero] at hst
    simp[Builtin.append_,run_underlying ht,run_underlying htn,sizeOf,typeInfo,zeroValue,hi,hz,Go.asInt,asIntOf,hw,hneg,hms,h48i,hroom,Addr.add_lit,hzc,hst,Gl]
   ·have holds:∀ j u,olds[j]?=some u→w.drew.cell? ((⟨g,0,none⟩:Addr).add j)=some u:=fun j u hj=>by
     have:=Abx hg 0 (n*i.size) j u (by rw[List.drop_zero,htake];exact hj)
     exact this
    have hfo:=run_firstCells_some (P:=P) w.drew i.size n ⟨g,0,none⟩ n cap olds hol holds
    refine⟨_,_,?_,grown cap hol⟩
    have hn:¬ (n+m≤cap):=hroom
    have h63':¬ (9223372036854775807<((n:Int)+(m:Int))):=by simp only[maxLen] at h63;omega
    have h48':¬ (281474976710656<Builtin.nextslicecap (n+m) cap*i.bytes):=by
     have:=growslice_fits (need:=n+m) (old:=cap) (bytes:=i.bytes) (by omega) hbytes
     omega
    simp[Builtin.append_,run_underlying ht,run_underlying htn,sizeOf,typeInfo,zeroValue,hi,hz,Go.asInt,asIntOf,hw,hn,hneg,hms,h63',h48',h48i,Question.forced,hfo,newRow,grownCap]
theorem Bng:∀ (t:Ty),∀ u∈O9 t,u.oneCell'=true:=fun t=>DR.one (w:=default) (ok:=fun _=>True) (DR.zero t)
theorem Bes{T T':TypeId}{x y:Operand}(ho:o.op=.call { callee:=.builtin .append,args:=#[x,y],argTypes:=#[T,T'] }){v':Value}{w':World}
  (hr:(Builtin.append_ #[T,T'] o.type #[a.eval x,a.eval y]).run K.P w=.ok v' w'):(execOp a.eval o).run K.P w=.ok (.value v') w':=by
 simp only[execOp,ho,resolve,invoke,builtin,Sem.run_bind,Sem.run_pure,Result.andThen_ok,List.map_toArray,List.map_cons,List.map_nil,hr]
theorem Bxq(h:Hi K S used γ a w)(hB:∀ b,K.B b→b<K.base)(hid:∀ v,¬ used base v){T T':TypeId}{t:Ty}{x y:Operand}{n:Int}{k kn:IntKind}
  (ho:o.op=.call { callee:=.builtin .append,args:=#[x,y],argTypes:=#[T,T'] }) (hx:A0 x=true) (hy:a.eval y=.int k n) (hT:T1 K.P (.slice t) T=true) (hT':T1 K.P (.int kn) T'=true)
  (hl:Ba K.C S.objs (Bw6 (S.eval x) n t base) [] (v,u) l):Pt K S used γ a w o v u base:=by
 have hvx:=Bo h x hx
 obtain⟨e,ht,he⟩:=Hy hT
 obtain⟨i,z,hi,hisz,hiby,hz,hzc,_⟩:=Kz (Tn he)
 have hzs:z.cells.size=i.size:=by rw[← Array.length_toList,hzc,Fa,hisz]
 have hrows:∀ (fr:Bool) (m:Nat),B5 (DR w (Ah9 K (An S.objs) γ fr) t) t.size (List.replicate m z.cells.toList).flatten (List.replicate m t.zero):=fun fr m=>by
  rw[hzc]
  exact B5.replicate (Fa t) (DR.zero t) m
 unfold Bw6 at hl
 split at hl
 ·rename_i id ver heq
  obtain⟨ob,hob,hl⟩:=hl
  dsimp only at hl
  split at hl
  ·rename_i ver' fr u' rows
   split at hl
   ·rename_i old h1 hy1
    obtain rfl:=Nat.eq_of_beq_eq_true h1
    obtain⟨e1,rfl⟩:=Cs hy1
    cases e1
    obtain⟨hr,hl⟩:=C3 hl
    simp only[Bool.and_eq_true,decide_eq_true_eq] at hr
    obtain⟨⟨hn0,hr⟩,hbare⟩:=hr
    obtain⟨r1,r2,r3⟩:=Ym hr
    obtain⟨e1,_⟩:=hl;cases e1
    rw[heq] at hvx
    obtain⟨hus,hna,hval⟩:=Arc hvx
    have hval:a.eval x=γ id:=hval t _ (Ft _ ver' fr t rows (.inl hob))
    obtain⟨e',olds,hs,hro⟩:=Cdj h e hob
    obtain⟨v',w',q1,q2⟩:=Byk (P:=K.P) w T T' o.type e e' i z kn k ht (Ael hT') hi hz hzs (by rw[hisz];exact r1) (by rw[hzc];exact Bng t) (γ id) (List.length rows) olds (by
     rcases hs with hs | ⟨g,cap,cur,k1,k2,k3,k4,k5,k6,_⟩
     ·exact .inl hs
     ·exact .inr ⟨g,cap,cur,k1,k2,k3,k4,by rw[hisz];exact k5,by rw[hisz];exact k6⟩) n.toNat (by omega)
     (Nat.le_trans (Nat.mul_le_mul_left _ hiby) r3)
    rw[hisz] at q2
    have hlen:(List.replicate n.toNat t.zero).length=n.toNat:=by simp
    rw[← hlen] at q2
    have:=Bti (o:=o) (base:=base) h hB hob ⟨_,hus⟩ hs hro (hrows true (List.replicate n.toNat t.zero).length |> fun h=>by rw[hlen] at h⊢;exact h) q2 (Bes ho (by rw[hval,hy];rw[Int.toNat_of_nonneg hn0] at q1;exact q1))
    simpa using this
   ·exact hl.elim
  ·exact hl.elim
 ·rename_i heq
  obtain⟨hr,hl⟩:=C3 hl
  simp only[Bool.and_eq_true,decide_eq_true_eq] at hr
  obtain⟨⟨hn0,hr⟩,hbare⟩:=hr
  obtain⟨r1,r2,r3⟩:=Ym hr
  obtain⟨e1,_⟩:=hl;cases e1
  rw[heq] at hvx
  have hval:a.eval x=.slice none 0 0:=by
   obtain⟨k1,k2⟩:=(show G7 _ .nils _ from hvx)
   rw[Bq k2.symm] at k1
   simpa [ARc] using k1
  obtain⟨v',w',q1,q2⟩:=Byk (P:=K.P) w T T' o.type e e i z kn k ht (Ael hT') hi hz hzs (by rw[hisz];exact r1) (by rw[hzc];exact Bng t) (.slice none 0 0) 0 [] (.inl ⟨rfl,rfl,rfl⟩) n.toNat (by omega)
   (Nat.le_trans (Nat.mul_le_mul_left _ hiby) (by simpa using r3))
  rw[hisz] at q2
  have hlen:(List.replicate n.toNat t.zero).length=n.toNat:=by simp
  rw[← hlen] at q2
  have:=Bhw (o:=o) (base:=base) h hB hid (hrows true (List.replicate n.toNat t.zero).length |> fun h=>by rw[hlen] at h⊢;exact h) q2 (Bes ho (by rw[hval,hy];rw[Int.toNat_of_nonneg hn0] at q1;exact q1))
  simpa using this
 ·exact hl.elim
theorem Cbo(h:Hi K S used γ a w)(hB:∀ b,K.B b→b<K.base){T:TypeId}{x:Operand}{lo hi mx:Option Operand}{i j m:Option Int}(ho:o.op=.slice T x lo hi mx)(hx:A0 x=true)
  (hlo:∀ x,lo=some x→A0 x=true) (hhi:∀ x,hi=some x→A0 x=true) (hri:Jo (lo.map S.eval)=some i) (hrj:Jo (hi.map S.eval)=some j)
  (hmx:∀ x,mx=some x→A0 x=true) (hrm:Jo (mx.map S.eval)=some m)
  (hT:∀ T t,K.G.ty T=some t→T1 K.P t T=true)
  (hsl:∀ i' j',Ba K.C S.objs (Bew (S.eval x) (K.G.ty T) i' j' m) [] (v,u) l→i'=i→j'=j→Pt K S used γ a w o v u base)
  (hl:Ba K.C S.objs (Cc6 (S.eval x) (K.G.ty T) i j m) [] (v,u) l):Pt K S used γ a w o v u base:=by
 unfold Cc6 at hl
 split at hl
 ·rename_i id ver t' hh heq hG
  have hv:=Bo h x hx
  rw[heq] at hv
  obtain⟨hus,hna,hval⟩:=Arc hv
  obtain⟨ob,hob,hl⟩:=hl
  dsimp only at hl
  split at hl
  ·rename_i ver' fr t rows
   cases hc:(Nat.beq ver' ver&&Ty.beq t t') with
   | false=>rw[hc] at hl;exact hl.elim
   | true =>
    rw[hc] at hl
    simp only[Bool.and_eq_true,Nat.beq_eq] at hc
    obtain⟨rfl,h2⟩:=hc
    obtain rfl:=Ty.beq_iff.1 h2
    obtain⟨hq,hl⟩:=C3 hl
    simp only[Bool.and_eq_true,decide_eq_true_eq] at hq
    obtain⟨e1,_⟩:=hl;cases e1
    have hval:a.eval x=γ id:=hval t _ (Ft _ ver' fr t rows (.inl hob))
    obtain⟨q,rfl⟩:∃ q:Nat,hh=q:=⟨hh.toNat,by omega⟩
    have hq2:q≤rows.length:=by have:=hq.2;omega
    have hlo0:lo.map a.eval=none:=by
     cases lo with
     | none=>rfl
     | some z =>
      simp only[Option.map_some,Jo] at hri
      split at hri<;>cases hri
    have hmx0:mx.map a.eval=none:=by
     cases mx with
     | none=>rfl
     | some z =>
      simp only[Option.map_some,Jo] at hrm
      split at hrm<;>cases hrm
    obtain⟨e,k1,k2⟩:=Hy (hT _ _ hG)
    have hs:=Lu w k2
    have hrun:∀ (ad:Option Addr) (len cap:Nat),q≤cap→(Instr.sliceAt T (.slice ad len cap) (lo.map a.eval) (hi.map a.eval) (mx.map a.eval)).run K.P w=.ok (.slice ad q cap) w:=by
     intro ad len cap hqc
     have hb:=Av3 (P:=K.P) w true (len:=len) (cap:=cap) (lo:=0) (hi:=q) (l:=lo.map a.eval) (h:=hi.map a.eval) (.inl ⟨hlo0,rfl⟩) (Gc h hhi hrj (.inr rfl)) (Nat.zero_le _) hqc
     rw[hmx0]
     simp only[Instr.sliceAt,run_underlying k1,Instr.slice,Sem.run_bind,hb,hs,Result.andThen_ok,Sem.run_pure,Nat.zero_mul,Nat.sub_zero]
     cases ad with
     | none=>simp
     | some ad=>simp[Addr.add]
    have hown:=h.objs id _ hob
    obtain⟨hv',hrv,hO⟩:∃ hv',(Instr.sliceAt T (γ id) (lo.map a.eval) (hi.map a.eval) (mx.map a.eval)).run K.P w=.ok hv' w ∧
      ((hv'=.slice none 0 0∧γ id=.slice none 0 0∧rows=[])∨∃ g cap cur e,γ id=.slice (some ⟨g,0,none⟩) rows.length cap∧hv'=.slice (some ⟨g,0,none⟩) q cap∧w.heap[g]?=some (.cells cur e (0,0)) ∧
       rows.length≤cap∧cap≤maxLen∧cur.size=cap*t.size∧B5 (DR w (Ah9 K (An S.objs) γ fr) t) t.size (cur.toList.take (rows.length*t.size)) rows∧(fr=true→K.base≤g)):=by
     rcases hown with⟨p1,p2⟩ | ⟨g,cap,cur,e,p1,p2,p3,p4,p5,p6,p7⟩
     ·have p1:γ id=_:=p1
      subst p2
      obtain rfl:q=0:=by simpa using hq2
      rw[p1]
      exact⟨_,hrun none 0 0 (Nat.le_refl _),.inl ⟨rfl,rfl,rfl⟩⟩
     ·have p1:γ id=_:=p1
      have p3:rows.length≤cap:=p3
      rw[p1]
      exact⟨_,hrun _ _ _ (by omega),.inr ⟨g,cap,cur,e,rfl,rfl,p2,p3,p4,p5,p6,p7⟩⟩
    have hrel:=h.renew hB (fr':=fr) (rows':=rows.take q) hob (hv:=hv') (w':=w) (Nat.le_refl _) (fun _ _ _=>rfl) ⟨rfl,rfl,rfl⟩
     (fun g hg=>by
      rcases hO with⟨p1,_,_⟩ | ⟨g',cap,cur,e,p1,p2,_⟩
      ·rw[p1] at hg;simp[Bg] at hg
      ·rw[p2] at hg
       rw[p1]
       exact .inl hg)
     (fun E' hs' hE=>by
      have hw':E'.w=w:=by rw[hE];rfl
      have hγ:E'.γ id=hv':=by rw[hE];exact if_pos rfl
      show Ccp E' fr t (rows.take q) K.base (E'.γ id)
      rw[hγ]
      rcases hO with⟨p1,_,p3⟩ | ⟨g,cap,cur,e,p1,p2,p3,p4,p5,p6,p7,p8⟩
      ·exact .inl ⟨p1,by rw[p3];simp⟩
      ·have hl2:(rows.take q).length=q:=by simp;omega
       refine .inr ⟨g,cap,cur,e,by rw[hl2];exact p2,by rw[hw'];exact p3,by rw[hl2];omega,p5,p6,?_,p8⟩
       rw[hl2]
       have:=(p7.take q).mono fun _ _ hd=>DR.move (fun b hb ho=>hs'.ok fr b hb ho) hd
       rw[List.take_take,Nat.min_eq_left (Nat.mul_le_mul_right _ hq2)] at this
       exact this)
    refine⟨_,hv',w,_,_,?_,.inl rfl,?_,hrel,?_⟩
    ·simp only[execOp,ho,hval,Sem.run_bind,hrv,Result.andThen_ok,Sem.run_pure]
    ·have ha':C7 hv'=false:=by rcases hO with⟨p1,_⟩ | ⟨_,_,_,_,_,p1,_⟩<;>rw[p1]<;>rfl
     have h1':hv'.oneCell'=true:=by rcases hO with⟨p1,_⟩ | ⟨_,_,_,_,_,p1,_⟩<;>rw[p1]<;>rfl
     exact Dh (a:=.own id (ver'+1)) ⟨.inr ⟨rfl,rfl⟩,hv',rfl,h1',fun _ _ _=>(if_pos rfl:upd γ id hv' id=hv').symm⟩ rfl ha'
    ·rintro id' v2 (hv2 | ⟨rfl,rfl⟩)
     ·exact .inl ⟨v2,hv2⟩
     ·exact .inl ⟨_,hus⟩
  ·exact hl.elim
 ·exact hsl _ _ hl rfl rfl
end
end Go.Pon
namespace Go.Pon
open Go
section
variable {K:Dq} {S:St} {used:Id→Nat→Prop} {γ:Id→Value} {a:Act} {w:World} {o:Oper} {base:Id} {v:AV} {u:Rc} {l:List Id}
theorem Hi.refreeze(h:Hi K S used γ a w){id:Id}{ver:Nat}{fr:Bool}{t:Ty}{rows:List t.den}(ho:An S.objs id=some (.sli ver fr t rows)){g n cap:Nat}(hγ:γ id=.slice (some ⟨g,0,none⟩) n cap){w':World}
  (hsize:w'.heap.size=w.heap.size) (hkeep:∀ b,b≠g→w'.heap[b]?=w.heap[b]?) (hos:w'.os=w.os∧w'.tape=w.tape∧w'.output=w.output)
  (hor:∀ E',Wy (Bi K S.objs used γ w) E'→E'=Bi K ((id,some (.frz ver fr t rows))::S.objs) used γ w'→E'.ok fr g∨(fr=true∧¬ K.base≤g)→OR K E' id (.frz ver fr t rows)) :
  Hi K { S with objs:=(id,some (.frz ver fr t rows))::S.objs } used γ a w':=by
 have hlook:∀ j,An ((id,some (Obj.frz ver fr t rows))::S.objs) j=if id=j then some (.frz ver fr t rows) else An S.objs j:=fun j=>L6 ..
 have hg:Bg (An S.objs id) (γ id)=some g:=by rw[ho,hγ];rfl
 have hlv:∀ j b,Bg (An ((id,some (Obj.frz ver fr t rows))::S.objs) j) (γ j)=some b→j≠id∧Bg (An S.objs j) (γ j)=some b:=by
  intro j b hb
  rw[hlook] at hb
  by_cases e:id=j
  ·rw[if_pos e] at hb;cases hb
  ·rw[if_neg e] at hb
   exact⟨fun e'=>e e'.symm,hb⟩
 have hs:Wy (Bi K S.objs used γ w) (Bi K ((id,some (.frz ver fr t rows))::S.objs) used γ w'):=by
  refine⟨Nat.le_of_eq hsize.symm,fun f b hb hok=>⟨⟨fun j hj=>hok.1 j (hlv j b hj).2,hok.2⟩,hkeep b fun e=>hok.1 id (by rw[e];exact hg)⟩,fun j v hj=>hj,fun j v hj t' n' hsl=>?_,fun j hj t' hmm=>?_,fun j hj kk t' hmm=>?_⟩
  ·have hsl:Agt (An ((id,some (Obj.frz ver fr t rows))::S.objs) j) v t' n':=hsl
   rw[hlook] at hsl
   by_cases e:id=j
   ·subst e
    rw[if_pos rfl] at hsl
    obtain⟨f2,r2,h1,h2⟩:=hsl
    rcases h2 with h2|h2
    ·cases h2
    ·cases h2
     exact⟨⟨fr,rows,h1,.inl ho⟩,rfl⟩
   ·rw[if_neg e] at hsl
    exact⟨hsl,rfl⟩
  ·have hmm:Au6 (An ((id,some (Obj.frz ver fr t rows))::S.objs) j) t':=hmm
   rw[hlook] at hmm
   by_cases e:id=j
   ·rw[if_pos e] at hmm
    obtain⟨_,_,h2⟩:=hmm
    rcases h2 with h2|h2<;>cases h2
   ·rw[if_neg e] at hmm
    exact⟨hmm,rfl⟩
  ·have hmm:Br9 (An ((id,some (Obj.frz ver fr t rows))::S.objs) j) kk t':=hmm
   rw[hlook] at hmm
   by_cases e:id=j
   ·rw[if_pos e] at hmm
    obtain⟨_,h2⟩:=hmm
    cases h2
   ·rw[if_neg e] at hmm
    exact⟨hmm,rfl⟩
 refine h.move hs (fun j oj hj=>?_) (fun j oj hj=>?_) (fun j ver' f' t' rows2 v hj hu=>?_) (fun i j b hi hj=>?_) (fun i b hi=>?_) ?_
 ·rw[hlook] at hj
  by_cases e:id=j
  ·rw[if_pos e] at hj;cases hj;subst e
   refine hor _ hs rfl ?_
   by_cases hb:fr=true→K.base≤g
   ·refine .inl ⟨fun j hj=>?_,(h.mod id g hg).2,hb⟩
    obtain⟨q1,q2⟩:=hlv j g hj
    exact q1 (h.sep j id g q2 hg)
   ·refine .inr ?_
    cases fr with
    | true=>exact⟨rfl,fun h2=>hb fun _=>h2⟩
    | false=>exact absurd (fun h2=>by cases h2) hb
  ·rw[if_neg e] at hj
   exact OR.step hs rfl (fun b hb=>hkeep b fun eb=>e (h.sep id j g hg (by rw[hj];rw[← eb];exact hb))) (h.objs j oj hj)
 ·rw[hlook] at hj
  by_cases e:id=j
  ·subst e;exact h.ou id _ ho
  ·rw[if_neg e] at hj
   exact h.ou j oj hj
 ·rw[hlook] at hj
  by_cases e:id=j
  ·rw[if_pos e] at hj;cases hj
  ·rw[if_neg e] at hj
   exact h.vers j ver' f' t' rows2 v hj hu
 ·exact h.sep i j b (hlv i b hi).2 (hlv j b hj).2
 ·exact h.mod i b (hlv i b hi).2
 ·refine⟨hos.1.trans h.frame.os,hos.2.1.trans h.frame.tape,hos.2.2.trans h.frame.output,by rw[hsize];exact h.frame.size,fun b hb hbo=>?_⟩
  rw[hkeep b fun e=>?_]
  ·exact h.frame.block b hb hbo
  ·subst e
   rcases (h.mod id b hg).1 with h1|h1
   ·have:K.base=K.w0.heap.size:=rfl
    omega
   ·exact hbo h1
theorem Bu6(w:World)(ad:Addr)(n b:Nat)(hb:b≠ad.block):(w.freeze ad n).heap[b]?=w.heap[b]?:=by
 unfold World.freeze
 split
 ·rfl
 ·simp only[Array.getElem?_modify]
  rw[if_neg (fun e=>hb e.symm)]
theorem Cet(w:World)(g off n:Nat){cur:Array Value}{e:TypeId}{fz:Nat×Nat}(h:w.heap[g]?=some (.cells cur e fz)):∃ fz',(w.freeze ⟨g,off,none⟩ n).heap[g]?=some (.cells cur e fz'):=by
 unfold World.freeze
 split
 ·exact⟨fz,h⟩
 ·simp only[Array.getElem?_modify,if_true,h,Option.map_some]
  exact⟨_,rfl⟩
theorem Bzi(w:World)(ad:Addr)(n:Nat):(w.freeze ad n).heap.size=w.heap.size:=by
 unfold World.freeze
 split
 ·rfl
 ·simp
theorem Bv8(h:Hi K S used γ a w){T:TypeId}{x:Operand}(ho:o.op=.convert T T x)(hx:A0 x=true)(h1:T1 K.P (.slice (.int .u8)) T=true)
  (hl:Ba K.C S.objs (Bob (S.eval x)) [] (v,u) l):Pt K S used γ a w o v u base:=by
 unfold Bob at hl
 split at hl
 ·rename_i id ver heq
  have hv:=Bo h x hx
  rw[heq] at hv
  obtain⟨hus,hna,hval⟩:=Arc hv
  obtain⟨ob,hob,hl⟩:=hl
  dsimp only at hl
  split at hl
  ·rename_i ver' fr t rows
   cases hc:(Nat.beq ver' ver&&Ty.beq t (.int .u8)) with
   | false=>rw[hc] at hl;exact hl.elim
   | true =>
    rw[hc] at hl
    simp only[Bool.and_eq_true,Nat.beq_eq] at hc
    obtain⟨rfl,h2⟩:=hc
    obtain rfl:=Ty.beq_iff.1 h2
    obtain⟨hq,hl⟩:=C3 hl
    simp only[decide_eq_true_eq] at hq
    obtain⟨e1,_⟩:=hl;cases e1
    have hval:a.eval x=γ id:=hval _ _ (Ft _ ver' fr _ rows (.inl hob))
    obtain⟨el,u1,u2⟩:=Hy h1
    rcases h.objs id _ hob with⟨p1,p2⟩ | ⟨g,cap,cur,e,p1,p2,p3,p4,p5,p6,p7⟩
    ·subst p2;simp at hq
    ·have p1:γ id=_:=p1
     have p2:w.heap[g]?=_:=p2
     have hrun:(convert T T (γ id)).run K.P w=.ok (γ id) (w.freeze ⟨g,cur.size,none⟩ 1):=by
      rw[p1]
      have hsh:w.shape? g=some (e,cur.size):=by simp[World.shape?,p2]
      simp only[convert,Sem.run_bind,run_underlying u1,run_underlying (Ael u2),Result.andThen_ok,beq_self_eq_true]
      simp[markStringish,shape,freeze,Sem.run,hsh]
     obtain⟨fz,p8⟩:=Cet w g cur.size 1 p2
     have hrel:=h.refreeze hob p1 (w':=w.freeze ⟨g,cur.size,none⟩ 1) (Bzi ..) (fun b hb=>Bu6 _ _ _ _ hb) (by unfold World.freeze;exact⟨rfl,rfl,rfl⟩)
      (fun E' hs' hE hok=>by
       have hw':E'.w=w.freeze ⟨g,cur.size,none⟩ 1:=by rw[hE];rfl
       have hγ:E'.γ id=γ id:=by rw[hE];rfl
       have hok:E'.ok fr g:=by
        rcases hok with h3 | ⟨h3,h4⟩
        ·exact h3
        ·exact absurd (p7 h3) h4
       refine⟨?_,?_⟩
       ·rw[hγ,p1]
        refine⟨some ⟨g,0,none⟩,cap,rfl,p3,p4,(fun h=>by cases h),_,p6.mono fun _ _ hd=>DR.move (fun b hb ho=>hs'.ok fr b hb ho) hd,fun _=>⟨⟨g,0,none⟩,rfl,hok,fun j y hj=>?_⟩⟩
        rw[hw']
        simp only[World.cell?,Am6,p8]
        have:cur[j]?=some y:=by
         rw[List.getElem?_take] at hj
         split at hj
         ·simpa using hj
         ·cases hj
        by_cases hj0:j=0<;>simpa [Addr.add,hj0] using this
       ·intro a' n' c' hh
        rw[hγ,p1] at hh
        cases hh
        exact⟨rfl,rfl⟩)
     refine⟨_,γ id,_,used,γ,?_,.inl rfl,?_,hrel,Bck.refl _ _⟩
     ·simp only[execOp,ho,hval,Sem.run_bind,hrun,Result.andThen_ok,Sem.run_pure]
     ·exact Dh (a:=.own id ver') ⟨hus,γ id,rfl,by rw[p1];rfl,fun _ _ _=>rfl⟩ rfl (by rw[p1];rfl)
  ·exact hl.elim
 ·exact hl.elim
end
end Go.Pon
namespace Go.Pon
open Go
theorem Cgc{α:Type}{C:Ap}{objs:Rc}{frz:Bool}{v:AV}{t:Ty}{c:Cl}{k:Bool→t.den→Cl→OpT α}{l0 l:List Id}{r:α}(hl:Ba C objs (roK frz v t c k) l0 r l):Bfy v=true:=by
 cases v
 case any=>cases t<;>simp only[roK,Vl,Ba] at hl
 case un=>cases t<;>simp only[roK,Vl,Ba] at hl
 case tup _=>cases t<;>simp only[roK,Vl,Ba] at hl
 all_goals rfl
section
variable {K:Dq} {S:St} {used:Id→Nat→Prop} {γ:Id→Value} {a:Act} {w:World} {o:Oper} {base:Id} {v:AV} {u:Rc} {l:List Id}
theorem Cau{α:Type}{R:List Value→α→Prop}{n:Nat}{cs d:List Value}{xs:List α}{y:α}{i:Nat}(h:B5 R n cs xs)(hi:i<xs.length)(hd:d.length=n)(hy:R d y):B5 R n (Gl cs (i*n) d) (xs.set i y):=by
 have:=h.set i hi d y hd hy
 unfold Gl
 rwa [hd]
theorem Aop(h:Hi K S used γ a w){t:Ty}{nn:Nat}:∀ (ps:List (Nat×Operand)) (acc:List t.den) (fr:Bool) (c:Cl) (cells:Array Value) {k:List t.den→Bool→Cl→OpV} {l0:List Id} {r:AV×Rc},(∀ p∈ps,A0 p.2=true∧p.1<nn) →
  List.length acc=nn→Ab8 S true c→B5 (DR w (okL K S γ c fr) t) t.size cells.toList acc →
  Ba K.C S.objs (Ahn t (ps.map fun p=>(p.1,S.eval p.2)) acc fr c k) l0 r l →
  ∃ rows fr' c' l1 cells',Ba K.C S.objs (k rows fr' c') l1 r l∧Ab8 S true c'∧Ext c c'∧Dn c'.ups=Dn c.ups∧List.length rows=nn ∧
   Instr.fill (fun i=>some (i*t.size,t.size)) cells (ps.map fun p=>(p.1,a.eval p.2))=some cells'∧cells'.size=cells.size∧B5 (DR w (okL K S γ c' fr') t) t.size cells'.toList rows
 | [],acc,fr,c,cells,k,l0,r,_,hn,hc,hr,hl=>⟨acc,fr,c,l0,cells,hl,hc,Ext.refl c,rfl,hn,rfl,rfl,hr⟩
 | (i,x)::ps,acc,fr,c,cells,k,l0,r,hp,hn,hc,hr,hl=>by
  obtain⟨p1,p2⟩:=hp (i,x) (List.mem_cons_self ..)
  simp only[List.map_cons,Ahn] at hl
  have hsol:=Cgc hl
  obtain⟨f,y,c1,l1,hl,h1,h2,h3,h4,h5⟩:=Bgn h (S.eval x) t hc hl
  obtain⟨v1,v2⟩:=Zh hsol (Bo h x p1)
  have hd:=h5 _ v1
  have hlen:=DR.len hd
  simp only[Array.length_toList] at hlen
  have hcl:=hr.length
  simp only[Array.length_toList] at hcl
  have hfit:i*t.size+t.size≤cells.size:=by
   rw[hcl,hn]
   have:(i+1)*t.size≤nn*t.size:=Nat.mul_le_mul_right _ p2
   rwa [Nat.add_mul,Nat.one_mul] at this
  have hfa:=Byb (i*t.size) (a.eval x).cells cells (by omega)
  have hr1:B5 (DR w (okL K S γ c1 (fr&&(f||t.flat))) t) t.size ((a.eval x).cells.zipIdx.foldl (fun cs (c,j)=>cs.setIfInBounds (i*t.size+j) c) cells).toList (acc.set i y):=by
   rw[hfa]
   refine Cau (hr.mono fun _ _ hd=>DR.mono (fun b hb=>X0 h2 (by simp only[Bool.and_eq_true];exact fun h=>h.1) b hb) hd) (by rw[hn];exact p2) (by simpa using hlen) ?_
   cases hft:t.flat with
   | true=>exact DR.flat hft hd
   | false=>exact hd.mono fun b hb=>X0 (Ext.refl c1) (by simp only[Bool.and_eq_true,Bool.or_false];exact fun h=>h.2) b hb
  obtain⟨rows,fr',c',l2,cells',g1,g2,g3,g4,g5,g6,g7,g8⟩:=Aop h ps (acc.set i y) _ c1 _ (fun p hm=>hp p (List.mem_cons_of_mem _ hm)) (by simpa using hn) h1 hr1 hl
  refine⟨rows,fr',c',l2,cells',g1,g2,h2.trans g3,g4.trans h3,g5,?_,?_,g8⟩
  ·simp only[List.map_cons,Instr.fill]
   rw[if_neg (by simp;omega)]
   exact g6
  ·have:=congrArg List.length hfa
   rw[Au8 (by simp;omega)] at this
   simp only[Array.length_toList] at this
   rw[g7]
   exact this
theorem Bnd(h:Hi K S used γ a w)(hB:∀ b,K.B b→b<K.base)(hid:∀ v,¬ used base v){T:TypeId}{n:Nat}{ps:Array (Nat×Operand)}{t:Ty}(ho:o.op=.buildSlice T n ps)(hc:∀ p∈ps.toList,A0 p.2=true∧p.1<n)
  (hT:T1 K.P (.slice t) T=true) (hsm:n*t.size≤16777216) (hpos:0<t.size)
  (hl:Ba K.C S.objs (Ahn t (Tu (fun p=>(p.1,S.eval p.2)) ps.toList) (List.replicate n t.zero) true ⟨[],[]⟩ fun rows fr c=>.done (.own base 0,(base,some (.sli 0 fr t rows))::c.ups)) [] (v,u) l) :
  Pt K S used γ a w o v u base:=by
 rw[Bgj] at hl
 obtain⟨e,ht,he⟩:=Hy hT
 obtain⟨i,z,hi,hisz,hiby,hz,hzc,_⟩:=Kz (Tn he)
 have hzs:z.cells.size=t.size:=by rw[← Array.length_toList,hzc,Fa]
 have hmade:=Baw hzc n
 rw[hzs] at hmade
 have hstart:B5 (DR w (okL K S γ ⟨[],[]⟩ true) t) t.size (madeCells z.cells (n*t.size)).toList (List.replicate n t.zero):=by
  rw[hmade];exact B5.replicate (Fa t) (DR.zero t) n
 obtain⟨rows,fr,c,l1,cells,hl,g2,g3,g4,g5,g6,g7,g8⟩:=Aop h ps.toList (List.replicate n t.zero) true ⟨[],[]⟩ (madeCells z.cells (n*t.size)) hc (by simp) (Ab8.start S true) hstart hl
 obtain⟨e1,_⟩:=hl
 cases e1
 have hmv:Dn c.ups=[]:=g4
 have hcsz:cells.size=n*t.size:=by rw[g7];exact size_madeCells _ _
 have hpl:(ps.map fun (i,x)=>(i,a.eval x)).toList=ps.toList.map fun p=>(p.1,a.eval p.2):=by simp
 have hrun:(Instr.buildSlice T n (ps.map fun (i,x)=>(i,a.eval x))).run K.P w=.ok (.slice (some ⟨w.heap.size,0,none⟩) n n) (w.alloc (.cells cells e)):=by
  have hsm':¬ n*i.size>2 ^ 24:=by rw[hisz];omega
  by_cases hn:n=0
  ·subst hn
   have hps:ps=#[]:=by
    rcases Nat.eq_zero_or_pos ps.size with h0|h0
    ·exact Array.eq_empty_of_size_eq_zero h0
    ·have:=(hc ps[0] (by simp)).2
     omega
   subst hps
   have hcells:cells=#[]:=Array.eq_empty_of_size_eq_zero (by rw[hcsz];simp)
   subst hcells
   simp[Instr.buildSlice,run_underlying ht,sizeOf,typeInfo,hi,newRow,Instr.fill,Array.range_zero']
  ·have hpos':¬ n*i.size=0:=by rw[hisz];exact Nat.mul_ne_zero hn (by omega)
   refine run_buildSlice w T e n _ cells i z ht hi hz hsm' hpos' ?_
   rw[hisz,hpl]
   exact g6
 have hex:(execOp a.eval o).run K.P w=.ok (.value (.slice (some ⟨w.heap.size,0,none⟩) n n)) (w.alloc (.cells cells e)):=by
  simp only[execOp,ho,Sem.run_bind,hrun,Result.andThen_ok,Sem.run_pure]
 have hbase:K.base≤w.heap.size:=h.frame.size
 have hold:∀ b,b<w.heap.size→(w.alloc (.cells cells e)).heap[b]?=w.heap[b]?:=fun b hb=>Aq6 w _ b hb
 obtain⟨used',γ',r1,r2,r3,_⟩:=h.after hB g2 (w':=w.alloc (.cells cells e)) (M:=[(base,.sli 0 fr t rows,.slice (some ⟨w.heap.size,0,none⟩) n n)])
  (ok:=fun f b=>okL K S γ c f b∧b<w.heap.size) (by simp) (fun b hb _=>hold b hb) ⟨rfl,rfl,rfl⟩
  (fun p hp=>by
   obtain rfl:=List.mem_singleton.1 hp
   exact .inl hid)
  (fun p hp=>by
   obtain rfl:=List.mem_singleton.1 hp
   trivial)
  (by simp) (by simp[I6.blk,Bg])
  (fun g hg=>by
   simp[I6.blk,Bg] at hg
   exact .inr (by omega))
  (fun f b ⟨hb,hlt⟩=>by
   refine⟨?_,hb.2.1,hb.2.2,fun id hid'=>?_⟩
   ·simp[I6.blk,Bg];omega
   ·obtain⟨j1,j2,j3⟩:=Z5 (g2.left id) hid'
    have:=Baj g2 (hb.1 id j1) (γ id)
    rw[this] at hid'
    cases hid')
  (fun K' E hp p hpm=>by
   obtain rfl:=List.mem_singleton.1 hpm
   obtain⟨a1,a2,a3⟩:=hp.at_ _ (List.mem_singleton.2 rfl)
   have a2:E.γ base=_:=a2
   refine .inr ⟨w.heap.size,n,cells,e,by rw[a2,g5],by rw[hp.w];exact heap_alloc_new w _,by rw[g5];exact Nat.le_refl _,?_,hcsz,?_,fun _=>by rw[hp.base];exact hbase⟩
   ·have:n*1≤n*t.size:=Nat.mul_le_mul_left _ hpos
    simp only[maxLen]
    omega
   ·rw[List.take_of_length_le (by rw[Array.length_toList,hcsz,g5];exact Nat.le_refl _),hp.w]
    exact g8.mono fun _ _ hd=>DR.move (fun b hb ho=>⟨hp.ok _ _ ⟨ho,hb⟩,hold b hb⟩) hd)
 have hob:Fg (I6.ups [(base,Obj.sli 0 fr t rows,Value.slice (some ⟨w.heap.size,0,none⟩) n n)]) (Fg c.ups S.objs)=Fg ((base,some (.sli 0 fr t rows))::c.ups) S.objs:=rfl
 rw[hob] at r1 r2
 refine⟨_,_,_,used',γ',hex,.inl rfl,?_,r1,fun id v hv=>?_⟩
 ·obtain⟨a1,a2,a3⟩:=r2.at_ _ (List.mem_singleton.2 rfl)
  have a2:γ' base=_:=a2
  exact Dh (a:=.own base 0) ⟨a3,_,rfl,rfl,fun _ _ _=>a2.symm⟩ rfl rfl
 ·rcases r3 id v hv with hv | ⟨p,hp,rfl⟩
  ·exact .inl ⟨v,hv⟩
  ·obtain rfl:=List.mem_singleton.1 hp
   exact .inr ⟨rfl,rfl⟩
theorem Bwn(h:Hi K S used γ a w)(hB:∀ b,K.B b→b<K.base){T:TypeId}{n:Nat}{ps:Array (Nat×Operand)}{t:Ty}(ho:o.op=.build T ps)(hc:∀ p∈ps.toList,A0 p.2=true∧p.1<n)
  (hT:T1 K.P (.arr n t) T=true)
  (hl:Ba K.C S.objs (Ahn t (Tu (fun p=>(p.1,S.eval p.2)) ps.toList) (List.replicate n t.zero) true ⟨[],[]⟩ fun rows fr c=>.done (.d fr (.arr n t) rows,c.ups)) [] (v,u) l) :
  Pt K S used γ a w o v u base:=by
 rw[Bgj] at hl
 obtain⟨inf,z,i1,i2,_,i3,i4,i5⟩:=Kz (Tn hT)
 obtain⟨e,u1,u2⟩:=Aez hT
 obtain⟨ie,ze,j1,j2,_⟩:=Kz (Tn u2)
 have hstart:B5 (DR w (okL K S γ ⟨[],[]⟩ true) t) t.size z.cells.toList (List.replicate n t.zero):=by
  rw[i4]
  have hz:DR w (okL K S γ ⟨[],[]⟩ true) (.arr n t) _ _:=DR.zero (.arr n t)
  exact hz.2
 obtain⟨rows,fr,c,l1,cells,hl,g2,g3,g4,g5,g6,g7,g8⟩:=Aop h ps.toList (List.replicate n t.zero) true ⟨[],[]⟩ z.cells hc (by simp) (Ab8.start S true) hstart hl
 obtain⟨e1,_⟩:=hl
 cases e1
 have hpl:(ps.map fun (i,x)=>(i,a.eval x)).toList=ps.toList.map fun p=>(p.1,a.eval p.2):=by simp
 have hcl:K.P.built T (ps.map fun (i,x)=>(i,a.eval x)).toList=some cells:=by
  rw[hpl]
  simp only[Program.built,i1,u1,i3,j1,j2]
  exact g6
 have hex:(execOp a.eval o).run K.P w=.ok (.value (.agg cells)) w:=by
  simp only[execOp,ho,Sem.run_bind,run_build w T _ cells hcl,Result.andThen_ok,Sem.run_pure]
 obtain⟨used',γ',r1,r2,r3,_⟩:=h.after hB g2 (w':=w) (M:=[]) (ok:=fun f b=>okL K S γ c f b) (Nat.le_refl _) (fun b hb _=>rfl) ⟨rfl,rfl,rfl⟩
  (fun p hp=>by cases hp) (fun p hp=>by cases hp) (by simp) (by simp[I6.blk]) (fun g hg=>by simp[I6.blk] at hg)
  (fun f b hb=>by
   refine⟨by simp[I6.blk],hb.2.1,hb.2.2,fun id hid'=>?_⟩
   obtain⟨j1,j2,j3⟩:=Z5 (g2.left id) hid'
   have:=Baj g2 (hb.1 id j1) (γ id)
   rw[this] at hid'
   cases hid')
  (fun K' E hp p hpm=>by cases hpm)
 have hob:Fg (I6.ups []) (Fg c.ups S.objs)=Fg c.ups S.objs:=rfl
 rw[hob] at r1 r2
 refine⟨_,_,_,used',γ',hex,.inl rfl,?_,r1,fun id v hv=>?_⟩
 ·refine Am8 (t:=.arr n t) (by simp[Bh,Ty.beq_iff]) ?_ rfl
  exact⟨g5,g8.mono fun _ _ hd=>DR.mono (fun b hb=>r2.ok _ _ hb) hd⟩
 ·rcases r3 id v hv with hv | ⟨p,hp,_⟩
  ·exact .inl ⟨v,hv⟩
  ·cases hp
end
end Go.Pon
namespace Go.Pon
open Go
def By0(P:Program)(k:IntKind)(t:Ty)(T:TypeId):Bool :=
 match P.underlying T with
 | some (.map a b)=>(match P.underlying a with
  | some (.int l)=>kEq k l
  | _=>false)&&T1 P t b
 | _=>false
theorem Bhf{P:Program}{k:IntKind}{t:Ty}{T:TypeId}(h:By0 P k t T=true) :
  ∃ a b,P.underlying T=some (.map a b)∧P.underlying a=some (.int k)∧T1 P t b=true:=by
 unfold By0 at h
 split at h
 ·rename_i a b hT
  simp only[Bool.and_eq_true] at h
  obtain⟨h1,h2⟩:=h
  split at h1
  ·rename_i l hl
   exact⟨a,b,hT,by rw[Amq.1 h1];exact hl,h2⟩
  ·cases h1
 ·cases h
theorem Ayc{w:World}{k:IntKind}{t:Ty}{x:Int}:∀ {es:List MapEntry} {l:List (Int×t.den)} (i:Nat),At3 w k t es l →
  (Instr.findNow (.int k) (.int k x) es i=some none∧(∀ d,Rn d l x=d)∧∀ y,K4 l x y=l++[(x,y)]) ∨
  ∃ j e,Instr.findNow (.int k) (.int k x) es i=some (some (i+j,e.val))∧es[j]?=some e∧e.key=.int k x ∧
   (∀ d,DR w (fun _=>False) t e.val.cells.toList (Rn d l x))∧C7 e.val=t.agg ∧
   ∀ (v':Value) (y:t.den),inK k x→DR w (fun _=>False) t v'.cells.toList y→C7 v'=t.agg→At3 w k t (es.set j { e with key:=.int k x,val:=v' }) (K4 l x y)
 | [],[],i,_=>.inl ⟨rfl,fun _=>rfl,fun _=>rfl⟩
 | e::es,p::l,i,⟨h1,h2,h3,h4,h5⟩=>by
  by_cases hx:p.1=x
  ·subst hx
   refine .inr ⟨0,e,by simp[Instr.findNow,Instr.sameNow,h1],rfl,h1,fun d=>?_,h4,fun v' y hk hd ha=>?_⟩
   ·have:Rn d (p::l) p.1=p.2:=by simp[Rn]
    rw[this];exact h3
   ·have:K4 (p::l) p.1 y=(p.1,y)::l:=by simp[K4]
    rw[this]
    exact⟨rfl,hk,hd,ha,h5⟩
  ·have hs:Instr.sameNow (.int k) (.int k x) e.key=some false:=by
    rw[h1]
    simp[Instr.sameNow]
    exact fun h=>hx h.symm
   have hg:∀ d,Rn d (p::l) x=Rn d l x:=fun d=>by simp[Rn,hx]
   have hp:∀ y,K4 (p::l) x y=p::K4 l x y:=fun y=>by simp[K4,hx]
   rcases Ayc (x:=x) (i+1) h5 with⟨k1,k2,k3⟩ | ⟨j,e',k1,k2,k3,k4,k5,k6⟩
   ·exact .inl ⟨by simp only[Instr.findNow,hs,k1],fun d=>by rw[hg,k2],fun y=>by rw[hp,k3];rfl⟩
   ·refine .inr ⟨j+1,e',by simp only[Instr.findNow,hs,k1];congr 3;omega,by simpa using k2,k3,fun d=>by rw[hg];exact k4 d,k5,fun v' y hk hd ha=>?_⟩
    rw[hp]
    exact⟨h1,h2,h3,h4,k6 v' y hk hd ha⟩
 | [],_::_,_,h=>h.elim
 | _::_,[],_,h=>h.elim
theorem At3.snoc{w:World}{k:IntKind}{t:Ty}{e:MapEntry}{p:Int×t.den}(h1:e.key=.int k p.1)(h2:inK k p.1)(h3:DR w (fun _=>False) t e.val.cells.toList p.2)(h4:C7 e.val=t.agg) :
  ∀ {es:List MapEntry} {l:List (Int×t.den)},At3 w k t es l→At3 w k t (es++[e]) (l++[p])
 | [],[],_=>⟨h1,h2,h3,h4,trivial⟩
 | _::_,_::_,⟨k1,k2,k3,k4,k5⟩=>⟨k1,k2,k3,k4,At3.snoc h1 h2 h3 h4 k5⟩
 | [],_::_,h=>h.elim
 | _::_,[],h=>h.elim
theorem At3.len{w:World}{k:IntKind}{t:Ty}:∀ {es:List MapEntry} {l:List (Int×t.den)},At3 w k t es l→es.length=l.length
 | [],[],_=>rfl
 | _::_,_::_,⟨_,_,_,_,h⟩=>by simp[At3.len h]
 | [],_::_,h=>h.elim
 | _::_,[],h=>h.elim
section
variable {K:Dq} {S:St} {used:Id→Nat→Prop} {γ:Id→Value} {a:Act} {w:World} {o:Oper} {base:Id} {v:AV} {u:Rc} {l:List Id}
def An2(w:World)(g:Nat)(o:Go.Obj):World:={ w with heap:=w.heap.setIfInBounds g o }
theorem Av7(w:World)(g b:Nat)(o:Go.Obj)(h:b≠g):(An2 w g o).heap[b]?=w.heap[b]?:=by simp[An2,Ne.symm h]
theorem Byg(h:Hi K S used γ a w)(hB:∀ b,K.B b→b<K.base)(hid:∀ v,¬ used base v){T:TypeId}{k:IntKind}{t:Ty}(ho:o.op=.makeMap T none)(hf:t.flat=true) :
  Pt K S used γ a w o (.mapp base) [(base,some (.mpo k t []))] base:=by
 have hbase:K.base≤w.heap.size:=h.frame.size
 have hrel:=h.new (w':=w.alloc (.map #[] 0)) (id:=base) (o:=.mpo k t []) (hv:=.map (some w.heap.size)) hid (fun g hg=>by
   simp[Bg] at hg
   exact⟨hg.symm,fun hb=>by have:=hB _ hb;omega⟩) (by simp) (fun b hb=>Aq6 w _ b hb) (h.frame.alloc _)
  (fun E' hs' hE=>by
   have hw':E'.w=w.alloc (.map #[] 0):=by rw[hE];rfl
   have hγ:E'.γ base=.map (some w.heap.size):=by rw[hE];exact if_pos rfl
   exact⟨hf,w.heap.size,#[],0,hγ,by rw[hw'];exact heap_alloc_new w _,trivial⟩)
 refine⟨_,.map (some w.heap.size),_,_,_,?_,.inl rfl,?_,hrel,?_⟩
 ·simp only[execOp,ho,Sem.run_bind,Option.map_none,show (Instr.makeMap T none).run K.P w=.ok (.map (some w.heap.size)) (w.alloc (.map #[] 0)) from rfl,Result.andThen_ok,Sem.run_pure]
 ·exact Dh (a:=.mapp base) ⟨.inr ⟨rfl,rfl⟩,_,rfl,rfl,fun _ _ _=>(if_pos rfl:upd γ base (Value.map (some w.heap.size)) base=_).symm⟩ rfl rfl
 ·rintro id v (hv | ⟨rfl,rfl⟩)
  ·exact .inl ⟨v,hv⟩
  ·exact .inr ⟨rfl,rfl⟩
theorem Bio(h:Hi K S used γ a w){x:AV}{val:Value}(hv:E7 (Bi K S.objs used γ w) x val){m:Option (IntKind×Ty)}{kk:Id→(t:Ty)→IntKind→List (Int×t.den)→OpV}{l0:List Id}
  (hl:Ba K.C S.objs (Cj4 x m kk) l0 (v,u) l) :
  ∃ id k t xs g es clock l1,m=some (k,t)∧t.flat=true∧An S.objs id=some (.mpo k t xs)∧γ id=.map (some g)∧val=.map (some g)∧w.heap[g]?=some (.map es clock)∧At3 w k t es.toList xs ∧
   Ba K.C S.objs (kk id t k xs) l1 (v,u) l:=by
 unfold Cj4 at hl
 split at hl
 ·rename_i id k t
  obtain⟨ob,hob,hl⟩:=hl
  dsimp only at hl
  split at hl
  ·rename_i k' u' xs
   split at hl
   ·rename_i y h1 hy
    obtain⟨e,rfl⟩:=Cs hy
    cases e
    simp only[Bool.and_eq_true] at h1
    obtain rfl:=Amq.1 h1.1
    obtain⟨h0,g,es,clock,p1,p2,p3⟩:=h.objs id _ hob
    have p1:γ id=_:=p1
    obtain⟨⟨_,v0,e0,_,hv0⟩,ha⟩:G7 _ (.mapp id) val:=hv
    have hc:val.cells.toList=[val]:=Bq ha.symm
    rw[hc] at e0
    have e0:val=v0:=by simpa using e0
    subst e0
    have hval:val=γ id:=hv0 _ _ ⟨xs,hob⟩
    exact⟨id,k',t,xs,g,es,clock,_,rfl,h0,hob,p1,hval.trans p1,p2,p3,hl⟩
   ·exact hl.elim
  ·exact hl.elim
 ·exact hl.elim
theorem Ca9(h:Hi K S used γ a w){T:TypeId}{m x:Operand}(ho:o.op=.lookup T m x false)(hm:A0 m=true)(hx:A0 x=true)
  (hT:∀ k t,K.G.mapT T=some (k,t)→By0 K.P k t T=true) (hl:Ba K.C S.objs (Bvk (S.eval m) (K.G.mapT T) (S.eval x)) [] (v,u) l):Pt K S used γ a w o v u base:=by
 unfold Bvk at hl
 obtain⟨id,k,t,xs,g,es,clock,l1,hmt,h0,hob,p1,hval,p2,p3,hl⟩:=Bio h (Bo h m hm) hl
 obtain⟨ta,tb,t1,t2,t3⟩:=Bhf (hT k t hmt)
 split at hl
 ·rename_i k' n hx'
  obtain⟨hxv,hxk⟩:=Gf hx' (Bo h x hx)
  cases hk:kEq k' k with
  | false=>rw[hk] at hl;exact hl.elim
  | true =>
   rw[hk] at hl
   obtain rfl:=Amq.1 hk
   obtain⟨e,_⟩:=hl
   cases e
   have hck:(Instr.checkKey es.isEmpty 10000 ta (.int k' n)).run K.P w=.ok () w:=MapKept.run_checkKey t2 (show MapKept.IsKey (.int k') (.int k' n) from rfl) _ 9999
   have hgo:=MapKept.run_getObj_map (P:=K.P) p2
   obtain⟨z,z1,z2,z3⟩:=Azg (P:=K.P) w t3
   have key:∀ val',(Instr.lookup T (.map (some g)) (.int k' n) false).run K.P w=.ok val' w→DR w (fun _=>False) t val'.cells.toList (Rn t.zero xs n)→C7 val'=t.agg →
     Pt K S used γ a w o (.d true t (Rn t.zero xs n)) [] base:=by
    intro val' hrun hd ha
    refine⟨_,val',w,used,γ,?_,.inl rfl,?_,h,fun id v hv=>.inl ⟨v,hv⟩⟩
    ·simp only[execOp,ho,hval,hxv,Sem.run_bind,hrun,Result.andThen_ok,Sem.run_pure]
    ·exact Am8 (t:=t) (by simp[Bh,Ty.beq_iff]) (DR.flat h0 hd) ha
   rcases Ayc 0 p3 (x:=n) with⟨k1,k2,_⟩ | ⟨j,e,k1,k2,k3,k4,k5,_⟩
   ·refine key z ?_ ?_ z3
    ·have hfi:=MapKept.run_findKey (w:=w) t2 k1
     simp[Instr.lookup,run_underlying t1,hgo,hck,hfi,z1,Result.andThen]
    ·rw[k2,z2];exact DR.zero t
   ·refine key e.val ?_ (k4 _) k5
    have hfi:=MapKept.run_findKey (w:=w) t2 k1
    simp[Instr.lookup,run_underlying t1,hgo,hck,hfi,Result.andThen]
 ·exact hl.elim
theorem Cc1(h:Hi K S used γ a w){c:Call}{T:TypeId}{x:Operand}(ho:o.op=.call c)(hc:c.callee=.builtin .len)(hargs:c.args.toList=[x])(htys:c.argTypes.toList=[T])(hx:A0 x=true)
  (hT:∀ k t,K.G.mapT T=some (k,t)→By0 K.P k t T=true) (hl:Ba K.C S.objs (Cbh (S.eval x) (K.G.mapT T)) [] (v,u) l) :
  ∃ n:Int,v=Tf .i64 n∧u=[]∧inK .i64 n∧∀ ty,(Builtin.len_ #[T] ty #[a.eval x]).run K.P w=.ok (.int .i64 n) w:=by
 unfold Cbh at hl
 obtain⟨id,k,t,xs,g,es,clock,l1,hmt,h0,hob,p1,hval,p2,p3,hl⟩:=Bio h (Bo h x hx) hl
 obtain⟨ta,tb,t1,t2,t3⟩:=Bhf (hT k t hmt)
 obtain⟨hq,hl⟩:=C3 hl
 simp only[decide_eq_true_eq] at hq
 obtain⟨e,_⟩:=hl
 cases e
 refine⟨_,rfl,rfl,⟨?_,?_⟩,fun ty=>?_⟩
 ·simp only[IntKind.min,IntKind.signed,IntKind.bits];simp
 ·simp only[IntKind.max,IntKind.signed,IntKind.bits];simp;omega
 ·have hlen:=p3.len
  simp only[Array.length_toList] at hlen
  rw[hval]
  simp[Builtin.len_,run_underlying t1,MapKept.run_getObj_map p2,goInt,Result.andThen,hlen]
theorem Hi.setMap(h:Hi K S used γ a w){id:Id}{k:IntKind}{t:Ty}{xs ys:List (Int×t.den)}{g:Nat}{es:Array MapEntry}{clock:Nat}(ho:An S.objs id=some (.mpo k t xs))(hf:t.flat=true)(hγ:γ id=.map (some g))
  (hb:w.heap[g]?=some (.map es clock)) {es':Array MapEntry} {clock':Nat} (hr:At3 w k t es'.toList ys) :
  Hi K { S with objs:=(id,some (.mpo k t ys))::S.objs } used γ a (An2 w g (.map es' clock')):=by
 have hlook:∀ j,An ((id,some (.mpo k t ys))::S.objs) j=if id=j then some (.mpo k t ys) else An S.objs j:=fun j=>L6 ..
 have hgl:Bg (An S.objs id) (γ id)=some g:=by rw[ho,hγ];rfl
 have hlv:∀ j b,Bg (An ((id,some (.mpo k t ys))::S.objs) j) (γ j)=some b→Bg (An S.objs j) (γ j)=some b:=by
  intro j b hb
  rw[hlook] at hb
  by_cases e:id=j
  ·subst e
   rw[if_pos rfl,hγ] at hb
   rw[hgl]
   exact hb
  ·rwa [if_neg e] at hb
 have hgs:(An2 w g (.map es' clock')).heap[g]?=some (.map es' clock'):=(MapKept.heap_set hb).1
 have hs:Wy (Bi K S.objs used γ w) (Bi K ((id,some (.mpo k t ys))::S.objs) used γ (An2 w g (.map es' clock'))):=by
  refine⟨by simp[Bi,An2],fun fr b hb hok=>⟨⟨fun j hj=>hok.1 j (hlv j b hj),hok.2⟩,Av7 w g b _ fun e=>hok.1 id (e▸hgl)⟩,fun _ _ h=>h,fun j v hj t' n hsl=>⟨?_,rfl⟩,fun j hj t' hmm=>⟨?_,rfl⟩,fun j hj kk t' hmm=>⟨?_,rfl⟩⟩
  ·have hsl:Agt (An ((id,some (.mpo k t ys))::S.objs) j) v t' n:=hsl
   rw[hlook] at hsl
   by_cases e:id=j
   ·subst e
    rw[if_pos rfl] at hsl
    obtain⟨fr,rows,h1,h2⟩:=hsl
    rcases h2 with h2|h2<;>cases h2
   ·rwa [if_neg e] at hsl
  ·have hmm:Au6 (An ((id,some (.mpo k t ys))::S.objs) j) t':=hmm
   rw[hlook] at hmm
   by_cases e:id=j
   ·subst e
    rw[if_pos rfl] at hmm
    obtain⟨fr,c,h2⟩:=hmm
    rcases h2 with h2|h2<;>cases h2
   ·rwa [if_neg e] at hmm
  ·have hmm:Br9 (An ((id,some (.mpo k t ys))::S.objs) j) kk t':=hmm
   rw[hlook] at hmm
   by_cases e:id=j
   ·subst e
    rw[if_pos rfl] at hmm
    obtain⟨c,h2⟩:=hmm
    cases h2
    exact⟨xs,ho⟩
   ·rwa [if_neg e] at hmm
 refine h.move hs (fun j oj hj=>?_) (fun j oj hj=>?_) (fun j ver fr t' rows v hj hu=>?_) (fun i j b hi hj=>h.sep i j b (hlv i b hi) (hlv j b hj)) (fun i b hi=>h.mod i b (hlv i b hi)) ?_
 ·rw[hlook] at hj
  by_cases e:id=j
  ·rw[if_pos e] at hj;cases hj;subst e
   exact⟨hf,g,es',clock',hγ,hgs,hr.world hf⟩
  ·rw[if_neg e] at hj
   refine OR.step hs rfl (fun b hb'=>Av7 w g b _ fun eb=>e ?_) (h.objs j oj hj)
   subst eb
   exact h.sep id j b hgl (by rw[hj];exact hb')
 ·rw[hlook] at hj
  by_cases e:id=j
  ·subst e;exact h.ou id _ ho
  ·rw[if_neg e] at hj;exact h.ou j oj hj
 ·rw[hlook] at hj
  by_cases e:id=j
  ·subst e
   rw[if_pos rfl] at hj;cases hj
  ·rw[if_neg e] at hj;exact h.vers j ver fr t' rows v hj hu
 ·have hg:=(h.mod id g hgl).1
  refine⟨h.frame.os,h.frame.tape,h.frame.output,?_,fun b hb hn=>?_⟩
  ·have:=h.frame.size;simpa [An2] using this
  ·rw[Av7 w g b _ fun e=>by
    subst e
    rcases hg with hg|hg
    ·have:K.base=K.w0.heap.size:=rfl
     omega
    ·exact hn hg]
   exact h.frame.block b hb hn
theorem Bvy(h:Hi K S used γ a w){T:TypeId}{m x y:Operand}(ho:o.op=.mapUpdate T m x y)(hm:A0 m=true)(hx:A0 x=true)(hy:A0 y=true)
  (hT:∀ k t,K.G.mapT T=some (k,t)→By0 K.P k t T=true) (hl:Ba K.C S.objs (Bom (S.eval m) (K.G.mapT T) (S.eval x) (S.eval y)) [] (v,u) l):Pt K S used γ a w o v u base:=by
 unfold Bom at hl
 obtain⟨id,k,t,xs,g,es,clock,l1,hmt,h0,hob,p1,hval,p2,p3,hl⟩:=Bio h (Bo h m hm) hl
 obtain⟨ta,tb,t1,t2,t3⟩:=Bhf (hT k t hmt)
 have hyv:=Bo h y hy
 split at hl
 ·rename_i k' n fr u' z hx' hy'
  obtain⟨hxv,hxk⟩:=Gf hx' (Bo h x hx)
  split at hl
  ·rename_i z' hz
   obtain⟨e,rfl⟩:=Cs hz
   subst e
   cases hk:kEq k' k with
   | false=>rw[hk] at hl;exact hl.elim
   | true =>
    rw[hk] at hl
    obtain rfl:=Amq.1 hk
    obtain⟨e,_⟩:=hl
    cases e
    rw[hy'] at hyv
    obtain⟨f1,f2⟩:=Ahu (t:=u') (by simp[Bh,Ty.beq_iff]) hyv
    have hd:DR w (fun _=>False) u' (a.eval y).cells.toList z:=DR.flat h0 f1
    have hck:(Instr.checkKey false 10000 ta (.int k' n)).run K.P w=.ok () w:=MapKept.run_checkKey t2 (show MapKept.IsKey (.int k') (.int k' n) from rfl) _ 9999
    have hgo:=MapKept.run_getObj_map (P:=K.P) p2
    have hst:(Instr.keyThatStays (.int k' n) (.int k' n)).run K.P w=.ok (.int k' n) w:=MapKept.run_keyThatStays (show MapKept.IsKey (.int k') (.int k' n) from rfl)
    have key:∀ es' clock',(Instr.mapUpdate T (.map (some g)) (.int k' n) (a.eval y)).run K.P w=.ok () (An2 w g (.map es' clock'))→At3 w k' u' es'.toList (K4 xs n z) →
      Pt K S used γ a w o .any [(id,some (.mpo k' u' (K4 xs n z)))] base:=by
     intro es' clock' hrun hr
     refine⟨.skip,undef,An2 w g (.map es' clock'),used,γ,?_,.inr ⟨rfl,rfl⟩,trivial,h.setMap hob h0 p1 p2 hr,fun id v hv=>.inl ⟨v,hv⟩⟩
     simp only[execOp,ho,hval,hxv,Sem.run_bind,hrun,Result.andThen_ok,Sem.run_pure]
    rcases Ayc 0 p3 (x:=n) with⟨k1,_,k3⟩ | ⟨j,e,k1,k2,k3,_,_,k6⟩
    ·have hfi:=MapKept.run_findKey (w:=w) t2 k1
     refine key (es.push ⟨.int k' n,a.eval y,clock⟩) (clock+1) ?_ ?_
     ·simp[Instr.mapUpdate,run_underlying t1,hgo,hck,hfi,MapKept.run_setObj_map _ p2,Result.andThen,An2]
     ·rw[k3,Array.toList_push]
      exact At3.snoc rfl hxk hd f2 p3
    ·have hfi:=MapKept.run_findKey (w:=w) t2 k1
     rw[Nat.zero_add] at hfi
     have hj:es[j]?=some e:=by simpa using k2
     have hlist:(es.modify j (fun e'=>{ e' with key:=.int k' n,val:=a.eval y })).toList=es.toList.set j { e with key:=.int k' n,val:=a.eval y }:=by
      rw[Array.toList_modify,ChangeMaps.modify_eq_set _ _ _ _ k2]
     refine key (es.modify j (fun e'=>{ e' with key:=.int k' n,val:=a.eval y })) clock ?_ ?_
     ·simp[Instr.mapUpdate,run_underlying t1,hgo,hck,hfi,hj,k3,hst,MapKept.run_setObj_map _ p2,Result.andThen,An2]
     ·rw[hlist]
      exact k6 _ _ hxk hd f2
  ·exact hl.elim
 ·exact hl.elim
end
end Go.Pon
namespace Go.Pon
open Go
structure Dq.OK(K:Dq):Prop where
 below:∀ b,K.B b→b<K.base
 depth:64≤K.P.depth
 ty:∀ T t,K.G.ty T=some t→T1 K.P t T=true
 sig:∀ f s,K.G.sig f=some s→(∀ m∈s.ins,m.insOK=true)∧A6 K.P f s (K.C f s)
 map:∀ T k t,K.G.mapT T=some (k,t)→By0 K.P k t T=true
def Chj:Option Operand→Bool
 | none=>true
 | some x=>A0 x
def Bvm(o:Oper):Bool :=
 match o.op with
 | .move x=>A0 x
 | .assign x=>A0 x
 | .pick c a b=>A0 c&&A0 a&&A0 b
 | .alloc _=>true
 | .box _ x=>A0 x
 | .build _ ps=>To (fun p=>A0 p.2) ps.toList
 | .buildSlice _ n ps=>To (fun p=>A0 p.2&&Nat.blt p.1 n) ps.toList
 | .makeSlice _ x y=>A0 x&&A0 y
 | .load _ a=>A0 a
 | .store _ a x=>A0 a&&A0 x
 | .nilCheck x=>A0 x
 | .binOp _ _ x y _=>A0 x&&A0 y
 | .unOp _ _ x=>A0 x
 | .convert _ _ x=>A0 x
 | .slice _ x lo hi mx=>A0 x&&Chj lo&&Chj hi&&Chj mx
 | .fieldAddr _ x _=>A0 x
 | .field _ x _=>A0 x
 | .indexAddr _ x i=>A0 x&&A0 i
 | .index _ x i=>A0 x&&A0 i
 | .extract x _=>A0 x
 | .makeFunc _ _ caps=>To A0 caps.toList
 | .makeMap _ r=>true
 | .lookup _ m x _=>A0 m&&A0 x
 | .mapUpdate _ m x y=>A0 m&&A0 x&&A0 y
 | .call c=>To A0 c.args.toList&&(match c.callee with
  | .value x=>A0 x
  | _=>true)
 | _=>true
section
variable {K:Dq} {S:St} {used:Id→Nat→Prop} {γ:Id→Value} {a:Act} {w:World} {o:Oper} {base:Id} {v:AV} {u:Rc} {l:List Id}
theorem Azb{C:Ap}{objs:Rc}{x:Option AV}{l0:List Id}(h:Ba C objs (Cei x) l0 (v,u) l):x=some v∧u=[]:=by
 cases x with
 | none=>exact h.elim
 | some y=>obtain⟨e,_⟩:=h;cases e;exact⟨rfl,rfl⟩
theorem Adx{o:Option Ty}{t:Ty}(h:Bpk o=some t):o=some (.slice t):=by
 unfold Bpk at h
 split at h
 ·cases h;rfl
 ·cases h
theorem Cn4(h:Hi K S used γ a w)(hK:K.OK)(hu:∀ v,¬ used base v)(hop:Bvm o=true)(hnc:∀ c,o.op≠.call c)(hnv:∀ s d x,o.op≠.convert s d x)
  (hl:Ba K.C S.objs (Ahz K.G o S.eval base) [] (v,u) l):Pt K S used γ a w o v u base:=by
 unfold Bvm at hop
 unfold Ahz at hl
 cases ho:o.op with
 | move x=>rw[ho] at hl hop;obtain⟨e,_⟩:=hl;cases e;exact Bx1 h (.inl ho) hop
 | assign x=>rw[ho] at hl hop;obtain⟨e,_⟩:=hl;cases e;exact Bx1 h (.inr ho) hop
 | pick c x y =>
  rw[ho] at hl hop
  simp only[Bool.and_eq_true] at hop
  dsimp only at hl
  split at hl
  ·rename_i q hq
   exact Cjn h ho hop.1.1 hop.1.2 hop.2 hq hl
  ·exact hl.elim
 | alloc e =>
  rw[ho] at hl
  dsimp only at hl
  split at hl
  ·rename_i t ht
   obtain⟨e,_⟩:=hl;cases e
   exact Cgz h hK.below hu ho (hK.ty _ _ ht)
  ·exact hl.elim
 | box e x =>
  rw[ho] at hl hop
  dsimp only at hl
  split at hl
  ·rename_i t ht
   cases hf:Bh t (S.eval x) with
   | false=>rw[hf] at hl;exact hl.elim
   | true =>
    rw[hf] at hl
    obtain⟨e,_⟩:=hl;cases e
    exact Cmb h hK.below hu ho hop hf
  ·exact hl.elim
 | build T ps =>
  rw[ho] at hl hop
  dsimp only at hl
  split at hl
  ·rename_i t ht
   split at hl
   ·rename_i n t
    cases hq:t.bare with
    | true =>
     rw[hq] at hl
     obtain⟨e,rfl⟩:=Azb hl
     exact Bsw h ho (H7.1 hop) (hK.ty _ _ ht) e
    | false =>
     rw[hq] at hl
     cases hr:To (fun p:Nat×Operand=>Nat.blt p.1 n) ps.toList with
     | false=>rw[hr] at hl;exact hl.elim
     | true =>
      rw[hr] at hl
      exact Bwn h hK.below ho (fun p hp=>⟨H7.1 hop p hp,by simpa only [Nat.blt_eq] using H7.1 hr p hp⟩) (hK.ty _ _ ht) hl
   ·obtain⟨e,rfl⟩:=Azb hl
    exact Bsw h ho (H7.1 hop) (hK.ty _ _ ht) e
  ·exact hl.elim
 | buildSlice T n ps =>
  rw[ho] at hl hop
  dsimp only at hl
  split at hl
  ·rename_i t ht
   cases hq:(Nat.ble (n*t.size) 16777216&&Nat.blt 0 t.size) with
   | false=>rw[hq] at hl;exact hl.elim
   | true =>
    rw[hq] at hl
    simp only[Bool.and_eq_true,Nat.ble_eq,Nat.blt_eq] at hq
    refine Bnd h hK.below hu ho (fun p hp=>?_) (hK.ty _ _ (Adx ht)) hq.1 hq.2 hl
    have:=H7.1 hop p hp
    simpa only [Bool.and_eq_true,Nat.blt_eq] using this
  ·exact hl.elim
 | makeSlice T x y =>
  rw[ho] at hl hop
  simp only[Bool.and_eq_true] at hop
  dsimp only at hl
  split at hl
  ·rename_i t k lo k' c ht hx hy
   cases hcut:K.G.cut with
   | true =>
    rw[hcut] at hl
    obtain⟨hq,hl⟩:=C3 hl
    simp only[Bool.and_eq_true,decide_eq_true_eq] at hq
    obtain⟨e,_⟩:=hl;cases e
    obtain⟨⟨⟨q1,q2⟩,q3⟩,q4⟩:=hq
    subst q2
    exact Bwq h hK.below hu ho (hK.ty _ _ (Adx ht)) (Gf hx (Bo h x hop.1)).1 (Gf hy (Bo h y hop.2)).1 q1 q3
   | false =>
   rw[hcut] at hl
   obtain⟨hq,hl⟩:=C3 hl
   simp only[Bool.and_eq_true,decide_eq_true_eq] at hq
   obtain⟨e,_⟩:=hl;cases e
   exact Br2 h hK.below hu ho (hK.ty _ _ (Adx ht)) (Gf hx (Bo h x hop.1)).1 (Gf hy (Bo h y hop.2)).1 hq.1.1.1 hq.1.1.2 hq.1.2
  ·exact hl.elim
 | load T x =>
  rw[ho] at hl hop
  dsimp only at hl
  split at hl
  ·rename_i t ht
   exact Cf8 h ho hop (hK.ty _ _ ht) hl
  ·exact hl.elim
 | store T x y =>
  rw[ho] at hl hop
  simp only[Bool.and_eq_true] at hop
  dsimp only at hl
  split at hl
  ·rename_i t ht
   exact Cbg h ho hop.1 hop.2 (hK.ty _ _ ht) hl
  ·exact hl.elim
 | binOp op T x y T' =>
  rw[ho] at hl hop
  simp only[Bool.and_eq_true] at hop
  exact Cib h ho hop.1 hop.2 hK.ty hK.depth hl
 | unOp op T x =>
  rw[ho] at hl hop
  exact Ci7 h ho hop hl
 | fieldAddr T x n =>
  rw[ho] at hl hop
  exact Bqb h ho hop hK.ty hl
 | indexAddr T x i =>
  rw[ho] at hl hop
  simp only[Bool.and_eq_true] at hop
  dsimp only at hl
  split at hl
  ·rename_i k n hi
   exact Bnz h ho hop.1 hK.ty (Gf hi (Bo h i hop.2)).1 hl
  ·exact hl.elim
 | field T x n =>
  rw[ho] at hl hop
  dsimp only at hl
  split at hl
  ·rename_i t y ht hy
   cases hb:(Bh t (S.eval x)&&Nw t n) with
   | false=>rw[hb] at hl;exact hl.elim
   | true =>
    rw[hb] at hl
    simp only[Bool.and_eq_true] at hb
    obtain⟨e,_⟩:=hl;cases e
    exact Cgd h ho hop (hK.ty _ _ ht) hy hb.1 hb.2
  ·exact hl.elim
 | slice T x lo hi mx =>
  rw[ho] at hl hop
  simp only[Bool.and_eq_true] at hop
  dsimp only at hl
  split at hl
  ·rename_i i j m h1 h2 h3
   have hlo:∀ x,lo=some x→A0 x=true:=fun x hx=>by rw[hx] at hop;exact hop.1.1.2
   have hhi:∀ x,hi=some x→A0 x=true:=fun x hx=>by rw[hx] at hop;exact hop.1.2
   have hmx:∀ x,mx=some x→A0 x=true:=fun x hx=>by rw[hx] at hop;exact hop.2
   have key:Ba K.C S.objs (Bew (S.eval x) (K.G.ty T) i j m) [] (v,u) l→Pt K S used γ a w o v u base:=by
    clear hl
    intro hl
    unfold Bew at hl
    split at hl
    ·exact Bm6 h ho hop.1.1.1 hlo hhi h1 h2 hmx h3 (.inl rfl) hK.ty (fun h=>by cases h) hl
    ·split at hl
     ·rename_i hh t hG
      obtain⟨hq,hk⟩:=C3 hl
      simp only[decide_eq_true_eq] at hq
      subst hq
      rw[← hG] at hk
      exact Bm6 h ho hop.1.1.1 hlo hhi h1 h2 hmx h3 (.inr ⟨rfl,t,hG⟩) hK.ty (fun _ h=>by cases h) hk
     ·exact hl.elim
   cases hcut:K.G.cut with
   | false=>rw[hcut] at hl;exact key hl
   | true =>
    rw[hcut] at hl
    exact Cbo h hK.below ho hop.1.1.1 hlo hhi h1 h2 hmx h3 hK.ty (fun i' j' hk e1 e2=>by subst e1 e2;exact key hk) hl
  ·exact hl.elim
 | extract x n =>
  rw[ho] at hl hop
  dsimp only at hl
  split at hl
  ·rename_i t ht
   obtain⟨e,rfl⟩:=Azb hl
   exact Byn h ho hop ht e
  ·exact hl.elim
 | makeFunc fn first caps =>
  rw[ho] at hl hop
  cases fn with
  | func f =>
   obtain⟨first⟩:=first
   cases first with
   | nil =>
    have hl:Ba K.C S.objs (bif To Bid (Tu S.eval caps.toList) then .done (.fn f (Aya (Tu S.eval caps.toList)),[]) else .fail) [] (v,u) l:=hl
    cases hb:To Bid (Tu S.eval caps.toList) with
    | false=>rw[hb] at hl;exact hl.elim
    | true =>
     rw[hb] at hl
     obtain⟨e,_⟩:=hl;cases e
     exact Bup h ho (H7.1 hop) hb
   | cons _ _=>exact hl.elim
  | _=>exact hl.elim
 | nilCheck x =>
  rw[ho] at hl hop
  have hv:=Bo h x hop
  dsimp only at hl
  split at hl
  ·rename_i i p he
   obtain⟨t,h1,h2⟩:=Chm h hl
   obtain⟨e,_⟩:=h2;cases e
   rw[he] at hv
   obtain⟨_,hp⟩:=Aij hv
   obtain⟨g,u',_,_,_,p4⟩:=hp t h1
   have:=Aul h (base:=base) ho hop p4
   rwa [he] at this
  ·rename_i i ver j p he
   rw[he] at hv
   obtain⟨_,hp⟩:=Be7 hv
   have key:∀ t n,Agt (An S.objs i) ver t n→Pt K S used γ a w o (.eptr i ver j p) [] base:=fun t n hs=>by
    obtain⟨_,g,m,cp,u',_,_,_,p4⟩:=hp t n hs
    have:=Aul h (base:=base) ho hop p4
    rwa [he] at this
   obtain⟨ob,hob,hl⟩:=hl
   dsimp only at hl
   split at hl
   ·rename_i ver' fr t rows
    cases hb:Nat.beq ver' ver with
    | false=>rw[hb] at hl;exact hl.elim
    | true =>
     rw[hb] at hl
     obtain⟨e,_⟩:=hl;cases e
     obtain rfl:=Nat.eq_of_beq_eq_true hb
     exact key t _ (Ft _ ver' fr t rows (.inl hob))
   ·rename_i ver' fr t rows
    cases hb:Nat.beq ver' ver with
    | false=>rw[hb] at hl;exact hl.elim
    | true =>
     rw[hb] at hl
     obtain⟨e,_⟩:=hl;cases e
     obtain rfl:=Nat.eq_of_beq_eq_true hb
     exact key t _ (Ft _ ver' fr t rows (.inr hob))
   ·exact hl.elim
  ·rename_i fr t y he
   obtain⟨e,_⟩:=hl;cases e
   rw[he] at hv
   obtain⟨ad,vs,p1,_⟩:=As3 hv
   have:=Aul h (base:=base) ho hop p1
   rwa [he] at this
  ·exact hl.elim
 | index T x i =>
  rw[ho] at hl hop
  simp only[Bool.and_eq_true] at hop
  dsimp only at hl
  split at hl
  ·rename_i k n fr m t xs m' t' hi he ht
   cases hb:(Nat.beq m m'&&Ty.beq t t') with
   | false=>rw[hb] at hl;exact hl.elim
   | true =>
    rw[hb] at hl
    simp only[Bool.and_eq_true] at hb
    obtain rfl:=Nat.eq_of_beq_eq_true hb.1
    obtain rfl:=Ty.beq_iff.1 hb.2
    obtain⟨h1,h2⟩:=C3 hl
    obtain⟨e,_⟩:=h2;cases e
    exact Bq3 h ho hop.1 (hK.ty _ _ ht) (Gf hi (Bo h i hop.2)).1 he h1
  ·rename_i k n fr xs hi he ht
   obtain⟨h1,h2⟩:=C3 hl
   obtain⟨e,_⟩:=h2;cases e
   exact Brz h ho hop.1 (hK.ty _ _ ht) (Gf hi (Bo h i hop.2)).1 he h1
  ·exact hl.elim
 | makeMap T r =>
  rw[ho] at hl
  dsimp only at hl
  split at hl
  ·rename_i kk t hm
   cases hf:t.flat with
   | false=>rw[hf] at hl;exact hl.elim
   | true =>
    rw[hf] at hl
    obtain⟨e,_⟩:=hl;cases e
    exact Byg h hK.below hu ho hf
  ·exact hl.elim
 | lookup T m x ok =>
  rw[ho] at hl hop
  simp only[Bool.and_eq_true] at hop
  cases ok with
  | true=>exact hl.elim
  | false=>exact Ca9 h ho hop.1 hop.2 (hK.map T) hl
 | mapUpdate T m x y =>
  rw[ho] at hl hop
  simp only[Bool.and_eq_true] at hop
  exact Bvy h ho hop.1.1 hop.1.2 hop.2 (hK.map T) hl
 | call c=>exact absurd ho (hnc c)
 | convert s d x=>exact absurd ho (hnv s d x)
 | _=>rw[ho] at hl;exact hl.elim
end
end Go.Pon
namespace Go.Pon
open Go
section
variable {K:Dq} {S:St} {used:Id→Nat→Prop} {γ:Id→Value} {a:Act} {w:World} {o:Oper} {base:Id} {v:AV} {u:Rc} {l:List Id}
theorem Cfe{E:Vv}{v:AV}{cs:List Value}(h:Bid v=true)(hr:ARc E v cs):∃ val,cs=[val]∧(C7 val=false→E7 E v val)∧val.oneCell'=true:=by
 have key:∀ val,cs=[val]→val.oneCell'=true→Amy v=false→Bfy v=true→∃ val,cs=[val]∧(C7 val=false→E7 E v val)∧val.oneCell'=true :=
  fun val e h1 ha hs=>⟨val,e,fun hn=>Bnh (Bs5 hs) ⟨by rw[Bq hn,← e];exact hr,by rw[ha,hn]⟩,h1⟩
 cases v with
 | any=>cases h
 | un=>cases h
 | tup _=>cases h
 | pair _ _=>cases h
 | d fr t x =>
  have ht:t.agg=false:=by simpa [Bid] using h
  have hl:=DR.len (show DR _ _ _ cs x from hr)
  rw[Np ht] at hl
  have h1:=DR.one (show DR _ _ _ cs x from hr)
  match cs,hl,h1 with
  | [val],_,h1=>exact key val rfl (h1 val (by simp)) ht rfl
 | nilp=>exact key _ (show cs=_ from hr) rfl rfl rfl
 | nils=>exact key _ (show cs=_ from hr) rfl rfl rfl
 | ub _ _=>obtain⟨b,e,_⟩:=hr;exact key _ e rfl rfl rfl
 | own _ _=>obtain⟨_,val,e,h1,_⟩:=hr;exact key _ e h1 rfl rfl
 | view _ _ _ _ _=>obtain⟨_,val,e,h1,_⟩:=hr;exact key _ e h1 rfl rfl
 | mview _ _ _ _=>obtain⟨_,val,e,h1,_⟩:=hr;exact key _ e h1 rfl rfl
 | mapp _=>obtain⟨_,val,e,h1,_⟩:=hr;exact key _ e h1 rfl rfl
 | ptr _ _=>obtain⟨_,val,e,h1,_⟩:=hr;exact key _ e h1 rfl rfl
 | eptr _ _ _ _=>obtain⟨_,val,e,h1,_⟩:=hr;exact key _ e h1 rfl rfl
 | rptr _ _ _=>obtain⟨val,e,h1,_⟩:=hr;exact key _ e h1 rfl rfl
 | fn _ _=>obtain⟨vs,e,_⟩:=hr;exact key _ e rfl rfl rfl
theorem Bum{E:Vv}:∀ {c:AV} {cs:List AV} {vs:List Value},Aem c=some cs→ARc E c vs →
  vs.length=cs.length∧∀ (i:Nat) (v:AV) (val:Value),cs[i]?=some v→vs[i]?=some val→E7 E v val:=by
 intro c
 induction c with
 | d fr t x =>
  intro cs vs h hr
  cases t<;>simp only[Aem] at h<;>try cases h
  rw[show vs=[] from hr]
  exact⟨rfl,by simp⟩
 | pair p q _ ih =>
  intro cs vs h hr
  simp only[Aem] at h
  cases hb:Bid p with
  | false=>rw[hb] at h;cases h
  | true =>
   rw[hb] at h
   have h:(Aem q).map (p::·)=some cs:=h
   cases hq:Aem q with
   | none=>rw[hq] at h;cases h
   | some cs' =>
    rw[hq] at h;cases h
    obtain⟨c1,c2,rfl,h1,h2⟩:=hr
    obtain⟨val,rfl,k1,k2⟩:=Cfe hb h1
    obtain⟨i1,i2⟩:=ih hq h2
    refine⟨by simp[i1],fun i v val' e1 e2=>?_⟩
    cases i with
    | zero=>simp at e1 e2;subst e1 e2;exact k1 (Yt k2)
    | succ i=>exact i2 i v val' (by simpa using e1) (by simpa using e2)
 | _=>intro cs vs h _;simp only[Aem] at h;cases h
theorem Bqw(h:Hi K S used γ a w)(hK:K.OK)(hu:∀ id:Id,id.1=base.1→id.2.1=base.2.1→∀ v,¬ used id v){c:Call}{x:Operand}(ho:o.op=.call c)(hc:c.callee=.value x)(hx:A0 x=true)
  (ha:∀ y∈c.args.toList,A0 y=true) {f:FuncId} {c':AV} {cs:List AV} (hf:S.eval x=.fn f c') (hcs:Aem c'=some cs) (hd:∀ d,o.dst=some d→K.dok d)
  (hl:Ba K.C S.objs (Cic K.G f (Fg (Tu S.eval c.args.toList) cs) base) [] (v,u) l) {Q:Exit→Act→World→Prop} {k:Act→World→Prop}
  (hk:∀ used' γ' a' w',Bck used used' base→Hi K { S with env:=Adl S.env o.dst v,objs:=Fg u S.objs } used' γ' a' w'→k a' w'):o.wp K.P a w k Q:=by
 have hv:=Bo h x hx
 rw[hf] at hv
 obtain⟨⟨vs,e1,e2⟩,e3⟩:=(show G7 _ (.fn f c') _ from hv)
 have e3:C7 (a.eval x)=false:=e3.symm
 have ex:a.eval x=.func (.func f) #[] vs:=by
  rw[Bq e3] at e1
  simpa using e1
 obtain⟨u1,u2⟩:=Bum hcs e2
 unfold Cic at hl
 split at hl
 ·rename_i s hs
  obtain⟨s1,s2⟩:=hK.sig f s hs
  rw[Amb,Bgj] at hl
  have hr:=Cgy h hK.below s2 s1 (vals:=c.args.toList.map a.eval++vs.toList) (by simp[← u1]) (fun i v val h1 h2=>by
   rcases Nat.lt_or_ge i c.args.toList.length with hi|hi
   ·rw[List.getElem?_append_left (by simpa using hi)] at h1 h2
    rw[List.getElem?_map] at h1 h2
    obtain⟨y,hy1,rfl⟩:=Option.map_eq_some_iff.1 h1
    rw[hy1] at h2
    cases h2
    exact Bo h y (ha y (List.mem_of_getElem? hy1))
   ·rw[List.getElem?_append_right (by simpa using hi)] at h1 h2
    simp only[List.length_map] at h1 h2
    exact u2 _ v val h1 h2) hu hl
  have hex:(execOp a.eval o).run K.P w=(callFunc f (c.args.toList.map a.eval++vs.toList).toArray).run K.P w:=by
   simp only[execOp,ho,resolve,hc,ex,Deferred.ofValue,Sem.run_bind,Sem.run_pure,Result.andThen_ok,invoke]
   congr 2
   apply Array.toList_inj.1
   simp
  have fin:∀ val w',(∃ used' γ',E7 (Bi K (Fg u S.objs) used' γ' w') v val∧Hi K { S with objs:=Fg u S.objs } used' γ' a w'∧Bck used used' base)→k (a.put o.dst val) w':=by
   rintro val w' ⟨used',γ',r1,r2,r3⟩
   exact hk used' γ' _ w' r3 (r2.put r1 o.dst hd)
  unfold Oper.wp
  rw[hex]
  rcases hr with⟨h1,h2⟩ | ⟨val,w',h1,h2⟩
  ·rw[h1,Oper.upon_enter]
   intro stack
   obtain⟨e,w',fr,k1,k2⟩:=h2 stack
   refine⟨e,w',fr,?_,k2⟩
   cases e with
   | returned val=>exact fin val w' k1
   | panicked _=>exact k1.elim
   | outgrown=>exact k1.elim
  ·rw[h1,Oper.upon_value]
   exact fin val w' h2
 ·exact hl.elim
theorem Boz{w:World}{ok:Nat→Prop}:∀ {xs:List Int} {cs:List Value},B5 (DR w ok (.int .u8)) 1 cs xs→cs=xs.map (Value.int .u8)∧∀ x∈xs,0≤x∧x≤255
 | [],cs,h=>⟨by rw[show cs=[] from h];rfl,by simp⟩
 | x::xs,cs,⟨h1,h2,h3⟩=>by
  obtain⟨k1,k2⟩:=Boz h3
  obtain⟨e1,e2⟩:=h2
  refine⟨?_,fun y hy=>?_⟩
  ·rw[← List.take_append_drop 1 cs,e1,k1];rfl
  ·rcases List.mem_cons.1 hy with rfl|hy
   ·exact e2
   ·exact k2 y hy
theorem Bnr:∀ (ns:List Int) (b:ByteArray),(ns.foldl (fun r n=>r.push (UInt8.ofNat n.toNat)) b).data.toList=b.data.toList++ns.map fun n=>UInt8.ofNat n.toNat
 | [],b=>by simp
 | n::ns,b=>by
  rw[List.foldl_cons,Bnr ns]
  simp[ByteArray.push]
theorem Bmg:∀ (xs:List Int),(∀ x∈xs,0≤x∧x≤255)→xs.map ((fun b:UInt8=>(b.toNat:Int))∘fun n=>UInt8.ofNat n.toNat)=xs
 | [],_=>rfl
 | n::ns,r2=>by
  obtain⟨b1,b2⟩:=r2 n (List.mem_cons_self ..)
  rw[List.map_cons,Bmg ns (fun y hy=>r2 y (List.mem_cons_of_mem _ hy))]
  congr 1
  show (((UInt8.ofNat n.toNat).toNat:Nat):Int)=n
  rw[UInt8.toNat_ofNat_of_lt' (by show n.toNat<256;omega)]
  omega
theorem Bva(h:Hi K S used γ a w){T T':TypeId}{x:Operand}(ho:o.op=.convert T T' x)(hx:A0 x=true)(h1:T1 K.P (.slice (.int .u8)) T=true)(h2:T1 K.P .str T'=true)
  (hl:Ba K.C S.objs (Vl (S.eval x) (.int .u8) ⟨[],[]⟩ false fun _ x _=>.done (.d true .str x,[])) [] (v,u) l):Pt K S used γ a w o v u base:=by
 have hv:=Bo h x hx
 have hv:=Zh (Akk hl) hv
 obtain⟨fr,xs,c',l1,⟨e,_⟩,_,_,_,hag,hd⟩:=Hp h (Ab8.start S false) hl
 cases e
 obtain⟨v1,v2⟩:=hv
 rw[hag] at v2
 rw[Bq v2.symm] at v1
 obtain⟨ad,cap,e1,e2,e3,e4,rows,e5,e6⟩:=hd _ v1
 have e1:a.eval x=.slice ad (List.length xs) cap:=by simpa using e1
 obtain⟨r1,r2⟩:=Boz (w:=w) e5
 obtain⟨el,u1,u2⟩:=Hy h1
 have hcv:(convert T T' (a.eval x)).run K.P w=(Conv.bytesToString (a.eval x)).run K.P w:=by
  rw[e1]
  simp only[convert,Sem.run_bind,run_underlying u1,run_underlying (Ai9 h2),run_underlying (Ael u2),Result.andThen_ok]
 have hst:∀ s:ByteArray,(Conv.bytesToString (a.eval x)).run K.P w=.ok (.string s) w→s.data.toList.map (fun b=>(b.toNat:Int))=xs→Pt K S used γ a w o (.d true .str xs) [] base:=by
  intro s hs hsx
  refine Pt.pure h (val:=.string s) (by simp only[execOp,ho,Sem.run_bind,hcv,hs,Result.andThen_ok,Sem.run_pure]) (Dh (a:=.d true .str xs) ⟨s,rfl,hsx.symm,?_⟩ rfl rfl)
  have q1:s.data.toList.length=List.length xs:=by rw[← hsx,List.length_map]
  have q2:s.size=s.data.toList.length:=by rw[Array.length_toList];rfl
  rw[q2,q1]
  exact Nat.le_trans e2 e3
 cases ad with
 | none =>
  have:cap=0:=e4 rfl
  have hx0:xs=[]:=List.eq_nil_of_length_eq_zero (by omega)
  subst hx0
  exact hst .empty (by rw[e1];simp[Conv.bytesToString]) rfl
 | some ad =>
  have hc:∀ j y,(xs.map (Value.int .u8))[j]?=some y→w.cell? (ad.add j)=some y:=by
   intro j y hj
   rw[← r1] at hj
   have hne:rows≠[]:=by rintro rfl;simp at hj
   obtain⟨ad',k1,_,k3⟩:=e6 hne
   cases k1
   exact k3 j y hj
  have hld:=run_loadCells_list (P:=K.P) w ad (xs.map (Value.int .u8)) hc
  rw[List.length_map] at hld
  refine hst _ (by rw[e1];exact run_bytesToString w ad (List.length xs) cap xs hld) ?_
  rw[Bnr,show (ByteArray.empty).data.toList=[] from rfl,List.nil_append,List.map_map]
  exact Bmg xs r2
theorem Bxo{f:Operand→AV}{xs:List Operand}{v:AV}(h:Tu f xs=[v]):∃ x,xs=[x]∧v=f x:=by
 match xs,h with
 | [x],h=>simp[Tu] at h;exact⟨x,rfl,h.symm⟩
 | x::y::r,h=>simp[Tu] at h
theorem Bo5{f:Operand→AV}{xs:List Operand}{v w:AV}(h:Tu f xs=[v,w]):∃ x y,xs=[x,y]∧v=f x∧w=f y:=by
 match xs,h with
 | [x,y],h=>simp[Tu] at h;exact⟨x,y,rfl,h.1.symm,h.2.symm⟩
 | [x],h=>simp[Tu] at h
 | x::y::z::r,h=>simp[Tu] at h
theorem Cqz(h:Hi K S used γ a w)(hK:K.OK)(hu:∀ id:Id,id.1=base.1→id.2.1=base.2.1→∀ v,¬ used id v)(hop:Bvm o=true)(hd:∀ d,o.dst=some d→K.dok d)
  (hl:Ba K.C S.objs (Ahz K.G o S.eval base) [] (v,u) l) {Q:Exit→Act→World→Prop} {k:Act→World→Prop}
  (hk:∀ used' γ' a' w',Bck used used' base→Hi K { S with env:=Adl S.env o.dst v,objs:=Fg u S.objs } used' γ' a' w'→k a' w'):o.wp K.P a w k Q:=by
 cases ho:o.op with
 | call c =>
  have hop0:=hop
  unfold Bvm at hop
  unfold Ahz at hl
  rw[ho] at hl hop
  simp only[Bool.and_eq_true] at hop
  dsimp only at hl
  split at hl
  ·rename_i b hb
   split at hl
   ·rename_i v1 hm
    split at hl
    ·rename_i T hT
     obtain⟨x,hx,rfl⟩:=Bxo hm
     have hcx:A0 x=true:=H7.1 hop.1 x (by rw[hx];simp)
     have hoc:o.op=.call { callee:=.builtin .len,args:=#[x],argTypes:=#[T] }:=by
      rw[ho]
      congr 1
      obtain⟨cal,args,tys⟩:=c
      simp only at hb hx hT ⊢
      rw[hb,← Array.toArray_toList (xs:=args),hx,← Array.toArray_toList (xs:=tys),hT]
     split at hl
     ·rename_i m hm'
      rw[← hm'] at hl
      obtain⟨n,rfl,rfl,hn,hrun⟩:=Cc1 h ho hb hx hT hcx (hK.map T) hl
      refine (Pt.pure h (val:=.int .i64 n) ?_ (Gq _ hn)).wp hd hk
      simp only[execOp,hoc,resolve,invoke,builtin,Sem.run_bind,Sem.run_pure,Result.andThen_ok,List.map_toArray,List.map_cons,List.map_nil,hrun]
     refine (Chk h (T:=T) (x:=x) ?_ (H7.1 hop.1 x (by rw[hx];simp)) hK.ty hl).wp hd hk
     rw[ho]
     congr 1
     obtain⟨cal,args,tys⟩:=c
     simp only at hb hx hT ⊢
     rw[hb,← Array.toArray_toList (xs:=args),hx,← Array.toArray_toList (xs:=tys),hT]
    ·exact hl.elim
   ·rename_i v1 hm
    split at hl
    ·rename_i T hT
     obtain⟨x,hx,rfl⟩:=Bxo hm
     split at hl
     ·rename_i t heq hG
      obtain⟨e,_⟩:=hl;cases e
      have hv:=Bo h x (H7.1 hop.1 x (by rw[hx];simp))
      rw[heq] at hv
      have hval:a.eval x=.slice none 0 0:=by
       obtain⟨k1,k2⟩:=(show G7 _ .nils _ from hv)
       rw[Bq k2.symm] at k1
       simpa [ARc] using k1
      obtain⟨e,he,_⟩:=Hy (hK.ty _ _ hG)
      have hoc:o.op=.call { callee:=.builtin .cap,args:=#[x],argTypes:=#[T] }:=by
       rw[ho]
       congr 1
       obtain⟨cal,args,tys⟩:=c
       simp only at hb hx hT ⊢
       rw[hb,← Array.toArray_toList (xs:=args),hx,← Array.toArray_toList (xs:=tys),hT]
      refine (Pt.pure h (val:=.int .i64 0) ?_ (Gq _ (Bfp .i64))).wp hd hk
      simp only[execOp,hoc,resolve,invoke,builtin,Sem.run_bind,Sem.run_pure,Result.andThen_ok,List.map_toArray,List.map_cons,List.map_nil,hval]
      simp[Builtin.cap_,run_underlying he,goInt]
     ·exact hl.elim
    ·exact hl.elim
   ·rename_i v1 v2 hm
    split at hl
    ·rename_i T T' hT
     obtain⟨x,y,hx,rfl,rfl⟩:=Bo5 hm
     split at hl
     ·rename_i t he
      have hcx:A0 x=true:=H7.1 hop.1 x (by rw[hx];simp)
      have hcy:A0 y=true:=H7.1 hop.1 y (by rw[hx];simp)
      have hoc:o.op=.call { callee:=.builtin .append,args:=#[x,y],argTypes:=#[T,T'] }:=by
       rw[ho]
       congr 1
       obtain⟨cal,args,tys⟩:=c
       simp only at hb hx hT ⊢
       rw[hb,← Array.toArray_toList (xs:=args),hx,← Array.toArray_toList (xs:=tys),hT]
      split at hl
      ·rename_i hn
       obtain rfl:=Nat.eq_of_beq_eq_true hn
       cases hcut:K.G.cut with
       | false =>
        rw[hcut] at hl
        exact (Bjq h hK.below (fun v=>hu base rfl rfl v) hoc hcx hcy (hK.ty _ _ (Adx he)) hl).wp hd hk
       | true =>
        rw[hcut] at hl
        exact (Bxv h hK.below (fun v=>hu base rfl rfl v) hoc hcx hcy (hK.ty _ _ (Adx he)) hl).wp hd hk
      ·split at hl
       ·rename_i kn k n hg hy
        exact (Bxq h hK.below (fun v=>hu base rfl rfl v) hoc hcx (Gf hy (Bo h y hcy)).1 (hK.ty _ _ (Adx he)) (hK.ty _ _ hg) hl).wp hd hk
       ·exact hl.elim
     ·exact hl.elim
    ·exact hl.elim
   ·rename_i v1 v2 hm
    split at hl
    ·rename_i k x k' y hx hy
     obtain⟨p,q,hxx,rfl,rfl⟩:=Bo5 hm
     cases hk2:kEq k k' with
     | false=>rw[hk2] at hl;exact hl.elim
     | true =>
      rw[hk2] at hl
      have hcx:A0 p=true:=H7.1 hop.1 p (by rw[hxx];simp)
      have hcy:A0 q=true:=H7.1 hop.1 q (by rw[hxx];simp)
      have ex:=Gf hx (Bo h p hcx)
      have ey:=Gf hy (Bo h q hcy)
      obtain⟨cal,args,tys⟩:=c
      simp only at hb hxx
      have hoc:o.op=.call { callee:=.builtin .min,args:=#[p,q],argTypes:=tys }:=by
       rw[ho]
       congr 1
       rw[hb,← Array.toArray_toList (xs:=args),hxx]
      have hkk:k=k':=by cases k<;>cases k'<;>first|rfl|cases hk2
      subst hkk
      have key:∀ z:Int,inK k z→(if y<x then y else x)=z→Pt K S used γ a w o (Tf k z) [] base:=fun z hz he=>by
       refine Pt.pure h (val:=.int k z) ?_ (Gq _ hz)
       simp only[execOp,hoc,resolve,invoke,builtin,Sem.run_bind,Sem.run_pure,Result.andThen_ok,List.map_toArray,List.map_cons,List.map_nil,ex.1,ey.1,run_min_int2,he]
      rcases hl with⟨hc,hl⟩ | ⟨hc,hl⟩
      ·obtain⟨e,_⟩:=hl;cases e
       exact (key y ey.2 (if_pos (of_decide_eq_true hc))).wp hd hk
      ·obtain⟨e,_⟩:=hl;cases e
       exact (key x ex.2 (if_neg (of_decide_eq_false hc))).wp hd hk
    ·exact hl.elim
   ·rename_i v1 v2 hm
    split at hl
    ·rename_i k x k' y hx hy
     obtain⟨p,q,hxx,rfl,rfl⟩:=Bo5 hm
     cases hk2:kEq k k' with
     | false=>rw[hk2] at hl;exact hl.elim
     | true =>
      rw[hk2] at hl
      have hcx:A0 p=true:=H7.1 hop.1 p (by rw[hxx];simp)
      have hcy:A0 q=true:=H7.1 hop.1 q (by rw[hxx];simp)
      have ex:=Gf hx (Bo h p hcx)
      have ey:=Gf hy (Bo h q hcy)
      obtain⟨cal,args,tys⟩:=c
      simp only at hb hxx
      have hoc:o.op=.call { callee:=.builtin .max,args:=#[p,q],argTypes:=tys }:=by
       rw[ho]
       congr 1
       rw[hb,← Array.toArray_toList (xs:=args),hxx]
      have hkk:k=k':=by cases k<;>cases k'<;>first|rfl|cases hk2
      subst hkk
      have key:∀ z:Int,inK k z→(if y>x then y else x)=z→Pt K S used γ a w o (Tf k z) [] base:=fun z hz he=>by
       refine Pt.pure h (val:=.int k z) ?_ (Gq _ hz)
       simp only[execOp,hoc,resolve,invoke,builtin,Sem.run_bind,Sem.run_pure,Result.andThen_ok,List.map_toArray,List.map_cons,List.map_nil,ex.1,ey.1,run_max_int2,he]
      rcases hl with⟨hc,hl⟩ | ⟨hc,hl⟩
      ·obtain⟨e,_⟩:=hl;cases e
       exact (key y ey.2 (if_pos (of_decide_eq_true hc))).wp hd hk
      ·obtain⟨e,_⟩:=hl;cases e
       exact (key x ex.2 (if_neg (of_decide_eq_false hc))).wp hd hk
    ·exact hl.elim
   ·exact hl.elim
  ·rename_i x hx
   rw[hx] at hop
   split at hl
   ·rename_i f c' hf
    split at hl
    ·rename_i cs hcs
     exact Bqw h hK hu ho hx hop.2 (H7.1 hop.1) hf hcs hd hl hk
    ·exact hl.elim
   ·exact hl.elim
  ·exact hl.elim
 | convert s d x =>
  unfold Bvm at hop
  unfold Ahz at hl
  rw[ho] at hl hop
  dsimp only at hl
  cases hsame:(Nat.beq s d&&Bac (K.G.ty s)) with
  | true =>
   rw[hsame] at hl
   simp only[Bool.and_eq_true,Nat.beq_eq] at hsame
   obtain⟨rfl,hby⟩:=hsame
   have hty:K.G.ty s=some (.slice (.int .u8)):=by
    unfold Bac at hby
    split at hby
    ·assumption
    ·cases hby
   exact (Bv8 h ho hop (hK.ty _ _ hty) hl).wp hd hk
  | false =>
  rw[hsame] at hl
  replace hl:Ba K.C S.objs (Chq (K.G.ty s) (K.G.ty d) (S.eval x) base) [] (v,u) l:=hl
  unfold Chq at hl
  split at hl
  ·rename_i k' fr k2 n hd2 he
   split at hl
   ·rename_i k0 hs2
    obtain⟨e,_⟩:=hl;cases e
    exact (Bxf h ho hop (hK.ty _ _ hs2) (hK.ty _ _ hd2) he).wp hd hk
   ·exact hl.elim
  ·rename_i v0 hd2
   cases hb:Bac (K.G.ty s) with
   | false=>rw[hb] at hl;exact hl.elim
   | true =>
    rw[hb] at hl
    unfold Bac at hb
    split at hb
    ·rename_i hs2
     exact (Bva h ho hop (hK.ty _ _ hs2) (hK.ty _ _ hd2) hl).wp hd hk
    ·cases hb
  ·exact hl.elim
 | _=>exact (Cn4 h hK (fun v=>hu base rfl rfl v) hop (by rw[ho];intro c hc;cases hc) (by rw[ho];intro s d x hc;cases hc) hl).wp hd hk
end
end Go.Pon
namespace Go.Pon
open Go
structure Eqv(S S':St):Prop where
 next:S.next=S'.next
 env:∀ t,Ia S.env t=Ia S'.env t
 objs:∀ id,An S.objs id=An S'.objs id
theorem Eqv.refl(S:St):Eqv S S:=⟨rfl,fun _=>rfl,fun _=>rfl⟩
theorem Eqv.symm{S S':St}(h:Eqv S S'):Eqv S' S:=⟨h.next.symm,fun t=>(h.env t).symm,fun t=>(h.objs t).symm⟩
theorem Eqv.trans{S S' S'':St}(h:Eqv S S')(k:Eqv S' S''):Eqv S S'':=⟨h.next.trans k.next,fun t=>(h.env t).trans (k.env t),fun t=>(h.objs t).trans (k.objs t)⟩
theorem Hi.eqv{K:Dq}{S S':St}{used:Id→Nat→Prop}{γ:Id→Value}{a:Act}{w:World}(h:Hi K S used γ a w)(e:Eqv S S'):Hi K S' used γ a w:=by
 have ho:An S.objs=An S'.objs:=funext e.objs
 have hE:Bi K S.objs used γ w=Bi K S'.objs used γ w:=by unfold Bi;rw[ho]
 refine⟨h.size,h.defers,h.kept,fun t=>?_,fun id o hid=>?_,fun id o hid=>h.ou id o ((e.objs id).trans hid),fun id ver fr t rows v hid=>h.vers id ver fr t rows v ((e.objs id).trans hid),?_,?_,h.frame⟩
 ·rw[← hE,← e.env];exact h.env t
 ·rw[← hE];exact h.objs id o ((e.objs id).trans hid)
 ·rw[← ho];exact h.sep
 ·rw[← ho];exact h.mod
theorem St.eval_eqv{S S':St}(e:Eqv S S'):S.eval=S'.eval:=by
 funext x
 cases x with
 | tmp t=>exact e.env t
 | _=>rfl
theorem Ba.sub{α:Type}{C:Ap}{objs:Rc}:∀ {t:OpT α} {l:List Id} {r:α} {l':List Id},Ba C objs t l r l'→∀ id∈l,id∈l'
 | .fail,_,_,_,h,_,_=>h.elim
 | .done a,_,_,_,h,id,hi=>h.2▸hi
 | .br c t e,_,_,_,.inl ⟨_,h⟩,id,hi=>Ba.sub h id hi
 | .br c t e,_,_,_,.inr ⟨_,h⟩,id,hi=>Ba.sub h id hi
 | .get i f,_,_,_,⟨o,_,h⟩,id,hi=>Ba.sub h id (List.mem_cons_of_mem _ hi)
 | .call f s x g,_,_,_,⟨y,_,h⟩,id,hi=>Ba.sub h id hi
 | .opt _ o n s,_,_,_,.inl ⟨_,h⟩,id,hi=>Ba.sub h id hi
 | .opt _ o n s,_,_,_,.inr ⟨y,_,h⟩,id,hi=>Ba.sub h id hi
theorem Ba.congr{α:Type}{C:Ap}{objs objs':Rc}:∀ {t:OpT α} {l:List Id} {r:α} {l':List Id},Ba C objs t l r l'→(∀ id∈l',An objs' id=An objs id)→Ba C objs' t l r l'
 | .fail,_,_,_,h,_=>h
 | .done a,_,_,_,h,_=>h
 | .br c t e,_,_,_,.inl ⟨h0,h⟩,hi=>.inl ⟨h0,Ba.congr h hi⟩
 | .br c t e,_,_,_,.inr ⟨h0,h⟩,hi=>.inr ⟨h0,Ba.congr h hi⟩
 | .get i f,_,_,_,⟨o,h0,h⟩,hi=>⟨o,(hi i (Ba.sub h i (List.mem_cons_self ..))).trans h0,Ba.congr h hi⟩
 | .call f s x g,_,_,_,⟨y,h0,h⟩,hi=>⟨y,h0,Ba.congr h hi⟩
 | .opt _ o n s,_,_,_,.inl ⟨h0,h⟩,hi=>.inl ⟨h0,Ba.congr h hi⟩
 | .opt _ o n s,_,_,_,.inr ⟨y,h0,h⟩,hi=>.inr ⟨y,h0,Ba.congr h hi⟩
theorem Avi{α β:Type}{f g:α→β}:∀ {l:List α},(∀ x∈l,f x=g x)→Tu f l=Tu g l
 | [],_=>rfl
 | a::l,h=>by simp only[Tu];rw[h a (List.mem_cons_self ..),Avi fun x hx=>h x (List.mem_cons_of_mem _ hx)]
theorem Bxb{G:Ctx}{o:Oper}{ρ ρ':Operand→AV}{base:Id}(h:∀ x∈o.op.operands,ρ x=ρ' x):Ahz G o ρ base=Ahz G o ρ' base:=by
 have pairs:∀ ps:Array (Nat×Operand),(∀ x∈(ps.toList.map (·.2)).toArray,ρ x=ρ' x)→Tu (fun p=>(p.1,ρ p.2)) ps.toList=Tu (fun p=>(p.1,ρ' p.2)) ps.toList:=fun ps hp =>
  Avi fun p hm=>by rw[hp p.2 (by simp only[List.mem_toArray,List.mem_map];exact⟨p,hm,rfl⟩)]
 unfold Ahz
 cases ho:o.op<;>rw[ho] at h<;>simp only[Op.operands] at h<;>try dsimp only
 case build t ps=>rw[pairs ps h]
 case buildSlice t n ps=>rw[pairs ps h]
 case makeFunc fn first captured =>
  have hc:Tu ρ captured.toList=Tu ρ' captured.toList:=Avi fun x hx=>h x (by simp;exact .inr (by simpa using hx))
  obtain⟨l⟩:=first
  cases fn with
  | func f=>cases l with
   | nil=>exact congrArg (fun m=>(bif To Bid m then OpT.done (AV.fn f (Aya m),[]) else OpT.fail:OpV)) hc
   | cons _ _=>rfl
  | _=>rfl
 case call c =>
  have hargs:Tu ρ c.args.toList=Tu ρ' c.args.toList:=Avi fun x hx=>h x (by simp[Call.operands];exact .inr (by simpa using hx))
  rw[hargs]
  cases hc:c.callee with
  | value f=>dsimp only;rw[h f (by simp[Call.operands,hc])]
  | _=>rfl
 case slice t x lo hi mx=>cases lo<;>cases hi<;>cases mx<;>simp_all
 all_goals first|rfl | (simp_all;done)
structure Sp where
 i:Nat
 dst:Option Tmp
 v:AV
 u:Rc
 l:List Id
def St.app(S:St)(s:Sp):St:={ S with env:=Adl S.env s.dst s.v,objs:=Fg s.u S.objs }
def unB:AV→Bool
 | .un=>true
 | _=>false
def An6(S:St)(ops:Array Oper)(o:Oper):Option Bool :=
 match o.guard with
 | none=>some true
 | some (j,want)=>match Cdx (Bvr ops.toList j) with
  | none=>none
  | some d=>match asBool (Ia S.env d) with
   | some b=>some (b == want)
   | none=>bif unB (Ia S.env d) then some false else none
def Stp(C:Ap)(G:Ctx)(ops:Array Oper)(S:St)(i:Nat)(o:Oper)(s:Sp):Prop :=
 s.i=i∧s.dst=o.dst∧((An6 S ops o=some true∧Ba C S.objs (Ahz G o S.eval (S.next,i,0)) [] (s.v,s.u) s.l) ∨
  (An6 S ops o=some false∧s.v=.un∧s.u=[]∧s.l=[]))
theorem Bj0{S S':St}{ops:Array Oper}{o:Oper}(h:∀ j want d,o.guard=some (j,want)→Cdx (Bvr ops.toList j)=some d→Ia S.env d=Ia S'.env d):An6 S ops o=An6 S' ops o:=by
 unfold An6
 cases hg:o.guard with
 | none=>rfl
 | some p =>
  obtain⟨j,want⟩:=p
  dsimp only
  cases hd:Cdx (Bvr ops.toList j) with
  | none=>rfl
  | some d=>dsimp only;rw[h j want d hg hd]
theorem Stp.eqv{C:Ap}{G:Ctx}{ops:Array Oper}{S S':St}{i:Nat}{o:Oper}{s:Sp}(h:Stp C G ops S i o s)(e:Eqv S S'):Stp C G ops S' i o s:=by
 refine⟨h.1,h.2.1,?_⟩
 rw[← Bj0 (S:=S) fun j want d _ _=>e.env d,← St.eval_eqv e,← e.next]
 rcases h.2.2 with⟨h1,h2⟩|h1
 ·exact .inl ⟨h1,h2.congr fun id _=>(e.objs id).symm⟩
 ·exact .inr h1
theorem Bwc{S S':St}(e:Eqv S S')(s:Sp):Eqv (S.app s) (S'.app s):=by
 refine⟨e.next,fun t=>?_,fun id=>?_⟩
 ·simp only[St.app]
  cases s.dst with
  | none=>exact e.env t
  | some d=>simp only[Adl,Rt,e.env t]
 ·simp only[St.app,Ady,e.objs id]
inductive Tr(C:Ap)(G:Ctx)(ops:Array Oper):List (Nat×Oper)→St→List Sp→St→Prop
 | nil (S:St):Tr C G ops [] S [] S
 | cons (i:Nat) (o:Oper) (rest:List (Nat×Oper)) (S S1:St) (s:Sp) (sps:List Sp) (S':St) (h:Stp C G ops S i o s) (h1:Eqv (S.app s) S1) (hr:Tr C G ops rest S1 sps S'):Tr C G ops ((i,o)::rest) S (s::sps) S'
def Sp.row(s:Sp):Row:=⟨s.i,s.l,X6 s.u⟩
theorem Av5{S:St}{d:Nat}{fr b:Bool}{q:Bool}(h:Ia S.env d=.d fr .bool b)(hq:b=q):Eqv { S with env:=(d,.d fr .bool q)::S.env } S :=
 ⟨rfl,fun t=>by
  show Ia ((d,AV.d fr .bool q)::S.env) t=_
  rw[Rt]
  by_cases e:d=t
  ·rw[if_pos e,← e,h,hq]
  ·rw[if_neg e],fun _=>rfl⟩
theorem As4{α:Type}{c:Bool}{t e:Option α}{r:α}(h:Ah c t e=some r):(c=true∧t=some r)∨(c=false∧e=some r):=by
 cases c
 ·exact .inr ⟨rfl,h⟩
 ·exact .inl ⟨rfl,h⟩
theorem Bd4{ω:Type}{C:Ap}{G:Ctx}{ops:Array Oper}{draw:Bool}{k:St→Option ω}{r:ω}:∀ (lst:List (Nat×Oper)) (S:St) (rows:List Row),
  Ait C G ops draw lst S rows k=some r →
  ∃ sps S',Tr C G ops lst S sps S'∧(draw=true→Azf ops (Ug ops.toList []) ((sps.map Sp.row).reverse++rows)=true)∧k { S' with next:=Nat.succ S'.next }=some r
 | [],S,rows,h=>by
  simp only[Ait] at h
  rcases As4 h with⟨h1,h2⟩ | ⟨_,h2⟩
  ·refine⟨[],S,.nil S,fun hd=>?_,h2⟩
   subst hd
   simpa using h1
  ·cases h2
 | (i,o)::rest,S,rows,h=>by
  have run:∀ S0:St,Eqv S0 S→An6 S0 ops o=some true →
    (T8 C S0.objs (Ahz G o S0.eval (S0.next,i,0)) [] fun a l=>Ait C G ops draw rest { S0 with env:=Adl S0.env o.dst a.1,objs:=Fg a.2 S0.objs } (⟨i,l,X6 a.2⟩::rows) k)=some r →
    ∃ sps S',Tr C G ops ((i,o)::rest) S sps S'∧(draw=true→Azf ops (Ug ops.toList []) ((sps.map Sp.row).reverse++rows)=true)∧k { S' with next:=Nat.succ S'.next }=some r:=by
   intro S0 he hw hi
   obtain⟨a,l,h1,h2⟩:=Hc hi
   obtain⟨sps,S',k1,k2,k3⟩:=Bd4 rest _ _ h2
   refine⟨⟨i,o.dst,a.1,a.2,l⟩::sps,S',.cons i o rest S _ _ sps S' ?_ (Bwc he.symm _) k1,fun hd=>?_,k3⟩
   ·exact Stp.eqv (S:=S0) ⟨rfl,rfl,.inl ⟨hw,h1⟩⟩ he
   ·have:=k2 hd
    simpa [Sp.row] using this
  have skip:∀ S0:St,Eqv S0 S→An6 S0 ops o=some false →
    Ait C G ops draw rest { S0 with env:=Adl S0.env o.dst .un } (⟨i,[],[]⟩::rows) k=some r →
    ∃ sps S',Tr C G ops ((i,o)::rest) S sps S'∧(draw=true→Azf ops (Ug ops.toList []) ((sps.map Sp.row).reverse++rows)=true)∧k { S' with next:=Nat.succ S'.next }=some r:=by
   intro S0 he hw hi
   obtain⟨sps,S',k1,k2,k3⟩:=Bd4 rest _ _ hi
   refine⟨⟨i,o.dst,.un,[],[]⟩::sps,S',.cons i o rest S _ _ sps S' ?_ (Bwc he.symm _) k1,fun hd=>?_,k3⟩
   ·exact Stp.eqv (S:=S0) ⟨rfl,rfl,.inr ⟨hw,rfl,rfl,rfl⟩⟩ he
   ·have:=k2 hd
    simpa [Sp.row,X6] using this
  simp only[Ait] at h
  split at h
  ·rename_i hg
   exact run S (Eqv.refl S) (by simp only[An6,hg]) h
  ·rename_i j want hg
   split at h
   ·cases h
   ·rename_i d hd
    split at h
    ·rename_i fr b hl
     have hwant:∀ q:Bool,b=q→An6 { S with env:=(d,.d fr .bool q)::S.env } ops o=some ((b:Bool) == want):=by
      intro q hq
      simp only[An6,hg,hd,Rt,if_true,hq,asBool]
     cases want with
     | true =>
      rcases As4 h with⟨h1,h2⟩ | ⟨h1,h2⟩
      ·exact run _ (Av5 hl h1) (by rw[hwant true h1,h1];rfl) h2
      ·exact skip _ (Av5 hl h1) (by rw[hwant false h1,h1];rfl) h2
     | false =>
      rcases As4 h with⟨h1,h2⟩ | ⟨h1,h2⟩
      ·exact skip _ (Av5 hl h1) (by rw[hwant true h1,h1];rfl) h2
      ·exact run _ (Av5 hl h1) (by rw[hwant false h1,h1];rfl) h2
    ·rename_i hl
     exact skip S (Eqv.refl S) (by simp only[An6,hg,hd,hl,asBool,unB,cond_true]) h
    ·cases h
end Go.Pon
namespace Go.Pon
open Go
theorem Bef{α:Type}:∀ (l:List α) (n:Nat),Bvr l n=l[n]?
 | [],n=>by cases n<;>rfl
 | a::l,0=>rfl
 | a::l,n+1=>by simpa [Bvr] using Bef l n
section
variable {K:Dq} {S:St} {used:Id→Nat→Prop} {γ:Id→Value} {a:Act} {w:World} {ops:Array Oper} {o:Oper}
theorem Btm(h:Hi K S used γ a w){b:Bool}(hw:An6 S ops o=some b):Region.wanted o (yielded ops a.tmps)=b:=by
 unfold An6 at hw
 unfold Region.wanted
 split at hw
 ·rename_i hg;rw[hg];exact Option.some.inj hw
 ·rename_i j want hg
  rw[hg]
  dsimp only
  rw[Bef] at hw
  split at hw
  ·cases hw
  ·rename_i d hd
   have hd:(ops[j]?).bind (·.dst)=some d:=by
    cases ho:ops[j]? with
    | none=>rw[Array.getElem?_toList,ho] at hd;cases hd
    | some x=>rw[Array.getElem?_toList,ho] at hd;exact hd
   have hv:=h.env d
   cases hq:asBool (Ia S.env d) with
   | some q =>
    rw[hq] at hw
    have e:=Bjz hq hv
    have:a.tmps[d]?=some (.bool q):=by
     rw[Array.getD_eq_getD_getElem?] at e
     cases ht:a.tmps[d]? with
     | none=>rw[ht] at e;cases e
     | some x=>rw[ht] at e;exact congrArg some e
    cases hw
    simp only[yielded,hd,Option.bind_some,this]
    cases q<;>cases want<;>rfl
   | none =>
    rw[hq] at hw
    cases hl:Ia S.env d with
    | un =>
     rw[hl] at hv hw
     have e:a.tmps.getD d undef=undef:=hv
     cases hw
     rw[Array.getD_eq_getD_getElem?] at e
     simp only[yielded,hd,Option.bind_some]
     cases ht:a.tmps[d]? with
     | none=>rfl
     | some x=>rw[ht] at e;rw[show x=undef from e];rfl
    | _=>rw[hl] at hw;cases hw
theorem Cjy(h:Hi K S used γ a w)(hK:K.OK){i:Nat}{s:Sp}(hs:Stp K.C K.G ops S i o s)(hop:Bvm o=true)(hd:∀ d,o.dst=some d→K.dok d)(hi:ops[i]?=some o)
  (hu:∀ id:Id,id.1=S.next→id.2.1=i→∀ v,¬ used id v) {Q:Exit→Act→World→Prop} {k:Act→World→Prop}
  (hk:∀ used' γ' a' w',Bck used used' (S.next,i,0)→Hi K (S.app s) used' γ' a' w'→k a' w'):wpOp K.P ops Q i k a w:=by
 unfold wpOp
 rw[hi]
 dsimp only
 obtain⟨h1,h2,h3⟩:=hs
 rcases h3 with⟨hw,hl⟩ | ⟨hw,hv,hu0,hl⟩
 ·rw[Btm h hw,if_pos rfl]
  refine .inl (Cqz h hK (base:=(S.next,i,0)) (fun id i1 i2=>hu id i1 i2) hop hd hl fun used' γ' a' w' hg hr=>hk used' γ' a' w' hg ?_)
  rw[← h2] at hr
  exact hr
 ·rw[Btm h hw,if_neg (by simp)]
  refine hk used γ _ w (Bck.refl _ _) ?_
  have:=h.put (v:=.un) (val:=undef) rfl o.dst hd
  have e:S.app s={ S with env:=Adl S.env o.dst .un }:=by
   simp only[St.app,hv,hu0,h2];rfl
  rw[e]
  exact this
theorem Cj3{d:Nat}(h:(K.args.map (·.isSome)).getD d false=false∧d<K.nt):K.dok d:=by
 refine⟨fun v hv=>?_,h.2⟩
 have h1:=h.1
 rw[List.getD_eq_getElem?_getD,List.getElem?_map,hv] at h1
 cases h1
def Cdq(ps:List Bool)(nt:Nat)(ops:Array Oper):Bool :=
 To (fun p=>Bvm p.2&&(match p.2.dst with|none=>true|some d=>!(ps.getD d false)&&Nat.blt d nt)&&To (fun e=>!Region.binds .any e||Nat.blt e.on p.1) p.2.after.toList) (Asz 0 ops.toList)
theorem Byz{α:Type}:∀ (l:List α) (m i:Nat) (x:α),l[i]?=some x→(m+i,x)∈Asz m l
 | [],m,i,x,h=>by simp at h
 | y::l,m,0,x,h=>by simp at h;subst h;simp[Asz]
 | y::l,m,i+1,x,h=>by
  have:=Byz l (m+1) i x (by simpa using h)
  rw[show m+(i+1)=m+1+i by omega]
  exact List.mem_cons_of_mem _ this
theorem Bqm{α:Type}:∀ (l:List α) (m i:Nat),(Asz m l)[i]?=(l[i]?).map fun x=>(m+i,x)
 | [],m,i=>by simp[Asz]
 | y::l,m,0=>by simp[Asz]
 | y::l,m,i+1=>by
  simp only[Asz,List.getElem?_cons_succ,Bqm l (Nat.succ m) i]
  rw[show Nat.succ m+i=m+(i+1) by omega]
theorem Bp4{α:Type}:∀ (l:List α) (m:Nat),(Asz m l).map (·.1)=List.range' m l.length
 | [],m=>rfl
 | y::l,m=>by simp[Asz,List.range',Bp4 l (m+1)]
theorem Bc9{ps:List Bool}{nt:Nat}(h:Cdq ps nt ops=true){i:Nat}(hi:ops[i]?=some o) :
  Bvm o=true∧(∀ d,o.dst=some d→ps.getD d false=false∧d<nt)∧∀ e∈o.after,Region.binds .any e=true→e.on<i:=by
 have:=H7.1 h (0+i,o) (Byz ops.toList 0 i o (by simpa using hi))
 simp only[Bool.and_eq_true,Nat.zero_add] at this
 obtain⟨⟨h1,h2⟩,h3⟩:=this
 refine⟨h1,fun d hd=>?_,fun e he hb=>?_⟩
 ·rw[hd] at h2;simpa [Nat.blt_eq] using h2
 ·have:=H7.1 h3 e (by simpa using he)
  simpa [hb,Nat.blt_eq] using this
theorem Coi(hK:K.OK){Q:Exit→Act→World→Prop}{S':St}{n:Nat}(hQ:∀ used' γ' a' w',Hi K S' used' γ' a' w'→(∀ id v,used' id v→id.1<n+1)→Q .normal a' w') :
  ∀ (lst:List (Nat×Oper)) (S:St) (sps:List Sp),Tr K.C K.G ops lst S sps S'→(∀ p∈lst,ops[p.1]?=some p.2∧Bvm p.2=true∧∀ d,p.2.dst=some d→K.dok d)→(lst.map (·.1)).Nodup→S.next=n →
   ∀ (used:Id→Nat→Prop) (γ:Id→Value) (a:Act) (w:World),Hi K S used γ a w→(∀ id v,used id v→id.1<n∨(id.1=n∧id.2.1 ∉ lst.map (·.1)))→wpOps K.P ops Q (lst.map (·.1)) a w:=by
 intro lst S sps ht
 induction ht with
 | nil S =>
  intro _ _ hn used γ a w h hu
  refine hQ used γ a w h fun id v hv=>?_
  rcases hu id v hv with h1 | ⟨h1,_⟩<;>omega
 | cons i o rest S S1 s sps S' hs he hr ih =>
  intro hp hnd hn used γ a w h hu
  obtain⟨p1,p2,p3⟩:=hp (i,o) (List.mem_cons_self ..)
  simp only[List.map_cons,List.nodup_cons] at hnd
  simp only[List.map_cons]
  rw[wpOps_cons]
  refine Cjy h hK hs p2 p3 p1 (fun id i1 i2 v hv=>?_) fun used' γ' a' w' hg hrel=>?_
  ·rcases hu id v hv with h1 | ⟨_,h1⟩
   ·omega
   ·exact h1 (by rw[i2];simp)
  ·refine ih hQ (fun p hm=>hp p (List.mem_cons_of_mem _ hm)) hnd.2 (by rw[← he.next];exact hn) used' γ' a' w' (hrel.eqv he) fun id v hv=>?_
   rcases hg id v hv with⟨v',hv'⟩ | ⟨i1,i2⟩
   ·rcases hu id v' hv' with h1 | ⟨h1,h2⟩
    ·exact .inl h1
    ·exact .inr ⟨h1,fun hm=>h2 (List.mem_cons_of_mem _ hm)⟩
   ·refine .inr ⟨i1.trans hn,fun hm=>?_⟩
    have i2:id.2.1=i:=i2
    rw[i2] at hm
    exact hnd.1 hm
end
def rep(D:Nat→Bool):St→List Sp→St
 | S,[]=>S
 | S,s::r=>rep D (bif D s.i then S.app s else S) r
theorem Anp(D:Nat→Bool):∀ (l m:List Sp) (S:St),rep D S (l++m)=rep D (rep D S l) m
 | [],_,_=>rfl
 | s::l,m,S=>Anp D l m _
theorem Akf(D:Nat→Bool):∀ (l:List Sp) (S:St),(rep D S l).next=S.next
 | [],_=>rfl
 | s::l,S=>by
  simp only[rep]
  rw[Akf D l]
  cases D s.i<;>rfl
theorem Bly(D:Nat→Bool):∀ (l:List Sp) {S S':St},Eqv S S'→Eqv (rep D S l) (rep D S' l)
 | [],_,_,h=>h
 | s::l,S,S',h=>by
  simp only[rep]
  refine Bly D l ?_
  cases D s.i with
  | true=>exact Bwc h s
  | false=>exact h
theorem Ca4{S:St}{s:Sp}{t:Nat}(h:s.dst≠some t):Ia (S.app s).env t=Ia S.env t:=by
 simp only[St.app]
 cases hd:s.dst with
 | none=>rfl
 | some d =>
  simp only[Adl,Rt]
  rw[if_neg (fun e=>h (by rw[hd,e]))]
theorem Bek{S:St}{s:Sp}{id:Id}(h:Ap1 (X6 s.u) id=false):An (S.app s).objs id=An S.objs id:=by
 simp only[St.app,Ady,h];rfl
theorem Bf0{D D':Nat→Bool}{t:Nat}:∀ (l:List Sp) {S S':St},Ia S.env t=Ia S'.env t→(∀ s∈l,D s.i≠D' s.i→s.dst≠some t)→Ia (rep D S l).env t=Ia (rep D' S' l).env t
 | [],_,_,h,_=>h
 | s::l,S,S',h,hd=>by
  simp only[rep]
  refine Bf0 l ?_ fun s' hs'=>hd s' (List.mem_cons_of_mem _ hs')
  have h0:=hd s (List.mem_cons_self ..)
  have hw:∀ (S S':St),Ia S.env t=Ia S'.env t→Ia (S.app s).env t=Ia (S'.app s).env t:=fun S S' h=>by
   simp only[St.app]
   cases s.dst with
   | none=>exact h
   | some d=>simp only[Adl,Rt,h]
  cases h1:D s.i<;>cases h2:D' s.i
  ·exact h
  ·show Ia S.env t=Ia (S'.app s).env t
   rw[Ca4 (h0 (by rw[h1,h2];simp))];exact h
  ·show Ia (S.app s).env t=Ia S'.env t
   rw[Ca4 (h0 (by rw[h1,h2];simp))];exact h
  ·exact hw S S' h
theorem Bai{D D':Nat→Bool}{id:Id}:∀ (l:List Sp) {S S':St},An S.objs id=An S'.objs id→(∀ s∈l,D s.i≠D' s.i→Ap1 (X6 s.u) id=false)→An (rep D S l).objs id=An (rep D' S' l).objs id
 | [],_,_,h,_=>h
 | s::l,S,S',h,hd=>by
  simp only[rep]
  refine Bai l ?_ fun s' hs'=>hd s' (List.mem_cons_of_mem _ hs')
  have h0:=hd s (List.mem_cons_self ..)
  cases h1:D s.i<;>cases h2:D' s.i
  ·exact h
  ·show An S.objs id=An (S'.app s).objs id
   rw[Bek (h0 (by rw[h1,h2];simp))];exact h
  ·show An (S.app s).objs id=An S'.objs id
   rw[Bek (h0 (by rw[h1,h2];simp))];exact h
  ·show An (S.app s).objs id=An (S'.app s).objs id
   simp only[St.app,Ady,h]
theorem Cdf{D:Nat→Bool}{s:Sp}:∀ (l:List Sp) (S:St),(∀ s'∈l,D s'.i=true→(∀ d,s.dst=some d→s'.dst≠some d)∧∀ id,Ap1 (X6 s.u) id=true→Ap1 (X6 s'.u) id=false) →
  Eqv (rep D (S.app s) l) ((rep D S l).app s)
 | [],S,_=>Eqv.refl _
 | s'::l,S,h=>by
  simp only[rep]
  have ih:=fun S=>Cdf (D:=D) (s:=s) l S fun s'' hs=>h s'' (List.mem_cons_of_mem _ hs)
  cases hd:D s'.i with
  | false=>exact ih S
  | true =>
   obtain⟨h1,h2⟩:=h s' (List.mem_cons_self ..) hd
   refine Eqv.trans (Bly D l ?_) (ih (S.app s'))
   refine⟨rfl,fun t=>?_,fun id=>?_⟩
   ·show Ia ((S.app s).app s').env t=Ia ((S.app s').app s).env t
    simp only[St.app]
    cases e1:s.dst with
    | none=>rfl
    | some d =>
     cases e2:s'.dst with
     | none=>rfl
     | some d' =>
      have hne:d'≠d:=fun e=>h1 d e1 (by rw[e2,e])
      simp only[Adl,Rt]
      by_cases e3:d'=t
      ·rw[if_pos e3,if_neg (fun e=>hne (e3.trans e.symm)),if_pos e3]
      ·rw[if_neg e3,if_neg e3]
   ·show An ((S.app s).app s').objs id=An ((S.app s').app s).objs id
    simp only[St.app,Ady]
    cases e1:Ap1 (X6 s.u) id with
    | true=>rw[h2 id e1];simp
    | false=>simp
theorem Tr.get{C:Ap}{G:Ctx}{ops:Array Oper}{lst:List (Nat×Oper)}{S S':St}{sps:List Sp}(h:Tr C G ops lst S sps S') :
  Eqv (rep (fun _=>true) S sps) S'∧sps.length=lst.length∧∀ (n:Nat) (p:Nat×Oper),lst[n]?=some p→∃ s,sps[n]?=some s∧Stp C G ops (rep (fun _=>true) S (sps.take n)) p.1 p.2 s:=by
 induction h with
 | nil S=>exact⟨Eqv.refl S,rfl,fun n p h=>by simp at h⟩
 | cons i o rest S S1 s sps S' hs he hr ih =>
  obtain⟨h1,h2,h3⟩:=ih
  refine⟨(Bly _ sps he).trans h1,by simp[h2],fun n p hp=>?_⟩
  cases n with
  | zero=>simp at hp;subst hp;exact⟨s,rfl,hs⟩
  | succ n =>
   obtain⟨s',k1,k2⟩:=h3 n p (by simpa using hp)
   exact⟨s',by simpa using k1,k2.eqv (by simp only[List.take_succ_cons,rep];exact Bly _ _ he.symm)⟩
def Apt(ops:Array Oper)(bs:List Nat)(q r:Sp):Prop :=
 Nat.testBit (bs.getD r.i 0) q.i=true∨(Bhx ops q.i r.i=true∧Aor (X6 q.u) r.l=true∧Aor (X6 q.u) (X6 r.u)=true∧Aor (X6 r.u) q.l=true)
theorem Bfn{ops:Array Oper}{bs:List Nat}:∀ (l:List Sp),Azf ops bs (l.map Sp.row)=true→l.Pairwise fun r q=>Apt ops bs q r
 | [],_=>List.Pairwise.nil
 | r::l,h=>by
  simp only[List.map_cons,Azf,Bool.and_eq_true] at h
  refine List.Pairwise.cons (fun q hq=>?_) (Bfn l h.2)
  have:=H7.1 h.1 q.row (List.mem_map.2 ⟨q,hq,rfl⟩)
  simp only[Sp.row,Bool.or_eq_true,Bool.and_eq_true] at this
  exact this.imp (fun h=>h) fun h=>⟨h.1.1.1,h.1.1.2,h.1.2,h.2⟩
theorem Bcg{l m:List Id}(h:Aor l m=true):∀ id,Ap1 l id=true→id ∉ m:=by
 intro id hid hm
 rw[Aom] at hid
 induction l with
 | nil=>simp at hid
 | cons a l ih =>
  simp only[Aor,Bool.and_eq_true,Bool.not_eq_true'] at h
  rcases List.mem_cons.1 hid with rfl|hid
  ·have:=Aom.2 hm
   rw[h.1] at this;cases this
  ·exact ih h.2 hid
theorem Bm5{acc:List Nat}:∀ (es:List Edge) (m q:Nat),Nat.testBit (Bjv acc es m) q=true→Nat.testBit m q=true∨∃ e∈es,Region.binds .any e=true∧(q=e.on∨Nat.testBit (acc.getD e.on 0) q=true)
 | [],m,q,h=>.inl h
 | e::es,m,q,h=>by
  simp only[Bjv] at h
  rcases Bm5 es _ q h with h1 | ⟨e',h1,h2⟩
  ·cases hb:Region.binds .any e with
   | false=>rw[hb] at h1;exact .inl h1
   | true =>
    rw[hb] at h1
    have h1:Nat.testBit (m ||| ((1 <<< e.on) ||| acc.getD e.on 0)) q=true:=h1
    simp only[Nat.testBit_or,Bool.or_eq_true] at h1
    rcases h1 with h1|h1|h1
    ·exact .inl h1
    ·refine .inr ⟨e,List.mem_cons_self ..,hb,.inl ?_⟩
     rw[Nat.shiftLeft_eq,Nat.one_mul,Nat.testBit_two_pow] at h1
     have h1:e.on=q:=by simpa using h1
     exact h1.symm
    ·exact .inr ⟨e,List.mem_cons_self ..,hb,.inr h1⟩
  ·exact .inr ⟨e',List.mem_cons_of_mem _ h1,h2⟩
theorem Bep:∀ (l:List Oper) (acc:List Nat),∃ r,Ug l acc=acc++r∧r.length=l.length ∧
  ∀ (i:Nat) (o:Oper),l[i]?=some o→(Ug l acc)[acc.length+i]?=some (Bjv ((Ug l acc).take (acc.length+i)) o.after.toList 0)
 | [],acc=>⟨[],by simp[Ug],rfl,fun i o h=>by simp at h⟩
 | o::l,acc=>by
  obtain⟨r,h1,h2,h3⟩:=Bep l (acc++[Bjv acc o.after.toList 0])
  have e:Ug (o::l) acc=Ug l (acc++[Bjv acc o.after.toList 0]):=by simp only[Ug,Amb]
  rw[e]
  refine⟨Bjv acc o.after.toList 0::r,by rw[h1];simp,by simp[h2],fun i o' hi=>?_⟩
  cases i with
  | zero =>
   simp at hi;subst hi
   rw[h1]
   simp[List.append_assoc]
  | succ i =>
   have:=h3 i o' (by simpa using hi)
   simp only[List.length_append,List.length_cons,List.length_nil] at this
   rw[show acc.length+(i+1)=acc.length+(0+1)+i by omega]
   exact this
theorem Bbt{ops:Array Oper}{D:Nat→Bool}(hc:∀ (i:Nat) (o:Oper),ops[i]?=some o→D i=true→∀ e∈o.after,Region.binds .any e=true→D e.on=true) :
  ∀ (i q:Nat) (o:Oper),ops[i]?=some o→(∀ e∈o.after,Region.binds .any e=true→D e.on=true)→Nat.testBit ((Ug ops.toList []).getD i 0) q=true→D q=true:=by
 obtain⟨r,h1,h2,h3⟩:=Bep ops.toList []
 intro i
 induction i using Nat.strongRecOn with
 | ind i ih =>
  intro q o hi he hq
  have hb:=h3 i o (by simpa using hi)
  simp only[List.length_nil,Nat.zero_add] at hb
  rw[List.getD_eq_getElem?_getD,hb,Option.getD_some] at hq
  rcases Bm5 _ _ _ hq with h4 | ⟨e,h4,h5,h6⟩
  ·simp at h4
  ·have hD:=he e (by simpa using h4) h5
   rcases h6 with rfl|h6
   ·exact hD
   ·have hlt:e.on<i:=by
     rcases Nat.lt_or_ge e.on i with hlt|hge
     ·exact hlt
     ·rw[List.getD_eq_getElem?_getD,List.getElem?_take,if_neg (by omega)] at h6
      simp at h6
    have hlen:e.on<ops.size:=Nat.lt_trans hlt (Array.getElem?_eq_some_iff.1 hi).1
    refine ih e.on hlt q ops[e.on] (by simp[hlen]) (fun e' he' hb'=>hc e.on _ (by simp[hlen]) hD e' he' hb') ?_
    rw[List.getD_eq_getElem?_getD,List.getElem?_take,if_pos hlt] at h6
    rw[List.getD_eq_getElem?_getD]
    exact h6
section
variable {K:Dq} {S:St} {used:Id→Nat→Prop} {γ:Id→Value} {a:Act} {w:World} {ops:Array Oper} {o:Oper}
theorem Stp.congr{C:Ap}{G:Ctx}{S S':St}{i:Nat}{s:Sp}(h:Stp C G ops S i o s)(hn:S.next=S'.next)(ht:∀ t∈o.looksAt ops,Ia S.env t=Ia S'.env t)(ho:∀ id∈s.l,An S.objs id=An S'.objs id) :
  Stp C G ops S' i o s:=by
 have hw:An6 S ops o=An6 S' ops o:=Bj0 fun j want d hg hd=>by
  refine ht d ?_
  unfold Oper.looksAt
  rw[hg]
  refine List.mem_append_right _ ?_
  rw[Bef] at hd
  cases hj:ops[j]? with
  | none=>rw[Array.getElem?_toList,hj] at hd;cases hd
  | some x =>
   rw[Array.getElem?_toList,hj] at hd
   have hd:x.dst=some d:=hd
   simp[hj,hd]
 refine⟨h.1,h.2.1,?_⟩
 rw[← hw]
 rcases h.2.2 with⟨h1,h2⟩|h1
 ·refine .inl ⟨h1,?_⟩
  have he:Ahz G o S.eval (S.next,i,0)=Ahz G o S'.eval (S'.next,i,0):=by
   rw[hn]
   refine Bxb fun x hx=>?_
   cases x with
   | tmp t =>
    refine ht t (List.mem_append_left _ (List.mem_filterMap.2 ⟨.tmp t,by simpa using hx,rfl⟩))
   | _=>rfl
  rw[← he]
  exact h2.congr fun id hid=>(ho id hid).symm
 ·exact .inr h1
theorem Hi.drawn(h:Hi K S used γ a w)(n:Nat):Hi K S used γ a { w with drawn:=n }:=by
 have hs:Wy (Bi K S.objs used γ w) (Bi K S.objs used γ { w with drawn:=n }):=⟨Nat.le_refl _,fun _ _ _ h=>⟨h,rfl⟩,fun _ _ h=>h,fun _ _ _ _ _ h=>⟨h,rfl⟩,fun _ _ _ h=>⟨h,rfl⟩,fun _ _ _ _ h=>⟨h,rfl⟩⟩
 exact h.move hs (fun id o ho=>OR.step hs rfl (fun _ _=>rfl) (h.objs id o ho)) h.ou h.vers h.sep h.mod ⟨h.frame.os,h.frame.tape,h.frame.output,h.frame.size,h.frame.block⟩
def left(n:Nat)(listed:Array Bool):Nat:=((List.range n).filter fun i=>!listed.getD i true).length
theorem Chw{n i:Nat}{listed:Array Bool}(hi:i<n)(hl:listed.getD i true=false):left n (listed.setIfInBounds i true)<left n listed:=by
 unfold left
 have hsz:i<listed.size:=by
  rcases Nat.lt_or_ge i listed.size with h|h
  ·exact h
  ·simp[h] at hl
 have e:(List.range n).filter (fun j=>!(listed.setIfInBounds i true).getD j true)=((List.range n).filter fun j=>!listed.getD j true).filter fun j=>j != i:=by
  rw[List.filter_filter]
  refine List.filter_congr fun j _=>?_
  by_cases h:i=j
  ·subst h;simp[hsz]
  ·rw[getD_set_ne true h]
   simp[Ne.symm h]
 rw[e]
 have hm:i∈(List.range n).filter fun j=>!listed.getD j true:=List.mem_filter.2 ⟨List.mem_range.2 hi,by simpa using hl⟩
 exact List.length_filter_lt_length_iff_exists.2 ⟨i,hm,by simp⟩
theorem Cfy{n:Nat}{listed:Array Bool}(h:left n listed=0)(i:Nat)(hi:i<n):listed.getD i true=true:=by
 unfold left at h
 have h0:=List.eq_nil_of_length_eq_zero h
 cases hl:listed.getD i true with
 | true=>rfl
 | false =>
  have:i∈(List.range n).filter fun i=>!listed.getD i true:=List.mem_filter.2 ⟨List.mem_range.2 hi,by simp only[hl];rfl⟩
  rw[h0] at this
  simp at this
theorem Coa(hK:K.OK){Q:Exit→Act→World→Prop}{S0 Sn:St}{sps:List Sp}(ht:Tr K.C K.G ops (Asz 0 ops.toList) S0 sps Sn)(hreg:Cdq (K.args.map (·.isSome)) K.nt ops=true)
  (hfree:Azf ops (Ug ops.toList []) ((sps.map Sp.row).reverse++[])=true)
  (hQ:∀ used' γ' a' w',Hi K Sn used' γ' a' w'→(∀ id v,used' id v→id.1<S0.next+1)→Q .normal a' w') :
  ∀ (fuel:Nat) (listed:Array Bool) (used:Id→Nat→Prop) (γ:Id→Value) (a:Act) (w:World),listed.size=ops.size→left ops.size listed≤fuel →
   (∀ (i:Nat) (o:Oper),ops[i]?=some o→listed.getD i false=true→∀ e∈o.after,Region.binds .any e=true→listed.getD e.on false=true) →
   Hi K (rep (fun i=>listed.getD i false) S0 sps) used γ a w→(∀ id v,used id v→id.1<S0.next∨(id.1=S0.next∧listed.getD id.2.1 false=true)) →
   wpAny K.P .any ops Q fuel listed a w:=by
 obtain⟨g1,g2,g3⟩:=ht.get
 have g2:sps.length=ops.size:=by
  rw[g2]
  have:=congrArg List.length (Bp4 ops.toList 0)
  simpa using this
 have g3:∀ (i:Nat) (o:Oper),ops[i]?=some o→∃ s,sps[i]?=some s∧Stp K.C K.G ops (rep (fun _=>true) S0 (sps.take i)) i o s:=fun i o hi=>by
  have:=g3 i (0+i,o) (by rw[Bqm];simp[hi])
  simpa using this
 have gi:∀ (i:Nat) (s:Sp),sps[i]?=some s→s.i=i∧∃ o,ops[i]?=some o∧s.dst=o.dst:=fun i s hs=>by
  have hlt:i<ops.size:=by rw[← g2];exact (List.getElem?_eq_some_iff.1 hs).1
  obtain⟨s',k1,k2⟩:=g3 i ops[i] (by simp[hlt])
  rw[hs] at k1;cases k1
  exact⟨k2.1,ops[i],by simp[hlt],k2.2.1⟩
 have hpair:∀ (i j:Nat) (si sj:Sp),j<i→sps[j]?=some sj→sps[i]?=some si→Apt ops (Ug ops.toList []) sj si:=by
  rw[List.append_nil,← List.map_reverse] at hfree
  have:=List.pairwise_reverse.1 (Bfn _ hfree)
  rw[List.pairwise_iff_getElem] at this
  intro i j si sj hlt hj hi
  obtain⟨lj,rfl⟩:=List.getElem?_eq_some_iff.1 hj
  obtain⟨li,rfl⟩:=List.getElem?_eq_some_iff.1 hi
  exact this j i lj li hlt
 have done:∀ (listed:Array Bool) (used:Id→Nat→Prop) (γ:Id→Value) (a:Act) (w:World),listed.size=ops.size→Hi K (rep (fun i=>listed.getD i false) S0 sps) used γ a w →
   (∀ id v,used id v→id.1<S0.next∨(id.1=S0.next∧listed.getD id.2.1 false=true))→(∀ i,i<ops.size→listed.getD i true=true)→Q .normal a w:=by
  intro listed used γ a w hsz h hu hall
  have hD:∀ i,i<ops.size→listed.getD i false=true:=fun i hi=>by
   have:=hall i hi
   have hs:i<listed.size:=by rw[hsz];exact hi
   simpa [Array.getD,hs] using this
  have he:Eqv (rep (fun i=>listed.getD i false) S0 sps) (rep (fun _=>true) S0 sps):=by
   have hne:∀ s∈sps,listed.getD s.i false≠true→False:=fun s hs hn=>by
    obtain⟨i,hi⟩:=List.getElem?_of_mem hs
    have:=(gi i s hi).1
    exact hn (this▸hD i (by rw[← g2];exact (List.getElem?_eq_some_iff.1 hi).1))
   exact⟨by rw[Akf,Akf],fun t=>Bf0 sps rfl fun s hs hn=>(hne s hs hn).elim,fun id=>Bai sps rfl fun s hs hn=>(hne s hs hn).elim⟩
  refine hQ used γ a w (h.eqv (he.trans g1)) fun id v hv=>?_
  rcases hu id v hv with h1 | ⟨h1,_⟩<;>omega
 have ready_nil:∀ (listed:Array Bool),listed.size=ops.size→Region.ready .any ops listed=[]→∀ i,i<ops.size→listed.getD i true=true:=by
  intro listed hsz hr i
  induction i using Nat.strongRecOn with
  | ind i ih =>
   intro hi
   cases hl:listed.getD i true with
   | true=>rfl
   | false =>
    have:i∈Region.ready .any ops listed:=mem_ready.2 ⟨hl,ops[i],by simp[hi],fun e he hb=>by
     have hlt:=(Bc9 hreg (i:=i) (o:=ops[i]) (by simp[hi])).2.2 e he hb
     have:=ih e.on hlt (by omega)
     have hs:e.on<listed.size:=by rw[hsz];omega
     simpa [Array.getD,hs] using this⟩
    rw[hr] at this
    simp at this
 intro fuel
 induction fuel with
 | zero =>
  intro listed used γ a w hsz hleft _ h hu
  have hz:left ops.size listed=0:=by omega
  have hall:=Cfy hz
  refine⟨List.eq_nil_iff_forall_not_mem.2 fun i hi=>?_,done listed used γ a w hsz h hu hall⟩
  obtain⟨h1,o,ho,_⟩:=mem_ready.1 hi
  rw[hall i (Array.getElem?_eq_some_iff.1 ho).1] at h1
  cases h1
 | succ fuel ih =>
  intro listed used γ a w hsz hleft hcl h hu
  refine⟨fun hr=>done listed used γ a w hsz h hu (ready_nil listed hsz hr),fun i hi=>?_⟩
  obtain⟨hun,o,ho,hafter⟩:=mem_ready.1 hi
  have hlt:i<ops.size:=(Array.getElem?_eq_some_iff.1 ho).1
  have hunf:listed.getD i false=false:=by
   have hs:i<listed.size:=by rw[hsz];exact hlt
   simpa [Array.getD,hs] using hun
  obtain⟨s,hs,hst⟩:=g3 i o ho
  obtain⟨r1,r2,r3⟩:=Bc9 hreg ho
  have hafter:∀ e∈o.after,Region.binds .any e=true→listed.getD e.on false=true:=hafter
  have hsi:s.i=i:=hst.1
  -- what is there already and what is not
  have hlow:∀ (j:Nat) (sj:Sp),sps[j]?=some sj→j<i→listed.getD j false=false→Bhx ops j i=true∧Aor (X6 sj.u) s.l=true∧Aor (X6 sj.u) (X6 s.u)=true∧Aor (X6 s.u) sj.l=true:=by
   intro j sj hj hji hnl
   have e1:=(gi j sj hj).1
   rcases hpair i j s sj hji hj hs with hb|hb
   ·rw[hsi,e1] at hb
    have:=Bbt (D:=fun i=>listed.getD i false) hcl i j o ho hafter hb
    rw[show listed.getD j false=true from this] at hnl;cases hnl
   ·rw[e1,hsi] at hb;exact hb
  have hhigh:∀ (j:Nat) (sj:Sp),sps[j]?=some sj→i<j→listed.getD j false=true→Bhx ops i j=true∧Aor (X6 s.u) sj.l=true∧Aor (X6 s.u) (X6 sj.u)=true∧Aor (X6 sj.u) s.l=true:=by
   intro j sj hj hji hl
   have e1:=(gi j sj hj).1
   rcases hpair j i sj s hji hs hj with hb|hb
   ·rw[hsi,e1] at hb
    obtain⟨_,oj,hoj,_⟩:=gi j sj hj
    have:=Bbt (D:=fun i=>listed.getD i false) hcl j i oj hoj (hcl j oj hoj hl) hb
    rw[show listed.getD i false=true from this] at hunf;cases hunf
   ·rw[hsi,e1] at hb;exact hb
  have hap:∀ (x y:Nat),Bhx ops x y=true→∃ ox oy,ops[x]?=some ox∧ops[y]?=some oy∧Oper.apart ops ox oy=true:=fun x y hxy=>by
   unfold Bhx at hxy
   rw[Bef,Bef,Array.getElem?_toList,Array.getElem?_toList] at hxy
   split at hxy
   ·rename_i ox oy hx hy;exact⟨ox,oy,hx,hy,hxy⟩
   ·cases hxy
  have hsplit:sps=sps.take i++s::sps.drop (i+1):=by
   obtain⟨hl,he⟩:=List.getElem?_eq_some_iff.1 hs
   rw[← he,← List.drop_eq_getElem_cons hl,List.take_append_drop]
  have hidx:∀ (j:Nat) (sj:Sp),(sps.drop (i+1))[j]?=some sj→sps[i+1+j]?=some sj:=fun j sj hj=>by rwa [List.getElem?_drop] at hj
  have hidx':∀ (j:Nat) (sj:Sp),(sps.take i)[j]?=some sj→j<i∧sps[j]?=some sj:=fun j sj hj=>by
   rw[List.getElem?_take] at hj
   split at hj
   ·exact⟨‹_›,hj⟩
   ·cases hj
  have hst':Stp K.C K.G ops (rep (fun i=>listed.getD i false) S0 sps) i o s:=by
   refine hst.congr (by rw[Akf,Akf]) (fun t htm=>?_) (fun id hid=>?_)
   ·have h1:Ia (rep (fun i=>listed.getD i false) S0 sps).env t=Ia (rep (fun i=>listed.getD i false) S0 (sps.take i)).env t:=by
     have:Ia (rep (fun i=>listed.getD i false) (rep (fun i=>listed.getD i false) S0 (sps.take i)) (s::sps.drop (i+1))).env t=Ia (rep (fun _=>false) (rep (fun i=>listed.getD i false) S0 (sps.take i)) (s::sps.drop (i+1))).env t:=by
      refine Bf0 _ rfl fun sj hsj hne hdst=>?_
      have hne:listed.getD sj.i false=true:=by simpa using hne
      rcases List.mem_cons.1 hsj with rfl|hsj
      ·rw[hsi,hunf] at hne;cases hne
      ·obtain⟨j,hj⟩:=List.getElem?_of_mem hsj
       have hj:=hidx j sj hj
       obtain⟨e1,oj,hoj,e2⟩:=gi _ sj hj
       obtain⟨ox,oy,k1,k2,k3⟩:=hap _ _ (hhigh _ sj hj (by omega) (by rw[← e1];exact hne)).1
       rw[ho] at k1;rw[hoj] at k2
       cases k1;cases k2
       exact (Oper.apart_spec k3).2.2 t (by rw[← e2];exact hdst) htm
     have hf:∀ (l:List Sp) (S:St),rep (fun _=>false) S l=S:=by
      intro l;induction l with
      | nil=>intro S;rfl
      | cons x l ih=>intro S;exact ih S
     rw[hf] at this
     rw[← this,← Anp,← hsplit]
    rw[h1]
    refine Bf0 _ rfl fun sj hsj hne hdst=>?_
    have hne:listed.getD sj.i false=false:=by simpa using Ne.symm hne
    obtain⟨j,hj⟩:=List.getElem?_of_mem hsj
    obtain⟨hji,hj⟩:=hidx' j sj hj
    obtain⟨e1,oj,hoj,e2⟩:=gi _ sj hj
    obtain⟨ox,oy,k1,k2,k3⟩:=hap _ _ (hlow j sj hj hji (by rw[← e1];exact hne)).1
    rw[hoj] at k1;rw[ho] at k2
    cases k1;cases k2
    exact (Oper.apart_spec k3).1 t (by rw[← e2];exact hdst) htm
   ·have h1:An (rep (fun i=>listed.getD i false) S0 sps).objs id=An (rep (fun i=>listed.getD i false) S0 (sps.take i)).objs id:=by
     have:An (rep (fun i=>listed.getD i false) (rep (fun i=>listed.getD i false) S0 (sps.take i)) (s::sps.drop (i+1))).objs id=An (rep (fun _=>false) (rep (fun i=>listed.getD i false) S0 (sps.take i)) (s::sps.drop (i+1))).objs id:=by
      refine Bai _ rfl fun sj hsj hne=>?_
      have hne:listed.getD sj.i false=true:=by simpa using hne
      rcases List.mem_cons.1 hsj with rfl|hsj
      ·rw[hsi,hunf] at hne;cases hne
      ·obtain⟨j,hj⟩:=List.getElem?_of_mem hsj
       have hj:=hidx j sj hj
       obtain⟨e1,oj,hoj,e2⟩:=gi _ sj hj
       have:=(hhigh _ sj hj (by omega) (by rw[← e1];exact hne)).2.2.2
       cases hm:Ap1 (X6 sj.u) id with
       | false=>rfl
       | true=>exact absurd hid (Bcg this id hm)
     have hf:∀ (l:List Sp) (S:St),rep (fun _=>false) S l=S:=by
      intro l;induction l with
      | nil=>intro S;rfl
      | cons x l ih=>intro S;exact ih S
     rw[hf] at this
     rw[← this,← Anp,← hsplit]
    rw[h1]
    refine Bai _ rfl fun sj hsj hne=>?_
    have hne:listed.getD sj.i false=false:=by simpa using Ne.symm hne
    obtain⟨j,hj⟩:=List.getElem?_of_mem hsj
    obtain⟨hji,hj⟩:=hidx' j sj hj
    obtain⟨e1,oj,hoj,e2⟩:=gi _ sj hj
    have:=(hlow j sj hj hji (by rw[← e1];exact hne)).2.1
    cases hm:Ap1 (X6 sj.u) id with
    | false=>rfl
    | true=>exact absurd hid (Bcg this id hm)
  have hnew:Eqv ((rep (fun i=>listed.getD i false) S0 sps).app s) (rep (fun j=>(listed.setIfInBounds i true).getD j false) S0 sps):=by
   have hset:∀ j,j≠i→(listed.setIfInBounds i true).getD j false=listed.getD j false:=fun j hj=>getD_set_ne false (Ne.symm hj)
   have hsame:∀ (l:List Sp) (S:St),(∀ sj∈l,sj.i≠i)→rep (fun j=>(listed.setIfInBounds i true).getD j false) S l=rep (fun i=>listed.getD i false) S l:=by
    intro l
    induction l with
    | nil=>intro S _;rfl
    | cons x l ih2 =>
     intro S hx
     simp only[rep]
     rw[hset _ (hx x (List.mem_cons_self ..))]
     exact ih2 _ fun sj hsj=>hx sj (List.mem_cons_of_mem _ hsj)
   have hA:∀ sj∈sps.take i,sj.i≠i:=fun sj hsj e=>by
    obtain⟨j,hj⟩:=List.getElem?_of_mem hsj
    obtain⟨hji,hj⟩:=hidx' j sj hj
    have:=(gi j sj hj).1
    omega
   have hB:∀ sj∈sps.drop (i+1),sj.i≠i:=fun sj hsj e=>by
    obtain⟨j,hj⟩:=List.getElem?_of_mem hsj
    have:=(gi _ sj (hidx j sj hj)).1
    omega
   have e1:rep (fun i=>listed.getD i false) S0 sps=rep (fun i=>listed.getD i false) (rep (fun i=>listed.getD i false) S0 (sps.take i)) (sps.drop (i+1)):=by
    conv=>lhs;rw[hsplit]
    rw[Anp]
    simp only[rep]
    rw[hsi,hunf];rfl
   have hsz':i<listed.size:=by rw[hsz];exact hlt
   have e2:rep (fun j=>(listed.setIfInBounds i true).getD j false) S0 sps=rep (fun i=>listed.getD i false) ((rep (fun i=>listed.getD i false) S0 (sps.take i)).app s) (sps.drop (i+1)):=by
    conv=>lhs;rw[hsplit]
    rw[Anp,hsame _ _ hA]
    simp only[rep]
    rw[hsi]
    have:(listed.setIfInBounds i true).getD i false=true:=by simp[hsz']
    rw[this]
    exact hsame _ _ hB
   rw[e1,e2]
   refine (Cdf (sps.drop (i+1)) _ fun sj hsj hD=>?_).symm
   obtain⟨j,hj⟩:=List.getElem?_of_mem hsj
   have hj:=hidx j sj hj
   obtain⟨f1,oj,hoj,f2⟩:=gi _ sj hj
   obtain⟨p1,p2,p3,p4⟩:=hhigh _ sj hj (by omega) (by rw[← f1];exact hD)
   obtain⟨ox,oy,k1,k2,k3⟩:=hap _ _ p1
   rw[ho] at k1;rw[hoj] at k2
   cases k1;cases k2
   refine⟨fun d hd=>?_,fun id hid=>?_⟩
   ·rw[f2]
    exact (Oper.apart_spec k3).2.1 d (by rw[← hst.2.1];exact hd)
   ·have:=Bcg p3 id hid
    cases hm:Ap1 (X6 sj.u) id with
    | false=>rfl
    | true=>exact absurd (Aom.1 hm) this
  refine Cjy h hK hst' r1 (fun d hd=>Cj3 (r2 d hd)) ho (fun id i1 i2 v hv=>?_) fun used' γ' a' w' hg hr=>?_
  ·rw[Akf] at i1
   rcases hu id v hv with h1 | ⟨_,h1⟩
   ·omega
   ·rw[i2,hunf] at h1;cases h1
  ·have hsz':i<listed.size:=by rw[hsz];exact hlt
   have hself:(listed.setIfInBounds i true).getD i false=true:=by simp[hsz']
   refine ih (listed.setIfInBounds i true) used' γ' a' w' (by simpa using hsz) ?_ (fun j oj hoj hl e he hb=>?_) (hr.eqv hnew) fun id v hv=>?_
   ·have:=Chw hlt hun
    omega
   ·by_cases hij:i=j
    ·subst hij
     rw[ho] at hoj;cases hoj
     exact getD_set_true (hafter e he hb)
    ·rw[getD_set_ne false hij] at hl
     exact getD_set_true (hcl j oj hoj hl e he hb)
   ·rcases hg id v hv with⟨v',hv'⟩ | ⟨i1,i2⟩
    ·rcases hu id v' hv' with h1 | ⟨h1,h2⟩
     ·exact .inl h1
     ·exact .inr ⟨h1,getD_set_true h2⟩
    ·refine .inr ⟨by rw[← Akf];exact i1,?_⟩
     rw[show id.2.1=i from i2]
     exact hself
end
end Go.Pon
namespace Go.Pon
open Go
structure Cf6(K:Dq)(ms:List Ez)(vals:List Value)(x:O7 ms)(w:World):Prop where
 frame:Aos K.w0 w K.own
 mr:∃ bs ok,MRL w ok K.base ms vals x bs∧bs.Nodup∧(∀ f b,ok f b→b ∉ bs∧¬ K.B b∧(f=true→K.base≤b))∧∀ g∈bs,(K.base≤g∨g∈K.own)∧¬ K.B g
section
variable {K:Dq} {S:St} {used:Id→Nat→Prop} {γ:Id→Value} {a:Act} {w:World}
theorem Bpx(h:Hi K S used γ a w){ms:List Ez}{vs:List AV}{vals:List Value}(hlen:vals.length=vs.length)
  (hv:∀ (i:Nat) (v:AV) (val:Value),vs[i]?=some v→vals[i]?=some val→E7 (Bi K S.objs used γ w) v val) {x:O7 ms} {l:List Id}
  (hl:Ba K.C S.objs (Any true ms vs ⟨[],[]⟩ fun x _=>.done x) [] x l):Cf6 K ms vals x w:=by
 obtain⟨x',c,l1,new,hl,hc,_,hperm,_,hmr⟩:=Aka h ms vs (Ab8.start S true) hl
 obtain⟨rfl,_⟩:=hl
 have hperm:(Dn c.ups).Perm new:=by simpa [Dn] using hperm
 have hnn:new.Nodup:=hperm.nodup_iff.1 hc.nodup
 refine⟨h.frame,Hh S γ new,okL K S γ c,hmr vals hlen hv,Aj5 h hnn,fun f b hb=>⟨fun hm=>?_,hb.2⟩,fun g hg=>?_⟩
 ·obtain⟨i,hi,hi2⟩:=Gn.1 hm
  exact hc.apart i (Td.1 (hperm.mem_iff.2 hi)) (hb.1 i hi2)
 ·obtain⟨i,hi,hi2⟩:=Gn.1 hg
  exact h.mod i g hi2
theorem Bpz{ms:List Ez}{vals:List Value}{x:O7 ms}(hh:Cf6 K ms vals x w)(hsize:a.tmps.size=K.nt)(hdef:a.defers=[])
  (hkept:∀ (i:Nat) (v:Value),K.args[i]?=some (some v)→a.tmps.getD i undef=v) {vs:List AV} {u:Rc} {l:List Id} {C:Ap}
  (hl:Ba C [] (Bbu ms x (0,0,0) [] fun vs _ u=>.done (vs,u)) [] (vs,u) l) :
  ∃ used γ,(∀ id v,used id v→id.1=0)∧vs.length=vals.length∧(∀ v∈vs,Bcm v=true)∧∀ env:List (Nat×AV),(∀ t,Ia env t=.any∨∃ (i:Nat) (v:AV) (val:Value),vs[i]?=some v∧vals[i]?=some val∧Ia env t=v∧a.tmps.getD t undef=val) →
   Hi K { env:=env,objs:=u,next:=1 } used γ a w:=by
 obtain⟨hf,bs,ok,hm,hnd,hok,hbs⟩:=hh
 obtain⟨vs',n',N,hl,hspan,hblk,hlen,hsol,hpl⟩:=Bn6 ms hm hl
 obtain⟨e,_⟩:=hl
 have e:(vs',I6.ups N++[])=(vs,u):=e
 rw[List.append_nil] at e
 cases e
 let used:Id→Nat→Prop:=fun id v=>v=0∧∃ p∈N,p.1=id
 have happ:∀ j,An (I6.ups N) j=An (Fg (I6.ups N) []) j:=fun j=>by rw[Amb,List.append_nil]
 have hlk:∀ p∈N,An (I6.ups N) p.1=some p.2.1:=fun p hp=>by rw[happ];exact Aq9 hspan.nodup hp
 have hno:∀ j,(∀ p∈N,p.1≠j)→An (I6.ups N) j=none:=fun j hj=>by rw[happ,Are hj];rfl
 have hlive:∀ j g,Bg (An (I6.ups N) j) (Wg N (fun _=>undef) j)=some g→∃ p∈N,p.1=j∧Bg (some p.2.1) p.2.2=some g:=by
  intro j g hg
  by_cases hj:∃ p∈N,p.1=j
  ·obtain⟨p,hp,rfl⟩:=hj
   rw[Atg hspan.nodup hp,hlk p hp] at hg
   exact⟨p,hp,rfl,hg⟩
  ·rw[hno j fun p hp e=>hj ⟨p,hp,e⟩] at hg
   cases hg
 have hplace:Yz w ok K.base N K (Bi K (I6.ups N) used (Wg N fun _=>undef) w):=by
  refine⟨rfl,rfl,fun f b hb=>⟨fun id hid=>?_,(hok f b hb).2⟩,fun p hp=>⟨hlk p hp,(Atg hspan.nodup hp:Wg N (fun _=>undef) p.1=p.2.2),rfl,p,hp,rfl⟩⟩
  obtain⟨p,hp,_,hp2⟩:=hlive id b hid
  exact (hok f b hb).1 (hblk.mem_iff.1 (Ajb hp hp2))
 obtain⟨q1,q2⟩:=hpl K _ hplace
 refine⟨used,Wg N fun _=>undef,?_,hlen,hsol,fun env henv=>⟨hsize,hdef,hkept,fun t=>?_,fun id o ho=>?_,fun id o ho=>?_,fun id ver fr t rows v ho hu=>?_,fun i j g hi hj=>?_,fun i g hi=>?_,hf⟩⟩
 ·rintro id v ⟨_,p,hp,rfl⟩
  exact (hspan.ids p hp).1
 ·rcases henv t with h1 | ⟨i,v,val,h1,h2,h3,h4⟩
  ·show E7 _ (Ia env t) _
   rw[h1];trivial
  ·show E7 _ (Ia env t) _
   rw[h3,h4]
   exact Bnh (hsol v (List.mem_of_getElem? h1)) (q1 i v val h1 h2)
 ·have ho:An (I6.ups N) id=some o:=ho
  by_cases hj:∃ p∈N,p.1=id
  ·obtain⟨p,hp,rfl⟩:=hj
   rw[hlk p hp] at ho
   cases ho
   exact q2 p hp
  ·rw[hno id fun p hp e=>hj ⟨p,hp,e⟩] at ho
   cases ho
 ·have ho:An (I6.ups N) id=some o:=ho
  by_cases hj:∃ p∈N,p.1=id
  ·exact⟨0,rfl,hj⟩
  ·rw[hno id fun p hp e=>hj ⟨p,hp,e⟩] at ho
   cases ho
 ·obtain⟨rfl,_⟩:=hu
  exact Nat.zero_le _
 ·obtain⟨p,hp,rfl,hp2⟩:=hlive i g hi
  obtain⟨q,hq,rfl,hq2⟩:=hlive j g hj
  rw[Cdn (hblk.nodup_iff.2 hnd) hp hq hp2 hq2]
 ·obtain⟨p,hp,_,hp2⟩:=hlive i g hi
  exact hbs g (hblk.mem_iff.1 (Ajb hp hp2))
def AL(a:Act)(w:World)(x:Ali):Prop:=∃ g val,a.tmps.getD x.q undef=.pointer (some ⟨g,0,none⟩)∧w.cell? ⟨g,By x.t [x.i],none⟩=some val∧a.tmps.getD x.s undef=val
theorem Bze(h:Hi K S used γ a w){x:Ali}{j:Id}{v:Nat}(hx:Cde S x=some (j,v)) :
  ∃ g val,a.tmps.getD x.q undef=.pointer (some ⟨g,0,none⟩)∧w.cell? ⟨g,By x.t [x.i],none⟩=some val∧ARc (Bi K S.objs used γ w) (.own j v) [val]:=by
 unfold Cde at hx
 split at hx
 ·rename_i id hq
  split at hx
  ·rename_i fm u c ho
   split at hx
   ·rename_i t' ht
    cases hb:(Ty.beq u x.t&&Btt x.t x.i) with
    | false=>rw[hb] at hx;cases hx
    | true =>
     rw[hb] at hx
     simp only[cond_true] at hx
     simp only[Bool.and_eq_true] at hb
     have e:=Ty.beq_iff.1 hb.1
     subst e
     split at hx
     ·rename_i j' v' hn
      cases hx
      have hv:E7 (Bi K S.objs used γ w) (Ia S.env x.q) (a.tmps.getD x.q undef):=h.env x.q
      rw[hq] at hv
      obtain⟨_,hp⟩:=Aij hv
      obtain⟨g,u',p1,p2,p3,p4⟩:=hp x.t ⟨fm,c,.inl ho⟩
      obtain⟨g',e',cur,m1,m2,m3,m4,_⟩:=h.objs id _ ho
      have m1:γ id=_:=m1
      have p1:γ id=_:=p1
      rw[m1] at p1
      obtain rfl:g'=g:=by cases p1;rfl
      have m2:w.heap[g']?=_:=m2
      obtain⟨n1,n2,n3⟩:=Adv c x.t [x.i] (.slice t') cur.toList m3 ht (Bl7 ht hb.2) m4 _ hn
      obtain⟨_,val,hval,_,_⟩:=n2
      refine⟨g',val,by rw[p4,(Oj x.t).2.2],?_,?_⟩
      ·have:=Abx m2 (By x.t [x.i]) (Ty.slice t').size 0 val (by rw[hval];rfl)
       rw[Addr.add_lit] at this
       exact this
      ·rw[← hval];exact (Adv c x.t [x.i] (.slice t') cur.toList m3 ht (Bl7 ht hb.2) m4 _ hn).2.1
     ·cases hx
   ·cases hx
  ·cases hx
 ·cases hx
theorem Chg{o:Option Obj}{v:Nat}(h:slB o v=true):∃ t n,Agt o v t n:=by
 unfold slB at h
 split at h
 ·rename_i w f t r
  have:=Nat.eq_of_beq_eq_true h
  subst this
  exact⟨t,_,f,r,rfl,.inl rfl⟩
 ·rename_i w f t r
  have:=Nat.eq_of_beq_eq_true h
  subst this
  exact⟨t,_,f,r,rfl,.inr rfl⟩
 ·cases h
theorem Bt5(h:Hi K S used γ a w){x:Ali}(hx:Bnn S x=true):AL a w x:=by
 unfold Bnn at hx
 split at hx
 ·rename_i j v j' v' h1 h2
  simp only[Bool.and_eq_true] at hx
  have e1:=Aaa.1 hx.1
  have e2:=Nat.eq_of_beq_eq_true hx.2.1
  subst e1 e2
  obtain⟨t,n,hs⟩:=Chg hx.2.2
  obtain⟨g,val,q1,q2,q3⟩:=Bze h h1
  have hv:E7 (Bi K S.objs used γ w) (Ia S.env x.s) (a.tmps.getD x.s undef):=h.env x.s
  rw[h2] at hv
  obtain⟨_,_,k1⟩:=Arc hv
  have k1:=k1 t n hs
  obtain⟨_,val',e3,_,k2⟩:=q3
  cases e3
  have k2:=k2 t n hs
  exact⟨g,val,q1,q2,by rw[k1,k2]⟩
 ·cases hx
theorem Cdg(h:Hi K S used γ a w){env:List (Nat×AV)}(he:∀ t,E7 (Bi K S.objs used γ w) (Ia env t) (a.tmps.getD t undef)):Hi K { S with env:=env } used γ a w :=
 ⟨h.size,h.defers,h.kept,he,h.objs,h.ou,h.vers,h.sep,h.mod,h.frame⟩
theorem Bny(h:Hi K S used γ a w):∀ {al:List Ali},(∀ x∈al,AL a w x)→∀ t,E7 (Bi K S.objs used γ w) (Ia (Boj S al) t) (a.tmps.getD t undef)
 | [],_,t=>h.env t
 | x::r,hal,t=>by
  have ih:=Bny h (al:=r) (fun y hy=>hal y (List.mem_cons_of_mem _ hy)) t
  simp only[Boj]
  split
  ·rename_i j v hx
   rw[Rt]
   by_cases e:x.s=t
   ·rw[if_pos e]
    subst e
    obtain⟨g,val,q1,q2,q3⟩:=Bze h hx
    obtain⟨g',val',r1,r2,r3⟩:=hal x (List.mem_cons_self ..)
    rw[q1] at r1
    cases r1
    rw[q2] at r2
    cases r2
    rw[r3]
    obtain⟨u1,val',e3,u2,u3⟩:=q3
    cases e3
    exact Dh (a:=.own j v) ⟨u1,val,rfl,u2,u3⟩ rfl (by cases val<;>simp_all [Value.oneCell',C7])
   ·rw[if_neg e];exact ih
  ·exact ih
end
end Go.Pon
namespace Go.Pon
open Go
def Arn(ps:List Bool)(nt:Nat):Code→Bool
 | .region _ ops _=>Cdq ps nt ops
 | .seq a b=>Arn ps nt a&&Arn ps nt b
 | .cond c a b=>A0 c&&Arn ps nt a&&Arn ps nt b
 | .block _ c=>Arn ps nt c
 | .loop c=>Arn ps nt c
 | _=>true
theorem Bhk{α:Type}{f:α→Bool}:∀ {l:List α},To f l=true→∀ x∈l,f x=true
 | [],_,x,h=>by cases h
 | a::l,h,x,hx=>by
  simp only[To,Bool.and_eq_true] at h
  rcases List.mem_cons.1 hx with rfl|hx
  ·exact h.1
  ·exact Bhk h.2 x hx
def Ccu(L:Ae):Prop:=∀ (ω δ:Type) (round:(δ→Option ω)→δ→Option ω) (x:δ) (r:ω),L ω δ round x=some r→∃ n,Bfd round n x=some r
theorem Cbi:Ccu Ac:=fun _ _ _ _ _ h=>⟨Br7,by rw[Aqk] at h;exact h⟩
def Inv(K:Dq)(S:St)(used:Id→Nat→Prop)(γ:Id→Value)(a:Act)(w:World):Prop:=Hi K S used γ a w∧∀ id v,used id v→id.1<S.next
theorem Abn{a:Act}:∀ (hs:List (Nat×Ez)) (vs:List AV),vs.length=hs.length→∀ t,Ia (Age hs vs) t=.any ∨
  ∃ (i:Nat) (v:AV) (val:Value),vs[i]?=some v∧(hs.map fun p=>a.tmps.getD p.1 undef)[i]?=some val∧Ia (Age hs vs) t=v∧a.tmps.getD t undef=val
 | [],[],_,t=>.inl rfl
 | (s,m)::hs,v::vs,hlen,t=>by
  simp only[Age,Rt]
  by_cases e:s=t
  ·rw[if_pos e]
   exact .inr ⟨0,v,a.tmps.getD s undef,rfl,rfl,rfl,by rw[e]⟩
  ·rw[if_neg e]
   rcases Abn (a:=a) hs vs (by simpa using hlen) t with h | ⟨i,v',val,h1,h2,h3,h4⟩
   ·exact .inl h
   ·exact .inr ⟨i+1,v',val,by simpa using h1,by simpa using h2,h3,h4⟩
theorem Akd(S:St):∀ (hs:List (Nat×Ez)),Blv S hs=hs.map fun p=>Ia S.env p.1
 | []=>rfl
 | (i,_)::hs=>by simp[Blv,Akd S hs]
theorem MRL.len{w:World}{ok:Bool→Nat→Prop}{base:Nat}:∀ {ms:List Ez} {vs:List Value} {x:O7 ms} {bs:List Nat},MRL w ok base ms vs x bs→vs.length=ms.length
 | [],_,_,_,⟨h,_⟩=>by rw[h];rfl
 | _::_,_,_,_,⟨_,_,_,_,h,_,_,h2,_⟩=>by rw[h];simp[MRL.len h2]
theorem Cid{p:Nat→Prop}(h:∃ n,p n):∃ n,p n∧∀ m,p m→n≤m:=by
 obtain⟨n,hn⟩:=h
 induction n using Nat.strongRecOn with
 | ind n ih =>
  by_cases hm:∃ m,m<n∧p m
  ·obtain⟨m,h1,h2⟩:=hm
   exact ih m h1 h2
  ·refine⟨n,hn,fun m h2=>?_⟩
   rcases Nat.lt_or_ge m n with h1|h1
   ·exact absurd ⟨m,h1,h2⟩ hm
   ·exact h1
def Bas(p:Nat→Prop):Nat:=@dite Nat (∃ n,p n) (Classical.propDecidable _) (fun h=>Classical.choose (Cid h)) (fun _=>0)
theorem Be0{p:Nat→Prop}(h:∃ n,p n):p (Bas p)∧∀ m,p m→Bas p≤m:=by
 have:Bas p=Classical.choose (Cid h):=dif_pos h
 rw[this]
 exact Classical.choose_spec (Cid h)
section
variable {K:Dq}
theorem Bs2(hK:K.OK)(hmix:K.P.follows .mixedOrders=true){ω:Type}{k:St→Option ω}{r:ω}{id:Nat}{ops:Array Oper}{draw:Bool}(hreg:Cdq (K.args.map (·.isSome)) K.nt ops=true)
  {Q:Exit→Act→World→Prop} (hQ:∀ S used γ a w,Inv K S used γ a w→k S=some r→Q .normal a w) {S:St} {used:Id→Nat→Prop} {γ:Id→Value} {a:Act} {w:World}
  (h:Inv K S used γ a w) (he:Ait K.C K.G ops draw (Asz 0 ops.toList) S [] k=some r):(Code.region id ops draw).wp K.P Q a w:=by
 obtain⟨sps,S',ht,hfree,hk⟩:=Bd4 _ _ _ he
 have hnext:S'.next=S.next:=by
  have:=ht.get.1.next
  rw[Akf] at this
  exact this.symm
 have hfin:∀ used' γ' a' w',Hi K S' used' γ' a' w'→(∀ id v,used' id v→id.1<S.next+1)→Q .normal a' w':=fun used' γ' a' w' hr hu =>
  hQ { S' with next:=Nat.succ S'.next } used' γ' a' w' ⟨⟨hr.size,hr.defers,hr.kept,hr.env,hr.objs,hr.ou,hr.vers,hr.sep,hr.mod,hr.frame⟩,fun id v hv=>by
   show id.1<S'.next+1
   rw[hnext];exact hu id v hv⟩ hk
 cases draw with
 | false =>
  refine wp_region ?_
  have hfst:(Asz 0 ops.toList).map (·.1)=List.range ops.size:=by rw[Bp4,List.range_eq_range'];simp
  rw[← hfst]
  refine Coi hK hfin _ S sps ht (fun p hp=>?_) ?_ rfl used γ a w h.1 fun id v hv=>.inl (h.2 id v hv)
  ·obtain⟨n,hn⟩:=List.getElem?_of_mem hp
   rw[Bqm] at hn
   obtain⟨o,ho,rfl⟩:=Option.map_eq_some_iff.1 hn
   have ho:ops[n]?=some o:=by simpa using ho
   obtain⟨r1,r2,_⟩:=Bc9 hreg ho
   exact⟨by simpa using ho,r1,fun d hd=>Cj3 (r2 d hd)⟩
  ·rw[hfst];exact List.nodup_range
 | true =>
  refine wp_region_any hmix ?_
  refine Coa hK ht hreg (hfree rfl) hfin ops.size _ used γ a _ (by simp) ?_ (fun i o _ hl=>?_) ?_ fun id v hv=>.inl (h.2 id v hv)
  ·unfold left
   refine Nat.le_trans (List.length_filter_le ..) ?_
   simp
  ·exfalso
   simp only[Array.getD_eq_getD_getElem?,Array.getElem?_replicate] at hl
   split at hl<;>simp at hl
  ·have hf:∀ (l:List Sp) (S:St),rep (fun i=>(Array.replicate ops.size false).getD i false) S l=S:=by
    intro l
    induction l with
    | nil=>intro S;rfl
    | cons x l ih =>
     intro S
     simp only[rep]
     have:(Array.replicate ops.size false).getD x.i false=false:=by
      simp only[Array.getD_eq_getD_getElem?,Array.getElem?_replicate]
      split<;>rfl
     rw[this]
     exact ih S
   rw[hf]
   exact h.1.drawn _
theorem Cl9(hK:K.OK)(hmix:K.P.follows .mixedOrders=true){L:Ae}(hL:Ccu L){ω:Type}{r:ω}{f:FuncId}:∀ (c:Code) (id:Nat) (kn:St→Option ω) (ke:Nat→St→Option ω) (kr:St→Option ω) (Q:Exit→Act→World→Prop),
  Arn (K.args.map (·.isSome)) K.nt c=true→(∀ S used γ a w,Inv K S used γ a w→kn S=some r→Q .normal a w)→(∀ i S used γ a w,Inv K S used γ a w→ke i S=some r→Q (.exit i) a w) →
  (∀ S used γ a w,Inv K S used γ a w→kr S=some r→Q .ret a w)→∀ S used γ a w,Inv K S used γ a w→Oc K.C L K.G f c id kn ke kr S=some r→c.wp K.P Q a w:=by
 intro c
 induction c with
 | skip=>intro id kn ke kr Q _ hn _ _ S used γ a w h he;exact wp_skip (hn S used γ a w h he)
 | label l=>intro id kn ke kr Q _ hn _ _ S used γ a w h he;exact wp_label (hn S used γ a w h he)
 | exit i=>intro id kn ke kr Q _ _ hx _ S used γ a w h he;exact wp_exit (hx i S used γ a w h he)
 | ret=>intro id kn ke kr Q _ _ _ hr S used γ a w h he;exact wp_ret (hr S used γ a w h he)
 | region i ops draw =>
  intro id kn ke kr Q hc hn _ _ S used γ a w h he
  simp only[Oc] at he
  split at he
  ·exact Bs2 hK hmix hc hn h he
  ·generalize hhs:K.G.hint f (Nat.add 1000000 i)=hs at he
   generalize K.G.ali f (Nat.add 1000000 i)=al at he
   unfold Avw at he
   cases hal:To (Bnn S) al with
   | false=>rw[hal] at he;cases he
   | true =>
   rw[hal] at he
   have h0:∀ x∈al,AL a w x:=fun x hx=>Bt5 h.1 (Bhk hal x hx)
   obtain⟨y,l,h1,h2⟩:=Hc he
   have hh:Cf6 K (Pl hs) (hs.map fun p=>a.tmps.getD p.1 undef) y w:=Bpx h.1 (by simp[Akd]) (fun i v val e1 e2=>by
    rw[Akd,List.getElem?_map] at e1
    rw[List.getElem?_map] at e2
    obtain⟨p,hp,rfl⟩:=Option.map_eq_some_iff.1 e1
    rw[hp] at e2;cases e2
    exact h.1.env p.1) h1
   obtain⟨⟨vs,u⟩,l,q1,q2⟩:=Hc (show T8 K.C [] (Bbu (Pl hs) y (0,0,0) [] fun vs _ u=>.done (vs,u)) [] _=some r from h2)
   obtain⟨used',γ',u1,u2,u3,u4⟩:=Bpz (a:=a) hh h.1.size h.1.defers h.1.kept q1
   have hlen:vs.length=hs.length:=by simpa using u2
   exact Bs2 hK hmix hc hn ⟨Cdg (u4 (Age hs vs) (Abn hs vs hlen)) (Bny (u4 (Age hs vs) (Abn hs vs hlen)) h0),fun id v hv=>by rw[u1 id v hv];exact Nat.zero_lt_one⟩ q2
 | seq x y ihx ihy =>
  intro id kn ke kr Q hc hn hx hr S used γ a w h he
  simp only[Arn,Bool.and_eq_true] at hc
  refine wp_seq (ihx id _ ke kr (Exit.then (y.wp K.P Q) Q) hc.1 ?_ hx hr S used γ a w h he)
  intro S' used' γ' a' w' h' he'
  exact ihy id kn ke kr Q hc.2 hn hx hr S' used' γ' a' w' h' he'
 | cond o x y ihx ihy =>
  intro id kn ke kr Q hc hn hx hr S used γ a w h he
  simp only[Arn,Bool.and_eq_true] at hc
  simp only[Oc] at he
  split at he
  ·rename_i fr q hq
   have hv:=Bo h.1 o hc.1.1
   rw[hq] at hv
   have e:=Bos hv
   rcases As4 he with⟨h1,h2⟩ | ⟨h1,h2⟩
   ·exact wp_cond e (by rw[h1];exact ihx id kn ke kr Q hc.1.2 hn hx hr S used γ a w h h2)
   ·exact wp_cond e (by rw[h1];exact ihy id kn ke kr Q hc.2 hn hx hr S used γ a w h h2)
  ·rename_i e0 r0 hq
   have hv:=Bo h.1 o hc.1.1
   rw[hq] at hv
   obtain⟨⟨b,hb,hbr⟩,h2⟩:=(show G7 _ (.ub e0 r0) _ from hv)
   rw[Bq h2.symm] at hb
   have e:a.eval o=.bool b:=by simpa using hb
   rcases As4 he with⟨q1,q2⟩ | ⟨q1,q2⟩
   ·obtain⟨k1,k2⟩:=Ccf q2
    exact wp_cond_split e (fun _=>ihx id kn ke kr Q hc.1.2 hn hx hr S used γ a w h k1) (fun _=>ihy id kn ke kr Q hc.2 hn hx hr S used γ a w h k2)
   ·rcases As4 q2 with⟨h1,h2⟩ | ⟨h1,h2⟩
    ·exact wp_cond e (by rw[hbr q1,h1];exact ihx id kn ke kr Q hc.1.2 hn hx hr S used γ a w h h2)
    ·exact wp_cond e (by rw[hbr q1,h1];exact ihy id kn ke kr Q hc.2 hn hx hr S used γ a w h h2)
  ·cases he
 | block i x ih =>
  intro id kn ke kr Q hc hn hx hr S used γ a w h he
  refine wp_block (ih i kn _ kr (Exit.inBlock i Q) hc hn ?_ hr S used γ a w h he)
  intro j S' used' γ' a' w' h' he'
  simp only[Exit.inBlock]
  by_cases hj:j=i
  ·subst hj
   rw[if_pos rfl]
   rw[Nat.beq_refl] at he'
   exact hn S' used' γ' a' w' h' he'
  ·rw[if_neg hj]
   have:Nat.beq j i=false:=by rw[Bool.eq_false_iff];exact fun e=>hj (Nat.eq_of_beq_eq_true e)
   rw[this] at he'
   exact hx j S' used' γ' a' w' h' he'
 | loop x ih =>
  intro id kn ke kr Q hc hn hx hr S used γ a w h he
  let hs:=K.G.hint f id
  let al:=K.G.ali f id
  let round:(O7 (Pl hs)→Option ω)→O7 (Pl hs)→Option ω:=fun again x'=>Ccc K.C al (Pl hs) hs x'
   (Oc K.C L K.G f x id (fun S=>Avw K.C al (Pl hs) hs S again) ke kr)
  let P:Act→World→Nat→Prop:=fun a w n=>a.tmps.size=K.nt∧a.defers=[]∧(∀ (i:Nat) (v:Value),K.args[i]?=some (some v)→a.tmps.getD i undef=v) ∧
   (∀ x∈al,AL a w x)∧∃ y,Bfd round n y=some r∧Cf6 K (Pl hs) (hs.map fun p=>a.tmps.getD p.1 undef) y w
  have hclose:∀ S used γ a w (k:O7 (Pl hs)→Option ω),Inv K S used γ a w→Avw K.C al (Pl hs) hs S k=some r →
    (∀ x∈al,AL a w x)∧∃ y,k y=some r∧Cf6 K (Pl hs) (hs.map fun p=>a.tmps.getD p.1 undef) y w:=by
   intro S used γ a w k h he
   unfold Avw at he
   cases hal:To (Bnn S) al with
   | false=>rw[hal] at he;cases he
   | true =>
   rw[hal] at he
   refine⟨fun x hx=>Bt5 h.1 (Bhk hal x hx),?_⟩
   obtain⟨y,l,h1,h2⟩:=Hc he
   refine⟨y,h2,Bpx h.1 (by simp[Akd]) (fun i v val e1 e2=>?_) h1⟩
   rw[Akd,List.getElem?_map] at e1
   rw[List.getElem?_map] at e2
   obtain⟨p,hp,rfl⟩:=Option.map_eq_some_iff.1 e1
   rw[hp] at e2;cases e2
   exact h.1.env p.1
  have hstart:∃ n,P a w n:=by
   obtain⟨h0,y,h1,h2⟩:=hclose S used γ a w _ h he
   obtain⟨n,hn⟩:=hL _ _ _ _ _ h1
   exact⟨n,h.1.size,h.1.defers,h.1.kept,h0,y,hn,h2⟩
  refine wp_loop (I:=fun a w=>∃ n,P a w n) (μ:=fun a w=>Bas (P a w)) hstart ?_
  intro a w hI
  obtain⟨m1,m2⟩:=Be0 hI
  generalize hn0:Bas (P a w)=n at m1 m2
  obtain⟨p1,p2,p3,p0,y,p4,p5⟩:=m1
  cases n with
  | zero=>cases p4
  | succ n =>
   rw[Bcq] at p4
   obtain⟨⟨vs,u⟩,l,q1,q2⟩:=Hc (show T8 K.C [] (Bbu (Pl hs) y (0,0,0) [] fun vs _ u=>.done (vs,u)) [] _=some r from p4)
   obtain⟨used',γ',u1,u2,u3,u4⟩:=Bpz (a:=a) p5 p1 p2 p3 q1
   have hlen:vs.length=hs.length:=by simpa using u2
   refine ih id _ ke kr (Exit.then (fun a' w'=>(∃ n,P a' w' n)∧Bas (P a' w')<n+1) Q) hc ?_ hx hr _ used' γ' a w ⟨Cdg (u4 (Age hs vs) (Abn hs vs hlen)) (Bny (u4 (Age hs vs) (Abn hs vs hlen)) p0),fun id v hv=>?_⟩ q2
   ·intro S'' used'' γ'' a'' w'' h'' he''
    obtain⟨h0,y',h1,h2⟩:=hclose S'' used'' γ'' a'' w'' _ h'' he''
    have hP:P a'' w'' n:=⟨h''.1.size,h''.1.defers,h''.1.kept,h0,y',h1,h2⟩
    refine⟨⟨n,hP⟩,?_⟩
    have:=(Be0 ⟨n,hP⟩).2 n hP
    omega
   ·rw[u1 id v hv];exact Nat.zero_lt_one
 | _=>intro id kn ke kr Q hc hn hx hr S used γ a w h he;cases he
end
end Go.Pon
namespace Go.Pon
open Go
structure Cpf(P:Program)(G:Ctx)(C:Ap):Prop where
 depth:64≤P.depth
 mix:P.follows .mixedOrders=true
 ty:∀ T t,G.ty T=some t→T1 P t T=true
 sig:∀ f s,G.sig f=some s→(∀ m∈s.ins,m.insOK=true)∧A6 P f s (C f s)
 map:∀ T k t,G.mapT T=some (k,t)→By0 P k t T=true
def Bnc:List Ez→List Bool
 | []=>[]
 | m::ms=>(match m with
  | .ptr _=>true
  | .optr _=>true
  | .bor _=>true
  | _=>false)::Bnc ms
def Awz:List Ez→List Value→List (Option Value)
 | m::ms,v::vs=>(match m with
  | .ptr _=>some v
  | .optr _=>some v
  | .bor _=>some v
  | _=>none)::Awz ms vs
 | _,_=>[]
theorem Boe:∀ (ms:List Ez) (vs:List Value),vs.length=ms.length→(Awz ms vs).map (·.isSome)=Bnc ms
 | [],[],_=>rfl
 | m::ms,v::vs,h=>by
  simp only[Awz,Bnc,List.map_cons,Boe ms vs (by simpa using h)]
  cases m<;>rfl
theorem Bso:∀ (ms:List Ez) (vs:List Value) (i:Nat) (v:Value),(Awz ms vs)[i]?=some (some v)→vs[i]?=some v
 | [],_,_,_,h=>by simp[Awz] at h
 | _::_,[],_,_,h=>by simp[Awz] at h
 | m::ms,v::vs,0,v',h=>by
  cases m<;>simp_all [Awz]
 | m::ms,v::vs,i+1,v',h=>by
  have:=Bso ms vs i v' (by simpa [Awz] using h)
  simpa using this
theorem Btn:∀ (ms:List Ez) (vs:List Value) (i:Nat) (m:Ez) (v:Value),ms[i]?=some m→vs[i]?=some v→((∃ m',m=.ptr m')∨∃ m',m=.optr m')→(Awz ms vs)[i]?=some (some v)
 | [],_,_,_,_,h,_,_=>by simp at h
 | _::_,[],_,_,_,_,h,_=>by simp at h
 | m::ms,v::vs,0,m',v',h1,h2,h3=>by
  simp at h1 h2
  subst h1 h2
  rcases h3 with⟨_,rfl⟩ | ⟨_,rfl⟩<;>rfl
 | m::ms,v::vs,i+1,m',v',h1,h2,h3=>by
  simpa [Awz] using Btn ms vs i m' v' (by simpa using h1) (by simpa using h2) h3
def Bvw(s:Ce)(fn:Func)(c:Code):Bool :=
 (fn.name != "runtime.NumGoroutine")&&Arn (Bnc s.ins) fn.ntmps c&&Nat.ble s.ins.length fn.ntmps
def Bhn(tmps:Array Value):ResultVar→Sem Value
 | .tmp t=>pure (tmps.getD t undef)
 | .cell a t=>do loadVar t (← asAddr (tmps.getD a undef))
section
variable {K:Dq} {S:St} {used:Id→Nat→Prop} {γ:Id→Value} {a:Act} {w:World}
theorem Arg(h:Hi K S used γ a w)(hK:K.OK){α:Type}:∀ (rvs:List ResultVar) {k:List AV→OpT α} {l0 l:List Id} {r:α},Ba K.C S.objs (Afp K.G S rvs k) l0 r l →
  ∃ (vs:List AV) (l1:List Id) (vals:List Value),Ba K.C S.objs (k vs) l1 r l∧vals.length=vs.length∧(∀ (i:Nat) (v:AV) (val:Value),vs[i]?=some v→vals[i]?=some val→E7 (Bi K S.objs used γ w) v val) ∧
   (rvs.mapM (Bhn a.tmps)).run K.P w=.ok vals w
 | [],k,l0,l,r,hl=>⟨[],l0,[],hl,rfl,by simp,by simp⟩
 | .tmp t::rvs,k,l0,l,r,hl=>by
  obtain⟨vs,l1,vals,h1,h2,h3,h4⟩:=Arg h hK rvs (k:=fun vs=>k (Ia S.env t::vs)) hl
  refine⟨Ia S.env t::vs,l1,a.tmps.getD t undef::vals,h1,by simp[h2],fun i v val e1 e2=>?_,by simp[List.mapM_cons,Bhn,h4]⟩
  cases i with
  | zero=>simp at e1 e2;subst e1 e2;simpa using h.env t
  | succ i=>exact h3 i v val (by simpa using e1) (by simpa using e2)
 | .cell b e::rvs,k,l0,l,r,hl=>by
  simp only[Afp] at hl
  split at hl
  ·rename_i t id path ht hlk
   have key:∀ (fr:Bool) (u w':Ty) (c v:AV),(An S.objs id=some (.mem fr u c)∨An S.objs id=some (.mfz fr u c))→K9 u path=some w'→Axo c path=some v→∀ l0,
     Ba K.C S.objs (bif Ty.beq w' t&&Bh t v then Afp K.G S rvs fun vs=>k (v::vs) else .fail) l0 r l →
     ∃ (vs:List AV) (l1:List Id) (vals:List Value),Ba K.C S.objs (k vs) l1 r l∧vals.length=vs.length∧(∀ (i:Nat) (v:AV) (val:Value),vs[i]?=some v→vals[i]?=some val→E7 (Bi K S.objs used γ w) v val) ∧
      ((ResultVar.cell b e::rvs).mapM (Bhn a.tmps)).run K.P w=.ok vals w:=by
    intro fr u w' c v ho htyp hnav l9 hk
    cases hb:(Ty.beq w' t&&Bh t v) with
    | false=>rw[hb] at hk;exact hk.elim
    | true =>
     rw[hb] at hk
     simp only[Bool.and_eq_true] at hb
     obtain rfl:=Ty.beq_iff.1 hb.1
     have hl:Ba K.C S.objs (Afp K.G S rvs fun vs=>k (v::vs)) l9 r l:=hk
     obtain⟨vs,l1,vals,h1,h2,h3,h4⟩:=Arg h hK rvs (k:=fun vs=>k (v::vs)) hl
     have hv:=h.env b
     rw[hlk] at hv
     obtain⟨_,hp⟩:=Aij hv
     obtain⟨g',u',p1,p2,p3,p4⟩:=hp u (Ai7 _ fr u c ho)
     obtain⟨x,x1,x2⟩:=Bqi h ho (hK.ty _ _ ht) hv htyp hnav
     rw[p4] at x1
     simp only[Instr.loadAt,Instr.sureAddr,Sem.run_bind,Sem.run_pure,Result.andThen_ok] at x1
     refine⟨v::vs,l1,x::vals,h1,by simp[h2],fun i v' val e1 e2=>?_,?_⟩
     ·cases i with
      | zero=>simp at e1 e2;subst e1 e2;exact x2
      | succ i=>exact h3 i v' val (by simpa using e1) (by simpa using e2)
     ·simp only[List.mapM_cons,Bhn,Sem.run_bind,p4,asAddr,Sem.run_pure,Result.andThen_ok,x1,h4]
   obtain⟨ob,hob,hl⟩:=hl
   dsimp only at hl
   split at hl
   ·split at hl
    ·rename_i w' v htyp hnav
     exact key _ _ w' _ v (.inl hob) htyp hnav _ hl
    ·exact hl.elim
   ·split at hl
    ·rename_i w' v htyp hnav
     exact key _ _ w' _ v (.inr hob) htyp hnav _ hl
    ·exact hl.elim
   ·exact hl.elim
  ·exact hl.elim
theorem Bzw{fn:Func}{vals:List Value}(h:(fn.results.toList.mapM (Bhn a.tmps)).run K.P w=.ok vals w):(results fn a.tmps).run K.P w=.ok (Bza vals) w:=by
 have e:results fn a.tmps=(do let vs ← fn.results.mapM (Bhn a.tmps);pure (if h:vs.size=1 then vs[0] else .tuple vs)):=by
  unfold results
  congr 2
 rw[e]
 simp only[Array.mapM_eq_mapM_toList,Sem.run_bind,map_eq_pure_bind,h,Result.andThen_ok,Sem.run_pure]
 congr 1
 match vals with
 | []=>rfl
 | [v]=>rfl
 | v::v'::vs=>simp[Bza]
theorem Bj2(S:St):∀ (ms:List Ez) (n i:Nat),(Ai2 S n ms)[i]?=if i<ms.length then some (Ia S.env (n+i)) else none
 | [],n,i=>by simp[Ai2]
 | m::ms,n,0=>by simp[Ai2]
 | m::ms,n,i+1=>by
  simp only[Ai2,List.getElem?_cons_succ,Bj2 S ms (Nat.succ n) i,List.length_cons,Nat.add_lt_add_iff_right]
  rw[show Nat.succ n+i=n+(i+1) by omega]
theorem Can{E:Vv}:∀ (ms:List Ez) (vs:List AV) (vals:List Value),vs.length=ms.length→vals.length=ms.length →
  (∀ (i:Nat) (m:Ez) (v:AV) (val:Value),ms[i]?=some m→((∃ m',m=.ptr m')∨∃ m',m=.optr m')→vs[i]?=some v→vals[i]?=some val→E7 E v val) →
  (Awt ms vals).length=(Agd ms vs).length∧∀ (i:Nat) (v:AV) (val:Value),(Agd ms vs)[i]?=some v→(Awt ms vals)[i]?=some val→E7 E v val
 | [],[],[],_,_,_=>⟨rfl,by simp[Agd]⟩
 | m::ms,v::vs,val::vals,h1,h2,h3=>by
  obtain⟨k1,k2⟩:=Can (E:=E) ms vs vals (by simpa using h1) (by simpa using h2) fun i m v val e0 em e1 e2=>h3 (i+1) m v val (by simpa using e0) em (by simpa using e1) (by simpa using e2)
  refine⟨by simp[Awt,Agd,k1],fun i v' val' e1 e2=>?_⟩
  cases i with
  | zero =>
   have h0:=fun hm=>h3 0 m v val rfl hm rfl rfl
   simp only[Agd,Awt,List.getElem?_cons_zero,Option.some.injEq] at e1 e2
   subst e1 e2
   cases m with
   | ptr _=>exact h0 (.inl ⟨_,rfl⟩)
   | optr _=>exact h0 (.inr ⟨_,rfl⟩)
   | _=>exact (show G7 E (.d true .unit ()) (.agg #[]) from ⟨rfl,rfl⟩)
  | succ i=>exact k2 i v' val' (by simpa [Agd] using e1) (by simpa [Awt] using e2)
end
theorem Cfp{α:Type}{C:Ap}{objs:Rc}(s:Ce)(rs:List AV)(v:AV){k:OpT α}{l0 l:List Id}{r:α}(hl:Ba C objs (Ck0 s rs v k) l0 r l) :
  ∃ l1,Ba C objs k l1 r l∧(Bb1 s=true→∃ id ver hi cp fr t rows,rs=[.view id ver 0 hi cp]∧v=.own id ver∧An objs id=some (.frz ver fr t rows)):=by
 unfold Ck0 at hl
 cases hp:Bb1 s with
 | false=>rw[hp] at hl;exact⟨l0,hl,fun h=>by cases h⟩
 | true =>
  rw[hp] at hl
  replace hl:Ba C objs (match rs,v with
   | [.view id ver lo _ _],.own id' ver'=>bif idE id id'&&(Nat.beq ver ver'&&Nat.beq lo 0) then .get id fun
    | .frz ver'' _ _ _=>bif Nat.beq ver'' ver then k else .fail
    | _=>.fail
    else .fail
   | _,_=>.fail) l0 r l:=hl
  split at hl
  ·rename_i id ver lo hi cp id' ver'
   cases hb:(idE id id'&&(Nat.beq ver ver'&&Nat.beq lo 0)) with
   | false=>rw[hb] at hl;exact hl.elim
   | true =>
    rw[hb] at hl
    simp only[Bool.and_eq_true] at hb
    obtain rfl:=Aaa.1 hb.1
    obtain rfl:=Nat.eq_of_beq_eq_true hb.2.1
    obtain rfl:=Nat.eq_of_beq_eq_true hb.2.2
    obtain⟨ob,hob,hl⟩:=hl
    dsimp only at hl
    split at hl
    ·rename_i ver'' fr t rows
     cases hq:Nat.beq ver'' ver with
     | false=>rw[hq] at hl;exact hl.elim
     | true =>
      rw[hq] at hl
      obtain rfl:=Nat.eq_of_beq_eq_true hq
      exact⟨_,hl,fun _=>⟨id,ver'',hi,cp,fr,t,rows,rfl,rfl,hob⟩⟩
    ·exact hl.elim
  ·exact hl.elim
theorem Cjd{K:Dq}{S:St}{used:Id→Nat→Prop}{γ:Id→Value}{a:Act}{w:World}(h:Hi K S used γ a w){s:Ce}{vals:List Value}(hlen:vals.length=s.ins.length)(hp:Bb1 s=true)
  (hargs:K.args=Awz s.ins vals) {rs:List AV} {rvals:List Value}
  (hk:∃ id ver hi cp fr t rows,rs=[.view id ver 0 hi cp]∧Ia S.env 0=.own id ver∧An S.objs id=some (.frz ver fr t rows))
  (h2:rvals.length=rs.length) (h3:∀ (i:Nat) (v:AV) (val:Value),rs[i]?=some v→rvals[i]?=some val→E7 (Bi K S.objs used γ w) v val) :
  ∃ v0 r,vals=[v0]∧rvals=[r]∧Cqn v0 r:=by
 obtain⟨id,ver,hi,cp,fr,t,rows,rfl,e0,ho⟩:=hk
 have hins:∃ t',s.ins=[.bor t']:=by
  unfold Bb1 at hp
  split at hp
  ·rename_i e _;exact⟨_,e⟩
  ·cases hp
 obtain⟨t',hins⟩:=hins
 rw[hins] at hlen hargs
 match vals,hlen with
 | [v0],_ =>
  match rvals,h2 with
  | [r],_ =>
   refine⟨v0,r,rfl,rfl,?_⟩
   have hv:=h.env 0
   rw[e0,h.kept 0 v0 (by rw[hargs];rfl)] at hv
   obtain⟨⟨_,v1,e1,_,hv1⟩,ha⟩:G7 _ (.own id ver) v0:=hv
   have hsl:Agt ((Bi K S.objs used γ w).o id) ver t rows.length:=⟨fr,rows,rfl,.inr ho⟩
   have hv1:v1=γ id:=hv1 _ _ hsl
   obtain⟨⟨a1,cap1,e3,p1,p2,_⟩,hoff⟩:=h.objs id _ ho
   have e3:γ id=.slice a1 (List.length rows) cap1:=by
    have:[γ id]=[Value.slice a1 (List.length rows) cap1]:=e3
    simpa using this
   have hv0:v0=γ id:=by
    have hc:v0.cells.toList=[v0]:=Bq ha.symm
    rw[hc] at e1
    have:v0=v1:=by simpa using e1
    rw[this,hv1]
   obtain⟨⟨_,v2,e4,_,hv2⟩,hb⟩:G7 _ (.view id ver 0 hi cp) r:=h3 0 _ _ rfl rfl
   have hr:r=v2:=by
    have hc:r.cells.toList=[r]:=Bq hb.symm
    rw[hc] at e4
    simpa using e4
   obtain⟨_,q2,a,c,q3,q4,q5,q6,q7,_⟩:=hv2 _ _ hsl
   rw[Nat.sub_zero] at q3 q4
   refine⟨a1,rows.length,cap1,a,hi,c,hv0.trans e3,hr.trans q3,q2,q4,q5,q6,fun hlt=>?_⟩
   obtain⟨g,m,cp',k1,k2⟩:=q7 hlt
   have k1:γ id=_:=k1
   rw[e3] at k1
   cases k1
   exact⟨g,rfl,by rw[k2,Nat.zero_mul]⟩
theorem Clf{P:Program}{G:Ctx}{C:Ap}{L:Ae}(hS:Cpf P G C)(hL:Ccu L){f:FuncId}{fn:Func}{c:Code}{s:Ce}(hf:P.funcs[f]?=some fn)(hb:fn.body=some c)(hok:Bvw s fn c=true) :
  A6 P f s (Ag L C G f fn c s):=by
 intro w B vals x bs y hF hB hnd hnB hm
 simp only[Bvw,Bool.and_eq_true,bne_iff_ne,ne_eq,Nat.ble_eq] at hok
 obtain⟨⟨hname,hcode⟩,hnp⟩:=hok
 have hlen:vals.length=s.ins.length:=hm.len
 refine .inl ⟨?_,calls_of_wp hf hb ?_⟩
 ·simp[callFunc,hf,hname,hb]
 ·let K:Dq:={ P:=P,G:=G,C:=C,w0:=w,own:=bs,B:=B,nt:=fn.ntmps,args:=Awz s.ins vals }
  have hK:K.OK:=⟨hB,hS.depth,hS.ty,hS.sig,hS.map⟩
  have hH:Cf6 K s.ins vals x w:=⟨⟨rfl,rfl,rfl,Nat.le_refl _,fun _ _ _=>rfl⟩,bs,Bo2 w B bs,hm,hnd,fun f b h=>h,fun g hg=>⟨.inr hg,hnB g hg⟩⟩
  obtain⟨⟨vs,u⟩,l,q1,q2⟩:=Hc (show T8 C [] (Bbu s.ins x (0,0,0) [] fun vs _ u=>.done (vs,u)) [] _=some y from hF)
  have hsz:((vals.toArray++Array.replicate (fn.ntmps-vals.toArray.size) undef:Array Value)).size=fn.ntmps:=by simp;omega
  have hget:∀ (i:Nat) (v:Value),vals[i]?=some v→(vals.toArray++Array.replicate (fn.ntmps-vals.toArray.size) undef:Array Value).getD i undef=v:=fun i v hi=>by
   have hlt:=(List.getElem?_eq_some_iff.1 hi).1
   rw[Array.getD_eq_getD_getElem?,Array.getElem?_append_left (by simpa using hlt)]
   simp[hi]
  obtain⟨used,γ,u1,u2,u3,u4⟩:=Bpz (K:=K) (a:={ tmps:=vals.toArray++Array.replicate (fn.ntmps-vals.toArray.size) undef,defers:=[] }) hH hsz rfl (fun i v hi=>hget i v (Bso _ _ i v hi)) q1
  have hstart:=u4 (Asz 0 vs) fun t=>by
   rcases Nat.lt_or_ge t vs.length with ht|ht
   ·have hv:vs[t]?=some vs[t]:=by simp[ht]
    have hval:vals[t]?=some (vals[t]'(by omega)):=by simp
    refine .inr ⟨t,vs[t],_,hv,hval,?_,hget t _ hval⟩
    have:∀ (l:List AV) (n i:Nat) (v:AV),l[i]?=some v→Ia (Asz n l) (n+i)=v:=by
     intro l
     induction l with
     | nil=>intro n i v h;simp at h
     | cons x l ih =>
      intro n i v h
      simp only[Asz,Rt]
      cases i with
      | zero=>simp at h;simp[h]
      | succ i =>
       rw[if_neg (by omega),show n+(i+1)=Nat.succ n+i by omega]
       exact ih (Nat.succ n) i v (by simpa using h)
    simpa using this vs 0 t _ hv
   ·refine .inl ?_
    have:∀ (l:List AV) (n t:Nat),n+l.length≤t→Ia (Asz n l) t=.any:=by
     intro l
     induction l with
     | nil=>intro n t _;rfl
     | cons x l ih =>
      intro n t h
      simp only[Asz,Rt]
      simp only[List.length_cons] at h
      rw[if_neg (by omega)]
      exact ih (Nat.succ n) t (by omega)
    exact this vs 0 t (by omega)
  have hfin:∀ S used γ a w',Inv K S used γ a w'→(T8 C S.objs (Afp G S fn.results.toList fun rs=>Ck0 s rs (Ia S.env 0) (Any true s.outs rs ⟨[],[]⟩ fun y c =>
    Any true (Bgo s.ins) (Agd s.ins (Ai2 S 0 s.ins)) c fun z _=>.done (y,z))) [] fun y _=>some y)=some y→a.defers=[]∧∃ v,(results fn a.tmps).run P w'=.ok v w'∧Cnc w B s vals bs y v w':=by
   intro S used γ a w' hI he
   obtain⟨y',l,k1,k2⟩:=Hc he
   cases k2
   obtain⟨h,_⟩:=hI
   obtain⟨rs,l1,rvals,k1,k2,k3,k4⟩:=Arg (K:=K) h hK _ k1
   obtain⟨l9,k1,kpre⟩:=Cfp s rs (Ia S.env 0) k1
   obtain⟨y1,c1,l2,n1,k1,m2,m3,m4,m5,m6⟩:=Aka h s.outs rs (Ab8.start S true) k1
   obtain⟨z1,c2,l3,n2,k1,d2,d3,d4,d5,d6⟩:=Aka h (Bgo s.ins) _ m2 k1
   obtain⟨e,_⟩:=k1
   subst e
   obtain⟨b1,b2⟩:=Can (E:=Bi K S.objs used γ w') s.ins (Ai2 S 0 s.ins) vals (by
    have:∀ (ms:List Ez) (n:Nat),(Ai2 S n ms).length=ms.length:=by
     intro ms
     induction ms with
     | nil=>intro n;rfl
     | cons m ms ih=>intro n;simp[Ai2,ih]
    exact this _ _) hlen fun i m v val e0 em e1 e2=>by
     rw[Bj2] at e1
     split at e1
     ·cases e1
      rw[Nat.zero_add]
      have:=h.env i
      rw[h.kept i val (Btn _ _ i m val e0 e2 em)] at this
      exact this
     ·cases e1
   have hp1:(Dn c1.ups).Perm n1:=by simpa [Dn] using m4
   have hp2:(Dn c2.ups).Perm (n1++n2):=d4.trans ((List.Perm.append_left n2 hp1).trans List.perm_append_comm)
   have hnd2:(n1++n2).Nodup:=hp2.nodup_iff.1 d2.nodup
   have hblk:Hh S γ (n1++n2)=Hh S γ n1++Hh S γ n2:=by simp[Hh]
   have hok:∀ f b,okL K S γ c2 f b→Bo2 w B (Hh S γ n1++Hh S γ n2) f b:=fun f b hb=>⟨fun hm=>by
    rw[← hblk] at hm
    obtain⟨i,hi,hi2⟩:=Gn.1 hm
    exact d2.apart i (Td.1 (hp2.mem_iff.2 hi)) (hb.1 i hi2),hb.2⟩
   refine⟨h.defers,Bza rvals,Bzw (K:=K) k4,rvals,Hh S γ n1,Hh S γ n2,rfl,?_,?_,?_,fun g hg=>?_,h.frame,fun hp=>?_⟩
   rotate_left 4
   ·exact Cjd h hlen hp rfl (kpre hp) k2 k3
   ·exact ((m6 rvals k2 k3).mono fun f=>X0 d3 id).mono hok
   ·exact (d6 (Awt s.ins vals) b1 b2).mono hok
   ·rw[← hblk];exact Aj5 h hnd2
   ·rw[← hblk] at hg
    obtain⟨i,_,hi2⟩:=Gn.1 hg
    exact (h.mod i g hi2).1
  exact Cl9 (K:=K) hK hS.mix hL c 0 _ _ _ _ (by rw[show K.args.map (·.isSome)=Bnc s.ins from Boe _ _ hlen];exact hcode) (fun S used γ a w' hI he=>hfin S used γ a w' hI he) (fun i S used γ a w' hI he=>by cases he)
   (fun S used γ a w' hI he=>hfin S used γ a w' hI he) _ used γ _ w ⟨hstart,fun id v hv=>by rw[u1 id v hv];exact Nat.zero_lt_one⟩ q2
end Go.Pon
namespace Go.Pon
open Go
open Go.ChangeShapes Go.WideShapes Go.ChangeAt Go.RowKit
def Btl{α:Type}:List (Nat×α)→Nat→Option α
 | [],_=>none
 | (i,x)::r,n=>bif Nat.beq i n then some x else Btl r n
def Cnp:List ((Nat×Nat)×List (Nat×Ez))→Nat→Nat→List (Nat×Ez)
 | [],_,_=>[]
 | ((f,b),x)::r,n,k=>bif Nat.beq f n&&Nat.beq b k then x else Cnp r n k
def Cnk:List ((Nat×Nat)×List Ali)→Nat→Nat→List Ali
 | [],_,_=>[]
 | ((f,b),x)::r,n,k=>bif Nat.beq f n&&Nat.beq b k then x else Cnk r n k
theorem Bax{α:Type}:∀ {l:List (Nat×α)} {n:Nat} {x:α},Btl l n=some x→(n,x)∈l
 | (i,y)::r,n,x,h=>by
  simp only[Btl] at h
  cases hb:Nat.beq i n with
  | true =>
   rw[hb] at h
   cases h
   obtain rfl:=Nat.eq_of_beq_eq_true hb
   exact List.mem_cons_self ..
  | false =>
   rw[hb] at h
   exact List.mem_cons_of_mem _ (Bax h)
def Ty.wf:(t:Ty)→t.den→Prop
 | .unit,_=>True
 | .pair a b,x=>a.wf x.1∧b.wf x.2
 | .int k,x=>inK k x
 | .bool,_=>True
 | .str,x=>List.length x≤maxLen∧∀ n∈(x:List Int),0≤n∧n≤255
 | .arr n t,x=>List.length x=n∧∀ y∈(x:List t.den),t.wf y
 | .slice t,x=>List.length x≤maxLen∧∀ y∈(x:List t.den),t.wf y
 | .ptr,_=>True
theorem B5.each{α:Type}{R:List Value→α→Prop}{p:α→Prop}{n:Nat}(h:∀ c x,R c x→p x):∀ {cs:List Value} {xs:List α},B5 R n cs xs→∀ x∈xs,p x
 | _,[],_,x,hx=>by simp at hx
 | _,y::ys,⟨_,h2,h3⟩,x,hx=>by
  rcases List.mem_cons.1 hx with rfl|hx
  ·exact h _ _ h2
  ·exact B5.each h h3 x hx
theorem DR.wf{w:World}{ok:Nat→Prop}:∀ {t:Ty} {cs:List Value} {x:t.den},DR w ok t cs x→t.wf x
 | .unit,_,_,_=>trivial
 | .pair _ _,_,_,⟨h1,h2⟩=>⟨DR.wf h1,DR.wf h2⟩
 | .int _,_,_,h=>h.2
 | .bool,_,_,_=>trivial
 | .str,_,x,⟨s,_,h2,h3⟩=>by
  refine⟨?_,fun n hn=>?_⟩
  ·rw[h2,List.length_map]
   exact h3
  ·rw[h2] at hn
   obtain⟨b,_,rfl⟩:=List.mem_map.1 hn
   have:=b.toNat_lt
   omega
 | .arr _ _,_,_,⟨h1,h2⟩=>⟨h1,h2.each fun _ _ hd=>DR.wf hd⟩
 | .slice _,_,_,⟨_,_,_,h2,h3,_,_,h5,_⟩=>⟨Nat.le_trans h2 h3,h5.each fun _ _ hd=>DR.wf hd⟩
 | .ptr,_,_,_=>trivial
def Ty.noPtr:Ty→Bool
 | .pair a b=>a.noPtr&&b.noPtr
 | .arr _ t=>t.noPtr
 | .slice t=>t.noPtr
 | .ptr=>false
 | _=>true
theorem Ads{P:Program}{t:Ty}{T:TypeId}(h:T1 P t T=true):P.cellsOf T=t.size:=by
 obtain⟨i,z,h1,h2,_⟩:=Kz (Tn h)
 simp[Program.cellsOf,h1,h2]
theorem Boo{α β:Type}{f:α→Option β}:∀ {l:List α} {r:List β},l.mapM f=some r→∀ x∈l,∃ y,f x=some y
 | [],_,_,x,hx=>by simp at hx
 | a::l,r,h,x,hx=>by
  simp only[List.mapM_cons,Option.pure_def,Option.bind_eq_bind,Option.bind_eq_some_iff] at h
  obtain⟨y,h1,ys,h2,_⟩:=h
  rcases List.mem_cons.1 hx with rfl|hx
  ·exact⟨y,h1⟩
  ·exact Boo h2 x hx
theorem Cnu{k:IntKind}{n:Int}(h:(Lit.int k n).wf=true):inK k n:=by simpa [Lit.wf,inK] using h
theorem Bzk{w:World}{a:Addr}:∀ {n:Nat} {cs:List Value},w.cells? 0 a n=some cs→cs.length=n∧∀ j v,cs[j]?=some v→w.cell? (a.add j)=some v:=by
 intro n cs h
 unfold World.cells? at h
 rw[if_pos (Nat.zero_le _)] at h
 have key:∀ (l:List Nat) (cs:List Value),l.mapM (fun i=>w.cell? (a.add i))=some cs→cs.length=l.length∧∀ (j:Nat) (v:Value) (i:Nat),cs[j]?=some v→l[j]?=some i→w.cell? (a.add i)=some v:=by
  intro l
  induction l with
  | nil=>intro cs h;simp at h;subst h;simp
  | cons x l ih =>
   intro cs h
   simp only[List.mapM_cons,Option.pure_def,Option.bind_eq_bind,Option.bind_eq_some_iff] at h
   obtain⟨y,h1,ys,h2,h3⟩:=h
   cases h3
   obtain⟨k1,k2⟩:=ih ys h2
   refine⟨by simp[k1],fun j v i e1 e2=>?_⟩
   cases j with
   | zero=>simp at e1 e2;subst e1 e2;exact h1
   | succ j=>exact k2 j v i (by simpa using e1) (by simpa using e2)
 obtain⟨k1,k2⟩:=key _ _ h
 simp only[List.length_range] at k1
 refine⟨k1,fun j v hj=>?_⟩
 have hlt:j<n:=by rw[← k1];exact (List.getElem?_eq_some_iff.1 hj).1
 exact k2 j v j hj (by simp[hlt])
section
variable {H:Type} {enc:TypeId×Value→H} {P:Program} {w:World} {spare:Nat→Bool} {held:Bool}
theorem Cd4{α:Type}{R:List Value→α→Prop}{n:Nat}(a:Addr):∀ (k:Nat),(∀ i,i<k→∃ c x,c.length=n∧R c x∧∀ j v,c[j]?=some v→w.cell? ((a.add (i*n)).add j)=some v) →
  ∃ (rows:List Value) (xs:List α),xs.length=k∧B5 R n rows xs∧∀ j v,rows[j]?=some v→w.cell? (a.add j)=some v
 | 0,_=>⟨[],[],rfl,rfl,fun j v hj=>by simp at hj⟩
 | k+1,h=>by
  obtain⟨rows,xs,h1,h2,h3⟩:=Cd4 a k fun i hi=>h i (by omega)
  obtain⟨c,x,k1,k2,k3⟩:=h k (by omega)
  have hl:=h2.length
  refine⟨rows++c,xs++[x],by simp[h1],h2.append (B5.single k1 k2),fun j v hj=>?_⟩
  rcases Nat.lt_or_ge j rows.length with hlt|hge
  ·rw[List.getElem?_append_left hlt] at hj
   exact h3 j v hj
  ·rw[List.getElem?_append_right hge] at hj
   have hc:=k3 _ v hj
   have hn:0<n:=by
    have:=(List.getElem?_eq_some_iff.1 hj).1
    omega
   have ha:a.spot=none:=by
    obtain⟨c0,x0,m1,_,m3⟩:=h 0 (by omega)
    have h0:c0[0]?=some (c0[0]'(by omega)):=by simp
    have:=m3 0 _ h0
    rw[Nat.zero_mul] at this
    simp only[Addr.add,if_true] at this
    exact Be2 this
   rw[Bn1 ha] at hc
   rw[show k*n+(j-rows.length)=j by rw[hl,h1] at *;omega] at hc
   exact hc
theorem Ben:∀ (t:Ty),t.noPtr=true →
  (∀ (T:TypeId) (fuel:Nat) (cs:List Value) (x:DataW H×List MemPlace),T1 P t T=true→DataW.trod enc P w 0 spare held fuel T cs=some x→∃ y:t.den,DR w (fun _=>True) t cs y) ∧
  (∀ (fs:List Field) (off fuel:Nat) (cs:List Value) (r:List (DataW H×List MemPlace)),Ef P t off fs=true→fs.mapM (fun f=>DataW.trod enc P w 0 spare held fuel f.type ((cs.drop f.offset).take (P.cellsOf f.type)))=some r →
   cs.length=off+t.size→∃ y:t.den,DR w (fun _=>True) t (cs.drop off) y)
 | .unit,_=>by
  have hf:∀ (fs:List Field) (off fuel:Nat) (cs:List Value) (r:List (DataW H×List MemPlace)),Ef P .unit off fs=true→fs.mapM (fun f=>DataW.trod enc P w 0 spare held fuel f.type ((cs.drop f.offset).take (P.cellsOf f.type)))=some r →
   cs.length=off+Ty.unit.size→∃ y:Ty.unit.den,DR w (fun _=>True) .unit (cs.drop off) y:=fun fs off fuel cs r h _ hl=>⟨(),List.drop_eq_nil_of_le (by simp only[Ty.size] at hl;omega)⟩
  refine⟨fun T fuel cs x hT hx=>?_,hf⟩
  obtain⟨fs,u1,u2,_⟩:=Atz hT
  cases fuel with
  | zero=>cases hx
  | succ fuel =>
   simp only[DataW.trod,u1] at hx
   split at hx
   ·rename_i hl
    rw[Ads hT] at hl
    obtain⟨r,hr,_⟩:=Option.map_eq_some_iff.1 hx
    have:=hf fs.toList 0 fuel cs r u2 hr (by omega)
    simpa using this
   ·cases hx
 | .pair a b,hp=>by
  simp only[Ty.noPtr,Bool.and_eq_true] at hp
  obtain⟨iha,_⟩:=Ben a hp.1
  obtain⟨_,ihb⟩:=Ben b hp.2
  have hf:∀ (fs:List Field) (off fuel:Nat) (cs:List Value) (r:List (DataW H×List MemPlace)),Ef P (.pair a b) off fs=true→fs.mapM (fun f=>DataW.trod enc P w 0 spare held fuel f.type ((cs.drop f.offset).take (P.cellsOf f.type)))=some r →
   cs.length=off+(Ty.pair a b).size→∃ y:(Ty.pair a b).den,DR w (fun _=>True) (.pair a b) (cs.drop off) y:=by
   intro fs off fuel cs r h hr hl
   obtain⟨f,fr,rfl,f1,f2,f3,_,f4⟩:=Z0 h
   simp only[List.mapM_cons,Option.pure_def,Option.bind_eq_bind,Option.bind_eq_some_iff] at hr
   obtain⟨z,h1,zs,h2,_⟩:=hr
   simp only[Ty.size] at hl
   rw[f1,Ads f2] at h1
   obtain⟨y1,d1⟩:=iha f.type fuel _ _ f2 h1
   obtain⟨y2,d2⟩:=ihb fr (off+a.size) fuel cs zs f4 h2 (by omega)
   exact⟨(y1,y2),d1,by rw[List.drop_drop];exact d2⟩
  refine⟨fun T fuel cs x hT hx=>?_,hf⟩
  obtain⟨fs,u1,u2,_⟩:=An7 hT
  cases fuel with
  | zero=>cases hx
  | succ fuel =>
   simp only[DataW.trod,u1] at hx
   split at hx
   ·rename_i hl
    rw[Ads hT] at hl
    obtain⟨r,hr,_⟩:=Option.map_eq_some_iff.1 hx
    have:=hf fs.toList 0 fuel cs r u2 hr (by omega)
    simpa using this
   ·cases hx
 | .int k,_=>by
  refine⟨fun T fuel cs x hT hx=>?_,fun fs off fuel cs r h=>by simp[Ef,tyC] at h⟩
  obtain⟨n,rfl,_,hw⟩:=DataW.trod_int (Ael hT) hx
  exact⟨n,rfl,Cnu hw⟩
 | .bool,_=>by
  refine⟨fun T fuel cs x hT hx=>?_,fun fs off fuel cs r h=>by simp[Ef,tyC] at h⟩
  obtain⟨b,rfl,_⟩:=DataW.trod_bool (Ax8 hT) hx
  exact⟨b,rfl⟩
 | .str,_=>by
  refine⟨fun T fuel cs x hT hx=>?_,fun fs off fuel cs r h=>by simp[Ef,tyC] at h⟩
  obtain⟨s,rfl,_,hs⟩:=DataW.trod_string (Ai9 hT) hx
  exact⟨_,s,rfl,rfl,hs⟩
 | .arr n t,hp=>by
  obtain⟨ih,_⟩:=Ben t hp
  refine⟨fun T fuel cs x hT hx=>?_,fun fs off fuel cs r h=>by simp[Ef,tyC] at h⟩
  obtain⟨e,u1,u2⟩:=Aez hT
  cases fuel with
  | zero=>cases hx
  | succ fuel =>
   simp only[DataW.trod,u1] at hx
   split at hx
   ·rename_i hl
    rw[Ads hT] at hl
    obtain⟨r,hr,_⟩:=Option.map_eq_some_iff.1 hx
    have hget:=Boo hr
    have key:∀ k,k≤n→∃ xs:List t.den,xs.length=k∧B5 (DR w (fun _=>True) t) t.size (cs.take (k*t.size)) xs:=by
     intro k
     induction k with
     | zero=>intro _;exact⟨[],rfl,by simp[B5]⟩
     | succ k ihk =>
      intro hk
      obtain⟨xs,h1,h2⟩:=ihk (by omega)
      obtain⟨z,hz⟩:=hget k (by simp;omega)
      rw[Ads u2] at hz
      obtain⟨y,hy⟩:=ih e fuel _ _ u2 hz
      refine⟨xs++[y],by simp[h1],?_⟩
      have e1:cs.take ((k+1)*t.size)=cs.take (k*t.size)++(cs.drop (k*t.size)).take t.size:=by
       rw[Nat.add_mul,Nat.one_mul,List.take_add]
      rw[e1]
      exact h2.append (B5.single (DR.len hy) hy)
    obtain⟨xs,h1,h2⟩:=key n (Nat.le_refl _)
    rw[List.take_of_length_le (by rw[hl];exact Nat.le_refl _)] at h2
    exact⟨xs,h1,h2⟩
   ·cases hx
 | .slice t,hp=>by
  obtain⟨ih,_⟩:=Ben t hp
  refine⟨fun T fuel cs x hT hx=>?_,fun fs off fuel cs r h=>by simp[Ef,tyC] at h⟩
  obtain⟨e,u1,u2⟩:=Hy hT
  cases fuel with
  | zero=>cases hx
  | succ fuel =>
   simp only[DataW.trod,u1] at hx
   have two:(∃ a len cap,cs=[.slice (some a) len cap])∨cs=[.slice none 0 0]:=by
    split at hx<;>simp_all
   rcases two with⟨a,len,cap,rfl⟩|rfl
   ·dsimp only at hx
    split at hx
    ·rename_i hc
     obtain⟨_,hc1,hc2⟩:=hc
     obtain⟨r,hr,_⟩:=Option.bind_eq_some_iff.1 hx
     have hget:=Boo hr
     obtain⟨rows,xs,h1,h2,h3⟩:=Cd4 (R:=DR w (fun _=>True) t) (n:=t.size) a len fun i hi=>by
      obtain⟨z,hz⟩:=hget i (by simpa using hi)
      obtain⟨c,k1,k2⟩:=Option.bind_eq_some_iff.1 hz
      rw[Ads u2] at k1
      obtain⟨m1,m2⟩:=Bzk k1
      obtain⟨y,hy⟩:=ih e fuel _ _ u2 k2
      exact⟨c,y,m1,hy,m2⟩
     exact⟨xs,some a,cap,by rw[h1],by rw[h1];exact hc1,hc2,(fun h=>by cases h),rows,h2,fun _=>⟨a,rfl,trivial,h3⟩⟩
    ·cases hx
   ·exact⟨[],none,0,rfl,Nat.le_refl _,Nat.zero_le _,fun _=>rfl,[],rfl,fun h=>absurd rfl h⟩
 | .ptr,h=>by cases h
def Bu5(P:Program):List Ez→List TypeId→Bool
 | [],[]=>true
 | .ro fr t::ms,T::Ts=>(!fr||t.flat)&&t.noPtr&&T1 P t T&&Bu5 P ms Ts
 | _,_=>false
def wfL:(ms:List Ez)→O7 ms→Prop
 | [],_=>True
 | .ro _ t::ms,x=>t.wf x.1∧wfL ms x.2
 | _::ms,x=>wfL ms x.2
theorem Cbs{base:Nat}{t:Ty}{T:TypeId}{v:Value}(h:T1 P t T=true)(hp:t.noPtr=true)(hv:Value.okWide P w .any base T v):C7 v=t.agg:=by
 cases t with
 | unit =>
  obtain⟨fs,u,_⟩:=Atz h
  simp only[Value.okWide,u] at hv
  obtain⟨cs,rfl,_⟩:=hv
  rfl
 | pair a b =>
  obtain⟨fs,u,_⟩:=An7 h
  simp only[Value.okWide,u] at hv
  obtain⟨cs,rfl,_⟩:=hv
  rfl
 | arr n t =>
  obtain⟨e,u,_⟩:=Aez h
  simp only[Value.okWide,u] at hv
  obtain⟨cs,rfl,_⟩:=hv
  rfl
 | int k=>obtain⟨n,rfl⟩:=okWide_int (Ael h) hv;rfl
 | bool=>obtain⟨n,rfl⟩:=okWide_bool (Ax8 h) hv;rfl
 | str=>obtain⟨n,rfl⟩:=okWide_string (Ai9 h) hv;rfl
 | slice t =>
  obtain⟨e,u,_⟩:=Hy h
  obtain⟨a,l,c,rfl⟩:=okWide_slice u hv
  rfl
 | ptr=>cases hp
theorem Bz7{base:Nat}:∀ (ms:List Ez) (Ts:List TypeId) (vs:List Value) (ds:List (DataW H)) (ps:List MemPlace),Bu5 P ms Ts=true→DataW.TrodAll enc P w 0 spare held Ts vs ds ps →
  (∀ (j:Nat) (T:TypeId) (v:Value),Ts[j]?=some T→vs[j]?=some v→Value.okWide P w .any base T v) →
  ∃ x:O7 ms,MRL w (Bo2 w (fun _=>False) []) w.heap.size ms vs x []∧wfL ms x
 | [],[],vs,ds,ps,_,h,_=>by
  cases vs with
  | nil=>exact⟨(),⟨rfl,rfl⟩,trivial⟩
  | cons _ _=>cases ds<;>exact h.elim
 | m::ms,T::Ts,vs,ds,ps,hl,h,hv=>by
  cases m with
  | ro fr t =>
   simp only[Bu5,Bool.and_eq_true] at hl
   obtain⟨⟨⟨l1,l2⟩,l3⟩,l4⟩:=hl
   cases vs with
   | nil=>cases ds<;>exact h.elim
   | cons v vs =>
    cases ds with
    | nil=>exact h.elim
    | cons d ds =>
     obtain⟨p,q,⟨fuel,h1⟩,h2,rfl⟩:=h
     obtain⟨y,hy⟩:=(Ben t l2).1 T fuel _ _ l3 h1
     obtain⟨x,hx,hw⟩:=Bz7 ms Ts vs ds q l4 h2 fun j T v e1 e2=>hv (j+1) T v (by simpa using e1) (by simpa using e2)
     have hag:=Cbs l3 l2 (hv 0 T v rfl rfl)
     refine⟨(y,x),⟨v,vs,[],[],rfl,hag,⟨rfl,?_⟩,hx,rfl⟩,hy.wf,hw⟩
     cases fr with
     | false=>exact hy.mono fun b _=>⟨by simp,(fun h=>h),(fun h=>by cases h)⟩
     | true=>exact DR.flat (by simpa using l1) hy
  | _=>cases hl
 | [],_::_,_,_,_,hl,_,_=>by cases hl
 | m::_,[],_,_,_,hl,_,_=>by cases m<;>cases hl
theorem Cgb{f:FuncId}{fn:Func}{c:Code}{ins:List Ez}{F:O7 ins→Option (Ce.outDen ⟨ins,[.ro true .bool]⟩)}(hF:A6 P f ⟨ins,[.ro true .bool]⟩ F)(hf:P.funcs[f]?=some fn)(hb:fn.body=some c)(hname:fn.name≠"runtime.NumGoroutine")
  {x:O7 ins} {y:Ce.outDen ⟨ins,[.ro true .bool]⟩} (hy:F x=some y) (hb1:y.1.1=true) {vals:List Value} (hm:MRL w (Bo2 w (fun _=>False) []) w.heap.size ins vals x []) :
  Calls P f vals.toArray w fun e w'=>e=.returned (.bool true)∧Below w.heap.size w w':=by
 have hc:(callFunc f vals.toArray).run P w=.ok (.enter f vals.toArray) w:=by simp[callFunc,hf,hname,hb]
 rcases hF w (fun _=>False) vals x [] y hy (fun b h=>h.elim) List.nodup_nil (by simp) hm with⟨_,h⟩ | ⟨v,w',h,_⟩
 ·refine h.mono fun e w' he=>?_
  cases e with
  | returned v =>
   obtain⟨rs,b1,b2,rfl,g1,g2,g3,g4,g5,_⟩:=he
   obtain⟨v0,r0,c1,c2,rfl,ha,⟨_,hd⟩,⟨rfl,_⟩,_⟩:=g1
   have hv:v0.cells.toList=[.bool true]:=by
    have h1:v0.cells.toList=[.bool y.1.1]:=hd
    rw[hb1] at h1;exact h1
   have ha:C7 v0=false:=ha
   rw[Bq ha] at hv
   have hv:v0=.bool true:=by simpa using hv
   refine⟨by rw[hv];rfl,⟨g5.os,g5.tape,g5.output,g5.size,fun k hk=>g5.block k hk (by simp)⟩⟩
  | panicked _=>exact he.elim
  | outgrown=>exact he.elim
 ·rw[hc] at h
  cases h
theorem Bbr(hlaid:laidOutB P=true){w':World}(hb:Below w.heap.size w w'):∀ {Ts:List TypeId} {vs:List Value} {ds:List (DataW H)} {ps:List MemPlace},
  (∀ T∈Ts,P.readableRec T=true∧T<P.types.size)→DataW.TrodAll enc P w 0 (fun _=>true) true Ts vs ds ps→DataW.TrodAll enc P w' 0 (fun b=>decide (b<w.heap.size)) true Ts vs ds ps
 | [],[],[],_,_,h=>h
 | [],[],_::_,_,_,h=>h.elim
 | [],_::_,_,_,_,h=>by cases ‹List (DataW H)›<;>exact h.elim
 | _::_,[],_,_,_,h=>by cases ‹List (DataW H)›<;>exact h.elim
 | _::_,_::_,[],_,_,h=>h.elim
 | T::Ts,v::vs,d::ds,ps,hT,⟨p,q,h1,h2,e⟩=>by
  obtain⟨r1,r2⟩:=hT T (List.mem_cons_self ..)
  have hlt:∀ x∈p,x.block<w.heap.size:=by obtain⟨m,hm⟩:=h1;exact DataW.trod_lt m _ _ _ hm
  exact⟨p,q,Below.trod hlaid r1 r2 h1 hb hlt,Bbr hlaid hb (fun T hT'=>hT T (List.mem_cons_of_mem _ hT')) h2,e⟩
end
theorem Ccm{C:Checked}{os:Os}{f:FuncId}{fn:Func}{c:Code}{ins:List Ez}{F:O7 ins→Option (Ce.outDen ⟨ins,[.ro true .bool]⟩)}{spec:ChangeSpec}{Tb:TypeId}{H:Type}{enc:TypeId×Value→H}
  (own:ownKnob C.prog.godebug=none) (started:os.Started) (noInit:C.prog.inits.idxOf? f=none) (hlaid:laidOutB C.prog=true)
  (witness:∃ (w:World) (tape:Tape) (i:Input),w.os=os∧(w.forCall tape i).Shaped C.prog∧i.vars=[]∧Input.okWide C.prog (w.forCall tape i) .any w.heap.size f i ∧
   spec.pre6 enc C.prog fn [] false (w.forCall tape i).memory i.args∧({}:Assume).holds C.prog (lone (Frame.enter C.prog f i.args .normal) [] (w.forCall tape i)))
  (hF:A6 C.prog f ⟨ins,[.ro true .bool]⟩ F) (hf:C.prog.funcs[f]?=some fn) (hb:fn.body=some c) (hname:fn.name≠"runtime.NumGoroutine")
  (hins:Bu5 C.prog ins fn.params.toList=true) (hread:∀ T∈fn.params.toList,C.prog.readableRec T=true∧T<C.prog.types.size) (hres:fn.resultTypes=#[Tb]) (hbool:C.prog.underlying Tb=some .bool)
  (hvars:spec.vars=[]) (hspec:∀ ds:List (DataW H),ds.length=fn.params.size→(spec.fn H ds).results=[.lit (.bool true)]∧(spec.fn H ds).args=ds∧(spec.fn H ds).vars=[])
  (hall:∀ x,wfL ins x→∃ y,F x=some y∧y.1.1=true) :
  ReturnsInHanded {} C os f .any (spec.pre6 enc C.prog fn [] false) (spec.post enc C.prog fn false true false false):=by
 refine returnsInHanded_of_change (C:=C) own started noInit hf witness ?_
 intro W base args ds gs before hval hW _ _
 have hW':=hW
 obtain⟨p,q,hA,hV,rfl,hfz,hnd⟩:=hW
 rw[hvars] at hV
 obtain⟨rfl,rfl⟩:=trodVars_none hV
 obtain⟨x,hm,hwf⟩:=Bz7 (base:=base) ins fn.params.toList args.toList ds p hins hA fun j T v e1 e2=>hval j T v (by simpa using e1) (by simpa using e2)
 obtain⟨y,hy,hyb⟩:=hall x hwf
 have hlen:ds.length=fn.params.size:=by
  have key:∀ (Ts:List TypeId) (vs:List Value) (ds:List (DataW H)) (ps:List MemPlace),DataW.TrodAll enc C.prog W 0 (fun _=>true) true Ts vs ds ps→ds.length=Ts.length:=by
   intro Ts
   induction Ts with
   | nil=>intro vs ds ps h;cases vs<;>cases ds<;>first|rfl|exact h.elim
   | cons T Ts ih =>
    intro vs ds ps h
    cases vs with
    | nil=>cases ds<;>exact h.elim
    | cons v vs =>
     cases ds with
     | nil=>exact h.elim
     | cons d ds =>
      obtain⟨p,q,_,h2,_⟩:=h
      simp[ih vs ds q h2]
  have:=key _ _ _ _ hA
  simpa using this
 obtain⟨s1,s2,s3⟩:=hspec ds hlen
 have hcalls:=Cgb (w:=W) hF hf hb hname hy hyb hm
 rw[Array.toArray_toList] at hcalls
 refine hcalls.mono fun e W' ⟨he,bel⟩=>?_
 subst he
 refine⟨_,rfl,ds,[],p++[],[],p,[],hW',?_,?_,?_,bel.frame _,fun h=>by cases h⟩
 ·rw[List.append_nil,s1,hres]
  exact trodAll_mk1 (shut_bool hbool _)
 ·rw[List.append_nil,s2]
  exact Bbr hlaid bel hread hA
 ·rw[List.append_nil,s3,hvars]
  rfl
end Go.Pon
namespace Go.Pon
open Go
def mkG(tys:List (Nat×Ty))(sigs:List (Nat×Ce))(hints:List ((Nat×Nat)×List (Nat×Ez)))(cut:Bool)(als:List ((Nat×Nat)×List Ali):=[])(mps:List (Nat×IntKind×Ty):=[]):Ctx :=
 ⟨fun f b=>Cnk als f b,Btl tys,Btl sigs,fun f b=>Cnp hints f b,cut,fun _=>none,Btl mps⟩
structure Aj7 where
 f:Nat
 s:Ce
 F:O7 s.ins→Option s.outDen
def pick:List Aj7→Ap
 | [],_,_=>fun _=>none
 | e::l,f,s=>if h:e.f=f∧e.s=s then h.2▸e.F else pick l f s
theorem Cj8(f:Nat)(s:Ce)(F:O7 s.ins→Option s.outDen)(l:List Aj7):pick (⟨f,s,F⟩::l) f s=F:=by
 simp[pick]
theorem Cge{f g:Nat}(s t:Ce)(F:O7 s.ins→Option s.outDen)(l:List Aj7)(h:Nat.beq f g=false):pick (⟨f,s,F⟩::l) g t=pick l g t:=by
 have:¬ f=g:=fun e=>by subst e;simp at h
 simp[pick,this]
theorem Ceb{P:Program}:∀ {l:List Aj7},(∀ e∈l,A6 P e.f e.s e.F)→∀ f s,A6 P f s (pick l f s)
 | [],_,f,s=>fun w B vals x bs y h=>by cases h
 | e::l,h,f,s=>by
  unfold pick
  split
  ·rename_i hh
   obtain⟨h1,h2⟩:=hh
   subst h1;subst h2
   exact h e (List.mem_cons_self ..)
  ·exact Ceb (fun e' he=>h e' (List.mem_cons_of_mem _ he)) f s
structure By6(P:Program)(tys:List (Nat×Ty))(sigs:List (Nat×Ce))(mps:List (Nat×IntKind×Ty):=[]):Prop where
 depth:64≤P.depth
 mix:P.follows .mixedOrders=true
 tys:To (fun p:Nat×Ty=>T1 P p.2 p.1) tys=true
 sigs:To (fun p:Nat×Ce=>To Ez.insOK p.2.ins) sigs=true
 mps:To (fun p:Nat×(IntKind×Ty)=>By0 P p.2.1 p.2.2 p.1) mps=true
theorem Ayu{α:Type}{f:α→Bool}:∀ {l:List α},To f l=true→∀ x∈l,f x=true
 | [],_,x,h=>by cases h
 | a::l,h,x,hx=>by
  simp only[To,Bool.and_eq_true] at h
  rcases List.mem_cons.1 hx with rfl|hx
  ·exact h.1
  ·exact Ayu h.2 x hx
theorem By6.sure{P:Program}{tys:List (Nat×Ty)}{sigs:List (Nat×Ce)}{hints:List ((Nat×Nat)×List (Nat×Ez))}{cut:Bool}{als:List ((Nat×Nat)×List Ali)}{mps:List (Nat×IntKind×Ty)}(h:By6 P tys sigs mps){l:List Aj7}(hl:∀ e∈l,A6 P e.f e.s e.F) :
  Cpf P (mkG tys sigs hints cut als mps) (pick l) :=
 ⟨h.depth,h.mix,fun T t e=>Ayu h.tys (T,t) (Bax e),fun f s e=>⟨fun m hm=>Ayu (Ayu h.sigs (f,s) (Bax e)) m hm,Ceb hl f s⟩,fun T k t e=>Ayu h.mps (T,k,t) (Bax e)⟩
theorem Cqg{P:Program}{tys:List (Nat×Ty)}{sigs:List (Nat×Ce)}{hints:List ((Nat×Nat)×List (Nat×Ez))}{cut:Bool}{als:List ((Nat×Nat)×List Ali)}{mps:List (Nat×IntKind×Ty)}(h:By6 P tys sigs mps)(l:List Aj7)(hl:∀ e∈l,A6 P e.f e.s e.F)
  {f:FuncId} {fn:Func} {c:Code} {s:Ce} {F:O7 s.ins→Option s.outDen} (hf:P.funcs[f]?=some fn) (hb:fn.body=some c) (hok:Bvw s fn c=true)
  (he:∀ x,Ag Ac (pick l) (mkG tys sigs hints cut als mps) f fn c s x=F x):A6 P f s F :=
 (funext he:Ag Ac (pick l) (mkG tys sigs hints cut als mps) f fn c s=F)▸Clf (h.sure hl) Cbi hf hb hok
theorem Bi8{P:Program}{f:FuncId}{s:Ce}:A6 P f s (fun _=>none):=fun w B vals x bs y h=>by cases h
theorem Af{P:Program}:∀ e∈([]:List Aj7),A6 P e.f e.s e.F:=fun e h=>by cases h
theorem Ab{P:Program}{f:Nat}{s:Ce}{F:O7 s.ins→Option s.outDen}{l:List Aj7}(h:A6 P f s F)(hl:∀ e∈l,A6 P e.f e.s e.F):∀ e∈(⟨f,s,F⟩::l:List Aj7),A6 P e.f e.s e.F:=fun e he=>by
 rcases List.mem_cons.1 he with rfl|he
 ·exact h
 ·exact hl e he
def Bxn(C:Ap):List Aj7→Prop
 | []=>True
 | ⟨f,s,F⟩::l=>C f s=F∧Bxn C l
def ndB:List Aj7→Bool
 | []=>true
 | e::l=>To (fun x:Aj7=>Nat.beq e.f x.f == false) l&&ndB l
theorem Cc2{e:Aj7}{l m:List Aj7}(h:Bxn (pick l) m)(hn:To (fun x:Aj7=>Nat.beq e.f x.f == false) m=true):Bxn (pick (e::l)) m:=by
 induction m with
 | nil=>trivial
 | cons x m ih =>
  obtain⟨f,s,F⟩:=x
  obtain⟨g,t,G⟩:=e
  simp only[To,Bool.and_eq_true,beq_iff_eq] at hn
  exact⟨(Cge _ _ _ _ hn.1).trans h.1,ih h.2 hn.2⟩
theorem Bps:∀ {l:List Aj7},ndB l=true→Bxn (pick l) l
 | [],_=>trivial
 | ⟨f,s,F⟩::l,h=>by
  simp only[ndB,Bool.and_eq_true] at h
  exact⟨Cj8 _ _ _ _,Cc2 (Bps h.2) h.1⟩
theorem Bf{P:Program}{tys:List (Nat×Ty)}{sigs:List (Nat×Ce)}{hints:List ((Nat×Nat)×List (Nat×Ez))}{cut:Bool}{als:List ((Nat×Nat)×List Ali)}{mps:List (Nat×IntKind×Ty)}(h:By6 P tys sigs mps)(l:List Aj7)(hl:∀ e∈l,A6 P e.f e.s e.F)
  {f:FuncId} {fn:Func} {c:Code} {s:Ce} {F:O7 s.ins→Option s.outDen} (hf:P.funcs[f]?=some fn) (hb:fn.body=some c) (hok:Bvw s fn c=true) (nd:ndB l=true)
  (he:∀ C,Bxn C l→∀ x,Ag Ac C (mkG tys sigs hints cut als mps) f fn c s x=F x):A6 P f s F :=
 Cqg h l hl hf hb hok (he _ (Bps nd))
end Go.Pon
