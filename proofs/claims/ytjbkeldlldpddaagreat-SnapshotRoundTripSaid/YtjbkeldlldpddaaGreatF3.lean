/-
  Part of a proof: general lemmas, merged by a program of this work.
-/
import Derived.Laws.Externs
import Derived.Shelf.Slices.Delete
import Derived.Shelf.Spec.SlicesInsertGrow
import Derived.Test.YtjbkeldlldpddaaGreatF2
set_option autoImplicit false
set_option linter.unusedVariables false
set_option linter.unusedSimpArgs false
noncomputable section
namespace Go.Pon
theorem ab3:type_of% @Int.eq_ofNat_of_zero_le:=@Int.eq_ofNat_of_zero_le
end Go.Pon
namespace Go.Pon
open Go
structure Bgg where
 f:Nat
 g:Option Nat
 v:Nat
 s:B4
 y:Lay
def onB:Option Nat→Option Nat→Bool
 | none,none=>true
 | some a,some b=>Nat.beq a b
 | _,_=>false
def Cam:List Bgg→Nat→Option Nat→Option (Nat×B4×Lay)
 | [],_,_=>none
 | r::l,f,g=>bif Nat.beq r.f f&&onB r.g g then some (r.v,r.s,r.y) else Cam l f g
def Cfk:Option (Nat×Lay×List Dz)→Nat→Option (Lay×List Dz)
 | none,_=>none
 | some (v,y),f=>bif Nat.beq v f then some y else none
def Clr:List (Nat×Nat)→Nat→Nat→Nat
 | [],_,_=>0
 | (f,b)::r,n,k=>bif Nat.beq f n&&Nat.beq b k then 16 else Clr r n k
theorem Bqs:∀ {l:List Bgg} {f:Nat} {g:Option Nat} {v:Nat} {s:B4} {y:Lay},Cam l f g=some (v,s,y)→∃ r∈l,r.v=v∧r.s=s∧r.y=y
 | r::l,f,g,v,s,y,h=>by
  simp only[Cam] at h
  cases hb:(Nat.beq r.f f&&onB r.g g) with
  | true=>rw[hb] at h;cases h;exact⟨r,ac1 ..,rfl,rfl,rfl⟩
  | false =>
   rw[hb] at h
   obtain⟨r',h1,h2⟩:=Bqs h
   exact⟨r',ab8 _ h1,h2⟩
def mkG(tys:List (Nat×Ty))(sigs:List (Nat×B4))(cr:List ((Nat×Nat)×List (Nat×Dz)))(cut:Bool)(kd:List ((Nat×Nat)×List Ali):=[])(mps:List (Nat×IntKind×Ty):=[])(vts:List Bgg:=[])(ly:Option (Nat×Lay×List Dz):=none)(ur:List (Nat×Nat):=[]):Ctx :=
 ⟨fun f b=>Clm kd f b,Bqa tys,Bqa sigs,fun f b=>Ck6 cr f b,cut,fun _=>none,Bqa mps,Cam vts,Cfk ly,fun f b=>Clr ur f b⟩
structure Pl where
 f:Nat
 s:B4
 F:Iu s.ins→Option s.outDen
def pick:List Pl→Gi
 | [],_,_=>fun _=>none
 | e::l,f,s=>if h:e.f=f∧e.s=s then h.2▸e.F else pick l f s
theorem Cfu(f:Nat)(s:B4)(F:Iu s.ins→Option s.outDen)(l:List Pl):pick (⟨f,s,F⟩::l) f s=F:=by
 simp[pick]
theorem Cds{f g:Nat}(s t:B4)(F:Iu s.ins→Option s.outDen)(l:List Pl)(h:Nat.beq f g=false):pick (⟨f,s,F⟩::l) g t=pick l g t:=by
 have:¬ f=g:=fun e=>by subst e;simp at h
 simp[pick,this]
theorem Buf{P:Program}:∀ {l:List Pl},(∀ e∈l,A7 P e.f e.s e.F)→∀ f s,A7 P f s (pick l f s)
 | [],_,f,s=>fun w B vals x bs y h=>by cases h
 | e::l,h,f,s=>by
  unfold pick
  split
  ·rename_i hh
   obtain⟨h1,h2⟩:=hh
   subst h1;subst h2
   exact h e (ac1 ..)
  ·exact Buf (fun e' he=>h e' (ab8 _ he)) f s
structure Beu(P:Program)(tys:List (Nat×Ty))(sigs:List (Nat×B4))(mps:List (Nat×IntKind×Ty):=[]):Prop where
 depth:64≤P.depth
 mix:P.follows .mixedOrders=true
 tys:Sc (fun p:Nat×Ty=>U2 P p.2 p.1) tys=true
 sigs:Sc (fun p:Nat×B4=>Sc Dz.insOK p.2.ins) sigs=true
 mps:Sc (fun p:Nat×(IntKind×Ty)=>Bvs P p.2.1 p.2.2 p.1) mps=true
theorem Yv{α:Type}{f:α→Bool}:∀ {l:List α},Sc f l=true→∀ x∈l,f x=true
 | [],_,x,h=>by cases h
 | a::l,h,x,hx=>by
  simp only[Sc,aa5] at h
  rcases aa9.1 hx with rfl|hx
  ·exact h.1
  ·exact Yv h.2 x hx
structure Mn where
 r:Bgg
 F:Iu r.s.ins→Option r.s.outDen
def Bws:List Mn→Gi
 | [],_,_=>fun _=>none
 | e::l,f,s=>if h:e.r.v=f∧e.r.s=s then h.2▸e.F else Bws l f s
def Bb5(l:List Pl)(lv:List Mn):Gi:=fun f s=>bif Nat.ble 1000000 f then Bws lv f s else pick l f s
def Cei:List (Nat×B4)→Bool
 | []=>true
 | p::l=>Nat.blt p.1 1000000&&Cei l
def Ay8:List Mn→Bool
 | []=>true
 | e::l=>Nat.ble 1000000 e.r.v&&Sc Dz.insOK e.r.s.ins&&Sc (fun x:Mn=>Nat.beq e.r.v x.r.v == false) l&&Ay8 l
theorem Afa{P:Program}:∀ e∈([]:List Mn),VOK P e.r.y e.r.s e.F:=fun e h=>by cases h
theorem Aeb{P:Program}{r:Bgg}{F:Iu r.s.ins→Option r.s.outDen}{l:List Mn}(h:VOK P r.y r.s F)(hl:∀ e∈l,VOK P e.r.y e.r.s e.F):∀ e∈(⟨r,F⟩::l:List Mn),VOK P e.r.y e.r.s e.F:=fun e he=>by
 rcases aa9.1 he with rfl|he
 ·exact h
 ·exact hl e he
theorem Brw:∀ {l:List (Nat×B4)},Cei l=true→∀ p∈l,p.1<1000000
 | [],_,p,hp=>by cases hp
 | q::l,h,p,hp=>by
  simp only[Cei,aa5] at h
  rcases aa9.1 hp with rfl|hp
  ·have:=h.1;simp[Nat.blt] at this;omega
  ·exact Brw h.2 p hp
theorem Brk{l:List Pl}{lv:List Mn}{f:Nat}(h:f<1000000)(s:B4):Bb5 l lv f s=pick l f s:=by
 unfold Bb5
 have:Nat.ble 1000000 f=false:=by rw[an3];exact fun e=>by have:=ao4 e;omega
 rw[this];rfl
theorem Bqg:∀ {lv:List Mn},Ay8 lv=true→∀ e∈lv,Bws lv e.r.v e.r.s=e.F
 | e::l,h,e',he=>by
  simp only[Ay8,aa5] at h
  obtain⟨⟨⟨_,_⟩,h3⟩,h4⟩:=h
  rcases aa9.1 he with rfl|he
  ·unfold Bws
   rw[dif_pos ⟨rfl,rfl⟩]
  ·have bm:Nat.beq e.r.v e'.r.v=false:=by simpa using Yv h3 e' he
   unfold Bws
   rw[dif_neg (fun hh=>by rw[hh.1] at bm;simp at bm)]
   exact Bqg h4 e' he
theorem Bh8:∀ {lv:List Mn},Ay8 lv=true→∀ e∈lv,1000000≤e.r.v∧∀ m∈e.r.s.ins,m.insOK=true
 | e::l,h,e',he=>by
  simp only[Ay8,aa5] at h
  obtain⟨⟨⟨h1,h2⟩,_⟩,h4⟩:=h
  rcases aa9.1 he with rfl|he
  ·exact⟨ao4 h1,fun m hm=>Yv h2 m hm⟩
  ·exact Bh8 h4 e' he
theorem Bng{l:List Pl}{lv:List Mn}(h:Ay8 lv=true){e:Mn}(he:e∈lv):Bb5 l lv e.r.v e.r.s=e.F:=by
 unfold Bb5
 rw[show Nat.ble 1000000 e.r.v=true from by rw[Nat.ble_eq];exact (Bh8 h e he).1]
 exact Bqg h e he
theorem Beu.sureV{P:Program}{tys:List (Nat×Ty)}{sigs:List (Nat×B4)}{cr:List ((Nat×Nat)×List (Nat×Dz))}{cut:Bool}{kd:List ((Nat×Nat)×List Ali)}{mps:List (Nat×IntKind×Ty)}(h:Beu P tys sigs mps){l:List Pl}(hl:∀ e∈l,A7 P e.f e.s e.F)
  {lv:List Mn} (da:∀ e∈lv,VOK P e.r.y e.r.s e.F) (hh:Ay8 lv=true) (fv:Cei sigs=true) (ly:Option (Nat×Lay×List Dz)) (ur:List (Nat×Nat)) :
  Ckg P (mkG tys sigs cr cut kd mps (lv.map Mn.r) ly ur) (Bb5 l lv) :=
 ⟨h.depth,h.mix,fun T t e=>Yv h.tys (T,t) (Aem e),fun f s e=>⟨fun m hm=>Yv (Yv h.sigs (f,s) (Aem e)) m hm,by
   rw[Brk (Brw fv _ (Aem e))];exact Buf hl f s⟩,fun T k t e=>Yv h.mps (T,k,t) (Aem e),
  fun f g v s y e=>by
   obtain⟨r,hr,rfl,rfl,rfl⟩:=Bqs e
   obtain⟨x,hx,rfl⟩:=ag8.1 hr
   exact⟨(Bh8 hh x hx).2,by rw[Bng hh hx];exact da x hx⟩⟩
theorem Beu.sure{P:Program}{tys:List (Nat×Ty)}{sigs:List (Nat×B4)}{cr:List ((Nat×Nat)×List (Nat×Dz))}{cut:Bool}{kd:List ((Nat×Nat)×List Ali)}{mps:List (Nat×IntKind×Ty)}(h:Beu P tys sigs mps){l:List Pl}(hl:∀ e∈l,A7 P e.f e.s e.F) :
  Ckg P (mkG tys sigs cr cut kd mps) (pick l) :=
 ⟨h.depth,h.mix,fun T t e=>Yv h.tys (T,t) (Aem e),fun f s e=>⟨fun m hm=>Yv (Yv h.sigs (f,s) (Aem e)) m hm,Buf hl f s⟩,fun T k t e=>Yv h.mps (T,k,t) (Aem e),fun f g v s y e=>by cases e⟩
theorem Cn0{P:Program}{tys:List (Nat×Ty)}{sigs:List (Nat×B4)}{cr:List ((Nat×Nat)×List (Nat×Dz))}{cut:Bool}{kd:List ((Nat×Nat)×List Ali)}{mps:List (Nat×IntKind×Ty)}(h:Beu P tys sigs mps)(l:List Pl)(hl:∀ e∈l,A7 P e.f e.s e.F)
  {f:FuncId} {fn:Func} {c:Code} {s:B4} {F:Iu s.ins→Option s.outDen} (hf:P.funcs[f]?=some fn) (hb:fn.body=some c) (bj:Bc3 s fn c=true)
  (he:∀ x,Afk Ac (pick l) (mkG tys sigs cr cut kd mps) f fn c s x=F x):A7 P f s F :=
 (funext he:Afk Ac (pick l) (mkG tys sigs cr cut kd mps) f fn c s=F)▸Cba (h.sure hl) Bck hf hb bj rfl
theorem Bha{P:Program}{f:FuncId}{s:B4}:A7 P f s (fun _=>none):=fun w B vals x bs y h=>by cases h
theorem Ae{P:Program}:∀ e∈([]:List Pl),A7 P e.f e.s e.F:=fun e h=>by cases h
theorem Ab{P:Program}{f:Nat}{s:B4}{F:Iu s.ins→Option s.outDen}{l:List Pl}(h:A7 P f s F)(hl:∀ e∈l,A7 P e.f e.s e.F):∀ e∈(⟨f,s,F⟩::l:List Pl),A7 P e.f e.s e.F:=fun e he=>by
 rcases aa9.1 he with rfl|he
 ·exact h
 ·exact hl e he
def Ayt(C:Gi):List Pl→Prop
 | []=>True
 | ⟨f,s,F⟩::l=>C f s=F∧Ayt C l
def ndB:List Pl→Bool
 | []=>true
 | e::l=>Sc (fun x:Pl=>Nat.beq e.f x.f == false) l&&ndB l
theorem Bz4{e:Pl}{l m:List Pl}(h:Ayt (pick l) m)(hn:Sc (fun x:Pl=>Nat.beq e.f x.f == false) m=true):Ayt (pick (e::l)) m:=by
 induction m with
 | nil=>trivial
 | cons x m ih =>
  obtain⟨f,s,F⟩:=x
  obtain⟨g,t,G⟩:=e
  simp only[Sc,aa5,beq_iff_eq] at hn
  exact⟨(Cds _ _ _ _ hn.1).trans h.1,ih h.2 hn.2⟩
theorem Awl:∀ {l:List Pl},ndB l=true→Ayt (pick l) l
 | [],_=>trivial
 | ⟨f,s,F⟩::l,h=>by
  simp only[ndB,aa5] at h
  exact⟨Cfu _ _ _ _,Bz4 (Awl h.2) h.1⟩
def Bmc(C:Gi):List Mn→Prop
 | []=>True
 | ⟨r,F⟩::l=>C r.v r.s=F∧Bmc C l
def Cet:List Pl→Bool
 | []=>true
 | e::l=>Nat.blt e.f 1000000&&Cet l
theorem Bzo{l:List Pl}{lv:List Mn}:∀ {m:List Pl},Cet m=true→Ayt (pick l) m→Ayt (Bb5 l lv) m
 | [],_,_=>trivial
 | ⟨f,s,F⟩::m,hl,⟨h1,h2⟩=>by
  simp only[Cet,aa5] at hl
  exact⟨(Brk (by have:=hl.1;simp[Nat.blt] at this;omega) s).trans h1,Bzo hl.2 h2⟩
theorem Bqb{l:List Pl}{lv:List Mn}(hh:Ay8 lv=true):∀ {m:List Mn},(∀ e∈m,e∈lv)→Bmc (Bb5 l lv) m
 | [],_=>trivial
 | ⟨r,F⟩::m,h=>⟨Bng hh (h _ (ac1 ..)),Bqb hh fun e he=>h e (ab8 _ he)⟩
theorem Cfc{l:List Pl}{lv:List Mn}(hh:Ay8 lv=true):Bmc (Bb5 l lv) lv:=Bqb hh fun _ h=>h
theorem Cpf{P:Program}{tys:List (Nat×Ty)}{sigs:List (Nat×B4)}{cr:List ((Nat×Nat)×List (Nat×Dz))}{cut:Bool}{kd:List ((Nat×Nat)×List Ali)}{mps:List (Nat×IntKind×Ty)}(h:Beu P tys sigs mps)(l:List Pl)(hl:∀ e∈l,A7 P e.f e.s e.F)
  {f:FuncId} {fn:Func} {c:Code} {s:B4} {F:Iu s.ins→Option s.outDen} (hf:P.funcs[f]?=some fn) (hb:fn.body=some c) (bj:Bc3 s fn c=true) (nd:ndB l=true)
  (he:∀ C,Ayt C l→∀ x,Afk Ac C (mkG tys sigs cr cut kd mps) f fn c s x=F x):A7 P f s F :=
 Cn0 h l hl hf hb bj (he _ (Awl nd))
theorem Coh{P:Program}{tys:List (Nat×Ty)}{sigs:List (Nat×B4)}{cr:List ((Nat×Nat)×List (Nat×Dz))}{cut:Bool}{kd:List ((Nat×Nat)×List Ali)}{mps:List (Nat×IntKind×Ty)}(h:Beu P tys sigs mps)(l:List Pl)(hl:∀ e∈l,A7 P e.f e.s e.F)
  (lv:List Mn) (da:∀ e∈lv,VOK P e.r.y e.r.s e.F) (ur:List (Nat×Nat)) (hh:Ay8 lv=true) (fv:Cei sigs=true)
  {f:FuncId} {fn:Func} {c:Code} {s:B4} {F:Iu s.ins→Option s.outDen} (hf:P.funcs[f]?=some fn) (hb:fn.body=some c) (bj:Bc3 s fn c=true) (nd:ndB l=true) (lo:Cet l=true)
  (he:∀ C,Ayt C l→Bmc C lv→∀ x,Afk Ac C (mkG tys sigs cr cut kd mps (lv.map Mn.r) none ur) f fn c s x=F x):A7 P f s F :=
 (funext (he _ (Bzo lo (Awl nd)) (Cfc hh)):Afk Ac (Bb5 l lv) (mkG tys sigs cr cut kd mps (lv.map Mn.r) none ur) f fn c s=F)▸Cba (h.sureV hl da hh fv none ur) Bck hf hb bj rfl
theorem Biz{P:Program}{tys:List (Nat×Ty)}{sigs:List (Nat×B4)}{cr:List ((Nat×Nat)×List (Nat×Dz))}{cut:Bool}{kd:List ((Nat×Nat)×List Ali)}{mps:List (Nat×IntKind×Ty)}(h:Beu P tys sigs mps)(l:List Pl)(hl:∀ e∈l,A7 P e.f e.s e.F)
  (lv:List Mn) (da:∀ e∈lv,VOK P e.r.y e.r.s e.F) (ur:List (Nat×Nat)) (hh:Ay8 lv=true) (fv:Cei sigs=true)
  {v:Nat} {y:Lay} {fn:Func} {c:Code} {s:B4} {F:Iu s.ins→Option s.outDen} (hf:P.funcs[y.f]?=some fn) (hb:fn.body=some c) (bj:Bt7 y s fn c=true) (nd:ndB l=true) (lo:Cet l=true)
  (he:∀ C,Ayt C l→Bmc C lv→∀ x,T0 Ac C (mkG tys sigs cr cut kd mps (lv.map Mn.r) (some (v,y,s.ins)) ur) v fn c s y x=F x):VOK P y s F :=
 (funext (he _ (Bzo lo (Awl nd)) (Cfc hh)):T0 Ac (Bb5 l lv) (mkG tys sigs cr cut kd mps (lv.map Mn.r) (some (v,y,s.ins)) ur) v fn c s y=F) ▸
  Ch3 (h.sureV hl da hh fv _ ur) Bck hf hb bj (by show Cfk (some (v,y,s.ins)) v=_;simp[Cfk])
end Go.Pon
namespace Go.Pon
open Go
abbrev Bwd:Dz:=.ro true (.int .u64)
theorem Bun{w:World}{ok:Bool→Nat→Prop}{base:Nat}{v:Value}{x:Int}{bs:List Nat}(ha:Ck v=(Bwd).ty.agg)(h:MR w ok base Bwd v.cells.toList x bs) :
  v=.int .u64 x∧(0≤x∧x≤18446744073709551615)∧bs=[]:=by
 obtain⟨h1,h2⟩:=h
 have ha:Ck v=false:=ha
 rw[Bm ha] at h2
 obtain⟨h3,h4⟩:=h2
 refine⟨by simpa using h3,?_,h1⟩
 simpa [inK,IntKind.min,IntKind.max,IntKind.signed,IntKind.bits] using h4
theorem Cgf{w:World}{ok:Bool→Nat→Prop}{base:Nat}{x:Int}(h:0≤x∧x≤18446744073709551615):MR w ok base Bwd (Value.int .u64 x).cells.toList x [] :=
 ⟨rfl,rfl,by simpa [inK,IntKind.min,IntKind.max,IntKind.signed,IntKind.bits] using h⟩
abbrev Ane:B4:=⟨[Bwd,Bwd,Bwd],[Bwd,Bwd]⟩
theorem Cf7{P:Program}{f:FuncId}{fn:Func}{e:Array Value→Sem Value}(hf:P.funcs[f]?=some fn)(ei:(fn.name == "runtime.NumGoroutine")=false)
  (hb:fn.body.isNone=true) (hn:Extern.findNext fn=none) (he:Extern.find fn=some e) {F:Iu Ane.ins→Option Ane.outDen}
  (hF:∀ (x y c:Int) (r:Ane.outDen) (w:World),(0≤x∧x≤18446744073709551615)→(0≤y∧y≤18446744073709551615)→(0≤c∧c≤18446744073709551615)→F (x,y,c,())=some r →
   (e #[.int .u64 x,.int .u64 y,.int .u64 c]).run P w=.ok (.tuple #[.int .u64 r.1.1,.int .u64 r.1.2.1]) w∧(0≤r.1.1∧r.1.1≤18446744073709551615)∧(0≤r.1.2.1∧r.1.2.1≤18446744073709551615)):A7 P f Ane F:=by
 intro w B vals x bs y hy hB dv hnB hr
 obtain⟨v1,r1,b1,c1,rfl,a1,m1,hr,rfl⟩:=hr
 obtain⟨v2,r2,b2,c2,rfl,a2,m2,hr,rfl⟩:=hr
 obtain⟨v3,r3,b3,c3,rfl,a3,m3,hr,rfl⟩:=hr
 obtain⟨rfl,rfl⟩:=hr
 obtain⟨x1,x2,x3,xu⟩:=x
 obtain⟨e1,k1,rfl⟩:=Bun a1 m1
 obtain⟨e2,k2,rfl⟩:=Bun a2 m2
 obtain⟨e3,k3,rfl⟩:=Bun a3 m3
 subst e1 e2 e3
 obtain⟨g1,g2,g3⟩:=hF x1 x2 x3 y w k1 k2 k3 hy
 refine .inr ⟨_,w,?_,[.int .u64 y.1.1,.int .u64 y.1.2.1],[],[],rfl,?_,?_,by simp,by simp,?_,fun h=>by cases h⟩
 ·rw[run_callFunc_extern hf ei hb hn he]
  show ((e #[.int .u64 x1,.int .u64 x2,.int .u64 x3]).run P w).andThen _=_
  rw[g1]
  rfl
 ·exact⟨_,_,[],[],rfl,rfl,Cgf g2,⟨_,_,[],[],rfl,rfl,Cgf g3,⟨rfl,rfl⟩,rfl⟩,rfl⟩
 ·exact⟨_,_,[],[],rfl,rfl,⟨rfl,rfl⟩,⟨_,_,[],[],rfl,rfl,⟨rfl,rfl⟩,⟨_,_,[],[],rfl,rfl,⟨rfl,rfl⟩,⟨rfl,rfl⟩,rfl⟩,rfl⟩,rfl⟩
 ·exact⟨rfl,rfl,rfl,ab4 _,fun _ _ _=>rfl⟩
def Cjg(x:Iu Ane.ins):Option Ane.outDen :=
 if x.2.2.1≤1 then some (((x.1+x.2.1+x.2.2.1) % 18446744073709551616,(x.1+x.2.1+x.2.2.1) / 18446744073709551616,()),(),(),(),()) else none
def Coo(x:Iu Ane.ins):Option Ane.outDen :=
 if x.2.2.1≤1 then some (((x.1-x.2.1-x.2.2.1) % 18446744073709551616,(if x.1<x.2.1+x.2.2.1 then 1 else 0),()),(),(),(),()) else none
def Cgp(pb:String)(g:Nat→Nat→Nat→Nat×Nat):Array Value→Sem Value:=fun args=>do
 let (x,y,c) ← Extern.MathBitsCarry.three pb args
 pure (Extern.MathBitsCarry.pair (g x y c).1 (g x y c).2)
theorem Cac{P:Program}{pb:String}{g:Nat→Nat→Nat→Nat×Nat}(x y c:Nat)(hc:c≤1)(w:World) :
  (Cgp pb g #[.int .u64 x,.int .u64 y,.int .u64 c]).run P w=.ok (.tuple #[.int .u64 ((g x y c).1:Nat),.int .u64 ((g x y c).2:Nat)]) w:=by
 have:c=0∨c=1:=by omega
 rcases this with rfl|rfl<;>rfl
abbrev Crs(x y c:Nat):Nat×Nat:=((x+y+c) % Extern.MathBitsCarry.m64,(x+y+c) / Extern.MathBitsCarry.m64)
theorem Chp{P:Program}{f:FuncId}{fn:Func}(hf:P.funcs[f]?=some fn)(ei:(fn.name == "runtime.NumGoroutine")=false)
  (hb:fn.body.isNone=true) (hn:Extern.findNext fn=none) (he:Extern.find fn=some (Cgp "Add64" Crs)):A7 P f Ane Cjg :=
 Cf7 hf ei hb hn he fun x y c r w hx hy hc h=>by
  unfold Cjg at h
  simp only at h
  split at h
  ·rename_i fw
   cases h
   obtain⟨a,rfl⟩:=ab3 hx.1
   obtain⟨b,rfl⟩:=ab3 hy.1
   obtain⟨d,rfl⟩:=ab3 hc.1
   have hm:Extern.MathBitsCarry.m64=18446744073709551616:=rfl
   have fw:(d:Int)≤1:=fw
   rw[Cac a b d (by omega)]
   have q1:0≤((a:Int)+b+d) % 18446744073709551616∧((a:Int)+b+d) % 18446744073709551616≤18446744073709551615:=by omega
   have q2:0≤((a:Int)+b+d) / 18446744073709551616∧((a:Int)+b+d) / 18446744073709551616≤18446744073709551615:=by omega
   refine⟨?_,q1,q2⟩
   simp only[hm]
   congr 5
  ·cases h
end Go.Pon
namespace Go.Pon
open Go Go.Proofs Go.Shelf Go.RowKit Go.Lib
abbrev Clf(t:Ty):B4:=⟨[.own false t,.ro true (.int .i64),.own false t],[.own false t]⟩
def Cvd(t:Ty)(x:Iu (Clf t).ins):Option (Clf t).outDen :=
 if 0≤x.2.1∧x.2.1≤(List.length x.1:Int)∧0<List.length x.2.2.1∧A8 (List.length x.1+List.length x.2.2.1) t=true then
  some ((List.append (List.take x.2.1.toNat x.1) (List.append x.2.2.1 (List.drop x.2.1.toNat x.1)),()),(),(),(),()) else none
end Go.Pon
namespace Go.Pon
open Go Go.Proofs Go.Shelf Go.RowKit Go.Lib
abbrev Cls(t:Ty):B4:=⟨[.own false t,.ro true (.int .i64),.ro true (.int .i64)],[.own false t]⟩
def Cuc(t:Ty)(x:Iu (Cls t).ins):Option (Cls t).outDen :=
 if 0≤x.2.1∧x.2.1<x.2.2.1∧x.2.2.1≤(List.length x.1:Int)∧A8 (List.length x.1) t=true then
  some ((List.append (List.take x.2.1.toNat x.1) (List.drop x.2.2.1.toNat x.1),()),(),(),(),()) else none
end Go.Pon
