/-
  Part of a proof: general lemmas, merged by a program of this work.
-/
import Derived.KernelRfl
import Derived.Test.YtjbkeldlldpddaaGreatPSnapshotReference2
set_option autoImplicit false
set_option linter.unusedVariables false
set_option linter.unusedSimpArgs false
noncomputable section
namespace Go.Pon
open Go
theorem Ae5{a b:Nat}(ha:Al a)(hb:Al b)(h:Al (a+b)):Fy (Aw a,Aw b,())=some ((Aw (a+b),(0:Int),()),(),(),()):=by
 have h':=h
 unfold Al at h'
 rw[Bl1 ha hb,if_pos h']
theorem Acb{a b:Nat}(ha:Al a)(hb:Al b)(h:¬ Al (a+b)):Fy (Aw a,Aw b,())=some (([(0:Int),0,0,0],(4:Int),()),(),(),()):=by
 have h':=h
 unfold Al at h'
 rw[Bl1 ha hb,if_neg h']
inductive Caz(l:List At)(a:Int)(cost reward:Nat)(since:Int):List At×(Int×Unit)→Prop
 | invalid (h:Jc l=false∨since=0):Caz l a cost reward since ([],(2:Int),())
 | absent (h1:Jc l=true) (h2:since≠0) (h:Aaq l a = -1):Caz l a cost reward since ([],(8:Int),())
 | over (h1:Jc l=true) (h2:since≠0) (k:Nat) (hk:k<l.length) (h:Aaq l a=(k:Int)) (d c r pd:Nat) (s:Int) (hp:l.getD k Ax=((l.getD k Ax).1,Aw d,Aw c,Aw r,Aw pd,s,())) (hd:Al d) (hc:Al c) (hr:Al r)
   (hov:¬ Al (d+(cost+reward))∨¬ Al (c+cost)∨¬ Al (r+reward)):Caz l a cost reward since ([],(4:Int),())
 | done (h1:Jc l=true) (h2:since≠0) (k:Nat) (hk:k<l.length) (h:Aaq l a=(k:Int)) (d c r pd:Nat) (s:Int) (hp:l.getD k Ax=((l.getD k Ax).1,Aw d,Aw c,Aw r,Aw pd,s,())) (hd:Al d) (hc:Al c) (hr:Al r) (hpd:Al pd)
   (h3:Al (d+(cost+reward))) (h4:Al (c+cost)) (h5:Al (r+reward)) :
   Caz l a cost reward since (List.set l k ((l.getD k Ax).1,Aw (d+(cost+reward)),Aw (c+cost),Aw (r+reward),Aw pd,(if d=0∧cost+reward≠0 then since else s),()),(0:Int),())
theorem Bke{l:List At}{a:Int}{cost reward:Nat}{since:Int}(ha:Adi l)(hl:l.length≤100000)(hco:Al cost)(hre:Al reward) :
  ∃ y,Caz l a cost reward since y∧Aqw (l,a,Aw cost,Aw reward,since,())=some (y,(),(),(),(),(),()):=by
 unfold Aqw Awr
 simp only
 rw[Bb3 (by omega),Ao7 ha (by omega),Aa,Aa]
 simp only[Aq,Ad]
 cases hv:Jc l with
 | false=>rw[Bp];exact⟨_,.invalid (.inl hv),rfl⟩
 | true =>
  rw[Au]
  by_cases hs:since=0
  ·rw[if_pos hs];exact⟨_,.invalid (.inr hs),rfl⟩
  rw[if_neg hs]
  rcases Avp l a with⟨h1,h2⟩ | ⟨k,hk,h1,h2⟩
  ·rw[h1,if_pos (by decide)]
   exact⟨_,.absent hv hs h1,rfl⟩
  rw[h1,if_neg (by omega),Ao,if_pos (by omega),Int.toNat_natCast,Btp (by omega),Ayr]
  have hp:=ha.at k
  generalize hpk:l.getD k Ax=p at hp ⊢
  obtain⟨g1,hd,hc,hr,hpd,g2⟩:=hp
  rename_i ad d c r pd s
  simp only
  have over:(¬ Al (d+(cost+reward))∨¬ Al (c+cost)∨¬ Al (r+reward))→∃ y,Caz l a cost reward since y∧(some ((([]:List At),(4:Int),()),(),(),(),(),(),()):Option ((List At×Int×Unit)×Unit×Unit×Unit×Unit×Unit×Unit))=some (y,(),(),(),(),(),()):=fun h =>
   ⟨_,.over hv hs k hk h1 d c r pd s (by rw[hpk]) hd hc hr h,rfl⟩
  by_cases c1:Al (cost+reward)
  case neg =>
   rw[Acb hco hre c1,Aa]
   have h0:Al (d+0):=by rw[Nat.add_zero];exact hd
   rw[show ([(0:Int),0,0,0]:List Int)=Aw 0 from rfl,Ae5 hd (by unfold Al;omega) h0,Aa]
   have hov:¬ Al (d+(cost+reward)):=by unfold Al at *;omega
   by_cases q1:Al (c+cost)<;>by_cases q2:Al (r+reward)
   all_goals first
    | rw[Ae5 hc hco q1,Aa]|rw[Acb hc hco q1,Aa]
   all_goals first
    | rw[Ae5 hr hre q2,Aa]|rw[Acb hr hre q2,Aa]
   all_goals
    rw[if_neg (by decide)]
    exact over (.inl hov)
  rw[Ae5 hco hre c1,Aa]
  by_cases c2:Al (d+(cost+reward))
  case neg =>
   rw[Acb hd c1 c2,Aa]
   by_cases q1:Al (c+cost)<;>by_cases q2:Al (r+reward)
   all_goals first
    | rw[Ae5 hc hco q1,Aa]|rw[Acb hc hco q1,Aa]
   all_goals first
    | rw[Ae5 hr hre q2,Aa]|rw[Acb hr hre q2,Aa]
   all_goals
    rw[if_pos rfl,if_neg (by decide)]
    exact over (.inl c2)
  rw[Ae5 hd c1 c2,Aa]
  by_cases c3:Al (c+cost)
  case neg =>
   rw[Acb hc hco c3,Aa]
   by_cases q2:Al (r+reward)
   all_goals first
    | rw[Ae5 hr hre q2,Aa]|rw[Acb hr hre q2,Aa]
   all_goals
    rw[if_pos rfl,if_pos rfl,if_neg (by decide)]
    exact over (.inr (.inl c3))
  rw[Ae5 hc hco c3,Aa]
  by_cases c4:Al (r+reward)
  case neg =>
   rw[Acb hr hre c4,Aa,if_pos rfl,if_pos rfl,if_pos rfl,if_neg (by decide)]
   exact over (.inr (.inr c4))
  rw[Ae5 hr hre c4,Aa,if_pos rfl,if_pos rfl,if_pos rfl,if_pos rfl,Acr,Aa]
  have fin:=Caz.done (l:=l) (a:=a) hv hs k hk h1 d c r pd s (by rw[hpk]) hd hc hr hpd c2 c3 c4
  rw[hpk] at fin
  refine⟨_,fin,?_⟩
  have ik:(0:Int)≤(k:Int)∧(k:Int)<(l.length:Int):=by omega
  simp only[Ao,if_pos ik]
  rw[Ad]
  by_cases d0:d=0
  ·rw[if_pos d0,Acr,Aa,Ad]
   by_cases e0:d+(cost+reward)=0
   ·rw[if_pos e0,if_neg (by omega),Aa,if_pos ik]
   ·rw[if_neg e0,if_pos (by omega),Aa,if_pos ik]
  ·rw[if_neg d0,if_neg (by omega),Aa,if_pos ik]
inductive Car(l:List At)(a:Int)(n:Nat):List At×(Int×Unit)→Prop
 | invalid (h:Jc l=false):Car l a n ([],(2:Int),())
 | absent (h1:Jc l=true) (h:Aaq l a = -1):Car l a n ([],(8:Int),())
 | funds (h1:Jc l=true) (k:Nat) (hk:k<l.length) (h:Aaq l a=(k:Int)) (d c r pd:Nat) (s:Int) (hp:l.getD k Ax=((l.getD k Ax).1,Aw d,Aw c,Aw r,Aw pd,s,())) (hd:Al d) (hf:d<n):Car l a n ([],(10:Int),())
 | over (h1:Jc l=true) (k:Nat) (hk:k<l.length) (h:Aaq l a=(k:Int)) (d c r pd:Nat) (s:Int) (hp:l.getD k Ax=((l.getD k Ax).1,Aw d,Aw c,Aw r,Aw pd,s,())) (hd:Al d) (hpd:Al pd) (hf:n≤d) (ho:¬ Al (pd+n)):Car l a n ([],(4:Int),())
 | done (h1:Jc l=true) (k:Nat) (hk:k<l.length) (h:Aaq l a=(k:Int)) (d c r pd:Nat) (s:Int) (hp:l.getD k Ax=((l.getD k Ax).1,Aw d,Aw c,Aw r,Aw pd,s,())) (hd:Al d) (hc:Al c) (hr:Al r) (hpd:Al pd) (hf:n≤d) (ho:Al (pd+n)) :
   Car l a n (List.set l k ((l.getD k Ax).1,Aw (d-n),Aw c,Aw r,Aw (pd+n),(if d-n=0 then 0 else s),()),(0:Int),())
theorem Bkv{l:List At}{a:Int}{n:Nat}(ha:Adi l)(hl:l.length≤100000)(hn:Al n) :
  ∃ y,Car l a n y∧Aq8 (l,a,Aw n,())=some (y,(),(),(),()):=by
 unfold Aq8 Awp
 simp only
 rw[Bb3 (by omega),Ao7 ha (by omega),Aa,Aa]
 simp only[Aq,Ad]
 cases hv:Jc l with
 | false=>rw[Bp];exact⟨_,.invalid hv,rfl⟩
 | true =>
  rw[Au]
  rcases Avp l a with⟨h1,h2⟩ | ⟨k,hk,h1,h2⟩
  ·rw[h1,if_pos (by decide)]
   exact⟨_,.absent hv h1,rfl⟩
  rw[h1,if_neg (by omega),Ao,if_pos (by omega),Int.toNat_natCast,Btp (by omega),Ayr]
  have hp:=ha.at k
  generalize hpk:l.getD k Ax=p at hp ⊢
  obtain⟨g1,hd,hc,hr,hpd,g2⟩:=hp
  rename_i ad d c r pd s
  simp only
  by_cases c1:n≤d
  case neg =>
   rw[Cg8 (by omega) hn,Aa,if_neg (by decide)]
   exact⟨_,.funds hv k hk h1 d c r pd s (by rw[hpk]) hd (by omega),rfl⟩
  rw[Cmi hd c1,Aa,if_pos rfl]
  by_cases c2:Al (pd+n)
  case neg =>
   rw[Acb hpd hn c2,Aa,if_neg (by decide)]
   exact⟨_,.over hv k hk h1 d c r pd s (by rw[hpk]) hd hpd c1 c2,rfl⟩
  rw[Ae5 hpd hn c2,Aa,if_pos rfl,Acr,Aa]
  have fin:=Car.done (l:=l) (a:=a) hv k hk h1 d c r pd s (by rw[hpk]) hd hc hr hpd c1 c2
  rw[hpk] at fin
  refine⟨_,fin,?_⟩
  have ik:(0:Int)≤(k:Int)∧(k:Int)<(l.length:Int):=by omega
  simp only[Ao,if_pos ik]
  rw[Ad]
  by_cases d0:d-n=0
  ·rw[if_pos d0,if_pos d0,Aa,if_pos ik]
  ·rw[if_neg d0,if_neg d0,Aa,if_pos ik]
theorem Cd0(l:List At):List.append (List.replicate 0 Ax) l=l:=rfl
theorem Vw{l:List At}{k:Nat}{x z:At}(h:k<l.length):List.getD (List.set l k x) k z=x:=by
 simp[List.getD_eq_getElem?_getD,h]
theorem Aym{l:List At}{k:Nat}{x y:At}:List.set (List.set l k x) k y=List.set l k y:=by simp
theorem Bcj{n:Nat}:(((dg n).length:Nat):Int)>0↔n≠0:=by
 have:=Ah4 0 n
 simp at this
 omega
theorem Ako{n:Nat}(h:n<115792089237316195423570985008687907853269984665640564039457584007913129639936*4):(dg n).length≤1000:=by
 have:(dg n).length≤17:=D0.2 (by
  rw[show (65536:Nat) ^ 17=7588550360256754183279148073529370729071901715047420004889892225542594864082845696 from by decide]
  exact Nat.div_eq_of_lt (by omega))
 omega
theorem Bbs{l:List At}{a:Int}{cost reward:Nat}{since:Int}(ha:Adi l)(hl:l.length≤100000)(hco:Al cost)(hre:Al reward)(hv:Jc l=true)(hs:since≠0){k:Nat}(hk:k<l.length)(h1:Aaq l a=(k:Int))
  {ad:Int} {d c r pd:Nat} {s:Int} (hp:l.getD k Ax=(ad,Aw d,Aw c,Aw r,Aw pd,s,())) (hd:Al d) (hc:Al c) (hr:Al r) :
  (¬ (Al (d+(cost+reward))∧Al (c+cost)∧Al (r+reward))→E8 (l,a,Aw cost,Aw reward,since,())=some (([],(4:Int),()),(),(),(),(),(),())) ∧
  (Al (d+(cost+reward))→Al (c+cost)→Al (r+reward)→E8 (l,a,Aw cost,Aw reward,since,())=some ((List.set l k (ad,Aw (d+(cost+reward)),Aw (c+cost),Aw (r+reward),Aw pd,(if d=0∧cost+reward≠0 then since else s),()),(0:Int),()),(),(),(),(),(),())):=by
 generalize hX:E8 (l,a,Aw cost,Aw reward,since,())=X
 unfold E8 Ta at hX
 simp only at hX
 rw[Ayr] at hX
 rw[Am,Am,Cd0,L5 ha (by omega),Aa] at hX
 simp only[Aq,hv] at hX
 rw[Au,Ad,if_neg hs,Akl (by omega),Aa] at hX
 simp only[h1] at hX
 rw[Am,Ad,if_neg (by omega),Nat.zero_add,roomyP (by omega),Au,Ao,if_pos (by omega),Int.toNat_natCast,hp] at hX
 simp only at hX
 have e1:=Bz hd
 have e2:=Bz hc
 have e3:=Bz hr
 have e4:=Bz hco
 have e5:=Bz hre
 rw[e1,Aa,e4,Aa,e5,Aa] at hX
 unfold Al at hd hc hr hco hre
 rw[Cb (Ako (by omega)) (Ako (by omega)),Aa,Cb (Ako (by omega)) (Ako (by omega)),Aa] at hX
 rw[e2,Aa,Aa,Cb (Ako (by omega)) (Ako (by omega)),Aa] at hX
 rw[e3,Aa,Aa,Cb (Ako (by omega)) (Ako (by omega)),Aa] at hX
 rw[O3,Aa,Ad] at hX
 subst hX
 constructor
 ·intro hn
  by_cases c2:Al (d+(cost+reward))
  case neg=>unfold Al at c2;rw[if_neg c2]
  have c2':=c2
  unfold Al at c2'
  rw[if_pos c2',O3,Aa,Ad]
  by_cases c3:Al (c+cost)
  case neg=>unfold Al at c3;rw[if_neg c3]
  have c3':=c3
  unfold Al at c3'
  rw[if_pos c3',O3,Aa,Ad]
  have c4:¬ Al (r+reward):=fun h=>hn ⟨c2,c3,h⟩
  unfold Al at c4
  rw[if_neg c4]
 ·intro c2 c3 c4
  have t2:=Th c2
  have t3:=Th c3
  have t4:=Th c4
  unfold Al at c2 c3 c4
  rw[if_pos c2,O3,Aa,Ad,if_pos c3,O3,Aa,Ad,if_pos c4,Nh,Aa,Ad]
  by_cases d0:d=0
  ·rw[if_pos d0,Ad]
   by_cases e0:cost+reward=0
   ·rw[if_neg (by rw[Bcj];omega),t2,Aa,Am,t3,Aa,t4,Aa]
    simp only[Vw hk,Aym,List.length_set,hk]
    rw[if_neg (by omega)]
   ·rw[if_pos (by rw[Bcj];omega),t2,Aa,Am,t3,Aa,t4,Aa]
    simp only[Vw,Aym,List.length_set,hk]
    rw[if_pos ⟨d0,e0⟩]
  ·rw[if_neg d0,t2,Aa,Am,t3,Aa,t4,Aa]
   simp only[Vw,Aym,List.length_set,hk]
   rw[if_neg (by omega)]
theorem Cb5{l:List At}{a:Int}{cost reward:Nat}{since:Int}{y:List At×(Int×Unit)}(ha:Adi l)(hl:l.length≤100000)(hco:Al cost)(hre:Al reward)
  (h:Caz l a cost reward since y):E8 (l,a,Aw cost,Aw reward,since,())=some (y,(),(),(),(),(),()):=by
 cases h with
 | invalid h =>
  unfold E8 Ta
  simp only
  rw[Am,Am,L5 ha (by omega),Aa,Aq]
  cases hv:Jc l with
  | false=>rw[Bp]
  | true =>
   have hs:since=0:=by rw[hv] at h;simpa using h
   rw[Au,Ad,if_pos hs]
 | absent h1 h2 h =>
  unfold E8 Ta
  simp only
  rw[Am,Am,L5 ha (by omega),Aa,Aq,h1,Au,Ad,if_neg h2,Akl (by omega),Aa,h,Am,Ad,if_pos (by decide)]
 | over h1 h2 k hk h d c r pd s hp hd hc hr hov =>
  exact (Bbs ha hl hco hre h1 h2 hk h hp hd hc hr).1 (by rintro⟨q1,q2,q3⟩;rcases hov with q|q|q<;>exact q (by assumption))
 | done h1 h2 k hk h d c r pd s hp hd hc hr hpd h3 h4 h5 =>
  exact (Bbs ha hl hco hre h1 h2 hk h hp hd hc hr).2 h3 h4 h5
theorem Cb8{l:List At}{a:Int}{n:Nat}{y:List At×(Int×Unit)}(ha:Adi l)(hl:l.length≤100000)(hn:Al n)
  (h:Car l a n y):F9 (l,a,Aw n,())=some (y,(),(),(),()):=by
 cases h with
 | invalid h =>
  unfold F9 Li
  simp only
  rw[Am,Am,L5 ha (by omega),Aa,Aq,h,Bp]
 | absent h1 h =>
  unfold F9 Li
  simp only
  rw[Am,Am,L5 ha (by omega),Aa,Aq,h1,Au,Akl (by omega),Aa,h,Ad,if_pos (by decide)]
 | funds h1 k hk h d c r pd s hp hd hf =>
  unfold F9 Li
  simp only
  rw[Ayr]
  rw[Am,Am,Cd0,L5 ha (by omega),Aa,Aq,h1,Au,Akl (by omega),Aa]
  simp only[h]
  rw[Ad,if_neg (by omega),Nat.zero_add,roomyP (by omega),Au,Ao,if_pos (by omega),Int.toNat_natCast,hp]
  simp only
  have hd':=hd
  have hn':=hn
  unfold Al at hd' hn'
  rw[Ad8 hd' hn',if_neg (by omega),Aa,Am,Am]
  rw[Aq,Ad,if_neg (by decide)]
 | over h1 k hk h d c r pd s hp hd hpd hf ho =>
  unfold F9 Li
  simp only
  rw[Ayr]
  rw[Am,Am,Cd0,L5 ha (by omega),Aa,Aq,h1,Au,Akl (by omega),Aa]
  simp only[h]
  rw[Ad,if_neg (by omega),Nat.zero_add,roomyP (by omega),Au,Ao,if_pos (by omega),Int.toNat_natCast,hp]
  simp only
  have hd':=hd
  have hn':=hn
  have hpd':=hpd
  have ho':=ho
  unfold Al at hd' hn' hpd' ho'
  rw[Ad8 hd' hn',if_pos hf,Aa,Am,Am]
  rw[Aq,Ad,if_pos rfl,Az7 hpd' hn',if_neg ho',Aa,Am,Aq,Ad,if_neg (by decide)]
 | done h1 k hk h d c r pd s hp hd hc hr hpd hf ho =>
  unfold F9 Li
  simp only
  rw[Ayr]
  rw[Am,Am,Cd0,L5 ha (by omega),Aa,Aq,h1,Au,Akl (by omega),Aa]
  simp only[h]
  rw[Ad,if_neg (by omega),Nat.zero_add,roomyP (by omega),Au,Ao,if_pos (by omega),Int.toNat_natCast,hp]
  simp only
  have hd':=hd
  have hn':=hn
  have hpd':=hpd
  have ho':=ho
  unfold Al at hd' hn' hpd' ho'
  rw[Ad8 hd' hn',if_pos hf,Aa,Am,Am]
  rw[Aq,Ad,if_pos rfl,Az7 hpd' hn',if_pos ho',Aa,Am,Aq,Ad,if_pos rfl,Nh,Aa,Ad]
  by_cases d0:d-n=0
  ·rw[if_pos d0,if_pos d0]
   simp only[Vw,Aym,List.length_set,hk]
  ·rw[if_neg d0,if_neg d0]
   simp only[Vw,Aym,List.length_set,hk]
theorem Bg7{l:List At}{i:Nat}(h:i<l.length):l.take (i+1)=l.take i++[l.getD i Ax]:=by
 rw[List.take_add_one,List.getD_eq_getElem?_getD,List.getElem?_eq_getElem h]
 rfl
theorem Bt6{l:List At}{a:Int}:∀ i,i<Qd l a→(l.getD i Ax).1<a:=by
 induction l with
 | nil=>intro i h;simp[Qd] at h
 | cons p l ih =>
  intro i h
  rw[Bt2] at h
  by_cases g:p.1<a
  ·rw[if_pos g] at h
   cases i with
   | zero=>exact g
   | succ i=>exact ih i (by omega)
  ·rw[if_neg g] at h;omega
theorem Bu3{l:List At}{a:Int}(h:Qd l a<l.length):a≤(l.getD (Qd l a) Ax).1:=by
 induction l with
 | nil=>simp at h
 | cons p l ih =>
  rw[Bt2] at h ⊢
  by_cases g:p.1<a
  ·rw[if_pos g] at h ⊢
   exact ih (by simpa using h)
  ·rw[if_neg g]
   show a≤p.1
   omega
def X3(l:List At)(a:Int)(i:Nat):List At:=if i≤Qd l a then l.take i else l.take (Qd l a)++(Bo9 a::(l.take i).drop (Qd l a))
theorem Clc{l:List At}{a:Int}(ha:Adi l)(hl:l.length≤100000):Acf (l,a,())=some ((Cod l a),(),(),()):=by
 unfold Acf Ard Cod
 rw[L5 ha (by omega)]
 simp only[Aa,Aq,Ad]
 cases hv:Jc l with
 | false=>rw[Bp,if_neg (by simp)]
 | true =>
  rw[Au,if_pos rfl]
  by_cases h0:a=0
  ·rw[if_pos h0,if_pos h0]
  rw[if_neg h0,if_neg h0,Akl (by omega)]
  simp only[Aa,Ad]
  by_cases h1:Aaq l a≥0
  ·rw[if_pos h1,if_pos h1]
  rw[if_neg h1,if_neg h1]
  have hlv:=(Q7.1 hv).1
  by_cases h2:l.length=64
  ·rw[if_pos (show (l.length:Int)≥64 by omega),if_pos h2]
  rw[if_neg (show ¬ (l.length:Int)≥64 by omega),if_neg h2]
  have hne:∀ i,i<l.length→(l.getD i Ax).1≠a:=by
   rcases Avp l a with⟨q1,q2⟩ | ⟨k,hk,q1,q2⟩
   ·exact q2
   ·omega
  have hcl:=Beg a l
  have hasc:∀ i,Qd l a≤i→i<l.length→a<(l.getD i Ax).1:=by
   intro i
   induction i with
   | zero =>
    intro q1 q2
    have q3:=Bu3 (l:=l) (a:=a) (by omega)
    have:Qd l a=0:=by omega
    rw[this] at q3
    have:=hne 0 q2
    omega
   | succ i ih =>
    intro q1 q2
    by_cases q:Qd l a=i+1
    ·have q3:=Bu3 (l:=l) (a:=a) (by omega)
     rw[q] at q3
     have:=hne (i+1) q2
     omega
    ·have:=ih (by omega) (by omega)
     have:=((Q7.1 hv).2 (i+1) q2).2 (by omega)
     rw[Nat.add_sub_cancel] at this
     omega
  refine Ak (I:=fun x=>∃ i:Nat,i≤l.length∧x=(l,a,X3 l a i,decide (Qd l a<i),((i:Nat):Int),())) (m:=fun x=>((l.length:Int)-x.2.2.2.2.1).toNat)
   (g:=fun _=>some ((pins l a,(0:Int),()),(),(),())) ?_ ⟨0,by omega,by simp[X3]⟩ (by rw[Av];simp only;omega)
  rintro x again ⟨i,hi,rfl⟩ hag
  simp only at hag ⊢
  unfold Aqv
  rw[Ayr]
  simp only[Am]
  rw[Ad]
  by_cases g1:((i:Nat):Int)<(l.length:Int)
  ·have hil:i<l.length:=by omega
   have ik:(0:Int)≤((i:Nat):Int)∧((i:Nat):Int)<(l.length:Int):=by omega
   have hlen:(X3 l a i).length≤1000:=by unfold X3;split<;>simp<;>omega
   rw[if_pos g1,Aq,Int.toNat_natCast,Ar (by omega) (by omega)]
   simp only[Ao,if_pos ik,Ad]
   have hcast:((i:Nat):Int)+1=((i+1:Nat):Int):=by omega
   rw[hcast]
   by_cases g2:Qd l a<i
   ·rw[if_pos g2,roomyP (by omega),Au]
    refine hag _ ⟨i+1,by omega,?_⟩ (by simp only;omega)
    rw[decide_eq_true g2,decide_eq_true (show Qd l a<i+1 by omega)]
    have:List.append (X3 l a i) [l.getD i Ax]=X3 l a (i+1):=by
     unfold X3
     rw[if_neg (by omega),if_neg (by omega),Bg7 hil,List.drop_append_of_le_length (by simp;omega)]
     show l.take (Qd l a)++(Bo9 a::_)++_=_
     simp
    rw[this]
   ·rw[if_neg g2]
    by_cases g3:(l.getD i Ax).1>a
    ·have hci:Qd l a=i:=by
      by_cases q:i<Qd l a
      ·have:=Bt6 i q;omega
      ·omega
     rw[if_pos g3,roomyP (by omega),Au]
     have hlen2:(List.append (X3 l a i) [(a,[(0:Int),0,0,0],[(0:Int),0,0,0],[(0:Int),0,0,0],[(0:Int),0,0,0],(0:Int),())]).length≤1001:=by show (X3 l a i++[Bo9 a]).length≤1001;simp;omega
     rw[roomyP (by omega),Au]
     refine hag _ ⟨i+1,by omega,?_⟩ (by simp only;omega)
     rw[decide_eq_true (show Qd l a<i+1 by omega)]
     have:List.append (List.append (X3 l a i) [Bo9 a]) [l.getD i Ax]=X3 l a (i+1):=by
      show X3 l a i++[Bo9 a]++[l.getD i Ax]=_
      unfold X3
      rw[if_pos (by omega),if_neg (by omega),Bg7 hil,List.drop_append_of_le_length (by simp;omega),hci]
      simp
     rw[this]
    ·have hci:i<Qd l a:=by
      by_cases q:i<Qd l a
      ·exact q
      ·have:=hasc i (by omega) hil;omega
     rw[if_neg g3,roomyP (by omega),Au]
     refine hag _ ⟨i+1,by omega,?_⟩ (by simp only;omega)
     rw[decide_eq_false (show ¬ Qd l a<i+1 by omega),decide_eq_false (show ¬ Qd l a<i by omega)]
     have:List.append (X3 l a i) [l.getD i Ax]=X3 l a (i+1):=by
      show X3 l a i++[l.getD i Ax]=_
      unfold X3
      rw[if_pos (by omega),if_pos (by omega),Bg7 hil]
     rw[this]
  ·have hil:i=l.length:=by omega
   subst hil
   rw[if_neg g1,Aq,Ad]
   by_cases g2:Qd l a<l.length
   ·rw[if_pos g2]
    unfold X3 pins
    rw[if_neg (by omega),List.take_length]
   ·have hci:Qd l a=l.length:=by omega
    have hlen:(X3 l a l.length).length≤1000:=by unfold X3;split<;>simp<;>omega
    rw[if_neg g2,roomyP (by omega),Au]
    have:List.append (X3 l a l.length) [Bo9 a]=pins l a:=by
     show X3 l a l.length++[Bo9 a]=_
     unfold X3 pins
     rw[if_pos (by omega),hci,List.take_length,List.drop_length]
    exact congrArg (fun z:List At=>some ((z,(0:Int),()),(),(),())) this
theorem Ahd.len{l:List At}(h:Ahd l):l.length≤64:=h.1
theorem Btq{l:List At}{k i:Nat}{p:At}(hk:k<l.length):(List.set l k p).getD i Ax=if i=k then p else l.getD i Ax:=by
 by_cases h:i=k
 ·subst h;rw[if_pos rfl,Vw hk]
 ·rw[if_neg h]
  simp[List.getD_eq_getElem?_getD,List.getElem?_set,Ne.symm h]
theorem Ahd.set{l:List At}(h:Ahd l){k:Nat}(hk:k<l.length){p:At}(hp:Atd p=true)(ha:p.1=(l.getD k Ax).1):Ahd (List.set l k p):=by
 refine⟨by rw[List.length_set];exact h.1,fun i hi=>?_⟩
 rw[List.length_set] at hi
 have hx:∀ j,((List.set l k p).getD j Ax).1=(l.getD j Ax).1:=fun j=>by
  rw[Btq hk]
  by_cases q:j=k
  ·rw[if_pos q,ha,q]
  ·rw[if_neg q]
 refine⟨?_,fun h0=>?_⟩
 ·rw[Btq hk]
  by_cases q:i=k
  ·rw[if_pos q];exact hp
  ·rw[if_neg q];exact (h.2 i hi).1
 ·rw[hx,hx];exact (h.2 i hi).2 h0
theorem Adi.set{l:List At}(h:Adi l){k:Nat}{p:At}(hp:Mt p):Adi (List.set l k p):=fun q hq=>by
 rcases List.mem_or_eq_of_mem_set hq with hq|hq
 ·exact h q hq
 ·rw[hq];exact hp
theorem Bne(l:List At)(a:Int):(pins l a).length=l.length+1:=by
 have:=Beg a l
 unfold pins
 simp
 omega
theorem Bss{l:List At}{a:Int}(i:Nat):(pins l a).getD i Ax=if i<Qd l a then l.getD i Ax else if i=Qd l a then Bo9 a else l.getD (i-1) Ax:=by
 have hc:=Beg a l
 unfold pins
 by_cases h1:i<Qd l a
 ·rw[if_pos h1,List.getD_eq_getElem?_getD,List.getElem?_append_left (by simp;omega),List.getElem?_take,if_pos h1,← List.getD_eq_getElem?_getD]
 ·rw[if_neg h1,List.getD_eq_getElem?_getD,List.getElem?_append_right (by simp;omega)]
  have:(l.take (Qd l a)).length=Qd l a:=by simp;omega
  rw[this]
  by_cases h2:i=Qd l a
  ·rw[if_pos h2,h2,Nat.sub_self];rfl
  ·rw[if_neg h2]
   obtain⟨m,hm⟩:∃ m,i-Qd l a=m+1:=⟨i-Qd l a-1,by omega⟩
   rw[hm,List.getElem?_cons_succ,List.getElem?_drop,show Qd l a+m=i-1 by omega,← List.getD_eq_getElem?_getD]
theorem Ahd.pins{l:List At}(h:Ahd l){a:Int}(ha:a≠0)(hne:∀ i,i<l.length→(l.getD i Ax).1≠a)(hl:l.length≠64):Ahd (pins l a):=by
 have hl':=h.1
 have hc:=Beg a l
 refine⟨by rw[Bne];omega,fun i hi=>?_⟩
 rw[Bne] at hi
 unfold Brt
 rw[Bss,Bss]
 by_cases h1:i<Qd l a
 ·rw[if_pos h1,if_pos (by omega)]
  exact h.2 i (by omega)
 rw[if_neg h1]
 by_cases h2:i=Qd l a
 ·rw[if_pos h2]
  refine⟨?_,fun h0=>?_⟩
  ·rw[show Bo9 a=(a,Aw 0,Aw 0,Aw 0,Aw 0,(0:Int),()) from rfl,Azc]
   simp[ha]
  ·rw[if_pos (by omega)]
   exact Bt6 (l:=l) (a:=a) (i-1) (by omega)
 ·rw[if_neg h2]
  refine⟨(h.2 (i-1) (by omega)).1,fun h0=>?_⟩
  rw[if_neg (by omega)]
  by_cases h3:i-1=Qd l a
  ·rw[if_pos h3]
   show a<_
   have q1:=Bu3 (l:=l) (a:=a) (by omega)
   rw[h3]
   have q2:=hne (Qd l a) (by omega)
   omega
  ·rw[if_neg h3]
   exact (h.2 (i-1) (by omega)).2 (by omega)
theorem Adi.pins{l:List At}(h:Adi l){a:Int}(ha:B4 a):Adi (pins l a):=fun q hq=>by
 unfold Go.Pon.pins at hq
 rcases List.mem_append.1 hq with hq|hq
 ·exact h q (List.mem_of_mem_take hq)
 ·rcases List.mem_cons.1 hq with hq|hq
  ·rw[hq];exact Cqa ha
  ·exact h q (List.mem_of_mem_drop hq)
def Bdb(p:At):Bool:=!(eqD (.arr 4 (.int .u64)) p.2.1 [(0:Int),0,0,0])
abbrev tyP:Ty:=(Ty.int IntKind.u64).pair ((Ty.arr 4 (Ty.int IntKind.u64)).pair ((Ty.arr 4 (Ty.int IntKind.u64)).pair ((Ty.arr 4 (Ty.int IntKind.u64)).pair ((Ty.arr 4 (Ty.int IntKind.u64)).pair ((Ty.int IntKind.u64).pair Ty.unit)))))
theorem Bms{n:Nat}(h:n≤1000000):A9 n tyP=true:=by
 rw[Ad9,decide_eq_true_eq]
 exact⟨by decide,by simp only[Ty.size];omega⟩
theorem Bvc:(((0:Int),[(0:Int),0,0,0],[(0:Int),0,0,0],[(0:Int),0,0,0],[(0:Int),0,0,0],(0:Int),()):At)=Ax:=rfl
theorem Ccd{l out:List At}{i:Nat}{again0:(List At×List At×Int×Unit)→Option ((List At×Unit)×Unit×Unit)}(hl:l.length≤100000)(ho:out.length≤100000)(hi:i<l.length) :
  ∃ o:List At,o.Perm (l.getD i Ax::out) ∧
   Ac _ _ (fun again x=>X7 again0 again x.1 x.2.1 x.2.2.1 x.2.2.2.1) (l,out,(i:Int),(out.length:Int),())=again0 (l,o,((i+1:Nat):Int),()):=by
 refine Cq (I:=fun x=>∃ k:Nat,k≤out.length∧x=(l,out,(i:Int),(k:Int),())) (m:=fun x=>x.2.2.2.1.toNat)
  (P:=fun r=>∃ o:List At,o.Perm (l.getD i Ax::out)∧r=again0 (l,o,((i+1:Nat):Int),())) ?_ ⟨out.length,Nat.le_refl _,rfl⟩ (by simp only[Av];omega)
 rintro x again ⟨k,hk,rfl⟩ hag
 simp only at hag ⊢
 unfold X7
 rw[Bvc]
 simp only[Am,B8]
 have hA:decide ((k:Int)=(k:Int))=true:=decide_eq_true rfl
 have hq:(decide ((0:Int)≤(k:Int))&&decide ((k:Int)≤(out.length:Int)))=true:=by
  rw[decide_eq_true (show (0:Int)≤(k:Int) by omega),decide_eq_true (show (k:Int)≤(out.length:Int) by omega)];rfl
 have hiR:B0 (i:Int) l.length=true:=by
  unfold B0
  rw[decide_eq_true (show (0:Int)≤(i:Int) by omega),decide_eq_true (show (i:Int)<(l.length:Int) by omega)];rfl
 have wi:IntKind.wrap .i64 ((i:Int)+1)=((i+1:Nat):Int):=by rw[Ar (by omega) (by omega)];omega
 have l13:(List.take (out.length-(k:Int).toNat) (List.drop (k:Int).toNat out))=out.drop k:=by
  rw[Int.toNat_natCast,List.take_of_length_le (by rw[List.length_drop];omega)]
 have l12:(List.take ((k:Int).toNat-0) (List.drop 0 out))=out.take k:=by rw[Int.toNat_natCast];rfl
 have hr1:A9 (1+(out.drop k).length) tyP=true:=Bms (by rw[List.length_drop];omega)
 have hr2:(decide (0<([l.getD i Ax]++out.drop k).length)&&A9 ((out.take k).length+([l.getD i Ax]++out.drop k).length) tyP)=true:=by
  have e:([l.getD i Ax]++out.drop k).length=1+(out.length-k):=by rw[List.length_append,List.length_drop];rfl
  rw[e,decide_eq_true (show 0<1+(out.length-k) by omega),Bms (by rw[List.length_take];omega)];rfl
 have hperm:(out.take k++([l.getD i Ax]++out.drop k)).Perm (l.getD i Ax::out):=by
  have:=List.perm_middle (a:=l.getD i Ax) (l₁:=out.take k) (l₂:=out.drop k)
  rw[List.take_append_drop] at this
  exact this
 have ins:∃ o:List At,o.Perm (l.getD i Ax::out)∧again0 (l,out.take k++([l.getD i Ax]++out.drop k),((i+1:Nat):Int),())=again0 (l,o,((i+1:Nat):Int),()):=⟨_,hperm,rfl⟩
 rw[l13,l12,wi]
 simp only[Int.toNat_natCast,hA,hq,hiR,hr1,hr2,Au]
 rw[Ad]
 by_cases c:(k:Int)>0
 ·have wk:IntKind.wrap .i64 ((k:Int)-1)=((k-1:Nat):Int):=by rw[Ar (by omega) (by omega)];omega
  have hkR:B0 ((k-1:Nat):Int) out.length=true:=by
   unfold B0
   rw[decide_eq_true (show (0:Int)≤((k-1:Nat):Int) by omega),decide_eq_true (show ((k-1:Nat):Int)<(out.length:Int) by omega)];rfl
  have hgo:=hag (l,out,(i:Int),((k-1:Nat):Int),()) ⟨k-1,by omega,rfl⟩ (by simp only;omega)
  rw[if_pos c,wk]
  simp only[hkR,Au]
  rw[Ad,Ad,Ad]
  split
  ·exact hgo
  ·split
   ·split
    ·exact hgo
    ·exact ins
   ·exact ins
 ·rw[if_neg c]
  exact ins
theorem Ce8{l:List At}(hl:l.length≤100000):∃ o:List At,o.Perm (l.filter Bdb)∧Rp (l,())=some ((o,()),(),()):=by
 unfold Rp Aes
 refine Cq (I:=fun x=>∃ (i:Nat) (out:List At),i≤l.length∧out.Perm ((l.take i).filter Bdb)∧x=(l,out,(i:Int),())) (m:=fun x=>((l.length:Int)-x.2.2.1).toNat)
  (P:=fun r=>∃ o:List At,o.Perm (l.filter Bdb)∧r=some ((o,()),(),())) ?_ ⟨0,[],by omega,List.Perm.refl _,rfl⟩ (by simp only[Av];omega)
 rintro x again ⟨i,out,hi,hp,rfl⟩ hag
 simp only at hag ⊢
 unfold Akp
 rw[Bvc]
 simp only[Am]
 have hol:out.length≤l.length:=by
  have h1:=hp.length_eq
  have h2:=List.length_filter_le Bdb (l.take i)
  rw[List.length_take] at h2
  omega
 rw[Ad]
 by_cases c:(i:Int)<(l.length:Int)
 ·have ht:(l.take (i+1)).filter Bdb=(l.take i).filter Bdb++(if Bdb (l.getD i Ax)=true then [l.getD i Ax] else []):=by
   rw[Ok (d:=Ax) (by omega),List.filter_append]
   congr 1
   by_cases h:Bdb (l.getD i Ax)=true
   ·rw[if_pos h,List.filter_cons,if_pos h];rfl
   ·rw[if_neg h,List.filter_cons,if_neg h];rfl
  rw[if_pos c,Ao,if_pos (by omega),Int.toNat_natCast,Ar (by omega) (by omega)]
  cases hd:eqD (.arr 4 (.int .u64)) (l.getD i Ax).2.1 [(0:Int),0,0,0] with
  | true =>
   have hb:Bdb (l.getD i Ax)=false:=by unfold Bdb;rw[hd];rfl
   rw[hb,if_neg (by decide),List.append_nil] at ht
   rw[Au]
   exact hag _ ⟨i+1,out,by omega,by rw[ht];exact hp,by rw[Int.natCast_add];rfl⟩ (by simp only;omega)
  | false =>
   have hb:Bdb (l.getD i Ax)=true:=by unfold Bdb;rw[hd];rfl
   rw[hb,if_pos rfl] at ht
   rw[Bp]
   obtain⟨o,o1,e⟩:=Ccd (again0:=again) (out:=out) hl (by omega) (show i<l.length by omega)
   rw[e]
   exact hag _ ⟨i+1,o,by omega,by rw[ht];exact o1.trans ((List.Perm.cons _ hp).trans (List.perm_append_singleton _ _).symm),rfl⟩ (by simp only;omega)
 ·rw[if_neg c]
  rw[List.take_of_length_le (by omega)] at hp
  exact⟨out,hp,rfl⟩
def Ayt(ps:List Bn):Prop:=∀ x∈ps,Akj x∧x.1≠0∧0<Dw x.2.1
theorem Mt.addr{p:At}(h:Mt p):B4 p.1:=by cases h;assumption
theorem Mt.since{p:At}(h:Mt p):B4 p.2.2.2.2.2.1:=by cases h;assumption
theorem Ckk{p:At}(h:Mt p):Bdb p=true↔Bmf p≠0:=by
 obtain⟨e,hb⟩:=Baa h
 unfold Bdb
 rw[e,← Brl,Aim]
 simp
theorem Ahd.good{l:List At}(h:Ahd l){p:At}(hp:p∈l):Atd p=true:=by
 obtain⟨i,hi,rfl⟩:=List.getElem_of_mem hp
 have:=(h.2 i hi).1
 rwa [List.getD_eq_getElem?_getD,List.getElem?_eq_getElem hi] at this
theorem Cfc{p:At}(h:Atd p=true):p.1≠0:=by
 unfold Atd at h
 simp only[Bool.and_eq_true,decide_eq_true_eq] at h
 exact h.1
theorem Cmj{l:List At}(ha:Adi l)(hv:Ahd l){pool:Nat}(hp:Al pool) :
  ∃ ps:List Bn,X4 (l,Aw pool,())=some ((ps,(0:Int),()),(),(),())∧Ayt ps∧Ao9 ps≤pool∧ps.length≤64:=by
 have hl:=hv.1
 obtain⟨o,ho,e⟩:=Ce8 (l:=l) (by omega)
 have hol:o.length≤64:=by
  have h1:=ho.length_eq
  have h2:=List.length_filter_le Bdb l
  omega
 have hom:∀ x∈o,Mt x∧x.1≠0∧Bmf x≠0:=fun x hx=>by
  have:=List.mem_filter.1 (ho.mem_iff.1 hx)
  exact⟨ha x this.1,Cfc (hv.good this.1),(Ckk (ha x this.1)).1 this.2⟩
 unfold X4 Am3
 dsimp only
 rw[L5 ha (by omega),Aa,Q7.2 hv]
 dsimp only
 rw[Aq,Au,e,Aa,Bz hp,Aa]
 dsimp only
 refine Cq (I:=fun y=>∃ (i:Nat) (out:List Bn) (left:Nat),i≤o.length∧out.length=i∧Ayt out∧Ao9 out+left=pool∧y=(out,o,dg left,(i:Int),())) (m:=fun y=>(((o.length:Nat):Int)-y.2.2.2.1).toNat)
  (P:=fun r=>∃ ps:List Bn,r=some ((ps,(0:Int),()),(),(),())∧Ayt ps∧Ao9 ps≤pool∧ps.length≤64) ?_ ⟨0,[],pool,by omega,rfl,(fun x hx=>by cases hx),by rw[Axr,Nat.zero_add],rfl⟩ (by simp only[Av];omega)
 rintro y again ⟨i,out,left,hi,hlen,hg,hsum,rfl⟩ hag
 simp only at hag ⊢
 unfold Aog
 rw[Bvc,Am,Ad]
 have fin:∃ ps:List Bn,some ((out,(0:Int),()),(),(),())=some ((ps,(0:Int),()),(),(),())∧Ayt ps∧Ao9 ps≤pool∧ps.length≤64:=⟨out,rfl,hg,by omega,by omega⟩
 by_cases c:(i:Int)<((o.length:Nat):Int)
 case neg=>rw[if_neg c];exact fin
 rw[if_pos c,Ad]
 by_cases c2:(((List.length (dg left)):Nat):Int)>0
 case neg=>rw[if_neg c2];exact fin
 have hleft:left≠0:=Bcj.1 c2
 unfold Al at hp
 have hm:o.getD i Ax∈o:=Bt (by omega)
 obtain⟨hw,hz,hd⟩:=hom _ hm
 obtain⟨ed,hdb⟩:=Baa hw
 have l1:=M4 (n:=left) (by unfold Al;omega)
 have l2:=M4 (n:=Bmf (o.getD i Ax)) hdb
 have haddr:B4 (o.getD i Ax).1:=hw.addr
 rw[if_pos c2,Ao,if_pos (by omega),Int.toNat_natCast,ed,Bz hdb,Aa]
 dsimp only
 generalize Bmf (o.getD i Ax)=d at *
 have hmin:min left d≤left∧min left d≤d∧0<min left d:=⟨Nat.min_le_left _ _,Nat.min_le_right _ _,by omega⟩
 rw[Bht (by omega) (by omega),Aa]
 dsimp only
 generalize min left d=n at *
 rw[Ao,if_pos (by omega),Th (by omega),Aa,Bwk (by omega),Au,Lt (A:=left) (B:=n) (D:=left-n) (by omega) (by omega),Aa,Ar (by omega) (by omega)]
 dsimp only
 refine hag _ ⟨i+1,out++[((o.getD i Ax).1,Aw n,())],left-n,by omega,by rw[List.length_append,hlen];rfl,fun x hx=>?_,?_,by rw[Int.natCast_add];rfl⟩ (by simp only;omega)
 ·rcases List.mem_append.1 hx with hx|hx
  ·exact hg x hx
  ·obtain rfl:=List.mem_singleton.1 hx
   exact⟨Akj.mk haddr (by unfold Al;omega),hz,by rw[Bk];exact hmin.2.2⟩
 ·rw[Bjp,Bsr,Axr,Bk]
  omega
theorem Bwm{x:Bn}(h:Akj x):x.2.1=Aw (Dw x.2.1)∧Al (Dw x.2.1):=by
 cases h with
 | mk ha hb=>dsimp only;rw[Bk];exact⟨rfl,hb⟩
theorem Btj{l:List Bn}{i:Nat}(h:i<l.length):Ao9 (l.take (i+1))=Ao9 (l.take i)+Dw (l.getD i Eb).2.1:=by
 rw[Ok (d:=Eb) h,Bjp,Bsr,Axr,Nat.add_zero]
theorem Btz{l:List Bn}(h:∀ x∈l,Akj x)(hl:l.length≤100000):Q1 (l,())=some ((if Ao9 l<115792089237316195423570985008687907853269984665640564039457584007913129639936 then (Aw (Ao9 l),(0:Int),()) else ([(0:Int),0,0,0],(4:Int),())),(),()):=by
 have hbound:∀ i,i≤l.length→Ao9 (l.take i)≤115792089237316195423570985008687907853269984665640564039457584007913129639936*i:=by
  intro i
  induction i with
  | zero=>intro _;rw[List.take_zero,Axr];exact Nat.zero_le _
  | succ i ih =>
   intro hi
   have:=ih (by omega)
   have hx:=(Bwm (h _ (Bt (d:=Eb) (show i<l.length by omega)))).2
   unfold Al at hx
   rw[Btj (by omega),Nat.mul_succ]
   exact Nat.add_le_add this (Nat.le_of_lt hx)
 unfold Q1 Aqi
 refine Ak (I:=fun y=>∃ i:Nat,i≤l.length∧y=(l,z4,dg (Ao9 (l.take i)),((i:Nat):Int),())) (m:=fun y=>(((l.length:Nat):Int)-y.2.2.2.1).toNat)
  (g:=fun _=>some ((if Ao9 l<115792089237316195423570985008687907853269984665640564039457584007913129639936 then (Aw (Ao9 l),(0:Int),()) else ([(0:Int),0,0,0],(4:Int),())),(),())) ?_ ⟨0,by omega,by rw[List.take_zero,Axr,Awd];rfl⟩ (by simp only[Av];omega)
 rintro y again ⟨i,hi,rfl⟩ hag
 simp only at hag ⊢
 unfold Arf
 rw[Am,Ad]
 by_cases c:((i:Nat):Int)<((l.length:Nat):Int)
 ·obtain⟨e1,hb⟩:=Bwm (h _ (Bt (d:=Eb) (show i<l.length by omega)))
  have hst:=Btj (l:=l) (i:=i) (by omega)
  have hs:=hbound i hi
  rw[if_pos c,Ao,if_pos (by omega),Int.toNat_natCast,e1,Bz hb,Aa]
  dsimp only
  have l1:=M4 hb
  have l2:(dg (Ao9 (l.take i))).length≤20:=Boq (by
   refine Nat.lt_of_le_of_lt hs ?_
   have:115792089237316195423570985008687907853269984665640564039457584007913129639936*i≤115792089237316195423570985008687907853269984665640564039457584007913129639936*100000:=Nat.mul_le_mul_left _ (by omega)
   refine Nat.lt_of_le_of_lt this ?_
   decide)
  rw[Cb (by omega) (by omega),Aa,← hst,Ar (by omega) (by omega)]
  exact hag _ ⟨i+1,by omega,by rw[Int.natCast_add];rfl⟩ (by simp only;omega)
 ·obtain rfl:i=l.length:=by omega
  rw[if_neg c,List.take_length,Yy,Aa]
def Aj3(l:List At)(R:Int):Prop:=∀ p∈l,p.2.2.2.2.2.1≤R
theorem Aj3.set{l:List At}{R:Int}(h:Aj3 l R){k:Nat}{p:At}(hp:p.2.2.2.2.2.1≤R):Aj3 (List.set l k p) R:=fun q hq=>by
 rcases List.mem_or_eq_of_mem_set hq with hq|hq
 ·exact h q hq
 ·rw[hq];exact hp
theorem Cap{a:Int}{d c r pd n:Nat}{s:Int}(h:Atd (a,Aw d,Aw c,Aw r,Aw pd,s,())=true)(hf:n≤d):Atd (a,Aw (d-n),Aw c,Aw r,Aw (pd+n),(if d-n=0 then (0:Int) else s),())=true:=by
 rw[Azc] at h ⊢
 simp only[Bool.and_eq_true,decide_eq_true_eq] at h ⊢
 obtain⟨h1,h2,h3⟩:=h
 refine⟨h1,by omega,?_⟩
 split
 ·simp;assumption
 ·rename_i hne
  constructor
  ·intro hs;have:=h3.1 hs;omega
  ·intro hx;omega
theorem Cf1{l:List At}(ha:Adi l)(hv:Ahd l){R:Int}(hR:Aj3 l R)(hR0:0≤R){a:Int}{n:Nat}(hn:Al n) :
  ∃ (o:List At) (c:Int),F9 (l,a,Aw n,())=some ((o,c,()),(),(),(),())∧I64 c∧(c=0→Adi o∧Ahd o∧Aj3 o R):=by
 have hl:=hv.1
 obtain⟨y,hy,_⟩:=Bkv (a:=a) ha (by omega) hn
 rw[Cb8 ha (by omega) hn hy]
 cases hy with
 | invalid h=>exact⟨_,_,rfl,⟨by omega,by omega⟩,fun h=>by omega⟩
 | absent h1 h=>exact⟨_,_,rfl,⟨by omega,by omega⟩,fun h=>by omega⟩
 | funds h1 k hk h d c r pd s hp hd hf=>exact⟨_,_,rfl,⟨by omega,by omega⟩,fun h=>by omega⟩
 | over h1 k hk h d c r pd s hp hd hpd hf ho=>exact⟨_,_,rfl,⟨by omega,by omega⟩,fun h=>by omega⟩
 | done h1 k hk h d c r pd s hp hd hc hr hpd hf ho =>
  have hm:l.getD k Ax∈l:=Bt hk
  have hg:=hv.good hm
  have hw:=ha _ hm
  have hs:=hR _ hm
  rw[hp] at hg hs
  have hw2:B4 (l.getD k Ax).1∧B4 s:=by
   refine⟨hw.addr,?_⟩
   have:=hw.since
   rw[hp] at this
   exact this
  refine⟨_,_,rfl,⟨by omega,by omega⟩,fun _=>⟨ha.set (Mt.mk hw2.1 (by unfold Al at *;omega) hc hr ho ?_),hv.set hk (Cap hg hf) rfl,hR.set ?_⟩⟩
  ·split
   ·exact⟨by omega,by omega⟩
   ·exact hw2.2
  ·dsimp only at hs ⊢
   split
   ·exact hR0
   ·exact hs
theorem Cke{l:List At}(ha:Adi l)(hv:Ahd l){R:Int}(hR:Aj3 l R)(hR0:0≤R){ps:List Bn}(hp:∀ x∈ps,Akj x)(hpl:ps.length≤100000) :
  ∃ (o:List At) (c:Int),Uw (l,ps,())=some ((o,c,()),(),(),())∧I64 c∧(c=0→Adi o∧Ahd o∧Aj3 o R):=by
 unfold Uw Ail
 dsimp only
 have hl:=hv.1
 rw[Bms (by omega),Au]
 refine Cq (I:=fun y=>∃ (i:Nat) (o:List At),i≤ps.length∧Adi o∧Ahd o∧Aj3 o R∧y=(ps,o,(i:Int),())) (m:=fun y=>(((ps.length:Nat):Int)-y.2.2.1).toNat)
  (P:=fun r=>∃ (o:List At) (c:Int),r=some ((o,c,()),(),(),())∧I64 c∧(c=0→Adi o∧Ahd o∧Aj3 o R)) ?_ ⟨0,l,by omega,ha,hv,hR,rfl⟩ (by simp only[Av];omega)
 rintro y again ⟨i,o,hi,q1,q2,q3,rfl⟩ hag
 simp only at hag ⊢
 unfold Alx
 rw[Am,Ad]
 by_cases c:(i:Int)<((ps.length:Nat):Int)
 ·obtain⟨e1,hb⟩:=Bwm (hp _ (Bt (d:=Eb) (show i<ps.length by omega)))
  obtain⟨o2,c2,e2,r1,r2⟩:=Cf1 q1 q2 q3 hR0 (a:=(ps.getD i Eb).1) hb
  rw[if_pos c,Ao,if_pos (by omega),Ao,if_pos (by omega),Int.toNat_natCast,e1,e2,Aa]
  dsimp only
  rw[Aq,Ad]
  by_cases hc2:c2=0
  ·obtain⟨s1,s2,s3⟩:=r2 hc2
   rw[if_pos hc2,Ar (by omega) (by omega)]
   exact hag _ ⟨i+1,o2,by omega,s1,s2,s3,by rw[Int.natCast_add];rfl⟩ (by simp only;omega)
  ·rw[if_neg hc2]
   exact⟨_,_,rfl,r1,fun h=>absurd h hc2⟩
 ·rw[if_neg c]
  exact⟨_,_,rfl,⟨by omega,by omega⟩,fun _=>⟨q1,q2,q3⟩⟩
abbrev T3:=List Int×(Int×Int×Int×Axu×List At×Unit)
abbrev Cpj:T3:=(z4,(0:Int),(0:Int),(0:Int),(false,z4,()),([]:List At),())
structure Apx(s:T3):Prop where
 up:∃ n,s.1=Aw n∧Al n
 un:B4 s.2.1
 lu:B4 s.2.2.1
 re:B4 s.2.2.2.1
 su:Awn s.2.2.2.2.1
 ps:Adi s.2.2.2.2.2.1
 len:s.2.2.2.2.2.1.length≤100000
def Bnm(s:Axu):Prop:=(s.1&&decide (Dw s.2.1=0))=false
instance(s:Axu):Decidable (Bnm s):=by unfold Bnm;infer_instance
structure PRV(s:T3):Prop where
 ps:Ahd s.2.2.2.2.2.1
 su:Bnm s.2.2.2.2.1
 si:Aj3 s.2.2.2.2.2.1 s.2.2.2.1
theorem Bzf{s:Axu}(h:Awn s):Ek (s,())=some ((decide (Bnm s),()),(),()):=by
 cases h with
 | mk hb =>
  rename_i g n
  have e:(!(g&&decide (n=0)))=decide (Bnm (g,Aw n,())):=by
   rw[Bool.eq_iff_iff,decide_eq_true_iff]
   unfold Bnm
   dsimp only
   rw[Bk]
   cases g<;>by_cases hn:n=0<;>simp[hn]
  rw[Am5,e]
open Classical in
theorem Bgb{s:T3}(h:Apx s):E6 (s,())=some ((decide (PRV s),()),(),()):=by
 have hl:=h.len
 unfold E6 Aii
 rw[L5 h.ps (by omega),Aa,Aq]
 by_cases hv:Ahd s.2.2.2.2.2.1
 case neg =>
  rw[Ah0 hv,decide_eq_false (fun h'=>hv h'.ps)]
  rfl
 rw[Q7.2 hv,Au,Bzf h.su,Aa,Aq,Ad]
 by_cases hs:Bnm s.2.2.2.2.1
 case neg=>rw[if_neg hs,decide_eq_false (fun h'=>hs h'.su)]
 rw[if_pos hs]
 refine Ak (I:=fun y=>∃ i:Nat,i≤s.2.2.2.2.2.1.length∧(∀ j,j<i→(s.2.2.2.2.2.1.getD j Ax).2.2.2.2.2.1≤s.2.2.2.1)∧y=(s,(i:Int),())) (m:=fun y=>((s.2.2.2.2.2.1.length:Int)-y.2.1).toNat)
  (g:=fun _=>some ((decide (PRV s),()),(),())) ?_ ⟨0,Nat.zero_le _,fun j hj=>by omega,rfl⟩ (by rw[Av];simp only;omega)
 rintro y again ⟨i,hi,hall,rfl⟩ hag
 simp only at hag ⊢
 unfold Alt
 rw[Bvc,Am,Ad]
 by_cases c:(i:Int)<(s.2.2.2.2.2.1.length:Int)
 ·rw[if_pos c,Ao,if_pos (by omega),Int.toNat_natCast,Ad]
  by_cases c2:(s.2.2.2.2.2.1.getD i Ax).2.2.2.2.2.1>s.2.2.2.1
  ·rw[if_pos c2,decide_eq_false (fun h'=>by
    have:=h'.si _ (Bt (l:=s.2.2.2.2.2.1) (d:=Ax) (show i<s.2.2.2.2.2.1.length by omega))
    omega)]
  ·rw[if_neg c2,Ar (by omega) (by omega)]
   refine hag _ ⟨i+1,by omega,fun j hj=>?_,by rw[Int.natCast_add];rfl⟩ (by simp only;omega)
   rcases Nat.lt_or_ge j i with q|q
   ·exact hall j q
   ·obtain rfl:j=i:=by omega
    omega
 ·rw[if_neg c,decide_eq_true]
  refine⟨hv,hs,fun p hp=>?_⟩
  obtain⟨j,hj,rfl⟩:=List.getElem_of_mem hp
  have:=hall j (by omega)
  rwa [List.getD_eq_getElem?_getD,List.getElem?_eq_getElem hj] at this
open Classical in
theorem Asv{s:T3}(h:Apx s)(hv:PRV s):E6 (s,())=some ((true,()),(),()):=by
 rw[Bgb h,decide_eq_true hv]
theorem Bxy{s:T3}(h:Apx s)(hv:PRV s){u:Int}(hu:B4 u) :
  ∃ (q:T3) (c:Int),Om (s,u,())=some ((q,c,()),(),(),())∧I64 c∧(c=0→Apx q∧PRV q∧q.2.2.1=s.2.2.1):=by
 have hl:=hv.ps.1
 unfold Om Aae
 rw[Am]
 dsimp only
 rw[Asv h hv,Aa]
 dsimp only
 rw[Aq,Au,Ad]
 by_cases c:IntKind.wrap .u64 (s.2.1+u)<u
 ·rw[if_pos c];exact⟨_,_,rfl,⟨by omega,by omega⟩,fun h=>by omega⟩
 ·rw[if_neg c,Go.Pon.roomyP (by omega),Au]
  exact⟨_,_,rfl,⟨by omega,by omega⟩,fun _=>⟨⟨h.up,Ku _,h.lu,h.re,h.su,h.ps,h.len⟩,⟨hv.ps,hv.su,hv.si⟩,rfl⟩⟩
theorem Aj3.pins{l:List At}{R:Int}(h:Aj3 l R)(h0:0≤R)(a:Int):Aj3 (pins l a) R:=fun q hq=>by
 unfold Go.Pon.pins at hq
 rcases List.mem_append.1 hq with hq|hq
 ·exact h q (List.mem_of_mem_take hq)
 ·rcases List.mem_cons.1 hq with hq|hq
  ·rw[hq];exact h0
  ·exact h q (List.mem_of_mem_drop hq)
theorem Bv4{s:T3}(h:Apx s)(hv:PRV s){a:Int}(ha:B4 a) :
  ∃ (q:T3) (c:Int),Mp (s,a,())=some ((q,c,()),(),(),())∧I64 c∧(c=0→Apx q∧PRV q∧q.2.2.1=s.2.2.1):=by
 have hl:=hv.ps.1
 have hre:=h.re
 unfold B4 at hre
 unfold Mp Xq
 dsimp only
 rw[Asv h hv,Aa]
 dsimp only
 rw[Aq,Au,Clc h.ps (by omega),Aa]
 have key:∀ c:Int,I64 c→c≠0→∃ (q:T3) (c':Int),some (((Cpj,c,()),(),(),()))=some ((q,c',()),(),(),())∧I64 c'∧(c'=0→Apx q∧PRV q∧q.2.2.1=s.2.2.1) :=
  fun c h1 h2=>⟨_,_,rfl,h1,fun h=>absurd h h2⟩
 unfold Cod
 rw[if_pos (Q7.2 hv.ps)]
 by_cases c1:a=0
 ·rw[if_pos c1];exact key 2 ⟨by omega,by omega⟩ (by omega)
 rw[if_neg c1]
 by_cases c2:Aaq s.2.2.2.2.2.1 a≥0
 ·rw[if_pos c2];exact key 9 ⟨by omega,by omega⟩ (by omega)
 rw[if_neg c2]
 by_cases c3:s.2.2.2.2.2.1.length=64
 ·rw[if_pos c3];exact key 7 ⟨by omega,by omega⟩ (by omega)
 rw[if_neg c3]
 dsimp only
 rw[decide_eq_true rfl,Aq,Au]
 have hne:∀ i,i<s.2.2.2.2.2.1.length→(s.2.2.2.2.2.1.getD i Ax).1≠a:=by
  rcases Avp s.2.2.2.2.2.1 a with⟨_,h2⟩ | ⟨j,hj,h1,h2⟩
  ·exact h2
  ·exact absurd (by rw[h1];omega) c2
 exact⟨_,_,rfl,⟨by omega,by omega⟩,fun _=>⟨⟨h.up,h.un,h.lu,h.re,h.su,h.ps.pins ha,by dsimp only;rw[Bne];omega⟩,⟨hv.ps.pins c1 hne c3,hv.su,hv.si.pins hre.1 a⟩,rfl⟩⟩
theorem Cgt{n:Nat}:∃ b:Int,Vr (Aw n,())=some ((b,()),(),()):=by
 unfold Vr Aiq
 refine Cq (I:=fun y=>∃ (i:Nat) (b:Int),i≤256∧y=(Aw n,b,(i:Int),())) (m:=fun y=>((256:Int)-y.2.2.1).toNat)
  (P:=fun r=>∃ b:Int,r=some ((b,()),(),())) ?_ ⟨0,0,by omega,rfl⟩ (by simp only[Av];omega)
 rintro y again ⟨i,b,hi,rfl⟩ hag
 simp only at hag ⊢
 unfold Aln
 rw[Am,Ad]
 by_cases c:(i:Int)<256
 ·have e1:Int.tdiv (i:Int) 64=((i / 64:Nat):Int):=by rw[Int.tdiv_eq_ediv_of_nonneg (by omega)];omega
  have e2:Int.tmod (i:Int) 64=((i % 64:Nat):Int):=by rw[Jg (by omega)];omega
  rw[if_pos c,e1,e2,Ar (n:=((i / 64:Nat):Int)) (by omega) (by omega),H4 (n:=((i % 64:Nat):Int)) (by omega) (by omega),Ao,if_pos (by omega),Ad,if_pos (by omega),Ad,Ar (n:=(i:Int)+1) (by omega) (by omega)]
  split
  ·exact hag _ ⟨i+1,_,by omega,by rw[Int.natCast_add];rfl⟩ (by simp only;omega)
  ·exact hag _ ⟨i+1,_,by omega,by rw[Int.natCast_add];rfl⟩ (by simp only;omega)
 ·rw[if_neg c];exact⟨b,rfl⟩
abbrev Cbq:=Int×(Int×List Int×Unit)
inductive Bdi:Cbq→Prop
 | mk {f u:Int} {c:Nat} (h1:B4 f) (h2:B4 u) (h3:Al c):Bdi (f,u,Aw c,())
theorem Cgk{s:T3}(h:Apx s)(hv:PRV s){p:N6}(hp:Vd p)(hpv:PV p){r:Cbq}(hr:Bdi r){now:Int} :
  ∃ c:Int,Vj (s,p,r,now,())=some ((c,()),(),(),(),(),())∧I64 c∧(c=0→s.2.2.1≤r.2.1∧r.2.1≤now):=by
 have hl:=hv.ps.1
 cases hr with
 | mk h1 h2 h3 =>
 rename_i f u co
 have key:∀ c:Int,I64 c→c≠0→∃ c':Int,some (((c,()),(),(),(),(),()))=some ((c',()),(),(),(),(),())∧I64 c'∧(c'=0→s.2.2.1≤u∧u≤now) :=
  fun c h1 h2=>⟨_,rfl,h1,fun h=>absurd h h2⟩
 unfold Vj Aiw
 dsimp only
 rw[Asv h hv,Aa]
 dsimp only
 rw[Aq,Au,Zf hp,Aa,decide_eq_true hpv]
 dsimp only
 rw[Aq,Au,Akl (by omega),Aa]
 dsimp only
 rw[Ad]
 by_cases c1:Aaq s.2.2.2.2.2.1 f<0
 ·rw[if_pos c1];exact key 8 ⟨by omega,by omega⟩ (by omega)
 rw[if_neg c1,Ad]
 by_cases c2:u<s.2.2.1
 ·rw[if_pos c2];exact key 14 ⟨by omega,by omega⟩ (by omega)
 rw[if_neg c2,Ad]
 by_cases c3:u>now
 ·rw[if_pos c3];exact key 14 ⟨by omega,by omega⟩ (by omega)
 obtain⟨b,eb⟩:=Cgt (n:=co)
 rw[if_neg c3,eb,Aa]
 dsimp only
 rw[Ad]
 by_cases c4:b>128
 ·rw[if_pos c4];exact key 2 ⟨by omega,by omega⟩ (by omega)
 ·rw[if_neg c4];exact⟨0,rfl,⟨by omega,by omega⟩,fun _=>⟨by omega,by omega⟩⟩
theorem Cer{a b:Nat}(ha:Al a)(hb:Al b):∃ (n:Nat) (c:Int),Vo (Aw a,Aw b,())=some ((Aw n,c,()),(),(),())∧Al n∧I64 c:=by
 have l1:=M4 ha
 have l2:=M4 hb
 unfold Vo Aje
 dsimp only
 rw[Bz ha,Aa,Bz hb,Aa]
 dsimp only
 rw[Pd (by omega) (by omega),Aa]
 dsimp only
 rw[Yy,Aa]
 by_cases c:a*b<115792089237316195423570985008687907853269984665640564039457584007913129639936
 ·rw[if_pos c];exact⟨_,0,rfl,c,⟨by omega,by omega⟩⟩
 ·rw[if_neg c];exact⟨0,4,rfl,by unfold Al;omega,⟨by omega,by omega⟩⟩
theorem Cav{a:Int}{d c r pd cost reward:Nat}{s since:Int}(hs:since≠0)(h:Atd (a,Aw d,Aw c,Aw r,Aw pd,s,())=true) :
  Atd (a,Aw (d+(cost+reward)),Aw (c+cost),Aw (r+reward),Aw pd,(if d=0∧cost+reward≠0 then since else s),())=true:=by
 rw[Azc] at h ⊢
 simp only[Bool.and_eq_true,decide_eq_true_eq] at h ⊢
 obtain⟨h1,h2,h3⟩:=h
 refine⟨h1,by omega,?_⟩
 split
 ·rename_i hc
  constructor
  ·intro hx;exact absurd hx hs
  ·intro hx;omega
 ·rename_i hc
  constructor
  ·intro hx;have:=h3.1 hx;omega
  ·intro hx;exact h3.2 (by omega)
theorem Cfk{l:List At}(ha:Adi l)(hv:Ahd l){R:Int}(hR:Aj3 l R)(hR0:0≤R)(hR1:R+1≤18446744073709551615){a:Int}{cost reward:Nat}(hc:Al cost)(hr:Al reward) :
  ∃ (o:List At) (c:Int),E8 (l,a,Aw cost,Aw reward,R+1,())=some ((o,c,()),(),(),(),(),(),())∧I64 c∧(c=0→Adi o∧Ahd o∧Aj3 o (R+1)):=by
 have hl:=hv.1
 obtain⟨y,hy,_⟩:=Bke (a:=a) (since:=R+1) ha (by omega) hc hr
 rw[Cb5 ha (by omega) hc hr hy]
 cases hy with
 | invalid h=>exact⟨_,_,rfl,⟨by omega,by omega⟩,fun h=>by omega⟩
 | absent h1 h2 h=>exact⟨_,_,rfl,⟨by omega,by omega⟩,fun h=>by omega⟩
 | over h1 h2 k hk h d c r pd s hp hd hc' hr' hov=>exact⟨_,_,rfl,⟨by omega,by omega⟩,fun h=>by omega⟩
 | done h1 h2 k hk h d c r pd s hp hd hc' hr' hpd h3 h4 h5 =>
  have hm:l.getD k Ax∈l:=Bt hk
  have hg:=hv.good hm
  have hw:=ha _ hm
  have hs:=hR _ hm
  have hsu:=hw.since
  rw[hp] at hg hs hsu
  dsimp only at hs hsu
  have hR':Aj3 l (R+1):=fun p hp=>by have:=hR p hp;omega
  refine⟨_,_,rfl,⟨by omega,by omega⟩,fun _=>⟨ha.set (Mt.mk hw.addr h3 h4 h5 hpd ?_),hv.set hk (Cav h2 hg) rfl,hR'.set ?_⟩⟩
  ·split
   ·exact⟨by omega,by omega⟩
   ·exact hsu
  ·dsimp only
   split
   ·omega
   ·omega
abbrev Cmx:=Int×(List Int×List Bn×Unit)
abbrev Ctr:Cmx:=((0:Int),z4,([]:List Bn),())
theorem Cfd{l:List At}(hv:Ahd l):∃ (n:Nat) (c:Int),Bud l=(Aw n,c,())∧Al n∧I64 c:=by
 unfold Bud
 rw[if_pos (Q7.2 hv)]
 by_cases h:Aw9 l<115792089237316195423570985008687907853269984665640564039457584007913129639936
 ·rw[if_pos h];exact⟨_,0,rfl,h,⟨by omega,by omega⟩⟩
 ·rw[if_neg h];exact⟨0,4,rfl,by unfold Al;omega,⟨by omega,by omega⟩⟩
def Crd(s:T3)(pool:Nat)(now:Int)(q:T3)(t:Cmx)(c:Int):Prop :=
 I64 c∧(c=0→Apx q∧PRV q∧q.2.2.1≤now∧B4 t.1∧(∃ n,t.2.1=Aw n∧Al n)∧Ayt t.2.2.1∧Ao9 t.2.2.1≤pool∧t.2.2.1.length≤64)
theorem Ccr{s:T3}(h:Apx s)(hv:PRV s){p:N6}(hp:Vd p)(hpv:PV p){pool:Nat}(hpool:Al pool){r:Cbq}(hr:Bdi r){now:Int}(hnow:B4 now) :
  ∃ (q:T3) (t:Cmx) (c:Int),Sr (s,p,Aw pool,r,now,())=some ((q,t,c,()),(),(),(),(),(),())∧Crd s pool now q t c:=by
 have hre:=h.re
 have hpl:=hv.ps.1
 have bad:∀ c:Int,I64 c→c≠0→∃ (q:T3) (t:Cmx) (c':Int),some ((Cpj,Ctr,c,()),(),(),(),(),(),())=some ((q,t,c',()),(),(),(),(),(),())∧Crd s pool now q t c' :=
  fun c h1 h2=>⟨_,_,_,rfl,h1,fun h=>absurd h h2⟩
 obtain⟨c1,e1,k1,k2⟩:=Cgk h hv hp hpv hr (now:=now)
 unfold Sr Ae8
 rw[Am]
 dsimp only
 rw[e1,Aa]
 dsimp only
 rw[Aq,Ad]
 by_cases hc1:c1=0
 case neg=>rw[if_neg hc1];exact bad c1 k1 hc1
 rw[if_pos hc1]
 obtain⟨hlu,hnw⟩:=k2 hc1
 clear e1 k1 k2
 cases hr with
 | mk r1 r2 r3 =>
 rename_i fr up co
 dsimp only at hlu hnw ⊢
 obtain⟨u,c2,e2,u1,_,_⟩:=Ca7 h.un h.lu r2 hnow
 have hrw:∃ n,p.2.2.2.2.2.2.2.1=Aw n∧Al n:=by cases hp;exact⟨_,rfl,by assumption⟩
 obtain⟨rw',erw,hrw'⟩:=hrw
 have hu:=u1
 unfold B4 at hu
 obtain⟨rew,c3,e3,b3,_⟩:=Cer (b:=u.toNat) hrw' (by unfold Al;omega)
 rw[e2,Aa,Am]
 dsimp only
 rw[erw,Aad hu.1 hu.2,e3,Aa]
 dsimp only
 rw[Aq,Ad]
 by_cases hc3:c3=0
 case neg=>rw[if_neg hc3];exact bad 4 ⟨by omega,by omega⟩ (by omega)
 rw[if_pos hc3,Ad]
 unfold B4 at hre
 by_cases hov:IntKind.wrap .u64 (s.2.2.2.1+1)=0
 case pos=>rw[if_pos hov];exact bad 4 ⟨by omega,by omega⟩ (by omega)
 have hlt:s.2.2.2.1+1≤18446744073709551615:=by
  rw[IntKind.wrap_u64] at hov
  omega
 rw[if_neg hov,H4 (by omega) hlt]
 obtain⟨l1,c4,e4,_,a4⟩:=Cfk h.ps hv.ps hv.si hre.1 hlt (a:=fr) r3 b3
 rw[e4,Aa]
 dsimp only
 rw[Aq,Ad]
 by_cases hc4:c4=0
 case neg=>rw[if_neg hc4];exact bad 4 ⟨by omega,by omega⟩ (by omega)
 rw[if_pos hc4]
 obtain⟨w1,v1,s1⟩:=a4 hc4
 obtain⟨ps,e5,g1,g2,g3⟩:=Cmj w1 v1 hpool
 rw[e5,Aa]
 dsimp only
 have hpw:∀ x∈ps,Akj x:=fun x hx=>(g1 x hx).1
 obtain⟨l2,c6,e6,_,a6⟩:=Cke w1 v1 s1 (by omega) hpw (by omega)
 rw[e6,Aa]
 dsimp only
 rw[Aq,Ad]
 by_cases hc6:c6=0
 case neg=>rw[if_neg hc6];exact bad 4 ⟨by omega,by omega⟩ (by omega)
 rw[if_pos hc6]
 obtain⟨w2,v2,s2⟩:=a6 hc6
 have hl2:=v2.1
 unfold Al at hpool
 rw[Btz hpw (by omega),Aa,if_pos (by omega)]
 dsimp only
 rw[Ad8 hpool (by omega),Aa,if_pos g2]
 dsimp only
 obtain⟨du,c7,e7,b7,_⟩:=Cfd v2
 rw[Cf4 w2 (by omega),Aa,e7]
 dsimp only
 rw[Aq,Ad]
 by_cases hc7:c7=0
 case neg=>rw[if_neg hc7];exact bad 4 ⟨by omega,by omega⟩ (by omega)
 rw[if_pos hc7]
 obtain⟨sg,e8,w8,v8⟩:=Cmc (a:=pool-Ao9 ps) (b:=du) (by unfold Al;omega) b7
 rw[e8,Aa]
 dsimp only
 rw[Ad]
 by_cases hu0:u>0
 ·obtain⟨up',eup,hup⟩:=h.up
  obtain⟨np,c9,e9,b9,_⟩:=Ci4 hup w8 h.su u1 hp
  rw[if_pos hu0,eup,e9,Aa]
  dsimp only
  rw[Aq,Ad]
  by_cases hc9:c9=0
  case neg=>rw[if_neg hc9];exact bad 4 ⟨by omega,by omega⟩ (by omega)
  rw[if_pos hc9]
  exact⟨_,_,0,rfl,⟨by omega,by omega⟩,fun _=>⟨⟨⟨np,rfl,b9⟩,Ku _,r2,⟨by dsimp only;omega,hlt⟩,w8,w2,by dsimp only;omega⟩,⟨v2,v8,s2⟩,hnw,u1,⟨rew,rfl,b3⟩,g1,g2,g3⟩⟩
 ·rw[if_neg hu0]
  exact⟨_,_,0,rfl,⟨by omega,by omega⟩,fun _=>⟨⟨h.up,Ku _,r2,⟨by dsimp only;omega,hlt⟩,h.su,w2,by dsimp only;omega⟩,⟨v2,hv.su,s2⟩,hnw,u1,⟨rew,rfl,b3⟩,g1,g2,g3⟩⟩
theorem Bpw{b:List Int}{at_ d:Nat}(h1:at_≤b.length)(h2:1≤d)(h3:d≤at_)(hl:b.length≤1000000) :
  ∃ n:Nat,n≤131∧at_+n≤b.length∧Lo (b,(at_:Int),(d:Int),())=some (((n:Int),()),(),(),(),()):=by
 unfold Lo Tm
 refine Cq (I:=fun x=>∃ n:Nat,n≤131∧at_+n≤b.length∧x=(b,(at_:Int),(d:Int),(n:Int),())) (m:=fun x=>((131:Int)-x.2.2.2.1).toNat)
  (P:=fun r=>∃ n:Nat,n≤131∧at_+n≤b.length∧r=some (((n:Int),()),(),(),(),())) ?_ ⟨0,by omega,by omega,rfl⟩ (by simp only[Av];omega)
 rintro x again ⟨n,hn,ha,rfl⟩ hag
 simp only at hag ⊢
 unfold Ace
 simp only[Am]
 have w1:IntKind.wrap .i64 ((at_:Int)+(n:Int))=((at_+n:Nat):Int):=by rw[Ar (by omega) (by omega)];omega
 have w2:IntKind.wrap .i64 (((at_+n:Nat):Int)-(d:Int))=((at_+n-d:Nat):Int):=by rw[Ar (by omega) (by omega)];omega
 have w3:IntKind.wrap .i64 ((n:Int)+1)=((n+1:Nat):Int):=by rw[Ar (by omega) (by omega)];omega
 rw[w1,w2,w3,Ad]
 by_cases c1:(n:Int)<131
 ·rw[if_pos c1,Ad]
  by_cases c2:((at_+n:Nat):Int)<(b.length:Int)
  ·rw[if_pos c2,Ao,if_pos (by omega),Ao,if_pos (by omega),Ad]
   by_cases c3:List.getD b ((at_+n:Nat):Int).toNat 0=List.getD b ((at_+n-d:Nat):Int).toNat 0
   ·rw[if_pos c3]
    exact hag _ ⟨n+1,by omega,by omega,rfl⟩ (by simp only;omega)
   ·rw[if_neg c3];exact⟨n,hn,ha,rfl⟩
  ·rw[if_neg c2];exact⟨n,hn,ha,rfl⟩
 ·rw[if_neg c1];exact⟨n,hn,ha,rfl⟩
theorem Cmm{b:List Int}{at_:Nat}(h1:at_≤b.length)(hl:b.length≤1000000) :
  ∃ n far:Nat,n≤131∧at_+n≤b.length∧far≤1024∧Aby (b,(at_:Int),())=some (((n:Int),(far:Int),()),(),(),()):=by
 unfold Aby Aqx
 refine Cq (I:=fun x=>∃ n far d:Nat,n≤131∧at_+n≤b.length∧far≤1024∧1≤d∧d≤1025∧x=(b,(at_:Int),(n:Int),(far:Int),(d:Int),())) (m:=fun x=>((1026:Int)-x.2.2.2.2.1).toNat)
  (P:=fun r=>∃ n far:Nat,n≤131∧at_+n≤b.length∧far≤1024∧r=some (((n:Int),(far:Int),()),(),(),())) ?_ ⟨0,0,1,by omega,by omega,by omega,by omega,by omega,rfl⟩ (by simp only[Av];omega)
 rintro x again ⟨n,far,d,hn,ha,hf,hd,hd2,rfl⟩ hag
 simp only at hag ⊢
 unfold Aqs
 have w3:IntKind.wrap .i64 ((d:Int)+1)=((d+1:Nat):Int):=by rw[Ar (by omega) (by omega)];omega
 rw[Ad]
 by_cases c1:(d:Int)≤1024
 ·rw[if_pos c1,Ad]
  by_cases c2:(d:Int)≤(at_:Int)
  ·obtain⟨k,k1,k2,e⟩:=Bpw (b:=b) (at_:=at_) (d:=d) h1 hd (by omega) hl
   rw[if_pos c2,e,Aa]
   dsimp only
   rw[w3,Ad]
   by_cases c3:(k:Int)>(n:Int)
   ·rw[if_pos c3]
    exact hag _ ⟨k,d,d+1,k1,k2,by omega,by omega,by omega,rfl⟩ (by simp only;omega)
   ·rw[if_neg c3]
    exact hag _ ⟨n,far,d+1,hn,ha,hf,by omega,by omega,rfl⟩ (by simp only;omega)
  ·rw[if_neg c2];exact⟨n,far,hn,ha,hf,rfl⟩
 ·rw[if_neg c1];exact⟨n,far,hn,ha,hf,rfl⟩
theorem Bjr{out b:List Int}(ho:out.length≤10000000)(hl:b.length≤1000000) :
  ∃ o:List Int,o.length≤out.length+2*b.length∧Qk (out,b,())=some ((o,()),(),(),()):=by
 unfold Qk Ac5
 refine Cq (I:=fun x=>∃ o c:List Int,o.length+2*c.length≤out.length+2*b.length∧c.length≤b.length∧x=(o,c,())) (m:=fun x=>x.2.1.length)
  (P:=fun r=>∃ o:List Int,o.length≤out.length+2*b.length∧r=some ((o,()),(),(),())) ?_ ⟨out,b,Nat.le_refl _,Nat.le_refl _,rfl⟩ (by rw[Av];exact Nat.lt_of_le_of_lt hl (by decide))
 rintro x again ⟨o,c,h1,h2,rfl⟩ hag
 simp only at hag ⊢
 unfold Ahb
 simp only[Am,B8]
 rw[Ad]
 by_cases c1:(c.length:Int)>0
 ·rw[if_pos c1,Ad]
  by_cases c2:(c.length:Int)>127
  ·have l1:(List.take (127-0) (List.drop 0 c)).length=127:=by rw[List.length_take,List.length_drop];omega
   have l2:(o++[(127:Int)]).length=o.length+1:=by rw[List.length_append];rfl
   have l3:(List.take (c.length-127) (List.drop 127 c)).length=c.length-127:=by rw[List.length_take,List.length_drop];omega
   rw[if_pos c2,Di (by omega),Ad,if_pos (by omega),l2,l1,Di (by omega),Ad,if_pos (by omega)]
   generalize hz:List.take (c.length-127) (List.drop 127 c)=z at *
   generalize hy:o++[(127:Int)]++List.take (127-0) (List.drop 0 c)=y
   have hyl:y.length=o.length+128:=by rw[← hy,List.length_append,l2,l1]
   exact hag (y,z,()) ⟨y,z,by omega,by omega,rfl⟩ (by show z.length<c.length;omega)
  ·have l1:(List.take ((c.length:Int).toNat-0) (List.drop 0 c)).length=c.length:=by rw[Int.toNat_natCast,List.length_take,List.length_drop];omega
   have l2:∀ z:Int,(o++[z]).length=o.length+1:=fun z=>by rw[List.length_append];rfl
   have l3:(List.take (c.length-(c.length:Int).toNat) (List.drop (c.length:Int).toNat c)).length=0:=by rw[Int.toNat_natCast,List.length_take];omega
   have q:(decide ((0:Int)≤(c.length:Int))&&decide ((c.length:Int)≤(c.length:Int)))=true:=by
    rw[decide_eq_true (Int.natCast_nonneg _),decide_eq_true (Int.le_refl _)];rfl
   rw[if_neg c2,Di (by omega),q,Au,l2,l1,Di (by omega),Au]
   generalize hz:List.take (c.length-(c.length:Int).toNat) (List.drop (c.length:Int).toNat c)=z at *
   generalize hy:o++[IntKind.wrap .u8 (c.length:Int)]++List.take ((c.length:Int).toNat-0) (List.drop 0 c)=y
   have hyl:y.length=o.length+1+c.length:=by rw[← hy,List.length_append,l2,l1]
   exact hag (y,z,()) ⟨y,z,by omega,by omega,rfl⟩ (by show z.length<c.length;omega)
 ·rw[if_neg c1]
  exact⟨o,by omega,rfl⟩
theorem Bzc{b:List Int}(hl:b.length≤1000000):∃ o:List Int,o.length≤2*b.length∧P3 (b,())=some ((o,()),(),()):=by
 unfold P3 Acx
 refine Cq (I:=fun x=>∃ (out:List Int) (f t:Nat),out.length≤2*f∧f≤t∧t≤b.length∧x=(b,out,(f:Int),(t:Int),())) (m:=fun x=>((b.length:Int)-x.2.2.2.1).toNat)
  (P:=fun r=>∃ o:List Int,o.length≤2*b.length∧r=some ((o,()),(),())) ?_ ⟨[],0,0,by simp,by omega,by omega,rfl⟩ (by simp only[Av];omega)
 rintro x again ⟨out,f,t,h1,h2,h3,rfl⟩ hag
 simp only at hag ⊢
 unfold Aha
 simp only[Am,B8]
 rw[Ad]
 by_cases c:(t:Int)<(b.length:Int)
 ·obtain⟨n,far,k1,k2,k3,e⟩:=Cmm (b:=b) (at_:=t) h3 hl
  rw[if_pos c,e,Aa]
  dsimp only
  rw[Ad]
  by_cases c2:(n:Int)<4
  ·rw[if_pos c2,Ar (n:=(t:Int)+1) (by omega) (by omega)]
   exact hag _ ⟨out,f,t+1,h1,by omega,by omega,by rw[Int.natCast_add];rfl⟩ (by simp only;omega)
  ·have w1:IntKind.wrap .i64 ((t:Int)+(n:Int))=((t+n:Nat):Int):=by rw[Ar (by omega) (by omega)];omega
   have q:((decide ((0:Int)≤(f:Int))&&decide ((f:Int)≤(t:Int)))&&decide ((t:Int)≤(b.length:Int)))=true:=by
    rw[decide_eq_true (show (0:Int)≤(f:Int) by omega),decide_eq_true (show (f:Int)≤(t:Int) by omega),decide_eq_true (show (t:Int)≤(b.length:Int) by omega)];rfl
   have hlen:(List.take ((t:Int).toNat-(f:Int).toNat) (List.drop (f:Int).toNat b)).length≤t-f:=by rw[Int.toNat_natCast,Int.toNat_natCast,List.length_take];omega
   obtain⟨o,o1,e2⟩:=Bjr (out:=out) (b:=List.take ((t:Int).toNat-(f:Int).toNat) (List.drop (f:Int).toNat b)) (by omega) (by omega)
   rw[if_neg c2,q,Au,e2,Aa]
   dsimp only
   rw[Di (by omega),w1]
   exact hag _ ⟨_,t+n,t+n,by rw[List.length_append];simp only[List.length_cons,List.length_nil];omega,by omega,by omega,rfl⟩ (by simp only;omega)
 ·have q:(decide ((0:Int)≤(f:Int))&&decide ((f:Int)≤(b.length:Int)))=true:=by
   rw[decide_eq_true (show (0:Int)≤(f:Int) by omega),decide_eq_true (show (f:Int)≤(b.length:Int) by omega)];rfl
  have hlen:(List.take (b.length-(f:Int).toNat) (List.drop (f:Int).toNat b)).length≤b.length-f:=by rw[Int.toNat_natCast,List.length_take];omega
  obtain⟨o,o1,e2⟩:=Bjr (out:=out) (b:=List.take (b.length-(f:Int).toNat) (List.drop (f:Int).toNat b)) (by omega) (by omega)
  rw[if_neg c,q,Au,e2,Aa]
  exact⟨o,by omega,rfl⟩
theorem Ciy{b:List Int}{lo hi:Int}(hl:b.length≤1000000)(h1:B4 lo)(h2:B4 hi) :
  ∃ v c:Int,B4 v∧(c=0→lo≤v∧v≤hi)∧(c=0∨c=2∨c=6)∧Vc (b,lo,hi,())=some ((v,c,()),(),(),(),()):=by
 unfold B4 at h1 h2
 unfold Vc Ai8
 simp only[Am]
 rw[Ad]
 by_cases c1:lo>hi
 ·rw[if_pos c1]
  exact⟨0,2,by unfold B4;omega,(fun h=>by cases h),by omega,rfl⟩
 rw[if_neg c1,Ad]
 by_cases c2:(b.length:Int)>4096
 ·rw[if_pos c2]
  exact⟨0,6,by unfold B4;omega,(fun h=>by cases h),by omega,rfl⟩
 obtain⟨o,o1,e⟩:=Bzc (b:=b) hl
 rw[if_neg c2,e,Aa]
 dsimp only
 have w1:IntKind.wrap .u64 (o.length:Int)=(o.length:Int):=H4 (by omega) (by omega)
 have w2:IntKind.wrap .u64 ((o.length:Int)*16)=(o.length:Int)*16:=H4 (by omega) (by omega)
 rw[w1,w2,Ad]
 by_cases c3:(o.length:Int)*16<lo
 ·rw[if_pos c3,Ad,if_neg c1]
  exact⟨lo,0,by unfold B4;omega,fun _=>by omega,by omega,rfl⟩
 ·rw[if_neg c3,Ad]
  by_cases c4:(o.length:Int)*16>hi
  ·rw[if_pos c4]
   exact⟨hi,0,by unfold B4;omega,fun _=>by omega,by omega,rfl⟩
  ·rw[if_neg c4]
   exact⟨_,0,by unfold B4;omega,fun _=>by omega,by omega,rfl⟩
section
variable {b:List Int} (hb:Dy b) (hl:b.length≤1000000000)
include hb hl
end
section
variable {b:List Int} (hb:Dy b) (hl:b.length≤1000000000)
include hb hl
end
abbrev TxT:=Int×(Int×Int×List Int×Int×List Int×List Int×Int×List Int×Unit)
def Cof:TxT:=((0:Int),(0:Int),(0:Int),[(0:Int),0,0,0],(0:Int),[(0:Int),0,0,0],[(0:Int),0,0,0],(0:Int),[],())
inductive TxW:TxT→Prop
 | mk {a n o g e:Int} {v f p:Nat} {d:List Int} (ha:B4 a) (hn:B4 n) (ho:B4 o) (hv:Al v) (hg:B4 g) (hf:Al f) (hp:Al p) (he:B4 e) (hd:Dy d) :
  TxW (a,n,o,Aw v,g,Aw f,Aw p,e,d,())
theorem Z6{n:Nat}(h:Al n):(dg n).length≤16:=Nr.2 h
theorem Cc5{a n o g e:Int}{v f p base:Nat}{d:List Int}(hf:Al f)(hp:Al p)(hb:Al base)(hle:base≤f) :
  Qx ((a,n,o,Aw v,g,Aw f,Aw p,e,d,()),Aw base,())=some ((dg (min p (f-base)),()),(),(),()):=by
 have l1:=Z6 hf
 have l2:=Z6 hp
 have l3:=Z6 (n:=f-base) (by unfold Al at *;omega)
 unfold Qx Aqd
 dsimp only
 rw[Bz hp,Aa,Bz hf,Aa,Bz hb,Aa]
 dsimp only
 rw[Lt (A:=f) (B:=base) (D:=f-base) (by omega) (by omega),Aa]
 dsimp only
 rw[Bht (by omega) (by omega),Aa]
theorem By5{a n o g e:Int}{v f p base:Nat}{d:List Int}(hf:Al f)(hp:Al p)(hb:Al base) :
  Nx ((a,n,o,Aw v,g,Aw f,Aw p,e,d,()),Aw base,()) =
   some ((if f<base then ([(0:Int),0,0,0],(12:Int),()) else (Aw (base+min p (f-base)),(0:Int),())),(),(),()):=by
 have l1:=Z6 hf
 have l2:=Z6 hb
 have l3:=Z6 (n:=min p (f-base)) (by unfold Al at *;omega)
 unfold Nx Aai
 dsimp only
 rw[Bz hf,Aa,Bz hb,Aa]
 dsimp only
 rw[Ak0 (by omega) (by omega),Aa]
 dsimp only
 unfold Abs
 rw[Ad]
 by_cases h:f<base
 ·rw[if_pos h,if_pos (by omega),if_pos h]
 ·have hq:¬ ((if f<base then (-1:Int) else if f>base then 1 else 0)<0):=by
   rw[if_neg h]
   split<;>omega
  rw[if_neg hq,if_neg h,Aa]
  dsimp only
  rw[Cc5 hf hp hb (by omega),Aa]
  dsimp only
  rw[Cb (by omega) (by omega),Aa]
  dsimp only
  have hs:base+min p (f-base)<115792089237316195423570985008687907853269984665640564039457584007913129639936:=by unfold Al at *;omega
  rw[Yy,Aa,if_pos hs]
theorem Cfo{a n o g e:Int}{v f p price bal:Nat}{d:List Int}(hg:B4 g)(hv:Al v)(hp:Al price)(hb:Al bal) :
  S6 ((a,n,o,Aw v,g,Aw f,Aw p,e,d,()),Aw price,Aw bal,())=some ((decide (g.toNat*price+v≤bal),()),(),(),(),()):=by
 unfold B4 at hg
 have l1:=Z6 hp
 have l2:=Z6 hv
 have l3:=Z6 hb
 have l4:=Ans (n:=g.toNat) (by omega)
 have l5:(dg (g.toNat*price)).length≤21:=by
  refine D0.2 (Nat.div_eq_of_lt ?_)
  have h1:g.toNat*price≤18446744073709551615*115792089237316195423570985008687907853269984665640564039457584007913129639936:=Nat.mul_le_mul (by omega) (Nat.le_of_lt hp)
  exact Nat.lt_of_le_of_lt h1 (by decide)
 have l6:(dg (g.toNat*price+v)).length≤21:=by
  refine D0.2 (Nat.div_eq_of_lt ?_)
  have h1:g.toNat*price≤18446744073709551615*115792089237316195423570985008687907853269984665640564039457584007913129639936:=Nat.mul_le_mul (by omega) (Nat.le_of_lt hp)
  have h2:g.toNat*price+v≤18446744073709551615*115792089237316195423570985008687907853269984665640564039457584007913129639936+115792089237316195423570985008687907853269984665640564039457584007913129639936:=Nat.add_le_add h1 (Nat.le_of_lt hv)
  exact Nat.lt_of_le_of_lt h2 (by decide)
 unfold S6 Afj
 dsimp only
 rw[B7 hg.1 hg.2,Aa,Bz hp,Aa]
 dsimp only
 rw[Pd (by omega) (by omega),Aa,Bz hv,Aa]
 dsimp only
 generalize g.toNat*price=m at *
 rw[Cb (by omega) (by omega),Aa,Bz hb,Aa]
 dsimp only
 rw[Ak0 (by omega) (by omega),Aa]
 dsimp only
 unfold Abs
 congr 4
 by_cases h:bal<m+v
 ·rw[if_pos h];exact propext ⟨fun h=>by omega,fun h=>by omega⟩
 ·rw[if_neg h]
  by_cases h2:bal>m+v
  ·rw[if_pos h2];exact propext ⟨fun h=>by omega,fun h=>by omega⟩
  ·rw[if_neg h2];exact propext ⟨fun h=>by omega,fun h=>by omega⟩
theorem Ck1{a n o g e:Int}{v f p base unit:Nat}{d:List Int}(hg:B4 g)(hf:Al f)(hb:Al base)(hun:Al unit)(hd:d.length≤1000000){q:N6}(hq:Vd q) :
  ∃ u po c:Int,Ab2 ((a,n,o,Aw v,g,Aw f,Aw p,e,d,()),Aw base,Aw unit,q,())=some ((u,po,c,()),(),(),(),(),())∧B4 u∧B4 po∧I64 c ∧
   (c=0→PV q∧base≤f∧po≤g):=by
 have bad:∀ c:Int,I64 c→c≠0→∃ u po c':Int,some ((((0:Int),(0:Int),c,()),(),(),(),(),()))=some ((u,po,c',()),(),(),(),(),())∧B4 u∧B4 po∧I64 c'∧(c'=0→PV q∧base≤f∧po≤g) :=
  fun c h1 h2=>⟨_,_,_,rfl,⟨by omega,by omega⟩,⟨by omega,by omega⟩,h1,fun h=>absurd h h2⟩
 unfold Ab2 Aqa
 dsimp only
 rw[Zf hq,Aa]
 dsimp only
 rw[Aq,Ad]
 by_cases hv:PV q
 case neg=>rw[if_neg hv];exact bad 15 ⟨by omega,by omega⟩ (by omega)
 rw[if_pos hv,Nh,Aa]
 dsimp only
 rw[Ad]
 by_cases hb0:base=0
 case pos=>rw[if_pos hb0];exact bad 5 ⟨by omega,by omega⟩ (by omega)
 have l1:=M4 hb
 have l2:=M4 hf
 have l3:=M4 hun
 rw[if_neg hb0,Bz hf,Aa,Bz hb,Aa]
 dsimp only
 rw[Ak0 (by omega) (by omega),Aa]
 dsimp only
 unfold Abs
 rw[Ad]
 by_cases hle:f<base
 case pos=>rw[if_pos (by rw[if_pos hle];omega)];exact bad 12 ⟨by omega,by omega⟩ (by omega)
 have hq2:¬ ((if f<base then (-1:Int) else if f>base then 1 else 0)<0):=by
  rw[if_neg hle];split<;>omega
 have hmm:B4 q.2.2.2.2.2.2.2.2.2.2.1∧B4 q.2.2.2.2.2.2.2.2.2.2.2.1:=by cases hq;exact⟨by assumption,by assumption⟩
 obtain⟨u,c1,u1,_,i0,e1⟩:=Ciy hd hmm.1 hmm.2
 have i1:I64 c1:=by unfold I64;omega
 unfold B4 at hg
 have hu:=u1
 unfold B4 at hu
 rw[if_neg hq2,e1,Aa]
 dsimp only
 rw[Aq,Ad]
 by_cases hc1:c1=0
 case neg=>rw[if_neg hc1];exact bad c1 i1 hc1
 have l4:=Mr (n:=u.toNat) (by omega)
 have l5:=O1 u.toNat unit
 have l6:=Av6 (u.toNat*unit) base
 have l7:=Mr (n:=g.toNat) (by omega)
 rw[if_pos hc1,B7 hu.1 hu.2,Aa,Bz hun,Aa]
 dsimp only
 rw[Pd (by omega) (by omega),Aa]
 dsimp only
 rw[O3,Aa]
 dsimp only
 rw[Aq,Ad]
 by_cases hfi:u.toNat*unit<115792089237316195423570985008687907853269984665640564039457584007913129639936
 case neg=>rw[if_neg hfi];exact bad 4 ⟨by omega,by omega⟩ (by omega)
 rw[if_pos hfi,Aa]
 dsimp only
 rw[Awo (by omega) (by omega) (by omega),Aa,B7 hg.1 hg.2,Aa]
 dsimp only
 rw[Ak0 (by omega) (by omega),Aa]
 dsimp only
 unfold Abs
 rw[Ad]
 generalize u.toNat*unit / base=z at *
 by_cases hz:z>g.toNat
 case pos=>rw[if_pos (by rw[if_neg (by omega),if_pos hz];omega)];exact bad 13 ⟨by omega,by omega⟩ (by omega)
 have hz2:¬ ((if z<g.toNat then (-1:Int) else if z>g.toNat then 1 else 0)>0):=by
  by_cases hz3:z<g.toNat
  ·rw[if_pos hz3];omega
  ·rw[if_neg hz3,if_neg hz];omega
 rw[if_neg hz2,Th (by omega),Aa]
 dsimp only
 rw[Bmb (by unfold Al;omega),Nat.mod_eq_of_lt (by omega)]
 exact⟨_,_,0,rfl,u1,⟨by omega,by omega⟩,⟨by omega,by omega⟩,fun _=>⟨hv,by omega,by omega⟩⟩
abbrev Chd:=Int×(Int×Int×Int×Bool×List Int×List Int×List Int×List Int×List Int×Unit)
abbrev Cov:Chd:=((0:Int),(0:Int),(0:Int),(0:Int),false,z4,z4,z4,z4,z4,())
inductive Cjf(g:Int)(f p base:Nat):Chd→Prop
 | mk {u po ex us:Int} {fl:Bool} {ti pf inf ne bu:Nat} (h1:B4 u) (h2:B4 po) (h3:B4 ex) (h4:B4 us) (b1:Al ti) (b2:Al pf) (b3:Al inf) (b4:Al ne) (b5:Al bu)
   (hus:us≤g) (hle:base≤f) (hsum:pf+(inf+ne+bu)=(base+min p (f-base))*us.toNat) :
   Cjf g f p base (u,po,ex,us,fl,Aw ti,Aw pf,Aw inf,Aw ne,Aw bu,())
theorem Cc4{a n o g e:Int}{v f p base unit:Nat}{d:List Int}(hg:B4 g)(he:B4 e)(hf:Al f)(hp:Al p)(hb:Al base)(hun:Al unit)(hd:d.length≤1000000){q:N6}(hq:Vd q) :
  ∃ (ch:Chd) (c:Int),P1 ((a,n,o,Aw v,g,Aw f,Aw p,e,d,()),Aw base,Aw unit,q,())=some ((ch,c,()),(),(),(),(),())∧I64 c∧(c=0→Cjf g f p base ch):=by
 have bad:∀ c:Int,I64 c→c≠0→∃ (ch:Chd) (c':Int),some (((Cov,c,()),(),(),(),(),()))=some ((ch,c',()),(),(),(),(),())∧I64 c'∧(c'=0→Cjf g f p base ch) :=
  fun c h1 h2=>⟨_,_,rfl,h1,fun h=>absurd h h2⟩
 obtain⟨u,po,c1,e1,hu0,hpo,hi1,k1⟩:=Ck1 (a:=a) (n:=n) (o:=o) (e:=e) (v:=v) (p:=p) hg hf hb hun hd hq
 unfold P1 Acy
 dsimp only
 rw[e1,Aa,Am,Am,Am]
 dsimp only
 rw[Aq,Ad]
 by_cases hc1:c1=0
 case neg=>rw[if_neg hc1];exact bad c1 hi1 hc1
 rw[if_pos hc1]
 obtain⟨hv,hle,hpg⟩:=k1 hc1
 have hbb:=hv.2.2.2.2.1
 have lb:=M4 hb
 cases hq with
 | mk w1 w2 w3 w4 w5 w6 w7 w8 w9 w10 w11 w12 =>
 rename_i sp to bi gl bb eu pi mi ma fe ic rw'
 dsimp only at hbb ⊢
 clear e1 k1 hv w1 w2 w3 w4 w5 w8 w9 w10 w11 w12
 have lic:=M4 w6
 have hpo':=hpo
 unfold B4 at hg he hpo' w7
 have e2:IntKind.wrap .u64 (g-po)=g-po:=H4 (by omega) (by omega)
 have e3:IntKind.wrap .u64 (po+(g-po))=g:=by rw[H4 (by omega) (by omega)];omega
 rw[e2,e3,Ad]
 by_cases hx:e>g-po
 ·rw[if_pos hx]

  have lE:=Mr (n:=(g-po).toNat) (by omega)
  have lU:=Mr (n:=g.toNat) (by omega)
  have lpo:=Mr (n:=po.toNat) (by omega)
  have lbb:=Mr (n:=bb.toNat) (by omega)
  have ltt:=Mr (n:=10000) (by omega)
  have lm1:=O1 base po.toNat
  have lm2:=O1 base (g-po).toNat
  have hmin:min ic base≤base:=Nat.min_le_right _ _
  have lmi:=Aoa hmin
  have lm3:=O1 (min ic base) (g-po).toNat
  have hia:min ic base*(g-po).toNat≤base*(g-po).toNat:=Nat.mul_le_mul_right _ hmin
  rw[Bz hb,Aa,Cc5 hf hp hb hle,Aa,B7 hpo.1 hpo.2,Aa]
  dsimp only
  rw[Pd (by omega) (by omega),Aa,B7 (by omega) (by omega),Aa]
  dsimp only
  rw[Pd (by omega) (by omega),Aa,Bz w6,Aa]
  dsimp only
  rw[Bht (by omega) (by omega),Aa,Aa]
  dsimp only
  rw[Pd (by omega) (by omega),Aa]
  dsimp only
  have lnet:=Aoa (Nat.sub_le (base*(g-po).toNat) (min ic base*(g-po).toNat))
  rw[Lt (A:=base*(g-po).toNat) (B:=min ic base*(g-po).toNat) (D:=base*(g-po).toNat-min ic base*(g-po).toNat) (by omega) (by omega),Aa,B7 (by omega) (by omega),Aa]
  dsimp only
  have lm4:=O1 (base*(g-po).toNat-min ic base*(g-po).toNat) bb.toNat
  rw[Pd (by omega) (by omega),Aa,B7 (by omega) (by omega),Aa,show Int.toNat 10000=10000 from rfl]
  dsimp only
  have lbu:=Av6 ((base*(g-po).toNat-min ic base*(g-po).toNat)*bb.toNat) 10000
  have hbu:(base*(g-po).toNat-min ic base*(g-po).toNat)*bb.toNat / 10000≤base*(g-po).toNat-min ic base*(g-po).toNat:=Nat.div_le_of_le_mul (by rw[Nat.mul_comm 10000];exact Nat.mul_le_mul_left _ (by omega))
  rw[Awo (by omega) (by omega) (by omega),Aa]
  dsimp only
  have lre:=Aoa (Nat.sub_le (base*(g-po).toNat-min ic base*(g-po).toNat) ((base*(g-po).toNat-min ic base*(g-po).toNat)*bb.toNat / 10000))
  rw[Lt (A:=base*(g-po).toNat-min ic base*(g-po).toNat) (B:=(base*(g-po).toNat-min ic base*(g-po).toNat)*bb.toNat / 10000) (D:=base*(g-po).toNat-min ic base*(g-po).toNat-(base*(g-po).toNat-min ic base*(g-po).toNat)*bb.toNat / 10000) (by omega) (by omega),Aa,B7 (by omega) (by omega),Aa]
  dsimp only
  have ltip:=M4 (n:=min p (f-base)) (by unfold Al at *;omega)
  have lm5:=O1 (min p (f-base)) g.toNat
  have hsum:∀ q:Nat,q≤base*(g-po).toNat-min ic base*(g-po).toNat→base*po.toNat+(min ic base*(g-po).toNat+((base*(g-po).toNat-min ic base*(g-po).toNat-q)+min p (f-base)*g.toNat)+q)=(base+min p (f-base))*g.toNat:=by
   intro q hq
   have e1:(base+min p (f-base))*g.toNat=base*po.toNat+base*(g-po).toNat+min p (f-base)*g.toNat:=by
    rw[Nat.add_mul,← Nat.mul_add]
    congr 2
    omega
   rw[e1]
   omega
  have hsum:=hsum _ hbu
  rw[Pd (by omega) (by omega),Aa]
  dsimp only
  have lad:=Aqc (base*(g-po).toNat-min ic base*(g-po).toNat-(base*(g-po).toNat-min ic base*(g-po).toNat)*bb.toNat / 10000) (min p (f-base)*g.toNat)
  rw[Cb (by omega) (by omega),Aa]
  dsimp only
  generalize hQ:(base*(g-po).toNat-min ic base*(g-po).toNat)*bb.toNat / 10000=q at *
  generalize hP:base*po.toNat=pf at *
  generalize hA:base*(g-po).toNat=al at *
  generalize hI:min ic base*(g-po).toNat=inf at *
  generalize hT:min p (f-base)*g.toNat=tf at *
  rw[O3,Aa]
  dsimp only
  rw[Aq,Ad]
  by_cases d1:pf<115792089237316195423570985008687907853269984665640564039457584007913129639936
  case neg=>rw[if_neg d1];exact bad 4 ⟨by omega,by omega⟩ (by omega)
  rw[if_pos d1,O3,Aa]
  dsimp only
  rw[Aq,Ad]
  by_cases d2:al<115792089237316195423570985008687907853269984665640564039457584007913129639936
  case neg=>rw[if_neg d2];exact bad 4 ⟨by omega,by omega⟩ (by omega)
  rw[if_pos d2,O3,Aa]
  dsimp only
  rw[Aq,Ad]
  by_cases d3:al-inf-q+tf<115792089237316195423570985008687907853269984665640564039457584007913129639936
  case neg=>rw[if_neg d3];exact bad 4 ⟨by omega,by omega⟩ (by omega)
  have hp':=hp
  have hf':=hf
  unfold Al at hp' hf'
  rw[if_pos d3,Th (by omega),Aa,Th d1,Aa,Th (by omega),Aa,Th (by omega),Aa,Th d3,Aa]
  exact⟨_,0,rfl,⟨by omega,by omega⟩,fun _=>Cjf.mk hu0 hpo (by unfold B4;omega) (by unfold B4;omega) (by unfold Al;omega) (by unfold Al;omega) (by unfold Al;omega) (by unfold Al;omega) (by unfold Al;omega) (by omega) hle hsum⟩
 ·have e4:IntKind.wrap .u64 (po+e)=po+e:=H4 (by omega) (by omega)
  rw[if_neg hx]

  have lE:=Mr (n:=e.toNat) (by omega)
  have lU:=Mr (n:=(po+e).toNat) (by omega)
  have lpo:=Mr (n:=po.toNat) (by omega)
  have lbb:=Mr (n:=bb.toNat) (by omega)
  have ltt:=Mr (n:=10000) (by omega)
  have lm1:=O1 base po.toNat
  have lm2:=O1 base e.toNat
  have hmin:min ic base≤base:=Nat.min_le_right _ _
  have lmi:=Aoa hmin
  have lm3:=O1 (min ic base) e.toNat
  have hia:min ic base*e.toNat≤base*e.toNat:=Nat.mul_le_mul_right _ hmin
  rw[e4,Bz hb,Aa,Cc5 hf hp hb hle,Aa,B7 hpo.1 hpo.2,Aa]
  dsimp only
  rw[Pd (by omega) (by omega),Aa,B7 (by omega) (by omega),Aa]
  dsimp only
  rw[Pd (by omega) (by omega),Aa,Bz w6,Aa]
  dsimp only
  rw[Bht (by omega) (by omega),Aa,Aa]
  dsimp only
  rw[Pd (by omega) (by omega),Aa]
  dsimp only
  have lnet:=Aoa (Nat.sub_le (base*e.toNat) (min ic base*e.toNat))
  rw[Lt (A:=base*e.toNat) (B:=min ic base*e.toNat) (D:=base*e.toNat-min ic base*e.toNat) (by omega) (by omega),Aa,B7 (by omega) (by omega),Aa]
  dsimp only
  have lm4:=O1 (base*e.toNat-min ic base*e.toNat) bb.toNat
  rw[Pd (by omega) (by omega),Aa,B7 (by omega) (by omega),Aa,show Int.toNat 10000=10000 from rfl]
  dsimp only
  have lbu:=Av6 ((base*e.toNat-min ic base*e.toNat)*bb.toNat) 10000
  have hbu:(base*e.toNat-min ic base*e.toNat)*bb.toNat / 10000≤base*e.toNat-min ic base*e.toNat:=Nat.div_le_of_le_mul (by rw[Nat.mul_comm 10000];exact Nat.mul_le_mul_left _ (by omega))
  rw[Awo (by omega) (by omega) (by omega),Aa]
  dsimp only
  have lre:=Aoa (Nat.sub_le (base*e.toNat-min ic base*e.toNat) ((base*e.toNat-min ic base*e.toNat)*bb.toNat / 10000))
  rw[Lt (A:=base*e.toNat-min ic base*e.toNat) (B:=(base*e.toNat-min ic base*e.toNat)*bb.toNat / 10000) (D:=base*e.toNat-min ic base*e.toNat-(base*e.toNat-min ic base*e.toNat)*bb.toNat / 10000) (by omega) (by omega),Aa,B7 (by omega) (by omega),Aa]
  dsimp only
  have ltip:=M4 (n:=min p (f-base)) (by unfold Al at *;omega)
  have lm5:=O1 (min p (f-base)) (po+e).toNat
  have hsum:∀ q:Nat,q≤base*e.toNat-min ic base*e.toNat→base*po.toNat+(min ic base*e.toNat+((base*e.toNat-min ic base*e.toNat-q)+min p (f-base)*(po+e).toNat)+q)=(base+min p (f-base))*(po+e).toNat:=by
   intro q hq
   have e1:(base+min p (f-base))*(po+e).toNat=base*po.toNat+base*e.toNat+min p (f-base)*(po+e).toNat:=by
    rw[Nat.add_mul,← Nat.mul_add]
    congr 2
    omega
   rw[e1]
   omega
  have hsum:=hsum _ hbu
  rw[Pd (by omega) (by omega),Aa]
  dsimp only
  have lad:=Aqc (base*e.toNat-min ic base*e.toNat-(base*e.toNat-min ic base*e.toNat)*bb.toNat / 10000) (min p (f-base)*(po+e).toNat)
  rw[Cb (by omega) (by omega),Aa]
  dsimp only
  generalize hQ:(base*e.toNat-min ic base*e.toNat)*bb.toNat / 10000=q at *
  generalize hP:base*po.toNat=pf at *
  generalize hA:base*e.toNat=al at *
  generalize hI:min ic base*e.toNat=inf at *
  generalize hT:min p (f-base)*(po+e).toNat=tf at *
  rw[O3,Aa]
  dsimp only
  rw[Aq,Ad]
  by_cases d1:pf<115792089237316195423570985008687907853269984665640564039457584007913129639936
  case neg=>rw[if_neg d1];exact bad 4 ⟨by omega,by omega⟩ (by omega)
  rw[if_pos d1,O3,Aa]
  dsimp only
  rw[Aq,Ad]
  by_cases d2:al<115792089237316195423570985008687907853269984665640564039457584007913129639936
  case neg=>rw[if_neg d2];exact bad 4 ⟨by omega,by omega⟩ (by omega)
  rw[if_pos d2,O3,Aa]
  dsimp only
  rw[Aq,Ad]
  by_cases d3:al-inf-q+tf<115792089237316195423570985008687907853269984665640564039457584007913129639936
  case neg=>rw[if_neg d3];exact bad 4 ⟨by omega,by omega⟩ (by omega)
  have hp':=hp
  have hf':=hf
  unfold Al at hp' hf'
  rw[if_pos d3,Th (by omega),Aa,Th d1,Aa,Th (by omega),Aa,Th (by omega),Aa,Th d3,Aa]
  exact⟨_,0,rfl,⟨by omega,by omega⟩,fun _=>Cjf.mk hu0 hpo (by unfold B4;omega) (by unfold B4;omega) (by unfold Al;omega) (by unfold Al;omega) (by unfold Al;omega) (by unfold Al;omega) (by unfold Al;omega) (by omega) hle hsum⟩
abbrev Ctv:=Int×(Int×List Int×Unit)
abbrev Bh0:=Int×(Int×Int×List Int×List (List Int)×Unit)
abbrev Aea:=Int×(TxT×Ctv×Int×Int×List Int×Int×Bh0×Unit)
inductive Awm:Bh0→Prop
 | mk {a b c:Int} {v:Nat} {l:List (List Int)} (ha:B4 a) (hb:B4 b) (hc:B4 c) (hv:Al v) (hl:Te l):Awm (a,b,c,Aw v,l,())
inductive Rd:Aea→Prop
 | mk {k:Int} {t:TxT} {a b:Int} {c:Nat} {s y:Int} {v:Nat} {d:Int} {q:Bh0} (hk : -9223372036854775808≤k∧k≤9223372036854775807) (ht:TxW t) (ha:B4 a) (hb:B4 b) (hc:Al c)
   (hs:B4 s) (hy : -9223372036854775808≤y∧y≤9223372036854775807) (hv:Al v) (hd:B4 d) (hq:Awm q) :
  Rd (k,t,(a,b,Aw c,()),s,y,Aw v,d,q,())
structure LR(m:List A5)(vs:List Nat):Prop where
 inv:Wp m
 lin:Ajz (Cf m) vs
theorem LR.of{m m':List A5}{vs:List Nat}{r:Int×(List A5×List Nat)}{i o:Nat}(hs:Avg (Cf m) vs r i o)(hr:Bix m r m'):LR m' r.2.2∧m'.length≤m.length+2:=by
 obtain⟨h1,h2,h3⟩:=hr
 exact⟨⟨h1,by rw[h2];exact hs.inv⟩,h3⟩
theorem Bvz{m:List A5}{vs:List Nat}(h:LR m vs)(hl:m.length≤90000){a v:Int}{n:Nat}(ha:B4 a)(hn:Al n)(hv:I64 v) :
  ∃ (c:Int) (m':List A5) (vs':List Nat),Fo ((m,vs.map Aw,()),a,v,Aw n,())=some ((c,()),(m',vs'.map Aw,()),(),(),(),())∧LR m' vs'∧m'.length≤m.length+2:=by
 obtain⟨m',e,hr⟩:=Clk h.inv h.lin hl ha hn hv
 obtain⟨h1,h2⟩:=LR.of (Ckz h.lin ha hn) hr
 exact⟨_,m',_,e,h1,h2⟩
theorem Cka{m:List A5}{vs:List Nat}(h:LR m vs)(hl:m.length≤90000){a b:Int}{n:Nat}(ha:B4 a)(hb:B4 b)(hn:Al n) :
  ∃ (c:Int) (m':List A5) (vs':List Nat),Fm ((m,vs.map Aw,()),a,b,Aw n,())=some ((c,()),(m',vs'.map Aw,()),(),(),(),())∧LR m' vs'∧m'.length≤m.length+2:=by
 obtain⟨m',e,hr⟩:=Bw7 h.inv h.lin hl ha hb hn
 obtain⟨h1,h2⟩:=LR.of (Cfi h.lin ha hb hn) hr
 exact⟨_,m',_,e,h1,h2⟩
theorem Cp2{m:List A5}{vs:List Nat}(h:LR m vs)(hl:m.length≤90000){a:Int}{n:Nat}(ha:B4 a)(hn:Al n) :
  ∃ (c:Int) (m':List A5) (vs':List Nat),Fq ((m,vs.map Aw,()),a,Aw n,())=some ((c,()),(m',vs'.map Aw,()),(),(),())∧LR m' vs'∧m'.length≤m.length+2:=by
 obtain⟨m',e,hr⟩:=Buq h.inv h.lin hl ha hn
 obtain⟨h1,h2⟩:=LR.of (Cn1 h.lin ha hn) hr
 exact⟨_,m',_,e,h1,h2⟩
theorem Cpy{m:List A5}{vs:List Nat}(h:LR m vs){v:Int}{n:Nat}(hn:Al n)(hv:I64 v) :
  ∃ (c:Int) (m':List A5) (vs':List Nat),D8 ((m,vs.map Aw,()),v,Aw n,())=some ((c,()),(m',vs'.map Aw,()),(),(),())∧LR m' vs'∧m'.length≤m.length+2:=by
 obtain⟨m',e,hr⟩:=Cn7 h.inv h.lin hn hv
 obtain⟨h1,h2⟩:=LR.of (Cog h.lin hn) hr
 exact⟨_,m',_,e,h1,h2⟩
theorem Coo{m:List A5}{vs:List Nat}(h:LR m vs)(hl:m.length≤90000){a:Int}(ha:B4 a) :
  ∃ (c:Int) (m':List A5) (vs':List Nat),Dp ((m,vs.map Aw,()),a,())=some ((c,()),(m',vs'.map Aw,()),(),())∧LR m' vs'∧m'.length≤m.length+2:=by
 obtain⟨m',e,hr⟩:=Cl5 h.inv h.lin hl ha
 obtain⟨h1,h2⟩:=LR.of (Cmt h.lin ha) hr
 exact⟨_,m',_,e,h1,h2⟩
theorem Cbn(l:List A5)(vs:List Nat)(a:Int)(n:Nat):I64 (Bjy l vs a n).1:=by
 unfold Bjy
 by_cases h1:a=0
 ·rw[if_pos h1];exact⟨by omega,by omega⟩
 ·rw[if_neg h1]
  by_cases h2:En l+vs.sum+n<115792089237316195423570985008687907853269984665640564039457584007913129639936
  ·rw[if_pos h2];exact⟨by omega,by omega⟩
  ·rw[if_neg h2];exact⟨by omega,by omega⟩
theorem Clu{m:List A5}{vs:List Nat}(h:LR m vs)(hl:m.length≤90000){a:Int}{n:Nat}(ha:B4 a)(hn:Al n) :
  ∃ (c:Int) (m':List A5) (vs':List Nat),Hx ((m,vs.map Aw,()),a,Aw n,())=some ((c,()),(m',vs'.map Aw,()),(),(),())∧I64 c∧LR m' vs'∧m'.length≤m.length+2:=by
 obtain⟨m',e,hr⟩:=Cjg h.inv h.lin hl ha hn
 obtain⟨h1,h2⟩:=LR.of (Cjp h.lin ha hn) hr
 exact⟨_,m',_,e,Cbn _ _ _ _,h1,h2⟩
abbrev Cqr:=List A5×(List (List Int)×Unit)
abbrev Lz:=Int×(N6×Aob×Int×T3×Cqr×List Ff×Cn5×Unit)
structure EM(N:Nat)(ms:List Ff)(h:Nat)(r:List (List Int))(cs:List Int)(q:List Bn):Prop where
 allm:O6 ms
 len:r.length=ms.length
 ha:Te r
 rel:∃ cl pl,Azj r cl h pl cs q
 l1:ms.length≤100*N
 l2:cs.length≤N
 l3:q.length≤N
inductive MW(N:Nat):Lz→Prop
 | mk {st bg:Int} {p:N6} {b:Aob} {s:T3} {m:List A5} {vs:List Nat} {ms:List Ff} {h:Nat} {r:List (List Int)} {cs:List Int} {q:List Bn}
   (h1:B4 st) (h2:Vd p) (h3:PV p) (h4:Bq8 b) (h5:B4 bg) (h6:Apx s) (h7:PRV s) (h8:LR m vs) (h9:m.length≤200*N) (h10:EM N ms h r cs q) :
   MW N (st,p,b,bg,s,(m,vs.map Aw,()),ms,ref h r cs q,())
theorem EM.mono{N N':Nat}(hN:N≤N'){ms:List Ff}{h:Nat}{r:List (List Int)}{cs:List Int}{q:List Bn}(e:EM N ms h r cs q):EM N' ms h r cs q :=
 ⟨e.allm,e.len,e.ha,e.rel,by have:=e.l1;omega,by have:=e.l2;omega,by have:=e.l3;omega⟩
theorem MW.mono{N N':Nat}(hN:N≤N'){M:Lz}(h:MW N M):MW N' M:=by
 cases h with
 | mk h1 h2 h3 h4 h5 h6 h7 h8 h9 h10=>exact .mk h1 h2 h3 h4 h5 h6 h7 h8 (by omega) (h10.mono hN)
theorem Azj.snoc{r:List (List Int)}{cl:List Bool}{h:Nat}{p:List Bn}{cs:List Int}{m:List Bn}(e:Azj r cl h p cs m)(x:List Int):Azj (r++[x]) (cl++[false]) h p cs m:=by
 obtain⟨⟨a1,a2,a3,a4,a5⟩,b,c,d,f,g⟩:=e
 refine⟨⟨by simp[a1],a2,a3,a4,a5⟩,fun s hs=>?_,c,d,f,g⟩
 rw[b s hs]
 by_cases h1:s.toNat<cl.length
 ·rw[List.getD_eq_getElem?_getD,List.getD_eq_getElem?_getD,List.getElem?_append_left h1]
 ·rw[List.getD_eq_getElem?_getD,List.getD_eq_getElem?_getD,List.getElem?_append_right (by omega),List.getElem?_eq_none (by omega)]
  by_cases h2:s.toNat-cl.length=0
  ·rw[h2];rfl
  ·rw[List.getElem?_eq_none (by simp;omega)]
theorem Bx7{st bg:Int}{p:N6}{b:Aob}{s:T3}{L:Cqr}{ms:List Ff}{h:Nat}{r:List (List Int)}{cs:List Int}{q:List Bn}{to:Int}{n:Nat}
  (hm:O6 ms) (hlen:r.length=ms.length) (hl:ms.length≤90000) (hto:B4 to) (hn:Al n) :
  ∃ (y:Ff) (x:List Int),Fr ((st,p,b,bg,s,L,ms,ref h r cs q,()),to,Aw n,()) =
   some ((y,()),(st,p,b,bg,s,L,ms++[y],ref h (r++[x]) cs q,()),(),(),())∧Bcl y∧H32 x:=by
 have hy:Bcl ((ms.length:Int),to,Aw n,()):=by
  unfold B4 at hto
  exact Bcl.mk ⟨by omega,by omega⟩ hto hn
 have hall:O6 (ms++[((ms.length:Int),to,Aw n,())]):=fun z hz=>by
  rcases List.mem_append.1 hz with hz|hz
  ·exact hm z hz
  ·obtain rfl:=List.mem_singleton.1 hz
   exact hy
 unfold Fr P7
 simp only[Am]
 rw[H4 (by omega) (by omega),Cco (by omega),show List.append ms [((ms.length:Int),to,Aw n,())]=ms++[((ms.length:Int),to,Aw n,())] from rfl,Cbt hall (by simp;omega) (Nat.le_refl _),Aa,Cd5 (by omega),Au]
 exact⟨_,_,rfl,hy,Azd (fun x hx=>An0 _ x (List.mem_of_mem_take hx))⟩
abbrev Aq4:=Int×(Chd×List Int×List Int×Int×List Int×List Int×List Ff×Unit)
theorem Cbw{N:Nat}{M:Lz}(h:MW N M)(hN:N≤100){t:TxT}(ht:TxW t) :
  ∃ (n:Nat) (c:Int),Iz (M,t,())=some ((Aw n,c,()),M,(),())∧Al n∧I64 c∧(c=0→t.2.2.2.2.2.2.2.2.1.length≤4096):=by
 cases h with
 | mk h1 h2 h3 h4 h5 h6 h7 h8 h9 h10 =>
 rename_i st bg p b s m vs ms hh r cs q
 cases ht with
 | mk ha hn ho hv hg hf hp he hd =>
 rename_i a n o g e v f tp d
 have bad:∀ c:Int,I64 c→c≠0→∃ (n:Nat) (c':Int),some ((z4,c,()),((st,p,b,bg,s,(m,vs.map Aw,()),ms,ref hh r cs q,()):Lz),(),())=some ((Aw n,c',()),(st,p,b,bg,s,(m,vs.map Aw,()),ms,ref hh r cs q,()),(),())∧Al n∧I64 c'∧(c'=0→d.length≤4096) :=
  fun c hc h0=>⟨0,c,rfl,by unfold Al;omega,hc,fun h=>absurd h h0⟩
 unfold Iz Oy
 dsimp only
 rw[Ad]
 by_cases c1:(d.length:Int)>4096
 ·rw[if_pos c1];exact bad 6 ⟨by omega,by omega⟩ (by omega)
 rw[if_neg c1,Ad]
 by_cases c2:a=0
 ·rw[if_pos c2];exact bad 2 ⟨by omega,by omega⟩ (by omega)
 rw[if_neg c2,Ad]
 by_cases c3:o=0
 ·rw[if_pos c3];exact bad 2 ⟨by omega,by omega⟩ (by omega)
 rw[if_neg c3,Ad]
 by_cases c4:a=18446744073709551615
 ·rw[if_pos c4];exact bad 2 ⟨by omega,by omega⟩ (by omega)
 rw[if_neg c4,Bak (by omega),Aa]
 dsimp only
 have hacc:=Ai1 (l:=m) h8.inv.all ha
 obtain⟨hac,hbal,hnon⟩:=hacc
 rw[hac]
 dsimp only
 rw[Aq,Ad]
 by_cases c5:n=non m a
 case neg=>rw[if_neg c5];exact bad 11 ⟨by omega,by omega⟩ (by omega)
 rw[if_pos c5,Ad]
 by_cases c6:IntKind.wrap .u64 (non m a+1)=0
 ·rw[if_pos c6];exact bad 4 ⟨by omega,by omega⟩ (by omega)
 rw[if_neg c6]
 obtain⟨gr,egr,hgr,hgr2⟩:=Cfg h4.w h2
 clear hgr2
 cases h4 with
 | mk k1 k2 k3 k4 =>
 rename_i bn bt bgu bf
 have k4':Al bf:=by unfold Al;omega
 dsimp only
 rw[By5 hf hp k4',Aa]
 by_cases c7:f<bf
 ·rw[if_pos c7]
  dsimp only
  rw[decide_eq_false (by omega),Aq,Bp]
  exact bad 12 ⟨by omega,by omega⟩ (by omega)
 rw[if_neg c7]
 dsimp only
 rw[decide_eq_true rfl,Aq,Au,egr,Aa]
 dsimp only
 rw[Ad]
 by_cases c8:g>gr
 ·rw[if_pos c8];exact bad 13 ⟨by omega,by omega⟩ (by omega)
 have hpr:Al (bf+min tp (f-bf)):=by unfold Al at *;omega
 rw[if_neg c8,Cfo hg hv hpr hbal,Aa]
 dsimp only
 rw[Aq,Ad]
 by_cases c9:g.toNat*(bf+min tp (f-bf))+v≤bal m a
 case neg=>rw[if_neg c9];exact bad 10 ⟨by omega,by omega⟩ (by omega)
 rw[if_pos c9]
 exact⟨_,0,rfl,hpr,⟨by omega,by omega⟩,fun _=>by omega⟩
theorem Cl7{N:Nat}{M:Lz}(h:MW N M)(hN:N≤100){t:TxT}(ht:TxW t) :
  ∃ (k:Int) (r:Aq4) (M':Lz),G1 (M,t,())=some (((k,r),()),M',(),())∧MW (N+1) M':=by
 obtain⟨pr,c0,e0,hpr,hc0,hd⟩:=Cbw h hN ht
 cases h with
 | mk h1 h2 h3 h4 h5 h6 h7 h8 h9 h10 =>
 rename_i st bg p b s m vs ms hh r cs q
 have hM:=MW.mk h1 h2 h3 h4 h5 h6 h7 h8 h9 h10
 cases ht with
 | mk ha hn ho hv hg hf hp he hdb =>
 rename_i a n o g e v f tp d
 dsimp only at hd
 unfold G1 Tw
 dsimp only
 rw[e0,Aa]
 dsimp only
 rw[Aq,Ad]
 by_cases hc:c0=0
 case neg=>rw[if_neg hc];exact⟨_,_,_,rfl,hM.mono (by omega)⟩
 have hd:=hd hc
 rw[if_pos hc]
 cases h4 with
 | mk k1 k2 k3 k4 =>
 rename_i bn bt bgu bf
 have k4':Al bf:=by unfold Al;omega
 obtain⟨un,eun,hun⟩:=h6.up
 dsimp only
 obtain⟨ch,c1,e1,i1,hch⟩:=Cc4 (a:=a) (n:=n) (o:=o) (v:=v) (d:=d) hg he hf hp k4' hun (by omega) h2
 rw[eun,e1,Aa]
 dsimp only
 rw[Aq,Ad]
 by_cases hc1:c1=0
 case neg=>rw[if_neg hc1];exact⟨_,_,_,rfl,hM.mono (by omega)⟩
 rw[if_pos hc1]
 have hch:=hch hc1
 cases hch with
 | mk q1 q2 q3 q4 b1 b2 b3 b4 b5 hus hle hsum =>
 rename_i cu cpo cex cus cfl cti cpf cinf cne cbu
 dsimp only
 obtain⟨s2,c2,e2,i2,hs2⟩:=Bxy h6 h7 q1
 rw[e2,Aa]
 dsimp only
 rw[Aq,Ad]
 by_cases hc2:c2=0
 case neg=>rw[if_neg hc2];exact⟨_,_,_,rfl,hM.mono (by omega)⟩
 rw[if_pos hc2]
 obtain⟨w6,w7,_⟩:=hs2 hc2
 obtain⟨x1,m1,v1,f1,l1,n1⟩:=Bvz h8 (by omega) ha b2 (v:=3) ⟨by omega,by omega⟩
 obtain⟨x2,m2,v2,f2,l2,n2⟩:=Bvz l1 (by omega) ha b3 (v:=2) ⟨by omega,by omega⟩
 obtain⟨x3,m3,v3,f3,l3,n3⟩:=Bvz l2 (by omega) ha b4 (v:=1) ⟨by omega,by omega⟩
 obtain⟨x4,m4,v4,f4,l4,n4⟩:=Bvz l3 (by omega) ha b5 (v:=4) ⟨by omega,by omega⟩
 obtain⟨x5,m5,v5,f5,l5,n5⟩:=Coo l4 (by omega) ha
 rw[f1,Aa]
 dsimp only
 rw[f2,Aa]
 dsimp only
 rw[f3,Aa]
 dsimp only
 rw[f4,Aa]
 dsimp only
 rw[f5,Aa,Cly h5 q3,Aa]
 dsimp only
 have hbg:B4 (if bg+cex≤18446744073709551615 then bg+cex else 18446744073709551615):=by
  unfold B4 at h5 q3 ⊢
  split<;>omega
 generalize (if bg+cex≤18446744073709551615 then bg+cex else 18446744073709551615)=bg' at *
 have hb':Bq8 (bn,bt,IntKind.wrap .u64 (bgu+cus),Aw bf,()):=Bq8.mk k1 k2 (Ku _) k4
 have fin5:MW (N+1) (st,p,(bn,bt,IntKind.wrap .u64 (bgu+cus),Aw bf,()),bg',s2,(m5,v5.map Aw,()),ms,ref hh r cs q,()) :=
  .mk h1 h2 h3 hb' hbg w6 w7 l5 (by omega) (h10.mono (by omega))
 cases cfl with
 | true=>exact⟨_,_,_,rfl,fin5⟩
 | false =>
 rw[Bp,Ad]
 by_cases c3:o=a
 ·rw[if_pos c3];exact⟨_,_,_,rfl,fin5⟩
 rw[if_neg c3,Aq,Ad]
 by_cases c4:o=18446744073709551615
 case neg =>
  obtain⟨x6,m6,v6,f6,l6,n6⟩:=Cka l5 (by omega) ha ho hv
  have hl6:m6.length≤200*(N+1):=by omega
  rw[if_neg c4,f6,Aa]
  exact⟨_,_,_,rfl,.mk h1 h2 h3 hb' hbg w6 w7 l6 hl6 (h10.mono (by omega))⟩
 rw[if_pos c4,Nh,Aa]
 dsimp only
 rw[Aq,Ad]
 by_cases c5:v=0
 ·rw[if_pos c5];exact⟨_,_,_,rfl,fin5⟩
 obtain⟨x6,m6,v6,f6,l6,n6⟩:=Cp2 l5 (by omega) ha hv
 have hl6:m6.length≤200*(N+1):=by omega
 have hml:=h10.l1
 obtain⟨y,x,f7,hy,hx⟩:=Bx7 (st:=st) (bg:=bg') (p:=p) (b:=(bn,bt,IntKind.wrap .u64 (bgu+cus),Aw bf,())) (s:=s2) (L:=(m6,v6.map Aw,())) (h:=hh) (cs:=cs) (q:=q) h10.allm h10.len (by omega) ha hv
 rw[if_neg c5,f6,Aa]
 dsimp only
 rw[f7,Aa]
 obtain⟨cl,pl,hrel⟩:=h10.rel
 have hl2:=h10.l2
 have hl3:=h10.l3
 refine⟨_,_,_,rfl,.mk h1 h2 h3 hb' hbg w6 w7 l6 hl6 ⟨fun z hz=>?_,by simp[h10.len],fun z hz=>?_,⟨_,_,hrel.snoc x⟩,by simp;omega,Nat.le_succ_of_le hl2,Nat.le_succ_of_le hl3⟩⟩
 ·rcases List.mem_append.1 hz with hz|hz
  ·exact h10.allm z hz
  ·obtain rfl:=List.mem_singleton.1 hz
   exact hy
 ·rcases List.mem_append.1 hz with hz|hz
  ·exact h10.ha z hz
  ·obtain rfl:=List.mem_singleton.1 hz
   exact hx
theorem Akj.addr{x:Bn}(h:Akj x):B4 x.1:=by cases h;assumption
theorem Cgr{m:List A5}{vs:List Nat}(hlen:vs.length=4):Jw ((m,vs.map Aw,()),(3:Int),())=some ((Aw (vs.getD 2 0),()),(m,vs.map Aw,()),(),()):=by
 unfold Jw Ps
 simp only[Am]
 rw[Ar (by omega) (by omega),Ad,if_neg (by omega),Ad,if_neg (by omega),Ao,if_pos (by omega),show Int.toNat (3-1)=2 from rfl,Bec]
theorem Bxx{N:Nat}{M:Lz}(h:MW N M)(hN:N≤100){x:Cbq}(hx:Bdi x) :
  ∃ (k:Int) (r:Aq4) (M':Lz),Es (M,x,())=some (((k,r),()),M',(),())∧MW (N+1) M':=by
 have hM:=h
 cases h with
 | mk h1 h2 h3 h4 h5 h6 h7 h8 h9 h10 =>
 rename_i st bg p b s m vs ms hh r cs q
 have hvb:Al (vs.getD 2 0):=by
  have:=h8.lin.sum
  have h2':=Buw vs 2
  unfold Al;omega
 have hbt:B4 b.2.1:=by cases h4;assumption
 obtain⟨s2,t,c1,e1,i1,hr⟩:=Ccr h6 h7 h2 h3 hvb hx hbt
 unfold Es M5
 dsimp only
 rw[Cgr h8.lin.len,Aa]
 dsimp only
 rw[e1,Aa]
 dsimp only
 rw[Aq,Ad]
 by_cases hc1:c1=0
 case neg=>rw[if_neg hc1];exact⟨_,_,_,rfl,hM.mono (by omega)⟩
 rw[if_pos hc1]
 obtain⟨w6,w7,_,_,_,hgp,hsum,hpl⟩:=hr hc1
 have hpw:∀ x∈t.2.2.1,Akj x:=fun x hx=>(hgp x hx).1
 unfold Al at hvb
 rw[Btz hpw (by omega),Aa,if_pos (by omega)]
 dsimp only
 have hml:=h10.l1
 have hl2:=h10.l2
 have hl3:=h10.l3
 refine Cq (I:=fun y=>∃ (i:Nat) (m':List A5) (vs':List Nat) (ms':List Ff) (r':List (List Int)) (zz:Int×Aq4) (rr:Int×Aq4),i≤t.2.2.1.length∧LR m' vs'∧m'.length≤m.length+2*i∧O6 ms'∧r'.length=ms'.length∧Te r' ∧
   ms'.length=ms.length+i∧(∃ cl pl,Azj r' cl hh pl cs q)∧rr.2.2.2.2.2.2.2.2.1.length=i ∧
   y=((st,p,b,bg,s2,(m',vs'.map Aw,()),ms',ref hh r' cs q,()),zz,t,rr,(i:Int),()))
  (m:=fun y=>((t.2.2.1.length:Int)-y.2.2.2.2.1).toNat)
  (P:=fun z=>∃ (k:Int) (r:Aq4) (M':Lz),z=some (((k,r),()),M',(),())∧MW (N+1) M') ?_
  ⟨0,m,vs,ms,r,_,_,Nat.zero_le _,h8,by omega,h10.allm,h10.len,h10.ha,rfl,h10.rel,rfl,rfl⟩ (by rw[Av];simp only;omega)
 rintro y again ⟨i,m',vs',ms',r',zz,rr,hi,q1,q2,q3,q4,q5,q6,q7,q8,rfl⟩ hag
 simp only at hag ⊢
 unfold U7
 simp only[Am]
 rw[Ad]
 by_cases c:(i:Int)<(t.2.2.1.length:Int)
 ·have hgx:=hpw _ (Bt (d:=Eb) (show i<t.2.2.1.length by omega))
  obtain⟨ea,hba⟩:=Bwm hgx
  have hto:B4 (t.2.2.1.getD i Eb).1:=hgx.addr
  obtain⟨x6,m6,v6,f6,l6,n6⟩:=Cpy q1 hba (v:=3) ⟨by omega,by omega⟩
  obtain⟨y2,x2,f7,hy,hx2⟩:=Bx7 (st:=st) (bg:=bg) (p:=p) (b:=b) (s:=s2) (L:=(m6,v6.map Aw,())) (h:=hh) (cs:=cs) (q:=q) q3 q4 (by omega) hto hba
  rw[if_pos c,Ao,if_pos (by omega),Int.toNat_natCast,ea,f6,Aa]
  dsimp only
  rw[Ao,if_pos (by omega),Ao,if_pos (by omega),f7,Aa]
  dsimp only
  rw[Cco (by omega),Ar (by omega) (by omega)]
  obtain⟨cl,pl,hrel⟩:=q7
  refine hag _ ⟨i+1,m6,v6,ms'++[y2],r'++[x2],zz,_,by omega,l6,by omega,fun z hz=>?_,by simp[q4],fun z hz=>?_,by simp;omega,⟨_,_,hrel.snoc x2⟩,?_,by rw[Int.natCast_add];rfl⟩ (by simp only;omega)
  ·rcases List.mem_append.1 hz with hz|hz
   ·exact q3 z hz
   ·obtain rfl:=List.mem_singleton.1 hz
    exact hy
  ·rcases List.mem_append.1 hz with hz|hz
   ·exact q5 z hz
   ·obtain rfl:=List.mem_singleton.1 hz
    exact hx2
  ·show (rr.2.2.2.2.2.2.2.2.1++[y2]).length=i+1
   rw[List.length_append,q8];rfl
 ·rw[if_neg c]
  have hml2:m'.length≤200*(N+1):=by omega
  have hms2:ms'.length≤100*(N+1):=by omega
  exact⟨rr.1,rr.2,_,rfl,.mk h1 h2 h3 h4 h5 w6 w7 q1 hml2 ⟨q3,q4,q5,q7,hms2,Nat.le_succ_of_le hl2,Nat.le_succ_of_le hl3⟩⟩
theorem Bsn{a b c:Int}(ha:B4 a):B4 (((a.toNat-b.toNat*c.toNat:Nat):Int)):=by
 unfold B4 at *
 have:=Nat.sub_le a.toNat (b.toNat*c.toNat)
 omega
theorem Cbz{N:Nat}{M:Lz}(h:MW N M)(hN:N≤100){s:Aea}(hs:Rd s) :
  ∃ (c:Int) (M':Lz),Fd (M,s,())=some ((c,()),M',(),())∧MW (N+1) M':=by
 have hM:=h
 cases h with
 | mk h1 h2 h3 h4 h5 h6 h7 h8 h9 h10 =>
 rename_i st bg p b pr m vs ms hh r cs q
 cases hs with
 | mk hk ht ha hb hc hs hy hv hd hq =>
 rename_i k t xa xb xc se y v d qc
 unfold Fd O0
 dsimp only
 rw[Ad]
 by_cases c1:k=3
 ·rw[if_pos c1]
  have hsp:B4 p.1:=by cases h2;assumption
  obtain⟨kb,c,e,w,i,hc⟩:=Chn h4.w hs (Bsn (b:=p.1) (c:=se) h5) h2
  rw[Cj9 h5 hsp hs,Aa]
  dsimp only
  rw[e,Aa]
  dsimp only
  rw[Ad]
  by_cases h0:c=0
  ·rw[if_pos h0]
   exact⟨_,_,rfl,.mk h1 h2 h3 (hc h0).2.2 (Bsn h5) h6 h7 h8 (by omega) (h10.mono (by omega))⟩
  ·rw[if_neg h0];exact⟨_,_,rfl,hM.mono (by omega)⟩
 rw[if_neg c1,Ad]
 by_cases c2:k=4
 ·rw[if_pos c2]
  obtain⟨p',c,e,w,hpv⟩:=Clm h2 h3 y hv hy
  rw[e,Aa]
  dsimp only
  rw[Ad]
  by_cases h0:c=0
  ·rw[if_pos h0]
   exact⟨_,_,rfl,.mk h1 w (hpv h0) h4 h5 h6 h7 h8 (by omega) (h10.mono (by omega))⟩
  ·rw[if_neg h0];exact⟨_,_,rfl,hM.mono (by omega)⟩
 rw[if_neg c2,Ad]
 by_cases c3:k=5
 ·rw[if_pos c3]
  obtain⟨pr',c,e,_,w⟩:=Bv4 h6 h7 hd
  rw[e,Aa]
  dsimp only
  rw[Ad]
  by_cases h0:c=0
  ·obtain⟨w6,w7,_⟩:=w h0
   rw[if_pos h0]
   exact⟨_,_,rfl,.mk h1 h2 h3 h4 h5 w6 w7 h8 (by omega) (h10.mono (by omega))⟩
  ·rw[if_neg h0];exact⟨_,_,rfl,hM.mono (by omega)⟩
 rw[if_neg c3,Ad]
 obtain⟨cl,pl,hrel⟩:=h10.rel
 have hhh:=hrel.inv.held
 have hl2:=h10.l2
 have hl3:=h10.l3
 have hml:=h10.l1
 have hlen:=h10.len
 by_cases c4:k=6
 ·rw[if_pos c4,Ad]
  by_cases d1:d=0
  ·rw[if_pos d1];exact⟨_,_,rfl,hM.mono (by omega)⟩
  rw[if_neg d1,Ad]
  by_cases d2:d=18446744073709551615
  ·rw[if_pos d2];exact⟨_,_,rfl,hM.mono (by omega)⟩
  rw[if_neg d2,Nh,Aa]
  dsimp only
  rw[Ad]
  by_cases d3:v=0
  ·rw[if_pos d3];exact⟨_,_,rfl,hM.mono (by omega)⟩
  have l1:=M4 hhh
  have l2:=M4 hv
  rw[if_neg d3,Bz hhh,Aa,Bz hv,Aa]
  dsimp only
  rw[Cb (by omega) (by omega),Aa]
  dsimp only
  rw[O3,Aa]
  dsimp only
  rw[Aq,Ad]
  by_cases d4:hh+v<115792089237316195423570985008687907853269984665640564039457584007913129639936
  case neg=>rw[if_neg d4];exact⟨_,_,rfl,hM.mono (by omega)⟩
  obtain⟨x6,m6,v6,f6,_,l6,n6⟩:=Clu h8 (by omega) hd hv
  have hm6:m6.length≤200*(N+1):=by omega
  rw[if_pos d4,Byp hhh hv,Aa,if_neg d3,if_pos d4,if_neg d3,if_pos d4]
  dsimp only
  rw[f6,Aa]
  have hrel':Azj r cl (hh+v) pl cs q:=⟨⟨hrel.inv.len,d4,hrel.inv.srt,hrel.inv.ne,hrel.inv.all⟩,hrel.cls,hrel.dist,hrel.all,hrel.ne,hrel.sort⟩
  exact⟨_,_,rfl,.mk h1 h2 h3 h4 h5 h6 h7 l6 hm6 ⟨h10.allm,h10.len,h10.ha,⟨_,_,hrel'⟩,by omega,Nat.le_succ_of_le hl2,Nat.le_succ_of_le hl3⟩⟩
 rw[if_neg c4]
 cases hq with
 | mk g1 g2 g3 g4 g5 =>
 obtain⟨cs',q',e,hrel',n1,n2⟩:=Cln hrel (by omega) (by omega) (by omega) g1 g2 g3 g4 g5
 rw[e,Aa]
 have hcs:cs'.length≤N+1:=by omega
 have hq':q'.length≤N+1:=by omega
 exact⟨_,_,rfl,.mk h1 h2 h3 h4 h5 h6 h7 h8 (by omega) ⟨h10.allm,h10.len,h10.ha,⟨_,_,hrel'⟩,by omega,hcs,hq'⟩⟩
theorem Ckc:PV ((7000000:Int),(10:Int),(102:Int),[(100000000:Int),0,0,0],(32000000:Int),[(60000000:Int),0,0,0],(1000:Int),[(10:Int),0,0,0],(160000000:Int),(10:Int),(16:Int),(65536:Int),()):=by
 unfold PV
 decide
theorem Coe:Azj [] [] 0 [] [] []:=⟨Cie,fun s _=>by simp,List.Pairwise.nil,fun x h=>by simp at h,fun x h=>by simp at h,rfl⟩
theorem Cnv:LR [] [0,0,0,0]:=⟨⟨List.Pairwise.nil,fun x h=>by simp at h⟩,⟨List.Pairwise.nil,fun x h=>by simp[Cf] at h,fun x h=>by simp[Cf] at h,fun x h=>by simp[Cf] at h,rfl,by simp[Cf,En]⟩⟩
theorem Crh:Apx ([(1000000000:Int),0,0,0],(0:Int),(0:Int),(0:Int),(false,z4,()),([]:List At),()) :=
 ⟨⟨1000000000,rfl,by unfold Al;omega⟩,⟨by decide,by decide⟩,⟨by decide,by decide⟩,⟨by decide,by decide⟩,Awn.mk (n:=0) (by unfold Al;omega),(fun p hp=>by cases hp),Nat.zero_le _⟩
theorem Cpo:PRV ([(1000000000:Int),0,0,0],(0:Int),(0:Int),(0:Int),(false,z4,()),([]:List At),()) :=
 ⟨⟨Nat.zero_le _,fun i hi=>by simp at hi⟩,rfl,fun p hp=>by cases hp⟩
theorem Cf5:∃ M:Lz,Ack ()=some ((M,()),())∧MW 0 M:=by
 obtain⟨f,e,h1,h2⟩:=Bzl Bsy Ckc
 unfold Ack Aq5
 rw[show Xp ()=some ((((7000000:Int),(10:Int),(102:Int),[(100000000:Int),0,0,0],(32000000:Int),[(60000000:Int),0,0,0],(1000:Int),[(10:Int),0,0,0],(160000000:Int),(10:Int),(16:Int),(65536:Int),()),()),()) from rfl,Aa]
 dsimp only
 rw[e,Aa,show Xb ()=some ((([(1000000000:Int),0,0,0],(0:Int),(0:Int),(0:Int),(false,z4,()),([]:List At),()),()),()) from rfl,Aa,
  show Ai0 ()=some ((([],[0,0,0,0].map Aw,()),()),()) from rfl,Aa,show Ajf ()=some ((ref 0 [] [] [],()),()) from rfl,Aa]
 exact⟨_,rfl,.mk ⟨by decide,by decide⟩ Bsy Ckc (Bq8.mk ⟨by decide,by decide⟩ ⟨by decide,by decide⟩ ⟨by decide,by decide⟩ h2) ⟨by decide,by decide⟩ Crh Cpo Cnv (Nat.zero_le _)
  ⟨fun x h=>by simp at h,rfl,fun x h=>by simp at h,⟨_,_,Coe⟩,Nat.zero_le _,Nat.zero_le _,Nat.zero_le _⟩⟩
abbrev Cce:=Int×Aq4
theorem Caf{N:Nat}{M:Lz}(h:MW N M)(hN:N≤100){s:Aea}(hs:Rd s) :
  ∃ (r:Cce) (M':Lz),Fp (M,s,())=some ((r,()),M',(),())∧MW (N+1) M':=by
 have hvk:∃ b,Jx (s.1,())=some ((b,()),(),()):=by
  unfold Jx Xr
  dsimp only
  rw[Ad]
  split
  ·exact⟨_,rfl⟩
  ·exact⟨_,rfl⟩
 obtain⟨vk,evk⟩:=hvk
 have key:∀ M2:Lz,MW N M2→(∃ (k:Int) (r:Aq4) (M':Lz),G1 (M2,s.2.1,())=some (((k,r),()),M',(),())∧MW (N+1) M') ∧
   (∃ (k:Int) (r:Aq4) (M':Lz),Es (M2,s.2.2.1,())=some (((k,r),()),M',(),())∧MW (N+1) M') ∧
   ∃ (c:Int) (M':Lz),Fd (M2,s,())=some ((c,()),M',(),())∧MW (N+1) M':=fun M2 h2=>by
  refine⟨?_,?_,Cbz h2 hN hs⟩
  ·cases hs with
   | mk hk ht ha hb hc hs hy hv hd hq=>exact Cl7 h2 hN ht
  ·cases hs with
   | mk hk ht ha hb hc hs hy hv hd hq=>exact Bxx h2 hN (Bdi.mk ha hb hc)
 unfold Fp Lx
 rw[Am]
 dsimp only
 cases h with
 | mk h1 h2 h3 h4 h5 h6 h7 h8 h9 h10 =>
 rename_i st bg p b pr m vs ms hh r cs q
 dsimp only
 rw[Aq,Ad]
 have tail:∀ st':Int,B4 st'→MW N (st',p,b,bg,pr,(m,vs.map Aw,()),ms,ref hh r cs q,()):=fun st' hst=>.mk hst h2 h3 h4 h5 h6 h7 h8 h9 h10
 have both:∀ (st':Int),B4 st'→∃ (r':Cce) (M':Lz),(Option.bind (Jx (s.1,())) (fun y_1 =>
   (Ah (!y_1.1.1) (some ((((0:Int),(17:Int),Cov,z4,z4,(0:Int),z4,z4,([]:List Ff),()),()),((st',p,b,bg,pr,(m,vs.map Aw,()),ms,ref hh r cs q,()):Lz),(),()))
    (Ah (decide (s.1=(1:Int))) (Option.bind (G1 ((st',p,b,bg,pr,(m,vs.map Aw,()),ms,ref hh r cs q,()),s.2.1,())) (fun y_2=>some (((s.1,y_2.1.1.2),()),y_2.2.1,(),())))
     (Ah (decide (s.1=(2:Int))) (Option.bind (Es ((st',p,b,bg,pr,(m,vs.map Aw,()),ms,ref hh r cs q,()),s.2.2.1,())) (fun y_3=>some (((s.1,y_3.1.1.2),()),y_3.2.1,(),())))
      (Option.bind (Fd ((st',p,b,bg,pr,(m,vs.map Aw,()),ms,ref hh r cs q,()),s,())) (fun y_4=>some (((s.1,y_4.1.1,Cov,z4,z4,(0:Int),z4,z4,([]:List Ff),()),()),y_4.2.1,(),()))))))))=some ((r',()),M',(),())∧MW (N+1) M':=by
  intro st' hst
  have hm:=tail st' hst
  obtain⟨⟨k1,r1,M1,e1,w1⟩,⟨k2,r2,M2,e2,w2⟩,⟨c3,M3,e3,w3⟩⟩:=key _ hm
  rw[evk,Aa,e1,e2,e3,Aa,Aa,Aa]
  dsimp only
  cases vk with
  | false=>exact⟨_,_,rfl,hm.mono (by omega)⟩
  | true =>
   rw[Bool.not_true,Bp,Ad]
   by_cases c1:s.1=1
   ·rw[if_pos c1];exact⟨_,_,rfl,w1⟩
   rw[if_neg c1,Ad]
   by_cases c2:s.1=2
   ·rw[if_pos c2];exact⟨_,_,rfl,w2⟩
   rw[if_neg c2]
   exact⟨_,_,rfl,w3⟩
 by_cases c:IntKind.wrap .u64 (st+1)=0
 ·rw[if_pos c];exact both st h1
 ·rw[if_neg c];exact both _ (Ku _)
abbrev StT:=Int×(N6×Aob×Int×T3×List A5×List (List Int)×List Ff×List Bool×List Int×List Bn×Unit)
inductive StW(B:Nat):StT→Prop
 | mk {st bg:Int} {p:N6} {b:Aob} {s:T3} {ac:List A5} {vs:List Nat} {ms:List Ff} {cl:List Bool} {h:Nat} {l1:List Bn}
   (h1:B4 st) (h2:Vd p) (h4:Bcn b) (h5:B4 bg) (h6:Apx s) (h7:s.2.2.2.2.2.1.length≤1000) (h8:Xu ac) (h9:ac.length≤B) (v1:vs.length=4) (v2:∀ n∈vs,Al n) (m1:O6 ms) (m2:ms.length≤B) (c1:cl.length≤B) (e1:Al h)
   (p1:Fh l1) (p2:l1.length≤B):StW B (st,p,b,bg,s,ac,vs.map Aw,ms,cl,Aw h,l1,())
theorem StW.mono{B B':Nat}(hB:B≤B'){s:StT}(h:StW B s):StW B' s:=by
 cases h with
 | mk h1 h2 h4 h5 h6 h7 h8 h9 v1 v2 m1 m2 c1 e1 p1 p2=>exact .mk h1 h2 h4 h5 h6 h7 h8 (by omega) v1 v2 m1 (by omega) (by omega) e1 p1 (by omega)
theorem Cft(m:List A5):(Cf m).length≤m.length:=by
 have:=Bmt m []
 simpa [Cf] using this
theorem Bsv:∀ (m o:List Bn),(m.foldl Nl o).length≤o.length+m.length
 | [],o=>by simp
 | x::m,o=>by
  have h1:=Bsv m (Nl o x)
  have h2:=Bnf o x
  simp only[List.foldl_cons,List.length_cons]
  omega
theorem Cf3(m:List Bn):(Aqf m).length≤m.length:=by
 have:=Bsv m []
 simpa [Aqf] using this
theorem Cfn{N:Nat}{M:Lz}(h:MW N M)(hN:N≤100):∃ s:StT,Fe (M,())=some ((s,()),M,())∧StW (200*N) s:=by
 cases h with
 | mk h1 h2 h3 h4 h5 h6 h7 h8 h9 h10 =>
 rename_i st bg p b pr m vs ms hh r cs q
 have hml:=h10.l1
 have hl2:=h10.l2
 have hl3:=h10.l3
 have hpl:=h7.ps.1
 obtain⟨cl0,pl,hrel⟩:=h10.rel
 have la:=Cft m
 have lp:=Cf3 q
 unfold Fe Oz
 dsimp only
 rw[Bvf h8.inv (by omega),Aa,Cco (by omega),Ccz hrel.dist hrel.ne (by omega),Aa,Go.Pon.roomyP (by omega),Au]
 dsimp only
 refine Cq (I:=fun y=>∃ (i:Nat) (cl:List Bool) (z:StT),i≤ms.length∧cl.length=i ∧
   y=((st,p,b,bg,pr,(m,vs.map Aw,()),ms,ref hh r cs q,()),z,(st,p,b,bg,pr,Cf m,vs.map Aw,ms,cl,Aw hh,Aqf q,()),(i:Int),()))
  (m:=fun y=>((ms.length:Int)-y.2.2.2.1).toNat)
  (P:=fun w=>∃ s:StT,w=some ((s,()),(st,p,b,bg,pr,(m,vs.map Aw,()),ms,ref hh r cs q,()),())∧StW (200*N) s) ?_ ⟨0,[],_,Nat.zero_le _,rfl,rfl⟩ (by rw[Av];simp only;omega)
 rintro y again ⟨i,cl,z,hi,hcl,rfl⟩ hag
 simp only at hag ⊢
 unfold Xa
 dsimp only
 rw[Ad]
 by_cases c:(i:Int)<(ms.length:Int)
 ·rw[if_pos c,Bjt (by omega),Aa,Clg (by omega),Au,Ar (by omega) (by omega)]
  dsimp only
  exact hag _ ⟨i+1,List.append cl [decide (IntKind.wrap .u64 (i:Int)∈cs)],z,by omega,by simp[hcl],by rw[Int.natCast_add];rfl⟩ (by simp only;omega)
 ·rw[if_neg c]
  exact⟨_,rfl,.mk h1 h2 h4.w h5 h6 (by omega) h8.lin.all (by omega) h8.lin.len h8.lin.vB h10.allm (by omega) (by omega) hrel.inv.held (Ce2 hrel.all) (by omega)⟩
def Bjl(p:N6):List (Nat×Int×Int) :=
 [(p.1.toNat,1,1099511627776),(p.2.1.toNat,0,1048576),(p.2.2.1.toNat,1,1048576),(Dw p.2.2.2.1,1,18446744073709551615),(p.2.2.2.2.1.toNat,1,1099511627776),
  (Dw p.2.2.2.2.2.1,0,18446744073709551615),(p.2.2.2.2.2.2.1.toNat,0,10000),(Dw p.2.2.2.2.2.2.2.1,0,18446744073709551615),(p.2.2.2.2.2.2.2.2.1.toNat,1,1099511627776),
  (p.2.2.2.2.2.2.2.2.2.1.toNat,1,1048576),(p.2.2.2.2.2.2.2.2.2.2.1.toNat,0,1048576),(p.2.2.2.2.2.2.2.2.2.2.2.1.toNat,p.2.2.2.2.2.2.2.2.2.2.1,16777216)]
def pOk(x:Nat×Int×Int):Prop:=x.2.1≤(x.1:Int)∧(x.1:Int)≤x.2.2
structure As6(p:N6)(i:Nat)(x:Nat×Int×Int):Prop where
 get:Ae7 (p,((i+1:Nat):Int),())=some ((Aw x.1,(0:Int),()),(),(),())
 bnd:W0 (p,((i+1:Nat):Int),())=some ((x.2.1,x.2.2,()),(),(),())
 b1:Al x.1
 b2:B4 x.2.1
 b3:B4 x.2.2
theorem Bgv{x:Int}(h:B4 x):Al x.toNat:=by unfold B4 at h;unfold Al;omega
theorem Cre{p:N6}(h:Vd p):∀ i,i<12→As6 p i ((Bjl p).getD i (0,0,0)):=by
 obtain⟨h1,h2,h3,h4,h5,h6,h7,h8,h9,h10,h11,h12⟩:=h
 rename_i sp to bi gl bb eu pi mi ma fe ic rw'
 have U0:B4 0:=⟨by decide,by decide⟩
 have U1:B4 1:=⟨by decide,by decide⟩
 have Ua:B4 1099511627776:=⟨by decide,by decide⟩
 have Ub:B4 1048576:=⟨by decide,by decide⟩
 have Uc:B4 18446744073709551615:=⟨by decide,by decide⟩
 have Ud:B4 10000:=⟨by decide,by decide⟩
 have Ue:B4 16777216:=⟨by decide,by decide⟩
 have fu:∀ {x:Int},B4 x→(Option.bind (Da (x,())) fun y=>some ((y.1.1,(0:Int),()),(((),(),()):Unit×Unit×Unit)))=some ((Aw x.toNat,(0:Int),()),(),(),()):=fun hx=>by
  rw[Ajh hx.1 hx.2];rfl
 have ge:∀ n,Aw (Dw (Aw n))=Aw n:=fun n=>by rw[Bk]
 intro i hi
 have k0:As6 (sp,to,bi,Aw fe,gl,Aw ic,bb,Aw rw',eu,pi,mi,ma,()) 0 (sp.toNat,1,1099511627776):=⟨fu h1,rfl,Bgv h1,U1,Ua⟩
 have k1:As6 (sp,to,bi,Aw fe,gl,Aw ic,bb,Aw rw',eu,pi,mi,ma,()) 1 (to.toNat,0,1048576):=⟨fu h2,rfl,Bgv h2,U0,Ub⟩
 have k2:As6 (sp,to,bi,Aw fe,gl,Aw ic,bb,Aw rw',eu,pi,mi,ma,()) 2 (bi.toNat,1,1048576):=⟨fu h3,rfl,Bgv h3,U1,Ub⟩
 have k3:As6 (sp,to,bi,Aw fe,gl,Aw ic,bb,Aw rw',eu,pi,mi,ma,()) 3 (Dw (Aw fe),1,18446744073709551615):=⟨congrArg (fun z=>some ((z,(0:Int),()),(((),(),()):Unit×Unit×Unit))) (ge fe).symm,rfl,(by rw[Bk];exact h4),U1,Uc⟩
 have k4:As6 (sp,to,bi,Aw fe,gl,Aw ic,bb,Aw rw',eu,pi,mi,ma,()) 4 (gl.toNat,1,1099511627776):=⟨fu h5,rfl,Bgv h5,U1,Ua⟩
 have k5:As6 (sp,to,bi,Aw fe,gl,Aw ic,bb,Aw rw',eu,pi,mi,ma,()) 5 (Dw (Aw ic),0,18446744073709551615):=⟨congrArg (fun z=>some ((z,(0:Int),()),(((),(),()):Unit×Unit×Unit))) (ge ic).symm,rfl,(by rw[Bk];exact h6),U0,Uc⟩
 have k6:As6 (sp,to,bi,Aw fe,gl,Aw ic,bb,Aw rw',eu,pi,mi,ma,()) 6 (bb.toNat,0,10000):=⟨fu h7,rfl,Bgv h7,U0,Ud⟩
 have k7:As6 (sp,to,bi,Aw fe,gl,Aw ic,bb,Aw rw',eu,pi,mi,ma,()) 7 (Dw (Aw rw'),0,18446744073709551615):=⟨congrArg (fun z=>some ((z,(0:Int),()),(((),(),()):Unit×Unit×Unit))) (ge rw').symm,rfl,(by rw[Bk];exact h8),U0,Uc⟩
 have k8:As6 (sp,to,bi,Aw fe,gl,Aw ic,bb,Aw rw',eu,pi,mi,ma,()) 8 (eu.toNat,1,1099511627776):=⟨fu h9,rfl,Bgv h9,U1,Ua⟩
 have k9:As6 (sp,to,bi,Aw fe,gl,Aw ic,bb,Aw rw',eu,pi,mi,ma,()) 9 (pi.toNat,1,1048576):=⟨fu h10,rfl,Bgv h10,U1,Ub⟩
 have k10:As6 (sp,to,bi,Aw fe,gl,Aw ic,bb,Aw rw',eu,pi,mi,ma,()) 10 (mi.toNat,0,1048576):=⟨fu h11,rfl,Bgv h11,U0,Ub⟩
 have k11:As6 (sp,to,bi,Aw fe,gl,Aw ic,bb,Aw rw',eu,pi,mi,ma,()) 11 (ma.toNat,mi,16777216):=⟨fu h12,rfl,Bgv h12,h11,Ue⟩
 match i with
 | 0=>exact k0
 | 1=>exact k1
 | 2=>exact k2
 | 3=>exact k3
 | 4=>exact k4
 | 5=>exact k5
 | 6=>exact k6
 | 7=>exact k7
 | 8=>exact k8
 | 9=>exact k9
 | 10=>exact k10
 | 11=>exact k11
 | k+12=>omega
theorem Cd1{a b:Nat}:Abs a b<0↔a<b:=by
 unfold Abs
 split
 ·omega
 ·split<;>omega
theorem Cdw{a b:Nat}:Abs a b>0↔b<a:=by
 unfold Abs
 split
 ·omega
 ·split<;>omega
theorem Cg2{p:N6}(h:Vd p):∃ r:Int,Iw (p,())=some ((r,()),(),())∧(r=0↔∀ i,i<12→pOk ((Bjl p).getD i (0,0,0))):=by
 have hf:=Cre h
 unfold Iw Ou
 refine Cq (I:=fun y=>∃ i:Nat,i≤12∧(∀ j,j<i→pOk ((Bjl p).getD j (0,0,0)))∧y=(p,((i+1:Nat):Int),())) (m:=fun y=>(13-y.2.1).toNat)
  (P:=fun w=>∃ r:Int,w=some ((r,()),(),())∧(r=0↔∀ i,i<12→pOk ((Bjl p).getD i (0,0,0)))) ?_ ⟨0,by omega,fun j hj=>by omega,rfl⟩ (by rw[Av];simp only;omega)
 rintro y again ⟨i,hi,hj,rfl⟩ hag
 simp only at hag ⊢
 unfold Xi
 rw[Ad]
 by_cases c:((i+1:Nat):Int)≤12
 ·obtain⟨e1,e2,b1,b2,b3⟩:=hf i (by omega)
  generalize hx:(Bjl p).getD i (0,0,0)=x at *
  obtain⟨n,lo,hi'⟩:=x
  dsimp only at e1 e2 b1 b2 b3
  rw[if_pos c,e1,Aa,e2,Aa]
  dsimp only
  rw[Ajh b2.1 b2.2,Aa]
  dsimp only
  rw[Cdm b1 (Bgv b2),Aa]
  dsimp only
  rw[Ad]
  by_cases c1:Abs n lo.toNat<0
  ·rw[if_pos c1]
   refine⟨_,rfl,fun h=>by omega,fun h=>?_⟩
   have:=h i (by omega)
   rw[hx] at this
   have c1:=Cd1.1 c1
   obtain⟨t1,t2⟩:=this
   simp only at t1 t2
   have:=b2.1
   omega
  rw[if_neg c1,Ajh b3.1 b3.2,Aa]
  dsimp only
  rw[Cdm b1 (Bgv b3),Aa]
  dsimp only
  rw[Ad]
  by_cases c2:Abs n hi'.toNat>0
  ·rw[if_pos c2]
   refine⟨_,rfl,fun h=>by omega,fun h=>?_⟩
   have:=h i (by omega)
   rw[hx] at this
   have c2:=Cdw.1 c2
   obtain⟨t1,t2⟩:=this
   simp only at t1 t2
   have:=b3.1
   omega
  rw[if_neg c2,Ar (by omega) (by omega)]
  refine hag _ ⟨i+1,by omega,fun j hj'=>?_,rfl⟩ (by simp only;omega)
  by_cases e:j=i
  ·subst e
   rw[hx]
   have d1:¬ n<lo.toNat:=fun h=>c1 (Cd1.2 h)
   have d2:¬ hi'.toNat<n:=fun h=>c2 (Cdw.2 h)
   have:=b2.1
   have:=b3.1
   exact⟨by simp only;omega,by simp only;omega⟩
  ·exact hj j (by omega)
 ·rw[if_neg c]
  exact⟨_,rfl,fun _ i' hi'=>hj i' (by omega),fun _=>rfl⟩
theorem Cf7{p:N6}(h:Vd p):(∀ i,i<12→pOk ((Bjl p).getD i (0,0,0)))↔PV p:=by
 obtain⟨h1,h2,h3,h4,h5,h6,h7,h8,h9,h10,h11,h12⟩:=h
 rename_i sp to bi gl bb eu pi mi ma fe ic rw'
 unfold B4 at *
 unfold PV
 constructor
 ·intro h
  have q0:=h 0 (by omega)
  have q1:=h 1 (by omega)
  have q2:=h 2 (by omega)
  have q3:=h 3 (by omega)
  have q4:=h 4 (by omega)
  have q5:=h 5 (by omega)
  have q6:=h 6 (by omega)
  have q7:=h 7 (by omega)
  have q8:=h 8 (by omega)
  have q9:=h 9 (by omega)
  have q10:=h 10 (by omega)
  have q11:=h 11 (by omega)
  simp only[Bjl,pOk,List.getD_cons_succ,List.getD_cons_zero] at q0 q1 q2 q3 q4 q5 q6 q7 q8 q9 q10 q11
  dsimp only
  refine⟨⟨⟨?_,?_⟩,⟨?_,?_⟩,?_,?_⟩,⟨?_,?_⟩,⟨?_,?_⟩,⟨?_,?_⟩,⟨?_,?_⟩,⟨?_,?_⟩,⟨?_,?_⟩,⟨?_,?_⟩,⟨?_,?_⟩,?_,?_⟩<;>omega
 ·rintro⟨⟨⟨a1,a2⟩,⟨a3,a4⟩,a5,a6⟩,⟨a7,a8⟩,⟨a9,a10⟩,⟨a11,a12⟩,⟨a13,a14⟩,⟨a15,a16⟩,⟨a17,a18⟩,⟨a19,a20⟩,⟨a21,a22⟩,a23,a24⟩ i hi
  dsimp only at *
  match i with
  | 0|1|2|3|4|5|6|7|8|9|10|11=>simp only[Bjl,pOk,List.getD_cons_succ,List.getD_cons_zero];omega
  | k+12=>omega
theorem Bm3{p:N6}(h:Vd p):S8 (p,())=some ((decide (PV p),()),(),()):=by
 obtain⟨r,e,hr⟩:=Cg2 h
 rw[Cf7 h] at hr
 unfold S8 Aej
 dsimp only
 rw[e,Aa]
 dsimp only
 rw[show decide (r=0)=decide (PV p) by rw[decide_eq_decide];exact hr]
def Bib(i x y:Nat):List Int:=(List.range 5).map fun j=>(((if j<i then lb x j else lb y j):Nat):Int)
def Aa0(n:Nat):List Int:=Bib 0 n n
theorem Ab6(i x y:Nat):(Bib i x y).length=5:=by simp[Bib]
theorem Adw{i x y j:Nat}(hj:j<5):(Bib i x y).getD j 0=(((if j<i then lb x j else lb y j):Nat):Int):=by
 simp[Bib,List.getD_eq_getElem?_getD,hj]
theorem Byt{i x y:Nat}(hi:i<5):(Bib i x y).set i ((lb x i:Nat):Int)=Bib (i+1) x y:=by
 refine Aon (d:=0) (by rw[List.length_set,Ab6,Ab6]) fun j hj=>?_
 rw[List.length_set,Ab6] at hj
 rw[Adw hj]
 by_cases e:j=i
 ·subst e
  rw[List.getD_eq_getElem?_getD,List.getElem?_set_self (by rw[Ab6];omega),if_pos (by omega)]
  rfl
 ·rw[List.getD_eq_getElem?_getD,List.getElem?_set_ne (by omega),← List.getD_eq_getElem?_getD,Adw hj]
  by_cases c:j<i
  ·rw[if_pos c,if_pos (by omega)]
  ·rw[if_neg c,if_neg (by omega)]
theorem Cnx(x y:Nat):Bib 5 x y=Aa0 x:=by
 refine Aon (d:=0) (by rw[Aa0,Ab6,Ab6]) fun j hj=>?_
 rw[Ab6] at hj
 rw[Aa0,Adw hj,Adw hj,if_pos hj,if_neg (by omega)]
theorem Cn2(x y:Nat):Bib 0 x y=Aa0 y:=by
 refine Aon (d:=0) (by rw[Aa0,Ab6,Ab6]) fun j hj=>?_
 rw[Ab6] at hj
 rw[Aa0,Adw hj,Adw hj]
 simp
theorem Btu:Aa0 0=[(0:Int),0,0,0,0]:=by decide
theorem Bz1{x y:Nat}(hx:x<2135987035920910082395021706169552114602704522356652769947041607822219725780640550022962086936576)(hy:y<2135987035920910082395021706169552114602704522356652769947041607822219725780640550022962086936576):Aa0 x=Aa0 y↔x=y:=by
 constructor
 ·intro h
  unfold Aa0 Bib lb at h
  simp only[List.range_succ,List.range_zero,List.nil_append,List.map_append,List.map_cons,List.map_nil,List.append_assoc,List.cons_append,Nat.pow_zero,Nat.pow_one,Nat.reducePow,Nat.div_one,List.cons.injEq,Nat.not_lt_zero,if_false,and_true] at h
  obtain⟨h0,h1,h2,h3,h4⟩:=h
  omega
 ·intro h;rw[h]
theorem Bej{a b:Nat}(hab:a+b<2135987035920910082395021706169552114602704522356652769947041607822219725780640550022962086936576)(hb:Al b) :
  Et (Aa0 a,Aw b,())=some ((Aa0 (a+b),()),(),(),()):=by
 unfold Al at hb
 unfold Et Z3
 refine Ak (I:=fun x=>∃ i c:Nat,i≤4∧c≤1∧(a+b) / 18446744073709551616 ^ i=a / 18446744073709551616 ^ i+b / 18446744073709551616 ^ i+c ∧
   x=(Bib i (a+b) a,Aw b,[(0:Int),0,0,0,0],(c:Int),(i:Int),()))
  (m:=fun x=>((4:Int)-x.2.2.2.2.1).toNat) (g:=fun _=>some ((Aa0 (a+b),()),(),(),())) ?_
  ⟨0,0,by omega,by omega,by simp,by rw[Cn2];rfl⟩ (by rw[Av];simp only;omega)
 rintro x again ⟨i,c,hi,hc,hd,rfl⟩ hag
 simp only at hag ⊢
 unfold Afc
 simp only[Ad,Ao,Aq]
 by_cases h1:(i:Int)<4
 ·obtain⟨s1,s2,s3⟩:=Bov hc hd
  have hai:((Bib i (a+b) a).getD i 0)=((lb a i:Nat):Int):=by rw[Adw (by omega),if_neg (by omega)]
  rw[if_pos h1,if_pos (by omega),if_pos (by omega),Int.toNat_natCast,hai,Alb hb (by omega),Bno (by omega)]
  simp only[Aa]
  rw[if_pos (by omega),Aue.1,Aue.2,s1,Byt (by omega),Ar (by omega) (by omega)]
  exact hag _ ⟨i+1,_,by omega,s2,s3,by rw[Int.natCast_add];rfl⟩ (by simp only;omega)
 ·have hi4:i=4:=by omega
  subst hi4
  rw[if_neg h1]
  have e:IntKind.wrap .u64 (((Bib 4 (a+b) a).getD 4 0)+(c:Int))=((lb (a+b) 4:Nat):Int):=by
   rw[Adw (by omega),if_neg (by omega)]
   unfold lb
   rw[hd]
   simp only[Nat.reducePow] at *
   rw[IntKind.wrap_u64]
   omega
  rw[e,Byt (by omega),Cnx]
theorem Bvs{l:List Nat}(hl:l.length≤1000)(hb:∀ n∈l,Al n):Lc (l.map Aw,())=some ((Aa0 l.sum,()),(),()):=by
 have hs:∀ i,(l.take i).sum≤i*115792089237316195423570985008687907853269984665640564039457584007913129639936:=by
  intro i
  induction i with
  | zero=>simp
  | succ i ih =>
   by_cases h:i<l.length
   ·have:(l.take (i+1)).sum=(l.take i).sum+l.getD i 0:=by
     rw[List.take_add_one,List.getElem?_eq_getElem h,List.sum_append,List.getD_eq_getElem?_getD,List.getElem?_eq_getElem h]
     simp
    have hb':=hb _ (Bt (d:=0) h)
    unfold Al at hb'
    rw[this,Nat.add_mul,Nat.one_mul]
    omega
   ·rw[List.take_of_length_le (by omega)]
    rw[List.take_of_length_le (by omega)] at ih
    refine Nat.le_trans ih (Nat.mul_le_mul_right _ (by omega))
 unfold Lc Ap8
 dsimp only
 refine Ak (I:=fun x=>∃ i:Nat,i≤l.length∧x=([(0:Int),0,0,0,0],Aa0 (l.take i).sum,l.map Aw,((l.length:Nat):Int),((i:Nat):Int),()))
  (m:=fun x=>(((l.length:Nat):Int)-x.2.2.2.2.1).toNat) (g:=fun _=>some ((Aa0 l.sum,()),(),())) ?_
  ⟨0,by omega,by rw[List.take_zero,List.sum_nil,Btu,List.length_map];rfl⟩ (by rw[Av];simp only;omega)
 rintro x again ⟨i,hi,rfl⟩ hag
 simp only at hag ⊢
 unfold Aq1
 rw[Ad,List.length_map]
 by_cases h1:((i:Nat):Int)<((l.length:Nat):Int)
 ·have e1:(l.take (i+1)).sum=(l.take i).sum+l.getD i 0:=by
   rw[List.take_add_one,List.getElem?_eq_getElem (by omega),List.sum_append,List.getD_eq_getElem?_getD,List.getElem?_eq_getElem (by omega)]
   simp
  have hb':=hb _ (Bt (d:=0) (show i<l.length by omega))
  have hs1:=hs i
  have e2:(l.map Aw).getD i [(0:Int),0,0,0]=Aw (l.getD i 0):=by
   rw[List.getD_eq_getElem?_getD,List.getD_eq_getElem?_getD,List.getElem?_map,List.getElem?_eq_getElem (by omega)];rfl
  have hi2:i*115792089237316195423570985008687907853269984665640564039457584007913129639936≤1000*115792089237316195423570985008687907853269984665640564039457584007913129639936:=Nat.mul_le_mul_right _ (by omega)
  rw[if_pos h1,Ao,if_pos (by omega),Int.toNat_natCast,e2]
  unfold Al at hb'
  rw[Bej (by omega) hb',Aa,Ar (by omega) (by omega),← e1]
  exact hag _ ⟨i+1,by omega,by rw[Int.natCast_add];rfl⟩ (by simp only;omega)
 ·rw[if_neg h1,List.take_of_length_le (by omega)]
open Classical in
theorem Bp1{s:T3}(h:Apx s):S4 (s,())=some ((decide (PRV s),()),(),()):=by
 have hl:=h.len
 unfold S4 Af1
 refine Ak (I:=fun y=>∃ i:Nat,i≤s.2.2.2.2.2.1.length∧(∀ j,j<i→(s.2.2.2.2.2.1.getD j Ax).2.2.2.2.2.1≤s.2.2.2.1)∧y=(s,s.2.2.2.2.2.1,(s.2.2.2.2.2.1.length:Int),(i:Int),())) (m:=fun y=>((s.2.2.2.2.2.1.length:Int)-y.2.2.2.1).toNat)
  (g:=fun _=>some ((decide (PRV s),()),(),())) ?_ ⟨0,Nat.zero_le _,fun j hj=>by omega,rfl⟩ (by rw[Av];simp only;omega)
 rintro y again ⟨i,hi,hall,rfl⟩ hag
 simp only at hag ⊢
 unfold Ajw
 rw[Ad]
 by_cases c:(i:Int)<(s.2.2.2.2.2.1.length:Int)
 ·rw[if_pos c,Ao,if_pos (by omega),Int.toNat_natCast,Ad]
  by_cases c2:(s.2.2.2.2.2.1.getD i Ax).2.2.2.2.2.1>s.2.2.2.1
  ·rw[if_pos c2,decide_eq_false (fun h'=>by
    have:=h'.si _ (Bt (l:=s.2.2.2.2.2.1) (d:=Ax) (show i<s.2.2.2.2.2.1.length by omega))
    omega)]
  ·rw[if_neg c2,Ar (by omega) (by omega)]
   refine hag _ ⟨i+1,by omega,fun j hj=>?_,by rw[Int.natCast_add];rfl⟩ (by simp only;omega)
   rcases Nat.lt_or_ge j i with q|q
   ·exact hall j q
   ·obtain rfl:j=i:=by omega
    omega
 ·rw[if_neg c,Ao7 h.ps (by omega),Aa]
  dsimp only
  have hsi:Aj3 s.2.2.2.2.2.1 s.2.2.2.1:=fun p hp=>by
   obtain⟨j,hj,rfl⟩:=List.getElem_of_mem hp
   have:=hall j (by omega)
   rwa [List.getD_eq_getElem?_getD,List.getElem?_eq_getElem hj] at this
  by_cases hv:Ahd s.2.2.2.2.2.1
  case neg =>
   rw[Ah0 hv,Bp,decide_eq_false (fun h'=>hv h'.ps)]
  rw[Q7.2 hv,Au]
  have hsu:=h.su
  have e:∀ {z:Axu},Awn z→F8 (z,())=some ((decide (Bnm z),()),(),()):=fun {z} hz=>by
   cases hz with
   | mk hb =>
    rename_i g n
    have e:(!g||!decide (n=0))=decide (Bnm (g,Aw n,())):=by
     rw[Bool.eq_iff_iff,decide_eq_true_iff]
     unfold Bnm
     dsimp only
     rw[Bk]
     cases g<;>by_cases hn:n=0<;>simp[hn]
    rw[Cam,e]
  rw[e hsu,Aa]
  dsimp only
  rw[show decide (Bnm s.2.2.2.2.1)=decide (PRV s) by rw[decide_eq_decide];exact⟨fun h=>⟨hv,h,hsi⟩,fun h=>h.su⟩]
def oS(ms:List Ff)(cl:List Bool):Nat→Nat
 | 0=>0
 | i+1=>oS ms cl i+(if cl.getD i false=true then 0 else Dw (ms.getD i Bj).2.2.1)
theorem Cjz{ms:List Ff}{cl:List Bool}{W:Nat}(hm:∀ i,i<ms.length→Dw (ms.getD i Bj).2.2.1≤W):∀ i,i≤ms.length→oS ms cl i≤i*W
 | 0,_=>Nat.zero_le _
 | i+1,hi=>by
  have ih:=Cjz (cl:=cl) hm i (by omega)
  have h2:=hm i (by omega)
  unfold oS
  rw[Nat.add_mul,Nat.one_mul]
  refine Nat.add_le_add ih ?_
  split
  ·exact Nat.zero_le _
  ·exact h2
theorem Cix{x:Ff}(h:Bcl x):Dw x.2.2.1≤115792089237316195423570985008687907853269984665640564039457584007913129639936:=by
 cases h with
 | mk a b c =>
  dsimp only
  rw[Bk]
  exact Nat.le_of_lt c
theorem Chc{ms:List Ff}(hm:O6 ms)(cl:List Bool)(i:Nat)(hi:i≤ms.length):oS ms cl i≤i*115792089237316195423570985008687907853269984665640564039457584007913129639936 :=
 Cjz (fun j hj=>Cix (hm.at hj Bj)) i hi
theorem Bil{l:List A5}{i:Nat}(h:i<l.length):En (l.take (i+1))=En (l.take i)+Dw (l.getD i Gs).2.1:=by
 rw[List.take_add_one,List.getElem?_eq_getElem h,Aj1,List.getD_eq_getElem?_getD,List.getElem?_eq_getElem h,Option.toList_some,Ng,Pz,Option.getD_some,Nat.add_zero]
theorem Caj{l:List A5}{W:Nat}(ha:∀ x∈l,Dw x.2.1≤W):∀ i,i≤l.length→En (l.take i)≤i*W
 | 0,_=>by rw[List.take_zero,Pz];exact Nat.zero_le _
 | i+1,hi=>by
  have ih:=Caj ha i (by omega)
  rw[Bil (by omega),Nat.add_mul,Nat.one_mul]
  exact Nat.add_le_add ih (ha _ (Bt (d:=Gs) (show i<l.length by omega)))
theorem Cn0{x:A5}(h:Ajp x):Dw x.2.1≤115792089237316195423570985008687907853269984665640564039457584007913129639936:=by
 cases h with
 | mk a b c =>
  dsimp only
  rw[Bk]
  exact Nat.le_of_lt b
theorem Bfj{l:List A5}(ha:Xu l)(i:Nat)(hi:i≤l.length):En (l.take i)≤i*115792089237316195423570985008687907853269984665640564039457584007913129639936 :=
 Caj (fun x hx=>Cn0 (ha x hx)) i hi
theorem Bvv{vs:List Nat}(h4:vs.length=4)(hb:∀ n∈vs,Al n):vs.sum≤4*115792089237316195423570985008687907853269984665640564039457584007913129639936:=by
 match vs,h4 with
 | [a,b,c,d],_ =>
  have h1:=hb a (by simp)
  have h2:=hb b (by simp)
  have h3:=hb c (by simp)
  have h4:=hb d (by simp)
  unfold Al at *
  simp only[List.sum_cons,List.sum_nil]
  omega
theorem Bwt{st bg:Int}{p:N6}{b:Aob}{s:T3}{ac:List A5}{vs:List (List Int)}{ms:List Ff}{cl:List Bool}{h:List Int}{l1:List Bn}(ha:O6 ms)(hl:ms.length≤100000) :
  G0 ((st,p,b,bg,s,ac,vs,ms,cl,h,l1,()),())=some ((okM ms&&decide (cl.length=ms.length),()),(),()):=by
 unfold G0 La
 refine Ak (I:=fun x=>∃ i:Nat,i≤ms.length∧x=((st,p,b,bg,s,ac,vs,ms,cl,h,l1,()),ms,(ms.length:Int),(i:Int),())∧∀ j,j<i→Bbz (ms.getD j Bj) j=true) (m:=fun x=>((ms.length:Int)-x.2.2.2.1).toNat)
  (g:=fun _=>some ((okM ms&&decide (cl.length=ms.length),()),(),())) ?_ ⟨0,by omega,rfl,fun j hj=>by omega⟩ (by rw[Av];simp only;omega)
 rintro x again ⟨i,hi,rfl,hg⟩ hag
 simp only at hag ⊢
 unfold Rq
 dsimp only
 rw[Ad]
 by_cases h1:(i:Int)<(ms.length:Int)
 ·have hil:i<ms.length:=by omega
  rw[if_pos h1,Ao,if_pos (by omega),Int.toNat_natCast,H4 (by omega) (by omega),Ar (by omega) (by omega)]
  rw[show (((0:Int),(0:Int),[(0:Int),0,0,0],()):Ff)=Bj from rfl]
  have hm:=ha.at hil Bj
  have hb:Bbz (ms.getD i Bj) i=false→okM ms=false:=fun hgi=>by
   rw[Bool.eq_false_iff]
   intro h
   rw[Bl5.1 h i hil] at hgi;cases hgi
  have hn:Bbz (ms.getD i Bj) i=true→again ((st,p,b,bg,s,ac,vs,ms,cl,h,l1,()),ms,(ms.length:Int),(i:Int)+1,())=some ((okM ms&&decide (cl.length=ms.length),()),(),()):=fun hgi=>hag _ ⟨i+1,by omega,by rw[Int.natCast_add];rfl,fun j hj=>by
   by_cases e:j=i
   ·rw[e];exact hgi
   ·exact hg j (by omega)⟩ (by simp only;omega)
  clear hag hg
  generalize ms.getD i Bj=m at hm hb hn ⊢
  obtain⟨hs,ht,hv⟩:=hm
  rename_i s' t v
  unfold Bbz at hb hn
  simp only[Bk] at hb hn ⊢
  rw[show ([(0:Int),0,0,0]:List Int)=Aw 0 from rfl,Aim,Aq,Ad]
  by_cases c1:s'=(i:Int)
  ·rw[if_pos c1,Ad]
   by_cases c2:t=0
   ·rw[if_pos c2,hb (by simp[c2]),Bool.false_and]
   ·rw[if_neg c2,Ad]
    by_cases c3:v=0
    ·rw[if_pos c3,hb (by simp[c3]),Bool.false_and]
    ·rw[if_neg c3]
     exact hn (by simp[c1,c2,c3])
  ·rw[if_neg c1,hb (by simp[c1]),Bool.false_and]
 ·rw[if_neg h1,Bl5.2 fun j hj=>hg j (by omega),Bool.true_and]
  rw[show decide ((cl.length:Int)=(ms.length:Int))=decide (cl.length=ms.length) by rw[decide_eq_decide];omega]
theorem Bnt{st bg:Int}{p:N6}{b:Aob}{s:T3}{ac:List A5}{vs:List Nat}{ms:List Ff}{cl:List Bool}{h:Nat}{l1:List Bn}(ha:Xu ac)(h1:ac.length≤20000)(hv:vs.length=4)(hvb:∀ n∈vs,Al n)(hm:O6 ms)(h2:ms.length≤20000)(hc:cl.length=ms.length)(hh:Al h) :
  Gu ((st,p,b,bg,s,ac,vs.map Aw,ms,cl,Aw h,l1,()),())=some ((decide (En ac+vs.sum+oS ms cl ms.length=h),()),(),()):=by
 have hv4:=Bvv hv hvb
 have key:Ac _ _ (fun again x=>Kx Et Lc again x.1 x.2.1 x.2.2.1 x.2.2.2.1 x.2.2.2.2.1) ((st,p,b,bg,s,ac,vs.map Aw,ms,cl,Aw h,l1,()),Aa0 (En ac+vs.sum),ms,(ms.length:Int),(0:Int),()) =
   some ((decide (En ac+vs.sum+oS ms cl ms.length=h),()),(),()):=by
  have hs:=Bfj ha ac.length (Nat.le_refl _)
  rw[List.take_length] at hs
  have hs2:ac.length*115792089237316195423570985008687907853269984665640564039457584007913129639936≤20000*115792089237316195423570985008687907853269984665640564039457584007913129639936:=Nat.mul_le_mul_right _ h1
  generalize hS:En ac+vs.sum=S0
  have hS0:S0≤20004*115792089237316195423570985008687907853269984665640564039457584007913129639936:=by omega
  clear hs hs2 hv4
  refine Ak (I:=fun x=>∃ i:Nat,i≤ms.length∧x=((st,p,b,bg,s,ac,vs.map Aw,ms,cl,Aw h,l1,()),Aa0 (S0+oS ms cl i),ms,(ms.length:Int),(i:Int),())) (m:=fun x=>((ms.length:Int)-x.2.2.2.2.1).toNat)
   (g:=fun _=>some ((decide (S0+oS ms cl ms.length=h),()),(),())) ?_ ⟨0,by omega,rfl⟩ (by rw[Av];simp only;omega)
  rintro x again ⟨i,hi,rfl⟩ hag
  simp only at hag ⊢
  have ho:=Chc hm cl i hi
  have ho2:i*115792089237316195423570985008687907853269984665640564039457584007913129639936≤20000*115792089237316195423570985008687907853269984665640564039457584007913129639936:=Nat.mul_le_mul_right _ (by omega)
  unfold Kx
  dsimp only
  rw[Ad]
  by_cases c:(i:Int)<(ms.length:Int)
  ·rw[if_pos c,Ao,if_pos (by omega),Ao,if_pos (by omega),Int.toNat_natCast,Ar (by omega) (by omega)]
   rw[show (((0:Int),(0:Int),[(0:Int),0,0,0],()):Ff)=Bj from rfl]
   have hw:=hm.at (show i<ms.length by omega) Bj
   have hn:again ((st,p,b,bg,s,ac,vs.map Aw,ms,cl,Aw h,l1,()),Aa0 (S0+(oS ms cl i+if cl.getD i false=true then 0 else Dw (ms.getD i Bj).2.2.1)),ms,(ms.length:Int),(i:Int)+1,())=some ((decide (S0+oS ms cl ms.length=h),()),(),()) :=
    hag _ ⟨i+1,by omega,by rw[Int.natCast_add];rfl⟩ (by simp only;omega)
   clear hag
   generalize ms.getD i Bj=m at hw hn ⊢
   obtain⟨q1,q2,q3⟩:=hw
   rename_i s' t v
   dsimp only at hn ⊢
   rw[Bk] at hn
   generalize cl.getD i false=q at hn ⊢
   cases q with
   | true =>
    rw[if_pos rfl,Nat.add_zero] at hn
    rw[Bool.not_true,Bp]
    exact hn
   | false =>
    rw[if_neg (by decide),← Nat.add_assoc] at hn
    rw[Bool.not_false,Au,Bej (by omega) q3,Aa]
    exact hn
  ·have hi':i=ms.length:=by omega
   subst hi'
   rw[if_neg c]
   have:=Bvs (l:=[h]) (by simp) (fun n hn=>by rw[List.mem_singleton.1 hn];exact hh)
   simp only[List.map_cons,List.map_nil,List.sum_cons,List.sum_nil,Nat.add_zero] at this
   unfold Al at hh
   rw[this,Aa]
   dsimp only
   rw[Bv5,show decide (Aa0 (S0+oS ms cl ms.length)=Aa0 h)=decide (S0+oS ms cl ms.length=h) by rw[decide_eq_decide];exact Bz1 (by omega) (by omega)]
 unfold Gu Lb
 dsimp only
 rw[show List.take (4-0) (List.drop 0 (vs.map Aw))=vs.map Aw by rw[List.drop_zero,List.take_of_length_le (by simp;omega)],Bvs (by omega) hvb,Aa]
 dsimp only
 refine Ak (I:=fun x=>∃ i:Nat,i≤ac.length∧x=((st,p,b,bg,s,ac,vs.map Aw,ms,cl,Aw h,l1,()),Aa0 (vs.sum+En (ac.take i)),ac,(ac.length:Int),(i:Int),())) (m:=fun x=>((ac.length:Int)-x.2.2.2.2.1).toNat)
  (g:=fun _=>some ((decide (En ac+vs.sum+oS ms cl ms.length=h),()),(),())) ?_ ⟨0,by omega,by rw[List.take_zero,Pz];rfl⟩ (by rw[Av];simp only;omega)
 rintro x again ⟨i,hi,rfl⟩ hag
 simp only at hag ⊢
 unfold Rl
 dsimp only
 rw[Ad]
 by_cases c:(i:Int)<(ac.length:Int)
 ·have ho:=Bfj ha i hi
  have ho2:i*115792089237316195423570985008687907853269984665640564039457584007913129639936≤20000*115792089237316195423570985008687907853269984665640564039457584007913129639936:=Nat.mul_le_mul_right _ (by omega)
  rw[if_pos c,Ao,if_pos (by omega),Int.toNat_natCast,Ar (by omega) (by omega)]
  rw[show (((0:Int),[(0:Int),0,0,0],(0:Int),()):A5)=Gs from rfl]
  have hw:=ha _ (Bt (d:=Gs) (show i<ac.length by omega))
  have hn:again ((st,p,b,bg,s,ac,vs.map Aw,ms,cl,Aw h,l1,()),Aa0 (vs.sum+(En (ac.take i)+Dw (ac.getD i Gs).2.1)),ac,(ac.length:Int),(i:Int)+1,())=some ((decide (En ac+vs.sum+oS ms cl ms.length=h),()),(),()) :=
   hag _ ⟨i+1,by omega,by rw[Int.natCast_add,Bil (by omega)];rfl⟩ (by simp only;omega)
  clear hag
  generalize ac.getD i Gs=m at hw hn ⊢
  obtain⟨q1,q2,q3⟩:=hw
  dsimp only at hn ⊢
  unfold Al at q2
  rw[Bk,← Nat.add_assoc] at hn
  rw[Bej (by omega) q2,Aa]
  exact hn
 ·have hi':i=ac.length:=by omega
  subst hi'
  rw[if_neg c,List.take_length,Nat.add_comm vs.sum]
  exact key
theorem O6.append{l e:List Ff}(h:O6 l)(h2:O6 e):O6 (l++e):=fun x hx=>by
 rcases List.mem_append.1 hx with h'|h'
 ·exact h x h'
 ·exact h2 x h'
theorem O6.one{m:Ff}(h:Bcl m):O6 [m]:=fun x hx=>by
 rw[List.mem_singleton.1 hx];exact h
theorem O6.set{l:List Ff}(h:O6 l)(k:Nat){m:Ff}(hm:Bcl m):O6 (List.set l k m):=fun x hx=>by
 rcases List.mem_or_eq_of_mem_set hx with h'|h'
 ·exact h x h'
 ·rw[h'];exact hm
set_option maxRecDepth 100000
theorem both{r l:List Int}{n i:Int}{p:List (List Int)}(hn:n≤9223372036854775807)(hp:p.length≤64)(hf:H32 l)(ha:Te p) :
  ∃ b,Afm (r,n,i,l,p,())=some ((b,()),(),(),(),(),(),())∧Ph (r,n,i,l,p,())=some ((b,()),(),(),(),(),(),()) :=
 ⟨_,Ce5 hn (by omega) hf ha,Bpg hn hp hf ha⟩
theorem Te.set{l:List (List Int)}{x:List Int}{i:Nat}(h:Te l)(hx:H32 x):Te (l.set i x):=fun y hy=>by
 rcases List.mem_or_eq_of_mem_set hy with hy|rfl
 ·exact h y hy
 ·exact hx
theorem Azj.root{r:List (List Int)}{cl:List Bool}{h:Nat}{p:List Bn}{cs:List Int}{m:List Bn}(e:Azj r cl h p cs m)(x:List Int):Azj (r++[x]) (cl++[false]) h p cs m:=by
 refine⟨⟨by rw[List.length_append,List.length_append,e.inv.len];rfl,e.inv.held,e.inv.srt,e.inv.ne,e.inv.all⟩,fun y hy=>?_,e.dist,e.all,e.ne,e.sort⟩
 rw[e.cls y hy]
 have:(cl++[false]).getD y.toNat false=cl.getD y.toNat false:=by
  rw[List.getD_eq_getElem?_getD,List.getD_eq_getElem?_getD,List.getElem?_append]
  split
  ·rfl
  ·rename_i hxx
   rw[List.getElem?_eq_none (l:=cl) (by omega)]
   cases hk:y.toNat-cl.length with
   | zero=>rfl
   | succ k=>rfl
 rw[this]
def okQ(l:List Bn)(i:Nat):Prop:=(l.getD i Eb).1≠0∧¬ Ala (l.getD i Eb)∧(0<i→(l.getD (i-1) Eb).1<(l.getD i Eb).1)
def VP(l:List Bn):Prop:=∀ i,i<l.length→okQ l i
theorem VP.srt{l:List Bn}(h:VP l):Bcs l:=by
 refine List.pairwise_iff_getElem.2 fun i j hi hj hij=>?_
 have key:∀ d,i+1+d<l.length→(l.getD i Eb).1<(l.getD (i+1+d) Eb).1:=by
  intro d
  induction d with
  | zero=>intro hd;exact (h (i+1) (by omega)).2.2 (by omega)
  | succ d ih =>
   intro hd
   have h1:=ih (by omega)
   have h2:=(h (i+1+(d+1)) hd).2.2 (by omega)
   rw[show i+1+(d+1)-1=i+1+d by omega] at h2
   omega
 have:=key (j-i-1) (by omega)
 rw[show i+1+(j-i-1)=j by omega,List.getD_eq_getElem?_getD,List.getElem?_eq_getElem hi,List.getD_eq_getElem?_getD,List.getElem?_eq_getElem hj] at this
 exact this
theorem VP.ne{l:List Bn}(h:VP l):NEP l:=fun x hx=>by
 obtain⟨i,hi,rfl⟩:=List.getElem_of_mem hx
 have:=(h i hi).2.1
 rw[List.getD_eq_getElem?_getD,List.getElem?_eq_getElem hi] at this
 exact this
theorem Bf5{x:Bn}(h:Akj x):Ala x↔Dw x.2.1=0:=by
 obtain⟨h1,h2⟩:=h
 unfold Ala
 simp only[Prod.mk.injEq,true_and,and_true]
 rw[← Brl,Bfa,Bk]
theorem Cb6{x:Bn}(h:Akj x):Bd (x.2.1,())=some ((decide (Dw x.2.1=0),()),(),()):=by
 obtain⟨h1,h2⟩:=h
 simp only
 rw[Nh,Bk]
open Classical in
theorem Cbm{l:List Bn}(ha:Fh l)(hl:l.length≤100000):Iq (l,())=some ((decide (VP l),()),(),()):=by
 unfold Iq Wo
 refine Ak (I:=fun x=>∃ i:Nat,i≤l.length∧(∀ j,j<i→okQ l j)∧x=(l,(i:Int),())) (m:=fun x=>((l.length:Int)-x.2.1).toNat)
  (g:=fun _=>some ((decide (VP l),()),(),())) ?_
  ⟨0,by omega,fun j hj=>by omega,rfl⟩ (by rw[Av];simp only;omega)
 rintro x again ⟨i,hi,hok,rfl⟩ hag
 simp only at hag ⊢
 unfold Xc
 rw[Bul]
 simp only[Am,Ad,Ao]
 by_cases h:(i:Int)<(l.length:Int)
 ·have hil:i<l.length:=by omega
  have ii:(0:Int)≤(i:Int)∧(i:Int)<(l.length:Int):=by omega
  have bad:¬ okQ l i→decide (VP l)=false:=fun h=>decide_eq_false fun hv=>h (hv i hil)
  have hnx:okQ l i→again (l,(i:Int)+1,())=some ((decide (VP l),()),(),()):=fun h =>
   hag _ ⟨i+1,by omega,fun j hj=>by
    by_cases e:j=i
    ·rw[e];exact h
    ·exact hok j (by omega),by rw[Int.natCast_add];rfl⟩ (by simp only;omega)
  clear hag
  have hwi:IntKind.wrap .i64 ((i:Int)+1)=(i:Int)+1:=Ar (by omega) (by omega)
  have hwj:IntKind.wrap .i64 ((i:Int)-1)=(i:Int)-1:=Ar (by omega) (by omega)
  have htj:((i:Int)-1).toNat=i-1:=by omega
  simp only[if_pos h,if_pos ii,hwi,hwj,htj,Int.toNat_natCast]
  have hw:=ha.at i
  have e:=Bf5 hw
  have ez:=Cb6 hw
  clear hw
  generalize Dw (l.getD i Eb).2.1=q at e ez
  rw[ez,Aa]
  dsimp only
  rw[Ad]
  unfold okQ at bad hnx
  generalize l.getD i Eb=y at *
  by_cases c1:y.1=0
  ·rw[if_pos c1,bad fun h=>h.1 c1]
  rw[if_neg c1]
  have tail:(0<i→(l.getD (i-1) Eb).1<y.1)→(if q=0 then some ((false,()),(),()) else again (l,(i:Int)+1,()))=some ((decide (VP l),()),(),()):=fun hq=>by
   by_cases c2:q=0
   ·rw[if_pos c2,bad fun h=>h.2.1 (e.2 c2)]
   ·rw[if_neg c2]
    exact hnx ⟨c1,fun h=>c2 (e.1 h),hq⟩
  by_cases c3:(i:Int)>0
  ·rw[if_pos c3,if_pos (by omega)]
   by_cases c4:y.1≤(l.getD (i-1) Eb).1
   ·rw[if_pos c4,bad fun h=>by have:=h.2.2 (by omega);omega]
   ·rw[if_neg c4]
    exact tail fun _=>by omega
  ·rw[if_neg c3]
   exact tail fun _=>by omega
 ·have hva:VP l:=fun j hj=>hok j (by omega)
  rw[if_neg h,decide_eq_true hva]
theorem Bqg{α:Type}(d:α)(x:Int)(y:α)(a:Int):∀ (l:List (Int×α)),Rn d (K4 l x y) a=if x=a then y else Rn d l a
 | []=>by
  unfold K4 Rn
  by_cases h:x=a
  ·rw[decide_eq_true h,cond_true,if_pos h]
  ·rw[decide_eq_false h,cond_false,if_neg h];rfl
 | p::l=>by
  unfold K4
  by_cases h:p.1=x
  ·rw[decide_eq_true h,cond_true]
   unfold Rn
   by_cases h2:x=a
   ·rw[decide_eq_true h2,cond_true,if_pos h2]
   ·rw[decide_eq_false h2,cond_false,if_neg h2,decide_eq_false (fun e=>h2 (h.symm.trans e)),cond_false]
  ·rw[decide_eq_false h,cond_false]
   unfold Rn
   by_cases h2:p.1=a
   ·rw[decide_eq_true h2,cond_true,cond_true,if_neg (fun e=>h (h2.trans e.symm))]
   ·rw[decide_eq_false h2,cond_false,cond_false,Bqg d x y a l]
def Adt{α:Type}(l:List (Int×α)):List Int:=l.map (·.1)
theorem Ave{α:Type}(x:Int)(y:α)(a:Int):∀ (l:List (Int×α)),a∈Adt (K4 l x y)↔a=x∨a∈Adt l
 | []=>by simp[K4,Adt]
 | p::l=>by
  unfold K4
  by_cases h:p.1=x
  ·rw[decide_eq_true h,cond_true]
   simp only[Adt,List.map_cons,List.mem_cons]
   rw[h]
   constructor
   ·rintro (e|e)
    ·exact .inl e
    ·exact .inr (.inr e)
   ·rintro (e|e|e)
    ·exact .inl e
    ·exact .inl e
    ·exact .inr e
  ·rw[decide_eq_false h,cond_false]
   have ih:=Ave x y a l
   simp only[Adt,List.map_cons,List.mem_cons] at ih ⊢
   rw[ih]
   constructor
   ·rintro (e|e|e)
    ·exact .inr (.inl e)
    ·exact .inl e
    ·exact .inr (.inr e)
   ·rintro (e|e|e)
    ·exact .inr (.inl e)
    ·exact .inl e
    ·exact .inr (.inr e)
theorem Ayg{α:Type}(x:Int)(y:α):∀ (l:List (Int×α)),(Adt l).Nodup→(Adt (K4 l x y)).Nodup
 | [],_=>by simp[K4,Adt]
 | p::l,hn=>by
  unfold K4
  by_cases h:p.1=x
  ·rw[decide_eq_true h,cond_true]
   simp only[Adt,List.map_cons] at hn ⊢
   rw[← h];exact hn
  ·rw[decide_eq_false h,cond_false]
   have hn':p.1 ∉ Adt l∧(Adt l).Nodup:=by simpa [Adt] using hn
   have ih:=Ayg x y l hn'.2
   have hm:p.1 ∉ Adt (K4 l x y):=fun hm=>by
    rcases (Ave x y p.1 l).1 hm with e|e
    ·exact h e
    ·exact hn'.1 e
   exact List.nodup_cons.2 ⟨hm,ih⟩
theorem Beu:∀ {a b:List Int},a.Nodup→(∀ x∈a,x∈b)→a.length≤b.length
 | [],_,_,_=>Nat.zero_le _
 | x::a,b,hn,hs=>by
  rw[List.nodup_cons] at hn
  have hx:=hs x (List.mem_cons_self ..)
  have h1:∀ y∈a,y∈b.erase x:=fun y hy=>(List.mem_erase_of_ne (fun e=>hn.1 (by rw[← e];exact hy))).2 (hs y (List.mem_cons_of_mem _ hy))
  have h2:=Beu hn.2 h1
  have h3:=List.length_erase_of_mem hx
  have h4:0<b.length:=List.length_pos_of_mem hx
  rw[List.length_cons]
  omega
def cS(ms:List Ff)(cl:List Bool)(a:Int):Nat→Nat
 | 0=>0
 | i+1=>cS ms cl a i+(if cl.getD i false=true∧(ms.getD i Bj).2.1=a then Dw (ms.getD i Bj).2.2.1 else 0)
theorem Cd9(ms:List Ff)(cl:List Bool)(a:Int)(i:Nat):cS ms cl a (i+1)=cS ms cl a i+(if cl.getD i false=true∧(ms.getD i Bj).2.1=a then Dw (ms.getD i Bj).2.2.1 else 0):=rfl
theorem Cjt{ms:List Ff}{cl:List Bool}{a:Int}{W:Nat}(hm:∀ i,i<ms.length→Dw (ms.getD i Bj).2.2.1≤W):∀ i,i≤ms.length→cS ms cl a i≤i*W
 | 0,_=>Nat.zero_le _
 | i+1,hi=>by
  have ih:=Cjt (cl:=cl) (a:=a) hm i (by omega)
  have h2:=hm i (by omega)
  unfold cS
  rw[Nat.add_mul,Nat.one_mul]
  refine Nat.add_le_add ih ?_
  split
  ·exact h2
  ·exact Nat.zero_le _
theorem Cdr{ms:List Ff}(hm:O6 ms)(cl:List Bool)(a:Int)(i:Nat)(hi:i≤ms.length):cS ms cl a i≤i*115792089237316195423570985008687907853269984665640564039457584007913129639936 :=
 Cjt (fun j hj=>Cix (hm.at hj Bj)) i hi
theorem Ceh{ms:List Ff}{cl:List Bool}{a:Int}:∀ i,(∀ j,j<i→¬ (cl.getD j false=true∧(ms.getD j Bj).2.1=a))→cS ms cl a i=0
 | 0,_=>rfl
 | i+1,h=>by
  unfold cS
  rw[Ceh i (fun j hj=>h j (by omega)),if_neg (h i (by omega))]
structure Bv9(ms:List Ff)(cl:List Bool)(i:Nat)(g:List (Int×List Int)):Prop where
 get:∀ a,Rn [(0:Int),0,0,0,0] g a=Aa0 (cS ms cl a i)
 nod:(Adt g).Nodup
 key:∀ a,a∈Adt g↔∃ j,j<i∧cl.getD j false=true∧(ms.getD j Bj).2.1=a
 len:g.length≤i
theorem Boc{α:Type}(x:Int)(y:α):∀ (l:List (Int×α)),(K4 l x y).length≤l.length+1
 | []=>by simp[K4]
 | p::l=>by
  unfold K4
  by_cases h:p.1=x
  ·rw[decide_eq_true h,cond_true,List.length_cons,List.length_cons];omega
  ·have:=Boc x y l
   rw[decide_eq_false h,cond_false,List.length_cons,List.length_cons];omega
theorem Bv9.none{ms:List Ff}{cl:List Bool}{i:Nat}{g:List (Int×List Int)}(h:Bv9 ms cl i g)(hc:cl.getD i false=false):Bv9 ms cl (i+1) g where
 get a:=by
  rw[Cd9,if_neg (fun e=>by rw[hc] at e;cases e.1),Nat.add_zero]
  exact h.get a
 nod:=h.nod
 key a:=by
  rw[h.key]
  constructor
  ·rintro⟨j,h1,h2⟩;exact⟨j,by omega,h2⟩
  ·rintro⟨j,h1,h2,h3⟩
   refine⟨j,?_,h2,h3⟩
   by_cases e:j=i
   ·rw[e,hc] at h2;cases h2
   ·omega
 len:=by have:=h.len;omega
theorem Bv9.some{ms:List Ff}{cl:List Bool}{i:Nat}{g:List (Int×List Int)}(h:Bv9 ms cl i g)(hc:cl.getD i false=true) :
  Bv9 ms cl (i+1) (K4 g (ms.getD i Bj).2.1 (Aa0 (cS ms cl (ms.getD i Bj).2.1 i+Dw (ms.getD i Bj).2.2.1))) where
 get a:=by
  rw[Bqg,Cd9]
  by_cases e:(ms.getD i Bj).2.1=a
  ·rw[if_pos e,if_pos ⟨hc,e⟩,e]
  ·rw[if_neg e,if_neg (fun h=>e h.2),Nat.add_zero]
   exact h.get a
 nod:=Ayg _ _ _ h.nod
 key a:=by
  rw[Ave,h.key]
  constructor
  ·rintro (e | ⟨j,h1,h2⟩)
   ·exact⟨i,by omega,hc,e.symm⟩
   ·exact⟨j,by omega,h2⟩
  ·rintro⟨j,h1,h2,h3⟩
   by_cases e:j=i
   ·left;rw[← h3,e]
   ·exact .inr ⟨j,by omega,h2,h3⟩
 len:=by have:=h.len;have:=Boc (ms.getD i Bj).2.1 (Aa0 (cS ms cl (ms.getD i Bj).2.1 i+Dw (ms.getD i Bj).2.2.1)) g;omega
structure CM(ms:List Ff)(cl:List Bool)(l1:List Bn):Prop where
 vp:VP l1
 eq:∀ i,i<l1.length→cS ms cl (l1.getD i Eb).1 ms.length=Dw (l1.getD i Eb).2.1
 all:∀ j,j<ms.length→cl.getD j false=true→∃ x∈l1,x.1=(ms.getD j Bj).2.1
theorem VP.nodup{l:List Bn}(h:VP l):(l.map (·.1)).Nodup:=by
 have:=h.srt
 unfold Bcs at this
 rw[List.Nodup,List.pairwise_map]
 exact this.imp fun hab e=>by omega
theorem By7{l:List Bn}{x:Bn}(h:x∈l):∃ i,i<l.length∧l.getD i Eb=x:=by
 obtain⟨i,hi,rfl⟩:=List.getElem_of_mem h
 exact⟨i,hi,by rw[List.getD_eq_getElem?_getD,List.getElem?_eq_getElem hi];rfl⟩
theorem Coc{ms:List Ff}{cl:List Bool}{l1:List Bn}{g:List (Int×List Int)}(hg:Bv9 ms cl ms.length g)(hp:Fh l1)(hv:VP l1)(he:∀ i,i<l1.length→cS ms cl (l1.getD i Eb).1 ms.length=Dw (l1.getD i Eb).2.1) :
  g.length=l1.length↔CM ms cl l1:=by
 have hl:(Adt g).length=g.length:=List.length_map ..
 have hl2:(l1.map (·.1)).length=l1.length:=List.length_map ..
 have hsub:∀ a∈l1.map (·.1),a∈Adt g:=fun a ha=>by
  obtain⟨x,hx,rfl⟩:=List.mem_map.1 ha
  obtain⟨i,hi,rfl⟩:=By7 hx
  rw[hg.key]
  refine Classical.byContradiction fun hn=>?_
  have h0:=Ceh (ms:=ms) (cl:=cl) (a:=(l1.getD i Eb).1) ms.length (fun j hj h=>hn ⟨j,hj,h⟩)
  rw[he i hi] at h0
  exact (hv i hi).2.1 ((Bf5 (hp.at i)).2 h0)
 have hle:=Beu hv.nodup hsub
 constructor
 ·intro h
  refine⟨hv,he,fun j hj hc=>?_⟩
  refine Classical.byContradiction fun hn=>?_
  have hk:(ms.getD j Bj).2.1∈Adt g:=(hg.key _).2 ⟨j,hj,hc,rfl⟩
  have hnot:(ms.getD j Bj).2.1 ∉ l1.map (·.1):=fun h=>by
   obtain⟨x,hx,e⟩:=List.mem_map.1 h
   exact hn ⟨x,hx,e⟩
  have:=Beu (a:=(ms.getD j Bj).2.1::l1.map (·.1)) (b:=Adt g) (List.nodup_cons.2 ⟨hnot,hv.nodup⟩) (fun y hy=>by
   rcases List.mem_cons.1 hy with rfl|hy
   ·exact hk
   ·exact hsub y hy)
  rw[List.length_cons] at this
  omega
 ·intro h
  have:=Beu (a:=Adt g) (b:=l1.map (·.1)) hg.nod (fun a ha=>by
   obtain⟨j,hj,hc,rfl⟩:=(hg.key a).1 ha
   obtain⟨x,hx,e⟩:=h.all j hj hc
   exact List.mem_map.2 ⟨x,hx,e⟩)
  omega
open Classical in
theorem Cj6{st bg:Int}{p:N6}{b:Aob}{s:T3}{ac:List A5}{vs:List (List Int)}{ms:List Ff}{cl:List Bool}{h:List Int}{l1:List Bn}(hm:O6 ms)(h2:ms.length≤20000)(hp:Fh l1)(h3:l1.length≤20000)
  {g:List (Int×List Int)} (hg:Bv9 ms cl ms.length g) :
  Ac _ _ (fun again x=>Ma Lc again x.1 x.2.1 x.2.2.1 x.2.2.2.1 x.2.2.2.2.1) ((st,p,b,bg,s,ac,vs,ms,cl,h,l1,()),g,l1,(l1.length:Int),(0:Int),()) =
   some ((decide (CM ms cl l1),()),(),()):=by
 have hgl:=hg.len
 refine Ak (I:=fun x=>∃ i:Nat,i≤l1.length∧(∀ j,j<i→okQ l1 j∧cS ms cl (l1.getD j Eb).1 ms.length=Dw (l1.getD j Eb).2.1)∧x=((st,p,b,bg,s,ac,vs,ms,cl,h,l1,()),g,l1,(l1.length:Int),(i:Int),())) (m:=fun x=>((l1.length:Int)-x.2.2.2.2.1).toNat)
  (g:=fun _=>some ((decide (CM ms cl l1),()),(),())) ?_ ⟨0,by omega,fun j hj=>by omega,rfl⟩ (by rw[Av];simp only;omega)
 rintro x again ⟨i,hi,hok,rfl⟩ hag
 simp only at hag ⊢
 unfold Ma
 dsimp only
 rw[Am,Am,Am,Ad]
 by_cases c:(i:Int)<(l1.length:Int)
 ·have hil:i<l1.length:=by omega
  have bad:¬ (okQ l1 i∧cS ms cl (l1.getD i Eb).1 ms.length=Dw (l1.getD i Eb).2.1)→decide (CM ms cl l1)=false:=fun h=>decide_eq_false fun hv=>h ⟨hv.vp i hil,hv.eq i hil⟩
  have hnx:(okQ l1 i∧cS ms cl (l1.getD i Eb).1 ms.length=Dw (l1.getD i Eb).2.1)→again ((st,p,b,bg,s,ac,vs,ms,cl,h,l1,()),g,l1,(l1.length:Int),(i:Int)+1,())=some ((decide (CM ms cl l1),()),(),()):=fun h =>
   hag _ ⟨i+1,by omega,fun j hj=>by
    by_cases e:j=i
    ·rw[e];exact h
    ·exact hok j (by omega),by rw[Int.natCast_add];rfl⟩ (by simp only;omega)
  clear hag
  have hwi:IntKind.wrap .i64 ((i:Int)+1)=(i:Int)+1:=Ar (by omega) (by omega)
  have hwj:IntKind.wrap .i64 ((i:Int)-1)=(i:Int)-1:=Ar (by omega) (by omega)
  have htj:((i:Int)-1).toNat=i-1:=by omega
  rw[if_pos c,Ao,if_pos (by omega),hwi,hwj,htj,Int.toNat_natCast]
  rw[show (((0:Int),[(0:Int),0,0,0],()):Bn)=Eb from rfl]
  have hw:=hp.at i
  have e:=Bf5 hw
  have hcs:=Cdr hm cl (l1.getD i Eb).1 ms.length (Nat.le_refl _)
  have hcs2:ms.length*115792089237316195423570985008687907853269984665640564039457584007913129639936≤20000*115792089237316195423570985008687907853269984665640564039457584007913129639936:=Nat.mul_le_mul_right _ h2
  rw[hg.get]
  unfold okQ at bad hnx
  generalize l1.getD i Eb=y at *
  cases hw with
  | mk hya hyb =>
  rename_i a v
  dsimp only at *
  rw[Bk] at *
  have hof:=Bvs (l:=[v]) (by simp) (fun n hn=>by rw[List.mem_singleton.1 hn];exact hyb)
  simp only[List.map_cons,List.map_nil,List.sum_cons,List.sum_nil,Nat.add_zero] at hof
  rw[hof]
  generalize cS ms cl a ms.length=z at *
  have hinj:Aa0 z=Aa0 v↔z=v:=Bz1 (by omega) (by unfold Al at hyb;omega)
  rw[← Anh,Aim,Aa]
  dsimp only
  rw[Bv5,Ad]
  by_cases c1:a=0
  ·rw[if_pos c1,bad fun h=>h.1.1 c1]
  rw[if_neg c1,Ad]
  by_cases c2:v=0
  ·rw[if_pos c2,bad fun h=>h.1.2.1 (e.2 c2)]
  rw[if_neg c2,Ad]
  have tail:(0<i→(l1.getD (i-1) Eb).1<a)→(Ah (!decide (Aa0 z=Aa0 v)) (some ((false,()),(),())) (again ((st,p,b,bg,s,ac,vs,ms,cl,h,l1,()),g,l1,(l1.length:Int),(i:Int)+1,())))=some ((decide (CM ms cl l1),()),(),()):=fun hq=>by
   rw[Aq,Ad]
   by_cases c3:Aa0 z=Aa0 v
   ·rw[if_pos c3]
    exact hnx ⟨⟨c1,fun h=>c2 (e.1 h),hq⟩,hinj.1 c3⟩
   ·rw[if_neg c3,bad fun h=>c3 (hinj.2 h.2)]
  by_cases c3:(i:Int)>0
  ·rw[if_pos c3,Ao,if_pos (by omega),Ad]
   by_cases c4:a≤(l1.getD (i-1) Eb).1
   ·rw[if_pos c4,bad fun h=>by have:=h.1.2.2 (by omega);omega]
   ·rw[if_neg c4]
    exact tail fun _=>by omega
  ·rw[if_neg c3]
   exact tail fun _=>by omega
 ·have hi':i=l1.length:=by omega
  subst hi'
  have hv:VP l1:=fun j hj=>(hok j hj).1
  have:=Coc hg hp hv (fun j hj=>(hok j hj).2)
  rw[if_neg c,Ad,if_pos (by omega),show decide ((g.length:Int)=(l1.length:Int))=decide (CM ms cl l1) by
   rw[decide_eq_decide,← this];omega]
open Classical in
theorem Bwh{st bg:Int}{p:N6}{b:Aob}{s:T3}{ac:List A5}{vs:List (List Int)}{ms:List Ff}{cl:List Bool}{h:List Int}{l1:List Bn}(hm:O6 ms)(h2:ms.length≤20000)(hc:cl.length=ms.length)(hp:Fh l1)(h3:l1.length≤20000) :
  Ie ((st,p,b,bg,s,ac,vs,ms,cl,h,l1,()),())=some ((decide (CM ms cl l1),()),(),()):=by
 unfold Ie My
 refine Ak (I:=fun x=>∃ (i:Nat) (g:List (Int×List Int)),i≤ms.length∧Bv9 ms cl i g∧x=((st,p,b,bg,s,ac,vs,ms,cl,h,l1,()),g,ms,(ms.length:Int),(i:Int),())) (m:=fun x=>((ms.length:Int)-x.2.2.2.2.1).toNat)
  (g:=fun _=>some ((decide (CM ms cl l1),()),(),())) ?_ ⟨0,[],by omega,⟨fun a=>by rw[show cS ms cl a 0=0 from rfl,Btu];rfl,List.nodup_nil,fun a=>⟨fun h=>(by cases h),fun⟨j,hj,_⟩=>(by omega)⟩,Nat.zero_le _⟩,rfl⟩ (by rw[Av];simp only;omega)
 rintro x again ⟨i,g,hi,hg,rfl⟩ hag
 simp only at hag ⊢
 unfold Vh
 dsimp only
 rw[Ad]
 by_cases c:(i:Int)<(ms.length:Int)
 ·rw[if_pos c,Ao,if_pos (by omega),Ao,if_pos (by omega),Int.toNat_natCast,Ar (by omega) (by omega)]
  rw[show (((0:Int),(0:Int),[(0:Int),0,0,0],()):Ff)=Bj from rfl]
  have hw:=hm.at (show i<ms.length by omega) Bj
  have hcs:=Cdr hm cl (ms.getD i Bj).2.1 i hi
  have hcs2:i*115792089237316195423570985008687907853269984665640564039457584007913129639936≤20000*115792089237316195423570985008687907853269984665640564039457584007913129639936:=Nat.mul_le_mul_right _ (by omega)
  cases hcl:cl.getD i false with
  | false =>
   rw[Bp]
   exact hag _ ⟨i+1,g,by omega,hg.none hcl,by rw[Int.natCast_add];rfl⟩ (by simp only;omega)
  | true =>
   have hs:=hg.some hcl
   have hn:again ((st,p,b,bg,s,ac,vs,ms,cl,h,l1,()),K4 g (ms.getD i Bj).2.1 (Aa0 (cS ms cl (ms.getD i Bj).2.1 i+Dw (ms.getD i Bj).2.2.1)),ms,(ms.length:Int),(i:Int)+1,())=some ((decide (CM ms cl l1),()),(),()) :=
    hag _ ⟨i+1,_,by omega,hs,by rw[Int.natCast_add];rfl⟩ (by simp only;omega)
   clear hag hs
   rw[Au,hg.get]
   generalize ms.getD i Bj=m at hw hn hcs ⊢
   obtain⟨q1,q2,q3⟩:=hw
   dsimp only at hn hcs ⊢
   rw[Bk] at hn
   generalize cS ms cl _ i=z at *
   rw[Bej (by omega) q3,Aa]
   exact hn
 ·have hi':i=ms.length:=by omega
  subst hi'
  rw[if_neg c]
  exact Cj6 hm h2 hp h3 hg
theorem Cey{l:List Bn}(hp:Fh l)(hv:VP l)(hl:l.length≤20000){a:Int} :
  ∃ v:Nat,K2 (l,a,())=some ((Aw v,()),(),(),())∧(v=0↔¬ ∃ x∈l,x.1=a):=by
 unfold K2 Ant
 refine Cq (I:=fun x=>∃ i:Nat,i≤l.length∧(∀ j,j<i→(l.getD j Eb).1≠a)∧x=(l,a,[(0:Int),0,0,0],(i:Int),())) (m:=fun x=>(((l.length:Nat):Int)-x.2.2.2.1).toNat)
  (P:=fun w=>∃ v:Nat,w=some ((Aw v,()),(),(),())∧(v=0↔¬ ∃ x∈l,x.1=a)) ?_ ⟨0,by omega,fun j hj=>by omega,rfl⟩ (by rw[Av];simp only;omega)
 rintro x again ⟨i,hi,hj,rfl⟩ hag
 simp only at hag ⊢
 unfold Akq
 rw[Am,Ad]
 by_cases c:(i:Int)<((l.length:Nat):Int)
 ·rw[if_pos c,Ao,if_pos (by omega),Int.toNat_natCast,Ad]
  rw[show (((0:Int),[(0:Int),0,0,0],()):Bn)=Eb from rfl]
  by_cases c2:(l.getD i Eb).1=a
  ·have hw:=hp.at i
   have hq:=hv i (by omega)
   have e:=Bf5 hw
   have hmem:=Bt (d:=Eb) (show i<l.length by omega)
   rw[if_pos c2,Ao,if_pos (by omega)]
   unfold okQ at hq
   generalize l.getD i Eb=y at *
   cases hw with
   | mk hya hyb =>
   rename_i a' v
   dsimp only at *
   rw[Bk] at e
   refine⟨v,rfl,fun h=>absurd (e.2 h) hq.2.1,fun h=>?_⟩
   exact absurd ⟨_,hmem,c2⟩ h
  ·rw[if_neg c2,Ar (by omega) (by omega)]
   refine hag _ ⟨i+1,by omega,fun j hj'=>?_,by rw[Int.natCast_add];rfl⟩ (by simp only;omega)
   by_cases e:j=i
   ·rw[e];exact c2
   ·exact hj j (by omega)
 ·rw[if_neg c,← Anh]
  refine⟨0,rfl,fun _ ⟨x,hx,e⟩=>?_,fun _=>rfl⟩
  obtain⟨j,hjl,rfl⟩:=By7 hx
  exact hj j (by omega) e
theorem Bvp{st bg:Int}{p:N6}{b:Aob}{s:T3}{ac:List A5}{vs:List (List Int)}{ms:List Ff}{cl:List Bool}{h:List Int}{l1:List Bn}{a:Int}(hm:O6 ms)(h2:ms.length≤20000)(hc:cl.length=ms.length) :
  Jy ((st,p,b,bg,s,ac,vs,ms,cl,h,l1,()),a,())=some ((dg (cS ms cl a ms.length),()),(),(),()):=by
 unfold Jy Af6
 dsimp only
 rw[← Awd]
 refine Ak (I:=fun x=>∃ i:Nat,i≤ms.length∧x=(a,(st,p,b,bg,s,ac,vs,ms,cl,h,l1,()),dg (cS ms cl a i),(i:Int),())) (m:=fun x=>((ms.length:Int)-x.2.2.2.1).toNat)
  (g:=fun _=>some ((dg (cS ms cl a ms.length),()),(),(),())) ?_ ⟨0,by omega,rfl⟩ (by rw[Av];simp only;omega)
 rintro x again ⟨i,hi,rfl⟩ hag
 simp only at hag ⊢
 unfold Ad5
 dsimp only
 rw[Am,Ad]
 by_cases c:(i:Int)<(ms.length:Int)
 ·rw[if_pos c,Ao,if_pos (by omega),Int.toNat_natCast,Ar (by omega) (by omega)]
  rw[show (((0:Int),(0:Int),[(0:Int),0,0,0],()):Ff)=Bj from rfl]
  have hw:=hm.at (show i<ms.length by omega) Bj
  have hcs:=Cdr hm cl a i hi
  have hcs2:i*115792089237316195423570985008687907853269984665640564039457584007913129639936≤20000*115792089237316195423570985008687907853269984665640564039457584007913129639936:=Nat.mul_le_mul_right _ (by omega)
  have hn:again (a,(st,p,b,bg,s,ac,vs,ms,cl,h,l1,()),dg (cS ms cl a i+(if cl.getD i false=true∧(ms.getD i Bj).2.1=a then Dw (ms.getD i Bj).2.2.1 else 0)),(i:Int)+1,())=some ((dg (cS ms cl a ms.length),()),(),(),()) :=
   hag _ ⟨i+1,by omega,by rw[Int.natCast_add];rfl⟩ (by simp only;omega)
  clear hag
  generalize ms.getD i Bj=m at hw hn ⊢
  generalize cl.getD i false=q at hn ⊢
  obtain⟨q1,q2,q3⟩:=hw
  rename_i s' t v
  dsimp only at hn ⊢
  rw[Bk] at hn
  generalize cS ms cl a i=z at *
  cases q with
  | false =>
   rw[if_neg (fun h=>by cases h.1),Nat.add_zero] at hn
   rw[Bp]
   exact hn
  | true =>
   rw[Au,Ao,if_pos (by omega),Ad]
   by_cases c2:t=a
   ·rw[if_pos ⟨rfl,c2⟩] at hn
    rw[if_pos c2,Ao,if_pos (by omega),Bz q3,Aa]
    dsimp only
    rw[Cb (J7 (by omega)) (J7 (by omega)),Aa]
    exact hn
   ·rw[if_neg (fun h=>c2 h.2),Nat.add_zero] at hn
    rw[if_neg c2]
    exact hn
 ·have hi':i=ms.length:=by omega
  subst hi'
  rw[if_neg c]
theorem Clo{st bg:Int}{p:N6}{b:Aob}{s:T3}{ac:List A5}{vs:List Nat}{ms:List Ff}{cl:List Bool}{h:List Int}{l1:List Bn}(ha:Xu ac)(h1:ac.length≤20000)(hv:vs.length=4)(hvb:∀ n∈vs,Al n)(hm:O6 ms)(h2:ms.length≤20000)(hc:cl.length=ms.length) :
  Ys ((st,p,b,bg,s,ac,vs.map Aw,ms,cl,h,l1,()),())=some ((dg (En ac+vs.sum+oS ms cl ms.length),()),(),()):=by
 have hv4:=Bvv hv hvb
 have hs:=Bfj ha ac.length (Nat.le_refl _)
 rw[List.take_length] at hs
 have hs2:ac.length*115792089237316195423570985008687907853269984665640564039457584007913129639936≤20000*115792089237316195423570985008687907853269984665640564039457584007913129639936:=Nat.mul_le_mul_right _ h1
 have key2:∀ S0,S0≤20004*115792089237316195423570985008687907853269984665640564039457584007913129639936→Ac _ _ (fun again x=>Add Ai A7 again x.1 x.2.1 x.2.2.1) ((st,p,b,bg,s,ac,vs.map Aw,ms,cl,h,l1,()),dg S0,(0:Int),()) =
   some ((dg (S0+oS ms cl ms.length),()),(),()):=fun S0 hS0=>by
  refine Ak (I:=fun x=>∃ i:Nat,i≤ms.length∧x=((st,p,b,bg,s,ac,vs.map Aw,ms,cl,h,l1,()),dg (S0+oS ms cl i),((i:Nat):Int),())) (m:=fun x=>((ms.length:Int)-x.2.2.1).toNat)
   (g:=fun _=>some ((dg (S0+oS ms cl ms.length),()),(),())) ?_ ⟨0,by omega,rfl⟩ (by rw[Av];simp only;omega)
  rintro x again ⟨i,hi,rfl⟩ hag
  simp only at hag ⊢
  unfold Add
  dsimp only
  rw[Am,Ad]
  by_cases c:((i:Nat):Int)<(ms.length:Int)
  ·rw[if_pos c,Ao,if_pos (by omega),Int.toNat_natCast,Ar (by omega) (by omega)]
   rw[show (((0:Int),(0:Int),[(0:Int),0,0,0],()):Ff)=Bj from rfl]
   have hw:=hm.at (show i<ms.length by omega) Bj
   have hcs:=Chc hm cl i hi
   have hcs2:i*115792089237316195423570985008687907853269984665640564039457584007913129639936≤20000*115792089237316195423570985008687907853269984665640564039457584007913129639936:=Nat.mul_le_mul_right _ (by omega)
   have hn:again ((st,p,b,bg,s,ac,vs.map Aw,ms,cl,h,l1,()),dg (S0+(oS ms cl i+if cl.getD i false=true then 0 else Dw (ms.getD i Bj).2.2.1)),((i:Nat):Int)+1,())=some ((dg (S0+oS ms cl ms.length),()),(),()) :=
    hag _ ⟨i+1,by omega,by rw[Int.natCast_add];rfl⟩ (by simp only;omega)
   clear hag
   generalize ms.getD i Bj=m at hw hn ⊢
   generalize cl.getD i false=q at hn ⊢
   obtain⟨q1,q2,q3⟩:=hw
   rename_i s' t v
   dsimp only at hn ⊢
   rw[Bk] at hn
   generalize oS ms cl i=z at *
   cases q with
   | true =>
    rw[if_pos rfl,Nat.add_zero] at hn
    rw[Bool.not_true,Bp]
    exact hn
   | false =>
    rw[if_neg (by decide),← Nat.add_assoc] at hn
    rw[Bool.not_false,Au,Ao,if_pos (by omega),Bz q3,Aa]
    dsimp only
    rw[Cb (J7 (by omega)) (J7 (by omega)),Aa]
    exact hn
  ·have hi':i=ms.length:=by omega
   subst hi'
   rw[if_neg c]
 have key1:∀ S0,S0≤20000*115792089237316195423570985008687907853269984665640564039457584007913129639936→Ac _ _ (fun again x=>Adj Ac Ai A7 again x.1 x.2.1 x.2.2.1) ((st,p,b,bg,s,ac,vs.map Aw,ms,cl,h,l1,()),dg S0,(0:Int),()) =
   some ((dg (S0+vs.sum+oS ms cl ms.length),()),(),()):=fun S0 hS0=>by
  have hpre:∀ i,(vs.take i).sum≤vs.sum:=fun i=>by
   conv=>rhs;rw[← List.take_append_drop i vs,List.sum_append]
   omega
  refine Ak (I:=fun x=>∃ i:Nat,i≤4∧x=((st,p,b,bg,s,ac,vs.map Aw,ms,cl,h,l1,()),dg (S0+(vs.take i).sum),((i:Nat):Int),())) (m:=fun x=>(4-x.2.2.1).toNat)
   (g:=fun _=>some ((dg (S0+vs.sum+oS ms cl ms.length),()),(),())) ?_ ⟨0,by omega,by rw[List.take_zero,List.sum_nil];rfl⟩ (by rw[Av];simp only;omega)
  rintro x again ⟨i,hi,rfl⟩ hag
  simp only at hag ⊢
  unfold Adj
  dsimp only
  rw[Ad]
  have hp:=hpre i
  by_cases c:((i:Nat):Int)<4
  ·have hil:i<vs.length:=by omega
   have e1:(vs.take (i+1)).sum=(vs.take i).sum+vs.getD i 0:=by
    rw[List.take_add_one,List.getElem?_eq_getElem hil,List.sum_append,List.getD_eq_getElem?_getD,List.getElem?_eq_getElem hil]
    simp
   have hb':=hvb _ (Bt (d:=0) hil)
   have e2:(vs.map Aw).getD i [(0:Int),0,0,0]=Aw (vs.getD i 0):=by
    rw[List.getD_eq_getElem?_getD,List.getD_eq_getElem?_getD,List.getElem?_map,List.getElem?_eq_getElem hil];rfl
   have hn:again ((st,p,b,bg,s,ac,vs.map Aw,ms,cl,h,l1,()),dg (S0+((vs.take i).sum+vs.getD i 0)),((i:Nat):Int)+1,())=some ((dg (S0+vs.sum+oS ms cl ms.length),()),(),()):=by
    rw[← e1]
    exact hag _ ⟨i+1,by omega,by rw[Int.natCast_add];rfl⟩ (by simp only;omega)
   clear hag e1
   rw[if_pos c,Ao,if_pos (by omega),Int.toNat_natCast,Ar (by omega) (by omega),e2]
   generalize vs.getD i 0=v at *
   generalize (vs.take i).sum=z at *
   rw[Bz hb',Aa]
   dsimp only
   unfold Al at hb'
   rw[Cb (J7 (by omega)) (J7 (by omega)),Aa,Nat.add_assoc]
   exact hn
  ·rw[if_neg c,List.take_of_length_le (by omega)]
   exact key2 _ (by omega)
 unfold Ys Aun
 dsimp only
 rw[← Awd]
 refine Ak (I:=fun x=>∃ i:Nat,i≤ac.length∧x=((st,p,b,bg,s,ac,vs.map Aw,ms,cl,h,l1,()),dg (En (ac.take i)),((i:Nat):Int),())) (m:=fun x=>((ac.length:Int)-x.2.2.1).toNat)
  (g:=fun _=>some ((dg (En ac+vs.sum+oS ms cl ms.length),()),(),())) ?_ ⟨0,by omega,by rw[List.take_zero,Pz];rfl⟩ (by rw[Av];simp only;omega)
 rintro x again ⟨i,hi,rfl⟩ hag
 simp only at hag ⊢
 unfold An5
 dsimp only
 rw[Am,Ad]
 by_cases c:((i:Nat):Int)<(ac.length:Int)
 ·have ho:=Bfj ha i hi
  have ho2:i*115792089237316195423570985008687907853269984665640564039457584007913129639936≤20000*115792089237316195423570985008687907853269984665640564039457584007913129639936:=Nat.mul_le_mul_right _ (by omega)
  rw[if_pos c,Ao,if_pos (by omega),Int.toNat_natCast,Ar (by omega) (by omega)]
  rw[show (((0:Int),[(0:Int),0,0,0],(0:Int),()):A5)=Gs from rfl]
  have hw:=ha _ (Bt (d:=Gs) (show i<ac.length by omega))
  have hn:again ((st,p,b,bg,s,ac,vs.map Aw,ms,cl,h,l1,()),dg (En (ac.take i)+Dw (ac.getD i Gs).2.1),((i:Nat):Int)+1,())=some ((dg (En ac+vs.sum+oS ms cl ms.length),()),(),()) :=
   hag _ ⟨i+1,by omega,by rw[Int.natCast_add,Bil (by omega)];rfl⟩ (by simp only;omega)
  clear hag
  generalize ac.getD i Gs=m at hw hn ⊢
  obtain⟨q1,q2,q3⟩:=hw
  dsimp only at hn ⊢
  rw[Bk] at hn
  generalize En (ac.take i)=z at *
  rw[Bz q2,Aa]
  dsimp only
  unfold Al at q2
  rw[Cb (J7 (by omega)) (J7 (by omega)),Aa]
  exact hn
 ·have hi':i=ac.length:=by omega
  subst hi'
  rw[if_neg c,List.take_length]
  exact key1 _ (Nat.le_trans hs hs2)
theorem Bip{a b:Nat}:Abs a b=0↔a=b:=by
 unfold Abs
 split
 ·omega
 ·split<;>omega
theorem Bt3(a:Nat):Abs a a=0:=Bip.2 rfl
structure VS(p:N6)(bt:Int)(bf:Nat)(s:T3)(ac:List A5)(vs:List Nat)(ms:List Ff)(cl:List Bool)(h:Nat)(l1:List Bn):Prop where
 pv:PV p
 nz:bf≠0
 pr:PRV s
 lu:¬ s.2.2.1>bt
 va:VA ac
 om:okM ms=true
 cn:cl.length=ms.length
 ow:En ac+vs.sum+oS ms cl ms.length=h
 cm:CM ms cl l1
structure Axs(ac:List A5)(ms:List Ff)(l1:List Bn):Prop where
 a:ac.length≤20000
 m:ms.length≤20000
 l:l1.length≤20000
section
variable {st bg n t g:Int} {p:N6} {s:T3} {ac:List A5} {vs:List Nat} {ms:List Ff} {cl:List Bool} {h f:Nat} {l1:List Bn}
open Classical in
theorem Bfv(h2:Vd p)(h4:Al f)(h6:Apx s)(h8:Xu ac)(v1:vs.length=4)(v2:∀ n∈vs,Al n)(m1:O6 ms)(e1:Al h)(p1:Fh l1)(hs:Axs ac ms l1) :
  C4 ((st,p,(n,t,g,Aw f,()),bg,s,ac,vs.map Aw,ms,cl,Aw h,l1,()),())=some ((decide (VS p t f s ac vs ms cl h l1),()),(),()):=by
 have hsa:=hs.a
 have hsm:=hs.m
 have hsl:=hs.l
 unfold C4 Zz
 dsimp only
 rw[Bm3 h2,Aa]
 dsimp only
 rw[Aq,Ad]
 by_cases c1:PV p
 case neg=>rw[if_neg c1,decide_eq_false (fun h=>c1 h.pv)]
 rw[if_pos c1,← Anh,Aim,Ad]
 by_cases c2:f=0
 ·rw[if_pos c2,decide_eq_false (fun h=>h.nz c2)]
 rw[if_neg c2,Bp1 h6,Aa]
 dsimp only
 rw[Aq,Ad]
 by_cases c3:PRV s
 case neg=>rw[if_neg c3,decide_eq_false (fun h=>c3 h.pr)]
 rw[if_pos c3,Ad]
 by_cases c4:s.2.2.1>t
 ·rw[if_pos c4,decide_eq_false (fun h=>h.lu c4)]
 rw[if_neg c4,Cl8 h8 (by omega) v1 v2,Aa]
 unfold Bs1
 by_cases c5:VA ac
 case neg =>
  rw[if_neg c5]
  dsimp only
  rw[Bts,Ad,if_neg (by decide),decide_eq_false (fun h=>c5 h.va)]
 rw[if_pos c5]
 by_cases c6:En ac+vs.sum<115792089237316195423570985008687907853269984665640564039457584007913129639936
 case neg =>
  rw[if_neg c6]
  dsimp only
  rw[Bts,Ad,if_neg (by decide),decide_eq_false (fun h=>by
   have:=h.ow
   unfold Al at e1
   omega)]
 rw[if_pos c6]
 dsimp only
 rw[Cfl,Ad,if_pos rfl,Bwt m1 (by omega),Aa]
 dsimp only
 by_cases c7:okM ms=true
 case neg =>
  rw[Bool.not_eq_true] at c7
  rw[c7,Bool.false_and,Bp,decide_eq_false (fun h=>by have:=h.om;rw[c7] at this;cases this)]
 rw[c7,Bool.true_and,Ad]
 by_cases c8:cl.length=ms.length
 case neg=>rw[if_neg c8,decide_eq_false (fun h=>c8 h.cn)]
 rw[if_pos c8,Bnt h8 hsa v1 v2 m1 hsm c8 e1,Aa]
 dsimp only
 rw[Ad]
 by_cases c9:En ac+vs.sum+oS ms cl ms.length=h
 case neg=>rw[if_neg c9,decide_eq_false (fun h=>c9 h.ow)]
 rw[if_pos c9,Bwh m1 hsm c8 p1 hsl,Aa]
 dsimp only
 rw[show decide (CM ms cl l1)=decide (VS p t f s ac vs ms cl h l1) by
  rw[decide_eq_decide];exact⟨fun h=>⟨c1,c2,c3,c4,c5,c7,c8,c9,h⟩,fun h=>h.cm⟩]
open Classical in
theorem Cex(m1:O6 ms)(p1:Fh l1)(hs:Axs ac ms l1)(hc:cl.length=ms.length)(hvp:VP l1)(he:∀ i,i<l1.length→cS ms cl (l1.getD i Eb).1 ms.length=Dw (l1.getD i Eb).2.1) :
  Ac _ _ (fun again x=>Aaz K2 Bd again x.1 x.2.1) ((st,p,(n,t,g,Aw f,()),bg,s,ac,vs.map Aw,ms,cl,Aw h,l1,()),(0:Int),()) =
   some ((decide (CM ms cl l1),()),(),()):=by
 have hsm:=hs.m
 have hsl:=hs.l
 refine Ak (I:=fun x=>∃ i:Nat,i≤ms.length∧(∀ j,j<i→cl.getD j false=true→∃ x∈l1,x.1=(ms.getD j Bj).2.1)∧x=((st,p,(n,t,g,Aw f,()),bg,s,ac,vs.map Aw,ms,cl,Aw h,l1,()),((i:Nat):Int),())) (m:=fun x=>((ms.length:Int)-x.2.1).toNat)
  (g:=fun _=>some ((decide (CM ms cl l1),()),(),())) ?_ ⟨0,by omega,fun j hj=>by omega,rfl⟩ (by rw[Av];simp only;omega)
 rintro x again ⟨i,hi,hj,rfl⟩ hag
 simp only at hag ⊢
 unfold Aaz
 dsimp only
 rw[Am,Ad]
 by_cases c:((i:Nat):Int)<(ms.length:Int)
 ·rw[if_pos c,Ao,if_pos (by omega),Int.toNat_natCast,Ar (by omega) (by omega)]
  rw[show (((0:Int),(0:Int),[(0:Int),0,0,0],()):Ff)=Bj from rfl]
  have hn:(cl.getD i false=true→∃ x∈l1,x.1=(ms.getD i Bj).2.1)→again ((st,p,(n,t,g,Aw f,()),bg,s,ac,vs.map Aw,ms,cl,Aw h,l1,()),((i:Nat):Int)+1,())=some ((decide (CM ms cl l1),()),(),()):=fun hx =>
   hag _ ⟨i+1,by omega,fun j hj'=>by
    by_cases e:j=i
    ·rw[e];exact hx
    ·exact hj j (by omega),by rw[Int.natCast_add];rfl⟩ (by simp only;omega)
  have bad:cl.getD i false=true→¬ (∃ x∈l1,x.1=(ms.getD i Bj).2.1)→decide (CM ms cl l1)=false:=fun h1 h2=>decide_eq_false fun hv=>h2 (hv.all i (by omega) h1)
  clear hag
  cases hcl:cl.getD i false with
  | false =>
   rw[Bp]
   exact hn fun h=>by rw[hcl] at h;cases h
  | true =>
   obtain⟨v,ev,hv⟩:=Cey p1 hvp hsl (a:=(ms.getD i Bj).2.1)
   rw[Au,Ao,if_pos (by omega),ev,Aa]
   dsimp only
   rw[Nh,Aa]
   dsimp only
   rw[Ad]
   by_cases c2:v=0
   ·rw[if_pos c2,bad hcl (hv.1 c2)]
   ·rw[if_neg c2]
    exact hn fun _=>Classical.byContradiction fun h=>c2 (hv.2 h)
 ·rw[if_neg c,decide_eq_true]
  exact⟨hvp,he,fun j hj'=>hj j (by omega)⟩
open Classical in
theorem Cgj(m1:O6 ms)(p1:Fh l1)(hs:Axs ac ms l1)(hc:cl.length=ms.length)(hvp:VP l1) :
  Ac _ _ (fun again x=>Aa5 Ac Jy Ai Ca K2 Bd again x.1 x.2.1) ((st,p,(n,t,g,Aw f,()),bg,s,ac,vs.map Aw,ms,cl,Aw h,l1,()),(0:Int),()) =
   some ((decide (CM ms cl l1),()),(),()):=by
 have hsm:=hs.m
 have hsl:=hs.l
 refine Ak (I:=fun x=>∃ i:Nat,i≤l1.length∧(∀ j,j<i→cS ms cl (l1.getD j Eb).1 ms.length=Dw (l1.getD j Eb).2.1)∧x=((st,p,(n,t,g,Aw f,()),bg,s,ac,vs.map Aw,ms,cl,Aw h,l1,()),(i:Int),())) (m:=fun x=>((l1.length:Int)-x.2.1).toNat)
  (g:=fun _=>some ((decide (CM ms cl l1),()),(),())) ?_ ⟨0,by omega,fun j hj=>by omega,rfl⟩ (by rw[Av];simp only;omega)
 rintro x again ⟨i,hi,hj,rfl⟩ hag
 simp only at hag ⊢
 unfold Aa5
 dsimp only
 rw[Am,Ad]
 by_cases c:(i:Int)<(l1.length:Int)
 ·rw[if_pos c,Ao,if_pos (by omega),Int.toNat_natCast,Ar (by omega) (by omega)]
  rw[show (((0:Int),[(0:Int),0,0,0],()):Bn)=Eb from rfl]
  have hn:cS ms cl (l1.getD i Eb).1 ms.length=Dw (l1.getD i Eb).2.1→again ((st,p,(n,t,g,Aw f,()),bg,s,ac,vs.map Aw,ms,cl,Aw h,l1,()),(i:Int)+1,())=some ((decide (CM ms cl l1),()),(),()):=fun hx =>
   hag _ ⟨i+1,by omega,fun j hj'=>by
    by_cases e:j=i
    ·rw[e];exact hx
    ·exact hj j (by omega),by rw[Int.natCast_add];rfl⟩ (by simp only;omega)
  have bad:¬ (cS ms cl (l1.getD i Eb).1 ms.length=Dw (l1.getD i Eb).2.1)→decide (CM ms cl l1)=false:=fun h2=>decide_eq_false fun hv=>h2 (hv.eq i (by omega))
  clear hag
  have hw:=p1.at i
  have hcs:=Cdr m1 cl (l1.getD i Eb).1 ms.length (Nat.le_refl _)
  have hcs2:ms.length*115792089237316195423570985008687907853269984665640564039457584007913129639936≤20000*115792089237316195423570985008687907853269984665640564039457584007913129639936:=Nat.mul_le_mul_right _ (by omega)
  generalize l1.getD i Eb=y at *
  cases hw with
  | mk hya hyb =>
  rename_i a v
  dsimp only at *
  rw[Bk] at *
  rw[Bvp m1 hsm hc,Aa,Ao,if_pos (by omega)]
  dsimp only
  generalize cS ms cl a ms.length=z at *
  unfold Al at hyb
  rw[Bz hyb,Aa]
  dsimp only
  rw[Ak0 (J7 (by omega)) (J7 (by omega)),Aa]
  dsimp only
  rw[Aq,Ad]
  by_cases c2:z=v
  ·rw[if_pos (by rw[c2];exact Bt3 v)]
   exact hn c2
  ·rw[if_neg (fun h=>c2 (Bip.1 h)),bad c2]
 ·have hi':i=l1.length:=by omega
  subst hi'
  rw[if_neg c]
  exact Cex m1 p1 hs hc hvp hj
open Classical in
theorem Bju(h2:Vd p)(h4:Al f)(h6:Apx s)(h8:Xu ac)(v1:vs.length=4)(v2:∀ n∈vs,Al n)(m1:O6 ms)(e1:Al h)(p1:Fh l1)(hs:Axs ac ms l1) :
  Ij ((st,p,(n,t,g,Aw f,()),bg,s,ac,vs.map Aw,ms,cl,Aw h,l1,()),())=some ((decide (VS p t f s ac vs ms cl h l1),()),(),()):=by
 have hsa:=hs.a
 have hsm:=hs.m
 have hsl:=hs.l
 unfold Ij Ash
 dsimp only
 rw[Zf h2,Aa]
 dsimp only
 rw[Aq,Ad]
 by_cases c1:PV p
 case neg=>rw[if_neg c1,decide_eq_false (fun h=>c1 h.pv)]
 rw[if_pos c1,Nh,Aa]
 dsimp only
 rw[Ad]
 by_cases c2:f=0
 ·rw[if_pos c2,decide_eq_false (fun h=>h.nz c2)]
 rw[if_neg c2,Bgb h6,Aa]
 dsimp only
 rw[Aq,Ad]
 by_cases c3:PRV s
 case neg=>rw[if_neg c3,decide_eq_false (fun h=>c3 h.pr)]
 rw[if_pos c3,Ad]
 by_cases c4:s.2.2.1>t
 ·rw[if_pos c4,decide_eq_false (fun h=>h.lu c4)]
 rw[if_neg c4,Ce4 h8 (by omega),Aa]
 dsimp only
 rw[Aq,Ad]
 by_cases c5:VA ac
 case neg=>rw[if_neg c5,decide_eq_false (fun h=>c5 h.va)]
 rw[if_pos c5,Cfh m1 (by omega),Aa]
 dsimp only
 rw[Aq]
 by_cases c7:okM ms=true
 case neg =>
  rw[Bool.not_eq_true] at c7
  rw[c7,Bp,decide_eq_false (fun h=>by have:=h.om;rw[c7] at this;cases this)]
 rw[c7,Au,Aq,Ad]
 by_cases c8:cl.length=ms.length
 case neg=>rw[if_neg (by omega),decide_eq_false (fun h=>c8 h.cn)]
 rw[if_pos (by omega),Cbm p1 (by omega),Aa]
 dsimp only
 rw[Aq,Ad]
 by_cases c9:VP l1
 case neg=>rw[if_neg c9,decide_eq_false (fun h=>c9 h.cm.vp)]
 have hos:=Chc m1 cl ms.length (Nat.le_refl _)
 have hos2:ms.length*115792089237316195423570985008687907853269984665640564039457584007913129639936≤20000*115792089237316195423570985008687907853269984665640564039457584007913129639936:=Nat.mul_le_mul_right _ (by omega)
 have hv4:=Bvv v1 v2
 have hsl':=Bfj h8 ac.length (Nat.le_refl _)
 rw[List.take_length] at hsl'
 have hsl2:ac.length*115792089237316195423570985008687907853269984665640564039457584007913129639936≤20000*115792089237316195423570985008687907853269984665640564039457584007913129639936:=Nat.mul_le_mul_right _ hsa
 have hz:En ac+vs.sum+oS ms cl ms.length<115792089237316195423570985008687907853269984665640564039457584007913129639936*1048576:=by omega
 have bad:¬ (En ac+vs.sum+oS ms cl ms.length=h)→decide (VS p t f s ac vs ms cl h l1)=false:=fun c=>decide_eq_false fun h=>c h.ow
 have fin:En ac+vs.sum+oS ms cl ms.length=h→decide (CM ms cl l1)=decide (VS p t f s ac vs ms cl h l1):=fun e=>by
  rw[decide_eq_decide];exact⟨fun h=>⟨c1,c2,c3,c4,c5,c7,c8,e,h⟩,fun h=>h.cm⟩
 rw[if_pos c9,Clo h8 hsa v1 v2 m1 hsm c8,Aa]
 dsimp only
 clear hos hos2 hv4 hsl' hsl2
 generalize En ac+vs.sum+oS ms cl ms.length=z at *
 unfold Al at e1
 rw[Bz e1,Aa]
 dsimp only
 rw[Ak0 (J7 hz) (J7 (by omega)),Aa]
 dsimp only
 rw[Aq,Ad]
 by_cases c10:z=h
 ·rw[if_pos (by rw[c10];exact Bt3 h),Cgj m1 p1 hs c8 c9,fin c10]
 ·rw[if_neg (fun h=>c10 (Bip.1 h)),bad c10]
end
def Xe(b:List Int)(l:List Int):List Int:=l.foldl (fun b x=>b++enc x.toNat) b
def Alc(b:List Int)(l:List Nat):List Int:=l.foldl (fun b x=>b++enc x) b
theorem Bpu(b l:List Int)(x:Int):Xe b (l++[x])=Xe b l++enc x.toNat:=by simp[Xe]
theorem Bj7(b:List Int)(l:List Nat)(x:Nat):Alc b (l++[x])=Alc b l++enc x:=by simp[Alc]
theorem Cd{n:Nat}(h:Al n):(enc n).length≤33:=by
 have:=Adu h
 rw[Aqe]
 omega
theorem Hd{x:Int}(h:B4 x):(enc x.toNat).length≤33:=Cd (Bgv h)
theorem Av8{α:Type}(d:α){l:List α}{i:Nat}(h:i<l.length):l.take (i+1)=l.take i++[l.getD i d]:=by
 rw[List.take_add_one,List.getElem?_eq_getElem h,List.getD_eq_getElem?_getD,List.getElem?_eq_getElem h]
 rfl
theorem And{b:List Int}:∀ (l:List Int),(∀ x∈l,B4 x)→(Xe b l).length≤b.length+33*l.length:=by
 intro l
 induction l generalizing b with
 | nil=>intro _;exact Nat.le_refl _
 | cons x l ih =>
  intro h
  have h1:=Hd (h x (List.mem_cons_self ..))
  have h2:=ih (b:=b++enc x.toNat) (fun y hy=>h y (List.mem_cons_of_mem _ hy))
  rw[List.length_append] at h2
  show (Xe (b++enc x.toNat) l).length≤_
  rw[List.length_cons]
  omega
theorem Auw{b:List Int}:∀ (l:List Nat),(∀ x∈l,Al x)→(Alc b l).length≤b.length+33*l.length:=by
 intro l
 induction l generalizing b with
 | nil=>intro _;exact Nat.le_refl _
 | cons x l ih =>
  intro h
  have h1:=Cd (h x (List.mem_cons_self ..))
  have h2:=ih (b:=b++enc x) (fun y hy=>h y (List.mem_cons_of_mem _ hy))
  rw[List.length_append] at h2
  show (Alc (b++enc x) l).length≤_
  rw[List.length_cons]
  omega
theorem Atv{b l:List Int}(hb:b.length≤90000000)(hl:l.length≤1000)(hu:∀ x∈l,B4 x):Bw (b,l,())=some ((Xe b l,()),(),(),()):=by
 unfold Bw Qu
 refine Ak (I:=fun x=>∃ i:Nat,i≤l.length∧x=(Xe b (l.take i),l,((l.length:Nat):Int),(i:Int),())) (m:=fun x=>(((l.length:Nat):Int)-x.2.2.2.1).toNat)
  (g:=fun _=>some ((Xe b l,()),(),(),())) ?_ ⟨0,by omega,rfl⟩ (by rw[Av];simp only;omega)
 rintro x again ⟨i,hi,rfl⟩ hag
 simp only at hag ⊢
 unfold S3
 rw[Ad]
 by_cases c:(i:Int)<((l.length:Nat):Int)
 ·have hil:i<l.length:=by omega
  have hx:=hu _ (Bt (d:=0) hil)
  have h1:=And (b:=b) (l.take i) (fun x hx=>hu x (List.mem_of_mem_take hx))
  have h2:=Hd hx
  rw[List.length_take] at h1
  rw[if_pos c,Ao,if_pos (by omega),Int.toNat_natCast,Blu (by simp) hx.1 hx.2,Aa]
  dsimp only
  rw[List.nil_append,Di (by omega),B8,Ar (by omega) (by omega)]
  exact hag _ ⟨i+1,by omega,by rw[Av8 0 hil,Bpu,Int.natCast_add];rfl⟩ (by simp only;omega)
 ·rw[if_neg c,List.take_of_length_le (by omega)]
theorem Bdc{b:List Int}{l:List Nat}(hb:b.length≤90000000)(hl:l.length≤1000)(hu:∀ x∈l,Al x):Bs (b,l.map Aw,())=some ((Alc b l,()),(),(),()):=by
 unfold Bs O5
 dsimp only
 rw[List.length_map]
 refine Ak (I:=fun x=>∃ i:Nat,i≤l.length∧x=(Alc b (l.take i),l.map Aw,((l.length:Nat):Int),(i:Int),())) (m:=fun x=>(((l.length:Nat):Int)-x.2.2.2.1).toNat)
  (g:=fun _=>some ((Alc b l,()),(),(),())) ?_ ⟨0,by omega,rfl⟩ (by rw[Av];simp only;omega)
 rintro x again ⟨i,hi,rfl⟩ hag
 simp only at hag ⊢
 unfold Q9
 rw[Ad,List.length_map]
 by_cases c:(i:Int)<((l.length:Nat):Int)
 ·have hil:i<l.length:=by omega
  have hx:=hu _ (Bt (d:=0) hil)
  have h1:=Auw (b:=b) (l.take i) (fun x hx=>hu x (List.mem_of_mem_take hx))
  have h2:=Cd hx
  have e2:(l.map Aw).getD i [(0:Int),0,0,0]=Aw (l.getD i 0):=by
   rw[List.getD_eq_getElem?_getD,List.getD_eq_getElem?_getD,List.getElem?_map,List.getElem?_eq_getElem hil];rfl
  rw[List.length_take] at h1
  rw[if_pos c,Ao,if_pos (by omega),Int.toNat_natCast,e2,Ati (by simp) hx,Aa]
  dsimp only
  rw[List.nil_append,Di (by omega),B8,Ar (by omega) (by omega)]
  exact hag _ ⟨i+1,by omega,by rw[Av8 0 hil,Bj7,Int.natCast_add];rfl⟩ (by simp only;omega)
 ·rw[if_neg c,List.take_of_length_le (by omega)]
theorem Uj{b:List Int}{n:Nat}(hb:b.length≤90000000)(hn:Al n):Bs (b,[Aw n],())=some ((b++enc n,()),(),(),()) :=
 Bdc (l:=[n]) hb (by simp) (fun x hx=>by rw[List.mem_singleton.1 hx];exact hn)
theorem Nk{b:List Int}{x:Int}(hb:b.length≤90000000)(hx:B4 x):Bw (b,[x],())=some ((b++enc x.toNat,()),(),(),()) :=
 Atv (l:=[x]) hb (by simp) (fun y hy=>by rw[List.mem_singleton.1 hy];exact hx)
theorem Bmr{b l:List Int}(hb:b.length≤90000000)(hl:l.length≤1000)(hu:∀ x∈l,B4 x):X8 (b,l,())=some ((Xe b l,()),(),(),()):=by
 unfold X8 Auy
 refine Ak (I:=fun x=>∃ i:Nat,i≤l.length∧x=(Xe b (l.take i),l,(i:Int),())) (m:=fun x=>(((l.length:Nat):Int)-x.2.2.1).toNat)
  (g:=fun _=>some ((Xe b l,()),(),(),())) ?_ ⟨0,by omega,rfl⟩ (by rw[Av];simp only;omega)
 rintro x again ⟨i,hi,rfl⟩ hag
 simp only at hag ⊢
 unfold Anz
 rw[Ad]
 by_cases c:(i:Int)<((l.length:Nat):Int)
 ·have hil:i<l.length:=by omega
  have hx:=hu _ (Bt (d:=0) hil)
  have h1:=And (b:=b) (l.take i) (fun x hx=>hu x (List.mem_of_mem_take hx))
  rw[List.length_take] at h1
  rw[if_pos c,Ao,if_pos (by omega),Int.toNat_natCast,Cx (by omega) hx.1 hx.2,Aa]
  dsimp only
  rw[Ar (by omega) (by omega)]
  exact hag _ ⟨i+1,by omega,by rw[Av8 0 hil,Bpu,Int.natCast_add];rfl⟩ (by simp only;omega)
 ·rw[if_neg c,List.take_of_length_le (by omega)]
def Acv(st bg:Int)(p:N6)(n t g:Int)(f:Nat)(s:T3):List Int :=
 Xe (Xe (Xe ([]:List Int) [1886350964,st,p.1,p.2.1,p.2.2.1]++enc (Dw p.2.2.2.1)++enc p.2.2.2.2.1.toNat++enc (Dw p.2.2.2.2.2.1)++enc p.2.2.2.2.2.2.1.toNat++enc (Dw p.2.2.2.2.2.2.2.1))
  [p.2.2.2.2.2.2.2.2.1,p.2.2.2.2.2.2.2.2.2.1,p.2.2.2.2.2.2.2.2.2.2.1,p.2.2.2.2.2.2.2.2.2.2.2.1,n,t,g]++enc f++enc bg.toNat++enc (Dw s.1))
  [s.2.1,s.2.2.1,s.2.2.2.1]++Bxu s.2.2.2.2.1.1 (Dw s.2.2.2.2.1.2.1)
theorem Cpg{P:Int→Prop}{a b c d:Int}(ha:P a)(hb:P b)(hc:P c)(hd:P d):∀ x∈[a,b,c,d],P x:=fun x hx=>by
 simp only[List.mem_cons,List.not_mem_nil,or_false] at hx
 rcases hx with rfl|rfl|rfl|rfl<;>assumption
theorem Cht{P:Int→Prop}{a b c:Int}(ha:P a)(hb:P b)(hc:P c):∀ x∈[a,b,c],P x:=fun x hx=>by
 simp only[List.mem_cons,List.not_mem_nil,or_false] at hx
 rcases hx with rfl|rfl|rfl<;>assumption
theorem Cmh{P:Int→Prop}{a b c d e:Int}(ha:P a)(hb:P b)(hc:P c)(hd:P d)(he:P e):∀ x∈[a,b,c,d,e],P x:=fun x hx=>by
 simp only[List.mem_cons,List.not_mem_nil,or_false] at hx
 rcases hx with rfl|rfl|rfl|rfl|rfl<;>assumption
theorem Cop{P:Int→Prop}{a b c d e f g:Int}(ha:P a)(hb:P b)(hc:P c)(hd:P d)(he:P e)(hf:P f)(hg:P g):∀ x∈[a,b,c,d,e,f,g],P x:=fun x hx=>by
 simp only[List.mem_cons,List.not_mem_nil,or_false] at hx
 rcases hx with rfl|rfl|rfl|rfl|rfl|rfl|rfl<;>assumption
theorem Cjs{s:Bool}{n:Nat}(h:Al n):(Bxu s n).length≤34:=by
 have:=Cd h
 unfold Bxu
 split
 ·simp
 ·rw[List.length_cons];omega
section
variable {st bg n t g:Int} {p:N6} {s:T3} {f:Nat}
theorem Bzu{ac:List A5}{vs:List (List Int)}{ms:List Ff}{cl:List Bool}{h:List Int}{l1:List Bn}
  (hst:B4 st) (hbg:B4 bg) (h2:Vd p) (hn:B4 n) (ht:B4 t) (hg:B4 g) (h4:Al f) (h6:Apx s) :
  He (([]:List Int),(st,p,(n,t,g,Aw f,()),bg,s,ac,vs,ms,cl,h,l1,()),())=some ((Acv st bg p n t g f s,()),(),(),()) ∧
  Yx ((st,p,(n,t,g,Aw f,()),bg,s,ac,vs,ms,cl,h,l1,()),())=some ((Acv st bg p n t g f s,()),(),())∧(Acv st bg p n t g f s).length≤1000:=by
 obtain⟨⟨up,hup,hupb⟩,hun,hlu,hre,hsu,-,-⟩:=h6
 obtain⟨s1,s2,s3,s4,s5,s6,su⟩:=s
 dsimp only at hup hun hlu hre hsu
 subst hup
 cases hsu with
 | mk hsb =>
 rename_i sg sn
 obtain⟨k1,k2,k3,k4,k5,k6,k7,k8,k9,k10,k11,k12⟩:=h2
 rename_i sp to bi gl bb eu pi mi ma fe ic rw'
 have um:B4 1886350964:=⟨by decide,by decide⟩
 have l1:=And (b:=([]:List Int)) _ (Cmh um hst k1 k2 k3)
 have q1:=Cd k4
 have q2:=Hd k5
 have q3:=Cd k6
 have q4:=Hd k7
 have q5:=Cd k8
 have l2:=fun b=>And (b:=b) _ (Cop k9 k10 k11 k12 hn ht hg)
 have l2':=fun b=>And (b:=b) _ (Cpg k9 k10 k11 k12)
 have q6:=Cd h4
 have q7:=Hd hbg
 have q8:=Cd hupb
 have l3:=fun b=>And (b:=b) _ (Cht hun hlu hre)
 have q9:=Cjs (s:=sg) hsb
 simp only[List.length_cons,List.length_nil] at l1 l2 l2' l3
 unfold Acv
 dsimp only
 rw[Bk,Bk,Bk,Bk,Bk]
 refine⟨?_,?_,?_⟩
 ·unfold He Sw
  dsimp only
  rw[Atv (by simp) (by simp) (Cmh um hst k1 k2 k3),Aa]
  dsimp only
  generalize Xe ([]:List Int) [1886350964,st,sp,to,bi]=b1 at *
  rw[Uj (by omega) k4,Aa]
  dsimp only
  rw[Nk (by simp only[List.length_append];omega) k5,Aa]
  dsimp only
  rw[Uj (by simp only[List.length_append];omega) k6,Aa]
  dsimp only
  rw[Nk (by simp only[List.length_append];omega) k7,Aa]
  dsimp only
  rw[Uj (by simp only[List.length_append];omega) k8,Aa]
  dsimp only
  have hb2:(b1++enc fe++enc gl.toNat++enc ic++enc bb.toNat++enc rw').length≤400:=by simp only[List.length_append];omega
  generalize b1++enc fe++enc gl.toNat++enc ic++enc bb.toNat++enc rw'=b2 at *
  have l2a:=l2' b2
  rw[Atv (by omega) (by simp) (Cpg k9 k10 k11 k12),Aa]
  dsimp only
  rw[Atv (by omega) (by simp) (Cht hn ht hg),Aa]
  dsimp only
  rw[show Xe (Xe b2 [eu,pi,mi,ma]) [n,t,g]=Xe b2 [eu,pi,mi,ma,n,t,g] from rfl]
  have l2b:=l2 b2
  generalize Xe b2 [eu,pi,mi,ma,n,t,g]=b3 at *
  rw[Uj (by omega) h4,Aa]
  dsimp only
  rw[Nk (by simp only[List.length_append];omega) hbg,Aa]
  dsimp only
  rw[Uj (by simp only[List.length_append];omega) hupb,Aa]
  dsimp only
  have hb4:(b3++enc f++enc bg.toNat++enc up).length≤800:=by simp only[List.length_append];omega
  generalize b3++enc f++enc bg.toNat++enc up=b4 at *
  have l3a:=l3 b4
  rw[Atv (by omega) (by simp) (Cht hun hlu hre),Aa]
  dsimp only
  rw[Bli (by simp) hsb,Aa]
  dsimp only
  rw[List.nil_append,Di (by omega),B8]
 ·unfold Yx Avf
  dsimp only
  rw[Bmr (by simp) (by simp) (Cmh um hst k1 k2 k3),Aa]
  dsimp only
  generalize Xe ([]:List Int) [1886350964,st,sp,to,bi]=b1 at *
  rw[B1 (by omega) k4,Aa]
  dsimp only
  rw[Cx (by simp only[List.length_append];omega) k5.1 k5.2,Aa]
  dsimp only
  rw[B1 (by simp only[List.length_append];omega) k6,Aa]
  dsimp only
  rw[Cx (by simp only[List.length_append];omega) k7.1 k7.2,Aa]
  dsimp only
  rw[B1 (by simp only[List.length_append];omega) k8,Aa]
  dsimp only
  have hb2:(b1++enc fe++enc gl.toNat++enc ic++enc bb.toNat++enc rw').length≤400:=by simp only[List.length_append];omega
  generalize b1++enc fe++enc gl.toNat++enc ic++enc bb.toNat++enc rw'=b2 at *
  rw[Bmr (by omega) (by simp) (Cop k9 k10 k11 k12 hn ht hg),Aa]
  dsimp only
  have l2b:=l2 b2
  generalize Xe b2 [eu,pi,mi,ma,n,t,g]=b3 at *
  rw[B1 (by omega) h4,Aa]
  dsimp only
  rw[Cx (by simp only[List.length_append];omega) hbg.1 hbg.2,Aa]
  dsimp only
  rw[B1 (by simp only[List.length_append];omega) hupb,Aa]
  dsimp only
  have hb4:(b3++enc f++enc bg.toNat++enc up).length≤800:=by simp only[List.length_append];omega
  generalize b3++enc f++enc bg.toNat++enc up=b4 at *
  have l3a:=l3 b4
  rw[Bmr (by omega) (by simp) (Cht hun hlu hre),Aa]
  dsimp only
  rw[Bjc (by omega) hsb,Aa]
 ·generalize Xe ([]:List Int) [1886350964,st,sp,to,bi]=b1 at *
  have hb2:(b1++enc fe++enc gl.toNat++enc ic++enc bb.toNat++enc rw').length≤400:=by simp only[List.length_append];omega
  generalize b1++enc fe++enc gl.toNat++enc ic++enc bb.toNat++enc rw'=b2 at *
  have l2b:=l2 b2
  generalize Xe b2 [eu,pi,mi,ma,n,t,g]=b3 at *
  have hb4:(b3++enc f++enc bg.toNat++enc up).length≤800:=by simp only[List.length_append];omega
  generalize b3++enc f++enc bg.toNat++enc up=b4 at *
  have l3a:=l3 b4
  rw[List.length_append]
  omega
end
def I7(f:List Int→Nat→List Int)(b:List Int):Nat→List Int
 | 0=>b
 | i+1=>f (I7 f b i) i
theorem S9{f:List Int→Nat→List Int}{b:List Int}{K:Nat}:∀ (n:Nat),(∀ b i,i<n→(f b i).length≤b.length+K)→(I7 f b n).length≤b.length+n*K
 | 0,_=>Nat.le_add_right _ _
 | n+1,h=>by
  have h1:=S9 (f:=f) (b:=b) (K:=K) n (fun b i hi=>h b i (by omega))
  have h2:=h (I7 f b n) n (by omega)
  show (f (I7 f b n) n).length≤_
  rw[Nat.add_mul,Nat.one_mul]
  omega
def Api(l:List At)(b:List Int)(i:Nat):List Int :=
 b++enc (l.getD i Ax).1.toNat++enc (Dw (l.getD i Ax).2.1)++enc (Dw (l.getD i Ax).2.2.1)++enc (Dw (l.getD i Ax).2.2.2.1)++enc (Dw (l.getD i Ax).2.2.2.2.1)++enc (l.getD i Ax).2.2.2.2.2.1.toNat
def Aou(l:List A5)(b:List Int)(i:Nat):List Int:=b++enc (l.getD i Gs).1.toNat++enc (Dw (l.getD i Gs).2.1)++enc (l.getD i Gs).2.2.1.toNat
def Apw(ms:List Ff)(cl:List Bool)(b:List Int)(i:Nat):List Int:=b++enc (ms.getD i Bj).2.1.toNat++enc (Dw (ms.getD i Bj).2.2.1)++[if cl.getD i false=true then (1:Int) else 0]
def Tk(l:List Bn)(b:List Int)(i:Nat):List Int:=b++enc (l.getD i Eb).1.toNat++enc (Dw (l.getD i Eb).2.1)
def Cac(b:List Int)(ps:List At):List Int:=I7 (Api ps) (b++enc ps.length) ps.length
def Bgu(b:List Int)(ac:List A5):List Int:=I7 (Aou ac) (b++enc ac.length) ac.length
def Avr(b:List Int)(vs:List Nat):List Int:=Alc b vs
def Au7(b:List Int)(ms:List Ff)(cl:List Bool):List Int:=I7 (Apw ms cl) (b++enc ms.length) ms.length
def Amx(b:List Int)(h:Nat)(l1:List Bn):List Int:=I7 (Tk l1) (b++enc h++enc l1.length) l1.length
theorem Bj5{n:Nat}(h:Al n):Al (Dw (Aw n)):=by rw[Bk];exact h
theorem Bm8{l:List At}(ha:Adi l)(b:List Int)(i:Nat)(hi:i<l.length):(Api l b i).length≤b.length+200:=by
 have hw:=ha _ (Bt (d:=Ax) hi)
 unfold Api
 generalize l.getD i Ax=x at *
 cases hw with
 | mk h1 h2 h3 h4 h5 h6 =>
 dsimp only
 have:=Hd h1
 have:=Cd (Bj5 h2)
 have:=Cd (Bj5 h3)
 have:=Cd (Bj5 h4)
 have:=Cd (Bj5 h5)
 have:=Hd h6
 simp only[List.length_append]
 omega
theorem Bml{l:List A5}(ha:Xu l)(b:List Int)(i:Nat)(hi:i<l.length):(Aou l b i).length≤b.length+100:=by
 have hw:=ha _ (Bt (d:=Gs) hi)
 unfold Aou
 generalize l.getD i Gs=x at *
 cases hw with
 | mk h1 h2 h3 =>
 dsimp only
 have:=Hd h1
 have:=Cd (Bj5 h2)
 have:=Hd h3
 simp only[List.length_append]
 omega
theorem Bp9{l:List Ff}(ha:O6 l)(cl:List Bool)(b:List Int)(i:Nat)(hi:i<l.length):(Apw l cl b i).length≤b.length+100:=by
 have hw:=ha.at hi Bj
 unfold Apw
 generalize l.getD i Bj=x at *
 cases hw with
 | mk h1 h2 h3 =>
 dsimp only
 have:=Hd h2
 have:=Cd (Bj5 h3)
 simp only[List.length_append,List.length_singleton]
 omega
theorem Bg0{l:List Bn}(ha:Fh l)(b:List Int)(i:Nat)(hi:i<l.length):(Tk l b i).length≤b.length+100:=by
 have hw:=ha.at i
 unfold Tk
 generalize l.getD i Eb=x at *
 cases hw with
 | mk h1 h2 =>
 dsimp only
 have:=Hd h1
 have:=Cd (Bj5 h2)
 simp only[List.length_append]
 omega
theorem Ye{n:Nat}(h:n≤20000):(enc n).length≤33:=Cd (by unfold Al;omega)
theorem Cih{b:List Int}{ps:List At}(ha:Adi ps)(h:ps.length≤1000):(Cac b ps).length≤b.length+210000:=by
 have h1:=Ye (n:=ps.length) (by omega)
 have h2:=S9 (b:=b++enc ps.length) ps.length (Bm8 ha)
 rw[List.length_append] at h2
 unfold Cac
 omega
theorem Cio{b:List Int}{l:List A5}(ha:Xu l)(h:l.length≤20000):(Bgu b l).length≤b.length+2010000:=by
 have h1:=Ye h
 have h2:=S9 (b:=b++enc l.length) l.length (Bml ha)
 rw[List.length_append] at h2
 unfold Bgu
 omega
theorem Ci3{b:List Int}{l:List Ff}{cl:List Bool}(ha:O6 l)(h:l.length≤20000):(Au7 b l cl).length≤b.length+2010000:=by
 have h1:=Ye h
 have h2:=S9 (b:=b++enc l.length) l.length (Bp9 ha cl)
 rw[List.length_append] at h2
 unfold Au7
 omega
theorem Chb{b:List Int}{n:Nat}{l:List Bn}(ha:Fh l)(h:l.length≤20000)(hn:Al n):(Amx b n l).length≤b.length+2010000:=by
 have h1:=Ye h
 have h3:=Cd hn
 have h2:=S9 (b:=b++enc n++enc l.length) l.length (Bg0 ha)
 rw[List.length_append,List.length_append] at h2
 unfold Amx
 omega
theorem Chy{l:List Int}(h:0<l.length):C2 (l,())=some ((l,()),(),()):=by
 unfold C2 Se
 dsimp only
 rw[Ad,if_pos rfl,decide_eq_true (by omega),decide_eq_true (by omega),Bool.and_true,Au,decide_eq_true (by omega),decide_eq_true (by omega),Bool.and_true,Au]
theorem Cay{n:Nat}(h:n≤20000):IntKind.wrap .u64 (n:Int)=(n:Int):=H4 (by omega) (by omega)
section
variable {st bg n t g:Int} {p:N6} {s:T3} {ac:List A5} {vs:List Nat} {ms:List Ff} {cl:List Bool} {h f:Nat} {l1:List Bn}
abbrev STL(st bg n t g:Int)(p:N6)(s:T3)(ac:List A5)(vs:List Nat)(ms:List Ff)(cl:List Bool)(h f:Nat)(l1:List Bn):StT :=
 (st,p,(n,t,g,Aw f,()),bg,s,ac,vs.map Aw,ms,cl,Aw h,l1,())
theorem sE3{b:List Int}(p1:Fh l1)(hl:l1.length≤20000)(hb:b.length≤6000000)(hb0:0<b.length) :
  Ac _ _ (fun again x=>Sa Bw Bs C2 again x.1 x.2.1 x.2.2.1 x.2.2.2.1) (b,l1,(l1.length:Int),(0:Int),()) =
   some ((I7 (Tk l1) b l1.length,(0:Int),()),(),()):=by
 refine Ak (I:=fun x=>∃ i:Nat,i≤l1.length∧0<(I7 (Tk l1) b i).length∧x=(I7 (Tk l1) b i,l1,(l1.length:Int),(i:Int),())) (m:=fun x=>((l1.length:Int)-x.2.2.2.1).toNat)
  (g:=fun _=>some ((I7 (Tk l1) b l1.length,(0:Int),()),(),())) ?_ ⟨0,by omega,hb0,rfl⟩ (by rw[Av];simp only;omega)
 rintro x again ⟨i,hi,hp0,rfl⟩ hag
 simp only at hag ⊢
 unfold Sa
 rw[Ad]
 by_cases c:(i:Int)<(l1.length:Int)
 ·have hil:i<l1.length:=by omega
  have hlen:=S9 (f:=Tk l1) (b:=b) (K:=100) i (fun b j hj=>Bg0 p1 b j (by omega))
  rw[if_pos c,Ao,if_pos (by omega),Int.toNat_natCast,Ar (by omega) (by omega)]
  rw[show (((0:Int),[(0:Int),0,0,0],()):Bn)=Eb from rfl]
  have hn:again (Tk l1 (I7 (Tk l1) b i) i,l1,(l1.length:Int),(i:Int)+1,())=some ((I7 (Tk l1) b l1.length,(0:Int),()),(),()) :=
   hag _ ⟨i+1,by omega,by show 0<(Tk l1 (I7 (Tk l1) b i) i).length;rw[Tk];simp only[List.length_append];omega,by rw[Int.natCast_add];rfl⟩ (by simp only;omega)
  clear hag
  rw[Tk] at hn
  have hw:=p1.at i
  generalize I7 (Tk l1) b i=b' at hn hlen ⊢
  generalize l1.getD i Eb=x at *
  cases hw with
  | mk h1 h2 =>
  dsimp only at *
  have:=Hd h1
  rw[Bk] at hn
  rw[Nk (by omega) h1,Aa]
  dsimp only
  rw[Uj (by simp only[List.length_append];omega) h2,Aa]
  exact hn
 ·have hi':i=l1.length:=by omega
  subst hi'
  rw[if_neg c,Chy hp0,Aa,Am]
  dsimp only
  rw[decide_eq_true hp0,decide_eq_true rfl,Bool.and_true,Au]
theorem sE2{b:List Int}(m1:O6 ms)(hm:ms.length≤20000)(hc:cl.length=ms.length)(e1:Al h)(p1:Fh l1)(hl:l1.length≤20000)(hb:b.length≤3500000) :
  Ac _ _ (fun again x=>Ro Ac Bw Bs C2 again x.1 x.2.1 x.2.2.1 x.2.2.2.1 x.2.2.2.2.1) (STL st bg n t g p s ac vs ms cl h f l1,b,ms,(ms.length:Int),(0:Int),()) =
   some ((Amx (I7 (Apw ms cl) b ms.length) h l1,(0:Int),()),(),()):=by
 refine Ak (I:=fun x=>∃ i:Nat,i≤ms.length∧x=(STL st bg n t g p s ac vs ms cl h f l1,I7 (Apw ms cl) b i,ms,(ms.length:Int),(i:Int),())) (m:=fun x=>((ms.length:Int)-x.2.2.2.2.1).toNat)
  (g:=fun _=>some ((Amx (I7 (Apw ms cl) b ms.length) h l1,(0:Int),()),(),())) ?_ ⟨0,by omega,rfl⟩ (by rw[Av];simp only;omega)
 rintro x again ⟨i,hi,rfl⟩ hag
 simp only at hag ⊢
 unfold Ro
 dsimp only
 rw[Am,Ad]
 have hlen:=S9 (f:=Apw ms cl) (b:=b) (K:=100) i (fun b j hj=>Bp9 m1 cl b j (by omega))
 by_cases c:(i:Int)<(ms.length:Int)
 ·have hil:i<ms.length:=by omega
  rw[if_pos c,Ao,if_pos (by omega),Ao,if_pos (by omega),Int.toNat_natCast,Ar (by omega) (by omega)]
  rw[show (((0:Int),(0:Int),[(0:Int),0,0,0],()):Ff)=Bj from rfl]
  have hn:again (STL st bg n t g p s ac vs ms cl h f l1,Apw ms cl (I7 (Apw ms cl) b i) i,ms,(ms.length:Int),(i:Int)+1,())=some ((Amx (I7 (Apw ms cl) b ms.length) h l1,(0:Int),()),(),()) :=
   hag _ ⟨i+1,by omega,by rw[Int.natCast_add];rfl⟩ (by simp only;omega)
  clear hag
  have hw:=m1.at hil Bj
  rw[Apw] at hn
  generalize I7 (Apw ms cl) b i=b' at hn hlen ⊢
  generalize ms.getD i Bj=x at *
  generalize cl.getD i false=q at hn ⊢
  cases hw with
  | mk h1 h2 h3 =>
  dsimp only at *
  have q1:=Hd h2
  have q2:=Cd h3
  rw[Bk] at hn
  cases q
  all_goals
   first|rw[Au]|rw[Bp]
   rw[Nk (by omega) h2,Aa]
   dsimp only
   rw[Uj (by simp only[List.length_append];omega) h3,Aa]
   dsimp only
   rw[Di (by simp only[List.length_append];omega),B8]
   exact hn
 ·have hi':i=ms.length:=by omega
  subst hi'
  have q1:=Cd e1
  have q2:=Ye hl
  rw[if_neg c,Uj (by omega) e1,Aa]
  dsimp only
  rw[Cay hl,Nk (by simp only[List.length_append];omega) ⟨by omega,by omega⟩,Aa]
  dsimp only
  rw[Int.toNat_natCast]
  exact sE3 p1 hl (by simp only[List.length_append];omega) (by simp only[List.length_append,Aqe];omega)
theorem sE1{b:List Int}(h8:Xu ac)(hac:ac.length≤20000)(v1:vs.length=4)(v2:∀ n∈vs,Al n)(m1:O6 ms)(hm:ms.length≤20000)(hc:cl.length=ms.length)(e1:Al h)(p1:Fh l1)(hl:l1.length≤20000)(hb:b.length≤300000) :
  Ac _ _ (fun again x=>Rr Ac Bw Bs C2 again x.1 x.2.1 x.2.2.1 x.2.2.2.1 x.2.2.2.2.1) (STL st bg n t g p s ac vs ms cl h f l1,b,ac,(ac.length:Int),(0:Int),()) =
   some ((Amx (Au7 (Avr (I7 (Aou ac) b ac.length) vs) ms cl) h l1,(0:Int),()),(),()):=by
 refine Ak (I:=fun x=>∃ i:Nat,i≤ac.length∧x=(STL st bg n t g p s ac vs ms cl h f l1,I7 (Aou ac) b i,ac,(ac.length:Int),(i:Int),())) (m:=fun x=>((ac.length:Int)-x.2.2.2.2.1).toNat)
  (g:=fun _=>some ((Amx (Au7 (Avr (I7 (Aou ac) b ac.length) vs) ms cl) h l1,(0:Int),()),(),())) ?_ ⟨0,by omega,rfl⟩ (by rw[Av];simp only;omega)
 rintro x again ⟨i,hi,rfl⟩ hag
 simp only at hag ⊢
 unfold Rr
 dsimp only
 rw[Am,Ad]
 have hlen:=S9 (f:=Aou ac) (b:=b) (K:=100) i (fun b j hj=>Bml h8 b j (by omega))
 by_cases c:(i:Int)<(ac.length:Int)
 ·have hil:i<ac.length:=by omega
  rw[if_pos c,Ao,if_pos (by omega),Int.toNat_natCast,Ar (by omega) (by omega)]
  rw[show (((0:Int),[(0:Int),0,0,0],(0:Int),()):A5)=Gs from rfl]
  have hn:again (STL st bg n t g p s ac vs ms cl h f l1,Aou ac (I7 (Aou ac) b i) i,ac,(ac.length:Int),(i:Int)+1,())=some ((Amx (Au7 (Avr (I7 (Aou ac) b ac.length) vs) ms cl) h l1,(0:Int),()),(),()) :=
   hag _ ⟨i+1,by omega,by rw[Int.natCast_add];rfl⟩ (by simp only;omega)
  clear hag
  have hw:=h8 _ (Bt (d:=Gs) hil)
  rw[Aou] at hn
  generalize I7 (Aou ac) b i=b' at hn hlen ⊢
  generalize ac.getD i Gs=x at *
  cases hw with
  | mk h1 h2 h3 =>
  dsimp only at *
  have q1:=Hd h1
  have q2:=Cd h2
  rw[Bk] at hn
  rw[Nk (by omega) h1,Aa]
  dsimp only
  rw[Uj (by simp only[List.length_append];omega) h2,Aa]
  dsimp only
  rw[Nk (by simp only[List.length_append];omega) h3,Aa]
  exact hn
 ·have hi':i=ac.length:=by omega
  subst hi'
  have q2:=Ye hm
  have q3:=Auw (b:=I7 (Aou ac) b ac.length) vs v2
  rw[if_neg c,show List.take (4-0) (List.drop 0 (vs.map Aw))=vs.map Aw by rw[List.drop_zero,List.take_of_length_le (by simp;omega)],Bdc (by omega) (by omega) v2,Aa]
  dsimp only
  rw[Cay hm,Nk (by omega) ⟨by omega,by omega⟩,Aa]
  dsimp only
  rw[Int.toNat_natCast]
  exact sE2 m1 hm hc e1 p1 hl (by simp only[List.length_append];omega)
theorem sE0{b:List Int}{ps:List At}(hps:ps=s.2.2.2.2.2.1)(ha:Adi ps)(hpl:ps.length≤1000)(h8:Xu ac)(hac:ac.length≤20000)(v1:vs.length=4)(v2:∀ n∈vs,Al n)(m1:O6 ms)(hm:ms.length≤20000)(hc:cl.length=ms.length)(e1:Al h)(p1:Fh l1)(hl:l1.length≤20000)(hb:b.length≤20000) :
  Ac _ _ (fun again x=>Sg Ac Bw Bs C2 again x.1 x.2.1 x.2.2.1 x.2.2.2.1 x.2.2.2.2.1) (STL st bg n t g p s ac vs ms cl h f l1,b,ps,(ps.length:Int),(0:Int),()) =
   some ((Amx (Au7 (Avr (Bgu (I7 (Api ps) b ps.length) ac) vs) ms cl) h l1,(0:Int),()),(),()):=by
 refine Ak (I:=fun x=>∃ i:Nat,i≤ps.length∧x=(STL st bg n t g p s ac vs ms cl h f l1,I7 (Api ps) b i,ps,(ps.length:Int),(i:Int),())) (m:=fun x=>((ps.length:Int)-x.2.2.2.2.1).toNat)
  (g:=fun _=>some ((Amx (Au7 (Avr (Bgu (I7 (Api ps) b ps.length) ac) vs) ms cl) h l1,(0:Int),()),(),())) ?_ ⟨0,by omega,rfl⟩ (by rw[Av];simp only;omega)
 rintro x again ⟨i,hi,rfl⟩ hag
 simp only at hag ⊢
 unfold Sg
 dsimp only
 rw[Am,Ad]
 have hlen:=S9 (f:=Api ps) (b:=b) (K:=200) i (fun b j hj=>Bm8 ha b j (by omega))
 by_cases c:(i:Int)<(ps.length:Int)
 ·have hil:i<ps.length:=by omega
  rw[if_pos c,Ao,if_pos (by omega),Int.toNat_natCast,Ar (by omega) (by omega)]
  rw[show (((0:Int),[(0:Int),0,0,0],[(0:Int),0,0,0],[(0:Int),0,0,0],[(0:Int),0,0,0],(0:Int),()):At)=Ax from rfl]
  have hn:again (STL st bg n t g p s ac vs ms cl h f l1,Api ps (I7 (Api ps) b i) i,ps,(ps.length:Int),(i:Int)+1,())=some ((Amx (Au7 (Avr (Bgu (I7 (Api ps) b ps.length) ac) vs) ms cl) h l1,(0:Int),()),(),()) :=
   hag _ ⟨i+1,by omega,by rw[Int.natCast_add];rfl⟩ (by simp only;omega)
  clear hag
  have hw:=ha _ (Bt (d:=Ax) hil)
  rw[Api] at hn
  generalize I7 (Api ps) b i=b' at hn hlen ⊢
  generalize ps.getD i Ax=x at *
  cases hw with
  | mk h1 h2 h3 h4 h5 h6 =>
  rename_i xa xd xc xr xp xs
  dsimp only at *
  have q1:=Hd h1
  have q2:=Cd h2
  have q3:=Cd h3
  have q4:=Cd h4
  have q5:=Cd h5
  rw[Bk,Bk,Bk,Bk] at hn
  rw[Nk (by omega) h1,Aa]
  dsimp only
  rw[show [Aw xd,Aw xc,Aw xr,Aw xp]=[xd,xc,xr,xp].map Aw from rfl,Bdc (by simp only[List.length_append];omega) (by simp) (fun y hy=>by
   simp only[List.mem_cons,List.not_mem_nil,or_false] at hy
   rcases hy with rfl|rfl|rfl|rfl<;>assumption),Aa]
  dsimp only
  rw[show Alc (b'++enc xa.toNat) [xd,xc,xr,xp]=b'++enc xa.toNat++enc xd++enc xc++enc xr++enc xp from rfl,Nk (by simp only[List.length_append];omega) h6,Aa]
  exact hn
 ·have hi':i=ps.length:=by omega
  subst hi'
  have q2:=Ye hac
  rw[if_neg c,Cay hac,Nk (by omega) ⟨by omega,by omega⟩,Aa]
  dsimp only
  rw[Int.toNat_natCast]
  exact sE1 h8 hac v1 v2 m1 hm hc e1 p1 hl (by simp only[List.length_append];omega)
theorem rE4{b:List Int}(p1:Fh l1)(hl:l1.length≤20000)(hb:b.length≤6000000) :
  Ac _ _ (fun again x=>Yr Bu Bl again x.1 x.2.1 x.2.2.1) (STL st bg n t g p s ac vs ms cl h f l1,b,(0:Int),()) =
   some ((I7 (Tk l1) b l1.length,(0:Int),()),(),()):=by
 refine Ak (I:=fun x=>∃ i:Nat,i≤l1.length∧x=(STL st bg n t g p s ac vs ms cl h f l1,I7 (Tk l1) b i,(i:Int),())) (m:=fun x=>((l1.length:Int)-x.2.2.1).toNat)
  (g:=fun _=>some ((I7 (Tk l1) b l1.length,(0:Int),()),(),())) ?_ ⟨0,by omega,rfl⟩ (by rw[Av];simp only;omega)
 rintro x again ⟨i,hi,rfl⟩ hag
 simp only at hag ⊢
 unfold Yr
 dsimp only
 rw[Am,Ad]
 by_cases c:(i:Int)<(l1.length:Int)
 ·have hil:i<l1.length:=by omega
  have hlen:=S9 (f:=Tk l1) (b:=b) (K:=100) i (fun b j hj=>Bg0 p1 b j (by omega))
  rw[if_pos c,Ao,if_pos (by omega),Int.toNat_natCast,Ar (by omega) (by omega)]
  rw[show (((0:Int),[(0:Int),0,0,0],()):Bn)=Eb from rfl]
  have hn:again (STL st bg n t g p s ac vs ms cl h f l1,Tk l1 (I7 (Tk l1) b i) i,(i:Int)+1,())=some ((I7 (Tk l1) b l1.length,(0:Int),()),(),()) :=
   hag _ ⟨i+1,by omega,by rw[Int.natCast_add];rfl⟩ (by simp only;omega)
  clear hag
  rw[Tk] at hn
  have hw:=p1.at i
  generalize I7 (Tk l1) b i=b' at hn hlen ⊢
  generalize l1.getD i Eb=x at *
  cases hw with
  | mk h1 h2 =>
  dsimp only at *
  have:=Hd h1
  rw[Bk] at hn
  rw[Cx (by omega) h1.1 h1.2,Aa,Ao,if_pos (by omega)]
  dsimp only
  rw[B1 (by simp only[List.length_append];omega) h2,Aa]
  exact hn
 ·have hi':i=l1.length:=by omega
  subst hi'
  rw[if_neg c]
theorem rE3{b:List Int}(m1:O6 ms)(hm:ms.length≤20000)(hc:cl.length=ms.length)(e1:Al h)(p1:Fh l1)(hl:l1.length≤20000)(hb:b.length≤3500000) :
  Ac _ _ (fun again x=>Yh Ac Bu Bl again x.1 x.2.1 x.2.2.1) (STL st bg n t g p s ac vs ms cl h f l1,b,(0:Int),()) =
   some ((Amx (I7 (Apw ms cl) b ms.length) h l1,(0:Int),()),(),()):=by
 refine Ak (I:=fun x=>∃ i:Nat,i≤ms.length∧x=(STL st bg n t g p s ac vs ms cl h f l1,I7 (Apw ms cl) b i,(i:Int),())) (m:=fun x=>((ms.length:Int)-x.2.2.1).toNat)
  (g:=fun _=>some ((Amx (I7 (Apw ms cl) b ms.length) h l1,(0:Int),()),(),())) ?_ ⟨0,by omega,rfl⟩ (by rw[Av];simp only;omega)
 rintro x again ⟨i,hi,rfl⟩ hag
 simp only at hag ⊢
 unfold Yh
 dsimp only
 rw[Am,Ad]
 have hlen:=S9 (f:=Apw ms cl) (b:=b) (K:=100) i (fun b j hj=>Bp9 m1 cl b j (by omega))
 by_cases c:(i:Int)<(ms.length:Int)
 ·have hil:i<ms.length:=by omega
  rw[if_pos c,Ao,if_pos (by omega),Int.toNat_natCast,Ar (by omega) (by omega)]
  rw[show (((0:Int),(0:Int),[(0:Int),0,0,0],()):Ff)=Bj from rfl]
  have hn:again (STL st bg n t g p s ac vs ms cl h f l1,Apw ms cl (I7 (Apw ms cl) b i) i,(i:Int)+1,())=some ((Amx (I7 (Apw ms cl) b ms.length) h l1,(0:Int),()),(),()) :=
   hag _ ⟨i+1,by omega,by rw[Int.natCast_add];rfl⟩ (by simp only;omega)
  clear hag
  have hw:=m1.at hil Bj
  rw[Apw] at hn
  have hin:B0 (i:Int) ms.length=true:=by rw[B0,decide_eq_true (by omega),decide_eq_true (by omega)];rfl
  generalize I7 (Apw ms cl) b i=b' at hn hlen ⊢
  generalize ms.getD i Bj=x at *
  generalize cl.getD i false=q at hn ⊢
  cases hw with
  | mk h1 h2 h3 =>
  dsimp only at *
  have q1:=Hd h2
  have q2:=Cd h3
  rw[Bk] at hn
  cases q
  all_goals
   first|rw[Au]|rw[Bp]
   rw[hin,Au,Cx (by omega) h2.1 h2.2,Aa,Au]
   dsimp only
   rw[B1 (by simp only[List.length_append];omega) h3,Aa]
   dsimp only
   rw[Di (by simp only[List.length_append];omega),B8]
   exact hn
 ·have hi':i=ms.length:=by omega
  subst hi'
  have q1:=Cd e1
  have q2:=Ye hl
  rw[if_neg c,B1 (by omega) e1,Aa]
  dsimp only
  rw[Cay hl,Cx (by simp only[List.length_append];omega) (by omega) (by omega),Aa]
  dsimp only
  rw[Int.toNat_natCast]
  exact rE4 p1 hl (by simp only[List.length_append];omega)
theorem rE2{b:List Int}(v1:vs.length=4)(v2:∀ n∈vs,Al n)(m1:O6 ms)(hm:ms.length≤20000)(hc:cl.length=ms.length)(e1:Al h)(p1:Fh l1)(hl:l1.length≤20000)(hb:b.length≤3000000) :
  Ac _ _ (fun again x=>Yc Ac Bl Bu again x.1 x.2.1 x.2.2.1) (STL st bg n t g p s ac vs ms cl h f l1,b,(0:Int),()) =
   some ((Amx (Au7 (Avr b vs) ms cl) h l1,(0:Int),()),(),()):=by
 refine Ak (I:=fun x=>∃ i:Nat,i≤4∧x=(STL st bg n t g p s ac vs ms cl h f l1,Alc b (vs.take i),(i:Int),())) (m:=fun x=>(4-x.2.2.1).toNat)
  (g:=fun _=>some ((Amx (Au7 (Avr b vs) ms cl) h l1,(0:Int),()),(),())) ?_ ⟨0,by omega,rfl⟩ (by rw[Av];simp only;omega)
 rintro x again ⟨i,hi,rfl⟩ hag
 simp only at hag ⊢
 unfold Yc
 dsimp only
 rw[Ad]
 have hlen:=Auw (b:=b) (vs.take i) (fun x hx=>v2 x (List.mem_of_mem_take hx))
 rw[List.length_take] at hlen
 by_cases c:(i:Int)<4
 ·have hil:i<vs.length:=by omega
  have hx:=v2 _ (Bt (d:=0) hil)
  have e2:(vs.map Aw).getD i [(0:Int),0,0,0]=Aw (vs.getD i 0):=by
   rw[List.getD_eq_getElem?_getD,List.getD_eq_getElem?_getD,List.getElem?_map,List.getElem?_eq_getElem hil];rfl
  rw[if_pos c,Ao,if_pos (by omega),Int.toNat_natCast,Ar (by omega) (by omega),e2,B1 (by omega) hx,Aa]
  dsimp only
  rw[← Bj7,← Av8 0 hil]
  exact hag _ ⟨i+1,by omega,by rw[Int.natCast_add];rfl⟩ (by simp only;omega)
 ·have q2:=Ye hm
  rw[if_neg c,List.take_of_length_le (by omega),Cay hm]
  rw[List.take_of_length_le (by omega)] at hlen
  rw[Cx (by omega) (by omega) (by omega),Aa]
  dsimp only
  rw[Int.toNat_natCast]
  exact rE3 m1 hm hc e1 p1 hl (by simp only[List.length_append];omega)
theorem rE1{b:List Int}(h8:Xu ac)(hac:ac.length≤20000)(v1:vs.length=4)(v2:∀ n∈vs,Al n)(m1:O6 ms)(hm:ms.length≤20000)(hc:cl.length=ms.length)(e1:Al h)(p1:Fh l1)(hl:l1.length≤20000)(hb:b.length≤300000) :
  Ac _ _ (fun again x=>Zb Ac Bu Bl again x.1 x.2.1 x.2.2.1) (STL st bg n t g p s ac vs ms cl h f l1,b,(0:Int),()) =
   some ((Amx (Au7 (Avr (I7 (Aou ac) b ac.length) vs) ms cl) h l1,(0:Int),()),(),()):=by
 refine Ak (I:=fun x=>∃ i:Nat,i≤ac.length∧x=(STL st bg n t g p s ac vs ms cl h f l1,I7 (Aou ac) b i,(i:Int),())) (m:=fun x=>((ac.length:Int)-x.2.2.1).toNat)
  (g:=fun _=>some ((Amx (Au7 (Avr (I7 (Aou ac) b ac.length) vs) ms cl) h l1,(0:Int),()),(),())) ?_ ⟨0,by omega,rfl⟩ (by rw[Av];simp only;omega)
 rintro x again ⟨i,hi,rfl⟩ hag
 simp only at hag ⊢
 unfold Zb
 dsimp only
 rw[Am,Ad]
 have hlen:=S9 (f:=Aou ac) (b:=b) (K:=100) i (fun b j hj=>Bml h8 b j (by omega))
 by_cases c:(i:Int)<(ac.length:Int)
 ·have hil:i<ac.length:=by omega
  rw[if_pos c,Ao,if_pos (by omega),Int.toNat_natCast,Ar (by omega) (by omega)]
  rw[show (((0:Int),[(0:Int),0,0,0],(0:Int),()):A5)=Gs from rfl]
  have hn:again (STL st bg n t g p s ac vs ms cl h f l1,Aou ac (I7 (Aou ac) b i) i,(i:Int)+1,())=some ((Amx (Au7 (Avr (I7 (Aou ac) b ac.length) vs) ms cl) h l1,(0:Int),()),(),()) :=
   hag _ ⟨i+1,by omega,by rw[Int.natCast_add];rfl⟩ (by simp only;omega)
  clear hag
  have hw:=h8 _ (Bt (d:=Gs) hil)
  rw[Aou] at hn
  generalize I7 (Aou ac) b i=b' at hn hlen ⊢
  generalize ac.getD i Gs=x at *
  cases hw with
  | mk h1 h2 h3 =>
  dsimp only at *
  have q1:=Hd h1
  have q2:=Cd h2
  rw[Bk] at hn
  rw[Cx (by omega) h1.1 h1.2,Aa]
  dsimp only
  rw[B1 (by simp only[List.length_append];omega) h2,Aa]
  dsimp only
  rw[Cx (by simp only[List.length_append];omega) h3.1 h3.2,Aa]
  exact hn
 ·have hi':i=ac.length:=by omega
  subst hi'
  rw[if_neg c]
  exact rE2 v1 v2 m1 hm hc e1 p1 hl (by omega)
theorem rE0{b:List Int}{ps:List At}(hps:ps=s.2.2.2.2.2.1)(ha:Adi ps)(hpl:ps.length≤1000)(h8:Xu ac)(hac:ac.length≤20000)(v1:vs.length=4)(v2:∀ n∈vs,Al n)(m1:O6 ms)(hm:ms.length≤20000)(hc:cl.length=ms.length)(e1:Al h)(p1:Fh l1)(hl:l1.length≤20000)(hb:b.length≤20000) :
  Ac _ _ (fun again x=>Zw Ac Bu Bl again x.1 x.2.1 x.2.2.1) (STL st bg n t g p s ac vs ms cl h f l1,b,(0:Int),()) =
   some ((Amx (Au7 (Avr (Bgu (I7 (Api ps) b ps.length) ac) vs) ms cl) h l1,(0:Int),()),(),()):=by
 obtain⟨s1,s2,s3,s4,s5,s6,su⟩:=s
 dsimp only at hps
 subst hps
 refine Ak (I:=fun x=>∃ i:Nat,i≤ps.length∧x=(STL st bg n t g p (s1,s2,s3,s4,s5,ps,su) ac vs ms cl h f l1,I7 (Api ps) b i,(i:Int),())) (m:=fun x=>((ps.length:Int)-x.2.2.1).toNat)
  (g:=fun _=>some ((Amx (Au7 (Avr (Bgu (I7 (Api ps) b ps.length) ac) vs) ms cl) h l1,(0:Int),()),(),())) ?_ ⟨0,by omega,rfl⟩ (by rw[Av];simp only;omega)
 rintro x again ⟨i,hi,rfl⟩ hag
 simp only at hag ⊢
 unfold Zw
 dsimp only
 rw[Am,Ad]
 have hlen:=S9 (f:=Api ps) (b:=b) (K:=200) i (fun b j hj=>Bm8 ha b j (by omega))
 by_cases c:(i:Int)<(ps.length:Int)
 ·have hil:i<ps.length:=by omega
  rw[if_pos c,Ao,if_pos (by omega),Int.toNat_natCast,Ar (by omega) (by omega)]
  rw[show (((0:Int),[(0:Int),0,0,0],[(0:Int),0,0,0],[(0:Int),0,0,0],[(0:Int),0,0,0],(0:Int),()):At)=Ax from rfl]
  have hn:again (STL st bg n t g p (s1,s2,s3,s4,s5,ps,su) ac vs ms cl h f l1,Api ps (I7 (Api ps) b i) i,(i:Int)+1,())=some ((Amx (Au7 (Avr (Bgu (I7 (Api ps) b ps.length) ac) vs) ms cl) h l1,(0:Int),()),(),()) :=
   hag _ ⟨i+1,by omega,by rw[Int.natCast_add];rfl⟩ (by simp only;omega)
  clear hag
  have hw:=ha _ (Bt (d:=Ax) hil)
  rw[Api] at hn
  generalize I7 (Api ps) b i=b' at hn hlen ⊢
  generalize ps.getD i Ax=x at *
  cases hw with
  | mk h1 h2 h3 h4 h5 h6 =>
  rename_i xa xd xc xr xp xs
  dsimp only at *
  have q1:=Hd h1
  have q2:=Cd h2
  have q3:=Cd h3
  have q4:=Cd h4
  have q5:=Cd h5
  rw[Bk,Bk,Bk,Bk] at hn
  rw[Cx (by omega) h1.1 h1.2,Aa]
  dsimp only
  rw[B1 (by simp only[List.length_append];omega) h2,Aa]
  dsimp only
  rw[B1 (by simp only[List.length_append];omega) h3,Aa]
  dsimp only
  rw[B1 (by simp only[List.length_append];omega) h4,Aa]
  dsimp only
  rw[B1 (by simp only[List.length_append];omega) h5,Aa]
  dsimp only
  rw[Cx (by simp only[List.length_append];omega) h6.1 h6.2,Aa]
  exact hn
 ·have hi':i=ps.length:=by omega
  subst hi'
  have q2:=Ye hac
  rw[if_neg c,Cay hac,Cx (by omega) (by omega) (by omega),Aa]
  dsimp only
  rw[Int.toNat_natCast]
  exact rE1 h8 hac v1 v2 m1 hm hc e1 p1 hl (by simp only[List.length_append];omega)
def Btd(st bg n t g:Int)(p:N6)(s:T3)(ac:List A5)(vs:List Nat)(ms:List Ff)(cl:List Bool)(h f:Nat)(l1:List Bn):List Int :=
 Amx (Au7 (Avr (Bgu (Cac (Acv st bg p n t g f s) s.2.2.2.2.2.1) ac) vs) ms cl) h l1
open Classical in
theorem Cb9(hst:B4 st)(hbg:B4 bg)(hn:B4 n)(ht:B4 t)(hg:B4 g)(h2:Vd p)(h4:Al f)(h6:Apx s)(hpl:s.2.2.2.2.2.1.length≤1000)(h8:Xu ac)(v1:vs.length=4)(v2:∀ n∈vs,Al n)(m1:O6 ms)(e1:Al h)(p1:Fh l1)(hs:Axs ac ms l1) :
  Ey (STL st bg n t g p s ac vs ms cl h f l1,())=some ((if VS p t f s ac vs ms cl h l1 then (Btd st bg n t g p s ac vs ms cl h f l1,(0:Int),()) else ([],(2:Int),())),(),()) ∧
  Ha (STL st bg n t g p s ac vs ms cl h f l1,())=some ((if VS p t f s ac vs ms cl h l1 then (Btd st bg n t g p s ac vs ms cl h f l1,(0:Int),()) else ([],(2:Int),())),(),()):=by
 obtain⟨k1,k2,k3⟩:=Bzu (ac:=ac) (vs:=vs.map Aw) (ms:=ms) (cl:=cl) (h:=Aw h) (l1:=l1) hst hbg h2 hn ht hg h4 h6
 have q:=Ye (n:=s.2.2.2.2.2.1.length) (by omega)
 constructor
 ·unfold Ey Afv
  dsimp only
  rw[Am,Bfv h2 h4 h6 h8 v1 v2 m1 e1 p1 hs,Aa]
  dsimp only
  rw[Aq,Ad]
  by_cases c:VS p t f s ac vs ms cl h l1
  case neg=>rw[if_neg c,if_neg c]
  rw[if_pos c,if_pos c,k1,Aa]
  dsimp only
  rw[Cay (n:=s.2.2.2.2.2.1.length) (by omega),Nk (by omega) ⟨by omega,by omega⟩,Aa]
  dsimp only
  rw[Int.toNat_natCast]
  exact sE0 rfl h6.ps hpl h8 hs.a v1 v2 m1 hs.m c.cn e1 p1 hs.l (by simp only[List.length_append];omega)
 ·unfold Ha Ao3
  dsimp only
  rw[Bju h2 h4 h6 h8 v1 v2 m1 e1 p1 hs,Aa]
  dsimp only
  rw[Aq,Ad]
  by_cases c:VS p t f s ac vs ms cl h l1
  case neg=>rw[if_neg c,if_neg c]
  rw[if_pos c,if_pos c,k2,Aa]
  dsimp only
  rw[Cay (n:=s.2.2.2.2.2.1.length) (by omega),Cx (by omega) (by omega) (by omega),Aa]
  dsimp only
  rw[Int.toNat_natCast]
  exact rE0 rfl h6.ps hpl h8 hs.a v1 v2 m1 hs.m c.cn e1 p1 hs.l (by simp only[List.length_append];omega)
end
theorem Aq7:Aw 0=[(0:Int),0,0,0]:=rfl
theorem Bea:TxW Cof:=by
 have u0:B4 0:=⟨by omega,by omega⟩
 have b0:Al 0:=by unfold Al;omega
 have:=TxW.mk u0 u0 u0 b0 u0 b0 b0 u0 (d:=[]) (fun x hx=>by cases hx)
 rw[Aq7] at this
 exact this
abbrev Cs7(x:List Int)(a:Int):Aea:=((6:Int),((0:Int),(0:Int),(0:Int),[(0:Int),0,0,0],(0:Int),[(0:Int),0,0,0],[(0:Int),0,0,0],(0:Int),([]:List Int),()),((0:Int),(0:Int),[(0:Int),0,0,0],()),(0:Int),(0:Int),x,a,((0:Int),(0:Int),(0:Int),[(0:Int),0,0,0],([]:List (List Int)),()),())
theorem Bfc:Awm ((0:Int),(0:Int),(0:Int),[(0:Int),0,0,0],([]:List (List Int)),()):=by
 have u0:B4 0:=⟨by omega,by omega⟩
 have b0:Al 0:=by unfold Al;omega
 have:=Awm.mk u0 u0 u0 b0 (l:=[]) (fun x hx=>by cases hx)
 rw[Aq7] at this
 exact this
theorem Ayx{k:Nat}{a:Int}(hk:Al k)(ha:B4 a):Rd (Cs7 (Aw k) a):=by
 have u0:B4 0:=⟨by omega,by omega⟩
 have b0:Al 0:=by unfold Al;omega
 have:=Rd.mk (k:=6) (y:=0) (by omega) Bea u0 u0 b0 u0 (by omega) hk ha Bfc
 rw[Aq7] at this
 exact this
theorem Bzr{n a:Int}{calm:Bool}(hn:0≤n)(ha:B4 a):∃ s,Rd s∧K3 (n,a,calm,())=some ((s,()),(),(),(),()):=by
 have m1:0≤Int.tmod n 100000∧Int.tmod n 100000<100000:=by rw[Jg hn];omega
 have m2:0≤Int.tmod n 50∧Int.tmod n 50<50:=by rw[Jg hn];omega
 have w1:IntKind.wrap .u64 (Int.tmod n 100000)=Int.tmod n 100000:=H4 (by omega) (by omega)
 have w2:IntKind.wrap .u64 ((4503599627370496:Int)+Int.tmod n 100000)=4503599627370496+Int.tmod n 100000:=H4 (by omega) (by omega)
 have w3:IntKind.wrap .u64 (Int.tmod n 50)=Int.tmod n 50:=H4 (by omega) (by omega)
 have l1:([4503599627370496+Int.tmod n 100000,(0:Int),(0:Int),(0:Int)]:List Int)=Aw (4503599627370496+Int.tmod n 100000).toNat:=Aad (by omega) (by omega)
 have l2:([Int.tmod n 50,(0:Int),(0:Int),(0:Int)]:List Int)=Aw (Int.tmod n 50).toNat:=Aad (by omega) (by omega)
 have l3:([(0:Int),0,0,4611686018427387904]:List Int)=Aw 28948022309329048855892746252171976963317496166410141009864396001978282409984:=by decide
 have b1:Al (4503599627370496+Int.tmod n 100000).toNat:=by unfold Al;omega
 have b2:Al (Int.tmod n 50).toNat:=by unfold Al;omega
 unfold K3 Afs
 simp only[Am]
 rw[w1,w2,w3,l1,l2,l3]
 rw[Ad,Ad,Ad,Ad,Ad]
 by_cases c1:Int.tmod n 13=5
 ·rw[if_pos c1];exact⟨_,Ayx b1 (by unfold B4;omega),rfl⟩
 rw[if_neg c1]
 by_cases c2:Int.tmod n 31=6
 ·rw[if_pos c2];exact⟨_,Ayx b1 (by unfold B4;omega),rfl⟩
 rw[if_neg c2]
 by_cases c3:Int.tmod n 37=7
 ·rw[if_pos c3];exact⟨_,Ayx b1 (by unfold B4;omega),rfl⟩
 rw[if_neg c3]
 by_cases c4:Int.tmod n 11=3
 ·rw[if_pos c4];exact⟨_,Ayx b2 ha,rfl⟩
 rw[if_neg c4]
 by_cases c5:Int.tmod n 61=8
 ·rw[if_pos c5]
  cases calm with
  | true=>exact⟨_,Ayx b1 ha,rfl⟩
  | false=>exact⟨_,Ayx (by unfold Al;omega) ha,rfl⟩
 ·rw[if_neg c5];exact⟨_,Ayx b1 ha,rfl⟩
theorem Cm3(z:Int):B4 (IntKind.wrap .u64 z):=by
 rw[IntKind.wrap_u64];unfold B4;omega
theorem Beb{z k:Int}(h:B4 z)(hk:1≤k):B4 (Int.tmod z k):=by
 unfold B4 at *
 rw[Jg h.1]
 have h1:=Int.emod_nonneg z (b:=k) (by omega)
 have h3:0≤z / k:=Int.ediv_nonneg h.1 (by omega)
 have h4:=Int.emod_add_mul_ediv z k
 have h5:0≤k*(z / k):=Int.mul_nonneg (by omega) h3
 have h2:z % k≤z:=by omega
 omega
abbrev Ctp(y:Int)(x:List Int):Aea:=((4:Int),((0:Int),(0:Int),(0:Int),[(0:Int),0,0,0],(0:Int),[(0:Int),0,0,0],[(0:Int),0,0,0],(0:Int),([]:List Int),()),((0:Int),(0:Int),[(0:Int),0,0,0],()),(0:Int),y,x,(0:Int),((0:Int),(0:Int),(0:Int),[(0:Int),0,0,0],([]:List (List Int)),()),())
theorem Bu2{k:Nat}{y:Int}(hy : -9223372036854775808≤y∧y≤9223372036854775807)(hk:Al k):Rd (Ctp y (Aw k)):=by
 have u0:B4 0:=⟨by omega,by omega⟩
 have b0:Al 0:=by unfold Al;omega
 have:=Rd.mk (k:=4) (y:=y) (by omega) Bea u0 u0 b0 u0 hy hk u0 Bfc
 rw[Aq7] at this
 exact this
theorem Ce3{n:Int}(hn:0≤n)(hn2:n≤9223372036854775807):∃ s,Rd s∧Ns (n,())=some ((s,()),(),()):=by
 have m1:0≤Int.tmod n 12∧Int.tmod n 12<12:=by rw[Jg hn];omega
 have m2:0≤Int.tmod n 40∧Int.tmod n 40<40:=by rw[Jg hn];omega
 have w1:IntKind.wrap .i64 (Int.tmod n 12+1)=Int.tmod n 12+1:=Ar (by omega) (by omega)
 unfold Ns Am2
 simp only[Am]
 have hW:=Cm3 (IntKind.wrap .i64 (Int.tdiv n 12))
 generalize IntKind.wrap .u64 (IntKind.wrap .i64 (Int.tdiv n 12))=W at *
 rw[w1,Ao,if_pos (by omega),Ad,Ad]
 have z0:([(0:Int),0,0,0]:List Int)=Aw 0:=rfl
 have b0:Al 0:=by unfold Al;omega
 have row:∀ (l:List Int) (j:Nat),(∀ x∈l,B4 x)→∃ k:Nat,Al k∧([List.getD l j 0,(0:Int),(0:Int),(0:Int)]:List Int)=Aw k:=fun l j h=>by
  have hu:B4 (List.getD l j 0):=by
   rcases Nat.lt_or_ge j l.length with hj|hj
   ·exact h _ (Bt hj)
   ·rw[List.getD_eq_getElem?_getD,List.getElem?_eq_none hj];unfold B4;simp
  unfold B4 at hu
  exact⟨_,by unfold Al;omega,Aad hu.1 hu.2⟩
 have rows:=row [IntKind.wrap .u64 (1000000+Int.tmod W 10000000),Int.tmod W 20,IntKind.wrap .u64 (1+Int.tmod W 200),IntKind.wrap .u64 (10000000+Int.tmod W 1000000000),IntKind.wrap .u64 (1000000+Int.tmod W 100000000),Int.tmod W 200000000,Int.tmod W 10300,Int.tmod W 1000,IntKind.wrap .u64 (1000+Int.tmod W 1000000000),IntKind.wrap .u64 (1+Int.tmod W 100),Int.tmod W 250,IntKind.wrap .u64 (200+Int.tmod W 100000)] (Int.tmod n 12).toNat (fun x hx=>by
  simp only[List.mem_cons,List.not_mem_nil,or_false] at hx
  rcases hx with rfl|rfl|rfl|rfl|rfl|rfl|rfl|rfl|rfl|rfl|rfl|rfl
  all_goals first|exact Cm3 _|exact Beb hW (by omega))
 obtain⟨k,hk,e⟩:=rows
 rw[e]
 by_cases c1:Int.tmod n 17=3
 ·rw[if_pos c1]
  by_cases c2:Int.tmod n 31=4
  ·rw[if_pos c2];exact⟨_,Bu2 (y:=Int.tmod n 40) (by omega) b0,rfl⟩
  ·rw[if_neg c2];exact⟨_,Bu2 (y:=Int.tmod n 12+1) (by omega) b0,rfl⟩
 ·rw[if_neg c1]
  by_cases c2:Int.tmod n 31=4
  ·rw[Ad,if_pos c2];exact⟨_,Bu2 (y:=Int.tmod n 40) (by omega) hk,rfl⟩
  ·rw[Ad,if_neg c2];exact⟨_,Bu2 (y:=Int.tmod n 12+1) (by omega) hk,rfl⟩
theorem Cm4(x:Int):0≤IntKind.wrap .u8 x∧IntKind.wrap .u8 x≤255:=by rw[IntKind.wrap_u8];omega
theorem Bv0{n:Nat}(h:n≤1000000){α:Type}(a b:Option α):Ah (A9 n (.int .u8)) a b=a:=by
 rw[Ah6,if_pos ⟨by decide,by simp only[Ty.size];omega⟩]
theorem Bcz{o:List Int}{x:Int}(h:Dy o)(hx:0≤x∧x≤255):Dy (List.append o [x]):=fun y hy=>by
 rcases List.mem_append.1 hy with hy|hy
 ·exact h y hy
 ·rw[List.mem_singleton.1 hy];exact hx
theorem Bop(o:List Int)(x:Int):(List.append o [x]).length=o.length+1:=by simp
def PB(L:Nat)(r:Option (((List Int)×Unit)×Unit×Unit)):Prop:=∃ o:List Int,r=some ((o,()),(),())∧Dy o∧o.length≤L
section
variable {again0:((List Int)×(List Int)×Int×Unit)→Option (((List Int)×Unit)×Unit×Unit)} {v out:List Int} {i k:Int} {n B L:Nat}
theorem Csx(h0:∀ o,Dy o→o.length≤B→PB L (again0 (v,o,IntKind.wrap .i64 (i+1),())))(hb:Dy out)(hl:out.length+n≤B)(hB:B≤100000)(hn:n≤24) :
  PB L (Ac _ _ (fun again x=>Ih again0 again x.1 x.2.1 x.2.2.1 x.2.2.2.1 x.2.2.2.2.1 x.2.2.2.2.2.1) (v,out,i,k,(n:Int),(0:Int),())):=by
 refine Cq (I:=fun y=>∃ (j:Nat) (o:List Int),j≤n∧Dy o∧o.length≤out.length+j∧y=(v,o,i,k,(n:Int),(j:Int),()))
  (m:=fun y=>((n:Int)-y.2.2.2.2.2.1).toNat) (P:=PB L) ?_ ⟨0,out,Nat.zero_le _,hb,Nat.le_refl _,rfl⟩ (by rw[Av];simp only;omega)
 rintro y again ⟨j,o,hj,hbo,hlo,rfl⟩ hag
 simp only at hag ⊢
 unfold Ih
 rw[Ad]
 by_cases c:(j:Int)<(n:Int)
 ·rw[if_pos c,Bv0 (by omega),Ar (n:=(j:Int)+1) (by omega) (by omega)]
  exact hag _ ⟨j+1,_,by omega,Bcz hbo (Cm4 _),by rw[Bop];omega,by rw[Int.natCast_add];rfl⟩ (by simp only;omega)
 ·rw[if_neg c]
  exact h0 o hbo (by omega)
theorem Ct1{fr:Int}(h0:∀ o,Dy o→o.length≤B→PB L (again0 (v,o,IntKind.wrap .i64 (i+1),())))(hb:Dy out)(hl:out.length+n≤B)(hB:B≤100000)(hn:n≤24)(hf:0≤fr∧fr≤100000) :
  PB L (Ac _ _ (fun again x=>Be again0 again x.1 x.2.1 x.2.2.1 x.2.2.2.1 x.2.2.2.2.1 x.2.2.2.2.2.1) (v,out,i,(n:Int),fr,(0:Int),())):=by
 refine Cq (I:=fun y=>∃ (j:Nat) (o:List Int),j≤n∧Dy o∧o.length≤out.length+j∧y=(v,o,i,(n:Int),fr,(j:Int),()))
  (m:=fun y=>((n:Int)-y.2.2.2.2.2.1).toNat) (P:=PB L) ?_ ⟨0,out,Nat.zero_le _,hb,Nat.le_refl _,rfl⟩ (by rw[Av];simp only;omega)
 rintro y again ⟨j,o,hj,hbo,hlo,rfl⟩ hag
 simp only at hag ⊢
 unfold Be
 rw[Ad]
 by_cases c:(j:Int)<(n:Int)
 ·rw[if_pos c,Ar (n:=fr+(j:Int)) (by omega) (by omega),Ad]
  by_cases c2:fr+(j:Int)<((o.length:Nat):Int)
  ·rw[if_pos c2,Ao,if_pos (by omega),Bv0 (by omega),Ar (n:=(j:Int)+1) (by omega) (by omega)]
   exact hag _ ⟨j+1,_,by omega,Bcz hbo (hbo _ (Bt (show (fr+(j:Int)).toNat<o.length by omega))),by rw[Bop];omega,by rw[Int.natCast_add];rfl⟩ (by simp only;omega)
  ·rw[if_neg c2]
   exact h0 o hbo (by omega)
 ·rw[if_neg c]
  exact h0 o hbo (by omega)
theorem Cs5(h0:∀ o,Dy o→o.length≤B→PB L (again0 (v,o,IntKind.wrap .i64 (i+1),())))(hb:Dy out)(hl:out.length+n≤B)(hB:B≤100000)(hn:n≤24) :
  PB L (Ac _ _ (fun again x=>Cz again0 again x.1 x.2.1 x.2.2.1 x.2.2.2.1 x.2.2.2.2.1 x.2.2.2.2.2.1) (v,out,i,k,(n:Int),(0:Int),())):=by
 refine Cq (I:=fun y=>∃ (j:Nat) (o:List Int),j≤n∧Dy o∧o.length≤out.length+j∧y=(v,o,i,k,(n:Int),(j:Int),()))
  (m:=fun y=>((n:Int)-y.2.2.2.2.2.1).toNat) (P:=PB L) ?_ ⟨0,out,Nat.zero_le _,hb,Nat.le_refl _,rfl⟩ (by rw[Av];simp only;omega)
 rintro y again ⟨j,o,hj,hbo,hlo,rfl⟩ hag
 simp only at hag ⊢
 unfold Cz
 rw[Ad]
 by_cases c:(j:Int)<(n:Int)
 ·rw[if_pos c,Ad,if_pos (Ku _).1,Bv0 (by omega),Ar (n:=(j:Int)+1) (by omega) (by omega)]
  exact hag _ ⟨j+1,_,by omega,Bcz hbo (Cm4 _),by rw[Bop];omega,by rw[Int.natCast_add];rfl⟩ (by simp only;omega)
 ·rw[if_neg c]
  exact h0 o hbo (by omega)
end
theorem Col{v:List Int}(hv:∀ x∈v,I64 x)(hl:v.length≤1000):PB (24*v.length) (H1 (v,())):=by
 unfold H1 Ms
 refine Cq (I:=fun y=>∃ (i:Nat) (o:List Int),i≤v.length∧Dy o∧o.length≤24*i∧y=(v,o,(i:Int),())) (m:=fun y=>(((v.length:Nat):Int)-y.2.2.1).toNat)
  (P:=PB (24*v.length)) ?_ ⟨0,[],Nat.zero_le _,(fun x hx=>by cases hx),Nat.le_refl _,rfl⟩ (by rw[Av];simp only;omega)
 rintro y again ⟨i,o,hi,hbo,hlo,rfl⟩ hag
 simp only at hag ⊢
 unfold Vm
 rw[Ad]
 by_cases c:(i:Int)<((v.length:Nat):Int)
 case neg=>rw[if_neg c];exact⟨o,rfl,hbo,by omega⟩
 obtain⟨x1,x2⟩:=hv _ (Bt (d:=0) (show i<v.length by omega))
 have hs:∀ o',Dy o'→o'.length≤24*(i+1)→PB (24*v.length) (again (v,o',IntKind.wrap .i64 ((i:Int)+1),())):=fun o' h1 h2=>by
  rw[Ar (by omega) (by omega)]
  exact hag _ ⟨i+1,o',by omega,h1,h2,by rw[Int.natCast_add];rfl⟩ (by simp only;omega)
 rw[if_pos c,Ao,if_pos (by omega),Int.toNat_natCast,Bwl x1 x2 (by omega) (by omega),Aa]
 dsimp only
 have hk:0≤List.getD v i 0 % 18446744073709551616 % 1048576∧List.getD v i 0 % 18446744073709551616 % 1048576<1048576:=by omega
 generalize List.getD v i 0 % 18446744073709551616 % 1048576=k at *
 have e8:Int.tdiv k 8=k / 8:=Int.tdiv_eq_ediv_of_nonneg hk.1
 have en:IntKind.wrap .i64 (1+Int.tmod (IntKind.wrap .i64 (Int.tdiv k 8)) 24)=(((1+(k / 8) % 24).toNat:Nat):Int):=by
  rw[e8,Ar (n:=k / 8) (by omega) (by omega),Jg (by omega),Ar (by omega) (by omega)]
  omega
 have hn:(1+(k / 8) % 24).toNat≤24:=by omega
 rw[en]
 generalize (1+(k / 8) % 24).toNat=n at *
 have hfr:∀ p:Nat,0<p→p≤30000→0≤Int.tmod (IntKind.wrap .i64 (Int.tdiv k 64)) ((p:Nat):Int)∧Int.tmod (IntKind.wrap .i64 (Int.tdiv k 64)) ((p:Nat):Int)≤100000:=fun p hp hp2=>by
  rw[Int.tdiv_eq_ediv_of_nonneg hk.1,Ar (n:=k / 64) (by omega) (by omega),Jg (by omega)]
  have h1:=Int.emod_nonneg (k / 64) (show ((p:Nat):Int)≠0 by omega)
  have h2:=Int.emod_lt_of_pos (k / 64) (show (0:Int)<((p:Nat):Int) by omega)
  omega
 have r1:=Csx (again0:=again) (k:=k) (n:=n) (B:=24*(i+1)) hs hbo (by omega) (by omega) hn
 have r3:=Cs5 (again0:=again) (k:=k) (n:=n) (B:=24*(i+1)) hs hbo (by omega) (by omega) hn
 have r2:=fun (fr:Int) (hf:0≤fr∧fr≤100000)=>Ct1 (again0:=again) (n:=n) (B:=24*(i+1)) (fr:=fr) hs hbo (by omega) (by omega) hn hf
 have r2':PB (24*v.length) (Ah (decide ((o.length:Int)>(0:Int))) (Ah (decide ((o.length:Int)≠(0:Int)))
   (Ac _ _ (fun again_1 x=>Be again again_1 x.1 x.2.1 x.2.2.1 x.2.2.2.1 x.2.2.2.2.1 x.2.2.2.2.2.1) (v,o,(i:Int),(n:Int),(Int.tmod (Go.IntKind.wrap (Go.IntKind.i64) (Int.tdiv k (64:Int))) (o.length:Int)),(0:Int),()))
   none) (Ac _ _ (fun again_1 x=>Be again again_1 x.1 x.2.1 x.2.2.1 x.2.2.2.1 x.2.2.2.2.1 x.2.2.2.2.2.1) (v,o,(i:Int),(n:Int),(0:Int),(0:Int),()))):=by
  rw[Ad]
  by_cases c1:(o.length:Int)>0
  ·rw[if_pos c1,Ad,if_pos (by omega)]
   exact r2 _ (hfr _ (by omega) (by omega))
  ·rw[if_neg c1]
   exact r2 0 ⟨by omega,by omega⟩
 clear r2 hfr hag
 rw[Am,Am]
 generalize Int.tmod k 8=z
 by_cases z0:z=0
 ·rw[decide_eq_true z0,Au,Au];exact r1
 rw[decide_eq_false z0,Bp]
 by_cases z1:z=1
 ·rw[decide_eq_true z1,Au];exact r1
 rw[decide_eq_false z1,Bp]
 by_cases z2:z=2
 ·rw[decide_eq_true z2]
  simp only[Bp,Au]
  exact r2'
 rw[decide_eq_false z2]
 by_cases z3:z=3
 ·rw[decide_eq_true z3]
  simp only[Bp,Au]
  exact r2'
 rw[decide_eq_false z3]
 by_cases z4':z=4
 ·rw[decide_eq_true z4']
  simp only[Bp,Au]
  exact r2'
 rw[decide_eq_false z4']
 simp only[Bp]
 exact r3
theorem Ci0{x:Int}(h:B4 x):∃ k,Al k∧[x,(0:Int),(0:Int),(0:Int)]=Aw k:=by
 unfold B4 at h
 exact⟨x.toNat,by unfold Al;omega,Aad h.1 h.2⟩
theorem Ctd{x:Int}(h:B4 x):∃ k,Al k∧[(0:Int),x,(0:Int),(0:Int)]=Aw k:=by
 unfold B4 at h
 refine⟨x.toNat*18446744073709551616,by unfold Al;omega,?_⟩
 simp only[Aw,List.cons.injEq,and_true]
 refine⟨?_,?_,?_,?_⟩<;>omega
theorem Cql:∃ k,Al k∧[(0:Int),0,1,0]=Aw k :=
 ⟨340282366920938463463374607431768211456,by unfold Al;omega,by decide⟩
theorem Ade{n:Int}(h:0≤n)(k:Int)(hk:0<k):0≤Int.tmod n k∧Int.tmod n k<k:=by
 rw[Jg h]
 exact⟨Int.emod_nonneg _ (by omega),Int.emod_lt_of_pos _ hk⟩
theorem Cb7{N:Nat}{M:Lz}(h:MW N M){n:Int}:∃ r:Cbq,Bdi r∧L4 (n,M,())=some ((r,()),(),M,()):=by
 cases h with
 | mk h1 h2 h3 h4 h5 h6 h7 h8 h9 h10 =>
 rename_i st bg p b pr m vs ms hh r cs q
 unfold L4 Aio
 simp only[Am]
 obtain⟨c1,d1,e1⟩:=Cql
 obtain⟨c2,d2,e2⟩:=Ci0 (Ku ((IntKind.wrap .u64 (Int.tmod (IntKind.wrap .i64 (Int.tdiv n 9)) 5000))*20000000))
 obtain⟨c3,d3,e3⟩:=Ctd (Ku (Int.tmod n 1000))
 rw[e1,e2,e3]
 have hv2:=Ku (b.2.1-pr.2.2.1)
 generalize IntKind.wrap .u64 (b.2.1-pr.2.2.1)=v2 at *
 unfold B4 at hv2
 rw[Ad]
 by_cases g1:(1099511627776:Int)<v2
 ·rw[if_pos g1,Ad]
  split
  ·exact⟨_,Bdi.mk (Ku _) (Ku _) d1,rfl⟩
  ·rw[Ad]
   split
   ·exact⟨_,Bdi.mk (Ku _) (Ku _) d2,rfl⟩
   ·rw[Ad]
    split
    ·exact⟨_,Bdi.mk (Ku _) (Ku _) d3,rfl⟩
    ·exact⟨_,Bdi.mk (Ku _) (Ku _) d2,rfl⟩
 ·rw[if_neg g1,H4 (n:=v2+2) (by omega) (by omega),Ad,if_pos (by omega),Ad]
  split
  ·exact⟨_,Bdi.mk (Ku _) (Ku _) d1,rfl⟩
  ·rw[Ad]
   split
   ·exact⟨_,Bdi.mk (Ku _) (Ku _) d2,rfl⟩
   ·rw[Ad]
    split
    ·exact⟨_,Bdi.mk (Ku _) (Ku _) d3,rfl⟩
    ·exact⟨_,Bdi.mk (Ku _) (Ku _) d2,rfl⟩
theorem Bsq:Me ()=some ((Aw 115792089237316195423570985008687907853269984665640564039457584007913129639935,()),()):=by
 unfold Me Aih
 congr 3
theorem Cns(a:Nat):Al (min a 115792089237316195423570985008687907853269984665640564039457584007913129639935) :=
 Nat.lt_of_le_of_lt (Nat.min_le_right _ _) (by decide)
theorem Cfm{N:Nat}{M:Lz}(h:MW N M)(hN:N≤100){n:Int}(hn:0≤n)(hn2:n≤9223372036854775807):∃ c:Bh0,Awm c∧On (n,M,())=some ((c,()),(),M,()):=by
 cases h with
 | mk h1 h2 h3 h4 h5 h6 h7 h8 h9 h10 =>
 rename_i st bg p b pr m vs ms hh r cs q
 have hml:=h10.l1
 have hall:=h10.allm
 unfold On Amo
 simp only[Am]
 rw[Ad]
 by_cases g1:(ms.length:Int)=0
 ·rw[if_pos g1]
  have:=Awm.mk (a:=IntKind.wrap .u64 (Int.tmod n 3)) (b:=IntKind.wrap .u64 (Int.tmod n 2)) (c:=5) (v:=1) (l:=[]) (Ku _) (Ku _) ⟨by omega,by omega⟩ (by unfold Al;omega) (fun x hx=>by cases hx)
  exact⟨_,this,rfl⟩
 have hr:=Ade hn (ms.length:Int) (by omega)
 rw[if_neg g1,Ad,if_pos g1]
 obtain⟨k,hk⟩:∃ k:Nat,Int.tmod n (ms.length:Int)=(k:Int):=⟨(Int.tmod n (ms.length:Int)).toNat,by omega⟩
 rw[hk] at hr
 simp only[hk,Int.toNat_natCast]
 have hkl:k<ms.length:=by omega
 have e6:IntKind.wrap .i64 ((ms.length:Int)-(k:Int))=((ms.length-k:Nat):Int):=by rw[Ar (by omega) (by omega)];omega
 have e7:IntKind.wrap .i64 ((k:Int)+1)=((k+1:Nat):Int):=by rw[Ar (by omega) (by omega)];omega
 have h7d:IntKind.wrap .i64 (Int.tdiv n 7)=n / 7:=by rw[Int.tdiv_eq_ediv_of_nonneg hn,Ar (by omega) (by omega)]
 have hr2:=Ade (n:=n / 7) (by omega) ((ms.length-k:Nat):Int) (by omega)
 rw[e6,e7,h7d,Ad,if_pos (by omega)]
 obtain⟨j,hj⟩:∃ j:Nat,Int.tmod (n / 7) ((ms.length-k:Nat):Int)=(j:Int):=⟨(Int.tmod (n / 7) ((ms.length-k:Nat):Int)).toNat,by omega⟩
 rw[hj] at hr2
 have e8:IntKind.wrap .i64 (((k+1:Nat):Int)+(j:Int))=((k+1+j:Nat):Int):=by rw[Ar (by omega) (by omega)];omega
 rw[hj,e8,Bz6 hall (by omega) (show k<k+1+j by omega) (by omega),Aa]
 dsimp only
 have hpf:Te (Wm ((ms.map Ag0).take (k+1+j)) k):=(Z9 _ _ _ (Nat.le_refl _) (fun x hx=>An0 _ x (List.mem_of_mem_take hx))).2
 have hpl:(Wm ((ms.map Ag0).take (k+1+j)) k).length≤100000:=by
  have:=(Z9 _ _ k (Nat.le_refl ((ms.map Ag0).take (k+1+j)).length) (fun x hx=>An0 _ x (List.mem_of_mem_take hx))).1
  rw[List.length_take,List.length_map] at this
  omega
 have hm:=hall.at hkl Bj
 rw[show (((0:Int),(0:Int),[(0:Int),0,0,0],()):Ff)=Bj from rfl]
 generalize Wm ((ms.map Ag0).take (k+1+j)) k=pf at *
 generalize ms.getD k Bj=mk at *
 obtain⟨am,eam,ham,hto⟩:∃ am,mk.2.2.1=Aw am∧Al am∧B4 mk.2.1:=by
  cases hm with
  | mk a1 a2 a3=>exact⟨_,rfl,a3,a2⟩
 rw[Ao,if_pos (by omega),Ao,if_pos (by omega),eam]
 have w0:∀ (to:Int) (z:Nat) (s:Int) (l:List (List Int)),B4 to→Al z→Te l→Awm (IntKind.wrap .u64 (k:Int),IntKind.wrap .u64 s,to,Aw z,l,()):=fun to z s l a1 a2 a3=>Awm.mk (Ku _) (Ku _) a1 a2 a3
 rw[Ad]
 by_cases q0:Int.tmod (IntKind.wrap .i64 (Int.tdiv n 3)) 12=0
 ·have l1:=M4 ham
  have l2:=Mr (n:=1) (by omega)
  have l3:=Aqc am 1
  have l4:=M4 (n:=115792089237316195423570985008687907853269984665640564039457584007913129639935) (by unfold Al;omega)
  have hmin:=Cns (am+1)
  rw[if_pos q0,Bz ham,Aa,B7 (by omega) (by omega),Aa,show Int.toNat 1=1 from rfl]
  dsimp only
  rw[Cb (by omega) (by omega),Aa,Bsq,Aa]
  dsimp only
  rw[Bz (by omega),Aa]
  dsimp only
  rw[Bht (by omega) (by omega),Aa]
  dsimp only
  generalize min (am+1) 115792089237316195423570985008687907853269984665640564039457584007913129639935=z at hmin ⊢
  rw[Th hmin,Aa]
  exact⟨_,w0 _ _ _ _ hto hmin hpf,rfl⟩
 rw[if_neg q0,Ad]
 by_cases q1:Int.tmod (IntKind.wrap .i64 (Int.tdiv n 3)) 12=1
 ·rw[if_pos q1]
  exact⟨_,w0 _ _ _ _ (Ku _) ham hpf,rfl⟩
 rw[if_neg q1,Ad]
 by_cases q2:Int.tmod (IntKind.wrap .i64 (Int.tdiv n 3)) 12=2
 ·rw[if_pos q2,Cfb,Aa,Cd5 (by omega),Au]
  refine⟨_,w0 _ _ _ _ hto ham (fun x hx=>?_),rfl⟩
  rcases List.mem_append.1 hx with hx|hx
  ·exact hpf x hx
  ·rw[List.mem_singleton.1 hx];exact Ckv n
 rw[if_neg q2,Ad]
 by_cases q3:Int.tmod (IntKind.wrap .i64 (Int.tdiv n 3)) 12=3
 ·rw[if_pos q3,Ar (n:=(ms.length:Int)+3) (by omega) (by omega),Ad,if_pos (by omega)]
  exact⟨_,w0 _ _ _ _ hto ham hpf,rfl⟩
 rw[if_neg q3]
 exact⟨_,w0 _ _ _ _ hto ham hpf,rfl⟩
theorem Cok{N:Nat}{M:Lz}(h:MW N M)(hN:N≤100){n:Int}(hn:0≤n)(hn2:n≤9223372036854775807){a:Int}(ha:B4 a):∃ t:TxT,TxW t∧G3 (n,a,M,())=some ((t,()),(),(),M,()):=by
 cases h with
 | mk h1 h2 h3 h4 h5 h6 h7 h8 h9 h10 =>
 rename_i st bg p b pr m vs ms hh r cs q
 cases h4 with
 | mk k1 k2 k3 k4 =>
 rename_i bn bt bgu bf
 have k4':Al bf:=by unfold Al;omega
 have r5:=Ade (n:=n / 5) (by omega) 5 (by omega)
 have r6:=Ade hn 6 (by omega)
 have r3:=Ade hn 3 (by omega)
 obtain⟨hac,hbal,hnon⟩:=Ai1 (l:=m) h8.inv.all ha
 obtain⟨ti,dti,eti⟩:=Ci0 (Ku ((IntKind.wrap .u64 (Int.tmod n 7))*100000))
 obtain⟨va,dva,eva⟩:=Ci0 (Ku ((IntKind.wrap .u64 (Int.tmod (IntKind.wrap .i64 (Int.tdiv n 6)) 1000))*1000003))
 obtain⟨vc,dvc,evc⟩:=Cql
 have d5:IntKind.wrap .i64 (Int.tdiv n 5)=n / 5:=by rw[Int.tdiv_eq_ediv_of_nonneg hn,Ar (by omega) (by omega)]
 have hto:B4 (List.getD [(1:Int),2,3,4,9,18446744073709551615] (Int.toNat (Int.tmod n (6:Int))) (0:Int)):=by
  have:∀ i:Nat,B4 (List.getD [(1:Int),2,3,4,9,18446744073709551615] i (0:Int)):=fun i=>by
   match i with
   | 0|1|2|3|4|5=>exact⟨by decide,by decide⟩
   | k+6=>exact⟨by simp,by simp⟩
  exact this _
 unfold G3 T7
 simp only[Am]
 rw[eti,eva,evc,d5]
 generalize List.getD [(1:Int),2,3,4,9,18446744073709551615] (Int.toNat (Int.tmod n (6:Int))) (0:Int)=to at *
 rw[Bak (by omega),Aa,hac]
 dsimp only
 rw[Ao,if_pos (by omega),Bz k4',Aa,Ar (n:=1+Int.tmod n 3) (by omega) (by omega),H4 (n:=1+Int.tmod n 3) (by omega) (by omega),B7 (by omega) (by omega),Aa]
 dsimp only
 have l1:=M4 k4'
 have l2:=Mr (n:=(1+Int.tmod n 3).toNat) (by omega)
 have hfc:bf*(1+Int.tmod n 3).toNat≤340282366920938463463374607431768211456*3:=Nat.mul_le_mul (by omega) (by omega)
 rw[Pd (by omega) (by omega),Aa]
 dsimp only
 generalize bf*(1+Int.tmod n 3).toNat=fc at *
 have dfc:Al fc:=by unfold Al;omega
 rw[Th dfc,Aa,decide_eq_true r5.1,decide_eq_true (show Int.tmod (n / 5) 5≤4 by omega),Bool.and_true,Au]
 have hv:∀ x∈List.take ((Int.toNat (Int.tmod (n / 5) 5))-(0:Nat)) (List.drop (0:Nat) [n,(IntKind.wrap .i64 (Int.tdiv n 3)),(IntKind.wrap .i64 (Int.tdiv n 7)),(IntKind.wrap .i64 (Int.tdiv n 11))]),I64 x:=fun x hx=>by
  have hx:=List.mem_of_mem_drop (List.mem_of_mem_take hx)
  have hw:∀ y,I64 (IntKind.wrap .i64 y):=fun y=>by unfold I64;rw[IntKind.wrap_i64];omega
  simp only[List.mem_cons,List.not_mem_nil,or_false] at hx
  rcases hx with rfl|rfl|rfl|rfl
  ·exact⟨by omega,by omega⟩
  ·exact hw _
  ·exact hw _
  ·exact hw _
 obtain⟨d,ed,hdb,hdl⟩:=Col hv (by rw[List.length_take];simp;omega)
 rw[ed,Aa]
 dsimp only
 have key:∀ (n1 o1 g1 e1:Int) (v1 f1 p1:Nat),B4 n1→B4 o1→Al v1→B4 g1→Al f1→Al p1→B4 e1→TxW (a,n1,o1,Aw v1,g1,Aw f1,Aw p1,e1,d,()) :=
  fun n1 o1 g1 e1 v1 f1 p1 a1 a2 a3 a4 a5 a6 a7=>TxW.mk ha a1 a2 a3 a4 a5 a6 a7 hdb
 rw[Ad]
 by_cases s1:Int.tmod n 29=1
 ·rw[if_pos s1];exact⟨_,key _ _ _ _ _ _ _ (Ku _) hto dva (Ku _) dfc dti (Ku _),rfl⟩
 rw[if_neg s1,Ad]
 by_cases s2:Int.tmod n 31=2
 ·rw[if_pos s2];exact⟨_,key _ _ _ _ _ _ _ hnon hto dvc (Ku _) dfc dti (Ku _),rfl⟩
 rw[if_neg s2,Ad]
 by_cases s3:Int.tmod n 37=3
 ·rw[if_pos s3];exact⟨_,key _ _ _ _ _ _ _ hnon hto dva ⟨by omega,by omega⟩ dfc dti (Ku _),rfl⟩
 rw[if_neg s3,Ad]
 by_cases s4:Int.tmod n 41=4
 ·rw[if_pos s4];exact⟨_,key _ _ _ _ _ 1 _ hnon hto dva (Ku _) (by unfold Al;omega) dti (Ku _),rfl⟩
 rw[if_neg s4,Ad]
 by_cases s5:Int.tmod n 43=5
 ·rw[if_pos s5];exact⟨_,key _ _ _ _ _ _ _ hnon ⟨by omega,by omega⟩ dva (Ku _) dfc dti (Ku _),rfl⟩
 rw[if_neg s5,Ad]
 by_cases s6:Int.tmod n 47=6
 ·rw[if_pos s6,Bsq,Aa,Aa]
  exact⟨_,key _ _ _ _ _ _ _ hnon hto dva (Ku _) (by unfold Al;omega) (by unfold Al;omega) (Ku _),rfl⟩
 rw[if_neg s6,Ad]
 by_cases s7:Int.tmod n 53=7
 ·rw[if_pos s7];exact⟨_,key _ _ _ _ _ _ _ hnon hto dva (Ku _) dfc dti (Ku _),rfl⟩
 rw[if_neg s7]
 exact⟨_,key _ _ _ _ _ _ _ hnon hto dva (Ku _) dfc dti (Ku _),rfl⟩
theorem Biy{n:Nat}{t:Ty}(h:n≤1000)(h1:0<t.size)(h2:t.size≤1000){α:Type}(a b:Option α):Ah (A9 n t) a b=a:=by
 have h3:n*(24*t.size)≤1000*(24*1000):=Nat.mul_le_mul h (by omega)
 rw[Ah6,if_pos ⟨h1,by omega⟩]
def PNS(M:Lz)(r:Option ((Aea×Unit)×Unit×Lz×Unit×Unit)):Prop:=∃ s:Aea,Rd s∧r=some ((s,()),(),M,(),())
theorem Cb1{M:Lz}{c:Prop}[Decidable c]{a b:Option ((Aea×Unit)×Unit×Lz×Unit×Unit)}(ha:PNS M a)(hb:PNS M b):PNS M (Ah (decide c) a b):=by
 rw[Ad]
 split
 ·exact ha
 ·exact hb
theorem Zc:B4 0∧Al 0:=⟨⟨by omega,by omega⟩,by unfold Al;omega⟩
abbrev Ayz:Cbq:=((0:Int),(0:Int),[(0:Int),0,0,0],())
abbrev Ago:Bh0:=((0:Int),(0:Int),(0:Int),[(0:Int),0,0,0],([]:List (List Int)),())
abbrev Bp6:TxT:=((0:Int),(0:Int),(0:Int),[(0:Int),0,0,0],(0:Int),[(0:Int),0,0,0],[(0:Int),0,0,0],(0:Int),([]:List Int),())
theorem wTx{k:Int}(hk : -9223372036854775808≤k∧k≤9223372036854775807){t:TxT}(ht:TxW t):Rd (k,t,Ayz,(0:Int),(0:Int),[(0:Int),0,0,0],(0:Int),Ago,()):=by
 have:=Rd.mk (k:=k) (y:=0) hk ht Zc.1 Zc.1 Zc.2 Zc.1 (by omega) Zc.2 Zc.1 Bfc
 rw[Aq7] at this
 exact this
theorem Csp{k:Int}(hk : -9223372036854775808≤k∧k≤9223372036854775807){r:Cbq}(hr:Bdi r):Rd (k,Bp6,r,(0:Int),(0:Int),[(0:Int),0,0,0],(0:Int),Ago,()):=by
 cases hr with
 | mk a b c =>
 have:=Rd.mk (k:=k) (y:=0) hk Bea a b c Zc.1 (by omega) Zc.2 Zc.1 Bfc
 rw[Aq7] at this
 exact this
theorem Cms{k:Int}(hk : -9223372036854775808≤k∧k≤9223372036854775807){s d:Int}(hs:B4 s)(hd:B4 d):Rd (k,Bp6,Ayz,s,(0:Int),[(0:Int),0,0,0],d,Ago,()):=by
 have:=Rd.mk (k:=k) (y:=0) hk Bea Zc.1 Zc.1 Zc.2 hs (by omega) Zc.2 hd Bfc
 rw[Aq7] at this
 exact this
theorem Ctk{k:Int}(hk : -9223372036854775808≤k∧k≤9223372036854775807){c:Bh0}(hc:Awm c):Rd (k,Bp6,Ayz,(0:Int),(0:Int),[(0:Int),0,0,0],(0:Int),c,()):=by
 have:=Rd.mk (k:=k) (y:=0) hk Bea Zc.1 Zc.1 Zc.2 Zc.1 (by omega) Zc.2 Zc.1 hc
 rw[Aq7] at this
 exact this
theorem Cif{N:Nat}{M:Lz}(h:MW N M)(hN:N≤100){k:Int}(hk:I64 k){calm:Bool}:PNS M (L3 (k,M,calm,())):=by
 obtain⟨k1,k2⟩:=hk
 unfold L3 Ac6
 rw[Bwl k1 k2 (by omega) (by omega),Aa]
 dsimp only
 have hx:0≤k % 18446744073709551616 % 4611686018427387904∧k % 18446744073709551616 % 4611686018427387904<4611686018427387904:=by omega
 generalize k % 18446744073709551616 % 4611686018427387904=x at *
 simp only[Am]
 have d1:IntKind.wrap .i64 (Int.tdiv x 64)=x / 64:=by rw[Int.tdiv_eq_ediv_of_nonneg hx.1,Ar (by omega) (by omega)]
 have hn:0≤x / 64∧x / 64≤9223372036854775807:=by omega
 have hu:=Ku (IntKind.wrap .i64 ((1:Int)+(Int.tmod (IntKind.wrap .i64 (Int.tdiv x (16:Int))) (4:Int))))
 rw[d1]
 generalize IntKind.wrap .u64 (IntKind.wrap .i64 ((1:Int)+(Int.tmod (IntKind.wrap .i64 (Int.tdiv x (16:Int))) (4:Int))))=a at *
 generalize x / 64=n at *
 generalize Int.tmod x 16=c
 obtain⟨s1,w1,e1⟩:=Bzr (calm:=calm) hn.1 hu
 obtain⟨s2,w2,e2⟩:=Cb7 h (n:=n)
 obtain⟨s3,w3,e3⟩:=Ce3 hn.1 hn.2
 obtain⟨s4,w4,e4⟩:=Cfm h hN hn.1 hn.2
 obtain⟨s5,w5,e5⟩:=Cok h hN hn.1 hn.2 hu
 have q1:=Csp (k:=2) (by omega) w2
 have q4:=Ctk (k:=7) (by omega) w4
 have q5:=wTx (k:=1) (by omega) w5
 have q3:∀ z,Rd ((3:Int),Bp6,Ayz,IntKind.wrap .u64 z,(0:Int),[(0:Int),0,0,0],(0:Int),Ago,()):=fun z=>Cms (by omega) (Ku z) Zc.1
 have q6:∀ z,Rd ((5:Int),Bp6,Ayz,(0:Int),(0:Int),[(0:Int),0,0,0],IntKind.wrap .u64 z,Ago,()):=fun z=>Cms (by omega) Zc.1 (Ku z)
 have E1:∀ {β:Type} (f:_→Option β),Option.bind (K3 (n,a,calm,())) f=f ((s1,()),(),(),(),()):=fun f=>by rw[e1];rfl
 have E2:∀ {β:Type} (f:_→Option β),Option.bind (L4 (n,M,())) f=f ((s2,()),(),M,()):=fun f=>by rw[e2];rfl
 have E3:∀ {β:Type} (f:_→Option β),Option.bind (Ns (n,())) f=f ((s3,()),(),()):=fun f=>by rw[e3];rfl
 have E4:∀ {β:Type} (f:_→Option β),Option.bind (On (n,M,())) f=f ((s4,()),(),M,()):=fun f=>by rw[e4];rfl
 have E5:∀ {β:Type} (f:_→Option β),Option.bind (G3 (n,a,M,())) f=f ((s5,()),(),(),M,()):=fun f=>by rw[e5];rfl
 clear e1 e2 e3 e4 e5
 have D1:PNS M (some ((s1,()),(),M,(),())):=⟨s1,w1,rfl⟩
 have D3:PNS M (some ((s3,()),(),M,(),())):=⟨s3,w3,rfl⟩
 have D2:PNS M (some ((((2:Int),Bp6,s2,(0:Int),(0:Int),[(0:Int),0,0,0],(0:Int),Ago,()),()),(),M,(),())):=⟨_,q1,rfl⟩
 have D4:PNS M (some ((((7:Int),Bp6,Ayz,(0:Int),(0:Int),[(0:Int),0,0,0],(0:Int),s4,()),()),(),M,(),())):=⟨_,q4,rfl⟩
 have D5:PNS M (some ((((1:Int),s5,Ayz,(0:Int),(0:Int),[(0:Int),0,0,0],(0:Int),Ago,()),()),(),M,(),())):=⟨_,q5,rfl⟩
 have D6:∀ z,PNS M (some ((((3:Int),Bp6,Ayz,IntKind.wrap .u64 z,(0:Int),[(0:Int),0,0,0],(0:Int),Ago,()),()),(),M,(),())):=fun z=>⟨_,q3 z,rfl⟩
 have D7:∀ z,PNS M (some ((((5:Int),Bp6,Ayz,(0:Int),(0:Int),[(0:Int),0,0,0],IntKind.wrap .u64 z,Ago,()),()),(),M,(),())):=fun z=>⟨_,q6 z,rfl⟩
 have F1:∀ f,PNS M (f ((s1,()),(),(),(),()))→PNS M (Option.bind (K3 (n,a,calm,())) f):=fun f hf=>by rw[E1];exact hf
 have F2:∀ f,PNS M (f ((s2,()),(),M,()))→PNS M (Option.bind (L4 (n,M,())) f):=fun f hf=>by rw[E2];exact hf
 have F3:∀ f,PNS M (f ((s3,()),(),()))→PNS M (Option.bind (Ns (n,())) f):=fun f hf=>by rw[E3];exact hf
 have F4:∀ f,PNS M (f ((s4,()),(),M,()))→PNS M (Option.bind (On (n,M,())) f):=fun f hf=>by rw[E4];exact hf
 have F5:∀ f,PNS M (f ((s5,()),(),(),M,()))→PNS M (Option.bind (G3 (n,a,M,())) f):=fun f hf=>by rw[E5];exact hf
 repeat' first
  | exact Cb1 (D6 _) (D6 _)
  | exact Cb1 (D7 _) (D7 _)
  | exact F1 _ D1
  | exact F2 _ D2
  | exact F3 _ D3
  | exact F4 _ D4
  | exact F5 _ D5
  | refine Cb1 ?_ ?_
def PM(B:Nat)(r:Option ((StT×Unit)×Unit×Unit×Unit×Unit)):Prop:=∃ s:StT,StW B s∧r=some ((s,()),(),(),(),())
theorem mj0{B:Nat}{s t:StT}(h:StW B s):PM B (Az s t):=⟨s,h,rfl⟩
theorem Buh{k:Nat}(hk:Al k)(i:Nat):B4 ((Aw k).getD i 0):=by
 unfold Al at hk
 unfold Aw
 match i with
 | 0|1|2|3=>simp only[List.getD_cons_zero,List.getD_cons_succ];exact⟨by omega,by omega⟩
 | j+4=>exact⟨by simp,by simp⟩
structure StF(B:Nat)(st:Int)(p:N6)(b:Aob)(bg:Int)(s:T3)(ac:List A5)(V:List (List Int))(ms:List Ff)(cl:List Bool)(H:List Int)(l1:List Bn):Prop where
 h1:B4 st
 h2:Vd p
 h4:Bcn b
 h5:B4 bg
 h6:Apx s
 h7:s.2.2.2.2.2.1.length≤1000
 h8:Xu ac
 h9:ac.length≤B
 v:∃ vs:List Nat,V=vs.map Aw∧vs.length=4∧∀ n∈vs,Al n
 m1:O6 ms
 m2:ms.length≤B
 c1:cl.length≤B
 e:∃ h,H=Aw h∧Al h
 p1:Fh l1
 p2:l1.length≤B
theorem StF.w{B:Nat}{st:Int}{p:N6}{b:Aob}{bg:Int}{s:T3}{ac:List A5}{V:List (List Int)}{ms:List Ff}{cl:List Bool}{H:List Int}{l1:List Bn}(f:StF B st p b bg s ac V ms cl H l1) :
  StW B (st,p,b,bg,s,ac,V,ms,cl,H,l1,()):=by
 obtain⟨vs,rfl,v1,v2⟩:=f.v
 obtain⟨h,rfl,e1⟩:=f.e
 exact .mk f.h1 f.h2 f.h4 f.h5 f.h6 f.h7 f.h8 f.h9 v1 v2 f.m1 f.m2 f.c1 e1 f.p1 f.p2
theorem StW.f{B:Nat}{S:StT}(h:StW B S):StF B S.1 S.2.1 S.2.2.1 S.2.2.2.1 S.2.2.2.2.1 S.2.2.2.2.2.1 S.2.2.2.2.2.2.1 S.2.2.2.2.2.2.2.1 S.2.2.2.2.2.2.2.2.1 S.2.2.2.2.2.2.2.2.2.1 S.2.2.2.2.2.2.2.2.2.2.1:=by
 cases h with
 | mk h1 h2 h4 h5 h6 h7 h8 h9 v1 v2 m1 m2 c1 e1 p1 p2=>exact⟨h1,h2,h4,h5,h6,h7,h8,h9,⟨_,rfl,v1,v2⟩,m1,m2,c1,⟨_,rfl,e1⟩,p1,p2⟩
theorem Cou{x m:Int}(h:B4 x)(hm:1≤m):∃ k,Al k∧[Int.tmod x m,(0:Int),(0:Int),(0:Int)]=Aw k:=Ci0 (Beb h hm)
theorem Be4{α:Type}{P:α→Prop}{l:List α}{i:Nat}{y:α}(h:∀ x∈l,P x)(hy:P y):∀ x∈List.set l i y,P x:=fun x hx=>by
 rcases List.mem_or_eq_of_mem_set hx with hx|hx
 ·exact h x hx
 ·rw[hx];exact hy
theorem Bz0{α:Type}{P:α→Prop}{l:List α}{y:α}(h:∀ x∈l,P x)(hy:P y):∀ x∈List.append l [y],P x:=fun x hx=>by
 rcases List.mem_append.1 hx with hx|hx
 ·exact h x hx
 ·rw[List.mem_singleton.1 hx];exact hy
theorem Bqc{k:Int}(hk:0≤k){n:Nat}(hn:(n:Int)>0):(0≤Int.tmod k (n:Int)∧Int.tmod k (n:Int)<(n:Int))∧(Int.tmod k (n:Int)).toNat<n:=by
 have:=Ade hk (n:Int) hn
 exact⟨this,by omega⟩
theorem Yq{n:Nat}{t:Ty}(h:n≤100000)(h1:0<t.size)(h2:t.size≤1000){α:Type}(a b:Option α):Ah (A9 n t) a b=a:=by
 have h3:n*(24*t.size)≤100000*(24*1000):=Nat.mul_le_mul h (by omega)
 rw[Ah6,if_pos ⟨h1,by omega⟩]
section
variable {B:Nat} {st bg:Int} {p:N6} {b:Aob} {s1:List Int} {s2 s3 s4:Int} {s5:Axu} {ps:List At} {ac:List A5} {V:List (List Int)} {ms:List Ff} {cl:List Bool} {H:List Int} {l1:List Bn} {k:Nat} {t6:StT} {x c:Int}
abbrev PRL(s1:List Int)(s2 s3 s4:Int)(s5:Axu)(ps:List At):T3:=(s1,s2,s3,s4,s5,ps,())
abbrev SLT(st bg:Int)(p:N6)(b:Aob)(s1:List Int)(s2 s3 s4:Int)(s5:Axu)(ps:List At)(ac:List A5)(V:List (List Int))(ms:List Ff)(cl:List Bool)(H:List Int)(l1:List Bn):StT :=
 (st,p,b,bg,PRL s1 s2 s3 s4 s5 ps,ac,V,ms,cl,H,l1,())
theorem mj1(hB:B≤50000)(f:StF B st p b bg (PRL s1 s2 s3 s4 s5 ps) ac V ms cl H l1)(hk:Al k)(hx:0≤x):PM B (Qh (SLT st bg p b s1 s2 s3 s4 s5 ps ac V ms cl H l1) (Aw k) t6 (ps.length:Int) x):=by
 have h6:=f.h6
 have h7:=f.h7
 have hps:=h6.ps
 dsimp only at h7 hps
 unfold Qh
 dsimp only
 rw[Am,Ad]
 by_cases c:(ps.length:Int)>0
 ·obtain⟨i1,i2⟩:=Bqc hx c
  rw[if_pos c,Yq (by omega) (by decide) (by decide),Ad,if_pos (by omega),Ao,if_pos i1,Ej]
  refine mj0 ?_
  have hw:=hps _ (Bt (d:=Ax) i2)
  simp only[List.replicate_zero,B8,List.nil_append]
  rw[show (((0:Int),[(0:Int),0,0,0],[(0:Int),0,0,0],[(0:Int),0,0,0],[(0:Int),0,0,0],(0:Int),()):At)=Ax from rfl]
  generalize ps.getD (Int.tmod x (ps.length:Int)).toNat Ax=y at hw ⊢
  cases hw with
  | mk w1 w2 w3 w4 w5 w6 =>
  have hset:=Be4 (i:=(Int.tmod x (ps.length:Int)).toNat) hps (Mt.mk w1 w2 w3 w4 w5 (Beb (k:=4) (Buh hk 0) (by omega)))
  exact StF.w ⟨f.h1,f.h2,f.h4,f.h5,⟨h6.up,h6.un,h6.lu,h6.re,h6.su,hset,by rw[List.length_set];omega⟩,by rw[List.length_set];exact h7,f.h8,f.h9,f.v,f.m1,f.m2,f.c1,f.e,f.p1,f.p2⟩
 ·rw[if_neg c,Ej]
  exact mj0 f.w
theorem mj3(hB:B≤50000)(f:StF B st p b bg (PRL s1 s2 s3 s4 s5 ps) ac V ms cl H l1)(hk:Al k)(hx:0≤x):PM B (P0 (SLT st bg p b s1 s2 s3 s4 s5 ps ac V ms cl H l1) (Aw k) t6 (ac.length:Int) x):=by
 have h9:=f.h9
 have h8:=f.h8
 unfold P0
 dsimp only
 rw[Am,Ad]
 by_cases c:(ac.length:Int)>0
 ·obtain⟨i1,i2⟩:=Bqc hx c
  rw[if_pos c,Yq (by omega) (by decide) (by decide),Ad,if_pos (by omega),Ao,if_pos i1,Ej]
  refine mj0 ?_
  have hw:=h8 _ (Bt (d:=Gs) i2)
  simp only[List.replicate_zero,B8,List.nil_append]
  rw[show (((0:Int),[(0:Int),0,0,0],(0:Int),()):A5)=Gs from rfl]
  generalize ac.getD (Int.tmod x (ac.length:Int)).toNat Gs=y at hw ⊢
  cases hw with
  | mk w1 w2 w3 =>
  exact StF.w ⟨f.h1,f.h2,f.h4,f.h5,f.h6,f.h7,Be4 h8 (Ajp.mk w1 hk w3),by rw[List.length_set];exact h9,f.v,f.m1,f.m2,f.c1,f.e,f.p1,f.p2⟩
 ·rw[if_neg c,Ej]
  exact mj0 f.w
theorem mj5(hB:B≤50000)(f:StF B st p b bg (PRL s1 s2 s3 s4 s5 ps) ac V ms cl H l1)(hk:Al k)(hx:0≤x):PM B (P6 (SLT st bg p b s1 s2 s3 s4 s5 ps ac V ms cl H l1) (Aw k) t6 (ms.length:Int) x):=by
 have h9:=f.m2
 have h8:=f.m1
 unfold P6
 dsimp only
 rw[Am,Ad]
 by_cases c:(ms.length:Int)>0
 ·obtain⟨i1,i2⟩:=Bqc hx c
  rw[if_pos c,Yq (by omega) (by decide) (by decide),Ad,if_pos (by omega),Ao,if_pos i1,Ej]
  refine mj0 ?_
  have hw:=h8.at i2 Bj
  simp only[List.replicate_zero,B8,List.nil_append]
  rw[show (((0:Int),(0:Int),[(0:Int),0,0,0],()):Ff)=Bj from rfl]
  obtain⟨z,hz,ez⟩:=Cou (m:=3) (Buh hk 0) (by omega)
  rw[ez]
  generalize ms.getD (Int.tmod x (ms.length:Int)).toNat Bj=y at hw ⊢
  cases hw with
  | mk w1 w2 w3 =>
  exact StF.w ⟨f.h1,f.h2,f.h4,f.h5,f.h6,f.h7,f.h8,f.h9,f.v,Be4 (P:=Bcl) h8 (Bcl.mk w1 w2 hz),by rw[List.length_set];exact h9,f.c1,f.e,f.p1,f.p2⟩
 ·rw[if_neg c,Ej]
  exact mj0 f.w
theorem Cta(hB:B≤50000)(f:StF B st p b bg (PRL s1 s2 s3 s4 s5 ps) ac V ms cl H l1)(hk:Al k)(hx:0≤x):PM B (Ow (SLT st bg p b s1 s2 s3 s4 s5 ps ac V ms cl H l1) (Aw k) t6 (l1.length:Int) x):=by
 have h9:=f.p2
 have h8:=f.p1
 unfold Ow
 dsimp only
 rw[Am,Ad]
 by_cases c:(l1.length:Int)>0
 ·obtain⟨i1,i2⟩:=Bqc hx c
  rw[if_pos c,Yq (by omega) (by decide) (by decide),Ad,if_pos (by omega),Ao,if_pos i1,Ej]
  refine mj0 ?_
  have hw:=h8.at (Int.tmod x (l1.length:Int)).toNat
  simp only[List.replicate_zero,B8,List.nil_append]
  rw[show (((0:Int),[(0:Int),0,0,0],()):Bn)=Eb from rfl]
  obtain⟨z,hz,ez⟩:=Cou (m:=3) (Buh hk 0) (by omega)
  rw[ez]
  generalize l1.getD (Int.tmod x (l1.length:Int)).toNat Eb=y at hw ⊢
  cases hw with
  | mk w1 w2 =>
  exact StF.w ⟨f.h1,f.h2,f.h4,f.h5,f.h6,f.h7,f.h8,f.h9,f.v,f.m1,f.m2,f.c1,f.e,Be4 (P:=Akj) h8 (Akj.mk w1 hz),by rw[List.length_set];exact h9⟩
 ·rw[if_neg c,Ej]
  exact mj0 f.w
theorem mj7(hB:B≤50000)(f:StF B st p b bg (PRL s1 s2 s3 s4 s5 ps) ac V ms cl H l1)(hx:0≤x):PM B (Po (SLT st bg p b s1 s2 s3 s4 s5 ps ac V ms cl H l1) t6 (ms.length:Int) x):=by
 have h9:=f.c1
 unfold Po
 dsimp only
 rw[Ad]
 by_cases c:(ms.length:Int)>0
 ·rw[if_pos c,Ad]
  by_cases c2:(cl.length:Int)=(ms.length:Int)
  ·obtain⟨i1,i2⟩:=Bqc hx c
   rw[if_pos c2,Ej]
   unfold Ake
   dsimp only
   rw[Am,Yq (by omega) (by decide) (by decide),Ad,if_pos (by omega),Ad,if_pos (by omega),Ao,if_pos (by omega),Ao,if_pos (by omega),Ej]
   exact mj0 (StF.w ⟨f.h1,f.h2,f.h4,f.h5,f.h6,f.h7,f.h8,f.h9,f.v,f.m1,f.m2,by rw[List.length_set];exact h9,f.e,f.p1,f.p2⟩)
  ·rw[if_neg c2,Ej]
   exact mj0 f.w
 ·rw[if_neg c,Ej]
  exact mj0 f.w
theorem Csw(hB:B≤50000)(f:StF B st p b bg (PRL s1 s2 s3 s4 s5 ps) ac V ms cl H l1)(hk:Al k):PM B (O4 (SLT st bg p b s1 s2 s3 s4 s5 ps ac V ms cl H l1) (Aw k) t6 (l1.length:Int) c):=by
 have h9:=f.p2
 have h6:=f.h6
 unfold O4
 dsimp only
 rw[Am,Am,Ad]
 by_cases c1:c=22
 ·rw[if_pos c1,Ad]
  by_cases c2:(l1.length:Int)>0
  ·rw[if_pos c2,Ad,if_pos (by omega),Ej]
   exact mj0 (StF.w ⟨f.h1,f.h2,f.h4,f.h5,f.h6,f.h7,f.h8,f.h9,f.v,f.m1,f.m2,f.c1,f.e,fun y hy=>f.p1 y (List.mem_of_mem_drop (List.mem_of_mem_take hy)),by rw[List.length_take,List.length_drop];omega⟩)
  ·rw[if_neg c2,Ej]
   exact mj0 f.w
 rw[if_neg c1,Ad]
 by_cases c2:c=23
 ·rw[if_pos c2,Ej]
  have h4:=f.h4
  cases h4 with
  | mk q1 q2 q3 q4 =>
  exact mj0 (StF.w ⟨Buh hk 0,f.h2,Bcn.mk q1 q2 (Buh hk 2) q4,Buh hk 1,f.h6,f.h7,f.h8,f.h9,f.v,f.m1,f.m2,f.c1,f.e,f.p1,f.p2⟩)
 rw[if_neg c2,Ad]
 by_cases c3:c=24
 ·rw[if_pos c3,Ej]
  exact mj0 (StF.w ⟨f.h1,f.h2,f.h4,f.h5,⟨⟨k,rfl,hk⟩,Buh hk 1,h6.lu,h6.re,h6.su,h6.ps,h6.len⟩,f.h7,f.h8,f.h9,f.v,f.m1,f.m2,f.c1,f.e,f.p1,f.p2⟩)
 ·rw[if_neg c3,Ej]
  exact mj0 f.w
theorem mj2(hB:B≤50000)(f:StF B st p b bg (PRL s1 s2 s3 s4 s5 ps) ac V ms cl H l1)(hk:Al k)(hx:0≤x) :
  PM B (Py (SLT st bg p b s1 s2 s3 s4 s5 ps ac V ms cl H l1) (Aw k) t6 (ac.length:Int) (ms.length:Int) (l1.length:Int) x c):=by
 have k9:PM B (Qf (SLT st bg p b s1 s2 s3 s4 s5 ps ac V ms cl H l1) (Aw k) t6 (l1.length:Int) x c):=by
  have a:=Cta (t6:=t6) hB f hk hx
  have b:=Csw (t6:=t6) (c:=c) hB f hk
  unfold Qf
  try dsimp only
  repeat' first
   | exact a
   | exact b
   | (rw[Ad];split)
 have k6:PM B (Pw (SLT st bg p b s1 s2 s3 s4 s5 ps ac V ms cl H l1) (Aw k) t6 (ms.length:Int) (l1.length:Int) x c):=by
  have a:=mj7 (t6:=t6) hB f hx
  unfold Pw
  try dsimp only
  repeat' first
   | exact a
   | exact k9
   | (rw[Ad];split)
 have k4:PM B (Pu (SLT st bg p b s1 s2 s3 s4 s5 ps ac V ms cl H l1) (Aw k) t6 (ms.length:Int) (l1.length:Int) x c):=by
  have a:=mj5 (t6:=t6) hB f hk hx
  unfold Pu
  try dsimp only
  repeat' first
   | exact a
   | exact k6
   | (rw[Ad];split)
 have a:=mj3 (t6:=t6) hB f hk hx
 unfold Py
 try dsimp only
 repeat' first
  | exact a
  | exact k4
  | (rw[Ad];split)
end
theorem Bdh{o:List Aea}{x:Aea}(h:∀ s∈o,Rd s)(hx:Rd x):∀ s∈List.append o [x],Rd s:=fun y hy=>by
 rcases List.mem_append.1 hy with hy|hy
 ·exact h y hy
 ·rw[List.mem_singleton.1 hy];exact hx
theorem Aag{α:Type}(o:List α)(x:α):(List.append o [x]).length=o.length+1:=by simp
theorem Cdy(i:Nat):(i:Int)+1=((i+1:Nat):Int):=rfl
def PSS(r:Option ((List Aea×Unit)×Unit)):Prop:=∃ l:List Aea,(∀ s∈l,Rd s)∧l.length≤20∧r=some ((l,()),())
theorem Cfv:PSS (Mj ()):=by
 have hi6:∀ a,B4 a→Rd ((6:Int),Bp6,Ayz,(0:Int),(0:Int),[(288230376151711744:Int),0,0,0],a,Ago,()):=fun a ha=>by
  have:=Ayx (k:=288230376151711744) (a:=a) (by unfold Al;omega) ha
  rw[show Aw 288230376151711744=[(288230376151711744:Int),0,0,0] by decide] at this
  exact this
 have key:∀ o:List Aea,(∀ s∈o,Rd s)→o.length≤8→PSS (Ac _ _ (fun again x=>R0 again x.1 x.2.1) (o,(5:Int),())):=fun o ho hlo=>by
  refine Cq (I:=fun y=>∃ (i:Nat) (o:List Aea),i≤8∧(∀ s∈o,Rd s)∧o.length≤3+i∧y=(o,(i:Int),())) (m:=fun y=>(8-y.2.1).toNat)
   (P:=PSS) ?_ ⟨5,o,by omega,ho,by omega,rfl⟩ (by rw[Av];simp only;omega)
  rintro y again ⟨i,o,hi,hbo,hlo,rfl⟩ hag
  simp only at hag ⊢
  unfold R0
  rw[Ad]
  by_cases c:(i:Int)<8
  ·rw[if_pos c,Biy (by omega) (by decide) (by decide),H4 (by omega) (by omega),Cdy]
   exact hag _ ⟨i+1,_,by omega,Bdh hbo (Cms (by omega) Zc.1 (d:=(i:Int)) ⟨by omega,by omega⟩),by rw[Aag];omega,rfl⟩ (by simp only;omega)
  ·rw[if_neg c,Biy (by omega) (by decide) (by decide)]
   exact⟨_,Bdh hbo (Cms (by omega) (s:=12) ⟨by omega,by omega⟩ Zc.1),by rw[Aag];omega,rfl⟩
 unfold Mj Wu
 refine Cq (I:=fun y=>∃ (i:Nat) (o:List Aea),i≤5∧(∀ s∈o,Rd s)∧o.length≤i∧y=(o,(i:Int),())) (m:=fun y=>(5-y.2.1).toNat)
  (P:=PSS) ?_ ⟨1,[],by omega,(fun x hx=>by cases hx),Nat.zero_le _,rfl⟩ (by rw[Av];simp only;omega)
 rintro y again ⟨i,o,hi,hbo,hlo,rfl⟩ hag
 simp only at hag ⊢
 unfold Ad6
 rw[Ad]
 by_cases c:(i:Int)<5
 ·rw[if_pos c,Biy (by omega) (by decide) (by decide),H4 (by omega) (by omega),Cdy]
  exact hag _ ⟨i+1,_,by omega,Bdh hbo (hi6 (i:Int) ⟨by omega,by omega⟩),by rw[Aag];omega,rfl⟩ (by simp only;omega)
 ·rw[if_neg c]
  exact key o hbo (by omega)
def Cmn(r:Option ((Lz×List Aea×List Cce×Unit)×Unit×Unit×Unit)):Prop:=∃ (M:Lz) (l:List Aea) (c:List Cce),MW 80 M∧r=some ((M,l,c,()),(),(),())
theorem Ck4{v:List Int}(hv:∀ x∈v,I64 x)(hl:v.length≤40){calm:Bool}:Cmn (Jj (v,calm,())):=by
 have key:∀ (M:Lz) (l:List Aea) (r:List Cce),MW 20 M→l.length≤20→r.length≤20→Cmn (Ac _ _ (fun again x=>Wb L3 Fp again x.1 x.2.1 x.2.2.1 x.2.2.2.1 x.2.2.2.2.1 x.2.2.2.2.2.1) (v,calm,M,l,r,(0:Int),())):=fun M l r hM h1 h2=>by
  refine Cq (I:=fun y=>∃ (i:Nat) (M:Lz) (l:List Aea) (r:List Cce),i≤v.length∧MW (20+i) M∧l.length≤20+i∧r.length≤20+i∧y=(v,calm,M,l,r,(i:Int),())) (m:=fun y=>(((v.length:Nat):Int)-y.2.2.2.2.2.1).toNat)
   (P:=Cmn) ?_ ⟨0,M,l,r,by omega,hM,by omega,by omega,rfl⟩ (by rw[Av];simp only;omega)
  rintro y again ⟨i,M,l,r,hi,hM,hl1,hl2,rfl⟩ hag
  simp only at hag ⊢
  unfold Wb
  rw[Ad]
  by_cases c:(i:Int)<((v.length:Nat):Int)
  ·have hx:=hv _ (Bt (d:=0) (show i<v.length by omega))
   obtain⟨s,hs,es⟩:=Cif hM (by omega) hx (calm:=calm)
   obtain⟨rc,M',ee,hM'⟩:=Caf hM (by omega) hs
   rw[if_pos c,Ao,if_pos (by omega),Int.toNat_natCast,es,Aa,Biy (by omega) (by decide) (by decide)]
   dsimp only
   rw[ee,Aa,Biy (by omega) (by decide) (by decide),Ar (by omega) (by omega),Cdy]
   exact hag _ ⟨i+1,M',_,_,by omega,hM',by rw[Aag];omega,by rw[Aag];omega,rfl⟩ (by simp only;omega)
  ·rw[if_neg c]
   exact⟨M,l,r,hM.mono (by omega),rfl⟩
 obtain⟨M0,e0,hM0⟩:=Cf5
 obtain⟨l0,hl0,hll,el⟩:=Cfv
 unfold Jj Acq
 rw[e0,Aa,el,Aa]
 dsimp only
 refine Cq (I:=fun y=>∃ (i:Nat) (M:Lz) (r:List Cce),i≤l0.length∧MW i M∧r.length≤i∧y=(v,calm,M,l0,r,(i:Int),())) (m:=fun y=>((l0.length:Int)-y.2.2.2.2.2.1).toNat)
  (P:=Cmn) ?_ ⟨0,M0,[],by omega,hM0,Nat.zero_le _,rfl⟩ (by rw[Av];simp only;omega)
 rintro y again ⟨i,M,r,hi,hM,hl2,rfl⟩ hag
 simp only at hag ⊢
 unfold Ag3
 rw[Am,Ad]
 by_cases c:(i:Int)<(l0.length:Int)
 ·have hx:=hl0 _ (Bt (d:=(((0:Int),Bp6,Ayz,(0:Int),(0:Int),[(0:Int),0,0,0],(0:Int),Ago,()):Aea)) (show i<l0.length by omega))
  obtain⟨rc,M',ee,hM'⟩:=Caf hM (by omega) hx
  rw[if_pos c,Ao,if_pos (by omega),Int.toNat_natCast,ee,Aa,Biy (by omega) (by decide) (by decide),Ar (by omega) (by omega),Cdy]
  exact hag _ ⟨i+1,M',_,by omega,hM',by rw[Aag];omega,rfl⟩ (by simp only;omega)
 ·rw[if_neg c]
  exact key M l0 r (hM.mono (by omega)) hll (by omega)
theorem Cfq{B:Nat}{S:StT}(hS:StW B S)(hB:B≤40000){k:Nat}(hk:Al k){how:Int}(hh:I64 how):PM (B+1) (Sf (S,how,Aw k,())):=by
 have f:=(hS.mono (Nat.le_succ B)).f
 have g:=hS.f
 obtain⟨st,p,b,bg,⟨s1,s2,s3,s4,s5,ps,su⟩,ac,V,ms,cl,H,l1,u⟩:=S
 dsimp only at f g
 have hp:=f.h2
 have hb:=f.h4
 have h6:=f.h6
 have g9:=g.h9
 have g2:=g.m2
 have gc:=g.c1
 have gp:=g.p2
 cases hp with
 | mk p1 p2 p3 p4 p5 p6 p7 p8 p9 p10 p11 p12 =>
 cases hb with
 | mk b1 b2 b3 b4 =>
 obtain⟨hh1,hh2⟩:=hh
 have u0:=Buh hk 0
 have u1:=Buh hk 1
 obtain⟨z2,hz2,ez2⟩:=Cou (m:=2) u0 (by omega)
 obtain⟨z3,hz3,ez3⟩:=Ci0 (Beb u1 (k:=2) (by omega))
 have hv:0≤how % 18446744073709551616 % 1048576∧how % 18446744073709551616 % 1048576<1048576:=by omega
 have hv2:0≤how % 18446744073709551616 % 32∧how % 18446744073709551616 % 32<32:=by omega
 unfold Sf Aov
 simp only[Am]
 rw[Bwl hh1 hh2 (n:=1048576) (by omega) (by omega),Aa,Bwl hh1 hh2 (n:=32) (by omega) (by omega),Aa]
 dsimp only
 generalize how % 18446744073709551616 % 1048576=y at *
 generalize how % 18446744073709551616 % 32=c at *
 have hx:0≤IntKind.wrap .i64 (Int.tdiv y 32):=by
  rw[Int.tdiv_eq_ediv_of_nonneg hv.1,Ar (by omega) (by omega)];omega
 generalize IntKind.wrap .i64 (Int.tdiv y 32)=x at *
 rw[ez2,ez3]
 rw[Ad]
 by_cases c0:c=0
 ·rw[if_pos c0,Ej]
  exact mj0 (StF.w ⟨f.h1,Vd.mk u0 p2 p3 p4 p5 p6 p7 p8 p9 p10 p11 p12,f.h4,f.h5,f.h6,f.h7,f.h8,f.h9,f.v,f.m1,f.m2,f.c1,f.e,f.p1,f.p2⟩)
 rw[if_neg c0,Ad]
 by_cases c1:c=1
 ·rw[if_pos c1,Ej]
  exact mj0 (StF.w ⟨f.h1,Vd.mk p1 p2 p3 p4 p5 p6 p7 p8 p9 p10 p11 (Beb u0 (k:=300) (by omega)),f.h4,f.h5,f.h6,f.h7,f.h8,f.h9,f.v,f.m1,f.m2,f.c1,f.e,f.p1,f.p2⟩)
 rw[if_neg c1,Ad]
 by_cases c2:c=2
 ·rw[if_pos c2,Ej]
  exact mj0 (StF.w ⟨f.h1,f.h2,Bcn.mk b1 b2 b3 hz2,f.h5,f.h6,f.h7,f.h8,f.h9,f.v,f.m1,f.m2,f.c1,f.e,f.p1,f.p2⟩)
 rw[if_neg c2,Ad]
 by_cases c3:c=3
 ·rw[if_pos c3,Ej]
  exact mj0 (StF.w ⟨f.h1,f.h2,Bcn.mk b1 (Beb u0 (k:=20) (by omega)) b3 b4,f.h5,f.h6,f.h7,f.h8,f.h9,f.v,f.m1,f.m2,f.c1,f.e,f.p1,f.p2⟩)
 rw[if_neg c3,Ad]
 by_cases c4:c=4
 ·rw[if_pos c4,Ej]
  exact mj0 (StF.w ⟨f.h1,f.h2,f.h4,f.h5,⟨h6.up,h6.un,Beb u0 (k:=40) (by omega),h6.re,h6.su,h6.ps,h6.len⟩,f.h7,f.h8,f.h9,f.v,f.m1,f.m2,f.c1,f.e,f.p1,f.p2⟩)
 rw[if_neg c4,Ad]
 by_cases c5:c=5
 ·rw[if_pos c5,Ej]
  exact mj0 (StF.w ⟨f.h1,f.h2,f.h4,f.h5,⟨h6.up,h6.un,h6.lu,h6.re,Awn.mk hz2,h6.ps,h6.len⟩,f.h7,f.h8,f.h9,f.v,f.m1,f.m2,f.c1,f.e,f.p1,f.p2⟩)
 rw[if_neg c5,Ad]
 by_cases c6:c=6
 ·rw[if_pos c6,Ej]
  exact mj0 (StF.w ⟨f.h1,f.h2,f.h4,f.h5,f.h6,f.h7,f.h8,f.h9,f.v,f.m1,f.m2,f.c1,⟨k,rfl,hk⟩,f.p1,f.p2⟩)
 rw[if_neg c6,Ad]
 by_cases c7:c=7
 ·have hi:=Ade hx 4 (by omega)
  rw[if_pos c7,Ao,if_pos (by omega),Ej]
  obtain⟨vs,rfl,v1,v2⟩:=f.v
  refine mj0 (StF.w ⟨f.h1,f.h2,f.h4,f.h5,f.h6,f.h7,f.h8,f.h9,⟨vs.set (Int.tmod x 4).toNat k,by rw[List.map_set],by rw[List.length_set];exact v1,Be4 v2 hk⟩,f.m1,f.m2,f.c1,f.e,f.p1,f.p2⟩)
 rw[if_neg c7,Ad]
 by_cases c8:c=8
 ·rw[if_pos c8,Yq (by omega) (by decide) (by decide),Yq (by omega) (by decide) (by decide),Ej]
  exact mj0 (StF.w ⟨f.h1,f.h2,f.h4,f.h5,f.h6,f.h7,f.h8,f.h9,f.v,f.m1,f.m2,by rw[Aag];omega,f.e,f.p1,f.p2⟩)
 rw[if_neg c8,Ad]
 by_cases c9:c=9
 ·rw[if_pos c9,Yq (by omega) (by decide) (by decide),Yq (by omega) (by decide) (by decide),Ej]
  exact mj0 (StF.w ⟨f.h1,f.h2,f.h4,f.h5,f.h6,f.h7,f.h8,f.h9,f.v,f.m1,f.m2,f.c1,f.e,Bz0 (P:=Akj) f.p1 (Akj.mk u0 hz3),by rw[Aag];omega⟩)
 rw[if_neg c9,Ad]
 by_cases c10:c=10
 ·rw[if_pos c10,Yq (by omega) (by decide) (by decide),Yq (by omega) (by decide) (by decide),Ej]
  have e0:Ajp ((Aw k).getD 0 0,[(0:Int),0,0,0],Int.tmod ((Aw k).getD 1 0) 2,()):=by
   have:=Ajp.mk u0 (b:=0) (by unfold Al;omega) (Beb u1 (k:=2) (by omega))
   rw[Anh] at this
   exact this
  exact mj0 (StF.w ⟨f.h1,f.h2,f.h4,f.h5,f.h6,f.h7,Bz0 (P:=Ajp) f.h8 e0,by rw[Aag];omega,f.v,f.m1,f.m2,f.c1,f.e,f.p1,f.p2⟩)
 rw[if_neg c10,Ad]
 by_cases c11:c=11
 ·rw[if_pos c11,Ej]
  exact mj0 (StF.w ⟨f.h1,f.h2,f.h4,f.h5,⟨h6.up,h6.un,h6.lu,Beb u0 (k:=3) (by omega),h6.su,h6.ps,h6.len⟩,f.h7,f.h8,f.h9,f.v,f.m1,f.m2,f.c1,f.e,f.p1,f.p2⟩)
 rw[if_neg c11]
 repeat' first
  | exact mj1 (by omega) f hk hx
  | exact mj2 (by omega) f hk hx
  | (rw[Ad];split)
def Ba3(L:Ae):Aib:=fun x=>Aif L x.1
def Aox(L:Ae):Acl:=fun x=>Ak2 L x.1 x.2.1 x.2.2.1
def Azu(L:Ae):Af7:=fun x=>Af9 L (Aox L) x.1 x.2.1
def Kv(L:Ae):Gk:=fun x=>Mz L x.1 x.2.1 x.2.2.1
def Lg(L:Ae):Gx:=fun x=>Ny L (Azu L) (Kv L) x.1
def Ag6(L:Ae):T5:=fun x=>Ac8 L (Aox L) x.1 x.2.1
def So(L:Ae):Gj:=fun x=>M7 L (Ag6 L) (Kv L) x.1
def Aqq(L:Ae):Su:=fun x=>Afa L x.1
def Azr(L:Ae):Ae9:=fun x=>Agn L (Ag6 L) (Aqq L) x.1 x.2.1
def Aj2(L:Ae):Oa:=fun x=>Oe L (Azr L) (Kv L) x.1
def As0(L:Ae):Wa:=fun x=>Wn L (Lg L) (So L) (Aj2 L) x.1
def Apa(L:Ae):Lv:=fun x=>Rv L x.1
def Avu(L:Ae):Rg:=fun x=>Aa6 L (Lg L) (Apa L) x.1 x.2.1
def Amm(L:Ae):K5:=fun x=>Q4 L x.1
def Aso(L:Ae):Wj:=fun x=>Wh L x.1 x.2.1
def At7(L:Ae):Zo:=fun x=>Yi L x.1 x.2.1
def Ad2(L:Ae):It:=fun x=>Px L x.1
def Bkq(L:Ae):Amc:=fun x=>Avt L (Aso L) (At7 L) (Ad2 L) x.1 x.2.1
def Bdp(L:Ae):Acu:=fun x=>Ak9 L x.1 x.2.1
def Bgy(L:Ae):Ajl:=fun x=>Aja L x.1 x.2.1
def Arr(L:Ae):Vy:=fun x=>Ou L (Bkq L) (Bdp L) (Ad2 L) (Bgy L) x.1
def Bfw(L:Ae):Anm:=fun x=>Aej L (Arr L) x.1
def Zn(L:Ae):Hv:=fun x=>Af5 L x.1 x.2.1 x.2.2.1
def Bku(L:Ae):Amv:=fun x=>Amt L (Zn L) x.1 x.2.1
def Bb9(L:Ae):Pf:=fun x=>Ac4 L x.1
def Bf7(L:Ae):Ru:=fun x=>Afo L (Bku L) (Bb9 L) x.1
def Bex(L:Ae):Aoq:=fun x=>Af1 L (Bf7 L) (Aqq L) x.1
def Bbm(L:Ae):Z4:=fun x=>Aaf L x.1
def Bhu(L:Ae):M9:=fun x=>Aiv L (Zn L) x.1 x.2.1
def Vi(L:Ae):Co:=fun x=>Eg L x.1
def Bg3(L:Ae):Aro:=fun x=>Aji L (Bbm L) (Bhu L) (Vi L) x.1 x.2.1
def Al9(L:Ae):Qz:=fun x=>La L x.1
def Aa9(L:Ae):G9:=fun x=>Z3 L (Zn L) x.1 x.2.1
def Ay5(L:Ae):Tg:=fun x=>Ap8 L (Aa9 L) x.1
def Ama(L:Ae):Qq:=fun x=>Lb L (Ay5 L) (Aa9 L) x.1
def Apy(L:Ae):Um:=fun x=>My L (Aa9 L) (Ay5 L) x.1
def Alz(L:Ae):Ip:=fun x=>Zz L (Bfw L) (Bex L) (Bg3 L) (Al9 L) (Ama L) (Apy L) x.1
def Ayh(L:Ae):Aed:=fun x=>Aev L (Ba3 L) (Lg L) (As0 L) (Avu L) (So L) (Amm L) (Alz L) x.1
def Bci(L:Ae):Aku:=fun x=>Alj L
def Bsb(L:Ae):Bcc:=fun x=>Awf L x.1 x.2.1 x.2.2.1
def Ahm(L:Ae):Vu:=fun x=>Aiz L x.1
def Bce(L:Ae):Ak8:=fun x=>Acm L (Ahm L) x.1 x.2.1
def At9(L:Ae):Yv:=fun x=>Qa L (Bsb L) (Bce L) x.1
def Nj(L:Ae):I9:=fun x=>Ajg L (At9 L) x.1
def Yd(L:Ae):Hr:=fun x=>Aq2 L x.1
def A3(L:Ae):As:=fun x=>T4 L (Yd L) x.1
def Cn(L:Ae):Cj:=fun x=>Xn L (A3 L) x.1
def H0(L:Ae):Js:=fun x=>Aur L (Yd L) x.1 x.2.1
def K7(L:Ae):Ho:=fun x=>Awl L x.1 x.2.1
def Q0(L:Ae):Ky:=fun x=>Aup L (Yd L) x.1 x.2.1
def B9(L:Ae):B2:=fun x=>Z7 L x.1
def Aws(L:Ae):Am4:=fun x=>Amh L (Cn L) (H0 L) (K7 L) (Q0 L) (B9 L) x.1 x.2.1 x.2.2.1
def Bgd(L:Ae):Anw:=fun x=>Aep L (Aws L) x.1 x.2.1 x.2.2.1
def Blb(L:Ae):Awa:=fun x=>Amd L (Yd L) x.1 x.2.1
def Nb(L:Ae):N4:=fun x=>Awc L (Blb L) (Yd L) (K7 L) (Q0 L) x.1 x.2.1
def Ab7(L:Ae):Zu:=fun x=>Aus L (K7 L) x.1 x.2.1
def Bbg(L:Ae):Ahy:=fun x=>Z8 L (Nj L) (Bgd L) (Cn L) (H0 L) (Nb L) (Ab7 L) (B9 L) x.1 x.2.1
def C9(L:Ae):Cc:=fun x=>Au0 L x.1 x.2.1
def Brw(L:Ae):Bct:=fun x=>Avj L (Cn L) (H0 L) (Nb L) (C9 L) (B9 L) x.1 x.2.1
def N3(L:Ae):Pp:=fun x=>Ara L x.1
def Hu(L:Ae):F0:=fun x=>Aeo L (N3 L) (B9 L) x.1
def Bk9(L:Ae):Avl:=fun x=>Ame L (A3 L) (Cn L) (H0 L) (Nb L) (Hu L) x.1 x.2.1
def Bdu(L:Ae):Akz:=fun x=>Acn L (Brw L) (Bk9 L) x.1 x.2.1 x.2.2.1
def Ayi(L:Ae):Aqy:=fun x=>Aqo L (Bbg L) (Bdu L) x.1 x.2.1
def Bc4(L:Ae):Ak4:=fun x=>Acz L (Ayi L) x.1
def Bcp(L:Ae):Ald:=fun x=>Ak3 L
def Bpo(L:Ae):Aze:=fun x=>Az3 L
def Bod(L:Ae):Ay6:=fun x=>Ay3 L
def Bqe(L:Ae):Ays:=fun x=>Aq5 L (Bci L) (Bc4 L) (Bcp L) (Bpo L) (Bod L)
def Azx(L:Ae):Agp:=fun x=>Wu L
def Axv(L:Ae):Ae6:=fun x=>Xr L x.1
def Aj8(L:Ae):Xo:=fun x=>Wv L x.1 x.2.1
def Kk(L:Ae):Ik:=fun x=>Tq L (Aj8 L) x.1 x.2.1
def Az1(L:Ae):Aqt:=fun x=>Aqd L (A3 L) (Q0 L) (Ab7 L) x.1 x.2.1
def Bbj(L:Ae):Ahf:=fun x=>Aai L (A3 L) (K7 L) (Az1 L) (C9 L) (Hu L) x.1 x.2.1
def At4(L:Ae):Zk:=fun x=>Qj L x.1 x.2.1
def Bfr(L:Ae):Ani:=fun x=>Afj L (Cn L) (A3 L) (H0 L) (C9 L) (K7 L) x.1 x.2.1 x.2.2.1
def Asw(L:Ae):We:=fun x=>Oy L (Kk L) (Bbj L) (At4 L) (Bfr L) x.1 x.2.1
def Ga(L:Ae):C0:=fun x=>Air L x.1
def Axj(L:Ae):Ul:=fun x=>Tm L x.1 x.2.1 x.2.2.1
def Bm0(L:Ae):Ap5:=fun x=>Aqx L (Axj L) x.1 x.2.1
def Bc0(L:Ae):Ac1:=fun x=>Ac5 L x.1 x.2.1
def Bd6(L:Ae):Alh:=fun x=>Acx L (Bm0 L) (Bc0 L) x.1
def Bis(L:Ae):Asa:=fun x=>Ai8 L (Bd6 L) x.1 x.2.1 x.2.2.1
def Bns(L:Ae):Azs:=fun x=>Aqa L (Nj L) (Ga L) (A3 L) (K7 L) (Bis L) (Cn L) (H0 L) (N3 L) (Nb L) (B9 L) x.1 x.2.1 x.2.2.1 x.2.2.2.1
def Bdy(L:Ae):Aky:=fun x=>Acy L (Bns L) (A3 L) (Az1 L) (Cn L) (H0 L) (Ab7 L) (Q0 L) (Nb L) (C9 L) (N3 L) (B9 L) x.1 x.2.1 x.2.2.1 x.2.2.2.1
def Avc(L:Ae):Rj:=fun x=>Rf L (A3 L) (C9 L) (K7 L) (Ga L) x.1
def Nf(L:Ae):Na:=fun x=>Aig L (Avc L) x.1
def Acw(L:Ae):Aab:=fun x=>Amr L (Ga L) x.1
def Ahx(L:Ae):Vt:=fun x=>Aii L (Nf L) (Acw L) x.1
def Bbd(L:Ae):Aht:=fun x=>Aae L (Ahx L) x.1 x.2.1
def Sj(L:Ae):Qv:=fun x=>Ajk L (A3 L) (K7 L) (Q0 L) (B9 L) x.1 x.2.1
def Wc(L:Ae):Ob:=fun x=>Uk L (Aj8 L) x.1 x.2.1
def Sd(L:Ae):Lj:=fun x=>Lp L (Kk L) (Sj L) (Wc L) x.1 x.2.1 x.2.2.1
def Aoj(L:Ae):S7:=fun x=>L2 L (Sd L) (A3 L) (C9 L) (B9 L) x.1 x.2.1 x.2.2.1 x.2.2.2.1
def Agk(L:Ae):Lk:=fun x=>Ht L (Kk L) (Wc L) x.1 x.2.1
def Bpy(L:Ae):Azk:=fun x=>Ap3 L (Cn L) (C9 L) (B9 L) (Ahm L) x.1 x.2.1
def Aca(L:Ae):O2:=fun x=>Ot L (Kk L) (A3 L) (C9 L) (B9 L) (Wc L) x.1 x.2.1 x.2.2.1
def Ank(L:Ae):Ry:=fun x=>Lw L (Sd L) (Aca L) x.1 x.2.1 x.2.2.1 x.2.2.2.1
def Ann(L:Ae):Sl:=fun x=>L0 L (Sd L) x.1 x.2.1 x.2.2.1
def Bg5(L:Ae):Arj:=fun x=>Ais L x.1
def Adq(L:Ae):Cy:=fun x=>Qi L (Bg5 L) x.1 x.2.1
def Av0(L:Ae):C8:=fun x=>Ri L (Adq L) x.1 x.2.1
def Be5(L:Ae):Anu:=fun x=>Agg L (Av0 L) (Adq L) x.1
def Bkd(L:Ae):Avd:=fun x=>Amf L
def Blh(L:Ae):Agf:=fun x=>Am1 L x.1 x.2.1
def Bkx(L:Ae):Z2:=fun x=>Amj L (Bkd L) (Blh L) x.1 x.2.1
def Brv(L:Ae):Aic:=fun x=>Aui L (Bkx L) x.1
def Bpl(L:Ae):Azi:=fun x=>Aql L (Brv L) x.1
def Awv(L:Ae):Afq:=fun x=>Aml L (Be5 L) (Bpl L) x.1
def Aqm(L:Ae):Aet:=fun x=>Aeg L (Awv L) x.1 x.2.1
def Biz(L:Ae):Vx:=Md
def Bj9(L:Ae):Av2:=fun x=>Amn L (Aqm L) (Biz L) x.1 x.2.1
def Ad0(L:Ae):Lf:=fun x=>P7 L (Bj9 L) x.1 x.2.1 x.2.2.1
def Aw7(L:Ae):Adk:=fun x=>Tw L (Asw L) (Bdy L) (Bbd L) (Aoj L) (Agk L) (Bpy L) (Ank L) (Ga L) (Ann L) (Ad0 L) x.1 x.2.1
def Atl(L:Ae):Zy:=fun x=>Ps L x.1 x.2.1
def Ac3(L:Ae):Aal:=fun x=>Am0 L x.1 x.2.1
def Bhv(L:Ae):Asj:=fun x=>Aiq L x.1
def Bi7(L:Ae):Arl:=fun x=>Aiw L (Ahx L) (Nj L) (Ac3 L) (Bhv L) x.1 x.2.1 x.2.2.1 x.2.2.2.1
def Ba6(L:Ae):Ahj:=fun x=>Aac L (Cn L) (H0 L) (Nb L) (B9 L) x.1 x.2.1 x.2.2.1 x.2.2.2.1
def Bh8(L:Ae):Asm:=fun x=>Aje L (A3 L) (H0 L) (Hu L) x.1 x.2.1
def Bgi(L:Ae):Ang:=fun x=>Ta L (Nf L) (Ac3 L) (A3 L) (C9 L) (N3 L) (Ga L) (B9 L) x.1 x.2.1 x.2.2.1 x.2.2.2.1 x.2.2.2.2.1
def Bf9(L:Ae):An1:=fun x=>Aes L x.1
def Bk2(L:Ae):Aux:=fun x=>Am3 L (Nf L) (Bf9 L) (A3 L) (Ab7 L) (B9 L) (Q0 L) x.1 x.2.1
def Ah5(L:Ae):Abw:=fun x=>Ai4 L (A3 L) (C9 L) (Hu L) x.1 x.2.1
def Beq(L:Ae):Aen:=fun x=>Li L (Nf L) (Ac3 L) (Sj L) (Ah5 L) (Ga L) x.1 x.2.1 x.2.2.1
def Bi2(L:Ae):Asq:=fun x=>Ail L (Beq L) x.1 x.2.1
def Az2(L:Ae):Aqu:=fun x=>Aqi L (A3 L) (C9 L) (Hu L) x.1
def Ba7(L:Ae):Aid:=fun x=>Aaj L (Nf L) (A3 L) (C9 L) (Hu L) x.1
def Nu(L:Ae):Pn:=fun x=>Aqz L x.1 x.2.1
def Asr(L:Ae):Anl:=fun x=>Awe L (C9 L) (Nu L) (K7 L) (Q0 L) x.1 x.2.1
def Ap9(L:Ae):Afz:=fun x=>Aft L (Hu L) x.1
def Bph(L:Ae):Ay9:=fun x=>Aqh L (A3 L) (Nu L) (Asr L) (Ap9 L) x.1 x.2.1
def Aj6(L:Ae):Xf:=fun x=>Wz L (A3 L) (Nu L) x.1
def Bh2(L:Ae):Ar7:=fun x=>Aip L (Nu L) x.1
def Bdj(L:Ae):Ak5:=fun x=>Ac7 L (Nb L) (Cn L) (C9 L) (Nu L) x.1 x.2.1
def Bqt(L:Ae):Bd1:=fun x=>Au5 L (H0 L) (Nu L) x.1 x.2.1
def Bhl(L:Ae):Arw:=fun x=>Ain L (Nj L) (Acw L) (Aj6 L) (Bh2 L) (Cn L) (Bdj L) (Asr L) (Bqt L) (N3 L) (Nb L) (C9 L) (Ap9 L) x.1 x.2.1 x.2.2.1 x.2.2.2.1
def Az5(L:Ae):Ae3:=fun x=>Xk L (Acw L) (A3 L) (Nu L) (Aj6 L) (Asr L) (Hu L) x.1 x.2.1
def Blq(L:Ae):Ava:=fun x=>Amu L (Nj L) (Acw L) (Bhl L) (Az5 L) x.1 x.2.1 x.2.2.1 x.2.2.2.1 x.2.2.2.2.1
def Bfh(L:Ae):An9:=fun x=>Ae8 L (Bi7 L) (Ba6 L) (Bh8 L) (Bgi L) (Bk2 L) (Bi2 L) (Az2 L) (Sj L) (Ba7 L) (Bph L) (Blq L) x.1 x.2.1 x.2.2.1 x.2.2.2.1 x.2.2.2.2.1
def Ags(L:Ae):If:=fun x=>Ig L (Sj L) x.1 x.2.1 x.2.2.1
def Ape(L:Ae):Tp:=fun x=>M5 L (Atl L) (Bfh L) (Az2 L) (Ags L) (Ad0 L) x.1 x.2.1
def Biv(L:Ae):Arh:=fun x=>Ai5 L (Aws L) x.1 x.2.1 x.2.2.1
def Bkc(L:Ae):Av1:=fun x=>Ami L (Ayi L) x.1 x.2.1 x.2.2.1 x.2.2.2.1
def Bpb(L:Ae):Ayl:=fun x=>Aqr L x.1
def Bof(L:Ae):Azp:=fun x=>Aq3 L (Nj L) (Bpb L) (Ahm L) x.1 x.2.1 x.2.2.1
def Bnw(L:Ae):Ayd:=fun x=>Ard L (Nf L) (Ac3 L) x.1 x.2.1
def Aza(L:Ae):Agc:=fun x=>Xq L (Ahx L) (Bnw L) x.1 x.2.1
def Apv(L:Ae):Ui:=fun x=>Mu L (Ga L) (Ah5 L) x.1 x.2.1
def Ase(L:Ae):Wt:=fun x=>Or L (A3 L) (C9 L) x.1
def Awb(L:Ae):Aas:=fun x=>Rk L (Ase L) (A3 L) (C9 L) (N3 L) (Aca L) x.1 x.2.1 x.2.2.1
def Aao(L:Ae):Jf:=fun x=>Mw L x.1 x.2.1
def Bvh(L:Ae):As9:=Ajt
def Bhr(L:Ae):Ars:=fun x=>Aik L (Bvh L) x.1 x.2.1 x.2.2.1 x.2.2.2.1 x.2.2.2.2.1
def Al8(L:Ae):Qr:=fun x=>K8 L x.1 x.2.1
def Ats(L:Ae):Zj:=fun x=>Qp L (Ga L) (Aao L) (Awv L) (Bhr L) (Sj L) (Al8 L) (Ah5 L) x.1 x.2.1
def Asb(L:Ae):Wq:=fun x=>O0 L (Biv L) (Bkc L) (Bof L) (Aza L) (Ga L) (A3 L) (C9 L) (N3 L) (Apv L) (Awb L) (Ats L) x.1 x.2.1
def Aol(L:Ae):I1:=fun x=>Lx L (Axv L) (Aw7 L) (Ape L) (Asb L) x.1 x.2.1
def Bb2(L:Ae):Ahi:=fun x=>Au9 L x.1 x.2.1
def Bf8(L:Ae):An4:=fun x=>Afs L x.1 x.2.1 x.2.2.1
def Bjd(L:Ae):Ar2:=fun x=>Aio L x.1 x.2.1
def Bls(L:Ae):Awj:=fun x=>Am2 L x.1
def Bln(L:Ae):Af8:=Yj
def Bi9(L:Ae):Asy:=fun x=>Aix L (Aqm L) (Bln L) x.1 x.2.1 x.2.2.1
def Atr(L:Ae):Aiu:=fun x=>Aih L
def Bg4(L:Ae):Asf:=fun x=>Ai3 L x.1
def Bkf(L:Ae):Awk:=fun x=>Amo L (Bi9 L) (A3 L) (Cn L) (C9 L) (Atr L) (Ab7 L) (B9 L) (Bg4 L) x.1 x.2.1
def Apz(L:Ae):Uh:=fun x=>Ms L (Bb2 L) x.1
def Axb(L:Ae):Adh:=fun x=>T7 L (Kk L) (A3 L) (Cn L) (H0 L) (B9 L) (Apz L) (Atr L) x.1 x.2.1 x.2.2.1
def Bdq(L:Ae):U6:=fun x=>Ac6 L (Bb2 L) (Bf8 L) (Bjd L) (Bls L) (Bkf L) (Axb L) x.1 x.2.1 x.2.2.1
def Bcu(L:Ae):Ac2:=fun x=>Acq L (Bqe L) (Azx L) (Aol L) (Bdq L) x.1 x.2.1
def Aof(L:Ae):Ss:=fun x=>Ly L (Ga L) x.1
def Alg(L:Ae):Pa:=fun x=>J6 L x.1
def Ari(L:Ae):Ox:=fun x=>Oz L (Aof L) (Alg L) (Aao L) x.1
def Atq(L:Ae):Ajd:=fun x=>Arv L (Ayh L) (Bcu L) (Alz L) (Ari L)
abbrev Cqs:Ae:=fun _ _ round=>Bfd round Br7
theorem Cqx:Atq Cqs ()=some ((true,()),()):=by kernel_rfl
theorem Bug:Pi ()=some ((true,()),()):=by
 have h:Pi ()=Atq Ac ():=by kernel_rfl
 rw[h,Aqk]
 exact Cqx
theorem Dd{a b:List Int}(ha:Dy a)(hb:Dy b):Dy (a++b):=fun x hx=>by
 rcases List.mem_append.1 hx with hx|hx
 ·exact ha x hx
 ·exact hb x hx
theorem Bit{n:Nat}(h:Al n):Dy (enc n):=Bar (Nat.le_trans (Adu h) (by omega))
theorem Ar8{x:Int}(h:B4 x):Dy (enc x.toNat):=Bit (Bgv h)
theorem Ale{n:Nat}(h:Al n):Dy (enc (Dw (Aw n))):=Bit (Bj5 h)
theorem Buy{b:List Int}:∀ (l:List Int),Dy b→(∀ x∈l,B4 x)→Dy (Xe b l):=by
 intro l
 induction l generalizing b with
 | nil=>intro hb _;exact hb
 | cons x l ih=>intro hb h;exact ih (b:=b++enc x.toNat) (Dd hb (Ar8 (h x (List.mem_cons_self ..)))) (fun y hy=>h y (List.mem_cons_of_mem _ hy))
theorem Cjj{b:List Int}:∀ (l:List Nat),Dy b→(∀ x∈l,Al x)→Dy (Alc b l):=by
 intro l
 induction l generalizing b with
 | nil=>intro hb _;exact hb
 | cons x l ih=>intro hb h;exact ih (b:=b++enc x) (Dd hb (Bit (h x (List.mem_cons_self ..)))) (fun y hy=>h y (List.mem_cons_of_mem _ hy))
theorem Box{f:List Int→Nat→List Int}{b:List Int}:∀ (n:Nat),(∀ b i,i<n→Dy b→Dy (f b i))→Dy b→Dy (I7 f b n)
 | 0,_,hb=>hb
 | n+1,h,hb=>h _ n (by omega) (Box n (fun b i hi=>h b i (by omega)) hb)
theorem Bwo{n:Nat}(h:n≤100000):Dy (enc n):=Bit (by unfold Al;omega)
section
variable {st bg n t g:Int} {p:N6} {s:T3} {ac:List A5} {vs:List Nat} {ms:List Ff} {cl:List Bool} {h f:Nat} {l1:List Bn}
theorem Cgq(hst:B4 st)(hbg:B4 bg)(h2:Vd p)(hn:B4 n)(ht:B4 t)(hg:B4 g)(h4:Al f)(h6:Apx s):Dy (Acv st bg p n t g f s):=by
 obtain⟨⟨up,hup,hupb⟩,hun,hlu,hre,hsu,-,-⟩:=h6
 obtain⟨s1,s2,s3,s4,s5,s6,su⟩:=s
 dsimp only at hup hun hlu hre hsu
 subst hup
 cases hsu with
 | mk hsb =>
 obtain⟨k1,k2,k3,k4,k5,k6,k7,k8,k9,k10,k11,k12⟩:=h2
 have um:B4 1886350964:=⟨by decide,by decide⟩
 unfold Acv
 dsimp only
 refine Dd (Buy _ ?_ (Cht hun hlu hre)) ?_
 ·refine Dd (Dd (Dd (Buy _ ?_ (Cop k9 k10 k11 k12 hn ht hg)) (Bit h4)) (Ar8 hbg)) (Ale hupb)
  exact Dd (Dd (Dd (Dd (Dd (Buy _ (fun x hx=>by cases hx) (Cmh um hst k1 k2 k3)) (Ale k4)) (Ar8 k5)) (Ale k6)) (Ar8 k7)) (Ale k8)
 ·rename_i sg sn
  have hb:=Ale hsb
  rw[Bk] at hb ⊢
  unfold Bxu
  split
  ·exact fun x hx=>by cases hx
  ·intro x hx
   rcases List.mem_cons.1 hx with hx|hx
   ·rw[hx];split<;>exact⟨by decide,by decide⟩
   ·exact hb x hx
theorem Cmu(hst:B4 st)(hbg:B4 bg)(hn:B4 n)(ht:B4 t)(hg:B4 g)(h2:Vd p)(h4:Al f)(h6:Apx s)(hpl:s.2.2.2.2.2.1.length≤1000)(h8:Xu ac)(v2:∀ n∈vs,Al n)(m1:O6 ms)(e1:Al h)(p1:Fh l1)(hs:Axs ac ms l1) :
  Dy (Btd st bg n t g p s ac vs ms cl h f l1):=by
 have hsa:=hs.a
 have hsm:=hs.m
 have hsl:=hs.l
 unfold Btd Amx
 refine Box _ (fun b i hi hb=>?_) (Dd (Dd ?_ (Bit e1)) (Bwo (by omega)))
 ·have hw:=p1.at i
  rw[Tk]
  generalize l1.getD i Eb=x at *
  cases hw with
  | mk q1 q2=>exact Dd (Dd hb (Ar8 q1)) (Ale q2)
 unfold Au7
 refine Box _ (fun b i hi hb=>?_) (Dd ?_ (Bwo (by omega)))
 ·have hw:=m1.at hi Bj
  rw[Apw]
  generalize ms.getD i Bj=x at *
  cases hw with
  | mk q1 q2 q3 =>
   refine Dd (Dd (Dd hb (Ar8 q2)) (Ale q3)) (fun x hx=>?_)
   rw[List.mem_singleton.1 hx]
   split<;>exact⟨by decide,by decide⟩
 unfold Avr
 refine Cjj _ ?_ v2
 unfold Bgu
 refine Box _ (fun b i hi hb=>?_) (Dd ?_ (Bwo (by omega)))
 ·have hw:=h8 _ (Bt (d:=Gs) hi)
  rw[Aou]
  generalize ac.getD i Gs=x at *
  cases hw with
  | mk q1 q2 q3=>exact Dd (Dd (Dd hb (Ar8 q1)) (Ale q2)) (Ar8 q3)
 unfold Cac
 refine Box _ (fun b i hi hb=>?_) (Dd (Cgq hst hbg h2 hn ht hg h4 h6) (Bwo (by omega)))
 have hw:=h6.ps _ (Bt (d:=Ax) hi)
 rw[Api]
 generalize s.2.2.2.2.2.1.getD i Ax=x at *
 cases hw with
 | mk q1 q2 q3 q4 q5 q6=>exact Dd (Dd (Dd (Dd (Dd (Dd hb (Ar8 q1)) (Ale q2)) (Ale q3)) (Ale q4)) (Ale q5)) (Ar8 q6)
theorem Cq9(hst:B4 st)(hbg:B4 bg)(hn:B4 n)(ht:B4 t)(hg:B4 g)(h2:Vd p)(h4:Al f)(h6:Apx s)(hpl:s.2.2.2.2.2.1.length≤1000)(h8:Xu ac)(v1:vs.length=4)(v2:∀ n∈vs,Al n)(m1:O6 ms)(e1:Al h)(p1:Fh l1)(hs:Axs ac ms l1) :
  (Btd st bg n t g p s ac vs ms cl h f l1).length≤100000000:=by
 obtain⟨-,-,k3⟩:=Bzu (ac:=ac) (vs:=vs.map Aw) (ms:=ms) (cl:=cl) (h:=Aw h) (l1:=l1) hst hbg h2 hn ht hg h4 h6
 have q1:=Cih (b:=Acv st bg p n t g f s) h6.ps hpl
 have q2:=Cio (b:=Cac (Acv st bg p n t g f s) s.2.2.2.2.2.1) h8 hs.a
 have q3:=Auw (b:=Bgu (Cac (Acv st bg p n t g f s) s.2.2.2.2.2.1) ac) vs v2
 have q4:=Ci3 (b:=Avr (Bgu (Cac (Acv st bg p n t g f s) s.2.2.2.2.2.1) ac) vs) (cl:=cl) m1 hs.m
 have q5:=Chb (b:=Au7 (Avr (Bgu (Cac (Acv st bg p n t g f s) s.2.2.2.2.2.1) ac) vs) ms cl) p1 hs.l e1
 unfold Btd
 unfold Avr at *
 omega
end
structure Cjh(S:StT):Prop where
 v:∃ b,C4 (S,())=some ((b,()),(),())∧Ij (S,())=some ((b,()),(),())
 e:∃ a c,Ey (S,())=some ((a,c,()),(),())∧Ha (S,())=some ((a,c,()),(),())
 h:∃ a c,L1 (S,())=some ((a,c,()),(),())∧Sb (S,())=some ((a,c,()),(),())
open Classical in
theorem Bw2{S:StT}(hS:StW 20000 S):Cjh S:=by
 cases hS with
 | mk h1 h2 h4 h5 h6 h7 h8 h9 v1 v2 m1 m2 c1 e1 p1 p2 =>
 rename_i st bg p b s ac vs ms cl h l1
 cases h4 with
 | mk b1 b2 b3 b4 =>
 rename_i n t g f
 have hs:Axs ac ms l1:=⟨h9,m2,p2⟩
 have ev:=Bfv (st:=st) (bg:=bg) (n:=n) (t:=t) (g:=g) (cl:=cl) h2 b4 h6 h8 v1 v2 m1 e1 p1 hs
 have er:=Bju (st:=st) (bg:=bg) (n:=n) (t:=t) (g:=g) (cl:=cl) h2 b4 h6 h8 v1 v2 m1 e1 p1 hs
 obtain⟨ee,ef⟩:=Cb9 (cl:=cl) h1 h5 b1 b2 b3 h2 b4 h6 h7 h8 v1 v2 m1 e1 p1 hs
 have hby:=Cmu (cl:=cl) h1 h5 b1 b2 b3 h2 b4 h6 h7 h8 v2 m1 e1 p1 hs
 have hle:=Cq9 (cl:=cl) h1 h5 b1 b2 b3 h2 b4 h6 h7 h8 v1 v2 m1 e1 p1 hs
 refine⟨⟨_,ev,er⟩,?_,?_⟩
 ·by_cases c:VS p t f s ac vs ms cl h l1
  ·rw[if_pos c] at ee ef
   exact⟨_,_,ee,ef⟩
  ·rw[if_neg c] at ee ef
   exact⟨_,_,ee,ef⟩
 ·unfold L1 Akx Sb Avn
  rw[ee,ef,Aa,Aa]
  by_cases c:VS p t f s ac vs ms cl h l1
  ·rw[if_pos c]
   dsimp only
   rw[Aq,Ad,if_pos rfl,Aq,Ad,if_pos rfl,List.drop_zero,Nat.sub_zero,List.take_length,Ch8 hby hle,Bl8 hby hle,Aa]
   exact⟨_,_,rfl,rfl⟩
  ·rw[if_neg c]
   dsimp only
   rw[Aq,Ad,if_neg (by decide),Aq,Ad,if_neg (by decide)]
   exact⟨_,_,rfl,rfl⟩
abbrev Cpw:Ty:=(.pair (.int .u64) (.pair (.pair (.int .u64) (.pair (.int .u64) (.pair (.int .u64) (.pair (.arr 4 (.int .u64)) (.pair (.int .u64) (.pair (.arr 4 (.int .u64)) (.pair (.int .u64) (.pair (.arr 4 (.int .u64)) (.pair (.int .u64) (.pair (.int .u64) (.pair (.int .u64) (.pair (.int .u64) .unit)))))))))))) (.pair (.pair (.int .u64) (.pair (.int .u64) (.pair (.int .u64) (.pair (.arr 4 (.int .u64)) .unit)))) (.pair (.int .u64) (.pair (.pair (.arr 4 (.int .u64)) (.pair (.int .u64) (.pair (.int .u64) (.pair (.int .u64) (.pair (.pair .bool (.pair (.arr 4 (.int .u64)) .unit)) (.pair (.slice (.pair (.int .u64) (.pair (.arr 4 (.int .u64)) (.pair (.arr 4 (.int .u64)) (.pair (.arr 4 (.int .u64)) (.pair (.arr 4 (.int .u64)) (.pair (.int .u64) .unit))))))) .unit)))))) (.pair (.slice (.pair (.int .u64) (.pair (.arr 4 (.int .u64)) (.pair (.int .u64) .unit)))) (.pair (.arr 4 (.arr 4 (.int .u64))) (.pair (.slice (.pair (.int .u64) (.pair (.int .u64) (.pair (.arr 4 (.int .u64)) .unit)))) (.pair (.slice .bool) (.pair (.arr 4 (.int .u64)) (.pair (.slice (.pair (.int .u64) (.pair (.arr 4 (.int .u64)) .unit))) .unit)))))))))))
theorem Ckf:∀ {v:List (List Int)},(∀ x∈v,(Ty.arr 4 (.int .u64)).wf x)→∃ vs:List Nat,v=vs.map Aw∧∀ n∈vs,Al n
 | [],_=>⟨[],rfl,fun n h=>by simp at h⟩
 | x::v,h=>by
  obtain⟨n,hn,rfl⟩:=Rh (h x (by simp))
  obtain⟨vs,rfl,hvs⟩:=Ckf (v:=v) fun y hy=>h y (by simp[hy])
  exact⟨n::vs,rfl,fun k hk=>by
   rcases List.mem_cons.1 hk with rfl|hk
   ·exact hn
   ·exact hvs k hk⟩
theorem Cq8{S:StT}(h:Cpw.wf S){B:Nat}(h1:S.2.2.2.2.2.1.length≤B)(h2:S.2.2.2.2.2.2.2.1.length≤B)(h3:S.2.2.2.2.2.2.2.2.1.length≤B)(h4:S.2.2.2.2.2.2.2.2.2.2.1.length≤B)(h5:S.2.2.2.2.1.2.2.2.2.2.1.length≤1000):StW B S:=by
 obtain⟨st,⟨sp,to,bi,fe,gl,ic,bb,rw',eu,pi,mi,ma,pu⟩,⟨n,t,g,f,bu⟩,bg,⟨s1,s2,s3,s4,⟨sg,sn,sU⟩,ps,su⟩,ac,V,ms,cl,H,l1,u⟩:=S
 obtain⟨w1,⟨a1,a2,a3,a4,a5,a6,a7,a8,a9,a10,a11,a12,_⟩,⟨b1,b2,b3,b4,_⟩,w4,⟨c1,c2,c3,c4,⟨_,c5,_⟩,c6,_⟩,w6,w7,w8,w9,w10,w11,_⟩:=h
 obtain⟨fe',hfe,efe⟩:=Rh a4
 obtain⟨ic',hic,eic⟩:=Rh a6
 obtain⟨rx',hrx,erx⟩:=Rh a8
 obtain⟨f',hf,ef⟩:=Rh b4
 obtain⟨up,hup,eup⟩:=Rh c1
 obtain⟨sv,hsv,esv⟩:=Rh c5
 obtain⟨vs,evs,hvs⟩:=Ckf w7.2
 obtain⟨h',hh',eh⟩:=Rh w10
 dsimp only at *
 subst efe eic erx ef eup esv evs eh
 refine .mk (Gt.1 w1) (Vd.mk (Gt.1 a1) (Gt.1 a2) (Gt.1 a3) hfe (Gt.1 a5) hic (Gt.1 a7) hrx (Gt.1 a9) (Gt.1 a10) (Gt.1 a11) (Gt.1 a12))
  (Bcn.mk (Gt.1 b1) (Gt.1 b2) (Gt.1 b3) hf) (Gt.1 w4) ⟨⟨up,rfl,hup⟩,Gt.1 c2,Gt.1 c3,Gt.1 c4,Awn.mk hsv,fun x hx=>?_,by dsimp only;omega⟩ h5 (fun x hx=>?_) h1 ?_ hvs (fun x hx=>?_) h2 h3 hh' (fun x hx=>?_) h4
 ·obtain⟨a,d,c,r,q,s,_⟩:=x
  obtain⟨q1,q2,q3,q4,q5,q6,_⟩:=c6.2 _ hx
  obtain⟨n1,hn1,e1⟩:=Rh q2
  obtain⟨n2,hn2,e2⟩:=Rh q3
  obtain⟨n3,hn3,e3⟩:=Rh q4
  obtain⟨n4,hn4,e4⟩:=Rh q5
  dsimp only at *
  subst e1 e2 e3 e4
  exact .mk (Gt.1 q1) hn1 hn2 hn3 hn4 (Gt.1 q6)
 ·obtain⟨a,d,c,_⟩:=x
  obtain⟨q1,q2,q3,_⟩:=w6.2 _ hx
  obtain⟨n1,hn1,e1⟩:=Rh q2
  dsimp only at *
  subst e1
  exact .mk (Gt.1 q1) hn1 (Gt.1 q3)
 ·have:=w7.1
  simpa using this
 ·obtain⟨a,d,c,_⟩:=x
  obtain⟨q1,q2,q3,_⟩:=w8.2 _ hx
  obtain⟨n1,hn1,e1⟩:=Rh q3
  dsimp only at *
  subst e1
  exact .mk (Gt.1 q1) (Gt.1 q2) hn1
 ·obtain⟨a,d,_⟩:=x
  obtain⟨q1,q2,_⟩:=w11.2 _ hx
  obtain⟨n1,hn1,e1⟩:=Rh q2
  dsimp only at *
  subst e1
  exact .mk (Gt.1 q1) hn1
theorem Ccs{l:List StT}(hl:l.length=3)(ha:∀ S∈l,Cjh S) :
  ∃ y:(Bool×Unit)×(Unit×Unit×Unit×Unit×Unit),Ac _ _ (fun again x=>J4 Ey Ha L1 Sb C4 Ij Jz Pi again x.1 x.2.1) (l,(0:Int),())=some y∧y.1.1=true:=by
 refine Cq (I:=fun x=>∃ i:Nat,i≤3∧x=(l,(i:Int),())) (m:=fun x=>(3-x.2.1).toNat) (P:=fun w=>∃ y:(Bool×Unit)×(Unit×Unit×Unit×Unit×Unit),w=some y∧y.1.1=true) ?_ ⟨0,by omega,rfl⟩ (by rw[Av];simp only;omega)
 rintro x again ⟨i,hi,rfl⟩ hag
 simp only at hag ⊢
 unfold J4
 rw[Ad]
 by_cases c:(i:Int)<3
 ·rw[if_pos c,Ao,if_pos (by omega),Int.toNat_natCast]
  have hn:=hag (l,(i:Int)+1,()) ⟨i+1,by omega,rfl⟩ (by simp only;omega)
  clear hag
  have hA:∀ d,Cjh (l.getD i d):=fun d=>ha _ (Bt (d:=d) (by omega))
  have hA:=hA ((0:Int),((0:Int),(0:Int),(0:Int),[(0:Int),0,0,0],(0:Int),[(0:Int),0,0,0],(0:Int),[(0:Int),0,0,0],(0:Int),(0:Int),(0:Int),(0:Int),()),((0:Int),(0:Int),(0:Int),[(0:Int),0,0,0],()),(0:Int),([(0:Int),0,0,0],(0:Int),(0:Int),(0:Int),(false,[(0:Int),0,0,0],()),([]:List At),()),([]:List A5),[[(0:Int),0,0,0],[(0:Int),0,0,0],[(0:Int),0,0,0],[(0:Int),0,0,0]],([]:List Ff),([]:List Bool),[(0:Int),0,0,0],([]:List Bn),())
  generalize l.getD i _=S at hA ⊢
  obtain⟨⟨b,v1,v2⟩,⟨a,e,e1,e2⟩,⟨hs,q,h1,h2⟩⟩:=hA
  rw[e1,Aa,e2,Aa,h1,Aa,h2,Aa,v1,Aa,v2,Aa]
  dsimp only
  have heb:Jz (a,a,())=some ((true,()),(),(),()):=by
   unfold Jz Af3
   dsimp only
   rw[Aco.2 rfl]
  rw[Aq,Aco.2 rfl,Au,List.drop_zero,Nat.sub_zero,List.take_length,heb,Aa]
  dsimp only
  rw[Aq,Au,Aq,Ad,if_pos rfl,Aq,Aco.2 rfl,Au,Aq,Ad,if_pos rfl,Ar (by omega) (by omega)]
  exact hn
 ·rw[if_neg c,Bug,Aa]
  exact⟨_,rfl,rfl⟩
theorem Bz5(S:StT):Od (S,())=some ((decide (¬ (S.2.2.2.2.2.1.length≤30∧S.2.2.2.2.2.2.2.1.length≤30∧S.2.2.2.2.2.2.2.2.1.length≤40∧S.2.2.2.2.2.2.2.2.2.2.1.length≤30∧S.2.2.2.2.1.2.2.2.2.2.1.length≤20)),()),(),()):=by
 unfold Od Ahk
 dsimp only
 rw[Ad]
 by_cases c1:(S.2.2.2.2.2.1.length:Int)>30
 ·rw[if_pos c1,decide_eq_true (by omega)]
 rw[if_neg c1,Ad]
 by_cases c2:(S.2.2.2.2.2.2.2.1.length:Int)>30
 ·rw[if_pos c2,decide_eq_true (by omega)]
 rw[if_neg c2,Ad]
 by_cases c3:(S.2.2.2.2.2.2.2.2.1.length:Int)>40
 ·rw[if_pos c3,decide_eq_true (by omega)]
 rw[if_neg c3,Ad]
 by_cases c4:(S.2.2.2.2.2.2.2.2.2.2.1.length:Int)>30
 ·rw[if_pos c4,decide_eq_true (by omega)]
 rw[if_neg c4]
 by_cases c5:(S.2.2.2.2.1.2.2.2.2.2.1.length:Int)>20
 ·rw[decide_eq_true c5,decide_eq_true (by omega)]
 ·rw[decide_eq_false c5,decide_eq_false (by omega)]
theorem Arq{raw:StT}(hraw:Cpw.wf raw){v:List Int}(hv:∀ x∈v,I64 x){how:Int}(hh:I64 how){k:Nat}(hk:Al k) :
  ∃ y,Gg (raw,v,how,Aw k,())=some y∧y.1.1=true:=by
 unfold Gg O8
 dsimp only
 rw[Ad]
 by_cases c:((v.length:Nat):Int)>20
 ·rw[if_pos c,Bug,Aa]
  exact⟨_,rfl,rfl⟩
 rw[if_neg c,Bz5,Aa]
 dsimp only
 rw[Ad]
 by_cases c2:raw.2.2.2.2.2.1.length≤30∧raw.2.2.2.2.2.2.2.1.length≤30∧raw.2.2.2.2.2.2.2.2.1.length≤40∧raw.2.2.2.2.2.2.2.2.2.2.1.length≤30∧raw.2.2.2.2.1.2.2.2.2.2.1.length≤20
 case neg =>
  rw[if_pos c2,Bug,Aa]
  exact⟨_,rfl,rfl⟩
 rw[if_neg (fun h=>h c2)]
 have hraw':StW 40 raw:=Cq8 hraw (by omega) (by omega) (by omega) (by omega) (by omega)
 obtain⟨M,l,rc,hM,es⟩:=Ck4 hv (by omega) (calm:=false)
 obtain⟨s,e1,hs⟩:=Cfn hM (by omega)
 obtain⟨s',hs',em⟩:=Cfq hs (by omega) hk hh
 have a1:=Bw2 (hraw'.mono (by omega))
 have a2:=Bw2 (hs.mono (by omega))
 have a3:=Bw2 (hs'.mono (by omega))
 rw[es,Aa]
 dsimp only
 rw[e1,Aa]
 dsimp only
 rw[e1,Aa]
 dsimp only
 rw[em,Aa]
 dsimp only
 refine Ccs rfl (fun S hS=>?_)
 simp only[List.mem_cons,List.not_mem_nil,or_false] at hS
 rcases hS with rfl|rfl|rfl
 ·exact a1
 ·exact a2
 ·exact a3
theorem law_SnapshotReference:∀ x,wfL Hj.ins x→∃ y,Gg x=some y∧y.1.1=true :=
 fun⟨raw,v,how,n,_⟩ ⟨hr,hv,hh,hn,_⟩=>by
  obtain⟨k,hk,rfl⟩:=Rh hn
  exact Arq hr (fun x hx=>Ceg.1 (hv.2 x hx)) (Ceg.1 hh) hk
end Go.Pon
