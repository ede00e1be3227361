/-
  Part of a proof: general lemmas, merged by a program of this work.
-/
import Derived.KernelRfl
import Derived.Test.YtjbkeldlldpddaaGreatPSnapshotRoundTrip2
set_option autoImplicit false
set_option linter.unusedVariables false
set_option linter.unusedSimpArgs false
noncomputable section
namespace Go.Pon
theorem aj2:type_of% @List.prefix_append:=@List.prefix_append
theorem am5:type_of% @List.mem_or_eq_of_mem_set:=@List.mem_or_eq_of_mem_set
theorem ap8:type_of% @Nat.le_succ_of_le:=@Nat.le_succ_of_le
theorem au3:type_of% @Nat.le_of_lt:=@Nat.le_of_lt
end Go.Pon
namespace Go.Pon
open Go
theorem Ca6(l:List Aq):List.append (List.replicate 0 Aw) l=l:=rfl
theorem Wu{l:List Aq}{k:Nat}{x z:Aq}(h:k<l.length):List.getD (List.set l k x) k z=x:=by
 simp[aa2,h]
theorem Az0{l:List Aq}{k:Nat}{x y:Aq}:List.set (List.set l k x) k y=List.set l k y:=by simp
theorem Bcq{n:Nat}:(((dg n).length:Nat):Int)>0↔n≠0:=by
 have:=Aid 0 n
 simp at this
 omega
theorem Ak3{n:Nat}(h:n<115792089237316195423570985008687907853269984665640564039457584007913129639936*4):(dg n).length≤1000:=by
 have:(dg n).length≤17:=Du.2 (by
  rw[show (65536:Nat) ^ 17=7588550360256754183279148073529370729071901715047420004889892225542594864082845696 from by decide]
  exact af0 (by omega))
 omega
theorem Bcc{l:List Aq}{a:Int}{az aj:Nat}{since:Int}(ha:Aco l)(hl:l.length≤100000)(j8:Al az)(ek:Al aj)(hv:I9 l=true)(hs:since≠0){k:Nat}(hk:k<l.length)(h1:Abj l a=(k:Int))
  {ad:Int} {d c r pd:Nat} {s:Int} (hp:l.getD k Aw=(ad,At d,At c,At r,At pd,s,())) (hd:Al d) (hc:Al c) (hr:Al r) :
  (¬ (Al (d+(az+aj))∧Al (c+az)∧Al (r+aj))→Fa (l,a,At az,At aj,since,())=some (([],(4:Int),()),(),(),(),(),(),())) ∧
  (Al (d+(az+aj))→Al (c+az)→Al (r+aj)→Fa (l,a,At az,At aj,since,())=some ((List.set l k (ad,At (d+(az+aj)),At (c+az),At (r+aj),At pd,(if d=0∧az+aj≠0 then since else s),()),(0:Int),()),(),(),(),(),(),())):=by
 generalize hX:Fa (l,a,At az,At aj,since,())=X
 unfold Fa S5 at hX
 simp only at hX
 rw[Az7] at hX
 rw[Am,Am,Ca6,Mj ha (by omega),Aa] at hX
 simp only[An,hv] at hX
 rw[Ap,Ad,aa1 hs,Ald (by omega),Aa] at hX
 simp only[h1] at hX
 rw[Am,Ad,aa1 (by omega),af1,roomyP (by omega),Ap,Ao,aa0 (by omega),aa3,hp] at hX
 simp only at hX
 have e1:=Cd hd
 have e2:=Cd hc
 have e3:=Cd hr
 have e4:=Cd j8
 have e5:=Cd ek
 rw[e1,Aa,e4,Aa,e5,Aa] at hX
 unfold Al at hd hc hr j8 ek
 rw[Cy (Ak3 (by omega)) (Ak3 (by omega)),Aa,Cy (Ak3 (by omega)) (Ak3 (by omega)),Aa] at hX
 rw[e2,Aa,Aa,Cy (Ak3 (by omega)) (Ak3 (by omega)),Aa] at hX
 rw[e3,Aa,Aa,Cy (Ak3 (by omega)) (Ak3 (by omega)),Aa] at hX
 rw[Oq,Aa,Ad] at hX
 subst hX
 constructor
 ·intro hn
  by_cases c2:Al (d+(az+aj))
  case neg=>unfold Al at c2;rw[aa1 c2]
  have c2':=c2
  unfold Al at c2'
  rw[aa0 c2',Oq,Aa,Ad]
  by_cases c3:Al (c+az)
  case neg=>unfold Al at c3;rw[aa1 c3]
  have c3':=c3
  unfold Al at c3'
  rw[aa0 c3',Oq,Aa,Ad]
  have c4:¬ Al (r+aj):=fun h=>hn ⟨c2,c3,h⟩
  unfold Al at c4
  rw[aa1 c4]
 ·intro c2 c3 c4
  have t2:=Uo c2
  have t3:=Uo c3
  have t4:=Uo c4
  unfold Al at c2 c3 c4
  rw[aa0 c2,Oq,Aa,Ad,aa0 c3,Oq,Aa,Ad,aa0 c4,Wr,Aa,Ad]
  by_cases d0:d=0
  ·rw[aa0 d0,Ad]
   by_cases e0:az+aj=0
   ·rw[aa1 (by rw[Bcq];omega),t2,Aa,Am,t3,Aa,t4,Aa]
    simp only[Wu hk,Az0,ae1,hk]
    rw[aa1 (by omega)]
   ·rw[aa0 (by rw[Bcq];omega),t2,Aa,Am,t3,Aa,t4,Aa]
    simp only[Wu,Az0,ae1,hk]
    rw[aa0 ⟨d0,e0⟩]
  ·rw[aa1 d0,t2,Aa,Am,t3,Aa,t4,Aa]
   simp only[Wu,Az0,ae1,hk]
   rw[aa1 (by omega)]
theorem Bz2{l:List Aq}{a:Int}{az aj:Nat}{since:Int}{y:List Aq×(Int×Unit)}(ha:Aco l)(hl:l.length≤100000)(j8:Al az)(ek:Al aj)
  (h:Bw0 l a az aj since y):Fa (l,a,At az,At aj,since,())=some (y,(),(),(),(),(),()):=by
 cases h with
 | invalid h =>
  unfold Fa S5
  simp only
  rw[Am,Am,Mj ha (by omega),Aa,An]
  cases hv:I9 l with
  | false=>rw[Bn]
  | true =>
   have hs:since=0:=by rw[hv] at h;simpa using h
   rw[Ap,Ad,aa0 hs]
 | absent h1 h2 h =>
  unfold Fa S5
  simp only
  rw[Am,Am,Mj ha (by omega),Aa,An,h1,Ap,Ad,aa1 h2,Ald (by omega),Aa,h,Am,Ad,aa0 (by decide)]
 | over h1 h2 k hk h d c r pd s hp hd hc hr nh =>
  exact (Bcc ha hl j8 ek h1 h2 hk h hp hd hc hr).1 (by rintro⟨q1,q2,q3⟩;rcases nh with q|q|q<;>exact q (by assumption))
 | done h1 h2 k hk h d c r pd s hp hd hc hr gh h3 h4 h5 =>
  exact (Bcc ha hl j8 ek h1 h2 hk h hp hd hc hr).2 h3 h4 h5
theorem Byo{l:List Aq}{a:Int}{n:Nat}{y:List Aq×(Int×Unit)}(ha:Aco l)(hl:l.length≤100000)(hn:Al n)
  (h:Bwi l a n y):F6 (l,a,At n,())=some (y,(),(),(),()):=by
 cases h with
 | invalid h =>
  unfold F6 Lu
  simp only
  rw[Am,Am,Mj ha (by omega),Aa,An,h,Bn]
 | absent h1 h =>
  unfold F6 Lu
  simp only
  rw[Am,Am,Mj ha (by omega),Aa,An,h1,Ap,Ald (by omega),Aa,h,Ad,aa0 (by decide)]
 | funds h1 k hk h d c r pd s hp hd hf =>
  unfold F6 Lu
  simp only
  rw[Az7]
  rw[Am,Am,Ca6,Mj ha (by omega),Aa,An,h1,Ap,Ald (by omega),Aa]
  simp only[h]
  rw[Ad,aa1 (by omega),af1,roomyP (by omega),Ap,Ao,aa0 (by omega),aa3,hp]
  simp only
  have ji:=hd
  have kl:=hn
  unfold Al at ji kl
  rw[Aex ji kl,aa1 (by omega),Aa,Am,Am]
  rw[An,Ad,aa1 (by decide)]
 | over h1 k hk h d c r pd s hp hd gh hf ho =>
  unfold F6 Lu
  simp only
  rw[Az7]
  rw[Am,Am,Ca6,Mj ha (by omega),Aa,An,h1,Ap,Ald (by omega),Aa]
  simp only[h]
  rw[Ad,aa1 (by omega),af1,roomyP (by omega),Ap,Ao,aa0 (by omega),aa3,hp]
  simp only
  have ji:=hd
  have kl:=hn
  have pn:=gh
  have bz:=ho
  unfold Al at ji kl pn bz
  rw[Aex ji kl,aa0 hf,Aa,Am,Am]
  rw[An,Ad,aa0 rfl,Bas pn kl,aa1 bz,Aa,Am,An,Ad,aa1 (by decide)]
 | done h1 k hk h d c r pd s hp hd hc hr gh hf ho =>
  unfold F6 Lu
  simp only
  rw[Az7]
  rw[Am,Am,Ca6,Mj ha (by omega),Aa,An,h1,Ap,Ald (by omega),Aa]
  simp only[h]
  rw[Ad,aa1 (by omega),af1,roomyP (by omega),Ap,Ao,aa0 (by omega),aa3,hp]
  simp only
  have ji:=hd
  have kl:=hn
  have pn:=gh
  have bz:=ho
  unfold Al at ji kl pn bz
  rw[Aex ji kl,aa0 hf,Aa,Am,Am]
  rw[An,Ad,aa0 rfl,Bas pn kl,aa0 bz,Aa,Am,An,Ad,aa0 rfl,Wr,Aa,Ad]
  by_cases d0:d-n=0
  ·rw[aa0 d0,aa0 d0]
   simp only[Wu,Az0,ae1,hk]
  ·rw[aa1 d0,aa1 d0]
   simp only[Wu,Az0,ae1,hk]
theorem Bho{l:List Aq}{i:Nat}(h:i<l.length):l.take (i+1)=l.take i++[l.getD i Aw]:=by
 rw[ap7,aa2,aa6 h]
 rfl
theorem Bqf{l:List Aq}{a:Int}:∀ i,i<Q7 l a→(l.getD i Aw).1<a:=by
 induction l with
 | nil=>intro i h;simp[Q7] at h
 | cons p l ih =>
  intro i h
  rw[Brt] at h
  by_cases g:p.1<a
  ·rw[aa0 g] at h
   cases i with
   | zero=>exact g
   | succ i=>exact ih i (by omega)
  ·rw[aa1 g] at h;omega
theorem Br9{l:List Aq}{a:Int}(h:Q7 l a<l.length):a≤(l.getD (Q7 l a) Aw).1:=by
 induction l with
 | nil=>simp at h
 | cons p l ih =>
  rw[Brt] at h ⊢
  by_cases g:p.1<a
  ·rw[aa0 g] at h ⊢
   exact ih (by simpa using h)
  ·rw[aa1 g]
   show a≤p.1
   omega
def Z4(l:List Aq)(a:Int)(i:Nat):List Aq:=if i≤Q7 l a then l.take i else l.take (Q7 l a)++(Bld a::(l.take i).drop (Q7 l a))
theorem Cjf{l:List Aq}{a:Int}(ha:Aco l)(hl:l.length≤100000):Acd (l,a,())=some ((Cm4 l a),(),(),()):=by
 unfold Acd Ase Cm4
 rw[Mj ha (by omega)]
 simp only[Aa,An,Ad]
 cases hv:I9 l with
 | false=>rw[Bn,aa1 (by simp)]
 | true =>
  rw[Ap,aa0 rfl]
  by_cases h0:a=0
  ·rw[aa0 h0,aa0 h0]
  rw[aa1 h0,aa1 h0,Ald (by omega)]
  simp only[Aa,Ad]
  by_cases h1:Abj l a≥0
  ·rw[aa0 h1,aa0 h1]
  rw[aa1 h1,aa1 h1]
  have da:=(Ro.1 hv).1
  by_cases h2:l.length=64
  ·rw[aa0 (show (l.length:Int)≥64 by omega),aa0 h2]
  rw[aa1 (show ¬ (l.length:Int)≥64 by omega),aa1 h2]
  have bm:∀ i,i<l.length→(l.getD i Aw).1≠a:=by
   rcases Av9 l a with⟨q1,q2⟩ | ⟨k,hk,q1,q2⟩
   ·exact q2
   ·omega
  have f9:=Bf6 a l
  have ax7:∀ i,Q7 l a≤i→i<l.length→a<(l.getD i Aw).1:=by
   intro i
   induction i with
   | zero =>
    intro q1 q2
    have q3:=Br9 (l:=l) (a:=a) (by omega)
    have:Q7 l a=0:=by omega
    rw[this] at q3
    have:=bm 0 q2
    omega
   | succ i ih =>
    intro q1 q2
    by_cases q:Q7 l a=i+1
    ·have q3:=Br9 (l:=l) (a:=a) (by omega)
     rw[q] at q3
     have:=bm (i+1) q2
     omega
    ·have:=ih (by omega) (by omega)
     have:=((Ro.1 hv).2 (i+1) q2).2 (by omega)
     rw[Nat.add_sub_cancel] at this
     omega
  refine Ai (I:=fun x=>∃ i:Nat,i≤l.length∧x=(l,a,Z4 l a i,decide (Q7 l a<i),((i:Nat):Int),())) (m:=fun x=>((l.length:Int)-x.2.2.2.2.1).toNat)
   (g:=fun _=>some ((pins l a,(0:Int),()),(),(),())) ?_ ⟨0,by omega,by simp[Z4]⟩ (by rw[Au];simp only;omega)
  rintro x aa ⟨i,hi,rfl⟩ hag
  simp only at hag ⊢
  unfold Arj
  rw[Az7]
  simp only[Am]
  rw[Ad]
  by_cases g1:((i:Nat):Int)<(l.length:Int)
  ·have bx:i<l.length:=by omega
   have ik:(0:Int)≤((i:Nat):Int)∧((i:Nat):Int)<(l.length:Int):=by omega
   have ag:(Z4 l a i).length≤1000:=by unfold Z4;split<;>simp<;>omega
   rw[aa0 g1,An,aa3,Ar (by omega) (by omega)]
   simp only[Ao,aa0 ik,Ad]
   have yw:((i:Nat):Int)+1=((i+1:Nat):Int):=by omega
   rw[yw]
   by_cases g2:Q7 l a<i
   ·rw[aa0 g2,roomyP (by omega),Ap]
    refine hag _ ⟨i+1,by omega,?_⟩ (by simp only;omega)
    rw[aa7 g2,aa7 (show Q7 l a<i+1 by omega)]
    have:List.append (Z4 l a i) [l.getD i Aw]=Z4 l a (i+1):=by
     unfold Z4
     rw[aa1 (by omega),aa1 (by omega),Bho bx,ae7 (by simp;omega)]
     show l.take (Q7 l a)++(Bld a::_)++_=_
     simp
    rw[this]
   ·rw[aa1 g2]
    by_cases g3:(l.getD i Aw).1>a
    ·have hci:Q7 l a=i:=by
      by_cases q:i<Q7 l a
      ·have:=Bqf i q;omega
      ·omega
     rw[aa0 g3,roomyP (by omega),Ap]
     have ya:(List.append (Z4 l a i) [(a,[(0:Int),0,0,0],[(0:Int),0,0,0],[(0:Int),0,0,0],[(0:Int),0,0,0],(0:Int),())]).length≤1001:=by show (Z4 l a i++[Bld a]).length≤1001;simp;omega
     rw[roomyP (by omega),Ap]
     refine hag _ ⟨i+1,by omega,?_⟩ (by simp only;omega)
     rw[aa7 (show Q7 l a<i+1 by omega)]
     have:List.append (List.append (Z4 l a i) [Bld a]) [l.getD i Aw]=Z4 l a (i+1):=by
      show Z4 l a i++[Bld a]++[l.getD i Aw]=_
      unfold Z4
      rw[aa0 (by omega),aa1 (by omega),Bho bx,ae7 (by simp;omega),hci]
      simp
     rw[this]
    ·have hci:i<Q7 l a:=by
      by_cases q:i<Q7 l a
      ·exact q
      ·have:=ax7 i (by omega) bx;omega
     rw[aa1 g3,roomyP (by omega),Ap]
     refine hag _ ⟨i+1,by omega,?_⟩ (by simp only;omega)
     rw[ab5 (show ¬ Q7 l a<i+1 by omega),ab5 (show ¬ Q7 l a<i by omega)]
     have:List.append (Z4 l a i) [l.getD i Aw]=Z4 l a (i+1):=by
      show Z4 l a i++[l.getD i Aw]=_
      unfold Z4
      rw[aa0 (by omega),aa0 (by omega),Bho bx]
     rw[this]
  ·have bx:i=l.length:=by omega
   subst bx
   rw[aa1 g1,An,Ad]
   by_cases g2:Q7 l a<l.length
   ·rw[aa0 g2]
    unfold Z4 pins
    rw[aa1 (by omega),ah8]
   ·have hci:Q7 l a=l.length:=by omega
    have ag:(Z4 l a l.length).length≤1000:=by unfold Z4;split<;>simp<;>omega
    rw[aa1 g2,roomyP (by omega),Ap]
    have:List.append (Z4 l a l.length) [Bld a]=pins l a:=by
     show Z4 l a l.length++[Bld a]=_
     unfold Z4 pins
     rw[aa0 (by omega),hci,ah8,List.drop_length]
    exact am6 (fun z:List Aq=>some ((z,(0:Int),()),(),(),())) this
theorem Ah4.len{l:List Aq}(h:Ah4 l):l.length≤64:=h.1
theorem Bqp{l:List Aq}{k i:Nat}{p:Aq}(hk:k<l.length):(List.set l k p).getD i Aw=if i=k then p else l.getD i Aw:=by
 by_cases h:i=k
 ·subst h;rw[aa0 rfl,Wu hk]
 ·rw[aa1 h]
  simp[aa2,List.getElem?_set,Ne.symm h]
theorem Ah4.set{l:List Aq}(h:Ah4 l){k:Nat}(hk:k<l.length){p:Aq}(hp:At4 p=true)(ha:p.1=(l.getD k Aw).1):Ah4 (List.set l k p):=by
 refine⟨by rw[ae1];exact h.1,fun i hi=>?_⟩
 rw[ae1] at hi
 have hx:∀ j,((List.set l k p).getD j Aw).1=(l.getD j Aw).1:=fun j=>by
  rw[Bqp hk]
  by_cases q:j=k
  ·rw[aa0 q,ha,q]
  ·rw[aa1 q]
 refine⟨?_,fun h0=>?_⟩
 ·rw[Bqp hk]
  by_cases q:i=k
  ·rw[aa0 q];exact hp
  ·rw[aa1 q];exact (h.2 i hi).1
 ·rw[hx,hx];exact (h.2 i hi).2 h0
theorem Aco.set{l:List Aq}(h:Aco l){k:Nat}{p:Aq}(hp:Ni p):Aco (List.set l k p):=fun q hq=>by
 rcases am5 hq with hq|hq
 ·exact h q hq
 ·rw[hq];exact hp
theorem Bna(l:List Aq)(a:Int):(pins l a).length=l.length+1:=by
 have:=Bf6 a l
 unfold pins
 simp
 omega
theorem Bqq{l:List Aq}{a:Int}(i:Nat):(pins l a).getD i Aw=if i<Q7 l a then l.getD i Aw else if i=Q7 l a then Bld a else l.getD (i-1) Aw:=by
 have hc:=Bf6 a l
 unfold pins
 by_cases h1:i<Q7 l a
 ·rw[aa0 h1,aa2,ag9 (by simp;omega),af4,aa0 h1,← aa2]
 ·rw[aa1 h1,aa2,af5 (by simp;omega)]
  have:(l.take (Q7 l a)).length=Q7 l a:=by simp;omega
  rw[this]
  by_cases h2:i=Q7 l a
  ·rw[aa0 h2,h2,ak2];rfl
  ·rw[aa1 h2]
   obtain⟨m,hm⟩:∃ m,i-Q7 l a=m+1:=⟨i-Q7 l a-1,by omega⟩
   rw[hm,al3,ai2,show Q7 l a+m=i-1 by omega,← aa2]
theorem Ah4.pins{l:List Aq}(h:Ah4 l){a:Int}(ha:a≠0)(bm:∀ i,i<l.length→(l.getD i Aw).1≠a)(hl:l.length≠64):Ah4 (pins l a):=by
 have wz:=h.1
 have hc:=Bf6 a l
 refine⟨by rw[Bna];omega,fun i hi=>?_⟩
 rw[Bna] at hi
 unfold Bpp
 rw[Bqq,Bqq]
 by_cases h1:i<Q7 l a
 ·rw[aa0 h1,aa0 (by omega)]
  exact h.2 i (by omega)
 rw[aa1 h1]
 by_cases h2:i=Q7 l a
 ·rw[aa0 h2]
  refine⟨?_,fun h0=>?_⟩
  ·rw[show Bld a=(a,At 0,At 0,At 0,At 0,(0:Int),()) from rfl,Aye]
   simp[ha]
  ·rw[aa0 (by omega)]
   exact Bqf (l:=l) (a:=a) (i-1) (by omega)
 ·rw[aa1 h2]
  refine⟨(h.2 (i-1) (by omega)).1,fun h0=>?_⟩
  rw[aa1 (by omega)]
  by_cases h3:i-1=Q7 l a
  ·rw[aa0 h3]
   show a<_
   have q1:=Br9 (l:=l) (a:=a) (by omega)
   rw[h3]
   have q2:=bm (Q7 l a) (by omega)
   omega
  ·rw[aa1 h3]
   exact (h.2 (i-1) (by omega)).2 (by omega)
theorem Aco.pins{l:List Aq}(h:Aco l){a:Int}(ha:B2 a):Aco (pins l a):=fun q hq=>by
 unfold Go.Pon.pins at hq
 rcases ad9.1 hq with hq|hq
 ·exact h q (ah7 hq)
 ·rcases aa9.1 hq with hq|hq
  ·rw[hq];exact Coy ha
  ·exact h q (an2 hq)
def Bdu(p:Aq):Bool:=!(Yu (.arr 4 (.int .u64)) p.2.1 [(0:Int),0,0,0])
abbrev tyP:Ty:=(Ty.int IntKind.u64).pair ((Ty.arr 4 (Ty.int IntKind.u64)).pair ((Ty.arr 4 (Ty.int IntKind.u64)).pair ((Ty.arr 4 (Ty.int IntKind.u64)).pair ((Ty.arr 4 (Ty.int IntKind.u64)).pair ((Ty.int IntKind.u64).pair Ty.unit)))))
theorem Bok{n:Nat}(h:n≤1000000):A8 n tyP=true:=by
 rw[Aeu,ac4]
 exact⟨by decide,by simp only[Ty.size];omega⟩
theorem Bsj:(((0:Int),[(0:Int),0,0,0],[(0:Int),0,0,0],[(0:Int),0,0,0],[(0:Int),0,0,0],(0:Int),()):Aq)=Aw:=rfl
theorem By2{l out:List Aq}{i:Nat}{again0:(List Aq×List Aq×Int×Unit)→Option ((List Aq×Unit)×Unit×Unit)}(hl:l.length≤100000)(ho:out.length≤100000)(hi:i<l.length) :
  ∃ o:List Aq,o.Perm (l.getD i Aw::out) ∧
   Ac _ _ (fun aa x=>Aab again0 aa x.1 x.2.1 x.2.2.1 x.2.2.2.1) (l,out,(i:Int),(out.length:Int),())=again0 (l,o,((i+1:Nat):Int),()):=by
 refine Ci (I:=fun x=>∃ k:Nat,k≤out.length∧x=(l,out,(i:Int),(k:Int),())) (m:=fun x=>x.2.2.2.1.toNat)
  (P:=fun r=>∃ o:List Aq,o.Perm (l.getD i Aw::out)∧r=again0 (l,o,((i+1:Nat):Int),())) ?_ ⟨out.length,ab4 _,rfl⟩ (by simp only[Au];omega)
 rintro x aa ⟨k,hk,rfl⟩ hag
 simp only at hag ⊢
 unfold Aab
 rw[Bsj]
 simp only[Am,Bx]
 have hA:decide ((k:Int)=(k:Int))=true:=aa7 rfl
 have hq:(decide ((0:Int)≤(k:Int))&&decide ((k:Int)≤(out.length:Int)))=true:=by
  rw[aa7 (show (0:Int)≤(k:Int) by omega),aa7 (show (k:Int)≤(out.length:Int) by omega)];rfl
 have hiR:Cj (i:Int) l.length=true:=by
  unfold Cj
  rw[aa7 (show (0:Int)≤(i:Int) by omega),aa7 (show (i:Int)<(l.length:Int) by omega)];rfl
 have wi:IntKind.wrap .i64 ((i:Int)+1)=((i+1:Nat):Int):=by rw[Ar (by omega) (by omega)];omega
 have l13:(List.take (out.length-(k:Int).toNat) (List.drop (k:Int).toNat out))=out.drop k:=by
  rw[aa3,aa8 (by rw[ac0];omega)]
 have l12:(List.take ((k:Int).toNat-0) (List.drop 0 out))=out.take k:=by rw[aa3];rfl
 have mw:A8 (1+(out.drop k).length) tyP=true:=Bok (by rw[ac0];omega)
 have hr2:(decide (0<([l.getD i Aw]++out.drop k).length)&&A8 ((out.take k).length+([l.getD i Aw]++out.drop k).length) tyP)=true:=by
  have e:([l.getD i Aw]++out.drop k).length=1+(out.length-k):=by rw[aa4,ac0];rfl
  rw[e,aa7 (show 0<1+(out.length-k) by omega),Bok (by rw[ab2];omega)];rfl
 have bc:(out.take k++([l.getD i Aw]++out.drop k)).Perm (l.getD i Aw::out):=by
  have:=List.perm_middle (a:=l.getD i Aw) (l₁:=out.take k) (l₂:=out.drop k)
  rw[ad7] at this
  exact this
 have ins:∃ o:List Aq,o.Perm (l.getD i Aw::out)∧again0 (l,out.take k++([l.getD i Aw]++out.drop k),((i+1:Nat):Int),())=again0 (l,o,((i+1:Nat):Int),()):=⟨_,bc,rfl⟩
 rw[l13,l12,wi]
 simp only[aa3,hA,hq,hiR,mw,hr2,Ap]
 rw[Ad]
 by_cases c:(k:Int)>0
 ·have wk:IntKind.wrap .i64 ((k:Int)-1)=((k-1:Nat):Int):=by rw[Ar (by omega) (by omega)];omega
  have hkR:Cj ((k-1:Nat):Int) out.length=true:=by
   unfold Cj
   rw[aa7 (show (0:Int)≤((k-1:Nat):Int) by omega),aa7 (show ((k-1:Nat):Int)<(out.length:Int) by omega)];rfl
  have dw:=hag (l,out,(i:Int),((k-1:Nat):Int),()) ⟨k-1,by omega,rfl⟩ (by simp only;omega)
  rw[aa0 c,wk]
  simp only[hkR,Ap]
  rw[Ad,Ad,Ad]
  split
  ·exact dw
  ·split
   ·split
    ·exact dw
    ·exact ins
   ·exact ins
 ·rw[aa1 c]
  exact ins
theorem Cck{l:List Aq}(hl:l.length≤100000):∃ o:List Aq,o.Perm (l.filter Bdu)∧T7 (l,())=some ((o,()),(),()):=by
 unfold T7 Agc
 refine Ci (I:=fun x=>∃ (i:Nat) (out:List Aq),i≤l.length∧out.Perm ((l.take i).filter Bdu)∧x=(l,out,(i:Int),())) (m:=fun x=>((l.length:Int)-x.2.2.1).toNat)
  (P:=fun r=>∃ o:List Aq,o.Perm (l.filter Bdu)∧r=some ((o,()),(),())) ?_ ⟨0,[],by omega,ad5 _,rfl⟩ (by simp only[Au];omega)
 rintro x aa ⟨i,out,hi,hp,rfl⟩ hag
 simp only at hag ⊢
 unfold Ak0
 rw[Bsj]
 simp only[Am]
 have i7:out.length≤l.length:=by
  have h1:=hp.length_eq
  have h2:=List.length_filter_le Bdu (l.take i)
  rw[ab2] at h2
  omega
 rw[Ad]
 by_cases c:(i:Int)<(l.length:Int)
 ·have ht:(l.take (i+1)).filter Bdu=(l.take i).filter Bdu++(if Bdu (l.getD i Aw)=true then [l.getD i Aw] else []):=by
   rw[Of (d:=Aw) (by omega),List.filter_append]
   congr 1
   by_cases h:Bdu (l.getD i Aw)=true
   ·rw[aa0 h,List.filter_cons,aa0 h];rfl
   ·rw[aa1 h,List.filter_cons,aa1 h];rfl
  rw[aa0 c,Ao,aa0 (by omega),aa3,Ar (by omega) (by omega)]
  cases hd:Yu (.arr 4 (.int .u64)) (l.getD i Aw).2.1 [(0:Int),0,0,0] with
  | true =>
   have hb:Bdu (l.getD i Aw)=false:=by unfold Bdu;rw[hd];rfl
   rw[hb,aa1 (by decide),ah9] at ht
   rw[Ap]
   exact hag _ ⟨i+1,out,by omega,by rw[ht];exact hp,by rw[ab0];rfl⟩ (by simp only;omega)
  | false =>
   have hb:Bdu (l.getD i Aw)=true:=by unfold Bdu;rw[hd];rfl
   rw[hb,aa0 rfl] at ht
   rw[Bn]
   obtain⟨o,o1,e⟩:=By2 (again0:=aa) (out:=out) hl (by omega) (show i<l.length by omega)
   rw[e]
   exact hag _ ⟨i+1,o,by omega,by rw[ht];exact o1.trans ((List.Perm.cons _ hp).trans (List.perm_append_singleton _ _).symm),rfl⟩ (by simp only;omega)
 ·rw[aa1 c]
  rw[aa8 (by omega)] at hp
  exact⟨out,hp,rfl⟩
def Az5(ps:List Bl):Prop:=∀ x∈ps,Alu x∧x.1≠0∧0<D8 x.2.1
theorem Ni.addr{p:Aq}(h:Ni p):B2 p.1:=by cases h;assumption
theorem Ni.since{p:Aq}(h:Ni p):B2 p.2.2.2.2.2.1:=by cases h;assumption
theorem Cfs{p:Aq}(h:Ni p):Bdu p=true↔Bl6 p≠0:=by
 obtain⟨e,hb⟩:=Bba h
 unfold Bdu
 rw[e,← Bpg,Asg]
 simp
theorem Ah4.good{l:List Aq}(h:Ah4 l){p:Aq}(hp:p∈l):At4 p=true:=by
 obtain⟨i,hi,rfl⟩:=ao0 hp
 have:=(h.2 i hi).1
 rwa [aa2,aa6 hi] at this
theorem Ceb{p:Aq}(h:At4 p=true):p.1≠0:=by
 unfold At4 at h
 simp only[aa5,ac4] at h
 exact h.1
theorem Cis{l:List Aq}(ha:Aco l)(hv:Ah4 l){fg:Nat}(hp:Al fg) :
  ∃ ps:List Bl,Zn (l,At fg,())=some ((ps,(0:Int),()),(),(),())∧Az5 ps∧Apd ps≤fg∧ps.length≤64:=by
 have hl:=hv.1
 obtain⟨o,ho,e⟩:=Cck (l:=l) (by omega)
 have i7:o.length≤64:=by
  have h1:=ho.length_eq
  have h2:=List.length_filter_le Bdu l
  omega
 have hom:∀ x∈o,Ni x∧x.1≠0∧Bl6 x≠0:=fun x hx=>by
  have:=List.mem_filter.1 (ho.mem_iff.1 hx)
  exact⟨ha x this.1,Ceb (hv.good this.1),(Cfs (ha x this.1)).1 this.2⟩
 unfold Zn An4
 try dsimp only
 rw[Mj ha (by omega),Aa,Ro.2 hv]
 dsimp only
 rw[An,Ap,e,Aa,Cd hp,Aa]
 dsimp only
 refine Ci (I:=fun y=>∃ (i:Nat) (out:List Bl) (left:Nat),i≤o.length∧out.length=i∧Az5 out∧Apd out+left=fg∧y=(out,o,dg left,(i:Int),())) (m:=fun y=>(((o.length:Nat):Int)-y.2.2.2.1).toNat)
  (P:=fun r=>∃ ps:List Bl,r=some ((ps,(0:Int),()),(),(),())∧Az5 ps∧Apd ps≤fg∧ps.length≤64) ?_ ⟨0,[],fg,by omega,rfl,(fun x hx=>by cases hx),by rw[Bao,af1],rfl⟩ (by simp only[Au];omega)
 rintro y aa ⟨i,out,left,hi,ag,hg,de,rfl⟩ hag
 simp only at hag ⊢
 unfold Aou
 rw[Bsj,Am,Ad]
 have cg:∃ ps:List Bl,some ((out,(0:Int),()),(),(),())=some ((ps,(0:Int),()),(),(),())∧Az5 ps∧Apd ps≤fg∧ps.length≤64:=⟨out,rfl,hg,by omega,by omega⟩
 by_cases c:(i:Int)<((o.length:Nat):Int)
 case neg=>rw[aa1 c];exact cg
 rw[aa0 c,Ad]
 by_cases c2:(((List.length (dg left)):Nat):Int)>0
 case neg=>rw[aa1 c2];exact cg
 have s8:left≠0:=Bcq.1 c2
 unfold Al at hp
 have hm:o.getD i Aw∈o:=B3 (by omega)
 obtain⟨hw,hz,hd⟩:=hom _ hm
 obtain⟨ed,yx⟩:=Bba hw
 have l1:=Nf (n:=left) (by unfold Al;omega)
 have l2:=Nf (n:=Bl6 (o.getD i Aw)) yx
 have yy:B2 (o.getD i Aw).1:=hw.addr
 rw[aa0 c2,Ao,aa0 (by omega),aa3,ed,Cd yx,Aa]
 dsimp only
 generalize Bl6 (o.getD i Aw)=d at *
 have il:min left d≤left∧min left d≤d∧0<min left d:=⟨Nat.min_le_left _ _,as6 _ _,by omega⟩
 rw[Bg0 (by omega) (by omega),Aa]
 dsimp only
 generalize min left d=n at *
 rw[Ao,aa0 (by omega),Uo (by omega),Aa,Bs6 (by omega),Ap,Lp (A:=left) (B:=n) (D:=left-n) (by omega) (by omega),Aa,Ar (by omega) (by omega)]
 dsimp only
 refine hag _ ⟨i+1,out++[((o.getD i Aw).1,At n,())],left-n,by omega,by rw[aa4,ag];rfl,fun x hx=>?_,?_,by rw[ab0];rfl⟩ (by simp only;omega)
 ·rcases ad9.1 hx with hx|hx
  ·exact hg x hx
  ·obtain rfl:=ac3.1 hx
   exact⟨Alu.mk yy (by unfold Al;omega),hz,by rw[Bi];exact il.2.2⟩
 ·rw[Bik,Brv,Bao,Bi]
  omega
theorem Btq{x:Bl}(h:Alu x):x.2.1=At (D8 x.2.1)∧Al (D8 x.2.1):=by
 cases h with
 | mk ha hb=>dsimp only;rw[Bi];exact⟨rfl,hb⟩
theorem Bq7{l:List Bl}{i:Nat}(h:i<l.length):Apd (l.take (i+1))=Apd (l.take i)+D8 (l.getD i F7).2.1:=by
 rw[Of (d:=F7) h,Bik,Brv,Bao,af6]
theorem Bqv{l:List Bl}(h:∀ x∈l,Alu x)(hl:l.length≤100000):Rm (l,())=some ((if Apd l<115792089237316195423570985008687907853269984665640564039457584007913129639936 then (At (Apd l),(0:Int),()) else ([(0:Int),0,0,0],(4:Int),())),(),()):=by
 have jj:∀ i,i≤l.length→Apd (l.take i)≤115792089237316195423570985008687907853269984665640564039457584007913129639936*i:=by
  intro i
  induction i with
  | zero=>intro _;rw[ag1,Bao];exact ac2 _
  | succ i ih =>
   intro hi
   have:=ih (by omega)
   have hx:=(Btq (h _ (B3 (d:=F7) (show i<l.length by omega)))).2
   unfold Al at hx
   rw[Bq7 (by omega),Nat.mul_succ]
   exact ar9 this (au3 hx)
 unfold Rm Arm
 refine Ai (I:=fun y=>∃ i:Nat,i≤l.length∧y=(l,z4,dg (Apd (l.take i)),((i:Nat):Int),())) (m:=fun y=>(((l.length:Nat):Int)-y.2.2.2.1).toNat)
  (g:=fun _=>some ((if Apd l<115792089237316195423570985008687907853269984665640564039457584007913129639936 then (At (Apd l),(0:Int),()) else ([(0:Int),0,0,0],(4:Int),())),(),())) ?_ ⟨0,by omega,by rw[ag1,Bao,Bfu];rfl⟩ (by simp only[Au];omega)
 rintro y aa ⟨i,hi,rfl⟩ hag
 simp only at hag ⊢
 unfold Ar8
 rw[Am,Ad]
 by_cases c:((i:Nat):Int)<((l.length:Nat):Int)
 ·obtain⟨e1,hb⟩:=Btq (h _ (B3 (d:=F7) (show i<l.length by omega)))
  have ci:=Bq7 (l:=l) (i:=i) (by omega)
  have hs:=jj i hi
  rw[aa0 c,Ao,aa0 (by omega),aa3,e1,Cd hb,Aa]
  dsimp only
  have l1:=Nf hb
  have l2:(dg (Apd (l.take i))).length≤20:=Boo (by
   refine ai6 hs ?_
   have:115792089237316195423570985008687907853269984665640564039457584007913129639936*i≤115792089237316195423570985008687907853269984665640564039457584007913129639936*100000:=ae8 _ (by omega)
   refine ai6 this ?_
   decide)
  rw[Cy (by omega) (by omega),Aa,← ci,Ar (by omega) (by omega)]
  exact hag _ ⟨i+1,by omega,by rw[ab0];rfl⟩ (by simp only;omega)
 ·obtain rfl:i=l.length:=by omega
  rw[aa1 c,ah8,Zj,Aa]
def Akz(l:List Aq)(R:Int):Prop:=∀ p∈l,p.2.2.2.2.2.1≤R
theorem Akz.set{l:List Aq}{R:Int}(h:Akz l R){k:Nat}{p:Aq}(hp:p.2.2.2.2.2.1≤R):Akz (List.set l k p) R:=fun q hq=>by
 rcases am5 hq with hq|hq
 ·exact h q hq
 ·rw[hq];exact hp
theorem Bv6{a:Int}{d c r pd n:Nat}{s:Int}(h:At4 (a,At d,At c,At r,At pd,s,())=true)(hf:n≤d):At4 (a,At (d-n),At c,At r,At (pd+n),(if d-n=0 then (0:Int) else s),())=true:=by
 rw[Aye] at h ⊢
 simp only[aa5,ac4] at h ⊢
 obtain⟨h1,h2,h3⟩:=h
 refine⟨h1,by omega,?_⟩
 split
 ·simp;assumption
 ·rename_i bm
  constructor
  ·intro hs;have:=h3.1 hs;omega
  ·intro hx;omega
theorem Ccd{l:List Aq}(ha:Aco l)(hv:Ah4 l){R:Int}(hR:Akz l R)(hR0:0≤R){a:Int}{n:Nat}(hn:Al n) :
  ∃ (o:List Aq) (c:Int),F6 (l,a,At n,())=some ((o,c,()),(),(),(),())∧I64 c∧(c=0→Aco o∧Ah4 o∧Akz o R):=by
 have hl:=hv.1
 obtain⟨y,hy,_⟩:=Bjl (a:=a) ha (by omega) hn
 rw[Byo ha (by omega) hn hy]
 cases hy with
 | invalid h=>exact⟨_,_,rfl,⟨by omega,by omega⟩,fun h=>by omega⟩
 | absent h1 h=>exact⟨_,_,rfl,⟨by omega,by omega⟩,fun h=>by omega⟩
 | funds h1 k hk h d c r pd s hp hd hf=>exact⟨_,_,rfl,⟨by omega,by omega⟩,fun h=>by omega⟩
 | over h1 k hk h d c r pd s hp hd gh hf ho=>exact⟨_,_,rfl,⟨by omega,by omega⟩,fun h=>by omega⟩
 | done h1 k hk h d c r pd s hp hd hc hr gh hf ho =>
  have hm:l.getD k Aw∈l:=B3 hk
  have hg:=hv.good hm
  have hw:=ha _ hm
  have hs:=hR _ hm
  rw[hp] at hg hs
  have hw2:B2 (l.getD k Aw).1∧B2 s:=by
   refine⟨hw.addr,?_⟩
   have:=hw.since
   rw[hp] at this
   exact this
  refine⟨_,_,rfl,⟨by omega,by omega⟩,fun _=>⟨ha.set (Ni.mk hw2.1 (by unfold Al at *;omega) hc hr ho ?_),hv.set hk (Bv6 hg hf) rfl,hR.set ?_⟩⟩
  ·split
   ·exact⟨by omega,by omega⟩
   ·exact hw2.2
  ·dsimp only at hs ⊢
   split
   ·exact hR0
   ·exact hs
theorem Cfh{l:List Aq}(ha:Aco l)(hv:Ah4 l){R:Int}(hR:Akz l R)(hR0:0≤R){ps:List Bl}(hp:∀ x∈ps,Alu x)(gf:ps.length≤100000) :
  ∃ (o:List Aq) (c:Int),Vv (l,ps,())=some ((o,c,()),(),(),())∧I64 c∧(c=0→Aco o∧Ah4 o∧Akz o R):=by
 unfold Vv Akh
 try dsimp only
 have hl:=hv.1
 rw[Bok (by omega),Ap]
 refine Ci (I:=fun y=>∃ (i:Nat) (o:List Aq),i≤ps.length∧Aco o∧Ah4 o∧Akz o R∧y=(ps,o,(i:Int),())) (m:=fun y=>(((ps.length:Nat):Int)-y.2.2.1).toNat)
  (P:=fun r=>∃ (o:List Aq) (c:Int),r=some ((o,c,()),(),(),())∧I64 c∧(c=0→Aco o∧Ah4 o∧Akz o R)) ?_ ⟨0,l,by omega,ha,hv,hR,rfl⟩ (by simp only[Au];omega)
 rintro y aa ⟨i,o,hi,q1,q2,q3,rfl⟩ hag
 simp only at hag ⊢
 unfold Amj
 rw[Am,Ad]
 by_cases c:(i:Int)<((ps.length:Nat):Int)
 ·obtain⟨e1,hb⟩:=Btq (hp _ (B3 (d:=F7) (show i<ps.length by omega)))
  obtain⟨o2,c2,e2,r1,r2⟩:=Ccd q1 q2 q3 hR0 (a:=(ps.getD i F7).1) hb
  rw[aa0 c,Ao,aa0 (by omega),Ao,aa0 (by omega),aa3,e1,e2,Aa]
  dsimp only
  rw[An,Ad]
  by_cases qu:c2=0
  ·obtain⟨s1,s2,s3⟩:=r2 qu
   rw[aa0 qu,Ar (by omega) (by omega)]
   exact hag _ ⟨i+1,o2,by omega,s1,s2,s3,by rw[ab0];rfl⟩ (by simp only;omega)
  ·rw[aa1 qu]
   exact⟨_,_,rfl,r1,fun h=>absurd h qu⟩
 ·rw[aa1 c]
  exact⟨_,_,rfl,⟨by omega,by omega⟩,fun _=>⟨q1,q2,q3⟩⟩
abbrev Ux:=List Int×(Int×Int×Int×Akv×List Aq×Unit)
abbrev Cl1:Ux:=(z4,(0:Int),(0:Int),(0:Int),(false,z4,()),([]:List Aq),())
structure Al5(s:Ux):Prop where
 up:∃ n,s.1=At n∧Al n
 un:B2 s.2.1
 lu:B2 s.2.2.1
 re:B2 s.2.2.2.1
 su:Ax6 s.2.2.2.2.1
 ps:Aco s.2.2.2.2.2.1
 len:s.2.2.2.2.2.1.length≤100000
def Ber(s:Akv):Prop:=(s.1&&decide (D8 s.2.1=0))=false
instance(s:Akv):Decidable (Ber s):=by unfold Ber;infer_instance
structure PRV(s:Ux):Prop where
 ps:Ah4 s.2.2.2.2.2.1
 su:Ber s.2.2.2.2.1
 si:Akz s.2.2.2.2.2.1 s.2.2.2.1
theorem Bwa{s:Akv}(h:Ax6 s):Ef (s,())=some ((decide (Ber s),()),(),()):=by
 cases h with
 | mk hb =>
  rename_i g n
  have e:(!(g&&decide (n=0)))=decide (Ber (g,At n,())):=by
   rw[an7,decide_eq_true_iff]
   unfold Ber
   try dsimp only
   rw[Bi]
   cases g<;>by_cases hn:n=0<;>simp[hn]
  rw[Aoj,e]
open Classical in
theorem Bue{s:Ux}(h:Al5 s):G9 (s,())=some ((decide (PRV s),()),(),()):=by
 have hl:=h.len
 unfold G9 Akj
 rw[Mj h.ps (by omega),Aa,An]
 by_cases hv:Ah4 s.2.2.2.2.2.1
 case neg =>
  rw[Ah3 hv,ab5 (fun h'=>hv h'.ps)]
  rfl
 rw[Ro.2 hv,Ap,Bwa h.su,Aa,An,Ad]
 by_cases hs:Ber s.2.2.2.2.1
 case neg=>rw[aa1 hs,ab5 (fun h'=>hs h'.su)]
 rw[aa0 hs]
 refine Ai (I:=fun y=>∃ i:Nat,i≤s.2.2.2.2.2.1.length∧(∀ j,j<i→(s.2.2.2.2.2.1.getD j Aw).2.2.2.2.2.1≤s.2.2.2.1)∧y=(s,(i:Int),())) (m:=fun y=>((s.2.2.2.2.2.1.length:Int)-y.2.1).toNat)
  (g:=fun _=>some ((decide (PRV s),()),(),())) ?_ ⟨0,ac2 _,fun j hj=>by omega,rfl⟩ (by rw[Au];simp only;omega)
 rintro y aa ⟨i,hi,eh,rfl⟩ hag
 simp only at hag ⊢
 unfold Amt
 rw[Bsj,Am,Ad]
 by_cases c:(i:Int)<(s.2.2.2.2.2.1.length:Int)
 ·rw[aa0 c,Ao,aa0 (by omega),aa3,Ad]
  by_cases c2:(s.2.2.2.2.2.1.getD i Aw).2.2.2.2.2.1>s.2.2.2.1
  ·rw[aa0 c2,ab5 (fun h'=>by
    have:=h'.si _ (B3 (l:=s.2.2.2.2.2.1) (d:=Aw) (show i<s.2.2.2.2.2.1.length by omega))
    omega)]
  ·rw[aa1 c2,Ar (by omega) (by omega)]
   refine hag _ ⟨i+1,by omega,fun j hj=>?_,by rw[ab0];rfl⟩ (by simp only;omega)
   rcases ad3 j i with q|q
   ·exact eh j q
   ·obtain rfl:j=i:=by omega
    omega
 ·rw[aa1 c,aa7]
  refine⟨hv,hs,fun p hp=>?_⟩
  obtain⟨j,hj,rfl⟩:=ao0 hp
  have:=eh j (by omega)
  rwa [aa2,aa6 hj] at this
open Classical in
theorem As4{s:Ux}(h:Al5 s)(hv:PRV s):G9 (s,())=some ((true,()),(),()):=by
 rw[Bue h,aa7 hv]
theorem Bw4{s:Ux}(h:Al5 s)(hv:PRV s){u:Int}(hu:B2 u) :
  ∃ (q:Ux) (c:Int),N7 (s,u,())=some ((q,c,()),(),(),())∧I64 c∧(c=0→Al5 q∧PRV q∧q.2.2.1=s.2.2.1):=by
 have hl:=hv.ps.1
 unfold N7 Aal
 rw[Am]
 dsimp only
 rw[As4 h hv,Aa]
 dsimp only
 rw[An,Ap,Ad]
 by_cases c:IntKind.wrap .u64 (s.2.1+u)<u
 ·rw[aa0 c];exact⟨_,_,rfl,⟨by omega,by omega⟩,fun h=>by omega⟩
 ·rw[aa1 c,Go.Pon.roomyP (by omega),Ap]
  exact⟨_,_,rfl,⟨by omega,by omega⟩,fun _=>⟨⟨h.up,Kx _,h.lu,h.re,h.su,h.ps,h.len⟩,⟨hv.ps,hv.su,hv.si⟩,rfl⟩⟩
theorem Akz.pins{l:List Aq}{R:Int}(h:Akz l R)(h0:0≤R)(a:Int):Akz (pins l a) R:=fun q hq=>by
 unfold Go.Pon.pins at hq
 rcases ad9.1 hq with hq|hq
 ·exact h q (ah7 hq)
 ·rcases aa9.1 hq with hq|hq
  ·rw[hq];exact h0
  ·exact h q (an2 hq)
theorem Bsv{s:Ux}(h:Al5 s)(hv:PRV s){a:Int}(ha:B2 a) :
  ∃ (q:Ux) (c:Int),My (s,a,())=some ((q,c,()),(),(),())∧I64 c∧(c=0→Al5 q∧PRV q∧q.2.2.1=s.2.2.1):=by
 have hl:=hv.ps.1
 have ek:=h.re
 unfold B2 at ek
 unfold My X0
 try dsimp only
 rw[As4 h hv,Aa]
 dsimp only
 rw[An,Ap,Cjf h.ps (by omega),Aa]
 have key:∀ c:Int,I64 c→c≠0→∃ (q:Ux) (c':Int),some (((Cl1,c,()),(),(),()))=some ((q,c',()),(),(),())∧I64 c'∧(c'=0→Al5 q∧PRV q∧q.2.2.1=s.2.2.1) :=
  fun c h1 h2=>⟨_,_,rfl,h1,fun h=>absurd h h2⟩
 unfold Cm4
 rw[aa0 (Ro.2 hv.ps)]
 by_cases c1:a=0
 ·rw[aa0 c1];exact key 2 ⟨by omega,by omega⟩ (by omega)
 rw[aa1 c1]
 by_cases c2:Abj s.2.2.2.2.2.1 a≥0
 ·rw[aa0 c2];exact key 9 ⟨by omega,by omega⟩ (by omega)
 rw[aa1 c2]
 by_cases c3:s.2.2.2.2.2.1.length=64
 ·rw[aa0 c3];exact key 7 ⟨by omega,by omega⟩ (by omega)
 rw[aa1 c3]
 dsimp only
 rw[aa7 rfl,An,Ap]
 have bm:∀ i,i<s.2.2.2.2.2.1.length→(s.2.2.2.2.2.1.getD i Aw).1≠a:=by
  rcases Av9 s.2.2.2.2.2.1 a with⟨_,h2⟩ | ⟨j,hj,h1,h2⟩
  ·exact h2
  ·exact absurd (by rw[h1];omega) c2
 exact⟨_,_,rfl,⟨by omega,by omega⟩,fun _=>⟨⟨h.up,h.un,h.lu,h.re,h.su,h.ps.pins ha,by dsimp only;rw[Bna];omega⟩,⟨hv.ps.pins c1 bm c3,hv.su,hv.si.pins ek.1 a⟩,rfl⟩⟩
theorem Cdt{n:Nat}:∃ b:Int,Wf (At n,())=some ((b,()),(),()):=by
 unfold Wf Ako
 refine Ci (I:=fun y=>∃ (i:Nat) (b:Int),i≤256∧y=(At n,b,(i:Int),())) (m:=fun y=>((256:Int)-y.2.2.1).toNat)
  (P:=fun r=>∃ b:Int,r=some ((b,()),(),())) ?_ ⟨0,0,by omega,rfl⟩ (by simp only[Au];omega)
 rintro y aa ⟨i,b,hi,rfl⟩ hag
 simp only at hag ⊢
 unfold Amz
 rw[Am,Ad]
 by_cases c:(i:Int)<256
 ·have e1:Int.tdiv (i:Int) 64=((i / 64:Nat):Int):=by rw[ah3 (by omega)];omega
  have e2:Int.tmod (i:Int) 64=((i % 64:Nat):Int):=by rw[Ix (by omega)];omega
  rw[aa0 c,e1,e2,Ar (n:=((i / 64:Nat):Int)) (by omega) (by omega),Gt (n:=((i % 64:Nat):Int)) (by omega) (by omega),Ao,aa0 (by omega),Ad,aa0 (by omega),Ad,Ar (n:=(i:Int)+1) (by omega) (by omega)]
  split
  ·exact hag _ ⟨i+1,_,by omega,by rw[ab0];rfl⟩ (by simp only;omega)
  ·exact hag _ ⟨i+1,_,by omega,by rw[ab0];rfl⟩ (by simp only;omega)
 ·rw[aa1 c];exact⟨b,rfl⟩
abbrev Bzf:=Int×(Int×List Int×Unit)
inductive Bc8:Bzf→Prop
 | mk {f u:Int} {c:Nat} (h1:B2 f) (h2:B2 u) (h3:Al c):Bc8 (f,u,At c,())
theorem Ccc{s:Ux}(h:Al5 s)(hv:PRV s){p:J9}(hp:Uk p)(yz:PV p){r:Bzf}(hr:Bc8 r){now:Int} :
  ∃ c:Int,Vt (s,p,r,now,())=some ((c,()),(),(),(),(),())∧I64 c∧(c=0→s.2.2.1≤r.2.1∧r.2.1≤now):=by
 have hl:=hv.ps.1
 cases hr with
 | mk h1 h2 h3 =>
 rename_i f u co
 have key:∀ c:Int,I64 c→c≠0→∃ c':Int,some (((c,()),(),(),(),(),()))=some ((c',()),(),(),(),(),())∧I64 c'∧(c'=0→s.2.2.1≤u∧u≤now) :=
  fun c h1 h2=>⟨_,rfl,h1,fun h=>absurd h h2⟩
 unfold Vt Akk
 try dsimp only
 rw[As4 h hv,Aa]
 dsimp only
 rw[An,Ap,Ad1 hp,Aa,aa7 yz]
 dsimp only
 rw[An,Ap,Ald (by omega),Aa]
 dsimp only
 rw[Ad]
 by_cases c1:Abj s.2.2.2.2.2.1 f<0
 ·rw[aa0 c1];exact key 8 ⟨by omega,by omega⟩ (by omega)
 rw[aa1 c1,Ad]
 by_cases c2:u<s.2.2.1
 ·rw[aa0 c2];exact key 14 ⟨by omega,by omega⟩ (by omega)
 rw[aa1 c2,Ad]
 by_cases c3:u>now
 ·rw[aa0 c3];exact key 14 ⟨by omega,by omega⟩ (by omega)
 obtain⟨b,eb⟩:=Cdt (n:=co)
 rw[aa1 c3,eb,Aa]
 dsimp only
 rw[Ad]
 by_cases c4:b>128
 ·rw[aa0 c4];exact key 2 ⟨by omega,by omega⟩ (by omega)
 ·rw[aa1 c4];exact⟨0,rfl,⟨by omega,by omega⟩,fun _=>⟨by omega,by omega⟩⟩
theorem Ccn{a b:Nat}(ha:Al a)(hb:Al b):∃ (n:Nat) (c:Int),We (At a,At b,())=some ((At n,c,()),(),(),())∧Al n∧I64 c:=by
 have l1:=Nf ha
 have l2:=Nf hb
 unfold We Ajd
 try dsimp only
 rw[Cd ha,Aa,Cd hb,Aa]
 dsimp only
 rw[Pp (by omega) (by omega),Aa]
 dsimp only
 rw[Zj,Aa]
 by_cases c:a*b<115792089237316195423570985008687907853269984665640564039457584007913129639936
 ·rw[aa0 c];exact⟨_,0,rfl,c,⟨by omega,by omega⟩⟩
 ·rw[aa1 c];exact⟨0,4,rfl,by unfold Al;omega,⟨by omega,by omega⟩⟩
theorem Bw7{a:Int}{d c r pd az aj:Nat}{s since:Int}(hs:since≠0)(h:At4 (a,At d,At c,At r,At pd,s,())=true) :
  At4 (a,At (d+(az+aj)),At (c+az),At (r+aj),At pd,(if d=0∧az+aj≠0 then since else s),())=true:=by
 rw[Aye] at h ⊢
 simp only[aa5,ac4] at h ⊢
 obtain⟨h1,h2,h3⟩:=h
 refine⟨h1,by omega,?_⟩
 split
 ·rename_i hc
  constructor
  ·intro hx;exact absurd hx hs
  ·intro hx;omega
 ·rename_i hc
  constructor
  ·intro hx;have:=h3.1 hx;omega
  ·intro hx;exact h3.2 (by omega)
theorem Cel{l:List Aq}(ha:Aco l)(hv:Ah4 l){R:Int}(hR:Akz l R)(hR0:0≤R)(hR1:R+1≤18446744073709551615){a:Int}{az aj:Nat}(hc:Al az)(hr:Al aj) :
  ∃ (o:List Aq) (c:Int),Fa (l,a,At az,At aj,R+1,())=some ((o,c,()),(),(),(),(),(),())∧I64 c∧(c=0→Aco o∧Ah4 o∧Akz o (R+1)):=by
 have hl:=hv.1
 obtain⟨y,hy,_⟩:=Bkd (a:=a) (since:=R+1) ha (by omega) hc hr
 rw[Bz2 ha (by omega) hc hr hy]
 cases hy with
 | invalid h=>exact⟨_,_,rfl,⟨by omega,by omega⟩,fun h=>by omega⟩
 | absent h1 h2 h=>exact⟨_,_,rfl,⟨by omega,by omega⟩,fun h=>by omega⟩
 | over h1 h2 k hk h d c r pd s hp hd hc' z6 nh=>exact⟨_,_,rfl,⟨by omega,by omega⟩,fun h=>by omega⟩
 | done h1 h2 k hk h d c r pd s hp hd hc' z6 gh h3 h4 h5 =>
  have hm:l.getD k Aw∈l:=B3 hk
  have hg:=hv.good hm
  have hw:=ha _ hm
  have hs:=hR _ hm
  have j0:=hw.since
  rw[hp] at hg hs j0
  dsimp only at hs j0
  have hR':Akz l (R+1):=fun p hp=>by have:=hR p hp;omega
  refine⟨_,_,rfl,⟨by omega,by omega⟩,fun _=>⟨ha.set (Ni.mk hw.addr h3 h4 h5 gh ?_),hv.set hk (Bw7 h2 hg) rfl,hR'.set ?_⟩⟩
  ·split
   ·exact⟨by omega,by omega⟩
   ·exact j0
  ·dsimp only
   split
   ·omega
   ·omega
abbrev Ckq:=Int×(List Int×List Bl×Unit)
abbrev Crg:Ckq:=((0:Int),z4,([]:List Bl),())
theorem Cdb{l:List Aq}(hv:Ah4 l):∃ (n:Nat) (c:Int),Bs9 l=(At n,c,())∧Al n∧I64 c:=by
 unfold Bs9
 rw[aa0 (Ro.2 hv)]
 by_cases h:Ax4 l<115792089237316195423570985008687907853269984665640564039457584007913129639936
 ·rw[aa0 h];exact⟨_,0,rfl,h,⟨by omega,by omega⟩⟩
 ·rw[aa1 h];exact⟨0,4,rfl,by unfold Al;omega,⟨by omega,by omega⟩⟩
def Cpe(s:Ux)(fg:Nat)(now:Int)(q:Ux)(t:Ckq)(c:Int):Prop :=
 I64 c∧(c=0→Al5 q∧PRV q∧q.2.2.1≤now∧B2 t.1∧(∃ n,t.2.1=At n∧Al n)∧Az5 t.2.2.1∧Apd t.2.2.1≤fg∧t.2.2.1.length≤64)
theorem Bzn{s:Ux}(h:Al5 s)(hv:PRV s){p:J9}(hp:Uk p)(yz:PV p){fg:Nat}(pp:Al fg){r:Bzf}(hr:Bc8 r){now:Int}(ax8:B2 now) :
  ∃ (q:Ux) (t:Ckq) (c:Int),Tu (s,p,At fg,r,now,())=some ((q,t,c,()),(),(),(),(),(),())∧Cpe s fg now q t c:=by
 have ek:=h.re
 have gf:=hv.ps.1
 have bad:∀ c:Int,I64 c→c≠0→∃ (q:Ux) (t:Ckq) (c':Int),some ((Cl1,Crg,c,()),(),(),(),(),(),())=some ((q,t,c',()),(),(),(),(),(),())∧Cpe s fg now q t c' :=
  fun c h1 h2=>⟨_,_,_,rfl,h1,fun h=>absurd h h2⟩
 obtain⟨c1,e1,k1,k2⟩:=Ccc h hv hp yz hr (now:=now)
 unfold Tu Agr
 rw[Am]
 dsimp only
 rw[e1,Aa]
 dsimp only
 rw[An,Ad]
 by_cases fw:c1=0
 case neg=>rw[aa1 fw];exact bad c1 k1 fw
 rw[aa0 fw]
 obtain⟨me,hnw⟩:=k2 fw
 clear e1 k1 k2
 cases hr with
 | mk r1 r2 r3 =>
 rename_i fr up co
 dsimp only at me hnw ⊢
 obtain⟨u,c2,e2,u1,_,_⟩:=Bu6 h.un h.lu r2 ax8
 have hrw:∃ n,p.2.2.2.2.2.2.2.1=At n∧Al n:=by cases hp;exact⟨_,rfl,by assumption⟩
 obtain⟨ep,erw,ax9⟩:=hrw
 have hu:=u1
 unfold B2 at hu
 obtain⟨rew,c3,e3,b3,_⟩:=Ccn (b:=u.toNat) ax9 (by unfold Al;omega)
 rw[e2,Aa,Am]
 dsimp only
 rw[erw,Aai hu.1 hu.2,e3,Aa]
 dsimp only
 rw[An,Ad]
 by_cases hc3:c3=0
 case neg=>rw[aa1 hc3];exact bad 4 ⟨by omega,by omega⟩ (by omega)
 rw[aa0 hc3,Ad]
 unfold B2 at ek
 by_cases nh:IntKind.wrap .u64 (s.2.2.2.1+1)=0
 case pos=>rw[aa0 nh];exact bad 4 ⟨by omega,by omega⟩ (by omega)
 have ar:s.2.2.2.1+1≤18446744073709551615:=by
  rw[am8] at nh
  omega
 rw[aa1 nh,Gt (by omega) ar]
 obtain⟨l1,c4,e4,_,a4⟩:=Cel h.ps hv.ps hv.si ek.1 ar (a:=fr) r3 b3
 rw[e4,Aa]
 dsimp only
 rw[An,Ad]
 by_cases hc4:c4=0
 case neg=>rw[aa1 hc4];exact bad 4 ⟨by omega,by omega⟩ (by omega)
 rw[aa0 hc4]
 obtain⟨w1,v1,s1⟩:=a4 hc4
 obtain⟨ps,e5,g1,g2,g3⟩:=Cis w1 v1 pp
 rw[e5,Aa]
 dsimp only
 have y4:∀ x∈ps,Alu x:=fun x hx=>(g1 x hx).1
 obtain⟨l2,c6,e6,_,a6⟩:=Cfh w1 v1 s1 (by omega) y4 (by omega)
 rw[e6,Aa]
 dsimp only
 rw[An,Ad]
 by_cases hc6:c6=0
 case neg=>rw[aa1 hc6];exact bad 4 ⟨by omega,by omega⟩ (by omega)
 rw[aa0 hc6]
 obtain⟨w2,v2,s2⟩:=a6 hc6
 have db:=v2.1
 unfold Al at pp
 rw[Bqv y4 (by omega),Aa,aa0 (by omega)]
 dsimp only
 rw[Aex pp (by omega),Aa,aa0 g2]
 dsimp only
 obtain⟨du,c7,e7,b7,_⟩:=Cdb v2
 rw[Cd4 w2 (by omega),Aa,e7]
 dsimp only
 rw[An,Ad]
 by_cases hc7:c7=0
 case neg=>rw[aa1 hc7];exact bad 4 ⟨by omega,by omega⟩ (by omega)
 rw[aa0 hc7]
 obtain⟨sg,e8,w8,v8⟩:=Cjz (a:=fg-Apd ps) (b:=du) (by unfold Al;omega) b7
 rw[e8,Aa]
 dsimp only
 rw[Ad]
 by_cases jb:u>0
 ·obtain⟨up',eup,m7⟩:=h.up
  obtain⟨np,c9,e9,b9,_⟩:=Cfq m7 w8 h.su u1 hp
  rw[aa0 jb,eup,e9,Aa]
  dsimp only
  rw[An,Ad]
  by_cases hc9:c9=0
  case neg=>rw[aa1 hc9];exact bad 4 ⟨by omega,by omega⟩ (by omega)
  rw[aa0 hc9]
  exact⟨_,_,0,rfl,⟨by omega,by omega⟩,fun _=>⟨⟨⟨np,rfl,b9⟩,Kx _,r2,⟨by dsimp only;omega,ar⟩,w8,w2,by dsimp only;omega⟩,⟨v2,v8,s2⟩,hnw,u1,⟨rew,rfl,b3⟩,g1,g2,g3⟩⟩
 ·rw[aa1 jb]
  exact⟨_,_,0,rfl,⟨by omega,by omega⟩,fun _=>⟨⟨h.up,Kx _,r2,⟨by dsimp only;omega,ar⟩,h.su,w2,by dsimp only;omega⟩,⟨v2,hv.su,s2⟩,hnw,u1,⟨rew,rfl,b3⟩,g1,g2,g3⟩⟩
theorem Bl1{b:List Int}{at_ d:Nat}(h1:at_≤b.length)(h2:1≤d)(h3:d≤at_)(hl:b.length≤1000000) :
  ∃ n:Nat,n≤131∧at_+n≤b.length∧Lt (b,(at_:Int),(d:Int),())=some (((n:Int),()),(),(),(),()):=by
 unfold Lt Vp
 refine Ci (I:=fun x=>∃ n:Nat,n≤131∧at_+n≤b.length∧x=(b,(at_:Int),(d:Int),(n:Int),())) (m:=fun x=>((131:Int)-x.2.2.2.1).toNat)
  (P:=fun r=>∃ n:Nat,n≤131∧at_+n≤b.length∧r=some (((n:Int),()),(),(),(),())) ?_ ⟨0,by omega,by omega,rfl⟩ (by simp only[Au];omega)
 rintro x aa ⟨n,hn,ha,rfl⟩ hag
 simp only at hag ⊢
 unfold Acf
 simp only[Am]
 have w1:IntKind.wrap .i64 ((at_:Int)+(n:Int))=((at_+n:Nat):Int):=by rw[Ar (by omega) (by omega)];omega
 have w2:IntKind.wrap .i64 (((at_+n:Nat):Int)-(d:Int))=((at_+n-d:Nat):Int):=by rw[Ar (by omega) (by omega)];omega
 have w3:IntKind.wrap .i64 ((n:Int)+1)=((n+1:Nat):Int):=by rw[Ar (by omega) (by omega)];omega
 rw[w1,w2,w3,Ad]
 by_cases c1:(n:Int)<131
 ·rw[aa0 c1,Ad]
  by_cases c2:((at_+n:Nat):Int)<(b.length:Int)
  ·rw[aa0 c2,Ao,aa0 (by omega),Ao,aa0 (by omega),Ad]
   by_cases c3:List.getD b ((at_+n:Nat):Int).toNat 0=List.getD b ((at_+n-d:Nat):Int).toNat 0
   ·rw[aa0 c3]
    exact hag _ ⟨n+1,by omega,by omega,rfl⟩ (by simp only;omega)
   ·rw[aa1 c3];exact⟨n,hn,ha,rfl⟩
  ·rw[aa1 c2];exact⟨n,hn,ha,rfl⟩
 ·rw[aa1 c1];exact⟨n,hn,ha,rfl⟩
theorem Cjp{b:List Int}{at_:Nat}(h1:at_≤b.length)(hl:b.length≤1000000) :
  ∃ n m8:Nat,n≤131∧at_+n≤b.length∧m8≤1024∧Aca (b,(at_:Int),())=some (((n:Int),(m8:Int),()),(),(),()):=by
 unfold Aca Asd
 refine Ci (I:=fun x=>∃ n m8 d:Nat,n≤131∧at_+n≤b.length∧m8≤1024∧1≤d∧d≤1025∧x=(b,(at_:Int),(n:Int),(m8:Int),(d:Int),())) (m:=fun x=>((1026:Int)-x.2.2.2.2.1).toNat)
  (P:=fun r=>∃ n m8:Nat,n≤131∧at_+n≤b.length∧m8≤1024∧r=some (((n:Int),(m8:Int),()),(),(),())) ?_ ⟨0,0,1,by omega,by omega,by omega,by omega,by omega,rfl⟩ (by simp only[Au];omega)
 rintro x aa ⟨n,m8,d,hn,ha,hf,hd,hd2,rfl⟩ hag
 simp only at hag ⊢
 unfold Ar4
 have w3:IntKind.wrap .i64 ((d:Int)+1)=((d+1:Nat):Int):=by rw[Ar (by omega) (by omega)];omega
 rw[Ad]
 by_cases c1:(d:Int)≤1024
 ·rw[aa0 c1,Ad]
  by_cases c2:(d:Int)≤(at_:Int)
  ·obtain⟨k,k1,k2,e⟩:=Bl1 (b:=b) (at_:=at_) (d:=d) h1 hd (by omega) hl
   rw[aa0 c2,e,Aa]
   dsimp only
   rw[w3,Ad]
   by_cases c3:(k:Int)>(n:Int)
   ·rw[aa0 c3]
    exact hag _ ⟨k,d,d+1,k1,k2,by omega,by omega,by omega,rfl⟩ (by simp only;omega)
   ·rw[aa1 c3]
    exact hag _ ⟨n,m8,d+1,hn,ha,hf,by omega,by omega,rfl⟩ (by simp only;omega)
  ·rw[aa1 c2];exact⟨n,m8,hn,ha,hf,rfl⟩
 ·rw[aa1 c1];exact⟨n,m8,hn,ha,hf,rfl⟩
theorem Bjc{out b:List Int}(ho:out.length≤10000000)(hl:b.length≤1000000) :
  ∃ o:List Int,o.length≤out.length+2*b.length∧Qh (out,b,())=some ((o,()),(),(),()):=by
 unfold Qh Adq
 refine Ci (I:=fun x=>∃ o c:List Int,o.length+2*c.length≤out.length+2*b.length∧c.length≤b.length∧x=(o,c,())) (m:=fun x=>x.2.1.length)
  (P:=fun r=>∃ o:List Int,o.length≤out.length+2*b.length∧r=some ((o,()),(),(),())) ?_ ⟨out,b,ab4 _,ab4 _,rfl⟩ (by rw[Au];exact ai6 hl (by decide))
 rintro x aa ⟨o,c,h1,h2,rfl⟩ hag
 simp only at hag ⊢
 unfold Ahp
 simp only[Am,Bx]
 rw[Ad]
 by_cases c1:(c.length:Int)>0
 ·rw[aa0 c1,Ad]
  by_cases c2:(c.length:Int)>127
  ·have l1:(List.take (127-0) (List.drop 0 c)).length=127:=by rw[ab2,ac0];omega
   have l2:(o++[(127:Int)]).length=o.length+1:=by rw[aa4];rfl
   have l3:(List.take (c.length-127) (List.drop 127 c)).length=c.length-127:=by rw[ab2,ac0];omega
   rw[aa0 c2,Dv (by omega),Ad,aa0 (by omega),l2,l1,Dv (by omega),Ad,aa0 (by omega)]
   generalize hz:List.take (c.length-127) (List.drop 127 c)=z at *
   generalize hy:o++[(127:Int)]++List.take (127-0) (List.drop 0 c)=y
   have hyl:y.length=o.length+128:=by rw[← hy,aa4,l2,l1]
   exact hag (y,z,()) ⟨y,z,by omega,by omega,rfl⟩ (by show z.length<c.length;omega)
  ·have l1:(List.take ((c.length:Int).toNat-0) (List.drop 0 c)).length=c.length:=by rw[aa3,ab2,ac0];omega
   have l2:∀ z:Int,(o++[z]).length=o.length+1:=fun z=>by rw[aa4];rfl
   have l3:(List.take (c.length-(c.length:Int).toNat) (List.drop (c.length:Int).toNat c)).length=0:=by rw[aa3,ab2];omega
   have q:(decide ((0:Int)≤(c.length:Int))&&decide ((c.length:Int)≤(c.length:Int)))=true:=by
    rw[aa7 (Int.natCast_nonneg _),aa7 (ap5 _)];rfl
   rw[aa1 c2,Dv (by omega),q,Ap,l2,l1,Dv (by omega),Ap]
   generalize hz:List.take (c.length-(c.length:Int).toNat) (List.drop (c.length:Int).toNat c)=z at *
   generalize hy:o++[IntKind.wrap .u8 (c.length:Int)]++List.take ((c.length:Int).toNat-0) (List.drop 0 c)=y
   have hyl:y.length=o.length+1+c.length:=by rw[← hy,aa4,l2,l1]
   exact hag (y,z,()) ⟨y,z,by omega,by omega,rfl⟩ (by show z.length<c.length;omega)
 ·rw[aa1 c1]
  exact⟨o,by omega,rfl⟩
theorem Bwq{b:List Int}(hl:b.length≤1000000):∃ o:List Int,o.length≤2*b.length∧Qd (b,())=some ((o,()),(),()):=by
 unfold Qd Ac3
 refine Ci (I:=fun x=>∃ (out:List Int) (f t:Nat),out.length≤2*f∧f≤t∧t≤b.length∧x=(b,out,(f:Int),(t:Int),())) (m:=fun x=>((b.length:Int)-x.2.2.2.1).toNat)
  (P:=fun r=>∃ o:List Int,o.length≤2*b.length∧r=some ((o,()),(),())) ?_ ⟨[],0,0,by simp,by omega,by omega,rfl⟩ (by simp only[Au];omega)
 rintro x aa ⟨out,f,t,h1,h2,h3,rfl⟩ hag
 simp only at hag ⊢
 unfold Ahk
 simp only[Am,Bx]
 rw[Ad]
 by_cases c:(t:Int)<(b.length:Int)
 ·obtain⟨n,m8,k1,k2,k3,e⟩:=Cjp (b:=b) (at_:=t) h3 hl
  rw[aa0 c,e,Aa]
  dsimp only
  rw[Ad]
  by_cases c2:(n:Int)<4
  ·rw[aa0 c2,Ar (n:=(t:Int)+1) (by omega) (by omega)]
   exact hag _ ⟨out,f,t+1,h1,by omega,by omega,by rw[ab0];rfl⟩ (by simp only;omega)
  ·have w1:IntKind.wrap .i64 ((t:Int)+(n:Int))=((t+n:Nat):Int):=by rw[Ar (by omega) (by omega)];omega
   have q:((decide ((0:Int)≤(f:Int))&&decide ((f:Int)≤(t:Int)))&&decide ((t:Int)≤(b.length:Int)))=true:=by
    rw[aa7 (show (0:Int)≤(f:Int) by omega),aa7 (show (f:Int)≤(t:Int) by omega),aa7 (show (t:Int)≤(b.length:Int) by omega)];rfl
   have ag:(List.take ((t:Int).toNat-(f:Int).toNat) (List.drop (f:Int).toNat b)).length≤t-f:=by rw[aa3,aa3,ab2];omega
   obtain⟨o,o1,e2⟩:=Bjc (out:=out) (b:=List.take ((t:Int).toNat-(f:Int).toNat) (List.drop (f:Int).toNat b)) (by omega) (by omega)
   rw[aa1 c2,q,Ap,e2,Aa]
   dsimp only
   rw[Dv (by omega),w1]
   exact hag _ ⟨_,t+n,t+n,by rw[aa4];simp only[ac5,am3];omega,by omega,by omega,rfl⟩ (by simp only;omega)
 ·have q:(decide ((0:Int)≤(f:Int))&&decide ((f:Int)≤(b.length:Int)))=true:=by
   rw[aa7 (show (0:Int)≤(f:Int) by omega),aa7 (show (f:Int)≤(b.length:Int) by omega)];rfl
  have ag:(List.take (b.length-(f:Int).toNat) (List.drop (f:Int).toNat b)).length≤b.length-f:=by rw[aa3,ab2];omega
  obtain⟨o,o1,e2⟩:=Bjc (out:=out) (b:=List.take (b.length-(f:Int).toNat) (List.drop (f:Int).toNat b)) (by omega) (by omega)
  rw[aa1 c,q,Ap,e2,Aa]
  exact⟨o,by omega,rfl⟩
theorem Cga{b:List Int}{lo hi:Int}(hl:b.length≤1000000)(h1:B2 lo)(h2:B2 hi) :
  ∃ v c:Int,B2 v∧(c=0→lo≤v∧v≤hi)∧(c=0∨c=2∨c=6)∧Wc (b,lo,hi,())=some ((v,c,()),(),(),(),()):=by
 unfold B2 at h1 h2
 unfold Wc Ajp
 simp only[Am]
 rw[Ad]
 by_cases c1:lo>hi
 ·rw[aa0 c1]
  exact⟨0,2,by unfold B2;omega,(fun h=>by cases h),by omega,rfl⟩
 rw[aa1 c1,Ad]
 by_cases c2:(b.length:Int)>4096
 ·rw[aa0 c2]
  exact⟨0,6,by unfold B2;omega,(fun h=>by cases h),by omega,rfl⟩
 obtain⟨o,o1,e⟩:=Bwq (b:=b) hl
 rw[aa1 c2,e,Aa]
 dsimp only
 have w1:IntKind.wrap .u64 (o.length:Int)=(o.length:Int):=Gt (by omega) (by omega)
 have w2:IntKind.wrap .u64 ((o.length:Int)*16)=(o.length:Int)*16:=Gt (by omega) (by omega)
 rw[w1,w2,Ad]
 by_cases c3:(o.length:Int)*16<lo
 ·rw[aa0 c3,Ad,aa1 c1]
  exact⟨lo,0,by unfold B2;omega,fun _=>by omega,by omega,rfl⟩
 ·rw[aa1 c3,Ad]
  by_cases c4:(o.length:Int)*16>hi
  ·rw[aa0 c4]
   exact⟨hi,0,by unfold B2;omega,fun _=>by omega,by omega,rfl⟩
  ·rw[aa1 c4]
   exact⟨_,0,by unfold B2;omega,fun _=>by omega,by omega,rfl⟩
abbrev RdT:=List Int×(Int×Bool×Unit)
def RS(b:List Int)(st:Option Nat)(s:RdT):Prop :=
 match st with
 | some i=>s=(b,(i:Int),false,())∧i≤b.length
 | none=>∃ a:Int,s=(b,a,true,())∧0≤a∧a≤2000000000
def stU(b:List Int)(most:Nat)(st:Option Nat):Option Nat:=st.bind fun i=>(rdU b i most).map (·.2)
section
variable {b:List Int} (hb:Co b) (hl:b.length≤1000000000)
include hb hl
theorem Ccf{st:Option Nat}{s:RdT}(h:RS b st s):∃ v s',As (s,())=some ((v,()),s',())∧RS b (stU b 8 st) s' ∧
  ∀ i x j,st=some i→rdU b i 8=some (x,j)→v=(x:Int):=by
 unfold As Jd B1 Et
 cases st with
 | none =>
  obtain⟨a,rfl,a0,a1⟩:=h
  simp only
  rw[Bb0 hb hl (by omega) (by omega)]
  exact⟨_,_,rfl,⟨a,rfl,a0,a1⟩,fun i x j h=>by cases h⟩
 | some i =>
  obtain⟨rfl,hi⟩:=h
  simp only
  rw[Bb0 hb hl (by omega) (by omega)]
  unfold Akw
  rw[aa1 (by omega),aa3]
  cases hr:rdU b i 8 with
  | none =>
   refine⟨0,(b,(i:Int),true,()),rfl,?_,fun i' x j h=>by cases h;rw[hr];intro h;cases h⟩
   show RS b ((rdU b i 8).map (·.2)) _
   rw[hr]
   exact⟨_,rfl,by omega,by omega⟩
  | some p =>
   obtain⟨v,j⟩:=p
   obtain⟨r1,r2,r3,_⟩:=Cgr hr hb
   refine⟨((D8 (At v):Nat):Int),(b,(j:Int),false,()),rfl,?_,fun i' x j' h=>by cases h;rw[hr];intro h;cases h;rw[Bi]⟩
   show RS b ((rdU b i 8).map (·.2)) _
   rw[hr]
   exact⟨rfl,r2⟩
theorem Bzb{st:Option Nat}{s:RdT}(h:RS b st s):∃ v s',Ba (s,())=some ((v,()),s',())∧RS b (stU b 32 st) s' ∧
  ∀ i x j,st=some i→rdU b i 32=some (x,j)→v=At x:=by
 unfold Ba I4 B1 Et
 cases st with
 | none =>
  obtain⟨a,rfl,a0,a1⟩:=h
  simp only
  rw[Aoq hb hl (by omega) (by omega)]
  exact⟨_,_,rfl,⟨a,rfl,a0,a1⟩,fun i x j h=>by cases h⟩
 | some i =>
  obtain⟨rfl,hi⟩:=h
  simp only
  rw[Aoq hb hl (by omega) (by omega)]
  unfold Akw
  rw[aa1 (by omega),aa3]
  cases hr:rdU b i 32 with
  | none =>
   refine⟨_,(b,(i:Int),true,()),rfl,?_,fun i' x j h=>by cases h;rw[hr];intro h;cases h⟩
   show RS b ((rdU b i 32).map (·.2)) _
   rw[hr]
   exact⟨_,rfl,by omega,by omega⟩
  | some p =>
   obtain⟨v,j⟩:=p
   obtain⟨r1,r2,r3,_⟩:=Cgr hr hb
   refine⟨At v,(b,(j:Int),false,()),rfl,?_,fun i' x j' h=>by cases h;rw[hr];intro h;cases h;rfl⟩
   show RS b ((rdU b i 32).map (·.2)) _
   rw[hr]
   exact⟨rfl,r2⟩
end
theorem Bys{b:List Int}{st:Option Nat}{s:RdT}(h:RS b st s):G5 (s,())=some ((decide (st=some b.length),()),s,()):=by
 unfold G5 Le
 cases st with
 | none =>
  obtain⟨a,rfl,a0,a1⟩:=h
  simp only[an1,Bn]
  rfl
 | some i =>
  obtain⟨rfl,hi⟩:=h
  simp only[aq8,Ap]
  rw[show decide ((i:Int)=(b.length:Int))=decide (some i=some b.length) from by rw[aj5];simp only[ak5];omega]
section
variable {b:List Int} (hb:Co b) (hl:b.length≤1000000000)
include hb hl
end
abbrev TxT:=Int×(Int×Int×List Int×Int×List Int×List Int×Int×List Int×Unit)
def Cne:TxT:=((0:Int),(0:Int),(0:Int),[(0:Int),0,0,0],(0:Int),[(0:Int),0,0,0],[(0:Int),0,0,0],(0:Int),[],())
inductive TxW:TxT→Prop
 | mk {a n o g e:Int} {v f p:Nat} {d:List Int} (ha:B2 a) (hn:B2 n) (ho:B2 o) (hv:Al v) (hg:B2 g) (hf:Al f) (hp:Al p) (he:B2 e) (hd:Co d) :
  TxW (a,n,o,At v,g,At f,At p,e,d,())
theorem Aa9{n:Nat}(h:Al n):(dg n).length≤16:=Og.2 h
theorem Byl{a n o g e:Int}{v f p base:Nat}{d:List Int}(hf:Al f)(hp:Al p)(hb:Al base)(cf:base≤f) :
  Rj ((a,n,o,At v,g,At f,At p,e,d,()),At base,())=some ((dg (min p (f-base)),()),(),(),()):=by
 have l1:=Aa9 hf
 have l2:=Aa9 hp
 have l3:=Aa9 (n:=f-base) (by unfold Al at *;omega)
 unfold Rj Ar1
 try dsimp only
 rw[Cd hp,Aa,Cd hf,Aa,Cd hb,Aa]
 dsimp only
 rw[Lp (A:=f) (B:=base) (D:=f-base) (by omega) (by omega),Aa]
 dsimp only
 rw[Bg0 (by omega) (by omega),Aa]
theorem Bw5{a n o g e:Int}{v f p base:Nat}{d:List Int}(hf:Al f)(hp:Al p)(hb:Al base) :
  N3 ((a,n,o,At v,g,At f,At p,e,d,()),At base,()) =
   some ((if f<base then ([(0:Int),0,0,0],(12:Int),()) else (At (base+min p (f-base)),(0:Int),())),(),(),()):=by
 have l1:=Aa9 hf
 have l2:=Aa9 hb
 have l3:=Aa9 (n:=min p (f-base)) (by unfold Al at *;omega)
 unfold N3 Aa5
 try dsimp only
 rw[Cd hf,Aa,Cd hb,Aa]
 dsimp only
 rw[Atu (by omega) (by omega),Aa]
 dsimp only
 unfold Agg
 rw[Ad]
 by_cases h:f<base
 ·rw[aa0 h,aa0 (by omega),aa0 h]
 ·have hq:¬ ((if f<base then (-1:Int) else if f>base then 1 else 0)<0):=by
   rw[aa1 h]
   split<;>omega
  rw[aa1 hq,aa1 h,Aa]
  dsimp only
  rw[Byl hf hp hb (by omega),Aa]
  dsimp only
  rw[Cy (by omega) (by omega),Aa]
  dsimp only
  have hs:base+min p (f-base)<115792089237316195423570985008687907853269984665640564039457584007913129639936:=by unfold Al at *;omega
  rw[Zj,Aa,aa0 hs]
theorem Cdv{a n o g e:Int}{v f p fq bal:Nat}{d:List Int}(hg:B2 g)(hv:Al v)(hp:Al fq)(hb:Al bal) :
  Tf ((a,n,o,At v,g,At f,At p,e,d,()),At fq,At bal,())=some ((decide (g.toNat*fq+v≤bal),()),(),(),(),()):=by
 unfold B2 at hg
 have l1:=Aa9 hp
 have l2:=Aa9 hv
 have l3:=Aa9 hb
 have l4:=Apc (n:=g.toNat) (by omega)
 have l5:(dg (g.toNat*fq)).length≤21:=by
  refine Du.2 (af0 ?_)
  have h1:g.toNat*fq≤18446744073709551615*115792089237316195423570985008687907853269984665640564039457584007913129639936:=ak6 (by omega) (au3 hp)
  exact ai6 h1 (by decide)
 have l6:(dg (g.toNat*fq+v)).length≤21:=by
  refine Du.2 (af0 ?_)
  have h1:g.toNat*fq≤18446744073709551615*115792089237316195423570985008687907853269984665640564039457584007913129639936:=ak6 (by omega) (au3 hp)
  have h2:g.toNat*fq+v≤18446744073709551615*115792089237316195423570985008687907853269984665640564039457584007913129639936+115792089237316195423570985008687907853269984665640564039457584007913129639936:=ar9 h1 (au3 hv)
  exact ai6 h2 (by decide)
 unfold Tf Agl
 try dsimp only
 rw[Ca hg.1 hg.2,Aa,Cd hp,Aa]
 dsimp only
 rw[Pp (by omega) (by omega),Aa,Cd hv,Aa]
 dsimp only
 generalize g.toNat*fq=m at *
 rw[Cy (by omega) (by omega),Aa,Cd hb,Aa]
 dsimp only
 rw[Atu (by omega) (by omega),Aa]
 dsimp only
 unfold Agg
 congr 4
 by_cases h:bal<m+v
 ·rw[aa0 h];exact propext ⟨fun h=>by omega,fun h=>by omega⟩
 ·rw[aa1 h]
  by_cases h2:bal>m+v
  ·rw[aa0 h2];exact propext ⟨fun h=>by omega,fun h=>by omega⟩
  ·rw[aa1 h2];exact propext ⟨fun h=>by omega,fun h=>by omega⟩
theorem Ci0{a n o g e:Int}{v f p base unit:Nat}{d:List Int}(hg:B2 g)(hf:Al f)(hb:Al base)(cz:Al unit)(hd:d.length≤1000000){q:J9}(hq:Uk q) :
  ∃ u po c:Int,Ab4 ((a,n,o,At v,g,At f,At p,e,d,()),At base,At unit,q,())=some ((u,po,c,()),(),(),(),(),())∧B2 u∧B2 po∧I64 c ∧
   (c=0→PV q∧base≤f∧po≤g):=by
 have bad:∀ c:Int,I64 c→c≠0→∃ u po c':Int,some ((((0:Int),(0:Int),c,()),(),(),(),(),()))=some ((u,po,c',()),(),(),(),(),())∧B2 u∧B2 po∧I64 c'∧(c'=0→PV q∧base≤f∧po≤g) :=
  fun c h1 h2=>⟨_,_,_,rfl,⟨by omega,by omega⟩,⟨by omega,by omega⟩,h1,fun h=>absurd h h2⟩
 unfold Ab4 Arp
 try dsimp only
 rw[Ad1 hq,Aa]
 dsimp only
 rw[An,Ad]
 by_cases hv:PV q
 case neg=>rw[aa1 hv];exact bad 15 ⟨by omega,by omega⟩ (by omega)
 rw[aa0 hv,Wr,Aa]
 dsimp only
 rw[Ad]
 by_cases qv:base=0
 case pos=>rw[aa0 qv];exact bad 5 ⟨by omega,by omega⟩ (by omega)
 have l1:=Nf hb
 have l2:=Nf hf
 have l3:=Nf cz
 rw[aa1 qv,Cd hf,Aa,Cd hb,Aa]
 dsimp only
 rw[Atu (by omega) (by omega),Aa]
 dsimp only
 unfold Agg
 rw[Ad]
 by_cases cf:f<base
 case pos=>rw[aa0 (by rw[aa0 cf];omega)];exact bad 12 ⟨by omega,by omega⟩ (by omega)
 have qp:¬ ((if f<base then (-1:Int) else if f>base then 1 else 0)<0):=by
  rw[aa1 cf];split<;>omega
 have bh:B2 q.2.2.2.2.2.2.2.2.2.2.1∧B2 q.2.2.2.2.2.2.2.2.2.2.2.1:=by cases hq;exact⟨by assumption,by assumption⟩
 obtain⟨u,c1,u1,_,i0,e1⟩:=Cga hd bh.1 bh.2
 have i1:I64 c1:=by unfold I64;omega
 unfold B2 at hg
 have hu:=u1
 unfold B2 at hu
 rw[aa1 qp,e1,Aa]
 dsimp only
 rw[An,Ad]
 by_cases fw:c1=0
 case neg=>rw[aa1 fw];exact bad c1 i1 fw
 have l4:=Mz (n:=u.toNat) (by omega)
 have l5:=Pg u.toNat unit
 have l6:=Aw5 (u.toNat*unit) base
 have l7:=Mz (n:=g.toNat) (by omega)
 rw[aa0 fw,Ca hu.1 hu.2,Aa,Cd cz,Aa]
 dsimp only
 rw[Pp (by omega) (by omega),Aa]
 dsimp only
 rw[Oq,Aa]
 dsimp only
 rw[An,Ad]
 by_cases oh:u.toNat*unit<115792089237316195423570985008687907853269984665640564039457584007913129639936
 case neg=>rw[aa1 oh];exact bad 4 ⟨by omega,by omega⟩ (by omega)
 rw[aa0 oh,Aa]
 dsimp only
 rw[Awb (by omega) (by omega) (by omega),Aa,Ca hg.1 hg.2,Aa]
 dsimp only
 rw[Atu (by omega) (by omega),Aa]
 dsimp only
 unfold Agg
 rw[Ad]
 generalize u.toNat*unit / base=z at *
 by_cases hz:z>g.toNat
 case pos=>rw[aa0 (by rw[aa1 (by omega),aa0 hz];omega)];exact bad 13 ⟨by omega,by omega⟩ (by omega)
 have rt:¬ ((if z<g.toNat then (-1:Int) else if z>g.toNat then 1 else 0)>0):=by
  by_cases ws:z<g.toNat
  ·rw[aa0 ws];omega
  ·rw[aa1 ws,aa1 hz];omega
 rw[aa1 rt,Uo (by omega),Aa]
 dsimp only
 rw[Bki (by unfold Al;omega),ac8 (by omega)]
 exact⟨_,_,0,rfl,u1,⟨by omega,by omega⟩,⟨by omega,by omega⟩,fun _=>⟨hv,by omega,by omega⟩⟩
abbrev Ce8:=Int×(Int×Int×Int×Bool×List Int×List Int×List Int×List Int×List Int×Unit)
abbrev Cml:Ce8:=((0:Int),(0:Int),(0:Int),(0:Int),false,z4,z4,z4,z4,z4,())
inductive Cge(g:Int)(f p base:Nat):Ce8→Prop
 | mk {u po ex us:Int} {fl:Bool} {ti pf qq ne bu:Nat} (h1:B2 u) (h2:B2 po) (h3:B2 ex) (h4:B2 us) (b1:Al ti) (b2:Al pf) (b3:Al qq) (b4:Al ne) (b5:Al bu)
   (ll:us≤g) (cf:base≤f) (de:pf+(qq+ne+bu)=(base+min p (f-base))*us.toNat) :
   Cge g f p base (u,po,ex,us,fl,At ti,At pf,At qq,At ne,At bu,())
theorem Bz9{a n o g e:Int}{v f p base unit:Nat}{d:List Int}(hg:B2 g)(he:B2 e)(hf:Al f)(hp:Al p)(hb:Al base)(cz:Al unit)(hd:d.length≤1000000){q:J9}(hq:Uk q) :
  ∃ (ch:Ce8) (c:Int),Rf ((a,n,o,At v,g,At f,At p,e,d,()),At base,At unit,q,())=some ((ch,c,()),(),(),(),(),())∧I64 c∧(c=0→Cge g f p base ch):=by
 have bad:∀ c:Int,I64 c→c≠0→∃ (ch:Ce8) (c':Int),some (((Cml,c,()),(),(),(),(),()))=some ((ch,c',()),(),(),(),(),())∧I64 c'∧(c'=0→Cge g f p base ch) :=
  fun c h1 h2=>⟨_,_,rfl,h1,fun h=>absurd h h2⟩
 obtain⟨u,po,c1,e1,jb,vd,sh,k1⟩:=Ci0 (a:=a) (n:=n) (o:=o) (e:=e) (v:=v) (p:=p) hg hf hb cz hd hq
 unfold Rf Adi
 try dsimp only
 rw[e1,Aa,Am,Am,Am]
 dsimp only
 rw[An,Ad]
 by_cases fw:c1=0
 case neg=>rw[aa1 fw];exact bad c1 sh fw
 rw[aa0 fw]
 obtain⟨hv,cf,hpg⟩:=k1 fw
 have tu:=hv.2.2.2.2.1
 have lb:=Nf hb
 cases hq with
 | mk w1 w2 w3 w4 w5 w6 w7 w8 w9 pj pk pm =>
 rename_i sp to bi gl bb eu pi mi ma fe ic ep
 dsimp only at tu ⊢
 clear e1 k1 hv w1 w2 w3 w4 w5 w8 w9 pj pk pm
 have lic:=Nf w6
 have ay0:=vd
 unfold B2 at hg he ay0 w7
 have e2:IntKind.wrap .u64 (g-po)=g-po:=Gt (by omega) (by omega)
 have e3:IntKind.wrap .u64 (po+(g-po))=g:=by rw[Gt (by omega) (by omega)];omega
 rw[e2,e3,Ad]
 by_cases hx:e>g-po
 ·rw[aa0 hx]

  have lE:=Mz (n:=(g-po).toNat) (by omega)
  have lU:=Mz (n:=g.toNat) (by omega)
  have lpo:=Mz (n:=po.toNat) (by omega)
  have lbb:=Mz (n:=bb.toNat) (by omega)
  have ltt:=Mz (n:=10000) (by omega)
  have lm1:=Pg base po.toNat
  have lm2:=Pg base (g-po).toNat
  have il:min ic base≤base:=as6 _ _
  have lmi:=Aow il
  have lm3:=Pg (min ic base) (g-po).toNat
  have hia:min ic base*(g-po).toNat≤base*(g-po).toNat:=ac6 _ il
  rw[Cd hb,Aa,Byl hf hp hb cf,Aa,Ca vd.1 vd.2,Aa]
  dsimp only
  rw[Pp (by omega) (by omega),Aa,Ca (by omega) (by omega),Aa]
  dsimp only
  rw[Pp (by omega) (by omega),Aa,Cd w6,Aa]
  dsimp only
  rw[Bg0 (by omega) (by omega),Aa,Aa]
  dsimp only
  rw[Pp (by omega) (by omega),Aa]
  dsimp only
  have ay1:=Aow (Nat.sub_le (base*(g-po).toNat) (min ic base*(g-po).toNat))
  rw[Lp (A:=base*(g-po).toNat) (B:=min ic base*(g-po).toNat) (D:=base*(g-po).toNat-min ic base*(g-po).toNat) (by omega) (by omega),Aa,Ca (by omega) (by omega),Aa]
  dsimp only
  have lm4:=Pg (base*(g-po).toNat-min ic base*(g-po).toNat) bb.toNat
  rw[Pp (by omega) (by omega),Aa,Ca (by omega) (by omega),Aa,show Int.toNat 10000=10000 from rfl]
  dsimp only
  have lbu:=Aw5 ((base*(g-po).toNat-min ic base*(g-po).toNat)*bb.toNat) 10000
  have hbu:(base*(g-po).toNat-min ic base*(g-po).toNat)*bb.toNat / 10000≤base*(g-po).toNat-min ic base*(g-po).toNat:=Nat.div_le_of_le_mul (by rw[af9 10000];exact ae8 _ (by omega))
  rw[Awb (by omega) (by omega) (by omega),Aa]
  dsimp only
  have lre:=Aow (Nat.sub_le (base*(g-po).toNat-min ic base*(g-po).toNat) ((base*(g-po).toNat-min ic base*(g-po).toNat)*bb.toNat / 10000))
  rw[Lp (A:=base*(g-po).toNat-min ic base*(g-po).toNat) (B:=(base*(g-po).toNat-min ic base*(g-po).toNat)*bb.toNat / 10000) (D:=base*(g-po).toNat-min ic base*(g-po).toNat-(base*(g-po).toNat-min ic base*(g-po).toNat)*bb.toNat / 10000) (by omega) (by omega),Aa,Ca (by omega) (by omega),Aa]
  dsimp only
  have ay2:=Nf (n:=min p (f-base)) (by unfold Al at *;omega)
  have lm5:=Pg (min p (f-base)) g.toNat
  have de:∀ q:Nat,q≤base*(g-po).toNat-min ic base*(g-po).toNat→base*po.toNat+(min ic base*(g-po).toNat+((base*(g-po).toNat-min ic base*(g-po).toNat-q)+min p (f-base)*g.toNat)+q)=(base+min p (f-base))*g.toNat:=by
   intro q hq
   have e1:(base+min p (f-base))*g.toNat=base*po.toNat+base*(g-po).toNat+min p (f-base)*g.toNat:=by
    rw[ae4,← ap6]
    congr 2
    omega
   rw[e1]
   omega
  have de:=de _ hbu
  rw[Pp (by omega) (by omega),Aa]
  dsimp only
  have lad:=Aq0 (base*(g-po).toNat-min ic base*(g-po).toNat-(base*(g-po).toNat-min ic base*(g-po).toNat)*bb.toNat / 10000) (min p (f-base)*g.toNat)
  rw[Cy (by omega) (by omega),Aa]
  dsimp only
  generalize hQ:(base*(g-po).toNat-min ic base*(g-po).toNat)*bb.toNat / 10000=q at *
  generalize hP:base*po.toNat=pf at *
  generalize hA:base*(g-po).toNat=al at *
  generalize hI:min ic base*(g-po).toNat=qq at *
  generalize hT:min p (f-base)*g.toNat=tf at *
  rw[Oq,Aa]
  dsimp only
  rw[An,Ad]
  by_cases d1:pf<115792089237316195423570985008687907853269984665640564039457584007913129639936
  case neg=>rw[aa1 d1];exact bad 4 ⟨by omega,by omega⟩ (by omega)
  rw[aa0 d1,Oq,Aa]
  dsimp only
  rw[An,Ad]
  by_cases d2:al<115792089237316195423570985008687907853269984665640564039457584007913129639936
  case neg=>rw[aa1 d2];exact bad 4 ⟨by omega,by omega⟩ (by omega)
  rw[aa0 d2,Oq,Aa]
  dsimp only
  rw[An,Ad]
  by_cases d3:al-qq-q+tf<115792089237316195423570985008687907853269984665640564039457584007913129639936
  case neg=>rw[aa1 d3];exact bad 4 ⟨by omega,by omega⟩ (by omega)
  have qn:=hp
  have hf':=hf
  unfold Al at qn hf'
  rw[aa0 d3,Uo (by omega),Aa,Uo d1,Aa,Uo (by omega),Aa,Uo (by omega),Aa,Uo d3,Aa]
  exact⟨_,0,rfl,⟨by omega,by omega⟩,fun _=>Cge.mk jb vd (by unfold B2;omega) (by unfold B2;omega) (by unfold Al;omega) (by unfold Al;omega) (by unfold Al;omega) (by unfold Al;omega) (by unfold Al;omega) (by omega) cf de⟩
 ·have e4:IntKind.wrap .u64 (po+e)=po+e:=Gt (by omega) (by omega)
  rw[aa1 hx]

  have lE:=Mz (n:=e.toNat) (by omega)
  have lU:=Mz (n:=(po+e).toNat) (by omega)
  have lpo:=Mz (n:=po.toNat) (by omega)
  have lbb:=Mz (n:=bb.toNat) (by omega)
  have ltt:=Mz (n:=10000) (by omega)
  have lm1:=Pg base po.toNat
  have lm2:=Pg base e.toNat
  have il:min ic base≤base:=as6 _ _
  have lmi:=Aow il
  have lm3:=Pg (min ic base) e.toNat
  have hia:min ic base*e.toNat≤base*e.toNat:=ac6 _ il
  rw[e4,Cd hb,Aa,Byl hf hp hb cf,Aa,Ca vd.1 vd.2,Aa]
  dsimp only
  rw[Pp (by omega) (by omega),Aa,Ca (by omega) (by omega),Aa]
  dsimp only
  rw[Pp (by omega) (by omega),Aa,Cd w6,Aa]
  dsimp only
  rw[Bg0 (by omega) (by omega),Aa,Aa]
  dsimp only
  rw[Pp (by omega) (by omega),Aa]
  dsimp only
  have ay1:=Aow (Nat.sub_le (base*e.toNat) (min ic base*e.toNat))
  rw[Lp (A:=base*e.toNat) (B:=min ic base*e.toNat) (D:=base*e.toNat-min ic base*e.toNat) (by omega) (by omega),Aa,Ca (by omega) (by omega),Aa]
  dsimp only
  have lm4:=Pg (base*e.toNat-min ic base*e.toNat) bb.toNat
  rw[Pp (by omega) (by omega),Aa,Ca (by omega) (by omega),Aa,show Int.toNat 10000=10000 from rfl]
  dsimp only
  have lbu:=Aw5 ((base*e.toNat-min ic base*e.toNat)*bb.toNat) 10000
  have hbu:(base*e.toNat-min ic base*e.toNat)*bb.toNat / 10000≤base*e.toNat-min ic base*e.toNat:=Nat.div_le_of_le_mul (by rw[af9 10000];exact ae8 _ (by omega))
  rw[Awb (by omega) (by omega) (by omega),Aa]
  dsimp only
  have lre:=Aow (Nat.sub_le (base*e.toNat-min ic base*e.toNat) ((base*e.toNat-min ic base*e.toNat)*bb.toNat / 10000))
  rw[Lp (A:=base*e.toNat-min ic base*e.toNat) (B:=(base*e.toNat-min ic base*e.toNat)*bb.toNat / 10000) (D:=base*e.toNat-min ic base*e.toNat-(base*e.toNat-min ic base*e.toNat)*bb.toNat / 10000) (by omega) (by omega),Aa,Ca (by omega) (by omega),Aa]
  dsimp only
  have ay2:=Nf (n:=min p (f-base)) (by unfold Al at *;omega)
  have lm5:=Pg (min p (f-base)) (po+e).toNat
  have de:∀ q:Nat,q≤base*e.toNat-min ic base*e.toNat→base*po.toNat+(min ic base*e.toNat+((base*e.toNat-min ic base*e.toNat-q)+min p (f-base)*(po+e).toNat)+q)=(base+min p (f-base))*(po+e).toNat:=by
   intro q hq
   have e1:(base+min p (f-base))*(po+e).toNat=base*po.toNat+base*e.toNat+min p (f-base)*(po+e).toNat:=by
    rw[ae4,← ap6]
    congr 2
    omega
   rw[e1]
   omega
  have de:=de _ hbu
  rw[Pp (by omega) (by omega),Aa]
  dsimp only
  have lad:=Aq0 (base*e.toNat-min ic base*e.toNat-(base*e.toNat-min ic base*e.toNat)*bb.toNat / 10000) (min p (f-base)*(po+e).toNat)
  rw[Cy (by omega) (by omega),Aa]
  dsimp only
  generalize hQ:(base*e.toNat-min ic base*e.toNat)*bb.toNat / 10000=q at *
  generalize hP:base*po.toNat=pf at *
  generalize hA:base*e.toNat=al at *
  generalize hI:min ic base*e.toNat=qq at *
  generalize hT:min p (f-base)*(po+e).toNat=tf at *
  rw[Oq,Aa]
  dsimp only
  rw[An,Ad]
  by_cases d1:pf<115792089237316195423570985008687907853269984665640564039457584007913129639936
  case neg=>rw[aa1 d1];exact bad 4 ⟨by omega,by omega⟩ (by omega)
  rw[aa0 d1,Oq,Aa]
  dsimp only
  rw[An,Ad]
  by_cases d2:al<115792089237316195423570985008687907853269984665640564039457584007913129639936
  case neg=>rw[aa1 d2];exact bad 4 ⟨by omega,by omega⟩ (by omega)
  rw[aa0 d2,Oq,Aa]
  dsimp only
  rw[An,Ad]
  by_cases d3:al-qq-q+tf<115792089237316195423570985008687907853269984665640564039457584007913129639936
  case neg=>rw[aa1 d3];exact bad 4 ⟨by omega,by omega⟩ (by omega)
  have qn:=hp
  have hf':=hf
  unfold Al at qn hf'
  rw[aa0 d3,Uo (by omega),Aa,Uo d1,Aa,Uo (by omega),Aa,Uo (by omega),Aa,Uo d3,Aa]
  exact⟨_,0,rfl,⟨by omega,by omega⟩,fun _=>Cge.mk jb vd (by unfold B2;omega) (by unfold B2;omega) (by unfold Al;omega) (by unfold Al;omega) (by unfold Al;omega) (by unfold Al;omega) (by unfold Al;omega) (by omega) cf de⟩
abbrev Cr5:=Int×(Int×List Int×Unit)
abbrev Bht:=Int×(Int×Int×List Int×List (List Int)×Unit)
abbrev Aer:=Int×(TxT×Cr5×Int×Int×List Int×Int×Bht×Unit)
inductive Aw4:Bht→Prop
 | mk {a b c:Int} {v:Nat} {l:List (List Int)} (ha:B2 a) (hb:B2 b) (hc:B2 c) (hv:Al v) (hl:Ul l):Aw4 (a,b,c,At v,l,())
inductive Sb:Aer→Prop
 | mk {k:Int} {t:TxT} {a b:Int} {c:Nat} {s y:Int} {v:Nat} {d:Int} {q:Bht} (hk : -9223372036854775808≤k∧k≤9223372036854775807) (ht:TxW t) (ha:B2 a) (hb:B2 b) (hc:Al c)
   (hs:B2 s) (hy : -9223372036854775808≤y∧y≤9223372036854775807) (hv:Al v) (hd:B2 d) (hq:Aw4 q) :
  Sb (k,t,(a,b,At c,()),s,y,At v,d,q,())
structure LR(m:List A2)(vs:List Nat):Prop where
 inv:Xp m
 lin:Ala (Ce m) vs
theorem LR.of{m m':List A2}{vs:List Nat}{r:Int×(List A2×List Nat)}{i o:Nat}(hs:Avy (Ce m) vs r i o)(hr:Bgk m r m'):LR m' r.2.2∧m'.length≤m.length+2:=by
 obtain⟨h1,h2,h3⟩:=hr
 exact⟨⟨h1,by rw[h2];exact hs.inv⟩,h3⟩
theorem Bsh{m:List A2}{vs:List Nat}(h:LR m vs)(hl:m.length≤90000){a v:Int}{n:Nat}(ha:B2 a)(hn:Al n)(hv:I64 v) :
  ∃ (c:Int) (m':List A2) (gy:List Nat),Fk ((m,vs.map At,()),a,v,At n,())=some ((c,()),(m',gy.map At,()),(),(),(),())∧LR m' gy∧m'.length≤m.length+2:=by
 obtain⟨m',e,hr⟩:=Ckz h.inv h.lin hl ha hn hv
 obtain⟨h1,h2⟩:=LR.of (Ci4 h.lin ha hn) hr
 exact⟨_,m',_,e,h1,h2⟩
theorem Ch5{m:List A2}{vs:List Nat}(h:LR m vs)(hl:m.length≤90000){a b:Int}{n:Nat}(ha:B2 a)(hb:B2 b)(hn:Al n) :
  ∃ (c:Int) (m':List A2) (gy:List Nat),Fj ((m,vs.map At,()),a,b,At n,())=some ((c,()),(m',gy.map At,()),(),(),(),())∧LR m' gy∧m'.length≤m.length+2:=by
 obtain⟨m',e,hr⟩:=Bte h.inv h.lin hl ha hb hn
 obtain⟨h1,h2⟩:=LR.of (Cci h.lin ha hb hn) hr
 exact⟨_,m',_,e,h1,h2⟩
theorem Cnz{m:List A2}{vs:List Nat}(h:LR m vs)(hl:m.length≤90000){a:Int}{n:Nat}(ha:B2 a)(hn:Al n) :
  ∃ (c:Int) (m':List A2) (gy:List Nat),Fh ((m,vs.map At,()),a,At n,())=some ((c,()),(m',gy.map At,()),(),(),())∧LR m' gy∧m'.length≤m.length+2:=by
 obtain⟨m',e,hr⟩:=Btl h.inv h.lin hl ha hn
 obtain⟨h1,h2⟩:=LR.of (Cmf h.lin ha hn) hr
 exact⟨_,m',_,e,h1,h2⟩
theorem Coi{m:List A2}{vs:List Nat}(h:LR m vs){v:Int}{n:Nat}(hn:Al n)(hv:I64 v) :
  ∃ (c:Int) (m':List A2) (gy:List Nat),Dx ((m,vs.map At,()),v,At n,())=some ((c,()),(m',gy.map At,()),(),(),())∧LR m' gy∧m'.length≤m.length+2:=by
 obtain⟨m',e,hr⟩:=Cmn h.inv h.lin hn hv
 obtain⟨h1,h2⟩:=LR.of (Cl0 h.lin hn) hr
 exact⟨_,m',_,e,h1,h2⟩
theorem Cms{m:List A2}{vs:List Nat}(h:LR m vs)(hl:m.length≤90000){a:Int}(ha:B2 a) :
  ∃ (c:Int) (m':List A2) (gy:List Nat),Dm ((m,vs.map At,()),a,())=some ((c,()),(m',gy.map At,()),(),())∧LR m' gy∧m'.length≤m.length+2:=by
 obtain⟨m',e,hr⟩:=Cj1 h.inv h.lin hl ha
 obtain⟨h1,h2⟩:=LR.of (Ci7 h.lin ha) hr
 exact⟨_,m',_,e,h1,h2⟩
theorem Bza(l:List A2)(vs:List Nat)(a:Int)(n:Nat):I64 (Bi9 l vs a n).1:=by
 unfold Bi9
 by_cases h1:a=0
 ·rw[aa0 h1];exact⟨by omega,by omega⟩
 ·rw[aa1 h1]
  by_cases h2:Fr l+vs.sum+n<115792089237316195423570985008687907853269984665640564039457584007913129639936
  ·rw[aa0 h2];exact⟨by omega,by omega⟩
  ·rw[aa1 h2];exact⟨by omega,by omega⟩
theorem Ckm{m:List A2}{vs:List Nat}(h:LR m vs)(hl:m.length≤90000){a:Int}{n:Nat}(ha:B2 a)(hn:Al n) :
  ∃ (c:Int) (m':List A2) (gy:List Nat),H9 ((m,vs.map At,()),a,At n,())=some ((c,()),(m',gy.map At,()),(),(),())∧I64 c∧LR m' gy∧m'.length≤m.length+2:=by
 obtain⟨m',e,hr⟩:=Ch8 h.inv h.lin hl ha hn
 obtain⟨h1,h2⟩:=LR.of (Chg h.lin ha hn) hr
 exact⟨_,m',_,e,Bza _ _ _ _,h1,h2⟩
abbrev Cn4:=List A2×(List (List Int)×Unit)
abbrev L8:=Int×(J9×Ae5×Int×Ux×Cn4×List Ea×Cm1×Unit)
structure EM(N:Nat)(ms:List Ea)(h:Nat)(r:List (List Int))(cs:List Int)(q:List Bl):Prop where
 allm:Vg ms
 len:r.length=ms.length
 ha:Ul r
 rel:∃ cl pl,Azt r cl h pl cs q
 l1:ms.length≤100*N
 l2:cs.length≤N
 l3:q.length≤N
inductive MW(N:Nat):L8→Prop
 | mk {st bg:Int} {p:J9} {b:Ae5} {s:Ux} {m:List A2} {vs:List Nat} {ms:List Ea} {h:Nat} {r:List (List Int)} {cs:List Int} {q:List Bl}
   (h1:B2 st) (h2:Uk p) (h3:PV p) (h4:Bpb b) (h5:B2 bg) (h6:Al5 s) (h7:PRV s) (h8:LR m vs) (h9:m.length≤200*N) (bq:EM N ms h r cs q) :
   MW N (st,p,b,bg,s,(m,vs.map At,()),ms,ref h r cs q,())
theorem EM.mono{N N':Nat}(hN:N≤N'){ms:List Ea}{h:Nat}{r:List (List Int)}{cs:List Int}{q:List Bl}(e:EM N ms h r cs q):EM N' ms h r cs q :=
 ⟨e.allm,e.len,e.ha,e.rel,by have:=e.l1;omega,by have:=e.l2;omega,by have:=e.l3;omega⟩
theorem MW.mono{N N':Nat}(hN:N≤N'){M:L8}(h:MW N M):MW N' M:=by
 cases h with
 | mk h1 h2 h3 h4 h5 h6 h7 h8 h9 bq=>exact .mk h1 h2 h3 h4 h5 h6 h7 h8 (by omega) (bq.mono hN)
theorem Azt.snoc{r:List (List Int)}{cl:List Bool}{h:Nat}{p:List Bl}{cs:List Int}{m:List Bl}(e:Azt r cl h p cs m)(x:List Int):Azt (r++[x]) (cl++[false]) h p cs m:=by
 obtain⟨⟨a1,a2,a3,a4,a5⟩,b,c,d,f,g⟩:=e
 refine⟨⟨by simp[a1],a2,a3,a4,a5⟩,fun s hs=>?_,c,d,f,g⟩
 rw[b s hs]
 by_cases h1:s.toNat<cl.length
 ·rw[aa2,aa2,ag9 h1]
 ·rw[aa2,aa2,af5 (by omega),ai4 (by omega)]
  by_cases h2:s.toNat-cl.length=0
  ·rw[h2];rfl
  ·rw[ai4 (by simp;omega)]
theorem Bwz{st bg:Int}{p:J9}{b:Ae5}{s:Ux}{L:Cn4}{ms:List Ea}{h:Nat}{r:List (List Int)}{cs:List Int}{q:List Bl}{to:Int}{n:Nat}
  (hm:Vg ms) (ag:r.length=ms.length) (hl:ms.length≤90000) (j4:B2 to) (hn:Al n) :
  ∃ (y:Ea) (x:List Int),Fq ((st,p,b,bg,s,L,ms,ref h r cs q,()),to,At n,()) =
   some ((y,()),(st,p,b,bg,s,L,ms++[y],ref h (r++[x]) cs q,()),(),(),())∧Bc9 y∧H32 x:=by
 have hy:Bc9 ((ms.length:Int),to,At n,()):=by
  unfold B2 at j4
  exact Bc9.mk ⟨by omega,by omega⟩ j4 hn
 have eh:Vg (ms++[((ms.length:Int),to,At n,())]):=fun z hz=>by
  rcases ad9.1 hz with hz|hz
  ·exact hm z hz
  ·obtain rfl:=ac3.1 hz
   exact hy
 unfold Fq Qa
 simp only[Am]
 rw[Gt (by omega) (by omega),Byn (by omega),show List.append ms [((ms.length:Int),to,At n,())]=ms++[((ms.length:Int),to,At n,())] from rfl,Cab eh (by simp;omega) (ab4 _),Aa,Cbi (by omega),Ap]
 exact⟨_,_,rfl,hy,Azv (fun x hx=>Ap4 _ x (ah7 hx))⟩
abbrev Asa:=Int×(Ce8×List Int×List Int×Int×List Int×List Int×List Ea×Unit)
theorem By9{N:Nat}{M:L8}(h:MW N M)(hN:N≤100){t:TxT}(ht:TxW t) :
  ∃ (n:Nat) (c:Int),I0 (M,t,())=some ((At n,c,()),M,(),())∧Al n∧I64 c∧(c=0→t.2.2.2.2.2.2.2.2.1.length≤4096):=by
 cases h with
 | mk h1 h2 h3 h4 h5 h6 h7 h8 h9 bq =>
 rename_i st bg p b s m vs ms hh r cs q
 cases ht with
 | mk ha hn ho hv hg hf hp he hd =>
 rename_i a n o g e v f tp d
 have bad:∀ c:Int,I64 c→c≠0→∃ (n:Nat) (c':Int),some ((z4,c,()),((st,p,b,bg,s,(m,vs.map At,()),ms,ref hh r cs q,()):L8),(),())=some ((At n,c',()),(st,p,b,bg,s,(m,vs.map At,()),ms,ref hh r cs q,()),(),())∧Al n∧I64 c'∧(c'=0→d.length≤4096) :=
  fun c hc h0=>⟨0,c,rfl,by unfold Al;omega,hc,fun h=>absurd h h0⟩
 unfold I0 Pd
 try dsimp only
 rw[Ad]
 by_cases c1:(d.length:Int)>4096
 ·rw[aa0 c1];exact bad 6 ⟨by omega,by omega⟩ (by omega)
 rw[aa1 c1,Ad]
 by_cases c2:a=0
 ·rw[aa0 c2];exact bad 2 ⟨by omega,by omega⟩ (by omega)
 rw[aa1 c2,Ad]
 by_cases c3:o=0
 ·rw[aa0 c3];exact bad 2 ⟨by omega,by omega⟩ (by omega)
 rw[aa1 c3,Ad]
 by_cases c4:a=18446744073709551615
 ·rw[aa0 c4];exact bad 2 ⟨by omega,by omega⟩ (by omega)
 rw[aa1 c4,Ba0 (by omega),Aa]
 dsimp only
 have ay3:=Akr (l:=m) h8.inv.all ha
 obtain⟨tg,y5,j5⟩:=ay3
 rw[tg]
 dsimp only
 rw[An,Ad]
 by_cases c5:n=non m a
 case neg=>rw[aa1 c5];exact bad 11 ⟨by omega,by omega⟩ (by omega)
 rw[aa0 c5,Ad]
 by_cases c6:IntKind.wrap .u64 (non m a+1)=0
 ·rw[aa0 c6];exact bad 4 ⟨by omega,by omega⟩ (by omega)
 rw[aa1 c6]
 obtain⟨gr,egr,vu,ay4⟩:=Ced h4.w h2
 clear ay4
 cases h4 with
 | mk k1 k2 k3 k4 =>
 rename_i bn bt y6 bf
 have wg:Al bf:=by unfold Al;omega
 dsimp only
 rw[Bw5 hf hp wg,Aa]
 by_cases c7:f<bf
 ·rw[aa0 c7]
  dsimp only
  rw[ab5 (by omega),An,Bn]
  exact bad 12 ⟨by omega,by omega⟩ (by omega)
 rw[aa1 c7]
 dsimp only
 rw[aa7 rfl,An,Ap,egr,Aa]
 dsimp only
 rw[Ad]
 by_cases c8:g>gr
 ·rw[aa0 c8];exact bad 13 ⟨by omega,by omega⟩ (by omega)
 have y7:Al (bf+min tp (f-bf)):=by unfold Al at *;omega
 rw[aa1 c8,Cdv hg hv y7 y5,Aa]
 dsimp only
 rw[An,Ad]
 by_cases c9:g.toNat*(bf+min tp (f-bf))+v≤bal m a
 case neg=>rw[aa1 c9];exact bad 10 ⟨by omega,by omega⟩ (by omega)
 rw[aa0 c9]
 exact⟨_,0,rfl,y7,⟨by omega,by omega⟩,fun _=>by omega⟩
theorem Ckl{N:Nat}{M:L8}(h:MW N M)(hN:N≤100){t:TxT}(ht:TxW t) :
  ∃ (k:Int) (r:Asa) (M':L8),Gz (M,t,())=some (((k,r),()),M',(),())∧MW (N+1) M':=by
 obtain⟨pr,c0,e0,y7,hc0,hd⟩:=By9 h hN ht
 cases h with
 | mk h1 h2 h3 h4 h5 h6 h7 h8 h9 bq =>
 rename_i st bg p b s m vs ms hh r cs q
 have hM:=MW.mk h1 h2 h3 h4 h5 h6 h7 h8 h9 bq
 cases ht with
 | mk ha hn ho hv hg hf hp he yx =>
 rename_i a n o g e v f tp d
 dsimp only at hd
 unfold Gz Vn
 try dsimp only
 rw[e0,Aa]
 dsimp only
 rw[An,Ad]
 by_cases hc:c0=0
 case neg=>rw[aa1 hc];exact⟨_,_,_,rfl,hM.mono (by omega)⟩
 have hd:=hd hc
 rw[aa0 hc]
 cases h4 with
 | mk k1 k2 k3 k4 =>
 rename_i bn bt y6 bf
 have wg:Al bf:=by unfold Al;omega
 obtain⟨un,eun,cz⟩:=h6.up
 dsimp only
 obtain⟨ch,c1,e1,i1,hch⟩:=Bz9 (a:=a) (n:=n) (o:=o) (v:=v) (d:=d) hg he hf hp wg cz (by omega) h2
 rw[eun,e1,Aa]
 dsimp only
 rw[An,Ad]
 by_cases fw:c1=0
 case neg=>rw[aa1 fw];exact⟨_,_,_,rfl,hM.mono (by omega)⟩
 rw[aa0 fw]
 have hch:=hch fw
 cases hch with
 | mk q1 q2 q3 q4 b1 b2 b3 b4 b5 ll cf de =>
 rename_i cu cpo cex cus cfl cti cpf ba8 cne cbu
 dsimp only
 obtain⟨s2,c2,e2,i2,sr⟩:=Bw4 h6 h7 q1
 rw[e2,Aa]
 dsimp only
 rw[An,Ad]
 by_cases qu:c2=0
 case neg=>rw[aa1 qu];exact⟨_,_,_,rfl,hM.mono (by omega)⟩
 rw[aa0 qu]
 obtain⟨w6,w7,_⟩:=sr qu
 obtain⟨x1,m1,v1,f1,l1,n1⟩:=Bsh h8 (by omega) ha b2 (v:=3) ⟨by omega,by omega⟩
 obtain⟨x2,m2,v2,f2,l2,n2⟩:=Bsh l1 (by omega) ha b3 (v:=2) ⟨by omega,by omega⟩
 obtain⟨x3,m3,v3,f3,l3,n3⟩:=Bsh l2 (by omega) ha b4 (v:=1) ⟨by omega,by omega⟩
 obtain⟨x4,m4,v4,f4,l4,n4⟩:=Bsh l3 (by omega) ha b5 (v:=4) ⟨by omega,by omega⟩
 obtain⟨x5,m5,v5,f5,l5,n5⟩:=Cms l4 (by omega) ha
 rw[f1,Aa]
 dsimp only
 rw[f2,Aa]
 dsimp only
 rw[f3,Aa]
 dsimp only
 rw[f4,Aa]
 dsimp only
 rw[f5,Aa,Ckk h5 q3,Aa]
 dsimp only
 have iz:B2 (if bg+cex≤18446744073709551615 then bg+cex else 18446744073709551615):=by
  unfold B2 at h5 q3 ⊢
  split<;>omega
 generalize (if bg+cex≤18446744073709551615 then bg+cex else 18446744073709551615)=qw at *
 have j9:Bpb (bn,bt,IntKind.wrap .u64 (y6+cus),At bf,()):=Bpb.mk k1 k2 (Kx _) k4
 have ve:MW (N+1) (st,p,(bn,bt,IntKind.wrap .u64 (y6+cus),At bf,()),qw,s2,(m5,v5.map At,()),ms,ref hh r cs q,()) :=
  .mk h1 h2 h3 j9 iz w6 w7 l5 (by omega) (bq.mono (by omega))
 cases cfl with
 | true=>exact⟨_,_,_,rfl,ve⟩
 | false =>
 rw[Bn,Ad]
 by_cases c3:o=a
 ·rw[aa0 c3];exact⟨_,_,_,rfl,ve⟩
 rw[aa1 c3,An,Ad]
 by_cases c4:o=18446744073709551615
 case neg =>
  obtain⟨x6,m6,v6,f6,l6,n6⟩:=Ch5 l5 (by omega) ha ho hv
  have hl6:m6.length≤200*(N+1):=by omega
  rw[aa1 c4,f6,Aa]
  exact⟨_,_,_,rfl,.mk h1 h2 h3 j9 iz w6 w7 l6 hl6 (bq.mono (by omega))⟩
 rw[aa0 c4,Wr,Aa]
 dsimp only
 rw[An,Ad]
 by_cases c5:v=0
 ·rw[aa0 c5];exact⟨_,_,_,rfl,ve⟩
 obtain⟨x6,m6,v6,f6,l6,n6⟩:=Cnz l5 (by omega) ha hv
 have hl6:m6.length≤200*(N+1):=by omega
 have yp:=bq.l1
 obtain⟨y,x,f7,hy,hx⟩:=Bwz (st:=st) (bg:=qw) (p:=p) (b:=(bn,bt,IntKind.wrap .u64 (y6+cus),At bf,())) (s:=s2) (L:=(m6,v6.map At,())) (h:=hh) (cs:=cs) (q:=q) bq.allm bq.len (by omega) ha hv
 rw[aa1 c5,f6,Aa]
 dsimp only
 rw[f7,Aa]
 obtain⟨cl,pl,bd⟩:=bq.rel
 have db:=bq.l2
 have wh:=bq.l3
 refine⟨_,_,_,rfl,.mk h1 h2 h3 j9 iz w6 w7 l6 hl6 ⟨fun z hz=>?_,by simp[bq.len],fun z hz=>?_,⟨_,_,bd.snoc x⟩,by simp;omega,ap8 db,ap8 wh⟩⟩
 ·rcases ad9.1 hz with hz|hz
  ·exact bq.allm z hz
  ·obtain rfl:=ac3.1 hz
   exact hy
 ·rcases ad9.1 hz with hz|hz
  ·exact bq.ha z hz
  ·obtain rfl:=ac3.1 hz
   exact hx
theorem Alu.addr{x:Bl}(h:Alu x):B2 x.1:=by cases h;assumption
theorem Cda{m:List A2}{vs:List Nat}(ag:vs.length=4):Ja ((m,vs.map At,()),(3:Int),())=some ((At (vs.getD 2 0),()),(m,vs.map At,()),(),()):=by
 unfold Ja Qc
 simp only[Am]
 rw[Ar (by omega) (by omega),Ad,aa1 (by omega),Ad,aa1 (by omega),Ao,aa0 (by omega),show Int.toNat (3-1)=2 from rfl,Bfz]
theorem Bvf{N:Nat}{M:L8}(h:MW N M)(hN:N≤100){x:Bzf}(hx:Bc8 x) :
  ∃ (k:Int) (r:Asa) (M':L8),Er (M,x,())=some (((k,r),()),M',(),())∧MW (N+1) M':=by
 have hM:=h
 cases h with
 | mk h1 h2 h3 h4 h5 h6 h7 h8 h9 bq =>
 rename_i st bg p b s m vs ms hh r cs q
 have rg:Al (vs.getD 2 0):=by
  have:=h8.lin.sum
  have iq:=Btr vs 2
  unfold Al;omega
 have hbt:B2 b.2.1:=by cases h4;assumption
 obtain⟨s2,t,c1,e1,i1,hr⟩:=Bzn h6 h7 h2 h3 rg hx hbt
 unfold Er M9
 try dsimp only
 rw[Cda h8.lin.len,Aa]
 dsimp only
 rw[e1,Aa]
 dsimp only
 rw[An,Ad]
 by_cases fw:c1=0
 case neg=>rw[aa1 fw];exact⟨_,_,_,rfl,hM.mono (by omega)⟩
 rw[aa0 fw]
 obtain⟨w6,w7,_,_,_,hgp,de,gf⟩:=hr fw
 have y4:∀ x∈t.2.2.1,Alu x:=fun x hx=>(hgp x hx).1
 unfold Al at rg
 rw[Bqv y4 (by omega),Aa,aa0 (by omega)]
 dsimp only
 have yp:=bq.l1
 have db:=bq.l2
 have wh:=bq.l3
 refine Ci (I:=fun y=>∃ (i:Nat) (m':List A2) (gy:List Nat) (ms':List Ea) (r':List (List Int)) (zz:Int×Asa) (rr:Int×Asa),i≤t.2.2.1.length∧LR m' gy∧m'.length≤m.length+2*i∧Vg ms'∧r'.length=ms'.length∧Ul r' ∧
   ms'.length=ms.length+i∧(∃ cl pl,Azt r' cl hh pl cs q)∧rr.2.2.2.2.2.2.2.2.1.length=i ∧
   y=((st,p,b,bg,s2,(m',gy.map At,()),ms',ref hh r' cs q,()),zz,t,rr,(i:Int),()))
  (m:=fun y=>((t.2.2.1.length:Int)-y.2.2.2.2.1).toNat)
  (P:=fun z=>∃ (k:Int) (r:Asa) (M':L8),z=some (((k,r),()),M',(),())∧MW (N+1) M') ?_
  ⟨0,m,vs,ms,r,_,_,ac2 _,h8,by omega,bq.allm,bq.len,bq.ha,rfl,bq.rel,rfl,rfl⟩ (by rw[Au];simp only;omega)
 rintro y aa ⟨i,m',gy,ms',r',zz,rr,hi,q1,q2,q3,q4,q5,q6,q7,q8,rfl⟩ hag
 simp only at hag ⊢
 unfold Wm
 simp only[Am]
 rw[Ad]
 by_cases c:(i:Int)<(t.2.2.1.length:Int)
 ·have hgx:=y4 _ (B3 (d:=F7) (show i<t.2.2.1.length by omega))
  obtain⟨ea,hba⟩:=Btq hgx
  have j4:B2 (t.2.2.1.getD i F7).1:=hgx.addr
  obtain⟨x6,m6,v6,f6,l6,n6⟩:=Coi q1 hba (v:=3) ⟨by omega,by omega⟩
  obtain⟨y2,x2,f7,hy,rv⟩:=Bwz (st:=st) (bg:=bg) (p:=p) (b:=b) (s:=s2) (L:=(m6,v6.map At,())) (h:=hh) (cs:=cs) (q:=q) q3 q4 (by omega) j4 hba
  rw[aa0 c,Ao,aa0 (by omega),aa3,ea,f6,Aa]
  dsimp only
  rw[Ao,aa0 (by omega),Ao,aa0 (by omega),f7,Aa]
  dsimp only
  rw[Byn (by omega),Ar (by omega) (by omega)]
  obtain⟨cl,pl,bd⟩:=q7
  refine hag _ ⟨i+1,m6,v6,ms'++[y2],r'++[x2],zz,_,by omega,l6,by omega,fun z hz=>?_,by simp[q4],fun z hz=>?_,by simp;omega,⟨_,_,bd.snoc x2⟩,?_,by rw[ab0];rfl⟩ (by simp only;omega)
  ·rcases ad9.1 hz with hz|hz
   ·exact q3 z hz
   ·obtain rfl:=ac3.1 hz
    exact hy
  ·rcases ad9.1 hz with hz|hz
   ·exact q5 z hz
   ·obtain rfl:=ac3.1 hz
    exact rv
  ·show (rr.2.2.2.2.2.2.2.2.1++[y2]).length=i+1
   rw[aa4,q8];rfl
 ·rw[aa1 c]
  have ay5:m'.length≤200*(N+1):=by omega
  have ay6:ms'.length≤100*(N+1):=by omega
  exact⟨rr.1,rr.2,_,rfl,.mk h1 h2 h3 h4 h5 w6 w7 q1 ay5 ⟨q3,q4,q5,q7,ay6,ap8 db,ap8 wh⟩⟩
theorem Bp4{a b c:Int}(ha:B2 a):B2 (((a.toNat-b.toNat*c.toNat:Nat):Int)):=by
 unfold B2 at *
 have:=Nat.sub_le a.toNat (b.toNat*c.toNat)
 omega
theorem Bzl{N:Nat}{M:L8}(h:MW N M)(hN:N≤100){s:Aer}(hs:Sb s) :
  ∃ (c:Int) (M':L8),E9 (M,s,())=some ((c,()),M',(),())∧MW (N+1) M':=by
 have hM:=h
 cases h with
 | mk h1 h2 h3 h4 h5 h6 h7 h8 h9 bq =>
 rename_i st bg p b pr m vs ms hh r cs q
 cases hs with
 | mk hk ht ha hb hc hs hy hv hd hq =>
 rename_i k t xa xb xc se y v d qc
 unfold E9 Ox
 try dsimp only
 rw[Ad]
 by_cases c1:k=3
 ·rw[aa0 c1]
  have nv:B2 p.1:=by cases h2;assumption
  obtain⟨kb,c,e,w,i,hc⟩:=Cfm h4.w hs (Bp4 (b:=p.1) (c:=se) h5) h2
  rw[Cgv h5 nv hs,Aa]
  dsimp only
  rw[e,Aa]
  dsimp only
  rw[Ad]
  by_cases h0:c=0
  ·rw[aa0 h0]
   exact⟨_,_,rfl,.mk h1 h2 h3 (hc h0).2.2 (Bp4 h5) h6 h7 h8 (by omega) (bq.mono (by omega))⟩
  ·rw[aa1 h0];exact⟨_,_,rfl,hM.mono (by omega)⟩
 rw[aa1 c1,Ad]
 by_cases c2:k=4
 ·rw[aa0 c2]
  obtain⟨p',c,e,w,yz⟩:=Cin h2 h3 y hv hy
  rw[e,Aa]
  dsimp only
  rw[Ad]
  by_cases h0:c=0
  ·rw[aa0 h0]
   exact⟨_,_,rfl,.mk h1 w (yz h0) h4 h5 h6 h7 h8 (by omega) (bq.mono (by omega))⟩
  ·rw[aa1 h0];exact⟨_,_,rfl,hM.mono (by omega)⟩
 rw[aa1 c2,Ad]
 by_cases c3:k=5
 ·rw[aa0 c3]
  obtain⟨pr',c,e,_,w⟩:=Bsv h6 h7 hd
  rw[e,Aa]
  dsimp only
  rw[Ad]
  by_cases h0:c=0
  ·obtain⟨w6,w7,_⟩:=w h0
   rw[aa0 h0]
   exact⟨_,_,rfl,.mk h1 h2 h3 h4 h5 w6 w7 h8 (by omega) (bq.mono (by omega))⟩
  ·rw[aa1 h0];exact⟨_,_,rfl,hM.mono (by omega)⟩
 rw[aa1 c3,Ad]
 obtain⟨cl,pl,bd⟩:=bq.rel
 have hhh:=bd.inv.held
 have db:=bq.l2
 have wh:=bq.l3
 have yp:=bq.l1
 have ag:=bq.len
 by_cases c4:k=6
 ·rw[aa0 c4,Ad]
  by_cases d1:d=0
  ·rw[aa0 d1];exact⟨_,_,rfl,hM.mono (by omega)⟩
  rw[aa1 d1,Ad]
  by_cases d2:d=18446744073709551615
  ·rw[aa0 d2];exact⟨_,_,rfl,hM.mono (by omega)⟩
  rw[aa1 d2,Wr,Aa]
  dsimp only
  rw[Ad]
  by_cases d3:v=0
  ·rw[aa0 d3];exact⟨_,_,rfl,hM.mono (by omega)⟩
  have l1:=Nf hhh
  have l2:=Nf hv
  rw[aa1 d3,Cd hhh,Aa,Cd hv,Aa]
  dsimp only
  rw[Cy (by omega) (by omega),Aa]
  dsimp only
  rw[Oq,Aa]
  dsimp only
  rw[An,Ad]
  by_cases d4:hh+v<115792089237316195423570985008687907853269984665640564039457584007913129639936
  case neg=>rw[aa1 d4];exact⟨_,_,rfl,hM.mono (by omega)⟩
  obtain⟨x6,m6,v6,f6,_,l6,n6⟩:=Ckm h8 (by omega) hd hv
  have hm6:m6.length≤200*(N+1):=by omega
  rw[aa0 d4,Bxo hhh hv,Aa,aa1 d3,aa0 d4,aa1 d3,aa0 d4]
  dsimp only
  rw[f6,Aa]
  have pq:Azt r cl (hh+v) pl cs q:=⟨⟨bd.inv.len,d4,bd.inv.srt,bd.inv.ne,bd.inv.all⟩,bd.cls,bd.dist,bd.all,bd.ne,bd.sort⟩
  exact⟨_,_,rfl,.mk h1 h2 h3 h4 h5 h6 h7 l6 hm6 ⟨bq.allm,bq.len,bq.ha,⟨_,_,pq⟩,by omega,ap8 db,ap8 wh⟩⟩
 rw[aa1 c4]
 cases hq with
 | mk g1 g2 g3 g4 g5 =>
 obtain⟨og,q',e,pq,n1,n2⟩:=Cku bd (by omega) (by omega) (by omega) g1 g2 g3 g4 g5
 rw[e,Aa]
 have er:og.length≤N+1:=by omega
 have nq:q'.length≤N+1:=by omega
 exact⟨_,_,rfl,.mk h1 h2 h3 h4 h5 h6 h7 h8 (by omega) ⟨bq.allm,bq.len,bq.ha,⟨_,_,pq⟩,by omega,er,nq⟩⟩
theorem Cfn:PV ((7000000:Int),(10:Int),(102:Int),[(100000000:Int),0,0,0],(32000000:Int),[(60000000:Int),0,0,0],(1000:Int),[(10:Int),0,0,0],(160000000:Int),(10:Int),(16:Int),(65536:Int),()):=by
 unfold PV
 decide
theorem Cnf:Azt [] [] 0 [] [] []:=⟨Cfw,fun s _=>by simp,List.Pairwise.nil,fun x h=>by simp at h,fun x h=>by simp at h,rfl⟩
theorem Cl3:LR [] [0,0,0,0]:=⟨⟨List.Pairwise.nil,fun x h=>by simp at h⟩,⟨List.Pairwise.nil,fun x h=>by simp[Ce] at h,fun x h=>by simp[Ce] at h,fun x h=>by simp[Ce] at h,rfl,by simp[Ce,Fr]⟩⟩
theorem Cph:Al5 ([(1000000000:Int),0,0,0],(0:Int),(0:Int),(0:Int),(false,z4,()),([]:List Aq),()) :=
 ⟨⟨1000000000,rfl,by unfold Al;omega⟩,⟨by decide,by decide⟩,⟨by decide,by decide⟩,⟨by decide,by decide⟩,Ax6.mk (n:=0) (by unfold Al;omega),(fun p hp=>by cases hp),ac2 _⟩
theorem Cpx:PRV ([(1000000000:Int),0,0,0],(0:Int),(0:Int),(0:Int),(false,z4,()),([]:List Aq),()) :=
 ⟨⟨ac2 _,fun i hi=>by simp at hi⟩,rfl,fun p hp=>by cases hp⟩
theorem Cdu:∃ M:L8,Acc ()=some ((M,()),())∧MW 0 M:=by
 obtain⟨f,e,h1,h2⟩:=Bvc Bqi Cfn
 unfold Acc Aq2
 rw[show X5 ()=some ((((7000000:Int),(10:Int),(102:Int),[(100000000:Int),0,0,0],(32000000:Int),[(60000000:Int),0,0,0],(1000:Int),[(10:Int),0,0,0],(160000000:Int),(10:Int),(16:Int),(65536:Int),()),()),()) from rfl,Aa]
 dsimp only
 rw[e,Aa,show X9 ()=some ((([(1000000000:Int),0,0,0],(0:Int),(0:Int),(0:Int),(false,z4,()),([]:List Aq),()),()),()) from rfl,Aa,
  show Ai6 ()=some ((([],[0,0,0,0].map At,()),()),()) from rfl,Aa,show Ajn ()=some ((ref 0 [] [] [],()),()) from rfl,Aa]
 exact⟨_,rfl,.mk ⟨by decide,by decide⟩ Bqi Cfn (Bpb.mk ⟨by decide,by decide⟩ ⟨by decide,by decide⟩ ⟨by decide,by decide⟩ h2) ⟨by decide,by decide⟩ Cph Cpx Cl3 (ac2 _)
  ⟨fun x h=>by simp at h,rfl,fun x h=>by simp at h,⟨_,_,Cnf⟩,ac2 _,ac2 _,ac2 _⟩⟩
abbrev By6:=Int×Asa
theorem Bxg{N:Nat}{M:L8}(h:MW N M)(hN:N≤100){s:Aer}(hs:Sb s) :
  ∃ (r:By6) (M':L8),Fi (M,s,())=some ((r,()),M',(),())∧MW (N+1) M':=by
 have hvk:∃ b,Jv (s.1,())=some ((b,()),(),()):=by
  unfold Jv Yf
  try dsimp only
  rw[Ad]
  split
  ·exact⟨_,rfl⟩
  ·exact⟨_,rfl⟩
 obtain⟨vk,evk⟩:=hvk
 have key:∀ M2:L8,MW N M2→(∃ (k:Int) (r:Asa) (M':L8),Gz (M2,s.2.1,())=some (((k,r),()),M',(),())∧MW (N+1) M') ∧
   (∃ (k:Int) (r:Asa) (M':L8),Er (M2,s.2.2.1,())=some (((k,r),()),M',(),())∧MW (N+1) M') ∧
   ∃ (c:Int) (M':L8),E9 (M2,s,())=some ((c,()),M',(),())∧MW (N+1) M':=fun M2 h2=>by
  refine⟨?_,?_,Bzl h2 hN hs⟩
  ·cases hs with
   | mk hk ht ha hb hc hs hy hv hd hq=>exact Ckl h2 hN ht
  ·cases hs with
   | mk hk ht ha hb hc hs hy hv hd hq=>exact Bvf h2 hN (Bc8.mk ha hb hc)
 unfold Fi L2
 rw[Am]
 dsimp only
 cases h with
 | mk h1 h2 h3 h4 h5 h6 h7 h8 h9 bq =>
 rename_i st bg p b pr m vs ms hh r cs q
 dsimp only
 rw[An,Ad]
 have tail:∀ jl:Int,B2 jl→MW N (jl,p,b,bg,pr,(m,vs.map At,()),ms,ref hh r cs q,()):=fun jl ci=>.mk ci h2 h3 h4 h5 h6 h7 h8 h9 bq
 have both:∀ (jl:Int),B2 jl→∃ (r':By6) (M':L8),(Option.bind (Jv (s.1,())) (fun y_1 =>
   (Ag (!y_1.1.1) (some ((((0:Int),(17:Int),Cml,z4,z4,(0:Int),z4,z4,([]:List Ea),()),()),((jl,p,b,bg,pr,(m,vs.map At,()),ms,ref hh r cs q,()):L8),(),()))
    (Ag (decide (s.1=(1:Int))) (Option.bind (Gz ((jl,p,b,bg,pr,(m,vs.map At,()),ms,ref hh r cs q,()),s.2.1,())) (fun y_2=>some (((s.1,y_2.1.1.2),()),y_2.2.1,(),())))
     (Ag (decide (s.1=(2:Int))) (Option.bind (Er ((jl,p,b,bg,pr,(m,vs.map At,()),ms,ref hh r cs q,()),s.2.2.1,())) (fun y_3=>some (((s.1,y_3.1.1.2),()),y_3.2.1,(),())))
      (Option.bind (E9 ((jl,p,b,bg,pr,(m,vs.map At,()),ms,ref hh r cs q,()),s,())) (fun y_4=>some (((s.1,y_4.1.1,Cml,z4,z4,(0:Int),z4,z4,([]:List Ea),()),()),y_4.2.1,(),()))))))))=some ((r',()),M',(),())∧MW (N+1) M':=by
  intro jl ci
  have hm:=tail jl ci
  obtain⟨⟨k1,r1,M1,e1,w1⟩,⟨k2,r2,M2,e2,w2⟩,⟨c3,M3,e3,w3⟩⟩:=key _ hm
  rw[evk,Aa,e1,e2,e3,Aa,Aa,Aa]
  dsimp only
  cases vk with
  | false=>exact⟨_,_,rfl,hm.mono (by omega)⟩
  | true =>
   rw[an1,Bn,Ad]
   by_cases c1:s.1=1
   ·rw[aa0 c1];exact⟨_,_,rfl,w1⟩
   rw[aa1 c1,Ad]
   by_cases c2:s.1=2
   ·rw[aa0 c2];exact⟨_,_,rfl,w2⟩
   rw[aa1 c2]
   exact⟨_,_,rfl,w3⟩
 by_cases c:IntKind.wrap .u64 (st+1)=0
 ·rw[aa0 c];exact both st h1
 ·rw[aa1 c];exact both _ (Kx _)
abbrev StT:=Int×(J9×Ae5×Int×Ux×List A2×List (List Int)×List Ea×List Bool×List Int×List Bl×Unit)
inductive StW(B:Nat):StT→Prop
 | mk {st bg:Int} {p:J9} {b:Ae5} {s:Ux} {ac:List A2} {vs:List Nat} {ms:List Ea} {cl:List Bool} {h:Nat} {l1:List Bl}
   (h1:B2 st) (h2:Uk p) (h4:Bet b) (h5:B2 bg) (h6:Al5 s) (h7:s.2.2.2.2.2.1.length≤1000) (h8:Aaf ac) (h9:ac.length≤B) (v1:vs.length=4) (v2:∀ n∈vs,Al n) (m1:Vg ms) (m2:ms.length≤B) (c1:cl.length≤B) (e1:Al h)
   (p1:G1 l1) (p2:l1.length≤B):StW B (st,p,b,bg,s,ac,vs.map At,ms,cl,At h,l1,())
theorem StW.mono{B B':Nat}(hB:B≤B'){s:StT}(h:StW B s):StW B' s:=by
 cases h with
 | mk h1 h2 h4 h5 h6 h7 h8 h9 v1 v2 m1 m2 c1 e1 p1 p2=>exact .mk h1 h2 h4 h5 h6 h7 h8 (by omega) v1 v2 m1 (by omega) (by omega) e1 p1 (by omega)
theorem Cem(m:List A2):(Ce m).length≤m.length:=by
 have:=Bk9 m []
 simpa [Ce] using this
theorem Bro:∀ (m o:List Bl),(m.foldl Ns o).length≤o.length+m.length
 | [],o=>by simp
 | x::m,o=>by
  have h1:=Bro m (Ns o x)
  have h2:=Bn7 o x
  simp only[ap0,ac5]
  omega
theorem Cdi(m:List Bl):(Art m).length≤m.length:=by
 have:=Bro m []
 simpa [Art] using this
theorem Cdl{N:Nat}{M:L8}(h:MW N M)(hN:N≤100):∃ s:StT,E6 (M,())=some ((s,()),M,())∧StW (200*N) s:=by
 cases h with
 | mk h1 h2 h3 h4 h5 h6 h7 h8 h9 bq =>
 rename_i st bg p b pr m vs ms hh r cs q
 have yp:=bq.l1
 have db:=bq.l2
 have wh:=bq.l3
 have gf:=h7.ps.1
 obtain⟨cl0,pl,bd⟩:=bq.rel
 have la:=Cem m
 have lp:=Cdi q
 unfold E6 O5
 try dsimp only
 rw[Btm h8.inv (by omega),Aa,Byn (by omega),Bzy bd.dist bd.ne (by omega),Aa,Go.Pon.roomyP (by omega),Ap]
 dsimp only
 refine Ci (I:=fun y=>∃ (i:Nat) (cl:List Bool) (z:StT),i≤ms.length∧cl.length=i ∧
   y=((st,p,b,bg,pr,(m,vs.map At,()),ms,ref hh r cs q,()),z,(st,p,b,bg,pr,Ce m,vs.map At,ms,cl,At hh,Art q,()),(i:Int),()))
  (m:=fun y=>((ms.length:Int)-y.2.2.2.1).toNat)
  (P:=fun w=>∃ s:StT,w=some ((s,()),(st,p,b,bg,pr,(m,vs.map At,()),ms,ref hh r cs q,()),())∧StW (200*N) s) ?_ ⟨0,[],_,ac2 _,rfl,rfl⟩ (by rw[Au];simp only;omega)
 rintro y aa ⟨i,cl,z,hi,f9,rfl⟩ hag
 simp only at hag ⊢
 unfold Xu
 try dsimp only
 rw[Ad]
 by_cases c:(i:Int)<(ms.length:Int)
 ·rw[aa0 c,Biv (by omega),Aa,Cjm (by omega),Ap,Ar (by omega) (by omega)]
  dsimp only
  exact hag _ ⟨i+1,List.append cl [decide (IntKind.wrap .u64 (i:Int)∈cs)],z,by omega,by simp[f9],by rw[ab0];rfl⟩ (by simp only;omega)
 ·rw[aa1 c]
  exact⟨_,rfl,.mk h1 h2 h4.w h5 h6 (by omega) h8.lin.all (by omega) h8.lin.len h8.lin.vB bq.allm (by omega) (by omega) bd.inv.held (Cb9 bd.all) (by omega)⟩
def Bi3(p:J9):List (Nat×Int×Int) :=
 [(p.1.toNat,1,1099511627776),(p.2.1.toNat,0,1048576),(p.2.2.1.toNat,1,1048576),(D8 p.2.2.2.1,1,18446744073709551615),(p.2.2.2.2.1.toNat,1,1099511627776),
  (D8 p.2.2.2.2.2.1,0,18446744073709551615),(p.2.2.2.2.2.2.1.toNat,0,10000),(D8 p.2.2.2.2.2.2.2.1,0,18446744073709551615),(p.2.2.2.2.2.2.2.2.1.toNat,1,1099511627776),
  (p.2.2.2.2.2.2.2.2.2.1.toNat,1,1048576),(p.2.2.2.2.2.2.2.2.2.2.1.toNat,0,1048576),(p.2.2.2.2.2.2.2.2.2.2.2.1.toNat,p.2.2.2.2.2.2.2.2.2.2.1,16777216)]
def pOk(x:Nat×Int×Int):Prop:=x.2.1≤(x.1:Int)∧(x.1:Int)≤x.2.2
structure Ave(p:J9)(i:Nat)(x:Nat×Int×Int):Prop where
 get:Ag6 (p,((i+1:Nat):Int),())=some ((At x.1,(0:Int),()),(),(),())
 bnd:Yp (p,((i+1:Nat):Int),())=some ((x.2.1,x.2.2,()),(),(),())
 b1:Al x.1
 b2:B2 x.2.1
 b3:B2 x.2.2
theorem Bgn{x:Int}(h:B2 x):Al x.toNat:=by unfold B2 at h;unfold Al;omega
theorem Cpk{p:J9}(h:Uk p):∀ i,i<12→Ave p i ((Bi3 p).getD i (0,0,0)):=by
 obtain⟨h1,h2,h3,h4,h5,h6,h7,h8,h9,bq,pc,u9⟩:=h
 rename_i sp to bi gl bb eu pi mi ma fe ic ep
 have U0:B2 0:=⟨by decide,by decide⟩
 have U1:B2 1:=⟨by decide,by decide⟩
 have Ua:B2 1099511627776:=⟨by decide,by decide⟩
 have Ub:B2 1048576:=⟨by decide,by decide⟩
 have Uc:B2 18446744073709551615:=⟨by decide,by decide⟩
 have Ud:B2 10000:=⟨by decide,by decide⟩
 have Ue:B2 16777216:=⟨by decide,by decide⟩
 have fu:∀ {x:Int},B2 x→(Option.bind (Db (x,())) fun y=>some ((y.1.1,(0:Int),()),(((),(),()):Unit×Unit×Unit)))=some ((At x.toNat,(0:Int),()),(),(),()):=fun hx=>by
  rw[Akc hx.1 hx.2];rfl
 have ge:∀ n,At (D8 (At n))=At n:=fun n=>by rw[Bi]
 intro i hi
 have k0:Ave (sp,to,bi,At fe,gl,At ic,bb,At ep,eu,pi,mi,ma,()) 0 (sp.toNat,1,1099511627776):=⟨fu h1,rfl,Bgn h1,U1,Ua⟩
 have k1:Ave (sp,to,bi,At fe,gl,At ic,bb,At ep,eu,pi,mi,ma,()) 1 (to.toNat,0,1048576):=⟨fu h2,rfl,Bgn h2,U0,Ub⟩
 have k2:Ave (sp,to,bi,At fe,gl,At ic,bb,At ep,eu,pi,mi,ma,()) 2 (bi.toNat,1,1048576):=⟨fu h3,rfl,Bgn h3,U1,Ub⟩
 have k3:Ave (sp,to,bi,At fe,gl,At ic,bb,At ep,eu,pi,mi,ma,()) 3 (D8 (At fe),1,18446744073709551615):=⟨am6 (fun z=>some ((z,(0:Int),()),(((),(),()):Unit×Unit×Unit))) (ge fe).symm,rfl,(by rw[Bi];exact h4),U1,Uc⟩
 have k4:Ave (sp,to,bi,At fe,gl,At ic,bb,At ep,eu,pi,mi,ma,()) 4 (gl.toNat,1,1099511627776):=⟨fu h5,rfl,Bgn h5,U1,Ua⟩
 have k5:Ave (sp,to,bi,At fe,gl,At ic,bb,At ep,eu,pi,mi,ma,()) 5 (D8 (At ic),0,18446744073709551615):=⟨am6 (fun z=>some ((z,(0:Int),()),(((),(),()):Unit×Unit×Unit))) (ge ic).symm,rfl,(by rw[Bi];exact h6),U0,Uc⟩
 have k6:Ave (sp,to,bi,At fe,gl,At ic,bb,At ep,eu,pi,mi,ma,()) 6 (bb.toNat,0,10000):=⟨fu h7,rfl,Bgn h7,U0,Ud⟩
 have k7:Ave (sp,to,bi,At fe,gl,At ic,bb,At ep,eu,pi,mi,ma,()) 7 (D8 (At ep),0,18446744073709551615):=⟨am6 (fun z=>some ((z,(0:Int),()),(((),(),()):Unit×Unit×Unit))) (ge ep).symm,rfl,(by rw[Bi];exact h8),U0,Uc⟩
 have k8:Ave (sp,to,bi,At fe,gl,At ic,bb,At ep,eu,pi,mi,ma,()) 8 (eu.toNat,1,1099511627776):=⟨fu h9,rfl,Bgn h9,U1,Ua⟩
 have k9:Ave (sp,to,bi,At fe,gl,At ic,bb,At ep,eu,pi,mi,ma,()) 9 (pi.toNat,1,1048576):=⟨fu bq,rfl,Bgn bq,U1,Ub⟩
 have mc:Ave (sp,to,bi,At fe,gl,At ic,bb,At ep,eu,pi,mi,ma,()) 10 (mi.toNat,0,1048576):=⟨fu pc,rfl,Bgn pc,U0,Ub⟩
 have md:Ave (sp,to,bi,At fe,gl,At ic,bb,At ep,eu,pi,mi,ma,()) 11 (ma.toNat,mi,16777216):=⟨fu u9,rfl,Bgn u9,pc,Ue⟩
 match i with
 | 0=>exact k0
 | 1=>exact k1
 | 2=>exact k2
 | 3=>exact k3
 | 4=>exact k4
 | 5=>exact k5
 | 6=>exact k6
 | 7=>exact k7
 | 8=>exact k8
 | 9=>exact k9
 | 10=>exact mc
 | 11=>exact md
 | k+12=>omega
theorem Cb3{a b:Nat}:Agg a b<0↔a<b:=by
 unfold Agg
 split
 ·omega
 ·split<;>omega
theorem Cbx{a b:Nat}:Agg a b>0↔b<a:=by
 unfold Agg
 split
 ·omega
 ·split<;>omega
theorem Cdp{p:J9}(h:Uk p):∃ r:Int,I3 (p,())=some ((r,()),(),())∧(r=0↔∀ i,i<12→pOk ((Bi3 p).getD i (0,0,0))):=by
 have hf:=Cpk h
 unfold I3 Ot
 refine Ci (I:=fun y=>∃ i:Nat,i≤12∧(∀ j,j<i→pOk ((Bi3 p).getD j (0,0,0)))∧y=(p,((i+1:Nat):Int),())) (m:=fun y=>(13-y.2.1).toNat)
  (P:=fun w=>∃ r:Int,w=some ((r,()),(),())∧(r=0↔∀ i,i<12→pOk ((Bi3 p).getD i (0,0,0)))) ?_ ⟨0,by omega,fun j hj=>by omega,rfl⟩ (by rw[Au];simp only;omega)
 rintro y aa ⟨i,hi,hj,rfl⟩ hag
 simp only at hag ⊢
 unfold Ys
 rw[Ad]
 by_cases c:((i+1:Nat):Int)≤12
 ·obtain⟨e1,e2,b1,b2,b3⟩:=hf i (by omega)
  generalize hx:(Bi3 p).getD i (0,0,0)=x at *
  obtain⟨n,lo,fh⟩:=x
  dsimp only at e1 e2 b1 b2 b3
  rw[aa0 c,e1,Aa,e2,Aa]
  dsimp only
  rw[Akc b2.1 b2.2,Aa]
  dsimp only
  rw[Cav b1 (Bgn b2),Aa]
  dsimp only
  rw[Ad]
  by_cases c1:Agg n lo.toNat<0
  ·rw[aa0 c1]
   refine⟨_,rfl,fun h=>by omega,fun h=>?_⟩
   have:=h i (by omega)
   rw[hx] at this
   have c1:=Cb3.1 c1
   obtain⟨t1,t2⟩:=this
   simp only at t1 t2
   have:=b2.1
   omega
  rw[aa1 c1,Akc b3.1 b3.2,Aa]
  dsimp only
  rw[Cav b1 (Bgn b3),Aa]
  dsimp only
  rw[Ad]
  by_cases c2:Agg n fh.toNat>0
  ·rw[aa0 c2]
   refine⟨_,rfl,fun h=>by omega,fun h=>?_⟩
   have:=h i (by omega)
   rw[hx] at this
   have c2:=Cbx.1 c2
   obtain⟨t1,t2⟩:=this
   simp only at t1 t2
   have:=b3.1
   omega
  rw[aa1 c2,Ar (by omega) (by omega)]
  refine hag _ ⟨i+1,by omega,fun j vq=>?_,rfl⟩ (by simp only;omega)
  by_cases e:j=i
  ·subst e
   rw[hx]
   have d1:¬ n<lo.toNat:=fun h=>c1 (Cb3.2 h)
   have d2:¬ fh.toNat<n:=fun h=>c2 (Cbx.2 h)
   have:=b2.1
   have:=b3.1
   exact⟨by simp only;omega,by simp only;omega⟩
  ·exact hj j (by omega)
 ·rw[aa1 c]
  exact⟨_,rfl,fun _ i' fh=>hj i' (by omega),fun _=>rfl⟩
theorem Cct{p:J9}(h:Uk p):(∀ i,i<12→pOk ((Bi3 p).getD i (0,0,0)))↔PV p:=by
 obtain⟨h1,h2,h3,h4,h5,h6,h7,h8,h9,bq,pc,u9⟩:=h
 rename_i sp to bi gl bb eu pi mi ma fe ic ep
 unfold B2 at *
 unfold PV
 constructor
 ·intro h
  have q0:=h 0 (by omega)
  have q1:=h 1 (by omega)
  have q2:=h 2 (by omega)
  have q3:=h 3 (by omega)
  have q4:=h 4 (by omega)
  have q5:=h 5 (by omega)
  have q6:=h 6 (by omega)
  have q7:=h 7 (by omega)
  have q8:=h 8 (by omega)
  have q9:=h 9 (by omega)
  have q10:=h 10 (by omega)
  have q11:=h 11 (by omega)
  simp only[Bi3,pOk,ah1,ag6] at q0 q1 q2 q3 q4 q5 q6 q7 q8 q9 q10 q11
  dsimp only
  refine⟨⟨⟨?_,?_⟩,⟨?_,?_⟩,?_,?_⟩,⟨?_,?_⟩,⟨?_,?_⟩,⟨?_,?_⟩,⟨?_,?_⟩,⟨?_,?_⟩,⟨?_,?_⟩,⟨?_,?_⟩,⟨?_,?_⟩,?_,?_⟩<;>omega
 ·rintro⟨⟨⟨a1,a2⟩,⟨a3,a4⟩,a5,a6⟩,⟨a7,a8⟩,⟨a9,a10⟩,⟨a11,a12⟩,⟨a13,a14⟩,⟨a15,a16⟩,⟨a17,a18⟩,⟨a19,a20⟩,⟨a21,a22⟩,a23,a24⟩ i hi
  dsimp only at *
  match i with
  | 0|1|2|3|4|5|6|7|8|9|10|11=>simp only[Bi3,pOk,ah1,ag6];omega
  | k+12=>omega
theorem Blo{p:J9}(h:Uk p):S6 (p,())=some ((decide (PV p),()),(),()):=by
 obtain⟨r,e,hr⟩:=Cdp h
 rw[Cct h] at hr
 unfold S6 Aga
 try dsimp only
 rw[e,Aa]
 dsimp only
 rw[show decide (r=0)=decide (PV p) by rw[aj5];exact hr]
def Bh6(i x y:Nat):List Int:=(List.range 5).map fun j=>(((if j<i then lb x j else lb y j):Nat):Int)
def Ab2(n:Nat):List Int:=Bh6 0 n n
theorem Ab6(i x y:Nat):(Bh6 i x y).length=5:=by simp[Bh6]
theorem Aeo{i x y j:Nat}(hj:j<5):(Bh6 i x y).getD j 0=(((if j<i then lb x j else lb y j):Nat):Int):=by
 simp[Bh6,aa2,hj]
theorem Byg{i x y:Nat}(hi:i<5):(Bh6 i x y).set i ((lb x i:Nat):Int)=Bh6 (i+1) x y:=by
 refine Aln (d:=0) (by rw[ae1,Ab6,Ab6]) fun j hj=>?_
 rw[ae1,Ab6] at hj
 rw[Aeo hj]
 by_cases e:j=i
 ·subst e
  rw[aa2,List.getElem?_set_self (by rw[Ab6];omega),aa0 (by omega)]
  rfl
 ·rw[aa2,List.getElem?_set_ne (by omega),← aa2,Aeo hj]
  by_cases c:j<i
  ·rw[aa0 c,aa0 (by omega)]
  ·rw[aa1 c,aa1 (by omega)]
theorem Cmh(x y:Nat):Bh6 5 x y=Ab2 x:=by
 refine Aln (d:=0) (by rw[Ab2,Ab6,Ab6]) fun j hj=>?_
 rw[Ab6] at hj
 rw[Ab2,Aeo hj,Aeo hj,aa0 hj,aa1 (by omega)]
theorem Cmw(x y:Nat):Bh6 0 x y=Ab2 y:=by
 refine Aln (d:=0) (by rw[Ab2,Ab6,Ab6]) fun j hj=>?_
 rw[Ab6] at hj
 rw[Ab2,Aeo hj,Aeo hj]
 simp
theorem Brf:Ab2 0=[(0:Int),0,0,0,0]:=by decide
theorem Bxz{x y:Nat}(hx:x<2135987035920910082395021706169552114602704522356652769947041607822219725780640550022962086936576)(hy:y<2135987035920910082395021706169552114602704522356652769947041607822219725780640550022962086936576):Ab2 x=Ab2 y↔x=y:=by
 constructor
 ·intro h
  unfold Ab2 Bh6 lb at h
  simp only[at4,List.range_zero,af8,at2,ae5,ak0,ab6,aq5,ah2,Nat.pow_one,Nat.reducePow,al6,ao9,Nat.not_lt_zero,if_false,aq4] at h
  obtain⟨h0,h1,h2,h3,h4⟩:=h
  omega
 ·intro h;rw[h]
theorem Bes{a b:Nat}(vn:a+b<2135987035920910082395021706169552114602704522356652769947041607822219725780640550022962086936576)(hb:Al b) :
  Es (Ab2 a,At b,())=some ((Ab2 (a+b),()),(),(),()):=by
 unfold Al at hb
 unfold Es Aa3
 refine Ai (I:=fun x=>∃ i c:Nat,i≤4∧c≤1∧(a+b) / 18446744073709551616 ^ i=a / 18446744073709551616 ^ i+b / 18446744073709551616 ^ i+c ∧
   x=(Bh6 i (a+b) a,At b,[(0:Int),0,0,0,0],(c:Int),(i:Int),()))
  (m:=fun x=>((4:Int)-x.2.2.2.2.1).toNat) (g:=fun _=>some ((Ab2 (a+b),()),(),(),())) ?_
  ⟨0,0,by omega,by omega,by simp,by rw[Cmw];rfl⟩ (by rw[Au];simp only;omega)
 rintro x aa ⟨i,c,hi,hc,hd,rfl⟩ hag
 simp only at hag ⊢
 unfold Ae7
 simp only[Ad,Ao,An]
 by_cases h1:(i:Int)<4
 ·obtain⟨s1,s2,s3⟩:=Boa hc hd
  have wd:((Bh6 i (a+b) a).getD i 0)=((lb a i:Nat):Int):=by rw[Aeo (by omega),aa1 (by omega)]
  rw[aa0 h1,aa0 (by omega),aa0 (by omega),aa3,wd,Als hb (by omega),Blh (by omega)]
  simp only[Aa]
  rw[aa0 (by omega),Aur.1,Aur.2,s1,Byg (by omega),Ar (by omega) (by omega)]
  exact hag _ ⟨i+1,_,by omega,s2,s3,by rw[ab0];rfl⟩ (by simp only;omega)
 ·have rn:i=4:=by omega
  subst rn
  rw[aa1 h1]
  have e:IntKind.wrap .u64 (((Bh6 4 (a+b) a).getD 4 0)+(c:Int))=((lb (a+b) 4:Nat):Int):=by
   rw[Aeo (by omega),aa1 (by omega)]
   unfold lb
   rw[hd]
   simp only[Nat.reducePow] at *
   rw[am8]
   omega
  rw[e,Byg (by omega),Cmh]
theorem Btd{l:List Nat}(hl:l.length≤1000)(hb:∀ n∈l,Al n):Li (l.map At,())=some ((Ab2 l.sum,()),(),()):=by
 have hs:∀ i,(l.take i).sum≤i*115792089237316195423570985008687907853269984665640564039457584007913129639936:=by
  intro i
  induction i with
  | zero=>simp
  | succ i ih =>
   by_cases h:i<l.length
   ·have:(l.take (i+1)).sum=(l.take i).sum+l.getD i 0:=by
     rw[ap7,aa6 h,ar1,aa2,aa6 h]
     simp
    have j9:=hb _ (B3 (d:=0) h)
    unfold Al at j9
    rw[this,ae4,ap4]
    omega
   ·rw[aa8 (by omega)]
    rw[aa8 (by omega)] at ih
    refine af2 ih (ac6 _ (by omega))
 unfold Li Arb
 try dsimp only
 refine Ai (I:=fun x=>∃ i:Nat,i≤l.length∧x=([(0:Int),0,0,0,0],Ab2 (l.take i).sum,l.map At,((l.length:Nat):Int),((i:Nat):Int),()))
  (m:=fun x=>(((l.length:Nat):Int)-x.2.2.2.2.1).toNat) (g:=fun _=>some ((Ab2 l.sum,()),(),())) ?_
  ⟨0,by omega,by rw[ag1,au2,Brf,ag7];rfl⟩ (by rw[Au];simp only;omega)
 rintro x aa ⟨i,hi,rfl⟩ hag
 simp only at hag ⊢
 unfold Aq5
 rw[Ad,ag7]
 by_cases h1:((i:Nat):Int)<((l.length:Nat):Int)
 ·have e1:(l.take (i+1)).sum=(l.take i).sum+l.getD i 0:=by
   rw[ap7,aa6 (by omega),ar1,aa2,aa6 (by omega)]
   simp
  have j9:=hb _ (B3 (d:=0) (show i<l.length by omega))
  have hs1:=hs i
  have e2:(l.map At).getD i [(0:Int),0,0,0]=At (l.getD i 0):=by
   rw[aa2,aa2,ag3,aa6 (by omega)];rfl
  have di:i*115792089237316195423570985008687907853269984665640564039457584007913129639936≤1000*115792089237316195423570985008687907853269984665640564039457584007913129639936:=ac6 _ (by omega)
  rw[aa0 h1,Ao,aa0 (by omega),aa3,e2]
  unfold Al at j9
  rw[Bes (by omega) j9,Aa,Ar (by omega) (by omega),← e1]
  exact hag _ ⟨i+1,by omega,by rw[ab0];rfl⟩ (by simp only;omega)
 ·rw[aa1 h1,aa8 (by omega)]
open Classical in
theorem Bl8{s:Ux}(h:Al5 s):Tk (s,())=some ((decide (PRV s),()),(),()):=by
 have hl:=h.len
 unfold Tk Agm
 refine Ai (I:=fun y=>∃ i:Nat,i≤s.2.2.2.2.2.1.length∧(∀ j,j<i→(s.2.2.2.2.2.1.getD j Aw).2.2.2.2.2.1≤s.2.2.2.1)∧y=(s,s.2.2.2.2.2.1,(s.2.2.2.2.2.1.length:Int),(i:Int),())) (m:=fun y=>((s.2.2.2.2.2.1.length:Int)-y.2.2.2.1).toNat)
  (g:=fun _=>some ((decide (PRV s),()),(),())) ?_ ⟨0,ac2 _,fun j hj=>by omega,rfl⟩ (by rw[Au];simp only;omega)
 rintro y aa ⟨i,hi,eh,rfl⟩ hag
 simp only at hag ⊢
 unfold Ak9
 rw[Ad]
 by_cases c:(i:Int)<(s.2.2.2.2.2.1.length:Int)
 ·rw[aa0 c,Ao,aa0 (by omega),aa3,Ad]
  by_cases c2:(s.2.2.2.2.2.1.getD i Aw).2.2.2.2.2.1>s.2.2.2.1
  ·rw[aa0 c2,ab5 (fun h'=>by
    have:=h'.si _ (B3 (l:=s.2.2.2.2.2.1) (d:=Aw) (show i<s.2.2.2.2.2.1.length by omega))
    omega)]
  ·rw[aa1 c2,Ar (by omega) (by omega)]
   refine hag _ ⟨i+1,by omega,fun j hj=>?_,by rw[ab0];rfl⟩ (by simp only;omega)
   rcases ad3 j i with q|q
   ·exact eh j q
   ·obtain rfl:j=i:=by omega
    omega
 ·rw[aa1 c,Ao8 h.ps (by omega),Aa]
  dsimp only
  have jo:Akz s.2.2.2.2.2.1 s.2.2.2.1:=fun p hp=>by
   obtain⟨j,hj,rfl⟩:=ao0 hp
   have:=eh j (by omega)
   rwa [aa2,aa6 hj] at this
  by_cases hv:Ah4 s.2.2.2.2.2.1
  case neg =>
   rw[Ah3 hv,Bn,ab5 (fun h'=>hv h'.ps)]
  rw[Ro.2 hv,Ap]
  have j0:=h.su
  have e:∀ {z:Akv},Ax6 z→F0 (z,())=some ((decide (Ber z),()),(),()):=fun {z} hz=>by
   cases hz with
   | mk hb =>
    rename_i g n
    have e:(!g||!decide (n=0))=decide (Ber (g,At n,())):=by
     rw[an7,decide_eq_true_iff]
     unfold Ber
     try dsimp only
     rw[Bi]
     cases g<;>by_cases hn:n=0<;>simp[hn]
    rw[Be7,e]
  rw[e j0,Aa]
  dsimp only
  rw[show decide (Ber s.2.2.2.2.1)=decide (PRV s) by rw[aj5];exact⟨fun h=>⟨hv,h,jo⟩,fun h=>h.su⟩]
def oS(ms:List Ea)(cl:List Bool):Nat→Nat
 | 0=>0
 | i+1=>oS ms cl i+(if cl.getD i false=true then 0 else D8 (ms.getD i Bp).2.2.1)
theorem Ce0{ms:List Ea}{cl:List Bool}{W:Nat}(hm:∀ i,i<ms.length→D8 (ms.getD i Bp).2.2.1≤W):∀ i,i≤ms.length→oS ms cl i≤i*W
 | 0,_=>ac2 _
 | i+1,hi=>by
  have ih:=Ce0 (cl:=cl) hm i (by omega)
  have h2:=hm i (by omega)
  unfold oS
  rw[ae4,ap4]
  refine ar9 ih ?_
  split
  ·exact ac2 _
  ·exact h2
theorem Cgk{x:Ea}(h:Bc9 x):D8 x.2.2.1≤115792089237316195423570985008687907853269984665640564039457584007913129639936:=by
 cases h with
 | mk a b c =>
  dsimp only
  rw[Bi]
  exact au3 c
theorem Cor{ms:List Ea}(hm:Vg ms)(cl:List Bool)(i:Nat)(hi:i≤ms.length):oS ms cl i≤i*115792089237316195423570985008687907853269984665640564039457584007913129639936 :=
 Ce0 (fun j hj=>Cgk (hm.at hj Bp)) i hi
theorem Brd{l:List A2}{i:Nat}(h:i<l.length):Fr (l.take (i+1))=Fr (l.take i)+D8 (l.getD i Ib).2.1:=by
 rw[ap7,aa6 h,Alc,aa2,aa6 h,Option.toList_some,Nw,Tt,Option.getD_some,af6]
theorem Bwj{l:List A2}{W:Nat}(ha:∀ x∈l,D8 x.2.1≤W):∀ i,i≤l.length→Fr (l.take i)≤i*W
 | 0,_=>by rw[ag1,Tt];exact ac2 _
 | i+1,hi=>by
  have ih:=Bwj ha i (by omega)
  rw[Brd (by omega),ae4,ap4]
  exact ar9 ih (ha _ (B3 (d:=Ib) (show i<l.length by omega)))
theorem Cmo{x:A2}(h:Aky x):D8 x.2.1≤115792089237316195423570985008687907853269984665640564039457584007913129639936:=by
 cases h with
 | mk a b c =>
  dsimp only
  rw[Bi]
  exact au3 b
theorem Cby{l:List A2}(ha:Aaf l)(i:Nat)(hi:i≤l.length):Fr (l.take i)≤i*115792089237316195423570985008687907853269984665640564039457584007913129639936 :=
 Bwj (fun x hx=>Cmo (ha x hx)) i hi
theorem Ckj{vs:List Nat}(h4:vs.length=4)(hb:∀ n∈vs,Al n):vs.sum≤4*115792089237316195423570985008687907853269984665640564039457584007913129639936:=by
 match vs,h4 with
 | [a,b,c,d],_ =>
  have h1:=hb a (by simp)
  have h2:=hb b (by simp)
  have h3:=hb c (by simp)
  have h4:=hb d (by simp)
  unfold Al at *
  simp only[List.sum_cons,au2]
  omega
theorem Bsb{st bg:Int}{p:J9}{b:Ae5}{s:Ux}{ac:List A2}{vs:List (List Int)}{ms:List Ea}{cl:List Bool}{h:List Int}{l1:List Bl}(ha:Vg ms)(hl:ms.length≤100000) :
  G6 ((st,p,b,bg,s,ac,vs,ms,cl,h,l1,()),())=some ((okM ms&&decide (cl.length=ms.length),()),(),()):=by
 unfold G6 K8
 refine Ai (I:=fun x=>∃ i:Nat,i≤ms.length∧x=((st,p,b,bg,s,ac,vs,ms,cl,h,l1,()),ms,(ms.length:Int),(i:Int),())∧∀ j,j<i→Bnf (ms.getD j Bp) j=true) (m:=fun x=>((ms.length:Int)-x.2.2.2.1).toNat)
  (g:=fun _=>some ((okM ms&&decide (cl.length=ms.length),()),(),())) ?_ ⟨0,by omega,rfl,fun j hj=>by omega⟩ (by rw[Au];simp only;omega)
 rintro x aa ⟨i,hi,rfl,hg⟩ hag
 simp only at hag ⊢
 unfold Uh
 try dsimp only
 rw[Ad]
 by_cases h1:(i:Int)<(ms.length:Int)
 ·have bx:i<ms.length:=by omega
  rw[aa0 h1,Ao,aa0 (by omega),aa3,Gt (by omega) (by omega),Ar (by omega) (by omega)]
  rw[show (((0:Int),(0:Int),[(0:Int),0,0,0],()):Ea)=Bp from rfl]
  have hm:=ha.at bx Bp
  have hb:Bnf (ms.getD i Bp) i=false→okM ms=false:=fun hgi=>by
   rw[an3]
   intro h
   rw[Bty.1 h i bx] at hgi;cases hgi
  have hn:Bnf (ms.getD i Bp) i=true→aa ((st,p,b,bg,s,ac,vs,ms,cl,h,l1,()),ms,(ms.length:Int),(i:Int)+1,())=some ((okM ms&&decide (cl.length=ms.length),()),(),()):=fun hgi=>hag _ ⟨i+1,by omega,by rw[ab0];rfl,fun j hj=>by
   by_cases e:j=i
   ·rw[e];exact hgi
   ·exact hg j (by omega)⟩ (by simp only;omega)
  clear hag hg
  generalize ms.getD i Bp=m at hm hb hn ⊢
  obtain⟨hs,ht,hv⟩:=hm
  rename_i s' t v
  unfold Bnf at hb hn
  simp only[Bi] at hb hn ⊢
  rw[show ([(0:Int),0,0,0]:List Int)=At 0 from rfl,Asg,An,Ad]
  by_cases c1:s'=(i:Int)
  ·rw[aa0 c1,Ad]
   by_cases c2:t=0
   ·rw[aa0 c2,hb (by simp[c2]),Bool.false_and]
   ·rw[aa1 c2,Ad]
    by_cases c3:v=0
    ·rw[aa0 c3,hb (by simp[c3]),Bool.false_and]
    ·rw[aa1 c3]
     exact hn (by simp[c1,c2,c3])
  ·rw[aa1 c1,hb (by simp[c1]),Bool.false_and]
 ·rw[aa1 h1,Bty.2 fun j hj=>hg j (by omega),ao1]
  rw[show decide ((cl.length:Int)=(ms.length:Int))=decide (cl.length=ms.length) by rw[aj5];omega]
theorem Blf{st bg:Int}{p:J9}{b:Ae5}{s:Ux}{ac:List A2}{vs:List Nat}{ms:List Ea}{cl:List Bool}{h:Nat}{l1:List Bl}(ha:Aaf ac)(h1:ac.length≤20000)(hv:vs.length=4)(rg:∀ n∈vs,Al n)(hm:Vg ms)(h2:ms.length≤20000)(hc:cl.length=ms.length)(hh:Al h) :
  G4 ((st,p,b,bg,s,ac,vs.map At,ms,cl,At h,l1,()),())=some ((decide (Fr ac+vs.sum+oS ms cl ms.length=h),()),(),()):=by
 have hv4:=Ckj hv rg
 have key:Ac _ _ (fun aa x=>Kn Es Li aa x.1 x.2.1 x.2.2.1 x.2.2.2.1 x.2.2.2.2.1) ((st,p,b,bg,s,ac,vs.map At,ms,cl,At h,l1,()),Ab2 (Fr ac+vs.sum),ms,(ms.length:Int),(0:Int),()) =
   some ((decide (Fr ac+vs.sum+oS ms cl ms.length=h),()),(),()):=by
  have hs:=Cby ha ac.length (ab4 _)
  rw[ah8] at hs
  have sr:ac.length*115792089237316195423570985008687907853269984665640564039457584007913129639936≤20000*115792089237316195423570985008687907853269984665640564039457584007913129639936:=ac6 _ h1
  generalize hS:Fr ac+vs.sum=S0
  have hS0:S0≤20004*115792089237316195423570985008687907853269984665640564039457584007913129639936:=by omega
  clear hs sr hv4
  refine Ai (I:=fun x=>∃ i:Nat,i≤ms.length∧x=((st,p,b,bg,s,ac,vs.map At,ms,cl,At h,l1,()),Ab2 (S0+oS ms cl i),ms,(ms.length:Int),(i:Int),())) (m:=fun x=>((ms.length:Int)-x.2.2.2.2.1).toNat)
   (g:=fun _=>some ((decide (S0+oS ms cl ms.length=h),()),(),())) ?_ ⟨0,by omega,rfl⟩ (by rw[Au];simp only;omega)
  rintro x aa ⟨i,hi,rfl⟩ hag
  simp only at hag ⊢
  have ho:=Cor hm cl i hi
  have ho2:i*115792089237316195423570985008687907853269984665640564039457584007913129639936≤20000*115792089237316195423570985008687907853269984665640564039457584007913129639936:=ac6 _ (by omega)
  unfold Kn
  try dsimp only
  rw[Ad]
  by_cases c:(i:Int)<(ms.length:Int)
  ·rw[aa0 c,Ao,aa0 (by omega),Ao,aa0 (by omega),aa3,Ar (by omega) (by omega)]
   rw[show (((0:Int),(0:Int),[(0:Int),0,0,0],()):Ea)=Bp from rfl]
   have hw:=hm.at (show i<ms.length by omega) Bp
   have hn:aa ((st,p,b,bg,s,ac,vs.map At,ms,cl,At h,l1,()),Ab2 (S0+(oS ms cl i+if cl.getD i false=true then 0 else D8 (ms.getD i Bp).2.2.1)),ms,(ms.length:Int),(i:Int)+1,())=some ((decide (S0+oS ms cl ms.length=h),()),(),()) :=
    hag _ ⟨i+1,by omega,by rw[ab0];rfl⟩ (by simp only;omega)
   clear hag
   generalize ms.getD i Bp=m at hw hn ⊢
   obtain⟨q1,q2,q3⟩:=hw
   rename_i s' t v
   dsimp only at hn ⊢
   rw[Bi] at hn
   generalize cl.getD i false=q at hn ⊢
   cases q with
   | true =>
    rw[aa0 rfl,af6] at hn
    rw[an1,Bn]
    exact hn
   | false =>
    rw[aa1 (by decide),← aj3] at hn
    rw[aq8,Ap,Bes (by omega) q3,Aa]
    exact hn
  ·have fh:i=ms.length:=by omega
   subst fh
   rw[aa1 c]
   have:=Btd (l:=[h]) (by simp) (fun n hn=>by rw[ac3.1 hn];exact hh)
   simp only[ae5,ak0,List.sum_cons,au2,af6] at this
   unfold Al at hh
   rw[this,Aa]
   dsimp only
   rw[Bsw,show decide (Ab2 (S0+oS ms cl ms.length)=Ab2 h)=decide (S0+oS ms cl ms.length=h) by rw[aj5];exact Bxz (by omega) (by omega)]
 unfold G4 K1
 try dsimp only
 rw[show List.take (4-0) (List.drop 0 (vs.map At))=vs.map At by rw[ag0,aa8 (by simp;omega)],Btd (by omega) rg,Aa]
 dsimp only
 refine Ai (I:=fun x=>∃ i:Nat,i≤ac.length∧x=((st,p,b,bg,s,ac,vs.map At,ms,cl,At h,l1,()),Ab2 (vs.sum+Fr (ac.take i)),ac,(ac.length:Int),(i:Int),())) (m:=fun x=>((ac.length:Int)-x.2.2.2.2.1).toNat)
  (g:=fun _=>some ((decide (Fr ac+vs.sum+oS ms cl ms.length=h),()),(),())) ?_ ⟨0,by omega,by rw[ag1,Tt];rfl⟩ (by rw[Au];simp only;omega)
 rintro x aa ⟨i,hi,rfl⟩ hag
 simp only at hag ⊢
 unfold T3
 try dsimp only
 rw[Ad]
 by_cases c:(i:Int)<(ac.length:Int)
 ·have ho:=Cby ha i hi
  have ho2:i*115792089237316195423570985008687907853269984665640564039457584007913129639936≤20000*115792089237316195423570985008687907853269984665640564039457584007913129639936:=ac6 _ (by omega)
  rw[aa0 c,Ao,aa0 (by omega),aa3,Ar (by omega) (by omega)]
  rw[show (((0:Int),[(0:Int),0,0,0],(0:Int),()):A2)=Ib from rfl]
  have hw:=ha _ (B3 (d:=Ib) (show i<ac.length by omega))
  have hn:aa ((st,p,b,bg,s,ac,vs.map At,ms,cl,At h,l1,()),Ab2 (vs.sum+(Fr (ac.take i)+D8 (ac.getD i Ib).2.1)),ac,(ac.length:Int),(i:Int)+1,())=some ((decide (Fr ac+vs.sum+oS ms cl ms.length=h),()),(),()) :=
   hag _ ⟨i+1,by omega,by rw[ab0,Brd (by omega)];rfl⟩ (by simp only;omega)
  clear hag
  generalize ac.getD i Ib=m at hw hn ⊢
  obtain⟨q1,q2,q3⟩:=hw
  dsimp only at hn ⊢
  unfold Al at q2
  rw[Bi,← aj3] at hn
  rw[Bes (by omega) q2,Aa]
  exact hn
 ·have fh:i=ac.length:=by omega
  subst fh
  rw[aa1 c,ah8,Nat.add_comm vs.sum]
  exact key
theorem Vg.append{l e:List Ea}(h:Vg l)(h2:Vg e):Vg (l++e):=fun x hx=>by
 rcases ad9.1 hx with h'|h'
 ·exact h x h'
 ·exact h2 x h'
theorem Vg.one{m:Ea}(h:Bc9 m):Vg [m]:=fun x hx=>by
 rw[ac3.1 hx];exact h
theorem Vg.set{l:List Ea}(h:Vg l)(k:Nat){m:Ea}(hm:Bc9 m):Vg (List.set l k m):=fun x hx=>by
 rcases am5 hx with h'|h'
 ·exact h x h'
 ·rw[h'];exact hm
set_option maxRecDepth 100000
theorem both{r l:List Int}{n i:Int}{p:List (List Int)}(hn:n≤9223372036854775807)(hp:p.length≤64)(hf:H32 l)(ha:Ul p) :
  ∃ b,Af1 (r,n,i,l,p,())=some ((b,()),(),(),(),(),(),())∧Pw (r,n,i,l,p,())=some ((b,()),(),(),(),(),(),()) :=
 ⟨_,Ccg hn (by omega) hf ha,Bni hn hp hf ha⟩
theorem Ul.set{l:List (List Int)}{x:List Int}{i:Nat}(h:Ul l)(hx:H32 x):Ul (l.set i x):=fun y hy=>by
 rcases am5 hy with hy|rfl
 ·exact h y hy
 ·exact hx
theorem Bgr(a:List Bl)(ha:a.length≤1000000000):I8 (a,a,())=some ((true,()),(),(),()):=by
 unfold I8 Yx
 simp only
 rw[An,Ad,aa0 trivial]
 refine Ai (I:=fun x=>∃ i:Nat,i≤a.length∧x=(a,a,(i:Int),())) (m:=fun x=>((a.length:Int)-x.2.2.1).toNat) (g:=fun _=>some ((true,()),(),(),())) ?_
  ⟨0,by omega,rfl⟩ (by simp only[Au];omega)
 rintro x aa ⟨i,hi,rfl⟩ hag
 simp only at hag ⊢
 unfold Zb
 simp only[Am]
 rw[Ad]
 by_cases h:(i:Int)<(a.length:Int)
 ·rw[aa0 h,Ao,aa0 (by omega),Ao,aa0 (by omega),aa3,J6.2 rfl,An,Ap,Ar (by omega) (by omega)]
  exact hag _ ⟨i+1,by omega,by rw[ab0];rfl⟩ (by simp only;omega)
 ·rw[aa1 h]
theorem Azt.root{r:List (List Int)}{cl:List Bool}{h:Nat}{p:List Bl}{cs:List Int}{m:List Bl}(e:Azt r cl h p cs m)(x:List Int):Azt (r++[x]) (cl++[false]) h p cs m:=by
 refine⟨⟨by rw[aa4,aa4,e.inv.len];rfl,e.inv.held,e.inv.srt,e.inv.ne,e.inv.all⟩,fun y hy=>?_,e.dist,e.all,e.ne,e.sort⟩
 rw[e.cls y hy]
 have:(cl++[false]).getD y.toNat false=cl.getD y.toNat false:=by
  rw[aa2,aa2,List.getElem?_append]
  split
  ·rfl
  ·rename_i qs
   rw[ai4 (l:=cl) (by omega)]
   cases hk:y.toNat-cl.length with
   | zero=>rfl
   | succ k=>rfl
 rw[this]
def okQ(l:List Bl)(i:Nat):Prop:=(l.getD i F7).1≠0∧¬ Alt (l.getD i F7)∧(0<i→(l.getD (i-1) F7).1<(l.getD i F7).1)
def VP(l:List Bl):Prop:=∀ i,i<l.length→okQ l i
theorem VP.srt{l:List Bl}(h:VP l):Bcj l:=by
 refine am4.2 fun i j hi hj qt=>?_
 have key:∀ d,i+1+d<l.length→(l.getD i F7).1<(l.getD (i+1+d) F7).1:=by
  intro d
  induction d with
  | zero=>intro hd;exact (h (i+1) (by omega)).2.2 (by omega)
  | succ d ih =>
   intro hd
   have h1:=ih (by omega)
   have h2:=(h (i+1+(d+1)) hd).2.2 (by omega)
   rw[show i+1+(d+1)-1=i+1+d by omega] at h2
   omega
 have:=key (j-i-1) (by omega)
 rw[show i+1+(j-i-1)=j by omega,aa2,aa6 hi,aa2,aa6 hj] at this
 exact this
theorem VP.ne{l:List Bl}(h:VP l):NEP l:=fun x hx=>by
 obtain⟨i,hi,rfl⟩:=ao0 hx
 have:=(h i hi).2.1
 rw[aa2,aa6 hi] at this
 exact this
theorem Bwy{x:Bl}(h:Alu x):Alt x↔D8 x.2.1=0:=by
 obtain⟨h1,h2⟩:=h
 unfold Alt
 simp only[ai9,true_and,aq4]
 rw[← Bpg,Be6,Bi]
theorem Bmg{α:Type}(d:α)(x:Int)(y:α)(a:Int):∀ (l:List (Int×α)),Ug d (Kr l x y) a=if x=a then y else Ug d l a
 | []=>by
  unfold Kr Ug
  by_cases h:x=a
  ·rw[aa7 h,ao8,aa0 h]
  ·rw[ab5 h,an8,aa1 h];rfl
 | p::l=>by
  unfold Kr
  by_cases h:p.1=x
  ·rw[aa7 h,ao8]
   unfold Ug
   by_cases h2:x=a
   ·rw[aa7 h2,ao8,aa0 h2]
   ·rw[ab5 h2,an8,aa1 h2,ab5 (fun e=>h2 (h.symm.trans e)),an8]
  ·rw[ab5 h,an8]
   unfold Ug
   by_cases h2:p.1=a
   ·rw[aa7 h2,ao8,ao8,aa1 (fun e=>h (h2.trans e.symm))]
   ·rw[ab5 h2,an8,an8,Bmg d x y a l]
def Aeg{α:Type}(l:List (Int×α)):List Int:=l.map (·.1)
theorem Av6{α:Type}(x:Int)(y:α)(a:Int):∀ (l:List (Int×α)),a∈Aeg (Kr l x y)↔a=x∨a∈Aeg l
 | []=>by simp[Kr,Aeg]
 | p::l=>by
  unfold Kr
  by_cases h:p.1=x
  ·rw[aa7 h,ao8]
   simp only[Aeg,ae5,aa9]
   rw[h]
   constructor
   ·rintro (e|e)
    ·exact .inl e
    ·exact .inr (.inr e)
   ·rintro (e|e|e)
    ·exact .inl e
    ·exact .inl e
    ·exact .inr e
  ·rw[ab5 h,an8]
   have ih:=Av6 x y a l
   simp only[Aeg,ae5,aa9] at ih ⊢
   rw[ih]
   constructor
   ·rintro (e|e|e)
    ·exact .inr (.inl e)
    ·exact .inl e
    ·exact .inr (.inr e)
   ·rintro (e|e|e)
    ·exact .inr (.inl e)
    ·exact .inl e
    ·exact .inr (.inr e)
theorem Ayn{α:Type}(x:Int)(y:α):∀ (l:List (Int×α)),(Aeg l).Nodup→(Aeg (Kr l x y)).Nodup
 | [],_=>by simp[Kr,Aeg]
 | p::l,hn=>by
  unfold Kr
  by_cases h:p.1=x
  ·rw[aa7 h,ao8]
   simp only[Aeg,ae5] at hn ⊢
   rw[← h];exact hn
  ·rw[ab5 h,an8]
   have kl:p.1 ∉ Aeg l∧(Aeg l).Nodup:=by simpa [Aeg] using hn
   have ih:=Ayn x y l kl.2
   have hm:p.1 ∉ Aeg (Kr l x y):=fun hm=>by
    rcases (Av6 x y p.1 l).1 hm with e|e
    ·exact h e
    ·exact kl.1 e
   exact ai8.2 ⟨hm,ih⟩
theorem Beq:∀ {a b:List Int},a.Nodup→(∀ x∈a,x∈b)→a.length≤b.length
 | [],_,_,_=>ac2 _
 | x::a,b,hn,hs=>by
  rw[ai8] at hn
  have hx:=hs x (ac1 ..)
  have h1:∀ y∈a,y∈b.erase x:=fun y hy=>(List.mem_erase_of_ne (fun e=>hn.1 (by rw[← e];exact hy))).2 (hs y (ab8 _ hy))
  have h2:=Beq hn.2 h1
  have h3:=List.length_erase_of_mem hx
  have h4:0<b.length:=List.length_pos_of_mem hx
  rw[ac5]
  omega
def cS(ms:List Ea)(cl:List Bool)(a:Int):Nat→Nat
 | 0=>0
 | i+1=>cS ms cl a i+(if cl.getD i false=true∧(ms.getD i Bp).2.1=a then D8 (ms.getD i Bp).2.2.1 else 0)
theorem Cbj(ms:List Ea)(cl:List Bool)(a:Int)(i:Nat):cS ms cl a (i+1)=cS ms cl a i+(if cl.getD i false=true∧(ms.getD i Bp).2.1=a then D8 (ms.getD i Bp).2.2.1 else 0):=rfl
theorem Cfj{ms:List Ea}{cl:List Bool}{a:Int}{W:Nat}(hm:∀ i,i<ms.length→D8 (ms.getD i Bp).2.2.1≤W):∀ i,i≤ms.length→cS ms cl a i≤i*W
 | 0,_=>ac2 _
 | i+1,hi=>by
  have ih:=Cfj (cl:=cl) (a:=a) hm i (by omega)
  have h2:=hm i (by omega)
  unfold cS
  rw[ae4,ap4]
  refine ar9 ih ?_
  split
  ·exact h2
  ·exact ac2 _
theorem Cln{ms:List Ea}(hm:Vg ms)(cl:List Bool)(a:Int)(i:Nat)(hi:i≤ms.length):cS ms cl a i≤i*115792089237316195423570985008687907853269984665640564039457584007913129639936 :=
 Cfj (fun j hj=>Cgk (hm.at hj Bp)) i hi
theorem Cbh{ms:List Ea}{cl:List Bool}{a:Int}:∀ i,(∀ j,j<i→¬ (cl.getD j false=true∧(ms.getD j Bp).2.1=a))→cS ms cl a i=0
 | 0,_=>rfl
 | i+1,h=>by
  unfold cS
  rw[Cbh i (fun j hj=>h j (by omega)),aa1 (h i (by omega))]
structure Bst(ms:List Ea)(cl:List Bool)(i:Nat)(g:List (Int×List Int)):Prop where
 get:∀ a,Ug [(0:Int),0,0,0,0] g a=Ab2 (cS ms cl a i)
 nod:(Aeg g).Nodup
 key:∀ a,a∈Aeg g↔∃ j,j<i∧cl.getD j false=true∧(ms.getD j Bp).2.1=a
 len:g.length≤i
theorem Bk3{α:Type}(x:Int)(y:α):∀ (l:List (Int×α)),(Kr l x y).length≤l.length+1
 | []=>by simp[Kr]
 | p::l=>by
  unfold Kr
  by_cases h:p.1=x
  ·rw[aa7 h,ao8,ac5,ac5];omega
  ·have:=Bk3 x y l
   rw[ab5 h,an8,ac5,ac5];omega
theorem Bst.none{ms:List Ea}{cl:List Bool}{i:Nat}{g:List (Int×List Int)}(h:Bst ms cl i g)(hc:cl.getD i false=false):Bst ms cl (i+1) g where
 get a:=by
  rw[Cbj,aa1 (fun e=>by rw[hc] at e;cases e.1),af6]
  exact h.get a
 nod:=h.nod
 key a:=by
  rw[h.key]
  constructor
  ·rintro⟨j,h1,h2⟩;exact⟨j,by omega,h2⟩
  ·rintro⟨j,h1,h2,h3⟩
   refine⟨j,?_,h2,h3⟩
   by_cases e:j=i
   ·rw[e,hc] at h2;cases h2
   ·omega
 len:=by have:=h.len;omega
theorem Bst.some{ms:List Ea}{cl:List Bool}{i:Nat}{g:List (Int×List Int)}(h:Bst ms cl i g)(hc:cl.getD i false=true) :
  Bst ms cl (i+1) (Kr g (ms.getD i Bp).2.1 (Ab2 (cS ms cl (ms.getD i Bp).2.1 i+D8 (ms.getD i Bp).2.2.1))) where
 get a:=by
  rw[Bmg,Cbj]
  by_cases e:(ms.getD i Bp).2.1=a
  ·rw[aa0 e,aa0 ⟨hc,e⟩,e]
  ·rw[aa1 e,aa1 (fun h=>e h.2),af6]
   exact h.get a
 nod:=Ayn _ _ _ h.nod
 key a:=by
  rw[Av6,h.key]
  constructor
  ·rintro (e | ⟨j,h1,h2⟩)
   ·exact⟨i,by omega,hc,e.symm⟩
   ·exact⟨j,by omega,h2⟩
  ·rintro⟨j,h1,h2,h3⟩
   by_cases e:j=i
   ·left;rw[← h3,e]
   ·exact .inr ⟨j,by omega,h2,h3⟩
 len:=by have:=h.len;have:=Bk3 (ms.getD i Bp).2.1 (Ab2 (cS ms cl (ms.getD i Bp).2.1 i+D8 (ms.getD i Bp).2.2.1)) g;omega
structure CM(ms:List Ea)(cl:List Bool)(l1:List Bl):Prop where
 vp:VP l1
 eq:∀ i,i<l1.length→cS ms cl (l1.getD i F7).1 ms.length=D8 (l1.getD i F7).2.1
 all:∀ j,j<ms.length→cl.getD j false=true→∃ x∈l1,x.1=(ms.getD j Bp).2.1
theorem VP.nodup{l:List Bl}(h:VP l):(l.map (·.1)).Nodup:=by
 have:=h.srt
 unfold Bcj at this
 rw[List.Nodup,List.pairwise_map]
 exact this.imp fun vn e=>by omega
theorem Cfv{l:List Bl}{x:Bl}(h:x∈l):∃ i,i<l.length∧l.getD i F7=x:=by
 obtain⟨i,hi,rfl⟩:=ao0 h
 exact⟨i,hi,by rw[aa2,aa6 hi];rfl⟩
theorem Cnd{ms:List Ea}{cl:List Bool}{l1:List Bl}{g:List (Int×List Int)}(hg:Bst ms cl ms.length g)(hp:G1 l1)(hv:VP l1)(he:∀ i,i<l1.length→cS ms cl (l1.getD i F7).1 ms.length=D8 (l1.getD i F7).2.1) :
  g.length=l1.length↔CM ms cl l1:=by
 have hl:(Aeg g).length=g.length:=ag7 ..
 have db:(l1.map (·.1)).length=l1.length:=ag7 ..
 have y8:∀ a∈l1.map (·.1),a∈Aeg g:=fun a ha=>by
  obtain⟨x,hx,rfl⟩:=ag8.1 ha
  obtain⟨i,hi,rfl⟩:=Cfv hx
  rw[hg.key]
  refine ao6 fun hn=>?_
  have h0:=Cbh (ms:=ms) (cl:=cl) (a:=(l1.getD i F7).1) ms.length (fun j hj h=>hn ⟨j,hj,h⟩)
  rw[he i hi] at h0
  exact (hv i hi).2.1 ((Bwy (hp.at i)).2 h0)
 have cf:=Beq hv.nodup y8
 constructor
 ·intro h
  refine⟨hv,he,fun j hj hc=>?_⟩
  refine ao6 fun hn=>?_
  have hk:(ms.getD j Bp).2.1∈Aeg g:=(hg.key _).2 ⟨j,hj,hc,rfl⟩
  have ay7:(ms.getD j Bp).2.1 ∉ l1.map (·.1):=fun h=>by
   obtain⟨x,hx,e⟩:=ag8.1 h
   exact hn ⟨x,hx,e⟩
  have:=Beq (a:=(ms.getD j Bp).2.1::l1.map (·.1)) (b:=Aeg g) (ai8.2 ⟨ay7,hv.nodup⟩) (fun y hy=>by
   rcases aa9.1 hy with rfl|hy
   ·exact hk
   ·exact y8 y hy)
  rw[ac5] at this
  omega
 ·intro h
  have:=Beq (a:=Aeg g) (b:=l1.map (·.1)) hg.nod (fun a ha=>by
   obtain⟨j,hj,hc,rfl⟩:=(hg.key a).1 ha
   obtain⟨x,hx,e⟩:=h.all j hj hc
   exact ag8.2 ⟨x,hx,e⟩)
  omega
open Classical in
theorem Cgt{st bg:Int}{p:J9}{b:Ae5}{s:Ux}{ac:List A2}{vs:List (List Int)}{ms:List Ea}{cl:List Bool}{h:List Int}{l1:List Bl}(hm:Vg ms)(h2:ms.length≤20000)(hp:G1 l1)(h3:l1.length≤20000)
  {g:List (Int×List Int)} (hg:Bst ms cl ms.length g) :
  Ac _ _ (fun aa x=>Mh Li aa x.1 x.2.1 x.2.2.1 x.2.2.2.1 x.2.2.2.2.1) ((st,p,b,bg,s,ac,vs,ms,cl,h,l1,()),g,l1,(l1.length:Int),(0:Int),()) =
   some ((decide (CM ms cl l1),()),(),()):=by
 have oc:=hg.len
 refine Ai (I:=fun x=>∃ i:Nat,i≤l1.length∧(∀ j,j<i→okQ l1 j∧cS ms cl (l1.getD j F7).1 ms.length=D8 (l1.getD j F7).2.1)∧x=((st,p,b,bg,s,ac,vs,ms,cl,h,l1,()),g,l1,(l1.length:Int),(i:Int),())) (m:=fun x=>((l1.length:Int)-x.2.2.2.2.1).toNat)
  (g:=fun _=>some ((decide (CM ms cl l1),()),(),())) ?_ ⟨0,by omega,fun j hj=>by omega,rfl⟩ (by rw[Au];simp only;omega)
 rintro x aa ⟨i,hi,bj,rfl⟩ hag
 simp only at hag ⊢
 unfold Mh
 try dsimp only
 rw[Am,Am,Am,Ad]
 by_cases c:(i:Int)<(l1.length:Int)
 ·have bx:i<l1.length:=by omega
  have bad:¬ (okQ l1 i∧cS ms cl (l1.getD i F7).1 ms.length=D8 (l1.getD i F7).2.1)→decide (CM ms cl l1)=false:=fun h=>ab5 fun hv=>h ⟨hv.vp i bx,hv.eq i bx⟩
  have iy:(okQ l1 i∧cS ms cl (l1.getD i F7).1 ms.length=D8 (l1.getD i F7).2.1)→aa ((st,p,b,bg,s,ac,vs,ms,cl,h,l1,()),g,l1,(l1.length:Int),(i:Int)+1,())=some ((decide (CM ms cl l1),()),(),()):=fun h =>
   hag _ ⟨i+1,by omega,fun j hj=>by
    by_cases e:j=i
    ·rw[e];exact h
    ·exact bj j (by omega),by rw[ab0];rfl⟩ (by simp only;omega)
  clear hag
  have pe:IntKind.wrap .i64 ((i:Int)+1)=(i:Int)+1:=Ar (by omega) (by omega)
  have uz:IntKind.wrap .i64 ((i:Int)-1)=(i:Int)-1:=Ar (by omega) (by omega)
  have u6:((i:Int)-1).toNat=i-1:=by omega
  rw[aa0 c,Ao,aa0 (by omega),pe,uz,u6,aa3]
  rw[show (((0:Int),[(0:Int),0,0,0],()):Bl)=F7 from rfl]
  have hw:=hp.at i
  have e:=Bwy hw
  have er:=Cln hm cl (l1.getD i F7).1 ms.length (ab4 _)
  have ay8:ms.length*115792089237316195423570985008687907853269984665640564039457584007913129639936≤20000*115792089237316195423570985008687907853269984665640564039457584007913129639936:=ac6 _ h2
  rw[hg.get]
  unfold okQ at bad iy
  generalize l1.getD i F7=y at *
  cases hw with
  | mk hya hyb =>
  rename_i a v
  dsimp only at *
  rw[Bi] at *
  have hof:=Btd (l:=[v]) (by simp) (fun n hn=>by rw[ac3.1 hn];exact hyb)
  simp only[ae5,ak0,List.sum_cons,au2,af6] at hof
  rw[hof]
  generalize cS ms cl a ms.length=z at *
  have y9:Ab2 z=Ab2 v↔z=v:=Bxz (by omega) (by unfold Al at hyb;omega)
  rw[← Aut,Asg,Aa]
  dsimp only
  rw[Bsw,Ad]
  by_cases c1:a=0
  ·rw[aa0 c1,bad fun h=>h.1.1 c1]
  rw[aa1 c1,Ad]
  by_cases c2:v=0
  ·rw[aa0 c2,bad fun h=>h.1.2.1 (e.2 c2)]
  rw[aa1 c2,Ad]
  have tail:(0<i→(l1.getD (i-1) F7).1<a)→(Ag (!decide (Ab2 z=Ab2 v)) (some ((false,()),(),())) (aa ((st,p,b,bg,s,ac,vs,ms,cl,h,l1,()),g,l1,(l1.length:Int),(i:Int)+1,())))=some ((decide (CM ms cl l1),()),(),()):=fun hq=>by
   rw[An,Ad]
   by_cases c3:Ab2 z=Ab2 v
   ·rw[aa0 c3]
    exact iy ⟨⟨c1,fun h=>c2 (e.1 h),hq⟩,y9.1 c3⟩
   ·rw[aa1 c3,bad fun h=>c3 (y9.2 h.2)]
  by_cases c3:(i:Int)>0
  ·rw[aa0 c3,Ao,aa0 (by omega),Ad]
   by_cases c4:a≤(l1.getD (i-1) F7).1
   ·rw[aa0 c4,bad fun h=>by have:=h.1.2.2 (by omega);omega]
   ·rw[aa1 c4]
    exact tail fun _=>by omega
  ·rw[aa1 c3]
   exact tail fun _=>by omega
 ·have fh:i=l1.length:=by omega
  subst fh
  have hv:VP l1:=fun j hj=>(bj j hj).1
  have:=Cnd hg hp hv (fun j hj=>(bj j hj).2)
  rw[aa1 c,Ad,aa0 (by omega),show decide ((g.length:Int)=(l1.length:Int))=decide (CM ms cl l1) by
   rw[aj5,← this];omega]
open Classical in
theorem Buj{st bg:Int}{p:J9}{b:Ae5}{s:Ux}{ac:List A2}{vs:List (List Int)}{ms:List Ea}{cl:List Bool}{h:List Int}{l1:List Bl}(hm:Vg ms)(h2:ms.length≤20000)(hc:cl.length=ms.length)(hp:G1 l1)(h3:l1.length≤20000) :
  Ih ((st,p,b,bg,s,ac,vs,ms,cl,h,l1,()),())=some ((decide (CM ms cl l1),()),(),()):=by
 unfold Ih Nc
 refine Ai (I:=fun x=>∃ (i:Nat) (g:List (Int×List Int)),i≤ms.length∧Bst ms cl i g∧x=((st,p,b,bg,s,ac,vs,ms,cl,h,l1,()),g,ms,(ms.length:Int),(i:Int),())) (m:=fun x=>((ms.length:Int)-x.2.2.2.2.1).toNat)
  (g:=fun _=>some ((decide (CM ms cl l1),()),(),())) ?_ ⟨0,[],by omega,⟨fun a=>by rw[show cS ms cl a 0=0 from rfl,Brf];rfl,au1,fun a=>⟨fun h=>(by cases h),fun⟨j,hj,_⟩=>(by omega)⟩,ac2 _⟩,rfl⟩ (by rw[Au];simp only;omega)
 rintro x aa ⟨i,g,hi,hg,rfl⟩ hag
 simp only at hag ⊢
 unfold Wb
 try dsimp only
 rw[Ad]
 by_cases c:(i:Int)<(ms.length:Int)
 ·rw[aa0 c,Ao,aa0 (by omega),Ao,aa0 (by omega),aa3,Ar (by omega) (by omega)]
  rw[show (((0:Int),(0:Int),[(0:Int),0,0,0],()):Ea)=Bp from rfl]
  have hw:=hm.at (show i<ms.length by omega) Bp
  have er:=Cln hm cl (ms.getD i Bp).2.1 i hi
  have ay8:i*115792089237316195423570985008687907853269984665640564039457584007913129639936≤20000*115792089237316195423570985008687907853269984665640564039457584007913129639936:=ac6 _ (by omega)
  cases f9:cl.getD i false with
  | false =>
   rw[Bn]
   exact hag _ ⟨i+1,g,by omega,hg.none f9,by rw[ab0];rfl⟩ (by simp only;omega)
  | true =>
   have hs:=hg.some f9
   have hn:aa ((st,p,b,bg,s,ac,vs,ms,cl,h,l1,()),Kr g (ms.getD i Bp).2.1 (Ab2 (cS ms cl (ms.getD i Bp).2.1 i+D8 (ms.getD i Bp).2.2.1)),ms,(ms.length:Int),(i:Int)+1,())=some ((decide (CM ms cl l1),()),(),()) :=
    hag _ ⟨i+1,_,by omega,hs,by rw[ab0];rfl⟩ (by simp only;omega)
   clear hag hs
   rw[Ap,hg.get]
   generalize ms.getD i Bp=m at hw hn er ⊢
   obtain⟨q1,q2,q3⟩:=hw
   dsimp only at hn er ⊢
   rw[Bi] at hn
   generalize cS ms cl _ i=z at *
   rw[Bes (by omega) q3,Aa]
   exact hn
 ·have fh:i=ms.length:=by omega
  subst fh
  rw[aa1 c]
  exact Cgt hm h2 hp h3 hg
structure VS(p:J9)(bt:Int)(bf:Nat)(s:Ux)(ac:List A2)(vs:List Nat)(ms:List Ea)(cl:List Bool)(h:Nat)(l1:List Bl):Prop where
 pv:PV p
 nz:bf≠0
 pr:PRV s
 lu:¬ s.2.2.1>bt
 va:VA ac
 om:okM ms=true
 cn:cl.length=ms.length
 ow:Fr ac+vs.sum+oS ms cl ms.length=h
 cm:CM ms cl l1
structure Bdi(ac:List A2)(ms:List Ea)(l1:List Bl):Prop where
 a:ac.length≤20000
 m:ms.length≤20000
 l:l1.length≤20000
section
variable {st bg n t g:Int} {p:J9} {s:Ux} {ac:List A2} {vs:List Nat} {ms:List Ea} {cl:List Bool} {h f:Nat} {l1:List Bl}
open Classical in
theorem Awi(h2:Uk p)(h4:Al f)(h6:Al5 s)(h8:Aaf ac)(v1:vs.length=4)(v2:∀ n∈vs,Al n)(m1:Vg ms)(e1:Al h)(p1:G1 l1)(hs:Bdi ac ms l1) :
  Cc ((st,p,(n,t,g,At f,()),bg,s,ac,vs.map At,ms,cl,At h,l1,()),())=some ((decide (VS p t f s ac vs ms cl h l1),()),(),()):=by
 have hsa:=hs.a
 have vz:=hs.m
 have bo:=hs.l
 unfold Cc Aa8
 try dsimp only
 rw[Blo h2,Aa]
 dsimp only
 rw[An,Ad]
 by_cases c1:PV p
 case neg=>rw[aa1 c1,ab5 (fun h=>c1 h.pv)]
 rw[aa0 c1,← Aut,Asg,Ad]
 by_cases c2:f=0
 ·rw[aa0 c2,ab5 (fun h=>h.nz c2)]
 rw[aa1 c2,Bl8 h6,Aa]
 dsimp only
 rw[An,Ad]
 by_cases c3:PRV s
 case neg=>rw[aa1 c3,ab5 (fun h=>c3 h.pr)]
 rw[aa0 c3,Ad]
 by_cases c4:s.2.2.1>t
 ·rw[aa0 c4,ab5 (fun h=>h.lu c4)]
 rw[aa1 c4,Cj8 h8 (by omega) v1 v2,Aa]
 unfold Bqo
 by_cases c5:VA ac
 case neg =>
  rw[aa1 c5]
  dsimp only
  rw[Brz,Ad,aa1 (by decide),ab5 (fun h=>c5 h.va)]
 rw[aa0 c5]
 by_cases c6:Fr ac+vs.sum<115792089237316195423570985008687907853269984665640564039457584007913129639936
 case neg =>
  rw[aa1 c6]
  dsimp only
  rw[Brz,Ad,aa1 (by decide),ab5 (fun h=>by
   have:=h.ow
   unfold Al at e1
   omega)]
 rw[aa0 c6]
 dsimp only
 rw[Cdk,Ad,aa0 rfl,Bsb m1 (by omega),Aa]
 dsimp only
 by_cases c7:okM ms=true
 case neg =>
  rw[Bool.not_eq_true] at c7
  rw[c7,Bool.false_and,Bn,ab5 (fun h=>by have:=h.om;rw[c7] at this;cases this)]
 rw[c7,ao1,Ad]
 by_cases c8:cl.length=ms.length
 case neg=>rw[aa1 c8,ab5 (fun h=>c8 h.cn)]
 rw[aa0 c8,Blf h8 hsa v1 v2 m1 vz c8 e1,Aa]
 dsimp only
 rw[Ad]
 by_cases c9:Fr ac+vs.sum+oS ms cl ms.length=h
 case neg=>rw[aa1 c9,ab5 (fun h=>c9 h.ow)]
 rw[aa0 c9,Buj m1 vz c8 p1 bo,Aa]
 dsimp only
 rw[show decide (CM ms cl l1)=decide (VS p t f s ac vs ms cl h l1) by
  rw[aj5];exact⟨fun h=>⟨c1,c2,c3,c4,c5,c7,c8,c9,h⟩,fun h=>h.cm⟩]
end
def Abh(b:List Int)(l:List Int):List Int:=l.foldl (fun b x=>b++enc x.toNat) b
def Ap9(b:List Int)(l:List Nat):List Int:=l.foldl (fun b x=>b++enc x) b
theorem Byw(b l:List Int)(x:Int):Abh b (l++[x])=Abh b l++enc x.toNat:=by simp[Abh]
theorem Bxd(b:List Int)(l:List Nat)(x:Nat):Ap9 b (l++[x])=Ap9 b l++enc x:=by simp[Ap9]
theorem Cs{n:Nat}(h:Al n):(enc n).length≤33:=by
 have:=Ae3 h
 rw[Af6]
 omega
theorem H2{x:Int}(h:B2 x):(enc x.toNat).length≤33:=Cs (Bgn h)
theorem Api{α:Type}(d:α){l:List α}{i:Nat}(h:i<l.length):l.take (i+1)=l.take i++[l.getD i d]:=by
 rw[ap7,aa6 h,aa2,aa6 h]
 rfl
theorem Aay{b:List Int}:∀ (l:List Int),(∀ x∈l,B2 x)→(Abh b l).length≤b.length+33*l.length:=by
 intro l
 induction l generalizing b with
 | nil=>intro _;exact ab4 _
 | cons x l ih =>
  intro h
  have h1:=H2 (h x (ac1 ..))
  have h2:=ih (b:=b++enc x.toNat) (fun y hy=>h y (ab8 _ hy))
  rw[aa4] at h2
  show (Abh (b++enc x.toNat) l).length≤_
  rw[ac5]
  omega
theorem Bcp{b:List Int}:∀ (l:List Nat),(∀ x∈l,Al x)→(Ap9 b l).length≤b.length+33*l.length:=by
 intro l
 induction l generalizing b with
 | nil=>intro _;exact ab4 _
 | cons x l ih =>
  intro h
  have h1:=Cs (h x (ac1 ..))
  have h2:=ih (b:=b++enc x) (fun y hy=>h y (ab8 _ hy))
  rw[aa4] at h2
  show (Ap9 (b++enc x) l).length≤_
  rw[ac5]
  omega
theorem Au9{b l:List Int}(hb:b.length≤90000000)(hl:l.length≤1000)(hu:∀ x∈l,B2 x):Bt (b,l,())=some ((Abh b l,()),(),(),()):=by
 unfold Bt Rv
 refine Ai (I:=fun x=>∃ i:Nat,i≤l.length∧x=(Abh b (l.take i),l,((l.length:Nat):Int),(i:Int),())) (m:=fun x=>(((l.length:Nat):Int)-x.2.2.2.1).toNat)
  (g:=fun _=>some ((Abh b l,()),(),(),())) ?_ ⟨0,by omega,rfl⟩ (by rw[Au];simp only;omega)
 rintro x aa ⟨i,hi,rfl⟩ hag
 simp only at hag ⊢
 unfold T6
 rw[Ad]
 by_cases c:(i:Int)<((l.length:Nat):Int)
 ·have bx:i<l.length:=by omega
  have hx:=hu _ (B3 (d:=0) bx)
  have h1:=Aay (b:=b) (l.take i) (fun x hx=>hu x (ah7 hx))
  have h2:=H2 hx
  rw[ab2] at h1
  rw[aa0 c,Ao,aa0 (by omega),aa3,Bjk (by simp) hx.1 hx.2,Aa]
  dsimp only
  rw[af8,Dv (by omega),Bx,Ar (by omega) (by omega)]
  exact hag _ ⟨i+1,by omega,by rw[Api 0 bx,Byw,ab0];rfl⟩ (by simp only;omega)
 ·rw[aa1 c,aa8 (by omega)]
theorem Bco{b:List Int}{l:List Nat}(hb:b.length≤90000000)(hl:l.length≤1000)(hu:∀ x∈l,Al x):Br (b,l.map At,())=some ((Ap9 b l,()),(),(),()):=by
 unfold Br Pr
 try dsimp only
 rw[ag7]
 refine Ai (I:=fun x=>∃ i:Nat,i≤l.length∧x=(Ap9 b (l.take i),l.map At,((l.length:Nat):Int),(i:Int),())) (m:=fun x=>(((l.length:Nat):Int)-x.2.2.2.1).toNat)
  (g:=fun _=>some ((Ap9 b l,()),(),(),())) ?_ ⟨0,by omega,rfl⟩ (by rw[Au];simp only;omega)
 rintro x aa ⟨i,hi,rfl⟩ hag
 simp only at hag ⊢
 unfold Rz
 rw[Ad,ag7]
 by_cases c:(i:Int)<((l.length:Nat):Int)
 ·have bx:i<l.length:=by omega
  have hx:=hu _ (B3 (d:=0) bx)
  have h1:=Bcp (b:=b) (l.take i) (fun x hx=>hu x (ah7 hx))
  have h2:=Cs hx
  have e2:(l.map At).getD i [(0:Int),0,0,0]=At (l.getD i 0):=by
   rw[aa2,aa2,ag3,aa6 bx];rfl
  rw[ab2] at h1
  rw[aa0 c,Ao,aa0 (by omega),aa3,e2,At5 (by simp) hx,Aa]
  dsimp only
  rw[af8,Dv (by omega),Bx,Ar (by omega) (by omega)]
  exact hag _ ⟨i+1,by omega,by rw[Api 0 bx,Bxd,ab0];rfl⟩ (by simp only;omega)
 ·rw[aa1 c,aa8 (by omega)]
theorem U7{b:List Int}{n:Nat}(hb:b.length≤90000000)(hn:Al n):Br (b,[At n],())=some ((b++enc n,()),(),(),()) :=
 Bco (l:=[n]) hb (by simp) (fun x hx=>by rw[ac3.1 hx];exact hn)
theorem Nu{b:List Int}{x:Int}(hb:b.length≤90000000)(hx:B2 x):Bt (b,[x],())=some ((b++enc x.toNat,()),(),(),()) :=
 Au9 (l:=[x]) hb (by simp) (fun y hy=>by rw[ac3.1 hy];exact hx)
def Lg(st bg:Int)(p:J9)(n t g:Int)(f:Nat)(s:Ux):List Int :=
 Abh (Abh (Abh ([]:List Int) [1886350964,st,p.1,p.2.1,p.2.2.1]++enc (D8 p.2.2.2.1)++enc p.2.2.2.2.1.toNat++enc (D8 p.2.2.2.2.2.1)++enc p.2.2.2.2.2.2.1.toNat++enc (D8 p.2.2.2.2.2.2.2.1))
  [p.2.2.2.2.2.2.2.2.1,p.2.2.2.2.2.2.2.2.2.1,p.2.2.2.2.2.2.2.2.2.2.1,p.2.2.2.2.2.2.2.2.2.2.2.1,n,t,g]++enc f++enc bg.toNat++enc (D8 s.1))
  [s.2.1,s.2.2.1,s.2.2.2.1]++Aob s.2.2.2.2.1.1 (D8 s.2.2.2.2.1.2.1)
theorem Cng{P:Int→Prop}{a b c d:Int}(ha:P a)(hb:P b)(hc:P c)(hd:P d):∀ x∈[a,b,c,d],P x:=fun x hx=>by
 simp only[aa9,al8,or_false] at hx
 rcases hx with rfl|rfl|rfl|rfl<;>assumption
theorem Cg5{P:Int→Prop}{a b c:Int}(ha:P a)(hb:P b)(hc:P c):∀ x∈[a,b,c],P x:=fun x hx=>by
 simp only[aa9,al8,or_false] at hx
 rcases hx with rfl|rfl|rfl<;>assumption
theorem Cj5{P:Int→Prop}{a b c d e:Int}(ha:P a)(hb:P b)(hc:P c)(hd:P d)(he:P e):∀ x∈[a,b,c,d,e],P x:=fun x hx=>by
 simp only[aa9,al8,or_false] at hx
 rcases hx with rfl|rfl|rfl|rfl|rfl<;>assumption
theorem Cmr{P:Int→Prop}{a b c d e f g:Int}(ha:P a)(hb:P b)(hc:P c)(hd:P d)(he:P e)(hf:P f)(hg:P g):∀ x∈[a,b,c,d,e,f,g],P x:=fun x hx=>by
 simp only[aa9,al8,or_false] at hx
 rcases hx with rfl|rfl|rfl|rfl|rfl|rfl|rfl<;>assumption
theorem Bwt{s:Bool}{n:Nat}(h:Al n):(Aob s n).length≤34:=by
 have:=Cs h
 unfold Aob
 split
 ·simp
 ·rw[ac5];omega
section
variable {st bg n t g:Int} {p:J9} {s:Ux} {f:Nat}
theorem Cj7{ac:List A2}{vs:List (List Int)}{ms:List Ea}{cl:List Bool}{h:List Int}{l1:List Bl}
  (ci:B2 st) (iz:B2 bg) (h2:Uk p) (hn:B2 n) (ht:B2 t) (hg:B2 g) (h4:Al f) (h6:Al5 s) :
  Hg (([]:List Int),(st,p,(n,t,g,At f,()),bg,s,ac,vs,ms,cl,h,l1,()),())=some ((Lg st bg p n t g f s,()),(),(),()):=by
 obtain⟨⟨up,m7,j6⟩,cz,me,ek,j0,-,-⟩:=h6
 obtain⟨s1,s2,s3,s4,s5,s6,su⟩:=s
 dsimp only at m7 cz me ek j0
 subst m7
 cases j0 with
 | mk th =>
 rename_i sg sn
 obtain⟨k1,k2,k3,k4,k5,k6,k7,k8,k9,mc,md,qx⟩:=h2
 rename_i sp to bi gl bb eu pi mi ma fe ic ep
 have um:B2 1886350964:=⟨by decide,by decide⟩
 have l1:=Aay (b:=([]:List Int)) _ (Cj5 um ci k1 k2 k3)
 have q1:=Cs k4
 have q2:=H2 k5
 have q3:=Cs k6
 have q4:=H2 k7
 have q5:=Cs k8
 have l2:=fun b=>Aay (b:=b) _ (Cmr k9 mc md qx hn ht hg)
 have l2':=fun b=>Aay (b:=b) _ (Cng k9 mc md qx)
 have q6:=Cs h4
 have q7:=H2 iz
 have q8:=Cs j6
 have l3:=fun b=>Aay (b:=b) _ (Cg5 cz me ek)
 have q9:=Bwt (s:=sg) th
 simp only[ac5,am3] at l1 l2 l2' l3
 unfold Lg
 try dsimp only
 rw[Bi,Bi,Bi,Bi,Bi]
 unfold Hg T8
 try dsimp only
 rw[Au9 (by simp) (by simp) (Cj5 um ci k1 k2 k3),Aa]
 dsimp only
 generalize Abh ([]:List Int) [1886350964,st,sp,to,bi]=b1 at *
 rw[U7 (by omega) k4,Aa]
 dsimp only
 rw[Nu (by simp only[aa4];omega) k5,Aa]
 dsimp only
 rw[U7 (by simp only[aa4];omega) k6,Aa]
 dsimp only
 rw[Nu (by simp only[aa4];omega) k7,Aa]
 dsimp only
 rw[U7 (by simp only[aa4];omega) k8,Aa]
 dsimp only
 have jr:(b1++enc fe++enc gl.toNat++enc ic++enc bb.toNat++enc ep).length≤400:=by simp only[aa4];omega
 generalize b1++enc fe++enc gl.toNat++enc ic++enc bb.toNat++enc ep=b2 at *
 have l2a:=l2' b2
 rw[Au9 (by omega) (by simp) (Cng k9 mc md qx),Aa]
 dsimp only
 rw[Au9 (by omega) (by simp) (Cg5 hn ht hg),Aa]
 dsimp only
 rw[show Abh (Abh b2 [eu,pi,mi,ma]) [n,t,g]=Abh b2 [eu,pi,mi,ma,n,t,g] from rfl]
 have l2b:=l2 b2
 generalize Abh b2 [eu,pi,mi,ma,n,t,g]=b3 at *
 rw[U7 (by omega) h4,Aa]
 dsimp only
 rw[Nu (by simp only[aa4];omega) iz,Aa]
 dsimp only
 rw[U7 (by simp only[aa4];omega) j6,Aa]
 dsimp only
 have hb4:(b3++enc f++enc bg.toNat++enc up).length≤800:=by simp only[aa4];omega
 generalize b3++enc f++enc bg.toNat++enc up=b4 at *
 have l3a:=l3 b4
 rw[Au9 (by omega) (by simp) (Cg5 cz me ek),Aa]
 dsimp only
 rw[Bj1 (by simp) th,Aa]
 dsimp only
 rw[af8,Dv (by omega),Bx]
theorem Cay 
  (ci:B2 st) (iz:B2 bg) (h2:Uk p) (hn:B2 n) (ht:B2 t) (hg:B2 g) (h4:Al f) (h6:Al5 s) :
  (Lg st bg p n t g f s).length≤1000:=by
 obtain⟨⟨up,m7,j6⟩,cz,me,ek,j0,-,-⟩:=h6
 obtain⟨s1,s2,s3,s4,s5,s6,su⟩:=s
 dsimp only at m7 cz me ek j0
 subst m7
 cases j0 with
 | mk th =>
 rename_i sg sn
 obtain⟨k1,k2,k3,k4,k5,k6,k7,k8,k9,mc,md,qx⟩:=h2
 rename_i sp to bi gl bb eu pi mi ma fe ic ep
 have um:B2 1886350964:=⟨by decide,by decide⟩
 have l1:=Aay (b:=([]:List Int)) _ (Cj5 um ci k1 k2 k3)
 have q1:=Cs k4
 have q2:=H2 k5
 have q3:=Cs k6
 have q4:=H2 k7
 have q5:=Cs k8
 have l2:=fun b=>Aay (b:=b) _ (Cmr k9 mc md qx hn ht hg)
 have l2':=fun b=>Aay (b:=b) _ (Cng k9 mc md qx)
 have q6:=Cs h4
 have q7:=H2 iz
 have q8:=Cs j6
 have l3:=fun b=>Aay (b:=b) _ (Cg5 cz me ek)
 have q9:=Bwt (s:=sg) th
 simp only[ac5,am3] at l1 l2 l2' l3
 unfold Lg
 try dsimp only
 rw[Bi,Bi,Bi,Bi,Bi]
 generalize Abh ([]:List Int) [1886350964,st,sp,to,bi]=b1 at *
 have jr:(b1++enc fe++enc gl.toNat++enc ic++enc bb.toNat++enc ep).length≤400:=by simp only[aa4];omega
 generalize b1++enc fe++enc gl.toNat++enc ic++enc bb.toNat++enc ep=b2 at *
 have l2b:=l2 b2
 generalize Abh b2 [eu,pi,mi,ma,n,t,g]=b3 at *
 have hb4:(b3++enc f++enc bg.toNat++enc up).length≤800:=by simp only[aa4];omega
 generalize b3++enc f++enc bg.toNat++enc up=b4 at *
 have l3a:=l3 b4
 rw[aa4]
 omega
end
def Fd(f:List Int→Nat→List Int)(b:List Int):Nat→List Int
 | 0=>b
 | i+1=>f (Fd f b i) i
theorem Ag8{f:List Int→Nat→List Int}{b:List Int}{K:Nat}:∀ (n:Nat),(∀ b i,i<n→(f b i).length≤b.length+K)→(Fd f b n).length≤b.length+n*K
 | 0,_=>Nat.le_add_right _ _
 | n+1,h=>by
  have h1:=Ag8 (f:=f) (b:=b) (K:=K) n (fun b i hi=>h b i (by omega))
  have h2:=h (Fd f b n) n (by omega)
  show (f (Fd f b n) n).length≤_
  rw[ae4,ap4]
  omega
def Aps(l:List Aq)(b:List Int)(i:Nat):List Int :=
 b++enc (l.getD i Aw).1.toNat++enc (D8 (l.getD i Aw).2.1)++enc (D8 (l.getD i Aw).2.2.1)++enc (D8 (l.getD i Aw).2.2.2.1)++enc (D8 (l.getD i Aw).2.2.2.2.1)++enc (l.getD i Aw).2.2.2.2.2.1.toNat
def Anp(l:List A2)(b:List Int)(i:Nat):List Int:=b++enc (l.getD i Ib).1.toNat++enc (D8 (l.getD i Ib).2.1)++enc (l.getD i Ib).2.2.1.toNat
def Ab3(ms:List Ea)(cl:List Bool)(b:List Int)(i:Nat):List Int:=b++enc (ms.getD i Bp).2.1.toNat++enc (D8 (ms.getD i Bp).2.2.1)++[if cl.getD i false=true then (1:Int) else 0]
def T2(l:List Bl)(b:List Int)(i:Nat):List Int:=b++enc (l.getD i F7).1.toNat++enc (D8 (l.getD i F7).2.1)
def Be2(b:List Int)(ps:List Aq):List Int:=Fd (Aps ps) (b++enc ps.length) ps.length
def Bbg(b:List Int)(ac:List A2):List Int:=Fd (Anp ac) (b++enc ac.length) ac.length
def Bjh(b:List Int)(vs:List Nat):List Int:=Ap9 b vs
def Baa(b:List Int)(ms:List Ea)(cl:List Bool):List Int:=Fd (Ab3 ms cl) (b++enc ms.length) ms.length
def Axy(b:List Int)(h:Nat)(l1:List Bl):List Int:=Fd (T2 l1) (b++enc h++enc l1.length) l1.length
theorem Bip{n:Nat}(h:Al n):Al (D8 (At n)):=by rw[Bi];exact h
theorem Byh{l:List Aq}(ha:Aco l)(b:List Int)(i:Nat)(hi:i<l.length):(Aps l b i).length≤b.length+200:=by
 have hw:=ha _ (B3 (d:=Aw) hi)
 unfold Aps
 generalize l.getD i Aw=x at *
 cases hw with
 | mk h1 h2 h3 h4 h5 h6 =>
 dsimp only
 have:=H2 h1
 have:=Cs (Bip h2)
 have:=Cs (Bip h3)
 have:=Cs (Bip h4)
 have:=Cs (Bip h5)
 have:=H2 h6
 simp only[aa4]
 omega
theorem Bw1{l:List A2}(ha:Aaf l)(b:List Int)(i:Nat)(hi:i<l.length):(Anp l b i).length≤b.length+100:=by
 have hw:=ha _ (B3 (d:=Ib) hi)
 unfold Anp
 generalize l.getD i Ib=x at *
 cases hw with
 | mk h1 h2 h3 =>
 dsimp only
 have:=H2 h1
 have:=Cs (Bip h2)
 have:=H2 h3
 simp only[aa4]
 omega
theorem Bvj{l:List Ea}(ha:Vg l)(cl:List Bool)(b:List Int)(i:Nat)(hi:i<l.length):(Ab3 l cl b i).length≤b.length+100:=by
 have hw:=ha.at hi Bp
 unfold Ab3
 generalize l.getD i Bp=x at *
 cases hw with
 | mk h1 h2 h3 =>
 dsimp only
 have:=H2 h2
 have:=Cs (Bip h3)
 simp only[aa4,ag4]
 omega
theorem Bqy{l:List Bl}(ha:G1 l)(b:List Int)(i:Nat)(hi:i<l.length):(T2 l b i).length≤b.length+100:=by
 have hw:=ha.at i
 unfold T2
 generalize l.getD i F7=x at *
 cases hw with
 | mk h1 h2 =>
 dsimp only
 have:=H2 h1
 have:=Cs (Bip h2)
 simp only[aa4]
 omega
theorem Alq{n:Nat}(h:n≤20000):(enc n).length≤33:=Cs (by unfold Al;omega)
theorem Chw{b:List Int}{ps:List Aq}(ha:Aco ps)(h:ps.length≤1000):(Be2 b ps).length≤b.length+210000:=by
 have h1:=Alq (n:=ps.length) (by omega)
 have h2:=Ag8 (b:=b++enc ps.length) ps.length (Byh ha)
 rw[aa4] at h2
 unfold Be2
 omega
theorem Cgg{b:List Int}{l:List A2}(ha:Aaf l)(h:l.length≤20000):(Bbg b l).length≤b.length+2010000:=by
 have h1:=Alq h
 have h2:=Ag8 (b:=b++enc l.length) l.length (Bw1 ha)
 rw[aa4] at h2
 unfold Bbg
 omega
theorem Cff{b:List Int}{l:List Ea}{cl:List Bool}(ha:Vg l)(h:l.length≤20000):(Baa b l cl).length≤b.length+2010000:=by
 have h1:=Alq h
 have h2:=Ag8 (b:=b++enc l.length) l.length (Bvj ha cl)
 rw[aa4] at h2
 unfold Baa
 omega
theorem Cg6{b:List Int}{n:Nat}{l:List Bl}(ha:G1 l)(h:l.length≤20000)(hn:Al n):(Axy b n l).length≤b.length+2010000:=by
 have h1:=Alq h
 have h3:=Cs hn
 have h2:=Ag8 (b:=b++enc n++enc l.length) l.length (Bqy ha)
 rw[aa4,aa4] at h2
 unfold Axy
 omega
theorem Chk{l:List Int}(h:0<l.length):C2 (l,())=some ((l,()),(),()):=by
 unfold C2 Tl
 try dsimp only
 rw[Ad,aa0 rfl,aa7 (by omega),aa7 (by omega),ak7,Ap,aa7 (by omega),aa7 (by omega),ak7,Ap]
theorem Cit{n:Nat}(h:n≤20000):IntKind.wrap .u64 (n:Int)=(n:Int):=Gt (by omega) (by omega)
section
variable {st bg n t g:Int} {p:J9} {s:Ux} {ac:List A2} {vs:List Nat} {ms:List Ea} {cl:List Bool} {h f:Nat} {l1:List Bl}
abbrev STL(st bg n t g:Int)(p:J9)(s:Ux)(ac:List A2)(vs:List Nat)(ms:List Ea)(cl:List Bool)(h f:Nat)(l1:List Bl):StT :=
 (st,p,(n,t,g,At f,()),bg,s,ac,vs.map At,ms,cl,At h,l1,())
theorem sE3{b:List Int}(p1:G1 l1)(hl:l1.length≤20000)(hb:b.length≤6000000)(qv:0<b.length) :
  Ac _ _ (fun aa x=>Ui Bt Br C2 aa x.1 x.2.1 x.2.2.1 x.2.2.2.1) (b,l1,(l1.length:Int),(0:Int),()) =
   some ((Fd (T2 l1) b l1.length,(0:Int),()),(),()):=by
 refine Ai (I:=fun x=>∃ i:Nat,i≤l1.length∧0<(Fd (T2 l1) b i).length∧x=(Fd (T2 l1) b i,l1,(l1.length:Int),(i:Int),())) (m:=fun x=>((l1.length:Int)-x.2.2.2.1).toNat)
  (g:=fun _=>some ((Fd (T2 l1) b l1.length,(0:Int),()),(),())) ?_ ⟨0,by omega,qv,rfl⟩ (by rw[Au];simp only;omega)
 rintro x aa ⟨i,hi,hp0,rfl⟩ hag
 simp only at hag ⊢
 unfold Ui
 rw[Ad]
 by_cases c:(i:Int)<(l1.length:Int)
 ·have bx:i<l1.length:=by omega
  have ag:=Ag8 (f:=T2 l1) (b:=b) (K:=100) i (fun b j hj=>Bqy p1 b j (by omega))
  rw[aa0 c,Ao,aa0 (by omega),aa3,Ar (by omega) (by omega)]
  rw[show (((0:Int),[(0:Int),0,0,0],()):Bl)=F7 from rfl]
  have hn:aa (T2 l1 (Fd (T2 l1) b i) i,l1,(l1.length:Int),(i:Int)+1,())=some ((Fd (T2 l1) b l1.length,(0:Int),()),(),()) :=
   hag _ ⟨i+1,by omega,by show 0<(T2 l1 (Fd (T2 l1) b i) i).length;rw[T2];simp only[aa4];omega,by rw[ab0];rfl⟩ (by simp only;omega)
  clear hag
  rw[T2] at hn
  have hw:=p1.at i
  generalize Fd (T2 l1) b i=b' at hn ag ⊢
  generalize l1.getD i F7=x at *
  cases hw with
  | mk h1 h2 =>
  dsimp only at *
  have:=H2 h1
  rw[Bi] at hn
  rw[Nu (by omega) h1,Aa]
  dsimp only
  rw[U7 (by simp only[aa4];omega) h2,Aa]
  exact hn
 ·have fh:i=l1.length:=by omega
  subst fh
  rw[aa1 c,Chk hp0,Aa,Am]
  dsimp only
  rw[aa7 hp0,aa7 rfl,ak7,Ap]
theorem sE2{b:List Int}(m1:Vg ms)(hm:ms.length≤20000)(hc:cl.length=ms.length)(e1:Al h)(p1:G1 l1)(hl:l1.length≤20000)(hb:b.length≤3500000) :
  Ac _ _ (fun aa x=>Uj Ac Bt Br C2 aa x.1 x.2.1 x.2.2.1 x.2.2.2.1 x.2.2.2.2.1) (STL st bg n t g p s ac vs ms cl h f l1,b,ms,(ms.length:Int),(0:Int),()) =
   some ((Axy (Fd (Ab3 ms cl) b ms.length) h l1,(0:Int),()),(),()):=by
 refine Ai (I:=fun x=>∃ i:Nat,i≤ms.length∧x=(STL st bg n t g p s ac vs ms cl h f l1,Fd (Ab3 ms cl) b i,ms,(ms.length:Int),(i:Int),())) (m:=fun x=>((ms.length:Int)-x.2.2.2.2.1).toNat)
  (g:=fun _=>some ((Axy (Fd (Ab3 ms cl) b ms.length) h l1,(0:Int),()),(),())) ?_ ⟨0,by omega,rfl⟩ (by rw[Au];simp only;omega)
 rintro x aa ⟨i,hi,rfl⟩ hag
 simp only at hag ⊢
 unfold Uj
 try dsimp only
 rw[Am,Ad]
 have ag:=Ag8 (f:=Ab3 ms cl) (b:=b) (K:=100) i (fun b j hj=>Bvj m1 cl b j (by omega))
 by_cases c:(i:Int)<(ms.length:Int)
 ·have bx:i<ms.length:=by omega
  rw[aa0 c,Ao,aa0 (by omega),Ao,aa0 (by omega),aa3,Ar (by omega) (by omega)]
  rw[show (((0:Int),(0:Int),[(0:Int),0,0,0],()):Ea)=Bp from rfl]
  have hn:aa (STL st bg n t g p s ac vs ms cl h f l1,Ab3 ms cl (Fd (Ab3 ms cl) b i) i,ms,(ms.length:Int),(i:Int)+1,())=some ((Axy (Fd (Ab3 ms cl) b ms.length) h l1,(0:Int),()),(),()) :=
   hag _ ⟨i+1,by omega,by rw[ab0];rfl⟩ (by simp only;omega)
  clear hag
  have hw:=m1.at bx Bp
  rw[Ab3] at hn
  generalize Fd (Ab3 ms cl) b i=b' at hn ag ⊢
  generalize ms.getD i Bp=x at *
  generalize cl.getD i false=q at hn ⊢
  cases hw with
  | mk h1 h2 h3 =>
  dsimp only at *
  have q1:=H2 h2
  have q2:=Cs h3
  rw[Bi] at hn
  cases q
  all_goals
   first|rw[Ap]|rw[Bn]
   rw[Nu (by omega) h2,Aa]
   dsimp only
   rw[U7 (by simp only[aa4];omega) h3,Aa]
   dsimp only
   rw[Dv (by simp only[aa4];omega),Bx]
   exact hn
 ·have fh:i=ms.length:=by omega
  subst fh
  have q1:=Cs e1
  have q2:=Alq hl
  rw[aa1 c,U7 (by omega) e1,Aa]
  dsimp only
  rw[Cit hl,Nu (by simp only[aa4];omega) ⟨by omega,by omega⟩,Aa]
  dsimp only
  rw[aa3]
  exact sE3 p1 hl (by simp only[aa4];omega) (by simp only[aa4,Af6];omega)
theorem sE1{b:List Int}(h8:Aaf ac)(tg:ac.length≤20000)(v1:vs.length=4)(v2:∀ n∈vs,Al n)(m1:Vg ms)(hm:ms.length≤20000)(hc:cl.length=ms.length)(e1:Al h)(p1:G1 l1)(hl:l1.length≤20000)(hb:b.length≤300000) :
  Ac _ _ (fun aa x=>T1 Ac Bt Br C2 aa x.1 x.2.1 x.2.2.1 x.2.2.2.1 x.2.2.2.2.1) (STL st bg n t g p s ac vs ms cl h f l1,b,ac,(ac.length:Int),(0:Int),()) =
   some ((Axy (Baa (Bjh (Fd (Anp ac) b ac.length) vs) ms cl) h l1,(0:Int),()),(),()):=by
 refine Ai (I:=fun x=>∃ i:Nat,i≤ac.length∧x=(STL st bg n t g p s ac vs ms cl h f l1,Fd (Anp ac) b i,ac,(ac.length:Int),(i:Int),())) (m:=fun x=>((ac.length:Int)-x.2.2.2.2.1).toNat)
  (g:=fun _=>some ((Axy (Baa (Bjh (Fd (Anp ac) b ac.length) vs) ms cl) h l1,(0:Int),()),(),())) ?_ ⟨0,by omega,rfl⟩ (by rw[Au];simp only;omega)
 rintro x aa ⟨i,hi,rfl⟩ hag
 simp only at hag ⊢
 unfold T1
 try dsimp only
 rw[Am,Ad]
 have ag:=Ag8 (f:=Anp ac) (b:=b) (K:=100) i (fun b j hj=>Bw1 h8 b j (by omega))
 by_cases c:(i:Int)<(ac.length:Int)
 ·have bx:i<ac.length:=by omega
  rw[aa0 c,Ao,aa0 (by omega),aa3,Ar (by omega) (by omega)]
  rw[show (((0:Int),[(0:Int),0,0,0],(0:Int),()):A2)=Ib from rfl]
  have hn:aa (STL st bg n t g p s ac vs ms cl h f l1,Anp ac (Fd (Anp ac) b i) i,ac,(ac.length:Int),(i:Int)+1,())=some ((Axy (Baa (Bjh (Fd (Anp ac) b ac.length) vs) ms cl) h l1,(0:Int),()),(),()) :=
   hag _ ⟨i+1,by omega,by rw[ab0];rfl⟩ (by simp only;omega)
  clear hag
  have hw:=h8 _ (B3 (d:=Ib) bx)
  rw[Anp] at hn
  generalize Fd (Anp ac) b i=b' at hn ag ⊢
  generalize ac.getD i Ib=x at *
  cases hw with
  | mk h1 h2 h3 =>
  dsimp only at *
  have q1:=H2 h1
  have q2:=Cs h2
  rw[Bi] at hn
  rw[Nu (by omega) h1,Aa]
  dsimp only
  rw[U7 (by simp only[aa4];omega) h2,Aa]
  dsimp only
  rw[Nu (by simp only[aa4];omega) h3,Aa]
  exact hn
 ·have fh:i=ac.length:=by omega
  subst fh
  have q2:=Alq hm
  have q3:=Bcp (b:=Fd (Anp ac) b ac.length) vs v2
  rw[aa1 c,show List.take (4-0) (List.drop 0 (vs.map At))=vs.map At by rw[ag0,aa8 (by simp;omega)],Bco (by omega) (by omega) v2,Aa]
  dsimp only
  rw[Cit hm,Nu (by omega) ⟨by omega,by omega⟩,Aa]
  dsimp only
  rw[aa3]
  exact sE2 m1 hm hc e1 p1 hl (by simp only[aa4];omega)
theorem sE0{b:List Int}{ps:List Aq}(so:ps=s.2.2.2.2.2.1)(ha:Aco ps)(gf:ps.length≤1000)(h8:Aaf ac)(tg:ac.length≤20000)(v1:vs.length=4)(v2:∀ n∈vs,Al n)(m1:Vg ms)(hm:ms.length≤20000)(hc:cl.length=ms.length)(e1:Al h)(p1:G1 l1)(hl:l1.length≤20000)(hb:b.length≤20000) :
  Ac _ _ (fun aa x=>Tq Ac Bt Br C2 aa x.1 x.2.1 x.2.2.1 x.2.2.2.1 x.2.2.2.2.1) (STL st bg n t g p s ac vs ms cl h f l1,b,ps,(ps.length:Int),(0:Int),()) =
   some ((Axy (Baa (Bjh (Bbg (Fd (Aps ps) b ps.length) ac) vs) ms cl) h l1,(0:Int),()),(),()):=by
 refine Ai (I:=fun x=>∃ i:Nat,i≤ps.length∧x=(STL st bg n t g p s ac vs ms cl h f l1,Fd (Aps ps) b i,ps,(ps.length:Int),(i:Int),())) (m:=fun x=>((ps.length:Int)-x.2.2.2.2.1).toNat)
  (g:=fun _=>some ((Axy (Baa (Bjh (Bbg (Fd (Aps ps) b ps.length) ac) vs) ms cl) h l1,(0:Int),()),(),())) ?_ ⟨0,by omega,rfl⟩ (by rw[Au];simp only;omega)
 rintro x aa ⟨i,hi,rfl⟩ hag
 simp only at hag ⊢
 unfold Tq
 try dsimp only
 rw[Am,Ad]
 have ag:=Ag8 (f:=Aps ps) (b:=b) (K:=200) i (fun b j hj=>Byh ha b j (by omega))
 by_cases c:(i:Int)<(ps.length:Int)
 ·have bx:i<ps.length:=by omega
  rw[aa0 c,Ao,aa0 (by omega),aa3,Ar (by omega) (by omega)]
  rw[show (((0:Int),[(0:Int),0,0,0],[(0:Int),0,0,0],[(0:Int),0,0,0],[(0:Int),0,0,0],(0:Int),()):Aq)=Aw from rfl]
  have hn:aa (STL st bg n t g p s ac vs ms cl h f l1,Aps ps (Fd (Aps ps) b i) i,ps,(ps.length:Int),(i:Int)+1,())=some ((Axy (Baa (Bjh (Bbg (Fd (Aps ps) b ps.length) ac) vs) ms cl) h l1,(0:Int),()),(),()) :=
   hag _ ⟨i+1,by omega,by rw[ab0];rfl⟩ (by simp only;omega)
  clear hag
  have hw:=ha _ (B3 (d:=Aw) bx)
  rw[Aps] at hn
  generalize Fd (Aps ps) b i=b' at hn ag ⊢
  generalize ps.getD i Aw=x at *
  cases hw with
  | mk h1 h2 h3 h4 h5 h6 =>
  rename_i xa xd xc xr xp xs
  dsimp only at *
  have q1:=H2 h1
  have q2:=Cs h2
  have q3:=Cs h3
  have q4:=Cs h4
  have q5:=Cs h5
  rw[Bi,Bi,Bi,Bi] at hn
  rw[Nu (by omega) h1,Aa]
  dsimp only
  rw[show [At xd,At xc,At xr,At xp]=[xd,xc,xr,xp].map At from rfl,Bco (by simp only[aa4];omega) (by simp) (fun y hy=>by
   simp only[aa9,al8,or_false] at hy
   rcases hy with rfl|rfl|rfl|rfl<;>assumption),Aa]
  dsimp only
  rw[show Ap9 (b'++enc xa.toNat) [xd,xc,xr,xp]=b'++enc xa.toNat++enc xd++enc xc++enc xr++enc xp from rfl,Nu (by simp only[aa4];omega) h6,Aa]
  exact hn
 ·have fh:i=ps.length:=by omega
  subst fh
  have q2:=Alq tg
  rw[aa1 c,Cit tg,Nu (by omega) ⟨by omega,by omega⟩,Aa]
  dsimp only
  rw[aa3]
  exact sE1 h8 tg v1 v2 m1 hm hc e1 p1 hl (by simp only[aa4];omega)
def Azo(st bg n t g:Int)(p:J9)(s:Ux)(ac:List A2)(vs:List Nat)(ms:List Ea)(cl:List Bool)(h f:Nat)(l1:List Bl):List Int :=
 Axy (Baa (Bjh (Bbg (Be2 (Lg st bg p n t g f s) s.2.2.2.2.2.1) ac) vs) ms cl) h l1
open Classical in
theorem Cko(ci:B2 st)(iz:B2 bg)(hn:B2 n)(ht:B2 t)(hg:B2 g)(h2:Uk p)(h4:Al f)(h6:Al5 s)(gf:s.2.2.2.2.2.1.length≤1000)(h8:Aaf ac)(v1:vs.length=4)(v2:∀ n∈vs,Al n)(m1:Vg ms)(e1:Al h)(p1:G1 l1)(hs:Bdi ac ms l1) :
  D0 (STL st bg n t g p s ac vs ms cl h f l1,())=some ((if VS p t f s ac vs ms cl h l1 then (Azo st bg n t g p s ac vs ms cl h f l1,(0:Int),()) else ([],(2:Int),())),(),()):=by
 have k1:=Cj7 (ac:=ac) (vs:=vs.map At) (ms:=ms) (cl:=cl) (h:=At h) (l1:=l1) ci iz h2 hn ht hg h4 h6
 have k3:=Cay ci iz h2 hn ht hg h4 h6
 have q:=Alq (n:=s.2.2.2.2.2.1.length) (by omega)
 unfold D0 Afp
 try dsimp only
 rw[Am,Awi h2 h4 h6 h8 v1 v2 m1 e1 p1 hs,Aa]
 dsimp only
 rw[An,Ad]
 by_cases c:VS p t f s ac vs ms cl h l1
 case neg=>rw[aa1 c,aa1 c]
 rw[aa0 c,aa0 c,k1,Aa]
 dsimp only
 rw[Cit (n:=s.2.2.2.2.2.1.length) (by omega),Nu (by omega) ⟨by omega,by omega⟩,Aa]
 dsimp only
 rw[aa3]
 exact sE0 rfl h6.ps gf h8 hs.a v1 v2 m1 hs.m c.cn e1 p1 hs.l (by simp only[aa4];omega)
end
theorem Aq8:At 0=[(0:Int),0,0,0]:=rfl
theorem Bf4:TxW Cne:=by
 have u0:B2 0:=⟨by omega,by omega⟩
 have b0:Al 0:=by unfold Al;omega
 have:=TxW.mk u0 u0 u0 b0 u0 b0 b0 u0 (d:=[]) (fun x hx=>by cases hx)
 rw[Aq8] at this
 exact this
abbrev Crq(x:List Int)(a:Int):Aer:=((6:Int),((0:Int),(0:Int),(0:Int),[(0:Int),0,0,0],(0:Int),[(0:Int),0,0,0],[(0:Int),0,0,0],(0:Int),([]:List Int),()),((0:Int),(0:Int),[(0:Int),0,0,0],()),(0:Int),(0:Int),x,a,((0:Int),(0:Int),(0:Int),[(0:Int),0,0,0],([]:List (List Int)),()),())
theorem Be5:Aw4 ((0:Int),(0:Int),(0:Int),[(0:Int),0,0,0],([]:List (List Int)),()):=by
 have u0:B2 0:=⟨by omega,by omega⟩
 have b0:Al 0:=by unfold Al;omega
 have:=Aw4.mk u0 u0 u0 b0 (l:=[]) (fun x hx=>by cases hx)
 rw[Aq8] at this
 exact this
theorem Azh{k:Nat}{a:Int}(hk:Al k)(ha:B2 a):Sb (Crq (At k) a):=by
 have u0:B2 0:=⟨by omega,by omega⟩
 have b0:Al 0:=by unfold Al;omega
 have:=Sb.mk (k:=6) (y:=0) (by omega) Bf4 u0 u0 b0 u0 (by omega) hk ha Be5
 rw[Aq8] at this
 exact this
theorem Bv7{n a:Int}{calm:Bool}(hn:0≤n)(ha:B2 a):∃ s,Sb s∧Kw (n,a,calm,())=some ((s,()),(),(),(),()):=by
 have m1:0≤Int.tmod n 100000∧Int.tmod n 100000<100000:=by rw[Ix hn];omega
 have m2:0≤Int.tmod n 50∧Int.tmod n 50<50:=by rw[Ix hn];omega
 have w1:IntKind.wrap .u64 (Int.tmod n 100000)=Int.tmod n 100000:=Gt (by omega) (by omega)
 have w2:IntKind.wrap .u64 ((4503599627370496:Int)+Int.tmod n 100000)=4503599627370496+Int.tmod n 100000:=Gt (by omega) (by omega)
 have w3:IntKind.wrap .u64 (Int.tmod n 50)=Int.tmod n 50:=Gt (by omega) (by omega)
 have l1:([4503599627370496+Int.tmod n 100000,(0:Int),(0:Int),(0:Int)]:List Int)=At (4503599627370496+Int.tmod n 100000).toNat:=Aai (by omega) (by omega)
 have l2:([Int.tmod n 50,(0:Int),(0:Int),(0:Int)]:List Int)=At (Int.tmod n 50).toNat:=Aai (by omega) (by omega)
 have l3:([(0:Int),0,0,4611686018427387904]:List Int)=At 28948022309329048855892746252171976963317496166410141009864396001978282409984:=by decide
 have b1:Al (4503599627370496+Int.tmod n 100000).toNat:=by unfold Al;omega
 have b2:Al (Int.tmod n 50).toNat:=by unfold Al;omega
 unfold Kw Af7
 simp only[Am]
 rw[w1,w2,w3,l1,l2,l3]
 rw[Ad,Ad,Ad,Ad,Ad]
 by_cases c1:Int.tmod n 13=5
 ·rw[aa0 c1];exact⟨_,Azh b1 (by unfold B2;omega),rfl⟩
 rw[aa1 c1]
 by_cases c2:Int.tmod n 31=6
 ·rw[aa0 c2];exact⟨_,Azh b1 (by unfold B2;omega),rfl⟩
 rw[aa1 c2]
 by_cases c3:Int.tmod n 37=7
 ·rw[aa0 c3];exact⟨_,Azh b1 (by unfold B2;omega),rfl⟩
 rw[aa1 c3]
 by_cases c4:Int.tmod n 11=3
 ·rw[aa0 c4];exact⟨_,Azh b2 ha,rfl⟩
 rw[aa1 c4]
 by_cases c5:Int.tmod n 61=8
 ·rw[aa0 c5]
  cases calm with
  | true=>exact⟨_,Azh b1 ha,rfl⟩
  | false=>exact⟨_,Azh (by unfold Al;omega) ha,rfl⟩
 ·rw[aa1 c5];exact⟨_,Azh b1 ha,rfl⟩
theorem Clj(z:Int):B2 (IntKind.wrap .u64 z):=by
 rw[am8];unfold B2;omega
theorem Bft{z k:Int}(h:B2 z)(hk:1≤k):B2 (Int.tmod z k):=by
 unfold B2 at *
 rw[Ix h.1]
 have h1:=ar0 z (b:=k) (by omega)
 have h3:0≤z / k:=Int.ediv_nonneg h.1 (by omega)
 have h4:=Int.emod_add_mul_ediv z k
 have h5:0≤k*(z / k):=Int.mul_nonneg (by omega) h3
 have h2:z % k≤z:=by omega
 omega
abbrev Crd(y:Int)(x:List Int):Aer:=((4:Int),((0:Int),(0:Int),(0:Int),[(0:Int),0,0,0],(0:Int),[(0:Int),0,0,0],[(0:Int),0,0,0],(0:Int),([]:List Int),()),((0:Int),(0:Int),[(0:Int),0,0,0],()),(0:Int),y,x,(0:Int),((0:Int),(0:Int),(0:Int),[(0:Int),0,0,0],([]:List (List Int)),()),())
theorem Buq{k:Nat}{y:Int}(hy : -9223372036854775808≤y∧y≤9223372036854775807)(hk:Al k):Sb (Crd y (At k)):=by
 have u0:B2 0:=⟨by omega,by omega⟩
 have b0:Al 0:=by unfold Al;omega
 have:=Sb.mk (k:=4) (y:=y) (by omega) Bf4 u0 u0 b0 u0 hy hk u0 Be5
 rw[Aq8] at this
 exact this
theorem Ccp{n:Int}(hn:0≤n)(wc:n≤9223372036854775807):∃ s,Sb s∧N8 (n,())=some ((s,()),(),()):=by
 have m1:0≤Int.tmod n 12∧Int.tmod n 12<12:=by rw[Ix hn];omega
 have m2:0≤Int.tmod n 40∧Int.tmod n 40<40:=by rw[Ix hn];omega
 have w1:IntKind.wrap .i64 (Int.tmod n 12+1)=Int.tmod n 12+1:=Ar (by omega) (by omega)
 unfold N8 Anb
 simp only[Am]
 have hW:=Clj (IntKind.wrap .i64 (Int.tdiv n 12))
 generalize IntKind.wrap .u64 (IntKind.wrap .i64 (Int.tdiv n 12))=W at *
 rw[w1,Ao,aa0 (by omega),Ad,Ad]
 have z0:([(0:Int),0,0,0]:List Int)=At 0:=rfl
 have b0:Al 0:=by unfold Al;omega
 have row:∀ (l:List Int) (j:Nat),(∀ x∈l,B2 x)→∃ k:Nat,Al k∧([List.getD l j 0,(0:Int),(0:Int),(0:Int)]:List Int)=At k:=fun l j h=>by
  have hu:B2 (List.getD l j 0):=by
   rcases ad3 j l.length with hj|hj
   ·exact h _ (B3 hj)
   ·rw[aa2,ai4 hj];unfold B2;simp
  unfold B2 at hu
  exact⟨_,by unfold Al;omega,Aai hu.1 hu.2⟩
 have rows:=row [IntKind.wrap .u64 (1000000+Int.tmod W 10000000),Int.tmod W 20,IntKind.wrap .u64 (1+Int.tmod W 200),IntKind.wrap .u64 (10000000+Int.tmod W 1000000000),IntKind.wrap .u64 (1000000+Int.tmod W 100000000),Int.tmod W 200000000,Int.tmod W 10300,Int.tmod W 1000,IntKind.wrap .u64 (1000+Int.tmod W 1000000000),IntKind.wrap .u64 (1+Int.tmod W 100),Int.tmod W 250,IntKind.wrap .u64 (200+Int.tmod W 100000)] (Int.tmod n 12).toNat (fun x hx=>by
  simp only[aa9,al8,or_false] at hx
  rcases hx with rfl|rfl|rfl|rfl|rfl|rfl|rfl|rfl|rfl|rfl|rfl|rfl
  all_goals first|exact Clj _|exact Bft hW (by omega))
 obtain⟨k,hk,e⟩:=rows
 rw[e]
 by_cases c1:Int.tmod n 17=3
 ·rw[aa0 c1]
  by_cases c2:Int.tmod n 31=4
  ·rw[aa0 c2];exact⟨_,Buq (y:=Int.tmod n 40) (by omega) b0,rfl⟩
  ·rw[aa1 c2];exact⟨_,Buq (y:=Int.tmod n 12+1) (by omega) b0,rfl⟩
 ·rw[aa1 c1]
  by_cases c2:Int.tmod n 31=4
  ·rw[Ad,aa0 c2];exact⟨_,Buq (y:=Int.tmod n 40) (by omega) hk,rfl⟩
  ·rw[Ad,aa1 c2];exact⟨_,Buq (y:=Int.tmod n 12+1) (by omega) hk,rfl⟩
theorem Cll(x:Int):0≤IntKind.wrap .u8 x∧IntKind.wrap .u8 x≤255:=by rw[ap2];omega
theorem Bto{n:Nat}(h:n≤1000000){α:Type}(a b:Option α):Ag (A8 n (.int .u8)) a b=a:=by
 rw[Ah2,aa0 ⟨by decide,by simp only[Ty.size];omega⟩]
theorem Bct{o:List Int}{x:Int}(h:Co o)(hx:0≤x∧x≤255):Co (List.append o [x]):=fun y hy=>by
 rcases ad9.1 hy with hy|hy
 ·exact h y hy
 ·rw[ac3.1 hy];exact hx
theorem Bm8(o:List Int)(x:Int):(List.append o [x]).length=o.length+1:=by simp
def PB(L:Nat)(r:Option (((List Int)×Unit)×Unit×Unit)):Prop:=∃ o:List Int,r=some ((o,()),(),())∧Co o∧o.length≤L
section
variable {again0:((List Int)×(List Int)×Int×Unit)→Option (((List Int)×Unit)×Unit×Unit)} {v out:List Int} {i k:Int} {n B L:Nat}
theorem Crt(h0:∀ o,Co o→o.length≤B→PB L (again0 (v,o,IntKind.wrap .i64 (i+1),())))(hb:Co out)(hl:out.length+n≤B)(hB:B≤100000)(hn:n≤24) :
  PB L (Ac _ _ (fun aa x=>Io again0 aa x.1 x.2.1 x.2.2.1 x.2.2.2.1 x.2.2.2.2.1 x.2.2.2.2.2.1) (v,out,i,k,(n:Int),(0:Int),())):=by
 refine Ci (I:=fun y=>∃ (j:Nat) (o:List Int),j≤n∧Co o∧o.length≤out.length+j∧y=(v,o,i,k,(n:Int),(j:Int),()))
  (m:=fun y=>((n:Int)-y.2.2.2.2.2.1).toNat) (P:=PB L) ?_ ⟨0,out,ac2 _,hb,ab4 _,rfl⟩ (by rw[Au];simp only;omega)
 rintro y aa ⟨j,o,hj,ck,fv,rfl⟩ hag
 simp only at hag ⊢
 unfold Io
 rw[Ad]
 by_cases c:(j:Int)<(n:Int)
 ·rw[aa0 c,Bto (by omega),Ar (n:=(j:Int)+1) (by omega) (by omega)]
  exact hag _ ⟨j+1,_,by omega,Bct ck (Cll _),by rw[Bm8];omega,by rw[ab0];rfl⟩ (by simp only;omega)
 ·rw[aa1 c]
  exact h0 o ck (by omega)
theorem Csh{fr:Int}(h0:∀ o,Co o→o.length≤B→PB L (again0 (v,o,IntKind.wrap .i64 (i+1),())))(hb:Co out)(hl:out.length+n≤B)(hB:B≤100000)(hn:n≤24)(hf:0≤fr∧fr≤100000) :
  PB L (Ac _ _ (fun aa x=>Be again0 aa x.1 x.2.1 x.2.2.1 x.2.2.2.1 x.2.2.2.2.1 x.2.2.2.2.2.1) (v,out,i,(n:Int),fr,(0:Int),())):=by
 refine Ci (I:=fun y=>∃ (j:Nat) (o:List Int),j≤n∧Co o∧o.length≤out.length+j∧y=(v,o,i,(n:Int),fr,(j:Int),()))
  (m:=fun y=>((n:Int)-y.2.2.2.2.2.1).toNat) (P:=PB L) ?_ ⟨0,out,ac2 _,hb,ab4 _,rfl⟩ (by rw[Au];simp only;omega)
 rintro y aa ⟨j,o,hj,ck,fv,rfl⟩ hag
 simp only at hag ⊢
 unfold Be
 rw[Ad]
 by_cases c:(j:Int)<(n:Int)
 ·rw[aa0 c,Ar (n:=fr+(j:Int)) (by omega) (by omega),Ad]
  by_cases c2:fr+(j:Int)<((o.length:Nat):Int)
  ·rw[aa0 c2,Ao,aa0 (by omega),Bto (by omega),Ar (n:=(j:Int)+1) (by omega) (by omega)]
   exact hag _ ⟨j+1,_,by omega,Bct ck (ck _ (B3 (show (fr+(j:Int)).toNat<o.length by omega))),by rw[Bm8];omega,by rw[ab0];rfl⟩ (by simp only;omega)
  ·rw[aa1 c2]
   exact h0 o ck (by omega)
 ·rw[aa1 c]
  exact h0 o ck (by omega)
theorem Csd(h0:∀ o,Co o→o.length≤B→PB L (again0 (v,o,IntKind.wrap .i64 (i+1),())))(hb:Co out)(hl:out.length+n≤B)(hB:B≤100000)(hn:n≤24) :
  PB L (Ac _ _ (fun aa x=>Cz again0 aa x.1 x.2.1 x.2.2.1 x.2.2.2.1 x.2.2.2.2.1 x.2.2.2.2.2.1) (v,out,i,k,(n:Int),(0:Int),())):=by
 refine Ci (I:=fun y=>∃ (j:Nat) (o:List Int),j≤n∧Co o∧o.length≤out.length+j∧y=(v,o,i,k,(n:Int),(j:Int),()))
  (m:=fun y=>((n:Int)-y.2.2.2.2.2.1).toNat) (P:=PB L) ?_ ⟨0,out,ac2 _,hb,ab4 _,rfl⟩ (by rw[Au];simp only;omega)
 rintro y aa ⟨j,o,hj,ck,fv,rfl⟩ hag
 simp only at hag ⊢
 unfold Cz
 rw[Ad]
 by_cases c:(j:Int)<(n:Int)
 ·rw[aa0 c,Ad,aa0 (Kx _).1,Bto (by omega),Ar (n:=(j:Int)+1) (by omega) (by omega)]
  exact hag _ ⟨j+1,_,by omega,Bct ck (Cll _),by rw[Bm8];omega,by rw[ab0];rfl⟩ (by simp only;omega)
 ·rw[aa1 c]
  exact h0 o ck (by omega)
end
theorem Cl4{v:List Int}(hv:∀ x∈v,I64 x)(hl:v.length≤1000):PB (24*v.length) (If (v,())):=by
 unfold If M8
 refine Ci (I:=fun y=>∃ (i:Nat) (o:List Int),i≤v.length∧Co o∧o.length≤24*i∧y=(v,o,(i:Int),())) (m:=fun y=>(((v.length:Nat):Int)-y.2.2.1).toNat)
  (P:=PB (24*v.length)) ?_ ⟨0,[],ac2 _,(fun x hx=>by cases hx),ab4 _,rfl⟩ (by rw[Au];simp only;omega)
 rintro y aa ⟨i,o,hi,ck,fv,rfl⟩ hag
 simp only at hag ⊢
 unfold Vs
 rw[Ad]
 by_cases c:(i:Int)<((v.length:Nat):Int)
 case neg=>rw[aa1 c];exact⟨o,rfl,ck,by omega⟩
 obtain⟨x1,x2⟩:=hv _ (B3 (d:=0) (show i<v.length by omega))
 have hs:∀ o',Co o'→o'.length≤24*(i+1)→PB (24*v.length) (aa (v,o',IntKind.wrap .i64 ((i:Int)+1),())):=fun o' h1 h2=>by
  rw[Ar (by omega) (by omega)]
  exact hag _ ⟨i+1,o',by omega,h1,h2,by rw[ab0];rfl⟩ (by simp only;omega)
 rw[aa0 c,Ao,aa0 (by omega),aa3,Buu x1 x2 (by omega) (by omega),Aa]
 dsimp only
 have hk:0≤List.getD v i 0 % 18446744073709551616 % 1048576∧List.getD v i 0 % 18446744073709551616 % 1048576<1048576:=by omega
 generalize List.getD v i 0 % 18446744073709551616 % 1048576=k at *
 have e8:Int.tdiv k 8=k / 8:=ah3 hk.1
 have en:IntKind.wrap .i64 (1+Int.tmod (IntKind.wrap .i64 (Int.tdiv k 8)) 24)=(((1+(k / 8) % 24).toNat:Nat):Int):=by
  rw[e8,Ar (n:=k / 8) (by omega) (by omega),Ix (by omega),Ar (by omega) (by omega)]
  omega
 have hn:(1+(k / 8) % 24).toNat≤24:=by omega
 rw[en]
 generalize (1+(k / 8) % 24).toNat=n at *
 have rz:∀ p:Nat,0<p→p≤30000→0≤Int.tmod (IntKind.wrap .i64 (Int.tdiv k 64)) ((p:Nat):Int)∧Int.tmod (IntKind.wrap .i64 (Int.tdiv k 64)) ((p:Nat):Int)≤100000:=fun p hp kc=>by
  rw[ah3 hk.1,Ar (n:=k / 64) (by omega) (by omega),Ix (by omega)]
  have h1:=ar0 (k / 64) (show ((p:Nat):Int)≠0 by omega)
  have h2:=Int.emod_lt_of_pos (k / 64) (show (0:Int)<((p:Nat):Int) by omega)
  omega
 have r1:=Crt (again0:=aa) (k:=k) (n:=n) (B:=24*(i+1)) hs ck (by omega) (by omega) hn
 have r3:=Csd (again0:=aa) (k:=k) (n:=n) (B:=24*(i+1)) hs ck (by omega) (by omega) hn
 have r2:=fun (fr:Int) (hf:0≤fr∧fr≤100000)=>Csh (again0:=aa) (n:=n) (B:=24*(i+1)) (fr:=fr) hs ck (by omega) (by omega) hn hf
 have r2':PB (24*v.length) (Ag (decide ((o.length:Int)>(0:Int))) (Ag (decide ((o.length:Int)≠(0:Int)))
   (Ac _ _ (fun jm x=>Be aa jm x.1 x.2.1 x.2.2.1 x.2.2.2.1 x.2.2.2.2.1 x.2.2.2.2.2.1) (v,o,(i:Int),(n:Int),(Int.tmod (Go.IntKind.wrap (Go.IntKind.i64) (Int.tdiv k (64:Int))) (o.length:Int)),(0:Int),()))
   none) (Ac _ _ (fun jm x=>Be aa jm x.1 x.2.1 x.2.2.1 x.2.2.2.1 x.2.2.2.2.1 x.2.2.2.2.2.1) (v,o,(i:Int),(n:Int),(0:Int),(0:Int),()))):=by
  rw[Ad]
  by_cases c1:(o.length:Int)>0
  ·rw[aa0 c1,Ad,aa0 (by omega)]
   exact r2 _ (rz _ (by omega) (by omega))
  ·rw[aa1 c1]
   exact r2 0 ⟨by omega,by omega⟩
 clear r2 rz hag
 rw[Am,Am]
 generalize Int.tmod k 8=z
 by_cases z0:z=0
 ·rw[aa7 z0,Ap,Ap];exact r1
 rw[ab5 z0,Bn]
 by_cases z1:z=1
 ·rw[aa7 z1,Ap];exact r1
 rw[ab5 z1,Bn]
 by_cases z2:z=2
 ·rw[aa7 z2]
  simp only[Bn,Ap]
  exact r2'
 rw[ab5 z2]
 by_cases z3:z=3
 ·rw[aa7 z3]
  simp only[Bn,Ap]
  exact r2'
 rw[ab5 z3]
 by_cases z4':z=4
 ·rw[aa7 z4']
  simp only[Bn,Ap]
  exact r2'
 rw[ab5 z4']
 simp only[Bn]
 exact r3
theorem Cgi{x:Int}(h:B2 x):∃ k,Al k∧[x,(0:Int),(0:Int),(0:Int)]=At k:=by
 unfold B2 at h
 exact⟨x.toNat,by unfold Al;omega,Aai h.1 h.2⟩
theorem Csp{x:Int}(h:B2 x):∃ k,Al k∧[(0:Int),x,(0:Int),(0:Int)]=At k:=by
 unfold B2 at h
 refine⟨x.toNat*18446744073709551616,by unfold Al;omega,?_⟩
 simp only[At,ao9,aq4]
 refine⟨?_,?_,?_,?_⟩<;>omega
theorem Cpw:∃ k,Al k∧[(0:Int),0,1,0]=At k :=
 ⟨340282366920938463463374607431768211456,by unfold Al;omega,by decide⟩
theorem Adz{n:Int}(h:0≤n)(k:Int)(hk:0<k):0≤Int.tmod n k∧Int.tmod n k<k:=by
 rw[Ix h]
 exact⟨ar0 _ (by omega),Int.emod_lt_of_pos _ hk⟩
theorem By8{N:Nat}{M:L8}(h:MW N M){n:Int}:∃ r:Bzf,Bc8 r∧Mo (n,M,())=some ((r,()),(),M,()):=by
 cases h with
 | mk h1 h2 h3 h4 h5 h6 h7 h8 h9 bq =>
 rename_i st bg p b pr m vs ms hh r cs q
 unfold Mo Ai5
 simp only[Am]
 obtain⟨c1,d1,e1⟩:=Cpw
 obtain⟨c2,d2,e2⟩:=Cgi (Kx ((IntKind.wrap .u64 (Int.tmod (IntKind.wrap .i64 (Int.tdiv n 9)) 5000))*20000000))
 obtain⟨c3,d3,e3⟩:=Csp (Kx (Int.tmod n 1000))
 rw[e1,e2,e3]
 have km:=Kx (b.2.1-pr.2.2.1)
 generalize IntKind.wrap .u64 (b.2.1-pr.2.2.1)=v2 at *
 unfold B2 at km
 rw[Ad]
 by_cases g1:(1099511627776:Int)<v2
 ·rw[aa0 g1,Ad]
  split
  ·exact⟨_,Bc8.mk (Kx _) (Kx _) d1,rfl⟩
  ·rw[Ad]
   split
   ·exact⟨_,Bc8.mk (Kx _) (Kx _) d2,rfl⟩
   ·rw[Ad]
    split
    ·exact⟨_,Bc8.mk (Kx _) (Kx _) d3,rfl⟩
    ·exact⟨_,Bc8.mk (Kx _) (Kx _) d2,rfl⟩
 ·rw[aa1 g1,Gt (n:=v2+2) (by omega) (by omega),Ad,aa0 (by omega),Ad]
  split
  ·exact⟨_,Bc8.mk (Kx _) (Kx _) d1,rfl⟩
  ·rw[Ad]
   split
   ·exact⟨_,Bc8.mk (Kx _) (Kx _) d2,rfl⟩
   ·rw[Ad]
    split
    ·exact⟨_,Bc8.mk (Kx _) (Kx _) d3,rfl⟩
    ·exact⟨_,Bc8.mk (Kx _) (Kx _) d2,rfl⟩
theorem Br3:Mg ()=some ((At 115792089237316195423570985008687907853269984665640564039457584007913129639935,()),()):=by
 unfold Mg Aju
 congr 3
theorem Cmm(a:Nat):Al (min a 115792089237316195423570985008687907853269984665640564039457584007913129639935) :=
 ai6 (as6 _ _) (by decide)
theorem Cec{N:Nat}{M:L8}(h:MW N M)(hN:N≤100){n:Int}(hn:0≤n)(wc:n≤9223372036854775807):∃ c:Bht,Aw4 c∧Oi (n,M,())=some ((c,()),(),M,()):=by
 cases h with
 | mk h1 h2 h3 h4 h5 h6 h7 h8 h9 bq =>
 rename_i st bg p b pr m vs ms hh r cs q
 have yp:=bq.l1
 have eh:=bq.allm
 unfold Oi An7
 simp only[Am]
 rw[Ad]
 by_cases g1:(ms.length:Int)=0
 ·rw[aa0 g1]
  have:=Aw4.mk (a:=IntKind.wrap .u64 (Int.tmod n 3)) (b:=IntKind.wrap .u64 (Int.tmod n 2)) (c:=5) (v:=1) (l:=[]) (Kx _) (Kx _) ⟨by omega,by omega⟩ (by unfold Al;omega) (fun x hx=>by cases hx)
  exact⟨_,this,rfl⟩
 have hr:=Adz hn (ms.length:Int) (by omega)
 rw[aa1 g1,Ad,aa0 g1]
 obtain⟨k,hk⟩:∃ k:Nat,Int.tmod n (ms.length:Int)=(k:Int):=⟨(Int.tmod n (ms.length:Int)).toNat,by omega⟩
 rw[hk] at hr
 simp only[hk,aa3]
 have hkl:k<ms.length:=by omega
 have e6:IntKind.wrap .i64 ((ms.length:Int)-(k:Int))=((ms.length-k:Nat):Int):=by rw[Ar (by omega) (by omega)];omega
 have e7:IntKind.wrap .i64 ((k:Int)+1)=((k+1:Nat):Int):=by rw[Ar (by omega) (by omega)];omega
 have h7d:IntKind.wrap .i64 (Int.tdiv n 7)=n / 7:=by rw[ah3 hn,Ar (by omega) (by omega)]
 have hr2:=Adz (n:=n / 7) (by omega) ((ms.length-k:Nat):Int) (by omega)
 rw[e6,e7,h7d,Ad,aa0 (by omega)]
 obtain⟨j,hj⟩:∃ j:Nat,Int.tmod (n / 7) ((ms.length-k:Nat):Int)=(j:Int):=⟨(Int.tmod (n / 7) ((ms.length-k:Nat):Int)).toNat,by omega⟩
 rw[hj] at hr2
 have e8:IntKind.wrap .i64 (((k+1:Nat):Int)+(j:Int))=((k+1+j:Nat):Int):=by rw[Ar (by omega) (by omega)];omega
 rw[hj,e8,Bvd eh (by omega) (show k<k+1+j by omega) (by omega),Aa]
 dsimp only
 have lm:Ul (Xg ((ms.map Ahy).take (k+1+j)) k):=(Aa7 _ _ _ (ab4 _) (fun x hx=>Ap4 _ x (ah7 hx))).2
 have gf:(Xg ((ms.map Ahy).take (k+1+j)) k).length≤100000:=by
  have:=(Aa7 _ _ k (ab4 ((ms.map Ahy).take (k+1+j)).length) (fun x hx=>Ap4 _ x (ah7 hx))).1
  rw[ab2,ag7] at this
  omega
 have hm:=eh.at hkl Bp
 rw[show (((0:Int),(0:Int),[(0:Int),0,0,0],()):Ea)=Bp from rfl]
 generalize Xg ((ms.map Ahy).take (k+1+j)) k=pf at *
 generalize ms.getD k Bp=mk at *
 obtain⟨am,eam,wl,j4⟩:∃ am,mk.2.2.1=At am∧Al am∧B2 mk.2.1:=by
  cases hm with
  | mk a1 a2 a3=>exact⟨_,rfl,a3,a2⟩
 rw[Ao,aa0 (by omega),Ao,aa0 (by omega),eam]
 have w0:∀ (to:Int) (z:Nat) (s:Int) (l:List (List Int)),B2 to→Al z→Ul l→Aw4 (IntKind.wrap .u64 (k:Int),IntKind.wrap .u64 s,to,At z,l,()):=fun to z s l a1 a2 a3=>Aw4.mk (Kx _) (Kx _) a1 a2 a3
 rw[Ad]
 by_cases q0:Int.tmod (IntKind.wrap .i64 (Int.tdiv n 3)) 12=0
 ·have l1:=Nf wl
  have l2:=Mz (n:=1) (by omega)
  have l3:=Aq0 am 1
  have l4:=Nf (n:=115792089237316195423570985008687907853269984665640564039457584007913129639935) (by unfold Al;omega)
  have il:=Cmm (am+1)
  rw[aa0 q0,Cd wl,Aa,Ca (by omega) (by omega),Aa,show Int.toNat 1=1 from rfl]
  dsimp only
  rw[Cy (by omega) (by omega),Aa,Br3,Aa]
  dsimp only
  rw[Cd (by omega),Aa]
  dsimp only
  rw[Bg0 (by omega) (by omega),Aa]
  dsimp only
  generalize min (am+1) 115792089237316195423570985008687907853269984665640564039457584007913129639935=z at il ⊢
  rw[Uo il,Aa]
  exact⟨_,w0 _ _ _ _ j4 il lm,rfl⟩
 rw[aa1 q0,Ad]
 by_cases q1:Int.tmod (IntKind.wrap .i64 (Int.tdiv n 3)) 12=1
 ·rw[aa0 q1]
  exact⟨_,w0 _ _ _ _ (Kx _) wl lm,rfl⟩
 rw[aa1 q1,Ad]
 by_cases q2:Int.tmod (IntKind.wrap .i64 (Int.tdiv n 3)) 12=2
 ·rw[aa0 q2,Cd3,Aa,Cbi (by omega),Ap]
  refine⟨_,w0 _ _ _ _ j4 wl (fun x hx=>?_),rfl⟩
  rcases ad9.1 hx with hx|hx
  ·exact lm x hx
  ·rw[ac3.1 hx];exact Cix n
 rw[aa1 q2,Ad]
 by_cases q3:Int.tmod (IntKind.wrap .i64 (Int.tdiv n 3)) 12=3
 ·rw[aa0 q3,Ar (n:=(ms.length:Int)+3) (by omega) (by omega),Ad,aa0 (by omega)]
  exact⟨_,w0 _ _ _ _ j4 wl lm,rfl⟩
 rw[aa1 q3]
 exact⟨_,w0 _ _ _ _ j4 wl lm,rfl⟩
theorem Cna{N:Nat}{M:L8}(h:MW N M)(hN:N≤100){n:Int}(hn:0≤n)(wc:n≤9223372036854775807){a:Int}(ha:B2 a):∃ t:TxT,TxW t∧Gx (n,a,M,())=some ((t,()),(),(),M,()):=by
 cases h with
 | mk h1 h2 h3 h4 h5 h6 h7 h8 h9 bq =>
 rename_i st bg p b pr m vs ms hh r cs q
 cases h4 with
 | mk k1 k2 k3 k4 =>
 rename_i bn bt y6 bf
 have wg:Al bf:=by unfold Al;omega
 have r5:=Adz (n:=n / 5) (by omega) 5 (by omega)
 have r6:=Adz hn 6 (by omega)
 have r3:=Adz hn 3 (by omega)
 obtain⟨tg,y5,j5⟩:=Akr (l:=m) h8.inv.all ha
 obtain⟨ti,vf,eti⟩:=Cgi (Kx ((IntKind.wrap .u64 (Int.tmod n 7))*100000))
 obtain⟨va,vg,za⟩:=Cgi (Kx ((IntKind.wrap .u64 (Int.tmod (IntKind.wrap .i64 (Int.tdiv n 6)) 1000))*1000003))
 obtain⟨vc,dvc,evc⟩:=Cpw
 have d5:IntKind.wrap .i64 (Int.tdiv n 5)=n / 5:=by rw[ah3 hn,Ar (by omega) (by omega)]
 have j4:B2 (List.getD [(1:Int),2,3,4,9,18446744073709551615] (Int.toNat (Int.tmod n (6:Int))) (0:Int)):=by
  have:∀ i:Nat,B2 (List.getD [(1:Int),2,3,4,9,18446744073709551615] i (0:Int)):=fun i=>by
   match i with
   | 0|1|2|3|4|5=>exact⟨by decide,by decide⟩
   | k+6=>exact⟨by simp,by simp⟩
  exact this _
 unfold Gx Uu
 simp only[Am]
 rw[eti,za,evc,d5]
 generalize List.getD [(1:Int),2,3,4,9,18446744073709551615] (Int.toNat (Int.tmod n (6:Int))) (0:Int)=to at *
 rw[Ba0 (by omega),Aa,tg]
 dsimp only
 rw[Ao,aa0 (by omega),Cd wg,Aa,Ar (n:=1+Int.tmod n 3) (by omega) (by omega),Gt (n:=1+Int.tmod n 3) (by omega) (by omega),Ca (by omega) (by omega),Aa]
 dsimp only
 have l1:=Nf wg
 have l2:=Mz (n:=(1+Int.tmod n 3).toNat) (by omega)
 have hfc:bf*(1+Int.tmod n 3).toNat≤340282366920938463463374607431768211456*3:=ak6 (by omega) (by omega)
 rw[Pp (by omega) (by omega),Aa]
 dsimp only
 generalize bf*(1+Int.tmod n 3).toNat=fc at *
 have vh:Al fc:=by unfold Al;omega
 rw[Uo vh,Aa,aa7 r5.1,aa7 (show Int.tmod (n / 5) 5≤4 by omega),ak7,Ap]
 have hv:∀ x∈List.take ((Int.toNat (Int.tmod (n / 5) 5))-(0:Nat)) (List.drop (0:Nat) [n,(IntKind.wrap .i64 (Int.tdiv n 3)),(IntKind.wrap .i64 (Int.tdiv n 7)),(IntKind.wrap .i64 (Int.tdiv n 11))]),I64 x:=fun x hx=>by
  have hx:=an2 (ah7 hx)
  have hw:∀ y,I64 (IntKind.wrap .i64 y):=fun y=>by unfold I64;rw[as3];omega
  simp only[aa9,al8,or_false] at hx
  rcases hx with rfl|rfl|rfl|rfl
  ·exact⟨by omega,by omega⟩
  ·exact hw _
  ·exact hw _
  ·exact hw _
 obtain⟨d,ed,yx,hdl⟩:=Cl4 hv (by rw[ab2];simp;omega)
 rw[ed,Aa]
 dsimp only
 have key:∀ (n1 o1 g1 e1:Int) (v1 f1 p1:Nat),B2 n1→B2 o1→Al v1→B2 g1→Al f1→Al p1→B2 e1→TxW (a,n1,o1,At v1,g1,At f1,At p1,e1,d,()) :=
  fun n1 o1 g1 e1 v1 f1 p1 a1 a2 a3 a4 a5 a6 a7=>TxW.mk ha a1 a2 a3 a4 a5 a6 a7 yx
 rw[Ad]
 by_cases s1:Int.tmod n 29=1
 ·rw[aa0 s1];exact⟨_,key _ _ _ _ _ _ _ (Kx _) j4 vg (Kx _) vh vf (Kx _),rfl⟩
 rw[aa1 s1,Ad]
 by_cases s2:Int.tmod n 31=2
 ·rw[aa0 s2];exact⟨_,key _ _ _ _ _ _ _ j5 j4 dvc (Kx _) vh vf (Kx _),rfl⟩
 rw[aa1 s2,Ad]
 by_cases s3:Int.tmod n 37=3
 ·rw[aa0 s3];exact⟨_,key _ _ _ _ _ _ _ j5 j4 vg ⟨by omega,by omega⟩ vh vf (Kx _),rfl⟩
 rw[aa1 s3,Ad]
 by_cases s4:Int.tmod n 41=4
 ·rw[aa0 s4];exact⟨_,key _ _ _ _ _ 1 _ j5 j4 vg (Kx _) (by unfold Al;omega) vf (Kx _),rfl⟩
 rw[aa1 s4,Ad]
 by_cases s5:Int.tmod n 43=5
 ·rw[aa0 s5];exact⟨_,key _ _ _ _ _ _ _ j5 ⟨by omega,by omega⟩ vg (Kx _) vh vf (Kx _),rfl⟩
 rw[aa1 s5,Ad]
 by_cases s6:Int.tmod n 47=6
 ·rw[aa0 s6,Br3,Aa,Aa]
  exact⟨_,key _ _ _ _ _ _ _ j5 j4 vg (Kx _) (by unfold Al;omega) (by unfold Al;omega) (Kx _),rfl⟩
 rw[aa1 s6,Ad]
 by_cases s7:Int.tmod n 53=7
 ·rw[aa0 s7];exact⟨_,key _ _ _ _ _ _ _ j5 j4 vg (Kx _) vh vf (Kx _),rfl⟩
 rw[aa1 s7]
 exact⟨_,key _ _ _ _ _ _ _ j5 j4 vg (Kx _) vh vf (Kx _),rfl⟩
theorem Bij{n:Nat}{t:Ty}(h:n≤1000)(h1:0<t.size)(h2:t.size≤1000){α:Type}(a b:Option α):Ag (A8 n t) a b=a:=by
 have h3:n*(24*t.size)≤1000*(24*1000):=ak6 h (by omega)
 rw[Ah2,aa0 ⟨h1,by omega⟩]
def PNS(M:L8)(r:Option ((Aer×Unit)×Unit×L8×Unit×Unit)):Prop:=∃ s:Aer,Sb s∧r=some ((s,()),(),M,(),())
theorem Bzs{M:L8}{c:Prop}[Decidable c]{a b:Option ((Aer×Unit)×Unit×L8×Unit×Unit)}(ha:PNS M a)(hb:PNS M b):PNS M (Ag (decide c) a b):=by
 rw[Ad]
 split
 ·exact ha
 ·exact hb
theorem Z9:B2 0∧Al 0:=⟨⟨by omega,by omega⟩,by unfold Al;omega⟩
abbrev Baj:Bzf:=((0:Int),(0:Int),[(0:Int),0,0,0],())
abbrev Af2:Bht:=((0:Int),(0:Int),(0:Int),[(0:Int),0,0,0],([]:List (List Int)),())
abbrev Bmz:TxT:=((0:Int),(0:Int),(0:Int),[(0:Int),0,0,0],(0:Int),[(0:Int),0,0,0],[(0:Int),0,0,0],(0:Int),([]:List Int),())
theorem wTx{k:Int}(hk : -9223372036854775808≤k∧k≤9223372036854775807){t:TxT}(ht:TxW t):Sb (k,t,Baj,(0:Int),(0:Int),[(0:Int),0,0,0],(0:Int),Af2,()):=by
 have:=Sb.mk (k:=k) (y:=0) hk ht Z9.1 Z9.1 Z9.2 Z9.1 (by omega) Z9.2 Z9.1 Be5
 rw[Aq8] at this
 exact this
theorem Crp{k:Int}(hk : -9223372036854775808≤k∧k≤9223372036854775807){r:Bzf}(hr:Bc8 r):Sb (k,Bmz,r,(0:Int),(0:Int),[(0:Int),0,0,0],(0:Int),Af2,()):=by
 cases hr with
 | mk a b c =>
 have:=Sb.mk (k:=k) (y:=0) hk Bf4 a b c Z9.1 (by omega) Z9.2 Z9.1 Be5
 rw[Aq8] at this
 exact this
theorem Cjh{k:Int}(hk : -9223372036854775808≤k∧k≤9223372036854775807){s d:Int}(hs:B2 s)(hd:B2 d):Sb (k,Bmz,Baj,s,(0:Int),[(0:Int),0,0,0],d,Af2,()):=by
 have:=Sb.mk (k:=k) (y:=0) hk Bf4 Z9.1 Z9.1 Z9.2 hs (by omega) Z9.2 hd Be5
 rw[Aq8] at this
 exact this
theorem Cr6{k:Int}(hk : -9223372036854775808≤k∧k≤9223372036854775807){c:Bht}(hc:Aw4 c):Sb (k,Bmz,Baj,(0:Int),(0:Int),[(0:Int),0,0,0],(0:Int),c,()):=by
 have:=Sb.mk (k:=k) (y:=0) hk Bf4 Z9.1 Z9.1 Z9.2 Z9.1 (by omega) Z9.2 Z9.1 hc
 rw[Aq8] at this
 exact this
theorem Cfi{N:Nat}{M:L8}(h:MW N M)(hN:N≤100){k:Int}(hk:I64 k){calm:Bool}:PNS M (Mb (k,M,calm,())):=by
 obtain⟨k1,k2⟩:=hk
 unfold Mb Ac6
 rw[Buu k1 k2 (by omega) (by omega),Aa]
 dsimp only
 have hx:0≤k % 18446744073709551616 % 4611686018427387904∧k % 18446744073709551616 % 4611686018427387904<4611686018427387904:=by omega
 generalize k % 18446744073709551616 % 4611686018427387904=x at *
 simp only[Am]
 have d1:IntKind.wrap .i64 (Int.tdiv x 64)=x / 64:=by rw[ah3 hx.1,Ar (by omega) (by omega)]
 have hn:0≤x / 64∧x / 64≤9223372036854775807:=by omega
 have hu:=Kx (IntKind.wrap .i64 ((1:Int)+(Int.tmod (IntKind.wrap .i64 (Int.tdiv x (16:Int))) (4:Int))))
 rw[d1]
 generalize IntKind.wrap .u64 (IntKind.wrap .i64 ((1:Int)+(Int.tmod (IntKind.wrap .i64 (Int.tdiv x (16:Int))) (4:Int))))=a at *
 generalize x / 64=n at *
 generalize Int.tmod x 16=c
 obtain⟨s1,w1,e1⟩:=Bv7 (calm:=calm) hn.1 hu
 obtain⟨s2,w2,e2⟩:=By8 h (n:=n)
 obtain⟨s3,w3,e3⟩:=Ccp hn.1 hn.2
 obtain⟨s4,w4,e4⟩:=Cec h hN hn.1 hn.2
 obtain⟨s5,w5,e5⟩:=Cna h hN hn.1 hn.2 hu
 have q1:=Crp (k:=2) (by omega) w2
 have q4:=Cr6 (k:=7) (by omega) w4
 have q5:=wTx (k:=1) (by omega) w5
 have q3:∀ z,Sb ((3:Int),Bmz,Baj,IntKind.wrap .u64 z,(0:Int),[(0:Int),0,0,0],(0:Int),Af2,()):=fun z=>Cjh (by omega) (Kx z) Z9.1
 have q6:∀ z,Sb ((5:Int),Bmz,Baj,(0:Int),(0:Int),[(0:Int),0,0,0],IntKind.wrap .u64 z,Af2,()):=fun z=>Cjh (by omega) Z9.1 (Kx z)
 have E1:∀ {β:Type} (f:_→Option β),Option.bind (Kw (n,a,calm,())) f=f ((s1,()),(),(),(),()):=fun f=>by rw[e1];rfl
 have E2:∀ {β:Type} (f:_→Option β),Option.bind (Mo (n,M,())) f=f ((s2,()),(),M,()):=fun f=>by rw[e2];rfl
 have E3:∀ {β:Type} (f:_→Option β),Option.bind (N8 (n,())) f=f ((s3,()),(),()):=fun f=>by rw[e3];rfl
 have E4:∀ {β:Type} (f:_→Option β),Option.bind (Oi (n,M,())) f=f ((s4,()),(),M,()):=fun f=>by rw[e4];rfl
 have E5:∀ {β:Type} (f:_→Option β),Option.bind (Gx (n,a,M,())) f=f ((s5,()),(),(),M,()):=fun f=>by rw[e5];rfl
 clear e1 e2 e3 e4 e5
 have D1:PNS M (some ((s1,()),(),M,(),())):=⟨s1,w1,rfl⟩
 have D3:PNS M (some ((s3,()),(),M,(),())):=⟨s3,w3,rfl⟩
 have D2:PNS M (some ((((2:Int),Bmz,s2,(0:Int),(0:Int),[(0:Int),0,0,0],(0:Int),Af2,()),()),(),M,(),())):=⟨_,q1,rfl⟩
 have D4:PNS M (some ((((7:Int),Bmz,Baj,(0:Int),(0:Int),[(0:Int),0,0,0],(0:Int),s4,()),()),(),M,(),())):=⟨_,q4,rfl⟩
 have D5:PNS M (some ((((1:Int),s5,Baj,(0:Int),(0:Int),[(0:Int),0,0,0],(0:Int),Af2,()),()),(),M,(),())):=⟨_,q5,rfl⟩
 have D6:∀ z,PNS M (some ((((3:Int),Bmz,Baj,IntKind.wrap .u64 z,(0:Int),[(0:Int),0,0,0],(0:Int),Af2,()),()),(),M,(),())):=fun z=>⟨_,q3 z,rfl⟩
 have D7:∀ z,PNS M (some ((((5:Int),Bmz,Baj,(0:Int),(0:Int),[(0:Int),0,0,0],IntKind.wrap .u64 z,Af2,()),()),(),M,(),())):=fun z=>⟨_,q6 z,rfl⟩
 have F1:∀ f,PNS M (f ((s1,()),(),(),(),()))→PNS M (Option.bind (Kw (n,a,calm,())) f):=fun f hf=>by rw[E1];exact hf
 have F2:∀ f,PNS M (f ((s2,()),(),M,()))→PNS M (Option.bind (Mo (n,M,())) f):=fun f hf=>by rw[E2];exact hf
 have F3:∀ f,PNS M (f ((s3,()),(),()))→PNS M (Option.bind (N8 (n,())) f):=fun f hf=>by rw[E3];exact hf
 have F4:∀ f,PNS M (f ((s4,()),(),M,()))→PNS M (Option.bind (Oi (n,M,())) f):=fun f hf=>by rw[E4];exact hf
 have F5:∀ f,PNS M (f ((s5,()),(),(),M,()))→PNS M (Option.bind (Gx (n,a,M,())) f):=fun f hf=>by rw[E5];exact hf
 repeat' first
  | exact Bzs (D6 _) (D6 _)
  | exact Bzs (D7 _) (D7 _)
  | exact F1 _ D1
  | exact F2 _ D2
  | exact F3 _ D3
  | exact F4 _ D4
  | exact F5 _ D5
  | refine Bzs ?_ ?_
def PM(B:Nat)(r:Option ((StT×Unit)×Unit×Unit×Unit×Unit)):Prop:=∃ s:StT,StW B s∧r=some ((s,()),(),(),(),())
theorem mj0{B:Nat}{s t:StT}(h:StW B s):PM B (Ay s t):=⟨s,h,rfl⟩
theorem Bs0{k:Nat}(hk:Al k)(i:Nat):B2 ((At k).getD i 0):=by
 unfold Al at hk
 unfold At
 match i with
 | 0|1|2|3=>simp only[ag6,ah1];exact⟨by omega,by omega⟩
 | j+4=>exact⟨by simp,by simp⟩
structure StF(B:Nat)(st:Int)(p:J9)(b:Ae5)(bg:Int)(s:Ux)(ac:List A2)(V:List (List Int))(ms:List Ea)(cl:List Bool)(H:List Int)(l1:List Bl):Prop where
 h1:B2 st
 h2:Uk p
 h4:Bet b
 h5:B2 bg
 h6:Al5 s
 h7:s.2.2.2.2.2.1.length≤1000
 h8:Aaf ac
 h9:ac.length≤B
 v:∃ vs:List Nat,V=vs.map At∧vs.length=4∧∀ n∈vs,Al n
 m1:Vg ms
 m2:ms.length≤B
 c1:cl.length≤B
 e:∃ h,H=At h∧Al h
 p1:G1 l1
 p2:l1.length≤B
theorem StF.w{B:Nat}{st:Int}{p:J9}{b:Ae5}{bg:Int}{s:Ux}{ac:List A2}{V:List (List Int)}{ms:List Ea}{cl:List Bool}{H:List Int}{l1:List Bl}(f:StF B st p b bg s ac V ms cl H l1) :
  StW B (st,p,b,bg,s,ac,V,ms,cl,H,l1,()):=by
 obtain⟨vs,rfl,v1,v2⟩:=f.v
 obtain⟨h,rfl,e1⟩:=f.e
 exact .mk f.h1 f.h2 f.h4 f.h5 f.h6 f.h7 f.h8 f.h9 v1 v2 f.m1 f.m2 f.c1 e1 f.p1 f.p2
theorem StW.f{B:Nat}{S:StT}(h:StW B S):StF B S.1 S.2.1 S.2.2.1 S.2.2.2.1 S.2.2.2.2.1 S.2.2.2.2.2.1 S.2.2.2.2.2.2.1 S.2.2.2.2.2.2.2.1 S.2.2.2.2.2.2.2.2.1 S.2.2.2.2.2.2.2.2.2.1 S.2.2.2.2.2.2.2.2.2.2.1:=by
 cases h with
 | mk h1 h2 h4 h5 h6 h7 h8 h9 v1 v2 m1 m2 c1 e1 p1 p2=>exact⟨h1,h2,h4,h5,h6,h7,h8,h9,⟨_,rfl,v1,v2⟩,m1,m2,c1,⟨_,rfl,e1⟩,p1,p2⟩
theorem Cm6{x m:Int}(h:B2 x)(hm:1≤m):∃ k,Al k∧[Int.tmod x m,(0:Int),(0:Int),(0:Int)]=At k:=Cgi (Bft h hm)
theorem Bek{α:Type}{P:α→Prop}{l:List α}{i:Nat}{y:α}(h:∀ x∈l,P x)(hy:P y):∀ x∈List.set l i y,P x:=fun x hx=>by
 rcases am5 hx with hx|hx
 ·exact h x hx
 ·rw[hx];exact hy
theorem Bv1{α:Type}{P:α→Prop}{l:List α}{y:α}(h:∀ x∈l,P x)(hy:P y):∀ x∈List.append l [y],P x:=fun x hx=>by
 rcases ad9.1 hx with hx|hx
 ·exact h x hx
 ·rw[ac3.1 hx];exact hy
theorem Bk6{k:Int}(hk:0≤k){n:Nat}(hn:(n:Int)>0):(0≤Int.tmod k (n:Int)∧Int.tmod k (n:Int)<(n:Int))∧(Int.tmod k (n:Int)).toNat<n:=by
 have:=Adz hk (n:Int) hn
 exact⟨this,by omega⟩
theorem Kd{n:Nat}{t:Ty}(h:n≤100000)(h1:0<t.size)(h2:t.size≤1000){α:Type}(a b:Option α):Ag (A8 n t) a b=a:=by
 have h3:n*(24*t.size)≤100000*(24*1000):=ak6 h (by omega)
 rw[Ah2,aa0 ⟨h1,by omega⟩]
section
variable {B:Nat} {st bg:Int} {p:J9} {b:Ae5} {s1:List Int} {s2 s3 s4:Int} {s5:Akv} {ps:List Aq} {ac:List A2} {V:List (List Int)} {ms:List Ea} {cl:List Bool} {H:List Int} {l1:List Bl} {k:Nat} {t6:StT} {x c:Int}
abbrev PRL(s1:List Int)(s2 s3 s4:Int)(s5:Akv)(ps:List Aq):Ux:=(s1,s2,s3,s4,s5,ps,())
abbrev SLT(st bg:Int)(p:J9)(b:Ae5)(s1:List Int)(s2 s3 s4:Int)(s5:Akv)(ps:List Aq)(ac:List A2)(V:List (List Int))(ms:List Ea)(cl:List Bool)(H:List Int)(l1:List Bl):StT :=
 (st,p,b,bg,PRL s1 s2 s3 s4 s5 ps,ac,V,ms,cl,H,l1,())
theorem mj1(hB:B≤50000)(f:StF B st p b bg (PRL s1 s2 s3 s4 s5 ps) ac V ms cl H l1)(hk:Al k)(hx:0≤x):PM B (Qq (SLT st bg p b s1 s2 s3 s4 s5 ps ac V ms cl H l1) (At k) t6 (ps.length:Int) x):=by
 have h6:=f.h6
 have h7:=f.h7
 have so:=h6.ps
 dsimp only at h7 so
 unfold Qq
 try dsimp only
 rw[Am,Ad]
 by_cases c:(ps.length:Int)>0
 ·obtain⟨i1,i2⟩:=Bk6 hx c
  rw[aa0 c,Kd (by omega) (by decide) (by decide),Ad,aa0 (by omega),Ao,aa0 i1,El]
  refine mj0 ?_
  have hw:=so _ (B3 (d:=Aw) i2)
  simp only[am1,Bx,af8]
  rw[show (((0:Int),[(0:Int),0,0,0],[(0:Int),0,0,0],[(0:Int),0,0,0],[(0:Int),0,0,0],(0:Int),()):Aq)=Aw from rfl]
  generalize ps.getD (Int.tmod x (ps.length:Int)).toNat Aw=y at hw ⊢
  cases hw with
  | mk w1 w2 w3 w4 w5 w6 =>
  have cx:=Bek (i:=(Int.tmod x (ps.length:Int)).toNat) so (Ni.mk w1 w2 w3 w4 w5 (Bft (k:=4) (Bs0 hk 0) (by omega)))
  exact StF.w ⟨f.h1,f.h2,f.h4,f.h5,⟨h6.up,h6.un,h6.lu,h6.re,h6.su,cx,by rw[ae1];omega⟩,by rw[ae1];exact h7,f.h8,f.h9,f.v,f.m1,f.m2,f.c1,f.e,f.p1,f.p2⟩
 ·rw[aa1 c,El]
  exact mj0 f.w
theorem mj3(hB:B≤50000)(f:StF B st p b bg (PRL s1 s2 s3 s4 s5 ps) ac V ms cl H l1)(hk:Al k)(hx:0≤x):PM B (Ra (SLT st bg p b s1 s2 s3 s4 s5 ps ac V ms cl H l1) (At k) t6 (ac.length:Int) x):=by
 have h9:=f.h9
 have h8:=f.h8
 unfold Ra
 try dsimp only
 rw[Am,Ad]
 by_cases c:(ac.length:Int)>0
 ·obtain⟨i1,i2⟩:=Bk6 hx c
  rw[aa0 c,Kd (by omega) (by decide) (by decide),Ad,aa0 (by omega),Ao,aa0 i1,El]
  refine mj0 ?_
  have hw:=h8 _ (B3 (d:=Ib) i2)
  simp only[am1,Bx,af8]
  rw[show (((0:Int),[(0:Int),0,0,0],(0:Int),()):A2)=Ib from rfl]
  generalize ac.getD (Int.tmod x (ac.length:Int)).toNat Ib=y at hw ⊢
  cases hw with
  | mk w1 w2 w3 =>
  exact StF.w ⟨f.h1,f.h2,f.h4,f.h5,f.h6,f.h7,Bek h8 (Aky.mk w1 hk w3),by rw[ae1];exact h9,f.v,f.m1,f.m2,f.c1,f.e,f.p1,f.p2⟩
 ·rw[aa1 c,El]
  exact mj0 f.w
theorem mj5(hB:B≤50000)(f:StF B st p b bg (PRL s1 s2 s3 s4 s5 ps) ac V ms cl H l1)(hk:Al k)(hx:0≤x):PM B (Qr (SLT st bg p b s1 s2 s3 s4 s5 ps ac V ms cl H l1) (At k) t6 (ms.length:Int) x):=by
 have h9:=f.m2
 have h8:=f.m1
 unfold Qr
 try dsimp only
 rw[Am,Ad]
 by_cases c:(ms.length:Int)>0
 ·obtain⟨i1,i2⟩:=Bk6 hx c
  rw[aa0 c,Kd (by omega) (by decide) (by decide),Ad,aa0 (by omega),Ao,aa0 i1,El]
  refine mj0 ?_
  have hw:=h8.at i2 Bp
  simp only[am1,Bx,af8]
  rw[show (((0:Int),(0:Int),[(0:Int),0,0,0],()):Ea)=Bp from rfl]
  obtain⟨z,hz,ez⟩:=Cm6 (m:=3) (Bs0 hk 0) (by omega)
  rw[ez]
  generalize ms.getD (Int.tmod x (ms.length:Int)).toNat Bp=y at hw ⊢
  cases hw with
  | mk w1 w2 w3 =>
  exact StF.w ⟨f.h1,f.h2,f.h4,f.h5,f.h6,f.h7,f.h8,f.h9,f.v,Bek (P:=Bc9) h8 (Bc9.mk w1 w2 hz),by rw[ae1];exact h9,f.c1,f.e,f.p1,f.p2⟩
 ·rw[aa1 c,El]
  exact mj0 f.w
theorem Cr7(hB:B≤50000)(f:StF B st p b bg (PRL s1 s2 s3 s4 s5 ps) ac V ms cl H l1)(hk:Al k)(hx:0≤x):PM B (Oz (SLT st bg p b s1 s2 s3 s4 s5 ps ac V ms cl H l1) (At k) t6 (l1.length:Int) x):=by
 have h9:=f.p2
 have h8:=f.p1
 unfold Oz
 try dsimp only
 rw[Am,Ad]
 by_cases c:(l1.length:Int)>0
 ·obtain⟨i1,i2⟩:=Bk6 hx c
  rw[aa0 c,Kd (by omega) (by decide) (by decide),Ad,aa0 (by omega),Ao,aa0 i1,El]
  refine mj0 ?_
  have hw:=h8.at (Int.tmod x (l1.length:Int)).toNat
  simp only[am1,Bx,af8]
  rw[show (((0:Int),[(0:Int),0,0,0],()):Bl)=F7 from rfl]
  obtain⟨z,hz,ez⟩:=Cm6 (m:=3) (Bs0 hk 0) (by omega)
  rw[ez]
  generalize l1.getD (Int.tmod x (l1.length:Int)).toNat F7=y at hw ⊢
  cases hw with
  | mk w1 w2 =>
  exact StF.w ⟨f.h1,f.h2,f.h4,f.h5,f.h6,f.h7,f.h8,f.h9,f.v,f.m1,f.m2,f.c1,f.e,Bek (P:=Alu) h8 (Alu.mk w1 hz),by rw[ae1];exact h9⟩
 ·rw[aa1 c,El]
  exact mj0 f.w
theorem mj7(hB:B≤50000)(f:StF B st p b bg (PRL s1 s2 s3 s4 s5 ps) ac V ms cl H l1)(hx:0≤x):PM B (Qw (SLT st bg p b s1 s2 s3 s4 s5 ps ac V ms cl H l1) t6 (ms.length:Int) x):=by
 have h9:=f.c1
 unfold Qw
 try dsimp only
 rw[Ad]
 by_cases c:(ms.length:Int)>0
 ·rw[aa0 c,Ad]
  by_cases c2:(cl.length:Int)=(ms.length:Int)
  ·obtain⟨i1,i2⟩:=Bk6 hx c
   rw[aa0 c2,El]
   unfold Alp
   try dsimp only
   rw[Am,Kd (by omega) (by decide) (by decide),Ad,aa0 (by omega),Ad,aa0 (by omega),Ao,aa0 (by omega),Ao,aa0 (by omega),El]
   exact mj0 (StF.w ⟨f.h1,f.h2,f.h4,f.h5,f.h6,f.h7,f.h8,f.h9,f.v,f.m1,f.m2,by rw[ae1];exact h9,f.e,f.p1,f.p2⟩)
  ·rw[aa1 c2,El]
   exact mj0 f.w
 ·rw[aa1 c,El]
  exact mj0 f.w
theorem Csb(hB:B≤50000)(f:StF B st p b bg (PRL s1 s2 s3 s4 s5 ps) ac V ms cl H l1)(hk:Al k):PM B (Ph (SLT st bg p b s1 s2 s3 s4 s5 ps ac V ms cl H l1) (At k) t6 (l1.length:Int) c):=by
 have h9:=f.p2
 have h6:=f.h6
 unfold Ph
 try dsimp only
 rw[Am,Am,Ad]
 by_cases c1:c=22
 ·rw[aa0 c1,Ad]
  by_cases c2:(l1.length:Int)>0
  ·rw[aa0 c2,Ad,aa0 (by omega),El]
   exact mj0 (StF.w ⟨f.h1,f.h2,f.h4,f.h5,f.h6,f.h7,f.h8,f.h9,f.v,f.m1,f.m2,f.c1,f.e,fun y hy=>f.p1 y (an2 (ah7 hy)),by rw[ab2,ac0];omega⟩)
  ·rw[aa1 c2,El]
   exact mj0 f.w
 rw[aa1 c1,Ad]
 by_cases c2:c=23
 ·rw[aa0 c2,El]
  have h4:=f.h4
  cases h4 with
  | mk q1 q2 q3 q4 =>
  exact mj0 (StF.w ⟨Bs0 hk 0,f.h2,Bet.mk q1 q2 (Bs0 hk 2) q4,Bs0 hk 1,f.h6,f.h7,f.h8,f.h9,f.v,f.m1,f.m2,f.c1,f.e,f.p1,f.p2⟩)
 rw[aa1 c2,Ad]
 by_cases c3:c=24
 ·rw[aa0 c3,El]
  exact mj0 (StF.w ⟨f.h1,f.h2,f.h4,f.h5,⟨⟨k,rfl,hk⟩,Bs0 hk 1,h6.lu,h6.re,h6.su,h6.ps,h6.len⟩,f.h7,f.h8,f.h9,f.v,f.m1,f.m2,f.c1,f.e,f.p1,f.p2⟩)
 ·rw[aa1 c3,El]
  exact mj0 f.w
theorem mj2(hB:B≤50000)(f:StF B st p b bg (PRL s1 s2 s3 s4 s5 ps) ac V ms cl H l1)(hk:Al k)(hx:0≤x) :
  PM B (P0 (SLT st bg p b s1 s2 s3 s4 s5 ps ac V ms cl H l1) (At k) t6 (ac.length:Int) (ms.length:Int) (l1.length:Int) x c):=by
 have k9:PM B (Rb (SLT st bg p b s1 s2 s3 s4 s5 ps ac V ms cl H l1) (At k) t6 (l1.length:Int) x c):=by
  have a:=Cr7 (t6:=t6) hB f hk hx
  have b:=Csb (t6:=t6) (c:=c) hB f hk
  unfold Rb
  try dsimp only
  repeat' first
   | exact a
   | exact b
   | (rw[Ad];split)
 have k6:PM B (Rc (SLT st bg p b s1 s2 s3 s4 s5 ps ac V ms cl H l1) (At k) t6 (ms.length:Int) (l1.length:Int) x c):=by
  have a:=mj7 (t6:=t6) hB f hx
  unfold Rc
  try dsimp only
  repeat' first
   | exact a
   | exact k9
   | (rw[Ad];split)
 have k4:PM B (Rh (SLT st bg p b s1 s2 s3 s4 s5 ps ac V ms cl H l1) (At k) t6 (ms.length:Int) (l1.length:Int) x c):=by
  have a:=mj5 (t6:=t6) hB f hk hx
  unfold Rh
  try dsimp only
  repeat' first
   | exact a
   | exact k6
   | (rw[Ad];split)
 have a:=mj3 (t6:=t6) hB f hk hx
 unfold P0
 try dsimp only
 repeat' first
  | exact a
  | exact k4
  | (rw[Ad];split)
end
theorem Bd4{o:List Aer}{x:Aer}(h:∀ s∈o,Sb s)(hx:Sb x):∀ s∈List.append o [x],Sb s:=fun y hy=>by
 rcases ad9.1 hy with hy|hy
 ·exact h y hy
 ·rw[ac3.1 hy];exact hx
theorem Aaj{α:Type}(o:List α)(x:α):(List.append o [x]).length=o.length+1:=by simp
theorem Cap(i:Nat):(i:Int)+1=((i+1:Nat):Int):=rfl
def PSS(r:Option ((List Aer×Unit)×Unit)):Prop:=∃ l:List Aer,(∀ s∈l,Sb s)∧l.length≤20∧r=some ((l,()),())
theorem Cc9:PSS (Mq ()):=by
 have hi6:∀ a,B2 a→Sb ((6:Int),Bmz,Baj,(0:Int),(0:Int),[(288230376151711744:Int),0,0,0],a,Af2,()):=fun a ha=>by
  have:=Azh (k:=288230376151711744) (a:=a) (by unfold Al;omega) ha
  rw[show At 288230376151711744=[(288230376151711744:Int),0,0,0] by decide] at this
  exact this
 have key:∀ o:List Aer,(∀ s∈o,Sb s)→o.length≤8→PSS (Ac _ _ (fun aa x=>T5 aa x.1 x.2.1) (o,(5:Int),())):=fun o ho fv=>by
  refine Ci (I:=fun y=>∃ (i:Nat) (o:List Aer),i≤8∧(∀ s∈o,Sb s)∧o.length≤3+i∧y=(o,(i:Int),())) (m:=fun y=>(8-y.2.1).toNat)
   (P:=PSS) ?_ ⟨5,o,by omega,ho,by omega,rfl⟩ (by rw[Au];simp only;omega)
  rintro y aa ⟨i,o,hi,ck,fv,rfl⟩ hag
  simp only at hag ⊢
  unfold T5
  rw[Ad]
  by_cases c:(i:Int)<8
  ·rw[aa0 c,Bij (by omega) (by decide) (by decide),Gt (by omega) (by omega),Cap]
   exact hag _ ⟨i+1,_,by omega,Bd4 ck (Cjh (by omega) Z9.1 (d:=(i:Int)) ⟨by omega,by omega⟩),by rw[Aaj];omega,rfl⟩ (by simp only;omega)
  ·rw[aa1 c,Bij (by omega) (by decide) (by decide)]
   exact⟨_,Bd4 ck (Cjh (by omega) (s:=12) ⟨by omega,by omega⟩ Z9.1),by rw[Aaj];omega,rfl⟩
 unfold Mq Yb
 refine Ci (I:=fun y=>∃ (i:Nat) (o:List Aer),i≤5∧(∀ s∈o,Sb s)∧o.length≤i∧y=(o,(i:Int),())) (m:=fun y=>(5-y.2.1).toNat)
  (P:=PSS) ?_ ⟨1,[],by omega,(fun x hx=>by cases hx),ac2 _,rfl⟩ (by rw[Au];simp only;omega)
 rintro y aa ⟨i,o,hi,ck,fv,rfl⟩ hag
 simp only at hag ⊢
 unfold Aee
 rw[Ad]
 by_cases c:(i:Int)<5
 ·rw[aa0 c,Bij (by omega) (by decide) (by decide),Gt (by omega) (by omega),Cap]
  exact hag _ ⟨i+1,_,by omega,Bd4 ck (hi6 (i:Int) ⟨by omega,by omega⟩),by rw[Aaj];omega,rfl⟩ (by simp only;omega)
 ·rw[aa1 c]
  exact key o ck (by omega)
def Ckh(r:Option ((L8×List Aer×List By6×Unit)×Unit×Unit×Unit)):Prop:=∃ (M:L8) (l:List Aer) (c:List By6),MW 80 M∧r=some ((M,l,c,()),(),(),())
theorem Cjo{v:List Int}(hv:∀ x∈v,I64 x)(hl:v.length≤40){calm:Bool}:Ckh (Jb (v,calm,())):=by
 have key:∀ (M:L8) (l:List Aer) (r:List By6),MW 20 M→l.length≤20→r.length≤20→Ckh (Ac _ _ (fun aa x=>Wx Mb Fi aa x.1 x.2.1 x.2.2.1 x.2.2.2.1 x.2.2.2.2.1 x.2.2.2.2.2.1) (v,calm,M,l,r,(0:Int),())):=fun M l r hM h1 h2=>by
  refine Ci (I:=fun y=>∃ (i:Nat) (M:L8) (l:List Aer) (r:List By6),i≤v.length∧MW (20+i) M∧l.length≤20+i∧r.length≤20+i∧y=(v,calm,M,l,r,(i:Int),())) (m:=fun y=>(((v.length:Nat):Int)-y.2.2.2.2.2.1).toNat)
   (P:=Ckh) ?_ ⟨0,M,l,r,by omega,hM,by omega,by omega,rfl⟩ (by rw[Au];simp only;omega)
  rintro y aa ⟨i,M,l,r,hi,hM,hl1,db,rfl⟩ hag
  simp only at hag ⊢
  unfold Wx
  rw[Ad]
  by_cases c:(i:Int)<((v.length:Nat):Int)
  ·have hx:=hv _ (B3 (d:=0) (show i<v.length by omega))
   obtain⟨s,hs,es⟩:=Cfi hM (by omega) hx (calm:=calm)
   obtain⟨rc,M',ee,hM'⟩:=Bxg hM (by omega) hs
   rw[aa0 c,Ao,aa0 (by omega),aa3,es,Aa,Bij (by omega) (by decide) (by decide)]
   dsimp only
   rw[ee,Aa,Bij (by omega) (by decide) (by decide),Ar (by omega) (by omega),Cap]
   exact hag _ ⟨i+1,M',_,_,by omega,hM',by rw[Aaj];omega,by rw[Aaj];omega,rfl⟩ (by simp only;omega)
  ·rw[aa1 c]
   exact⟨M,l,r,hM.mono (by omega),rfl⟩
 obtain⟨M0,e0,hM0⟩:=Cdu
 obtain⟨l0,vv,hll,el⟩:=Cc9
 unfold Jb Ac8
 rw[e0,Aa,el,Aa]
 dsimp only
 refine Ci (I:=fun y=>∃ (i:Nat) (M:L8) (r:List By6),i≤l0.length∧MW i M∧r.length≤i∧y=(v,calm,M,l0,r,(i:Int),())) (m:=fun y=>((l0.length:Int)-y.2.2.2.2.2.1).toNat)
  (P:=Ckh) ?_ ⟨0,M0,[],by omega,hM0,ac2 _,rfl⟩ (by rw[Au];simp only;omega)
 rintro y aa ⟨i,M,r,hi,hM,db,rfl⟩ hag
 simp only at hag ⊢
 unfold Ahx
 rw[Am,Ad]
 by_cases c:(i:Int)<(l0.length:Int)
 ·have hx:=vv _ (B3 (d:=(((0:Int),Bmz,Baj,(0:Int),(0:Int),[(0:Int),0,0,0],(0:Int),Af2,()):Aer)) (show i<l0.length by omega))
  obtain⟨rc,M',ee,hM'⟩:=Bxg hM (by omega) hx
  rw[aa0 c,Ao,aa0 (by omega),aa3,ee,Aa,Bij (by omega) (by decide) (by decide),Ar (by omega) (by omega),Cap]
  exact hag _ ⟨i+1,M',_,by omega,hM',by rw[Aaj];omega,rfl⟩ (by simp only;omega)
 ·rw[aa1 c]
  exact key M l0 r (hM.mono (by omega)) hll (by omega)
theorem Cdh{B:Nat}{S:StT}(hS:StW B S)(hB:B≤40000){k:Nat}(hk:Al k){ni:Int}(hh:I64 ni):PM (B+1) (T4 (S,ni,At k,())):=by
 have f:=(hS.mono (Nat.le_succ B)).f
 have g:=hS.f
 obtain⟨st,p,b,bg,⟨s1,s2,s3,s4,s5,ps,su⟩,ac,V,ms,cl,H,l1,u⟩:=S
 dsimp only at f g
 have hp:=f.h2
 have hb:=f.h4
 have h6:=f.h6
 have g9:=g.h9
 have g2:=g.m2
 have gc:=g.c1
 have gp:=g.p2
 cases hp with
 | mk p1 p2 p3 p4 p5 p6 p7 p8 p9 p10 p11 p12 =>
 cases hb with
 | mk b1 b2 b3 b4 =>
 obtain⟨hh1,hh2⟩:=hh
 have u0:=Bs0 hk 0
 have u1:=Bs0 hk 1
 obtain⟨z2,rt,ez2⟩:=Cm6 (m:=2) u0 (by omega)
 obtain⟨z3,ws,ez3⟩:=Cgi (Bft u1 (k:=2) (by omega))
 have hv:0≤ni % 18446744073709551616 % 1048576∧ni % 18446744073709551616 % 1048576<1048576:=by omega
 have km:0≤ni % 18446744073709551616 % 32∧ni % 18446744073709551616 % 32<32:=by omega
 unfold T4 Apq
 simp only[Am]
 rw[Buu hh1 hh2 (n:=1048576) (by omega) (by omega),Aa,Buu hh1 hh2 (n:=32) (by omega) (by omega),Aa]
 dsimp only
 generalize ni % 18446744073709551616 % 1048576=y at *
 generalize ni % 18446744073709551616 % 32=c at *
 have hx:0≤IntKind.wrap .i64 (Int.tdiv y 32):=by
  rw[ah3 hv.1,Ar (by omega) (by omega)];omega
 generalize IntKind.wrap .i64 (Int.tdiv y 32)=x at *
 rw[ez2,ez3]
 rw[Ad]
 by_cases c0:c=0
 ·rw[aa0 c0,El]
  exact mj0 (StF.w ⟨f.h1,Uk.mk u0 p2 p3 p4 p5 p6 p7 p8 p9 p10 p11 p12,f.h4,f.h5,f.h6,f.h7,f.h8,f.h9,f.v,f.m1,f.m2,f.c1,f.e,f.p1,f.p2⟩)
 rw[aa1 c0,Ad]
 by_cases c1:c=1
 ·rw[aa0 c1,El]
  exact mj0 (StF.w ⟨f.h1,Uk.mk p1 p2 p3 p4 p5 p6 p7 p8 p9 p10 p11 (Bft u0 (k:=300) (by omega)),f.h4,f.h5,f.h6,f.h7,f.h8,f.h9,f.v,f.m1,f.m2,f.c1,f.e,f.p1,f.p2⟩)
 rw[aa1 c1,Ad]
 by_cases c2:c=2
 ·rw[aa0 c2,El]
  exact mj0 (StF.w ⟨f.h1,f.h2,Bet.mk b1 b2 b3 rt,f.h5,f.h6,f.h7,f.h8,f.h9,f.v,f.m1,f.m2,f.c1,f.e,f.p1,f.p2⟩)
 rw[aa1 c2,Ad]
 by_cases c3:c=3
 ·rw[aa0 c3,El]
  exact mj0 (StF.w ⟨f.h1,f.h2,Bet.mk b1 (Bft u0 (k:=20) (by omega)) b3 b4,f.h5,f.h6,f.h7,f.h8,f.h9,f.v,f.m1,f.m2,f.c1,f.e,f.p1,f.p2⟩)
 rw[aa1 c3,Ad]
 by_cases c4:c=4
 ·rw[aa0 c4,El]
  exact mj0 (StF.w ⟨f.h1,f.h2,f.h4,f.h5,⟨h6.up,h6.un,Bft u0 (k:=40) (by omega),h6.re,h6.su,h6.ps,h6.len⟩,f.h7,f.h8,f.h9,f.v,f.m1,f.m2,f.c1,f.e,f.p1,f.p2⟩)
 rw[aa1 c4,Ad]
 by_cases c5:c=5
 ·rw[aa0 c5,El]
  exact mj0 (StF.w ⟨f.h1,f.h2,f.h4,f.h5,⟨h6.up,h6.un,h6.lu,h6.re,Ax6.mk rt,h6.ps,h6.len⟩,f.h7,f.h8,f.h9,f.v,f.m1,f.m2,f.c1,f.e,f.p1,f.p2⟩)
 rw[aa1 c5,Ad]
 by_cases c6:c=6
 ·rw[aa0 c6,El]
  exact mj0 (StF.w ⟨f.h1,f.h2,f.h4,f.h5,f.h6,f.h7,f.h8,f.h9,f.v,f.m1,f.m2,f.c1,⟨k,rfl,hk⟩,f.p1,f.p2⟩)
 rw[aa1 c6,Ad]
 by_cases c7:c=7
 ·have hi:=Adz hx 4 (by omega)
  rw[aa0 c7,Ao,aa0 (by omega),El]
  obtain⟨vs,rfl,v1,v2⟩:=f.v
  refine mj0 (StF.w ⟨f.h1,f.h2,f.h4,f.h5,f.h6,f.h7,f.h8,f.h9,⟨vs.set (Int.tmod x 4).toNat k,by rw[List.map_set],by rw[ae1];exact v1,Bek v2 hk⟩,f.m1,f.m2,f.c1,f.e,f.p1,f.p2⟩)
 rw[aa1 c7,Ad]
 by_cases c8:c=8
 ·rw[aa0 c8,Kd (by omega) (by decide) (by decide),Kd (by omega) (by decide) (by decide),El]
  exact mj0 (StF.w ⟨f.h1,f.h2,f.h4,f.h5,f.h6,f.h7,f.h8,f.h9,f.v,f.m1,f.m2,by rw[Aaj];omega,f.e,f.p1,f.p2⟩)
 rw[aa1 c8,Ad]
 by_cases c9:c=9
 ·rw[aa0 c9,Kd (by omega) (by decide) (by decide),Kd (by omega) (by decide) (by decide),El]
  exact mj0 (StF.w ⟨f.h1,f.h2,f.h4,f.h5,f.h6,f.h7,f.h8,f.h9,f.v,f.m1,f.m2,f.c1,f.e,Bv1 (P:=Alu) f.p1 (Alu.mk u0 ws),by rw[Aaj];omega⟩)
 rw[aa1 c9,Ad]
 by_cases c10:c=10
 ·rw[aa0 c10,Kd (by omega) (by decide) (by decide),Kd (by omega) (by decide) (by decide),El]
  have e0:Aky ((At k).getD 0 0,[(0:Int),0,0,0],Int.tmod ((At k).getD 1 0) 2,()):=by
   have:=Aky.mk u0 (b:=0) (by unfold Al;omega) (Bft u1 (k:=2) (by omega))
   rw[Aut] at this
   exact this
  exact mj0 (StF.w ⟨f.h1,f.h2,f.h4,f.h5,f.h6,f.h7,Bv1 (P:=Aky) f.h8 e0,by rw[Aaj];omega,f.v,f.m1,f.m2,f.c1,f.e,f.p1,f.p2⟩)
 rw[aa1 c10,Ad]
 by_cases c11:c=11
 ·rw[aa0 c11,El]
  exact mj0 (StF.w ⟨f.h1,f.h2,f.h4,f.h5,⟨h6.up,h6.un,h6.lu,Bft u0 (k:=3) (by omega),h6.su,h6.ps,h6.len⟩,f.h7,f.h8,f.h9,f.v,f.m1,f.m2,f.c1,f.e,f.p1,f.p2⟩)
 rw[aa1 c11]
 repeat' first
  | exact mj1 (by omega) f hk hx
  | exact mj2 (by omega) f hk hx
  | (rw[Ad];split)
def Bbk(L:Af):Aij:=fun x=>Ah5 L x.1
def Ap0(L:Af):Acq:=fun x=>Acv L x.1 x.2.1 x.2.2.1
def Azn(L:Af):Agi:=fun x=>Yq L (Ap0 L) x.1 x.2.1
def Kk(L:Af):Gj:=fun x=>Et L x.1 x.2.1 x.2.2.1
def B0(L:Af):Bu:=fun x=>Jd L (Azn L) (Kk L) x.1
def Ahq(L:Af):U3:=fun x=>Uz L (Ap0 L) x.1 x.2.1
def Dw(L:Af):C4:=fun x=>I4 L (Ahq L) (Kk L) x.1
def Aq4(L:Af):Ta:=fun x=>Age L x.1
def Ayd(L:Af):Agn:=fun x=>X1 L (Ahq L) (Aq4 L) x.1 x.2.1
def Alo(L:Af):Ok:=fun x=>Jp L (Ayd L) (Kk L) x.1
def Atf(L:Af):Xm:=fun x=>O3 L (B0 L) (Dw L) (Alo L) x.1
def Jn(L:Af):C1:=fun x=>L3 L x.1
def Av3(L:Af):Sf:=fun x=>Sj L (B0 L) (Dw L) x.1 x.2.1
def Atk(L:Af):W0:=fun x=>O9 L (B0 L) (Jn L) (Av3 L) x.1 x.2.1
def Awy(L:Af):Si:=fun x=>Sz L (B0 L) (Dw L) x.1 x.2.1
def Asz(L:Af):Xb:=fun x=>Ow L (B0 L) (Jn L) (Awy L) x.1 x.2.1
def Anz(L:Af):Rx:=fun x=>Lf L x.1
def Aww(L:Af):Sw:=fun x=>S3 L (B0 L) (Dw L) (Anz L) x.1 x.2.1 x.2.2.1
def Atp(L:Af):Xl:=fun x=>Pc L (B0 L) (Jn L) (Aww L) x.1 x.2.1 x.2.2.1
def Av1(L:Af):Sr:=fun x=>Sk L (B0 L) (Dw L) x.1 x.2.1
def As2(L:Af):Xi:=fun x=>Oy L (B0 L) (Jn L) (Av1 L) x.1 x.2.1
def Any(L:Af):Rl:=fun x=>Le L x.1
def As9(L:Af):Xq:=fun x=>Xh L x.1 x.2.1
def Au5(L:Af):Z7:=fun x=>Z6 L x.1 x.2.1
def Aey(L:Af):Iz:=fun x=>Qs L x.1
def Bjg(L:Af):Anc:=fun x=>Awn L (As9 L) (Au5 L) (Aey L) x.1 x.2.1
def Bdk(L:Af):Ac5:=fun x=>Al4 L x.1 x.2.1
def Bg7(L:Af):Aj9:=fun x=>Akf L x.1 x.2.1
def Atx(L:Af):Xd:=fun x=>Ot L (Bjg L) (Bdk L) (Aey L) (Bg7 L) x.1
def Bfd(L:Af):Apa:=fun x=>Aga L (Atx L) x.1
def Zl(L:Af):Ht:=fun x=>Afx L x.1 x.2.1 x.2.2.1
def Bjx(L:Af):Anm:=fun x=>An3 L (Zl L) x.1 x.2.1
def Bd1(L:Af):Pz:=fun x=>Ads L x.1
def Be0(L:Af):Uf:=fun x=>Ae8 L (Bjx L) (Bd1 L) x.1
def Bev(L:Af):Apb:=fun x=>Agm L (Be0 L) (Aq4 L) x.1
def Bbi(L:Af):Abd:=fun x=>Aao L x.1
def Bia(L:Af):Nl:=fun x=>Ajs L (Zl L) x.1 x.2.1
def Vw(L:Af):Cp:=fun x=>Ei L x.1
def Bhr(L:Af):Atq:=fun x=>Akd L (Bbi L) (Bia L) (Vw L) x.1 x.2.1
def An2(L:Af):Rs:=fun x=>K8 L x.1
def Abp(L:Af):Hd:=fun x=>Aa3 L (Zl L) x.1 x.2.1
def Ay4(L:Af):Un:=fun x=>Arb L (Abp L) x.1
def An9(L:Af):Rw:=fun x=>K1 L (Ay4 L) (Abp L) x.1
def Aqi(L:Af):Va:=fun x=>Nc L (Abp L) (Ay4 L) x.1
def Amy(L:Af):Kq:=fun x=>Aa8 L (Bfd L) (Bev L) (Bhr L) (An2 L) (An9 L) (Aqi L) x.1
def Bab(L:Af):Q8:=fun x=>Xz L (Bbk L) (B0 L) (Atf L) (Atk L) (Asz L) (Dw L) (Atp L) (As2 L) (Any L) (Amy L) x.1
def Bdp(L:Af):Ami:=fun x=>Ame L
def Bpz(L:Af):Bcl:=fun x=>Avx L x.1 x.2.1 x.2.2.1
def Aip(L:Af):Wo:=fun x=>Ai8 L x.1
def Bd0(L:Af):Ama:=fun x=>Adb L (Aip L) x.1 x.2.1
def Avb(L:Af):Yy:=fun x=>Qf L (Bpz L) (Bd0 L) x.1
def Nr(L:Af):Lc:=fun x=>Aja L (Avb L) x.1
def Z2(L:Af):Hr:=fun x=>Aqx L x.1
def A5(L:Af):Az:=fun x=>U8 L (Z2 L) x.1
def Cr(L:Af):Cm:=fun x=>Yk L (A5 L) x.1
def Ic(L:Af):Jo:=fun x=>Awd L (Z2 L) x.1 x.2.1
def K9(L:Af):Jf:=fun x=>Av2 L x.1 x.2.1
def Rn(L:Af):Kl:=fun x=>Aw1 L (Z2 L) x.1 x.2.1
def Cb(L:Af):B6:=fun x=>Aaw L x.1
def Axe(L:Af):Aog:=fun x=>Ant L (Cr L) (Ic L) (K9 L) (Rn L) (Cb L) x.1 x.2.1 x.2.2.1
def Beh(L:Af):Ap6:=fun x=>Afq L (Axe L) x.1 x.2.1 x.2.2.1
def Bj0(L:Af):Avl:=fun x=>An1 L (Z2 L) x.1 x.2.1
def No(L:Af):Oh:=fun x=>Awr L (Bj0 L) (Z2 L) (K9 L) (Rn L) x.1 x.2.1
def Ack(L:Af):Aae:=fun x=>Aws L (K9 L) x.1 x.2.1
def Bbu(L:Af):Aib:=fun x=>Aau L (Nr L) (Beh L) (Cr L) (Ic L) (No L) (Ack L) (Cb L) x.1 x.2.1
def Dc(L:Af):Dd:=fun x=>Aw0 L x.1 x.2.1
def Boy(L:Af):Bcz:=fun x=>Avr L (Cr L) (Ic L) (No L) (Dc L) (Cb L) x.1 x.2.1
def Oe(L:Af):Qu:=fun x=>Ars L x.1
def Hw(L:Af):Fs:=fun x=>Af5 L (Oe L) (Cb L) x.1
def Bjm(L:Af):Avv:=fun x=>Aoi L (A5 L) (Cr L) (Ic L) (No L) (Hw L) x.1 x.2.1
def Bc6(L:Af):Amd:=fun x=>Adc L (Boy L) (Bjm L) x.1 x.2.1 x.2.2.1
def Bak(L:Af):Are:=fun x=>Aq1 L (Bbu L) (Bc6 L) x.1 x.2.1
def Bcn(L:Af):Aly:=fun x=>Ac1 L (Bak L) x.1
def Bdd(L:Af):Al7:=fun x=>Alz L
def Bop(L:Af):Azs:=fun x=>Ay3 L
def Bk5(L:Af):Bag:=fun x=>Ayi L
def Bk2(L:Af):Azl:=fun x=>Aq2 L (Bdp L) (Bcn L) (Bdd L) (Bop L) (Bk5 L)
def Az4(L:Af):Ag4:=fun x=>Yb L
def Azq(L:Af):Afm:=fun x=>Yf L x.1
def Alf(L:Af):Yj:=fun x=>X8 L x.1 x.2.1
def Kb(L:Af):Is:=fun x=>Vq L (Alf L) x.1 x.2.1
def Bap(L:Af):Asb:=fun x=>Ar1 L (A5 L) (Rn L) (Ack L) x.1 x.2.1
def Bbj(L:Af):Aiw:=fun x=>Aa5 L (A5 L) (K9 L) (Bap L) (Dc L) (Hw L) x.1 x.2.1
def Auy(L:Af):Zp:=fun x=>Qo L x.1 x.2.1
def Bfh(L:Af):Apf:=fun x=>Agl L (Cr L) (A5 L) (Ic L) (Dc L) (K9 L) x.1 x.2.1 x.2.2.1
def Asm(L:Af):Xn:=fun x=>Pd L (Kb L) (Bbj L) (Auy L) (Bfh L) x.1 x.2.1
def Fw(L:Af):Fx:=fun x=>Ajj L x.1
def Axu(L:Af):Vf:=fun x=>Vp L x.1 x.2.1 x.2.2.1
def Bmb(L:Af):Aqv:=fun x=>Asd L (Axu L) x.1 x.2.1
def Bdr(L:Af):Adj:=fun x=>Adq L x.1 x.2.1
def Bd3(L:Af):Al3:=fun x=>Ac3 L (Bmb L) (Bdr L) x.1
def Bg2(L:Af):Asu:=fun x=>Ajp L (Bd3 L) x.1 x.2.1 x.2.2.1
def Bll(L:Af):Ayr:=fun x=>Arp L (Nr L) (Fw L) (A5 L) (K9 L) (Bg2 L) (Cr L) (Ic L) (Oe L) (No L) (Cb L) x.1 x.2.1 x.2.2.1 x.2.2.2.1
def Bc5(L:Af):Al9:=fun x=>Adi L (Bll L) (A5 L) (Bap L) (Cr L) (Ic L) (Ack L) (Rn L) (No L) (Dc L) (Oe L) (Cb L) x.1 x.2.1 x.2.2.1 x.2.2.2.1
def Awv(L:Af):Ss:=fun x=>Sq L (A5 L) (Dc L) (K9 L) (Fw L) x.1
def Nx(L:Af):Nk:=fun x=>Aj8 L (Awv L) x.1
def Ac4(L:Af):Aa0:=fun x=>Ani L (Fw L) x.1
def Ain(L:Af):Aci:=fun x=>Akj L (Nx L) (Ac4 L) x.1
def Bbf(L:Af):Aio:=fun x=>Aal L (Ain L) x.1 x.2.1
def Tg(L:Af):Ru:=fun x=>Akn L (A5 L) (K9 L) (Rn L) (Cb L) x.1 x.2.1
def Xa(L:Af):N9:=fun x=>Ve L (Alf L) x.1 x.2.1
def Tm(L:Af):Lq:=fun x=>Ln L (Kb L) (Tg L) (Xa L) x.1 x.2.1 x.2.2.1
def Apk(L:Af):Tj:=fun x=>L6 L (Tm L) (A5 L) (Dc L) (Cb L) x.1 x.2.1 x.2.2.1 x.2.2.2.1
def Aft(L:Af):Lo:=fun x=>Hv L (Kb L) (Xa L) x.1 x.2.1
def Bkz(L:Af):Ayo:=fun x=>Arg L (Cr L) (Dc L) (Cb L) (Aip L) x.1 x.2.1
def Ach(L:Af):Oo:=fun x=>O0 L (Kb L) (A5 L) (Dc L) (Cb L) (Xa L) x.1 x.2.1 x.2.2.1
def Aos(L:Af):Tp:=fun x=>Mf L (Tm L) (Ach L) x.1 x.2.1 x.2.2.1 x.2.2.2.1
def Ao4(L:Af):Te:=fun x=>Ly L (Tm L) x.1 x.2.1 x.2.2.1
def Bhj(L:Af):Ate:=fun x=>Ajz L x.1
def Ae0(L:Af):Qj:=fun x=>Qz L (Bhj L) x.1 x.2.1
def Av4(L:Af):Abu:=fun x=>Sm L (Ae0 L) x.1 x.2.1
def Bez(L:Af):Apr:=fun x=>Agh L (Av4 L) (Ae0 L) x.1
def Bje(L:Af):Awp:=fun x=>An0 L
def Bke(L:Af):Afl:=fun x=>Anr L x.1 x.2.1
def Bjr(L:Af):Aat:=fun x=>Anw L (Bje L) (Bke L) x.1 x.2.1
def Bph(L:Af):Aph:=fun x=>Awz L (Bjr L) x.1
def Bl4(L:Af):Azm:=fun x=>Aqw L (Bph L) x.1
def Axm(L:Af):Afj:=fun x=>Anl L (Bez L) (Bl4 L) x.1
def Arq(L:Af):Agv:=fun x=>Af9 L (Axm L) x.1 x.2.1
def Bgl(L:Af):Wp:=Ml
def Bju(L:Af):Av0:=fun x=>An8 L (Arq L) (Bgl L) x.1 x.2.1
def Aeq(L:Af):Lr:=fun x=>Qa L (Bju L) x.1 x.2.1 x.2.2.1
def Ax0(L:Af):Ad6:=fun x=>Vn L (Asm L) (Bc5 L) (Bbf L) (Apk L) (Aft L) (Bkz L) (Aos L) (Fw L) (Ao4 L) (Aeq L) x.1 x.2.1
def Aum(L:Af):Zg:=fun x=>Qc L x.1 x.2.1
def Ade(L:Af):Aah:=fun x=>Am6 L x.1 x.2.1
def Bhf(L:Af):Atg:=fun x=>Ako L x.1
def Bgu(L:Af):Atc:=fun x=>Akk L (Ain L) (Nr L) (Ade L) (Bhf L) x.1 x.2.1 x.2.2.1 x.2.2.2.1
def Bbe(L:Af):Aiv:=fun x=>Aax L (Cr L) (Ic L) (No L) (Cb L) x.1 x.2.1 x.2.2.1 x.2.2.2.1
def Bh1(L:Af):Aso:=fun x=>Ajd L (A5 L) (Ic L) (Hw L) x.1 x.2.1
def Bf3(L:Af):Ao1:=fun x=>S5 L (Nx L) (Ade L) (A5 L) (Dc L) (Oe L) (Fw L) (Cb L) x.1 x.2.1 x.2.2.1 x.2.2.2.1 x.2.2.2.2.1
def Bfa(L:Af):Aox:=fun x=>Agc L x.1
def Bjy(L:Af):Awg:=fun x=>An4 L (Nx L) (Bfa L) (A5 L) (Ack L) (Cb L) (Rn L) x.1 x.2.1
def Ai2(L:Af):Acl:=fun x=>Ajk L (A5 L) (Dc L) (Hw L) x.1 x.2.1
def Bfk(L:Af):Ag9:=fun x=>Lu L (Nx L) (Ade L) (Tg L) (Ai2 L) (Fw L) x.1 x.2.1 x.2.2.1
def Bg4(L:Af):Att:=fun x=>Akh L (Bfk L) x.1 x.2.1
def Ayc(L:Af):Ary:=fun x=>Arm L (A5 L) (Dc L) (Hw L) x.1
def Bbh(L:Af):Ah1:=fun x=>Abb L (Nx L) (A5 L) (Dc L) (Hw L) x.1
def Oj(L:Af):Qp:=fun x=>Arn L x.1 x.2.1
def Ass(L:Af):Ap7:=fun x=>Avq L (Dc L) (Oj L) (K9 L) (Rn L) x.1 x.2.1
def Ar9(L:Af):Afd:=fun x=>Afe L (Hw L) x.1
def Bmn(L:Af):Az3:=fun x=>Aqy L (A5 L) (Oj L) (Ass L) (Ar9 L) x.1 x.2.1
def Ak4(L:Af):X2:=fun x=>Xx L (A5 L) (Oj L) x.1
def Bgt(L:Af):Atb:=fun x=>Aj4 L (Oj L) x.1
def Bdv(L:Af):Amb:=fun x=>Acx L (No L) (Cr L) (Dc L) (Oj L) x.1 x.2.1
def Bpf(L:Af):Bdn:=fun x=>Awh L (Ic L) (Oj L) x.1 x.2.1
def Bgh(L:Af):As5:=fun x=>Ajy L (Nr L) (Ac4 L) (Ak4 L) (Bgt L) (Cr L) (Bdv L) (Ass L) (Bpf L) (Oe L) (No L) (Dc L) (Ar9 L) x.1 x.2.1 x.2.2.1 x.2.2.2.1
def Ayk(L:Af):Ahb:=fun x=>Ye L (Ac4 L) (A5 L) (Oj L) (Ak4 L) (Ass L) (Hw L) x.1 x.2.1
def Bjq(L:Af):Aw8:=fun x=>Anq L (Nr L) (Ac4 L) (Bgh L) (Ayk L) x.1 x.2.1 x.2.2.1 x.2.2.2.1 x.2.2.2.2.1
def Bef(L:Af):Ap1:=fun x=>Agr L (Bgu L) (Bbe L) (Bh1 L) (Bf3 L) (Bjy L) (Bg4 L) (Ayc L) (Tg L) (Bbh L) (Bmn L) (Bjq L) x.1 x.2.1 x.2.2.1 x.2.2.2.1 x.2.2.2.2.1
def Ahg(L:Af):Iq:=fun x=>Im L (Tg L) x.1 x.2.1 x.2.2.1
def Aqt(L:Af):U4:=fun x=>M9 L (Aum L) (Bef L) (Ayc L) (Ahg L) (Aeq L) x.1 x.2.1
def Bhz(L:Af):Asr:=fun x=>Ai7 L (Axe L) x.1 x.2.1 x.2.2.1
def Bj2(L:Af):Avo:=fun x=>Aod L (Bak L) x.1 x.2.1 x.2.2.1 x.2.2.2.1
def Bm4(L:Af):Az1:=fun x=>Aq6 L x.1
def Bom(L:Af):Ayh:=fun x=>Asf L (Nr L) (Bm4 L) (Aip L) x.1 x.2.1 x.2.2.1
def Bnq(L:Af):Ayl:=fun x=>Ase L (Nx L) (Ade L) x.1 x.2.1
def Aza(L:Af):Afw:=fun x=>X0 L (Ain L) (Bnq L) x.1 x.2.1
def Aqs(L:Af):Vc:=fun x=>Nd L (Fw L) (Ai2 L) x.1 x.2.1
def As7(L:Af):Ww:=fun x=>Pe L (A5 L) (Dc L) x.1
def Avm(L:Af):Abt:=fun x=>Sg L (As7 L) (A5 L) (Dc L) (Oe L) (Ach L) x.1 x.2.1 x.2.2.1
def Abk(L:Af):Je:=fun x=>Nj L x.1 x.2.1
def Bsf(L:Af):At3:=Alg
def Bhw(L:Af):Atj:=fun x=>Ajx L (Bsf L) x.1 x.2.1 x.2.2.1 x.2.2.2.1 x.2.2.2.2.1
def Aoa(L:Af):Rp:=fun x=>K3 L x.1 x.2.1
def Avc(L:Af):Zx:=fun x=>Q9 L (Fw L) (Abk L) (Axm L) (Bhw L) (Tg L) (Aoa L) (Ai2 L) x.1 x.2.1
def Asv(L:Af):Wy:=fun x=>Ox L (Bhz L) (Bj2 L) (Bom L) (Aza L) (Fw L) (A5 L) (Dc L) (Oe L) (Aqs L) (Avm L) (Avc L) x.1 x.2.1
def Ao3(L:Af):Iv:=fun x=>L2 L (Azq L) (Ax0 L) (Aqt L) (Asv L) x.1 x.2.1
def Bb7(L:Af):Aik:=fun x=>Awt L x.1 x.2.1
def Bd9(L:Af):Apo:=fun x=>Af7 L x.1 x.2.1 x.2.2.1
def Bhg(L:Af):As3:=fun x=>Ai5 L x.1 x.2.1
def Bjo(L:Af):Aw9:=fun x=>Anb L x.1
def Bj6(L:Af):Afu:=Zu
def Bhc(L:Af):Ath:=fun x=>Akp L (Arq L) (Bj6 L) x.1 x.2.1 x.2.2.1
def Auk(L:Af):Ai9:=fun x=>Aju L
def Bhs(L:Af):Atw:=fun x=>Akm L x.1
def Bjs(L:Af):Awo:=fun x=>An7 L (Bhc L) (A5 L) (Cr L) (Dc L) (Auk L) (Ack L) (Cb L) (Bhs L) x.1 x.2.1
def Aqk(L:Af):Uw:=fun x=>M8 L (Bb7 L) x.1
def Ax7(L:Af):Aea:=fun x=>Uu L (Kb L) (A5 L) (Cr L) (Ic L) (Cb L) (Aqk L) (Auk L) x.1 x.2.1 x.2.2.1
def Bc7(L:Af):Wh:=fun x=>Ac6 L (Bb7 L) (Bd9 L) (Bhg L) (Bjo L) (Bjs L) (Ax7 L) x.1 x.2.1 x.2.2.1
def Bdx(L:Af):Adt:=fun x=>Ac8 L (Bk2 L) (Az4 L) (Ao3 L) (Bc7 L) x.1 x.2.1
def App(L:Af):Th:=fun x=>Lw L (Fw L) x.1
def Amh(L:Af):Ps:=fun x=>J7 L x.1
def Asl(L:Af):Pi:=fun x=>O5 L (App L) (Amh L) (Abk L) x.1
def At9(L:Af):Ajv:=fun x=>As6 L (Bab L) (Bdx L) (Amy L) (Asl L)
abbrev Cot:Af:=fun _ _ round=>Bb8 round Bo4
theorem Cp3:At9 Cot ()=some ((true,()),()):=by kernel_rfl
theorem Ca2:Pu ()=some ((true,()),()):=by
 have h:Pu ()=At9 Ac ():=by kernel_rfl
 rw[h,Arw]
 exact Cp3
theorem C8{a b:List Int}(ha:Co a)(hb:Co b):Co (a++b):=fun x hx=>by
 rcases ad9.1 hx with hx|hx
 ·exact ha x hx
 ·exact hb x hx
theorem Bg1{n:Nat}(h:Al n):Co (enc n):=Bbc (af2 (Ae3 h) (by omega))
theorem Asn{x:Int}(h:B2 x):Co (enc x.toNat):=Bg1 (Bgn h)
theorem Al6{n:Nat}(h:Al n):Co (enc (D8 (At n))):=Bg1 (Bip h)
theorem Btv{b:List Int}:∀ (l:List Int),Co b→(∀ x∈l,B2 x)→Co (Abh b l):=by
 intro l
 induction l generalizing b with
 | nil=>intro hb _;exact hb
 | cons x l ih=>intro hb h;exact ih (b:=b++enc x.toNat) (C8 hb (Asn (h x (ac1 ..)))) (fun y hy=>h y (ab8 _ hy))
theorem Cgo{b:List Int}:∀ (l:List Nat),Co b→(∀ x∈l,Al x)→Co (Ap9 b l):=by
 intro l
 induction l generalizing b with
 | nil=>intro hb _;exact hb
 | cons x l ih=>intro hb h;exact ih (b:=b++enc x) (C8 hb (Bg1 (h x (ac1 ..)))) (fun y hy=>h y (ab8 _ hy))
theorem Bmh{f:List Int→Nat→List Int}{b:List Int}:∀ (n:Nat),(∀ b i,i<n→Co b→Co (f b i))→Co b→Co (Fd f b n)
 | 0,_,hb=>hb
 | n+1,h,hb=>h _ n (by omega) (Bmh n (fun b i hi=>h b i (by omega)) hb)
theorem Bsu{n:Nat}(h:n≤100000):Co (enc n):=Bg1 (by unfold Al;omega)
section
variable {st bg n t g:Int} {p:J9} {s:Ux} {ac:List A2} {vs:List Nat} {ms:List Ea} {cl:List Bool} {h f:Nat} {l1:List Bl}
theorem Cc7(ci:B2 st)(iz:B2 bg)(h2:Uk p)(hn:B2 n)(ht:B2 t)(hg:B2 g)(h4:Al f)(h6:Al5 s):Co (Lg st bg p n t g f s):=by
 obtain⟨⟨up,m7,j6⟩,cz,me,ek,j0,-,-⟩:=h6
 obtain⟨s1,s2,s3,s4,s5,s6,su⟩:=s
 dsimp only at m7 cz me ek j0
 subst m7
 cases j0 with
 | mk th =>
 obtain⟨k1,k2,k3,k4,k5,k6,k7,k8,k9,mc,md,qx⟩:=h2
 have um:B2 1886350964:=⟨by decide,by decide⟩
 unfold Lg
 try dsimp only
 refine C8 (Btv _ ?_ (Cg5 cz me ek)) ?_
 ·refine C8 (C8 (C8 (Btv _ ?_ (Cmr k9 mc md qx hn ht hg)) (Bg1 h4)) (Asn iz)) (Al6 j6)
  exact C8 (C8 (C8 (C8 (C8 (Btv _ (fun x hx=>by cases hx) (Cj5 um ci k1 k2 k3)) (Al6 k4)) (Asn k5)) (Al6 k6)) (Asn k7)) (Al6 k8)
 ·rename_i sg sn
  have hb:=Al6 th
  rw[Bi] at hb ⊢
  unfold Aob
  split
  ·exact fun x hx=>by cases hx
  ·intro x hx
   rcases aa9.1 hx with hx|hx
   ·rw[hx];split<;>exact⟨by decide,by decide⟩
   ·exact hb x hx
theorem Ciu(ci:B2 st)(iz:B2 bg)(hn:B2 n)(ht:B2 t)(hg:B2 g)(h2:Uk p)(h4:Al f)(h6:Al5 s)(gf:s.2.2.2.2.2.1.length≤1000)(h8:Aaf ac)(v2:∀ n∈vs,Al n)(m1:Vg ms)(e1:Al h)(p1:G1 l1)(hs:Bdi ac ms l1) :
  Co (Azo st bg n t g p s ac vs ms cl h f l1):=by
 have hsa:=hs.a
 have vz:=hs.m
 have bo:=hs.l
 unfold Azo Axy
 refine Bmh _ (fun b i hi hb=>?_) (C8 (C8 ?_ (Bg1 e1)) (Bsu (by omega)))
 ·have hw:=p1.at i
  rw[T2]
  generalize l1.getD i F7=x at *
  cases hw with
  | mk q1 q2=>exact C8 (C8 hb (Asn q1)) (Al6 q2)
 unfold Baa
 refine Bmh _ (fun b i hi hb=>?_) (C8 ?_ (Bsu (by omega)))
 ·have hw:=m1.at hi Bp
  rw[Ab3]
  generalize ms.getD i Bp=x at *
  cases hw with
  | mk q1 q2 q3 =>
   refine C8 (C8 (C8 hb (Asn q2)) (Al6 q3)) (fun x hx=>?_)
   rw[ac3.1 hx]
   split<;>exact⟨by decide,by decide⟩
 unfold Bjh
 refine Cgo _ ?_ v2
 unfold Bbg
 refine Bmh _ (fun b i hi hb=>?_) (C8 ?_ (Bsu (by omega)))
 ·have hw:=h8 _ (B3 (d:=Ib) hi)
  rw[Anp]
  generalize ac.getD i Ib=x at *
  cases hw with
  | mk q1 q2 q3=>exact C8 (C8 (C8 hb (Asn q1)) (Al6 q2)) (Asn q3)
 unfold Be2
 refine Bmh _ (fun b i hi hb=>?_) (C8 (Cc7 ci iz h2 hn ht hg h4 h6) (Bsu (by omega)))
 have hw:=h6.ps _ (B3 (d:=Aw) hi)
 rw[Aps]
 generalize s.2.2.2.2.2.1.getD i Aw=x at *
 cases hw with
 | mk q1 q2 q3 q4 q5 q6=>exact C8 (C8 (C8 (C8 (C8 (C8 hb (Asn q1)) (Al6 q2)) (Al6 q3)) (Al6 q4)) (Al6 q5)) (Asn q6)
theorem Cpn(ci:B2 st)(iz:B2 bg)(hn:B2 n)(ht:B2 t)(hg:B2 g)(h2:Uk p)(h4:Al f)(h6:Al5 s)(gf:s.2.2.2.2.2.1.length≤1000)(h8:Aaf ac)(v1:vs.length=4)(v2:∀ n∈vs,Al n)(m1:Vg ms)(e1:Al h)(p1:G1 l1)(hs:Bdi ac ms l1) :
  (Azo st bg n t g p s ac vs ms cl h f l1).length≤100000000:=by
 have k3:=Cay ci iz h2 hn ht hg h4 h6
 have q1:=Chw (b:=Lg st bg p n t g f s) h6.ps gf
 have q2:=Cgg (b:=Be2 (Lg st bg p n t g f s) s.2.2.2.2.2.1) h8 hs.a
 have q3:=Bcp (b:=Bbg (Be2 (Lg st bg p n t g f s) s.2.2.2.2.2.1) ac) vs v2
 have q4:=Cff (b:=Bjh (Bbg (Be2 (Lg st bg p n t g f s) s.2.2.2.2.2.1) ac) vs) (cl:=cl) m1 hs.m
 have q5:=Cg6 (b:=Baa (Bjh (Bbg (Be2 (Lg st bg p n t g f s) s.2.2.2.2.2.1) ac) vs) ms cl) p1 hs.l e1
 unfold Azo
 unfold Bjh at *
 omega
end
def Chl(s:RdT):Int:=if s.2.2.1=true then 0 else if s.2.1≥(s.1.length:Int) then 0 else s.1.getD s.2.1.toNat 0
def Cas(s:RdT):RdT:=if s.2.2.1=true then (s.1,s.2.1,true,()) else if s.2.1≥(s.1.length:Int) then (s.1,s.2.1,true,()) else (s.1,s.2.1+1,false,())
def Cp2(s:RdT):Prop:=s.1.length≤1000000000∧0≤s.2.1∧s.2.1≤2000000000
theorem Cfb{s:RdT}(h:Cp2 s):E0 (s,())=some ((Chl s,()),Cas s,()):=by
 obtain⟨b,i,f,_⟩:=s
 obtain⟨h1,h2,h3⟩:=h
 simp only at h1 h2 h3
 unfold E0 Lf Chl Cas
 simp only[Am,Ad,Ao]
 cases f with
 | true=>simp only[Ap,ar3]
 | false =>
  simp only[Bn,al0,if_false]
  by_cases hc:i≥(b.length:Int)
  ·rw[aa0 hc,aa0 hc,aa0 hc]
  ·rw[aa1 hc,aa1 hc,aa1 hc,show IntKind.wrap .i64 (i+1)=i+1 from Ar (by omega) (by omega),Int.add_sub_cancel,show IntKind.wrap .i64 i=i from Ar (by omega) (by omega),aa0 (by omega)]
section
variable {b:List Int} (hb:Co b) (hl:b.length≤1000000000)
include hb hl
end
structure RP(W:List Int)(m:Nat)(P:List Int)(s:RdT):Prop where
 rs:RS (W.take m) (if P.length≤m then some P.length else none) s
theorem Dy{W P x:List Int}(h:(P++x) <+: W):P <+: W:=(aj2 _ _).trans h
theorem Bfv{W P:List Int}{n most m:Nat}(hW:(P++enc n) <+: W)(hn:n<256 ^ most)(hm:most≤32)(hP:P.length≤m) :
  rdU (W.take m) P.length most=if (P++enc n).length≤m then some (n,(P++enc n).length) else none:=by
 obtain⟨R,rfl⟩:=hW
 have hl:(P++enc n).length=P.length+(1+Wn n):=by rw[aa4,Af6]
 by_cases c:(P++enc n).length≤m
 ·rw[aa0 c,as2,aa8 c,ab6,Cbf hn hm,hl,aj3]
 ·rw[aa1 c]
  have e:((P++enc n++R).take m).drop P.length=(enc n).take (m-P.length):=by
   rw[ad4 (by omega),as2,aa8 (l:=P) hP,List.drop_left' rfl]
  unfold rdU
  rw[e]
  rcases Nat.eq_zero_or_pos (m-P.length) with h0|h0
  ·rw[h0];rfl
  ·obtain⟨k,hk⟩:∃ k,m-P.length=k+1:=⟨m-P.length-1,by omega⟩
   rw[hk,enc,aq1]
   simp only[aa3,ab2,Ado]
   rw[aa0 (.inr (.inl (by omega)))]
section
variable {W P:List Int} {m:Nat} {s:RdT} (hb:Co W) (hl:W.length≤500000000)
include hb hl
omit hl in
theorem Cl5:Co (W.take m):=hb.take m
omit hb in
theorem Cjk:(W.take m).length≤1000000000:=by rw[ab2];omega
theorem Ahf(h:RP W m P s){x:Int}(hW:(P++enc x.toNat) <+: W)(hx:B2 x):∃ v s',As (s,())=some ((v,()),s',())∧RP W m (P++enc x.toNat) s'∧((P++enc x.toNat).length≤m→v=x):=by
 obtain⟨v,s',e,h1,h2⟩:=Ccf (Cl5 (m:=m) hb) (Cjk (m:=m) hl) h.rs
 have ag:P.length≤(P++enc x.toNat).length:=by rw[aa4];omega
 have hx8:x.toNat<256 ^ 8:=by obtain⟨q1,q2⟩:=hx;omega
 refine⟨v,s',e,?_,fun cf=>?_⟩
 ·refine⟨?_⟩
  by_cases c:P.length≤m
  ·rw[aa0 c] at h1
   have:stU (W.take m) 8 (some P.length)=if (P++enc x.toNat).length≤m then some (P++enc x.toNat).length else none:=by
    show (rdU (W.take m) P.length 8).map (·.2)=_
    rw[Bfv hW hx8 (by omega) c]
    split<;>rfl
   rwa [this] at h1
  ·rw[aa1 c] at h1
   rw[aa1 (by omega)]
   exact h1
 ·have c:P.length≤m:=by omega
  have:=h2 P.length x.toNat (P++enc x.toNat).length (aa0 c) (by rw[Bfv hW hx8 (by omega) c,aa0 cf])
  rw[this]
  obtain⟨q1,q2⟩:=hx
  omega
theorem Aku(h:RP W m P s){x:Nat}(hW:(P++enc x) <+: W)(hx:Al x):∃ v s',Ba (s,())=some ((v,()),s',())∧RP W m (P++enc x) s'∧((P++enc x).length≤m→v=At x):=by
 obtain⟨v,s',e,h1,h2⟩:=Bzb (Cl5 (m:=m) hb) (Cjk (m:=m) hl) h.rs
 have ag:P.length≤(P++enc x).length:=by rw[aa4];omega
 refine⟨v,s',e,?_,fun cf=>?_⟩
 ·refine⟨?_⟩
  by_cases c:P.length≤m
  ·rw[aa0 c] at h1
   have:stU (W.take m) 32 (some P.length)=if (P++enc x).length≤m then some (P++enc x).length else none:=by
    show (rdU (W.take m) P.length 32).map (·.2)=_
    rw[Bfv hW hx (by omega) c]
    split<;>rfl
   rwa [this] at h1
  ·rw[aa1 c] at h1
   rw[aa1 (by omega)]
   exact h1
 ·have c:P.length≤m:=by omega
  exact h2 P.length x (P++enc x).length (aa0 c) (by rw[Bfv hW hx (by omega) c,aa0 cf])
theorem Cl8(h:RP W m P s){x:Int}(hW:(P++[x]) <+: W):∃ v s',E0 (s,())=some ((v,()),s',())∧RP W m (P++[x]) s'∧((P++[x]).length≤m→v=x):=by
 have f9:=Cjk (m:=m) hl
 have ar:(W.take m).length=min m W.length:=ab2
 have hWl:P.length+1≤W.length:=by
  have:=hW.length_le
  rw[aa4] at this
  simpa using this
 have bj:Cp2 s:=by
  replace h:=h.rs
  split at h
  ·obtain⟨rfl,h1⟩:=h
   exact⟨f9,by simp only;omega,by simp only;omega⟩
  ·obtain⟨a,rfl,a0,a1⟩:=h
   exact⟨f9,a0,a1⟩
 have ag:(P++[x]).length=P.length+1:=by simp
 refine⟨_,_,Cfb bj,?_,fun cf=>?_⟩
 ·replace h:=h.rs
  refine⟨?_⟩
  rw[ag]
  by_cases c:P.length≤m
  ·rw[aa0 c] at h
   obtain⟨rfl,h1⟩:=h
   unfold Cas
   simp only[al0,if_false]
   by_cases c2:P.length+1≤m
   ·rw[aa0 c2,aa1 (by omega)]
    exact⟨by rw[ab0];rfl,by omega⟩
   ·rw[aa1 c2,aa0 (by omega)]
    exact⟨_,rfl,by omega,by omega⟩
  ·rw[aa1 c] at h
   obtain⟨a,rfl,a0,a1⟩:=h
   rw[aa1 (by omega)]
   unfold Cas
   simp only[ar3]
   exact⟨_,rfl,a0,a1⟩
 ·rw[ag] at cf
  replace h:=h.rs
  rw[aa0 (by omega)] at h
  obtain⟨rfl,h1⟩:=h
  unfold Chl
  simp only[al0,if_false]
  rw[aa1 (by omega),aa3]
  obtain⟨R,rfl⟩:=hW
  rw[aa2,af4,aa0 (by omega),ab6,af5 (ab4 _),ak2]
  rfl
omit hb hl in
theorem Cb8{sg:Bool}{n:Nat}(hn:Al n)(h0:¬ (sg=true∧n=0))(hW:(P++Aob sg n) <+: W)(hP:P.length≤m) :
  Bq0 (W.take m) (P.length:Int)=if (P++Aob sg n).length≤m then ((sg,At n,()),(((P++Aob sg n).length:Nat):Int),0,()) else ((false,At 0,()),0,3,()):=by
 have hWl:=hW.length_le
 obtain⟨R,hR⟩:=hW
 by_cases c:(P++Aob sg n).length≤m
 ·rw[aa0 c,← hR,as2,aa8 c,ab6,Cdq hn h0]
 ·rw[aa1 c]
  unfold Bq0
  have ar:(W.take m).length=min m W.length:=ab2
  have hel:(Aob sg n).length=1+(enc n).length:=by unfold Aob;rw[aa1 h0,ac5];omega
  rw[aa4,hel] at c hWl
  rw[aa1 (by omega),aa3]
  by_cases c1:(W.take m).length=P.length
  ·rw[aa0 (.inl c1)]
  ·have g:(W.take m).getD P.length 0=if sg=true then 1 else 0:=by
    rw[aa2,af4,aa0 (by omega),← hR,ab6,af5 (ab4 _),ak2]
    unfold Aob
    rw[aa1 h0]
    rfl
   rw[g,aa1 (by
    rintro (hh|hh)
    ·exact c1 hh
    ·cases sg<;>simp at hh)]
   have hp:((P++[if sg=true then (1:Int) else 0])++enc n) <+: W:=⟨R,by rw[← hR];unfold Aob;rw[aa1 h0];simp⟩
   have hl1:(P++[if sg=true then (1:Int) else 0]).length=P.length+1:=by simp
   have:=Bfv (m:=m) (most:=32) hp hn (by omega) (by omega)
   rw[hl1,aa4,hl1,aa1 (by omega)] at this
   rw[this]
theorem rdI(h:RP W m P s){sg:Bool}{n:Nat}(hW:(P++Aob sg n) <+: W)(hn:Al n)(h0:¬ (sg=true∧n=0)) :
  ∃ v s',Ft (s,())=some ((v,()),s',())∧RP W m (P++Aob sg n) s'∧((P++Aob sg n).length≤m→v=(sg,At n,())):=by
 have f9:=Cjk (m:=m) hl
 have hcb:=Cl5 (m:=m) hb
 have ar:(W.take m).length=min m W.length:=ab2
 have hWl:=hW.length_le
 have ag:P.length≤(P++Aob sg n).length:=by rw[aa4];omega
 unfold Ft Jp B1 Et
 replace h:=h.rs
 by_cases c:P.length≤m
 ·rw[aa0 c] at h
  obtain⟨rfl,h1⟩:=h
  simp only
  rw[Bcb hcb f9 (by omega) (by omega),Aa,Cb8 hn h0 hW c]
  by_cases c2:(P++Aob sg n).length≤m
  ·rw[aa0 c2]
   exact⟨_,_,rfl,⟨by rw[aa0 c2];exact⟨rfl,by omega⟩⟩,fun _=>rfl⟩
  ·rw[aa1 c2]
   exact⟨_,_,rfl,⟨by rw[aa1 c2];exact⟨(P.length:Int),rfl,by omega,by omega⟩⟩,fun h=>absurd h c2⟩
 ·rw[aa1 c] at h
  obtain⟨a,rfl,a0,a1⟩:=h
  simp only
  rw[Bcb hcb f9 (by omega) (by omega),Aa]
  exact⟨_,_,rfl,⟨by rw[aa1 (by omega)];exact⟨a,rfl,a0,a1⟩⟩,fun h=>by omega⟩
end
theorem Cbd{W P:List Int}{m:Nat}{s:RdT}(h:RP W m P s):By (s,())=some ((decide (m<P.length),()),s,()):=by
 replace h:=h.rs
 unfold By L3
 by_cases c:P.length≤m
 ·rw[aa0 c] at h
  obtain⟨rfl,h1⟩:=h
  rw[ab5 (by omega)]
 ·rw[aa1 c] at h
  obtain⟨a,rfl,a0,a1⟩:=h
  rw[aa7 (by omega)]
theorem Ck2(b:List Int)(x1 x2 x3 x4 x5:Int):Abh b [x1,x2,x3,x4,x5]=b++enc x1.toNat++enc x2.toNat++enc x3.toNat++enc x4.toNat++enc x5.toNat:=rfl
theorem Cjt(b:List Int)(x1 x2 x3 x4 x5 x6 x7:Int):Abh b [x1,x2,x3,x4,x5,x6,x7]=b++enc x1.toNat++enc x2.toNat++enc x3.toNat++enc x4.toNat++enc x5.toNat++enc x6.toNat++enc x7.toNat:=rfl
theorem Cjs(b:List Int)(x1 x2 x3:Int):Abh b [x1,x2,x3]=b++enc x1.toNat++enc x2.toNat++enc x3.toNat:=rfl
theorem Bzu{st bg n t g sp to bi gl bb eu pi mi ma s2 s3 s4:Int}{fe ic ep f up sn:Nat}{sg:Bool}{s6:List Aq}{su:Unit} :
  Lg st bg (sp,to,bi,At fe,gl,At ic,bb,At ep,eu,pi,mi,ma,()) n t g f (At up,s2,s3,s4,(sg,At sn,()),s6,su) =
   ([]:List Int)++enc (1886350964:Int).toNat++enc st.toNat++enc sp.toNat++enc to.toNat++enc bi.toNat++enc fe++enc gl.toNat++enc ic++enc bb.toNat++enc ep++enc eu.toNat++enc pi.toNat++enc mi.toNat++enc ma.toNat ++
    enc n.toNat++enc t.toNat++enc g.toNat++enc f++enc bg.toNat++enc up++enc s2.toNat++enc s3.toNat++enc s4.toNat++Aob sg sn:=by
 unfold Lg
 simp only[Ck2,Cjt,Cjs,Bi]
section
variable {W:List Int} {m:Nat} (hb:Co W) (hl:W.length≤500000000)
include hb hl
theorem Cma{st bg n t g:Int}{p:J9}{s:Ux}{f:Nat}{r0:RdT}(ci:B2 st)(iz:B2 bg)(h2:Uk p)(hn:B2 n)(ht:B2 t)(hg:B2 g)(h4:Al f)(h6:Al5 s)(tj:Ber s.2.2.2.2.1)
  (hW:Lg st bg p n t g f s <+: W) (h:RP W m [] r0) :
  ∃ (v0:Int) (r1 r2:RdT) (jl:Int) (p':J9) (b':Ae5) (qw:Int) (u1:List Int) (u2 u3 u4:Int) (u5:Akv),
   As (r0,())=some ((v0,()),r1,()) ∧
   I2 (r1,())=some (((jl,p',b',qw,(u1,u2,u3,u4,u5,(),()),(),[[(0:Int),0,0,0],[(0:Int),0,0,0],[(0:Int),0,0,0],[(0:Int),0,0,0]],(),(),[(0:Int),0,0,0],(),()),()),r2,()) ∧
   RP W m (Lg st bg p n t g f s) r2 ∧
   ((Lg st bg p n t g f s).length≤m→v0=1886350964∧jl=st∧p'=p∧b'=(n,t,g,At f,())∧qw=bg∧u1=s.1∧u2=s.2.1∧u3=s.2.2.1∧u4=s.2.2.2.1∧u5=s.2.2.2.2.1):=by
 obtain⟨⟨up,m7,j6⟩,cz,me,ek,j0,-,-⟩:=h6
 obtain⟨s1,s2,s3,s4,s5,s6,su⟩:=s
 dsimp only at m7 cz me ek j0 tj hW ⊢
 subst m7
 cases j0 with
 | mk th =>
 rename_i sg sn
 obtain⟨k1,k2,k3,k4,k5,k6,k7,k8,k9,mc,md,qx⟩:=h2
 rename_i sp to bi gl bb eu pi mi ma fe ic ep
 have um:B2 1886350964:=⟨by decide,by decide⟩
 have hs0:¬ (sg=true∧sn=0):=fun⟨e1,e2⟩=>by
  unfold Ber at tj
  dsimp only at tj
  rw[Bi] at tj
  rw[e1,e2] at tj
  simp at tj
 obtain⟨P1,gq⟩:∃ P,P=([]:List Int)++enc (1886350964:Int).toNat:=⟨_,rfl⟩
 obtain⟨P2,ft⟩:∃ P,P=P1++enc (st:Int).toNat:=⟨_,rfl⟩
 obtain⟨P3,io⟩:∃ P,P=P2++enc (sp:Int).toNat:=⟨_,rfl⟩
 obtain⟨P4,mf⟩:∃ P,P=P3++enc (to:Int).toNat:=⟨_,rfl⟩
 obtain⟨P5,nj⟩:∃ P,P=P4++enc (bi:Int).toNat:=⟨_,rfl⟩
 obtain⟨P6,mg⟩:∃ P,P=P5++enc fe:=⟨_,rfl⟩
 obtain⟨P7,zb⟩:∃ P,P=P6++enc (gl:Int).toNat:=⟨_,rfl⟩
 obtain⟨P8,zc⟩:∃ P,P=P7++enc ic:=⟨_,rfl⟩
 obtain⟨P9,zd⟩:∃ P,P=P8++enc (bb:Int).toNat:=⟨_,rfl⟩
 obtain⟨P10,pt⟩:∃ P,P=P9++enc ep:=⟨_,rfl⟩
 obtain⟨P11,pu⟩:∃ P,P=P10++enc (eu:Int).toNat:=⟨_,rfl⟩
 obtain⟨P12,pw⟩:∃ P,P=P11++enc (pi:Int).toNat:=⟨_,rfl⟩
 obtain⟨P13,px⟩:∃ P,P=P12++enc (mi:Int).toNat:=⟨_,rfl⟩
 obtain⟨P14,py⟩:∃ P,P=P13++enc (ma:Int).toNat:=⟨_,rfl⟩
 obtain⟨P15,pz⟩:∃ P,P=P14++enc (n:Int).toNat:=⟨_,rfl⟩
 obtain⟨P16,qd⟩:∃ P,P=P15++enc (t:Int).toNat:=⟨_,rfl⟩
 obtain⟨P17,qe⟩:∃ P,P=P16++enc (g:Int).toNat:=⟨_,rfl⟩
 obtain⟨P18,qf⟩:∃ P,P=P17++enc f:=⟨_,rfl⟩
 obtain⟨P19,qg⟩:∃ P,P=P18++enc (bg:Int).toNat:=⟨_,rfl⟩
 obtain⟨P20,qh⟩:∃ P,P=P19++enc up:=⟨_,rfl⟩
 obtain⟨P21,qi⟩:∃ P,P=P20++enc (s2:Int).toNat:=⟨_,rfl⟩
 obtain⟨P22,qj⟩:∃ P,P=P21++enc (s3:Int).toNat:=⟨_,rfl⟩
 obtain⟨P23,qk⟩:∃ P,P=P22++enc (s4:Int).toNat:=⟨_,rfl⟩
 obtain⟨P24,ql⟩:∃ P,P=P23++Aob sg sn:=⟨_,rfl⟩
 have eP:Lg st bg (sp,to,bi,At fe,gl,At ic,bb,At ep,eu,pi,mi,ma,()) n t g f (At up,s2,s3,s4,(sg,At sn,()),s6,su)=P24:=by
  rw[Bzu,ql,qk,qj,qi,qh,qg,qf,qe,qd,pz,py,px,pw,pu,pt,zd,zc,zb,mg,nj,mf,io,ft,gq]
 rw[eP] at hW ⊢
 have w24:=hW
 rw[ql] at w24
 have w23:=Dy w24
 rw[qk] at w23
 have w22:=Dy w23
 rw[qj] at w22
 have w21:=Dy w22
 rw[qi] at w21
 have w20:=Dy w21
 rw[qh] at w20
 have w19:=Dy w20
 rw[qg] at w19
 have w18:=Dy w19
 rw[qf] at w18
 have w17:=Dy w18
 rw[qe] at w17
 have w16:=Dy w17
 rw[qd] at w16
 have w15:=Dy w16
 rw[pz] at w15
 have w14:=Dy w15
 rw[py] at w14
 have w13:=Dy w14
 rw[px] at w13
 have pm:=Dy w13
 rw[pw] at pm
 have pk:=Dy pm
 rw[pu] at pk
 have pj:=Dy pk
 rw[pt] at pj
 have w9:=Dy pj
 rw[zd] at w9
 have w8:=Dy w9
 rw[zc] at w8
 have w7:=Dy w8
 rw[zb] at w7
 have w6:=Dy w7
 rw[mg] at w6
 have w5:=Dy w6
 rw[nj] at w5
 have w4:=Dy w5
 rw[mf] at w4
 have w3:=Dy w4
 rw[io] at w3
 have w2:=Dy w3
 rw[ft] at w2
 have w1:=Dy w2
 rw[gq] at w1
 obtain⟨v1,r1,e1,go,q1⟩:=Ahf hb hl h w1 um
 rw[← gq] at go q1
 obtain⟨v2,r2,e2,iq,q2⟩:=Ahf hb hl go w2 ci
 rw[← ft] at iq q2
 obtain⟨v3,r3,e3,nk,q3⟩:=Ahf hb hl iq w3 k1
 rw[← io] at nk q3
 obtain⟨v4,r4,e4,zf,q4⟩:=Ahf hb hl nk w4 k2
 rw[← mf] at zf q4
 obtain⟨v5,r5,e5,zg,q5⟩:=Ahf hb hl zf w5 k3
 rw[← nj] at zg q5
 obtain⟨v6,r6,e6,zh,q6⟩:=Aku hb hl zg w6 k4
 rw[← mg] at zh q6
 obtain⟨v7,r7,e7,h7',q7⟩:=Ahf hb hl zh w7 k5
 rw[← zb] at h7' q7
 obtain⟨v8,r8,e8,h8',q8⟩:=Aku hb hl h7' w8 k6
 rw[← zc] at h8' q8
 obtain⟨v9,r9,e9,h9',q9⟩:=Ahf hb hl h8' w9 k7
 rw[← zd] at h9' q9
 obtain⟨v10,r10,e10,zi,q10⟩:=Aku hb hl h9' pj k8
 rw[← pt] at zi q10
 obtain⟨v11,r11,e11,zj,q11⟩:=Ahf hb hl zi pk k9
 rw[← pu] at zj q11
 obtain⟨v12,r12,e12,zk,q12⟩:=Ahf hb hl zj pm mc
 rw[← pw] at zk q12
 obtain⟨v13,r13,e13,zl,q13⟩:=Ahf hb hl zk w13 md
 rw[← px] at zl q13
 obtain⟨v14,r14,e14,zm,q14⟩:=Ahf hb hl zl w14 qx
 rw[← py] at zm q14
 obtain⟨v15,r15,e15,zn,q15⟩:=Ahf hb hl zm w15 hn
 rw[← pz] at zn q15
 obtain⟨v16,r16,e16,zo,q16⟩:=Ahf hb hl zn w16 ht
 rw[← qd] at zo q16
 obtain⟨v17,r17,e17,zp,q17⟩:=Ahf hb hl zo w17 hg
 rw[← qe] at zp q17
 obtain⟨v18,r18,e18,zq,q18⟩:=Aku hb hl zp w18 h4
 rw[← qf] at zq q18
 obtain⟨v19,r19,e19,zr,q19⟩:=Ahf hb hl zq w19 iz
 rw[← qg] at zr q19
 obtain⟨v20,r20,e20,zt,q20⟩:=Aku hb hl zr w20 j6
 rw[← qh] at zt q20
 obtain⟨v21,r21,e21,zu,q21⟩:=Ahf hb hl zt w21 cz
 rw[← qi] at zu q21
 obtain⟨v22,r22,e22,zv,q22⟩:=Ahf hb hl zu w22 me
 rw[← qj] at zv q22
 obtain⟨v23,r23,e23,zw,q23⟩:=Ahf hb hl zv w23 ek
 rw[← qk] at zw q23
 obtain⟨v24,r24,e24,zx,q24⟩:=rdI hb hl zw w24 th hs0
 rw[← ql] at zx q24
 have l2:P1.length≤P2.length:=by rw[ft,aa4];omega
 have l3:P2.length≤P3.length:=by rw[io,aa4];omega
 have l4:P3.length≤P4.length:=by rw[mf,aa4];omega
 have l5:P4.length≤P5.length:=by rw[nj,aa4];omega
 have l6:P5.length≤P6.length:=by rw[mg,aa4];omega
 have l7:P6.length≤P7.length:=by rw[zb,aa4];omega
 have l8:P7.length≤P8.length:=by rw[zc,aa4];omega
 have l9:P8.length≤P9.length:=by rw[zd,aa4];omega
 have l10:P9.length≤P10.length:=by rw[pt,aa4];omega
 have l11:P10.length≤P11.length:=by rw[pu,aa4];omega
 have l12:P11.length≤P12.length:=by rw[pw,aa4];omega
 have l13:P12.length≤P13.length:=by rw[px,aa4];omega
 have l14:P13.length≤P14.length:=by rw[py,aa4];omega
 have l15:P14.length≤P15.length:=by rw[pz,aa4];omega
 have l16:P15.length≤P16.length:=by rw[qd,aa4];omega
 have l17:P16.length≤P17.length:=by rw[qe,aa4];omega
 have l18:P17.length≤P18.length:=by rw[qf,aa4];omega
 have l19:P18.length≤P19.length:=by rw[qg,aa4];omega
 have l20:P19.length≤P20.length:=by rw[qh,aa4];omega
 have l21:P20.length≤P21.length:=by rw[qi,aa4];omega
 have l22:P21.length≤P22.length:=by rw[qj,aa4];omega
 have l23:P22.length≤P23.length:=by rw[qk,aa4];omega
 have l24:P23.length≤P24.length:=by rw[ql,aa4];omega
 clear gq w1 ft w2 io w3 mf w4 nj w5 mg w6 zb w7 zc w8 zd w9 pt pj pu pk pw pm px w13 py w14 pz w15 qd w16 qe w17 qf w18 qg w19 qh w20 qi w21 qj w22 qk w23 ql w24 eP
 refine⟨v1,r1,r24,v2,(v3,v4,v5,v6,v7,v8,v9,v10,v11,v12,v13,v14,()),(v15,v16,v17,v18,()),v19,v20,v21,v22,v23,v24,e1,?_,zx,fun cf=>?_⟩
 ·unfold I2 O3
  try dsimp only
  rw[e2,Aa]
  dsimp only
  rw[e3,Aa]
  dsimp only
  rw[e4,Aa]
  dsimp only
  rw[e5,Aa]
  dsimp only
  rw[e6,Aa]
  dsimp only
  rw[e7,Aa]
  dsimp only
  rw[e8,Aa]
  dsimp only
  rw[e9,Aa]
  dsimp only
  rw[e10,Aa]
  dsimp only
  rw[e11,Aa]
  dsimp only
  rw[e12,Aa]
  dsimp only
  rw[e13,Aa]
  dsimp only
  rw[e14,Aa]
  dsimp only
  rw[e15,Aa]
  dsimp only
  rw[e16,Aa]
  dsimp only
  rw[e17,Aa]
  dsimp only
  rw[e18,Aa]
  dsimp only
  rw[e19,Aa]
  dsimp only
  rw[e20,Aa]
  dsimp only
  rw[e21,Aa]
  dsimp only
  rw[e22,Aa]
  dsimp only
  rw[e23,Aa]
  dsimp only
  rw[e24,Aa]
 ·rw[q1 (by omega),q2 (by omega),q3 (by omega),q4 (by omega),q5 (by omega),q6 (by omega),q7 (by omega),q8 (by omega),q9 (by omega),q10 (by omega),q11 (by omega),q12 (by omega),q13 (by omega),q14 (by omega),q15 (by omega),q16 (by omega),q17 (by omega),q18 (by omega),q19 (by omega),q20 (by omega),q21 (by omega),q22 (by omega),q23 (by omega),q24 (by omega)]
  try exact⟨rfl,rfl,rfl,rfl,rfl,rfl,rfl,rfl,rfl,rfl⟩
end
theorem T9{f:List Int→Nat→List Int}{b:List Int}(hf:∀ b i,b <+: f b i):∀ n k,k≤n→Fd f b k <+: Fd f b n
 | 0,0,h=>List.prefix_refl _
 | 0,k+1,h=>absurd h (by omega)
 | n+1,k,h=>by
  rcases ad3 k (n+1) with h1|h1
  ·exact (T9 hf n k (by omega)).trans (hf _ _)
  ·obtain rfl:k=n+1:=by omega
   exact List.prefix_refl _
theorem Blk(l:List Aq)(b:List Int)(i:Nat):b <+: Aps l b i:=by
 unfold Aps;simp only[ab6];exact aj2 _ _
theorem Bmi(l:List A2)(b:List Int)(i:Nat):b <+: Anp l b i:=by
 unfold Anp;simp only[ab6];exact aj2 _ _
theorem Bli(l:List Ea)(cl:List Bool)(b:List Int)(i:Nat):b <+: Ab3 l cl b i:=by
 unfold Ab3;simp only[ab6];exact aj2 _ _
theorem Bh3(l:List Bl)(b:List Int)(i:Nat):b <+: T2 l b i:=by
 unfold T2;simp only[ab6];exact aj2 _ _
def Cbz{σ:Type}(row:RdT×(σ×Unit)→Option (Unit×RdT×σ×Unit))(aa:RdT×(σ×Int×Int×Unit)→Option (Unit×RdT×σ×Unit))(x:RdT×σ×Int×Int×Unit):Option (Unit×RdT×σ×Unit) :=
 Ag (decide (x.2.2.2.1<x.2.2.1)) ((By (x.1,())).bind fun y=>Ag (!y.1.1) ((row (y.2.1,x.2.1,())).bind fun z=>aa (z.2.1,z.2.2.1,x.2.2.1,IntKind.wrap .u64 (x.2.2.2.1+1),()))
  (some ((),y.2.1,x.2.1,()))) (some ((),x.1,x.2.1,()))
theorem Btw{σ α:Type}{row:RdT×(σ×Unit)→Option (Unit×RdT×σ×Unit)}{mk:List α→σ}{l:List α}{d:α}{f:List Int→Nat→List Int}{b W:List Int}{m:Nat}(hf:∀ b i,b <+: f b i)(hL:l.length≤20000)
  (fk:∀ (k:Nat) (r:RdT) (q:List α),k<l.length→q.length≤k→RP W m (Fd f b k) r→∃ r' y,row (r,mk q,())=some ((),r',mk (q++[y]),())∧RP W m (Fd f b (k+1)) r'∧((Fd f b (k+1)).length≤m→y=l.getD k d))
  {r:RdT} {n:Int} (hr:RP W m b r) (hn:b.length≤m→n=(l.length:Int)) :
  ∃ r' q,Ac _ _ (fun aa x=>Cbz row aa x) (r,mk [],n,(0:Int),())=some ((),r',mk q,())∧RP W m (Fd f b l.length) r'∧q.length≤l.length∧((Fd f b l.length).length≤m→q=l):=by
 have dn:∀ k,k≤l.length→b.length≤(Fd f b k).length∧(Fd f b k).length≤(Fd f b l.length).length:=fun k hk =>
  ⟨(T9 hf k 0 (ac2 _)).length_le,(T9 hf _ k hk).length_le⟩
 refine Ci (I:=fun x=>∃ (k:Nat) (r:RdT) (q:List α),k≤l.length∧q.length≤k∧RP W m (Fd f b k) r∧((Fd f b k).length≤m→q=l.take k)∧x=(r,mk q,n,((k:Nat):Int),()))
  (m:=fun x=>((l.length:Int)-x.2.2.2.1).toNat)
  (P:=fun w=>∃ r' q,w=some ((),r',mk q,())∧RP W m (Fd f b l.length) r'∧q.length≤l.length∧((Fd f b l.length).length≤m→q=l)) ?_ ⟨0,r,[],ac2 _,ab4 _,hr,fun _=>by simp,rfl⟩ (by rw[Au];simp only;omega)
 rintro x aa ⟨k,r,q,hk,hq,hP,we,rfl⟩ hag
 obtain⟨m1,m2⟩:=dn k hk
 simp only at hag ⊢
 unfold Cbz
 try dsimp only
 rw[Ad]
 have jx:¬ (Fd f b k).length≤m→RP W m (Fd f b l.length) r:=fun c=>by
  have hP:=hP.rs
  rw[aa1 c] at hP
  refine⟨?_⟩
  rw[aa1 (by omega)]
  exact hP
 by_cases c:(Fd f b k).length≤m
 ·have hn:=hn (by omega)
  by_cases c2:k<l.length
  ·obtain⟨r',y,e1,e2,e3⟩:=fk k r q c2 hq hP
   rw[aa0 (by omega),Cbd hP,Aa]
   dsimp only
   rw[ab5 (by omega),aq8,Ap,e1,Aa,Gt (by omega) (by omega)]
   dsimp only
   refine hag _ ⟨k+1,r',q++[y],by omega,by simp;omega,e2,fun h=>?_,by rw[ab0];rfl⟩ (by simp only;omega)
   rw[we c,e3 h,Api d c2]
  ·obtain rfl:k=l.length:=by omega
   rw[aa1 (by omega)]
   exact⟨r,q,rfl,hP,hq,fun h=>by rw[we h,ah8]⟩
 ·have fd:∃ r' q',some (((),r,mk q,()):Unit×RdT×σ×Unit)=some ((),r',mk q',())∧RP W m (Fd f b l.length) r'∧q'.length≤l.length∧((Fd f b l.length).length≤m→q'=l) :=
   ⟨r,q,rfl,jx c,by omega,fun h=>by omega⟩
  by_cases c2:((k:Nat):Int)<n
  ·rw[aa0 c2,Cbd hP,Aa]
   dsimp only
   rw[aa7 (by omega),an1,Bn]
   exact fd
  ·rw[aa1 c2]
   exact fd
section
variable {W:List Int} {m:Nat} (hb:Co W) (hl:W.length≤500000000)
include hb hl
theorem Csc{a:Int}{b:J9}{c:Ae5}{d:Int}{e1:List Int}{e2 e3 e4:Int}{e5:Akv}{ac:List A2}{V:List (List Int)}{ms:List Ea}{cl:List Bool}{H:List Int}{l1:List Bl}{l:List Aq}(ha:Aco l){P:List Int}{k:Nat}(hk:k<l.length){r:RdT}{q:List Aq}(hq:q.length≤20000)(hW:Aps l P k <+: W)(h:RP W m P r) :
  ∃ r' y,H3 (r,(a,b,c,d,(e1,e2,e3,e4,e5,q,()),ac,V,ms,cl,H,l1,()),())=some ((),r',(a,b,c,d,(e1,e2,e3,e4,e5,(q++[y]),()),ac,V,ms,cl,H,l1,()),())∧RP W m (Aps l P k) r'∧((Aps l P k).length≤m→y=l.getD k Aw):=by
 have hw:=ha _ (B3 (d:=Aw) hk)
 unfold Aps at hW ⊢
 generalize l.getD k Aw=x at *
 cases hw with
 | mk h1 h2 h3 h4 h5 h6 =>
 dsimp only at hW ⊢
 rename_i a0 d0 c0 r0 p0 s0
 rw[Bi,Bi,Bi,Bi] at hW ⊢
 obtain⟨P1,gq⟩:∃ Q,Q=P++enc (a0:Int).toNat:=⟨_,rfl⟩
 obtain⟨P2,ft⟩:∃ Q,Q=P1++enc d0:=⟨_,rfl⟩
 obtain⟨P3,io⟩:∃ Q,Q=P2++enc c0:=⟨_,rfl⟩
 obtain⟨P4,mf⟩:∃ Q,Q=P3++enc r0:=⟨_,rfl⟩
 obtain⟨P5,nj⟩:∃ Q,Q=P4++enc p0:=⟨_,rfl⟩
 obtain⟨P6,mg⟩:∃ Q,Q=P5++enc (s0:Int).toNat:=⟨_,rfl⟩
 rw[← gq,← ft,← io,← mf,← nj,← mg] at hW ⊢
 have w6:=hW
 rw[mg] at w6
 have w5:=Dy w6
 rw[nj] at w5
 have w4:=Dy w5
 rw[mf] at w4
 have w3:=Dy w4
 rw[io] at w3
 have w2:=Dy w3
 rw[ft] at w2
 have w1:=Dy w2
 rw[gq] at w1
 obtain⟨v1,r1,e1,go,q1⟩:=Ahf hb hl h w1 h1
 rw[← gq] at go q1
 obtain⟨v2,r2,e2,iq,q2⟩:=Aku hb hl go w2 h2
 rw[← ft] at iq q2
 obtain⟨v3,r3,e3,nk,q3⟩:=Aku hb hl iq w3 h3
 rw[← io] at nk q3
 obtain⟨v4,r4,e4,zf,q4⟩:=Aku hb hl nk w4 h4
 rw[← mf] at zf q4
 obtain⟨v5,r5,e5,zg,q5⟩:=Aku hb hl zf w5 h5
 rw[← nj] at zg q5
 obtain⟨v6,r6,e6,zh,q6⟩:=Ahf hb hl zg w6 h6
 rw[← mg] at zh q6
 have l2:P1.length≤P2.length:=by rw[ft,aa4];omega
 have l3:P2.length≤P3.length:=by rw[io,aa4];omega
 have l4:P3.length≤P4.length:=by rw[mf,aa4];omega
 have l5:P4.length≤P5.length:=by rw[nj,aa4];omega
 have l6:P5.length≤P6.length:=by rw[mg,aa4];omega
 refine⟨r6,(v1,v2,v3,v4,v5,v6,()),?_,zh,fun cf=>?_⟩
 ·unfold H3 Sj
  try dsimp only
  rw[e1,Aa]
  dsimp only
  rw[e2,Aa]
  dsimp only
  rw[e3,Aa]
  dsimp only
  rw[e4,Aa]
  dsimp only
  rw[e5,Aa]
  dsimp only
  rw[e6,Aa]
  dsimp only
  rw[Kd (by omega) (by decide) (by decide),Bx]
 ·rw[q1 (by omega),q2 (by omega),q3 (by omega),q4 (by omega),q5 (by omega),q6 (by omega)]
theorem Csn{a:Int}{b:J9}{c:Ae5}{d:Int}{e1:List Int}{e2 e3 e4:Int}{e5:Akv}{ps:List Aq}{V:List (List Int)}{ms:List Ea}{cl:List Bool}{H:List Int}{l1:List Bl}{l:List A2}(ha:Aaf l){P:List Int}{k:Nat}(hk:k<l.length){r:RdT}{q:List A2}(hq:q.length≤20000)(hW:Anp l P k <+: W)(h:RP W m P r) :
  ∃ r' y,H1 (r,(a,b,c,d,(e1,e2,e3,e4,e5,ps,()),q,V,ms,cl,H,l1,()),())=some ((),r',(a,b,c,d,(e1,e2,e3,e4,e5,ps,()),(q++[y]),V,ms,cl,H,l1,()),())∧RP W m (Anp l P k) r'∧((Anp l P k).length≤m→y=l.getD k Ib):=by
 have hw:=ha _ (B3 (d:=Ib) hk)
 unfold Anp at hW ⊢
 generalize l.getD k Ib=x at *
 cases hw with
 | mk h1 h2 h3 =>
 dsimp only at hW ⊢
 rename_i a0 b0 n0
 rw[Bi] at hW ⊢
 obtain⟨P1,gq⟩:∃ Q,Q=P++enc (a0:Int).toNat:=⟨_,rfl⟩
 obtain⟨P2,ft⟩:∃ Q,Q=P1++enc b0:=⟨_,rfl⟩
 obtain⟨P3,io⟩:∃ Q,Q=P2++enc (n0:Int).toNat:=⟨_,rfl⟩
 rw[← gq,← ft,← io] at hW ⊢
 have w3:=hW
 rw[io] at w3
 have w2:=Dy w3
 rw[ft] at w2
 have w1:=Dy w2
 rw[gq] at w1
 obtain⟨v1,r1,e1,go,q1⟩:=Ahf hb hl h w1 h1
 rw[← gq] at go q1
 obtain⟨v2,r2,e2,iq,q2⟩:=Aku hb hl go w2 h2
 rw[← ft] at iq q2
 obtain⟨v3,r3,e3,nk,q3⟩:=Ahf hb hl iq w3 h3
 rw[← io] at nk q3
 have l2:P1.length≤P2.length:=by rw[ft,aa4];omega
 have l3:P2.length≤P3.length:=by rw[io,aa4];omega
 refine⟨r3,(v1,v2,v3,()),?_,nk,fun cf=>?_⟩
 ·unfold H1 Sz
  try dsimp only
  rw[e1,Aa]
  dsimp only
  rw[e2,Aa]
  dsimp only
  rw[e3,Aa]
  dsimp only
  rw[Kd (by omega) (by decide) (by decide),Bx]
 ·rw[q1 (by omega),q2 (by omega),q3 (by omega)]
theorem Cr0{a:Int}{b:J9}{c:Ae5}{d:Int}{e1:List Int}{e2 e3 e4:Int}{e5:Akv}{ps:List Aq}{ac:List A2}{V:List (List Int)}{ms:List Ea}{cl:List Bool}{H:List Int}{l:List Bl}(ha:G1 l){P:List Int}{k:Nat}(hk:k<l.length){r:RdT}{q:List Bl}(hq:q.length≤20000)(hW:T2 l P k <+: W)(h:RP W m P r) :
  ∃ r' y,H7 (r,(a,b,c,d,(e1,e2,e3,e4,e5,ps,()),ac,V,ms,cl,H,q,()),())=some ((),r',(a,b,c,d,(e1,e2,e3,e4,e5,ps,()),ac,V,ms,cl,H,(q++[y]),()),())∧RP W m (T2 l P k) r'∧((T2 l P k).length≤m→y=l.getD k F7):=by
 have hw:=G1.at ha k
 unfold T2 at hW ⊢
 generalize l.getD k F7=x at *
 cases hw with
 | mk h1 h2 =>
 dsimp only at hW ⊢
 rename_i a0 b0
 rw[Bi] at hW ⊢
 obtain⟨P1,gq⟩:∃ Q,Q=P++enc (a0:Int).toNat:=⟨_,rfl⟩
 obtain⟨P2,ft⟩:∃ Q,Q=P1++enc b0:=⟨_,rfl⟩
 rw[← gq,← ft] at hW ⊢
 have w2:=hW
 rw[ft] at w2
 have w1:=Dy w2
 rw[gq] at w1
 obtain⟨v1,r1,e1,go,q1⟩:=Ahf hb hl h w1 h1
 rw[← gq] at go q1
 obtain⟨v2,r2,e2,iq,q2⟩:=Aku hb hl go w2 h2
 rw[← ft] at iq q2
 have l2:P1.length≤P2.length:=by rw[ft,aa4];omega
 refine⟨r2,(v1,v2,()),?_,iq,fun cf=>?_⟩
 ·unfold H7 Sk
  try dsimp only
  rw[e1,Aa]
  dsimp only
  rw[e2,Aa]
  dsimp only
  rw[Kd (by omega) (by decide) (by decide),Bx]
 ·rw[q1 (by omega),q2 (by omega)]
theorem Cmq{a:Int}{b:J9}{c:Ae5}{d:Int}{e1:List Int}{e2 e3 e4:Int}{e5:Akv}{ac:List A2}{V:List (List Int)}{ms:List Ea}{cl:List Bool}{H:List Int}{l1:List Bl}{l:List Aq}(ha:Aco l)(hL:l.length≤20000){P:List Int}{r:RdT}(hW:Fd (Aps l) (P++enc l.length) l.length <+: W)(h:RP W m P r) :
  ∃ r' q,Gp (r,(a,b,c,d,(e1,e2,e3,e4,e5,[],()),ac,V,ms,cl,H,l1,()),())=some ((),r',(a,b,c,d,(e1,e2,e3,e4,e5,q,()),ac,V,ms,cl,H,l1,()),())∧RP W m (Fd (Aps l) (P++enc l.length) l.length) r'∧q.length≤l.length∧((Fd (Aps l) (P++enc l.length) l.length).length≤m→q=l):=by
 have hp:∀ k,k≤l.length→Fd (Aps l) (P++enc l.length) k <+: W:=fun k hk=>(T9 (Blk l) _ k hk).trans hW
 obtain⟨v0,r0,e0,h0,q0⟩:=Ahf hb hl h (x:=(l.length:Int)) (hp 0 (ac2 _)) ⟨by omega,by omega⟩
 rw[aa3] at h0 q0
 unfold Gp O9
 try dsimp only
 rw[e0,Aa]
 dsimp only
 exact Btw (mk:=fun q=>(a,b,c,d,(e1,e2,e3,e4,e5,q,()),ac,V,ms,cl,H,l1,())) (d:=Aw) (Blk l) hL (fun k r q hk hq hr=>Csc hb hl ha hk (by omega) (hp (k+1) (by omega)) hr) h0 q0
theorem Cm5{a:Int}{b:J9}{c:Ae5}{d:Int}{e1:List Int}{e2 e3 e4:Int}{e5:Akv}{ps:List Aq}{V:List (List Int)}{ms:List Ea}{cl:List Bool}{H:List Int}{l1:List Bl}{l:List A2}(ha:Aaf l)(hL:l.length≤20000){P:List Int}{r:RdT}(hW:Fd (Anp l) (P++enc l.length) l.length <+: W)(h:RP W m P r) :
  ∃ r' q,Gn (r,(a,b,c,d,(e1,e2,e3,e4,e5,ps,()),[],V,ms,cl,H,l1,()),())=some ((),r',(a,b,c,d,(e1,e2,e3,e4,e5,ps,()),q,V,ms,cl,H,l1,()),())∧RP W m (Fd (Anp l) (P++enc l.length) l.length) r'∧q.length≤l.length∧((Fd (Anp l) (P++enc l.length) l.length).length≤m→q=l):=by
 have hp:∀ k,k≤l.length→Fd (Anp l) (P++enc l.length) k <+: W:=fun k hk=>(T9 (Bmi l) _ k hk).trans hW
 obtain⟨v0,r0,e0,h0,q0⟩:=Ahf hb hl h (x:=(l.length:Int)) (hp 0 (ac2 _)) ⟨by omega,by omega⟩
 rw[aa3] at h0 q0
 unfold Gn Ow
 try dsimp only
 rw[e0,Aa]
 dsimp only
 exact Btw (mk:=fun q=>(a,b,c,d,(e1,e2,e3,e4,e5,ps,()),q,V,ms,cl,H,l1,())) (d:=Ib) (Bmi l) hL (fun k r q hk hq hr=>Csn hb hl ha hk (by omega) (hp (k+1) (by omega)) hr) h0 q0
theorem Cmj{a:Int}{b:J9}{c:Ae5}{d:Int}{e1:List Int}{e2 e3 e4:Int}{e5:Akv}{ps:List Aq}{ac:List A2}{V:List (List Int)}{ms:List Ea}{cl:List Bool}{H:List Int}{l:List Bl}(ha:G1 l)(hL:l.length≤20000){P:List Int}{r:RdT}(hW:Fd (T2 l) (P++enc l.length) l.length <+: W)(h:RP W m P r) :
  ∃ r' q,Gq (r,(a,b,c,d,(e1,e2,e3,e4,e5,ps,()),ac,V,ms,cl,H,[],()),())=some ((),r',(a,b,c,d,(e1,e2,e3,e4,e5,ps,()),ac,V,ms,cl,H,q,()),())∧RP W m (Fd (T2 l) (P++enc l.length) l.length) r'∧q.length≤l.length∧((Fd (T2 l) (P++enc l.length) l.length).length≤m→q=l):=by
 have hp:∀ k,k≤l.length→Fd (T2 l) (P++enc l.length) k <+: W:=fun k hk=>(T9 (Bh3 l) _ k hk).trans hW
 obtain⟨v0,r0,e0,h0,q0⟩:=Ahf hb hl h (x:=(l.length:Int)) (hp 0 (ac2 _)) ⟨by omega,by omega⟩
 rw[aa3] at h0 q0
 unfold Gq Oy
 try dsimp only
 rw[e0,Aa]
 dsimp only
 exact Btw (mk:=fun q=>(a,b,c,d,(e1,e2,e3,e4,e5,ps,()),ac,V,ms,cl,H,q,())) (d:=F7) (Bh3 l) hL (fun k r q hk hq hr=>Cr0 hb hl ha hk (by omega) (hp (k+1) (by omega)) hr) h0 q0
end
section
variable {W:List Int} {m:Nat} (hb:Co W) (hl:W.length≤500000000)
include hb hl
theorem Crh{a:Int}{b:J9}{bk:Ae5}{d:Int}{e1:List Int}{e2 e3 e4:Int}{e5:Akv}{ps:List Aq}{ac:List A2}{V:List (List Int)}{H:List Int}{l1:List Bl}{ms:List Ea}{cl:List Bool}(ha:Vg ms)(hgd:okM ms=true){P:List Int}{k:Nat}(hk:k<ms.length)(ng:ms.length≤20000){r:RdT}{q:List Ea}{cq:List Bool}{od:Bool}(hq:q.length=k)(hcq:cq.length=k)(hW:Ab3 ms cl P k <+: W)(h:RP W m P r) :
  ∃ r' y c' od',Ia (r,(a,b,bk,d,(e1,e2,e3,e4,e5,ps,()),ac,V,q,cq,H,l1,()),od,())=some ((),r',(a,b,bk,d,(e1,e2,e3,e4,e5,ps,()),ac,V,(q++[y]),(cq++[c']),H,l1,()),od',())∧RP W m (Ab3 ms cl P k) r'∧((Ab3 ms cl P k).length≤m→y=ms.getD k Bp∧c'=cl.getD k false∧od'=od):=by
 have hw:=ha.at hk Bp
 have hg:=Bty.1 hgd k hk
 unfold Ab3 at hW ⊢
 generalize ms.getD k Bp=x at *
 generalize cl.getD k false=y0 at *
 cases hw with
 | mk h1 h2 h3 =>
 rename_i sq to am
 dsimp only at hW ⊢
 have hsq:sq=(k:Int):=by
  unfold Bnf at hg
  simp only[aa5,ac4] at hg
  exact hg.1
 subst hsq
 rw[Bi] at hW ⊢
 obtain⟨P1,gq⟩:∃ Q,Q=P++enc (to:Int).toNat:=⟨_,rfl⟩
 obtain⟨P2,ft⟩:∃ Q,Q=P1++enc am:=⟨_,rfl⟩
 obtain⟨P3,io⟩:∃ Q,Q=P2++[if y0=true then (1:Int) else 0]:=⟨_,rfl⟩
 rw[← gq,← ft,← io] at hW ⊢
 have w3:=hW
 rw[io] at w3
 have w2:=Dy w3
 rw[ft] at w2
 have w1:=Dy w2
 rw[gq] at w1
 obtain⟨v1,r1,e1',go,q1⟩:=Ahf hb hl h w1 h2
 rw[← gq] at go q1
 obtain⟨v2,r2,e2',iq,q2⟩:=Aku hb hl go w2 h3
 rw[← ft] at iq q2
 obtain⟨v3,r3,e3',nk,q3⟩:=Cl8 hb hl iq w3
 rw[← io] at nk q3
 have l2:P1.length≤P2.length:=by rw[ft,aa4];omega
 have l3:P2.length≤P3.length:=by rw[io,aa4];omega
 have fd:P3.length≤m→((k:Int),v1,v2,())=((k:Int),to,At am,())∧decide (v3=(1:Int))=y0∧decide (v3>(1:Int))=false:=fun cf=>by
  rw[q1 (by omega),q2 (by omega),q3 (by omega)]
  refine⟨rfl,?_,?_⟩
  ·cases y0<;>rfl
  ·cases y0<;>rfl
 have hwk:IntKind.wrap .u64 (q.length:Int)=(k:Int):=by rw[hq];exact Gt (by omega) (by omega)
 unfold Ia S3
 simp only[Am]
 rw[e1',Aa]
 dsimp only
 rw[e2',Aa]
 dsimp only
 rw[e3',Aa]
 dsimp only
 rw[Kd (by omega) (by decide) (by decide),Kd (by omega) (by decide) (by decide),Bx,Bx,hwk]
 cases od with
 | true =>
  rw[Ap]
  exact⟨r3,_,_,_,rfl,nk,fun cf=>⟨(fd cf).1,(fd cf).2.1,rfl⟩⟩
 | false =>
  rw[Bn,Kd (by omega) (by decide) (by decide),Kd (by omega) (by decide) (by decide)]
  exact⟨r3,_,_,_,rfl,nk,fd⟩
theorem Cme{a:Int}{b:J9}{bk:Ae5}{d:Int}{e1:List Int}{e2 e3 e4:Int}{e5:Akv}{ps:List Aq}{ac:List A2}{V:List (List Int)}{H:List Int}{l1:List Bl}{ms:List Ea}{cl:List Bool}(ha:Vg ms)(hgd:okM ms=true)(f9:cl.length=ms.length)(hL:ms.length≤20000){P:List Int}{r:RdT}(hW:Fd (Ab3 ms cl) (P++enc ms.length) ms.length <+: W)(h:RP W m P r) :
  ∃ r' q cq od,Gm (r,(a,b,bk,d,(e1,e2,e3,e4,e5,ps,()),ac,V,[],[],H,l1,()),false,())=some ((),r',(a,b,bk,d,(e1,e2,e3,e4,e5,ps,()),ac,V,q,cq,H,l1,()),od,())∧RP W m (Fd (Ab3 ms cl) (P++enc ms.length) ms.length) r'∧((Fd (Ab3 ms cl) (P++enc ms.length) ms.length).length≤m→q=ms∧cq=cl∧od=false):=by
 have hp:∀ k,k≤ms.length→Fd (Ab3 ms cl) (P++enc ms.length) k <+: W:=fun k hk=>(T9 (Bli ms cl) _ k hk).trans hW
 obtain⟨n,r0,e0,hr,hn⟩:=Ahf hb hl h (x:=(ms.length:Int)) (hp 0 (ac2 _)) ⟨by omega,by omega⟩
 rw[aa3] at hr hn
 unfold Gm Pc
 try dsimp only
 rw[e0,Aa]
 dsimp only
 generalize P++enc ms.length=b0 at *
 have hf:=Bli ms cl
 have dn:∀ k,k≤ms.length→b0.length≤(Fd (Ab3 ms cl) b0 k).length∧(Fd (Ab3 ms cl) b0 k).length≤(Fd (Ab3 ms cl) b0 ms.length).length:=fun k hk =>
  ⟨(T9 hf k 0 (ac2 _)).length_le,(T9 hf _ k hk).length_le⟩
 refine Ci (I:=fun x=>∃ (k:Nat) (r:RdT) (q:List Ea) (cq:List Bool) (od:Bool),k≤ms.length∧q.length=k∧cq.length=k∧RP W m (Fd (Ab3 ms cl) b0 k) r∧((Fd (Ab3 ms cl) b0 k).length≤m→q=ms.take k∧cq=cl.take k∧od=false)∧x=(r,(a,b,bk,d,(e1,e2,e3,e4,e5,ps,()),ac,V,q,cq,H,l1,()),od,n,((k:Nat):Int),()))
  (m:=fun x=>((ms.length:Int)-x.2.2.2.2.1).toNat)
  (P:=fun w=>∃ r' q cq od,w=some ((),r',(a,b,bk,d,(e1,e2,e3,e4,e5,ps,()),ac,V,q,cq,H,l1,()),od,())∧RP W m (Fd (Ab3 ms cl) b0 ms.length) r'∧((Fd (Ab3 ms cl) b0 ms.length).length≤m→q=ms∧cq=cl∧od=false)) ?_
  ⟨0,r0,[],[],false,ac2 _,rfl,rfl,hr,fun _=>⟨by simp,by simp,rfl⟩,rfl⟩ (by rw[Au];simp only;omega)
 rintro x aa ⟨k,r,q,cq,od,hk,hq,hcq,hP,we,rfl⟩ hag
 obtain⟨m1,m2⟩:=dn k hk
 simp only at hag ⊢
 unfold Xt
 try dsimp only
 rw[Ad]
 have jx:¬ (Fd (Ab3 ms cl) b0 k).length≤m→RP W m (Fd (Ab3 ms cl) b0 ms.length) r:=fun c=>by
  have hP:=hP.rs
  rw[aa1 c] at hP
  refine⟨?_⟩
  rw[aa1 (by omega)]
  exact hP
 by_cases c:(Fd (Ab3 ms cl) b0 k).length≤m
 ·have hn:=hn (by omega)
  by_cases c2:k<ms.length
  ·obtain⟨r',y,c',od',e1',e2',e3'⟩:=Crh (a:=a) (b:=b) (bk:=bk) (d:=d) (e1:=e1) (e2:=e2) (e3:=e3) (e4:=e4) (e5:=e5) (ps:=ps) (ac:=ac) (V:=V) (H:=H) (l1:=l1) (od:=od) hb hl ha hgd c2 hL hq hcq (hp (k+1) (by omega)) hP
   rw[aa0 (by omega),Cbd hP,Aa]
   dsimp only
   rw[ab5 (by omega),aq8,Ap,e1',Aa,Gt (by omega) (by omega)]
   dsimp only
   refine hag _ ⟨k+1,r',q++[y],cq++[c'],od',by omega,by simp;omega,by simp;omega,e2',fun h=>?_,by rw[ab0];rfl⟩ (by simp only;omega)
   obtain⟨s1,s2,s3⟩:=we c
   obtain⟨t1,t2,t3⟩:=e3' h
   rw[s1,s2,t1,t2,t3,Api Bp c2,Api false (by omega)]
   exact⟨rfl,rfl,s3⟩
  ·obtain rfl:k=ms.length:=by omega
   rw[aa1 (by omega)]
   refine⟨r,q,cq,od,rfl,hP,fun h=>?_⟩
   obtain⟨s1,s2,s3⟩:=we h
   exact⟨by rw[s1,ah8],by rw[s2,← f9,ah8],s3⟩
 ·by_cases c2:((k:Nat):Int)<n
  ·rw[aa0 c2,Cbd hP,Aa]
   dsimp only
   rw[aa7 (by omega),an1,Bn]
   exact⟨r,q,cq,od,rfl,jx c,fun h=>by omega⟩
  ·rw[aa1 c2]
   exact⟨r,q,cq,od,rfl,jx c,fun h=>by omega⟩
end
abbrev zSt:StT:=((0:Int),Cj2,Cje,(0:Int),Cl1,([]:List A2),[z4,z4,z4,z4],([]:List Ea),([]:List Bool),z4,([]:List Bl),())
theorem Bu9(b:List Int)(l:List Aq):b <+: Be2 b l:=(aj2 _ _).trans (T9 (Blk l) l.length 0 (ac2 _))
theorem Bvp(b:List Int)(l:List A2):b <+: Bbg b l:=(aj2 _ _).trans (T9 (Bmi l) l.length 0 (ac2 _))
theorem Bww(b:List Int)(l:List Ea)(cl:List Bool):b <+: Baa b l cl:=(aj2 _ _).trans (T9 (Bli l cl) l.length 0 (ac2 _))
theorem Ble(b:List Int)(h:Nat)(l:List Bl):(b++enc h) <+: Axy b h l:=(aj2 _ _).trans (T9 (Bh3 l) l.length 0 (ac2 _))
theorem Blq(a b:List Int):a.length≤(a++b).length:=by rw[aa4];omega
section
variable {st bg n t g:Int} {p:J9} {s:Ux} {ac:List A2} {vs:List Nat} {ms:List Ea} {cl:List Bool} {h f:Nat} {l1:List Bl}
open Classical in
theorem Bk4(h2:Uk p)(h4:Al f)(h6:Al5 s)(h8:Aaf ac)(v1:vs.length=4)(v2:∀ n∈vs,Al n)(m1:Vg ms)(e1:Al h)(p1:G1 l1)(hs:Bdi ac ms l1)(hv:VS p t f s ac vs ms cl h l1) :
  Cc (STL st bg n t g p s ac vs ms cl h f l1,())=some ((true,()),(),()):=by
 rw[Awi (st:=st) (bg:=bg) (n:=n) (t:=t) (g:=g) (cl:=cl) h2 h4 h6 h8 v1 v2 m1 e1 p1 hs,aa7 hv]
theorem Bzz(ci:B2 st)(iz:B2 bg)(hn:B2 n)(ht:B2 t)(hg:B2 g)(h2:Uk p)(h4:Al f)(h6:Al5 s)(gf:s.2.2.2.2.2.1.length≤1000)(h8:Aaf ac)(v1:vs.length=4)(v2:∀ n∈vs,Al n)(m1:Vg ms)(e1:Al h)(p1:G1 l1)(hs:Bdi ac ms l1)
  (hv:VS p t f s ac vs ms cl h l1) {W:List Int} (hb:Co W) (hl:W.length≤500000000) (hW:Azo st bg n t g p s ac vs ms cl h f l1 <+: W) {m:Nat} (hm:m≤W.length) :
  Dk (W.take m,())=some ((if m=(Azo st bg n t g p s ac vs ms cl h f l1).length then (STL st bg n t g p s ac vs ms cl h f l1,(0:Int),()) else (zSt,(3:Int),())),(),()):=by
 have za:=Bk4 (st:=st) (bg:=bg) (n:=n) (t:=t) (g:=g) (cl:=cl) h2 h4 h6 h8 v1 v2 m1 e1 p1 hs hv
 obtain⟨s1,s2,s3,s4,s5,s6,⟨⟩⟩:=s
 have so:=h6.ps
 have tj:Ber s5:=hv.pr.su
 have bj:=hv.om
 have hcn:=hv.cn
 obtain⟨hsa,vz,bo⟩:=hs
 match vs,v1 with
 | [n0,n1,n2,n3],_ =>
 have za:Cc ((st,p,(n,t,g,At f,()),bg,(s1,s2,s3,s4,s5,s6,()),ac,[At n0,At n1,At n2,At n3],ms,cl,At h,l1,()),())=some ((true,()),(),()):=za
 obtain⟨Q0,hQ0⟩:∃ Q,Q=Lg st bg p n t g f (s1,s2,s3,s4,s5,s6,()):=⟨_,rfl⟩
 obtain⟨Q1,hQ1⟩:∃ Q,Q=Be2 Q0 s6:=⟨_,rfl⟩
 obtain⟨Q2,hQ2⟩:∃ Q,Q=Bbg Q1 ac:=⟨_,rfl⟩
 obtain⟨Q3,hQ3⟩:∃ Q,Q=Q2++enc n0++enc n1++enc n2++enc n3:=⟨_,rfl⟩
 obtain⟨Q4,hQ4⟩:∃ Q,Q=Baa Q3 ms cl:=⟨_,rfl⟩
 obtain⟨Q5,hQ5⟩:∃ Q,Q=Axy Q4 h l1:=⟨_,rfl⟩
 have eQ:Azo st bg n t g p (s1,s2,s3,s4,s5,s6,()) ac [n0,n1,n2,n3] ms cl h f l1=Q5:=by rw[hQ5,hQ4,hQ3,hQ2,hQ1,hQ0];rfl
 rw[eQ] at hW ⊢
 have w5:Axy Q4 h l1 <+: W:=hQ5▸hW
 have w4':(Q4++enc h) <+: W:=(Ble Q4 h l1).trans w5
 have w4:Baa Q3 ms cl <+: W:=hQ4▸Dy w4'
 have w3:Q3 <+: W:=(Bww Q3 ms cl).trans w4
 rw[hQ3] at w3
 have w3c:=Dy w3
 have w3b:=Dy w3c
 have w3a:=Dy w3b
 have w2:Bbg Q1 ac <+: W:=hQ2▸Dy w3a
 have w1:Be2 Q0 s6 <+: W:=hQ1▸(Bvp Q1 ac).trans w2
 have w0:Lg st bg p n t g f (s1,s2,s3,s4,s5,s6,()) <+: W:=hQ0▸(Bu9 Q0 _).trans w1
 have l1':Q0.length≤Q1.length:=by rw[hQ1];exact (Bu9 _ _).length_le
 have l2:Q1.length≤Q2.length:=by rw[hQ2];exact (Bvp _ _).length_le
 have l3a:Q2.length≤(Q2++enc n0).length:=Blq _ _
 have l3b:(Q2++enc n0).length≤(Q2++enc n0++enc n1).length:=Blq _ _
 have l3c:(Q2++enc n0++enc n1).length≤(Q2++enc n0++enc n1++enc n2).length:=Blq _ _
 have l3:(Q2++enc n0++enc n1++enc n2).length≤Q3.length:=by rw[hQ3];exact Blq _ _
 have l4:Q3.length≤Q4.length:=by rw[hQ4];exact (Bww _ _ _).length_le
 have l5:Q4.length≤(Q4++enc h).length:=Blq _ _
 have l6:(Q4++enc h).length≤Q5.length:=by rw[hQ5];exact (Ble _ _ _).length_le
 obtain⟨v0,r1,r2,jl,p',b',qw,u1,u2,u3,u4,u5,c1,c2,hP0,q0⟩:=Cma hb hl (m:=m) (r0:=(W.take m,(0:Int),false,())) ci iz h2 hn ht hg h4 h6 tj w0 (by
  refine⟨?_⟩
  rw[aa0 (by simp)]
  exact⟨rfl,ac2 _⟩)
 rw[← hQ0] at hP0 q0
 obtain⟨r3,ps',c3,gq,-,q1⟩:=Cmq (a:=jl) (b:=p') (c:=b') (d:=qw) (e1:=u1) (e2:=u2) (e3:=u3) (e4:=u4) (e5:=u5) (ac:=[]) (V:=[[0,0,0,0],[0,0,0,0],[0,0,0,0],[0,0,0,0]]) (ms:=[]) (cl:=[]) (H:=[0,0,0,0]) (l1:=[]) hb hl so (by omega) w1 hP0
 change RP W m (Be2 Q0 s6) r3 at gq
 change (Be2 Q0 s6).length≤m→_ at q1
 rw[← hQ1] at gq q1
 obtain⟨r4,ac',c4,ft,-,q2⟩:=Cm5 (a:=jl) (b:=p') (c:=b') (d:=qw) (e1:=u1) (e2:=u2) (e3:=u3) (e4:=u4) (e5:=u5) (ps:=ps') (V:=[[0,0,0,0],[0,0,0,0],[0,0,0,0],[0,0,0,0]]) (ms:=[]) (cl:=[]) (H:=[0,0,0,0]) (l1:=[]) hb hl h8 hsa w2 gq
 change RP W m (Bbg Q1 ac) r4 at ft
 change (Bbg Q1 ac).length≤m→_ at q2
 rw[← hQ2] at ft q2
 obtain⟨x0,r5,c5,ay9,q3a⟩:=Aku hb hl ft w3a (v2 n0 (by simp))
 obtain⟨x1,r6,c6,az0,q3b⟩:=Aku hb hl ay9 w3b (v2 n1 (by simp))
 obtain⟨x2,r7,c7,az1,q3c⟩:=Aku hb hl az0 w3c (v2 n2 (by simp))
 obtain⟨x3,r8,c8,io,q3⟩:=Aku hb hl az1 w3 (v2 n3 (by simp))
 rw[← hQ3] at io q3
 obtain⟨r9,ms',cl',od,c9,mf,q4⟩:=Cme (a:=jl) (b:=p') (bk:=b') (d:=qw) (e1:=u1) (e2:=u2) (e3:=u3) (e4:=u4) (e5:=u5) (ps:=ps') (ac:=ac') (V:=[x0,x1,x2,x3]) (H:=[0,0,0,0]) (l1:=[]) hb hl m1 bj hcn vz w4 io
 change RP W m (Baa Q3 ms cl) r9 at mf
 change (Baa Q3 ms cl).length≤m→_ at q4
 rw[← hQ4] at mf q4
 obtain⟨x4,r10,c10,nj,q5⟩:=Aku hb hl mf w4' e1
 obtain⟨r11,ba9,c11,mg,-,q6⟩:=Cmj (a:=jl) (b:=p') (c:=b') (d:=qw) (e1:=u1) (e2:=u2) (e3:=u3) (e4:=u4) (e5:=u5) (ps:=ps') (ac:=ac') (V:=[x0,x1,x2,x3]) (ms:=ms') (cl:=cl') (H:=x4) hb hl p1 bo w5 nj
 change RP W m (Axy Q4 h l1) r11 at mg
 change (Axy Q4 h l1).length≤m→_ at q6
 rw[← hQ5] at mg q6
 have qm:=Bys mg.rs
 rw[ab2,ad8 hm] at qm
 have vj:decide ((if Q5.length≤m then some Q5.length else none)=some m)=decide (m=Q5.length):=by
  rw[aj5]
  split
  ·rw[ak5];exact eq_comm
  ·constructor
   ·intro hh;cases hh
   ·intro hh;omega
 rw[vj] at qm
 have gj:Vh (W.take m,())=some (((W.take m,(0:Int),false,()),()),(),()):=rfl
 unfold Dk Xz
 try dsimp only
 rw[gj,Aa]
 dsimp only
 rw[c1,Aa]
 dsimp only
 rw[c2,Aa]
 dsimp only
 rw[c3,Aa]
 dsimp only
 rw[c4,Aa]
 dsimp only
 rw[c5,Aa]
 dsimp only
 rw[c6,Aa]
 dsimp only
 rw[c7,Aa]
 dsimp only
 rw[c8,Aa]
 dsimp only
 rw[show List.set (List.set (List.set (List.set [[(0:Int),0,0,0],[0,0,0,0],[0,0,0,0],[0,0,0,0]] 0 x0) 1 x1) 2 x2) 3 x3=[x0,x1,x2,x3] from rfl,c9,Aa]
 dsimp only
 rw[c10,Aa]
 dsimp only
 rw[c11,Aa]
 dsimp only
 rw[An,Ad,qm,Aa]
 dsimp only
 rw[An,Ad]
 by_cases cm:m=Q5.length
 ·obtain⟨q01,q02,q03,q04,q05,q06,q07,q08,q09,az2⟩:=q0 (by omega)
  obtain⟨q41,q42,q43⟩:=q4 (by omega)
  rw[aa0 q01,aa0 cm,q43,Bn,aa0 cm,q02,q03,q04,q05,q06,q07,q08,q09,az2,q1 (by omega),q2 (by omega),q3a (by omega),q3b (by omega),q3c (by omega),q3 (by omega),q41,q42,q5 (by omega),q6 (by omega)]
  rw[za,Aa]
  dsimp only
  rw[An,Ap]
  rfl
 ·rw[aa1 cm,aa1 cm]
  cases od with
  | true=>rw[Ap,ite_self]
  | false=>rw[Bn,ite_self]
end
theorem Bpj(a:List Bool)(ha:a.length≤1000000000):Mu (a,a,())=some ((true,()),(),(),()):=by
 unfold Mu Afr
 simp only
 rw[An,Ad,aa0 trivial]
 refine Ai (I:=fun x=>∃ i:Nat,i≤a.length∧x=(a,a,(i:Int),())) (m:=fun x=>((a.length:Int)-x.2.2.1).toNat) (g:=fun _=>some ((true,()),(),(),())) ?_
  ⟨0,by omega,rfl⟩ (by simp only[Au];omega)
 rintro x aa ⟨i,hi,rfl⟩ hag
 simp only at hag ⊢
 unfold Aei
 try simp only[Am]
 rw[Ad]
 by_cases h:(i:Int)<(a.length:Int)
 ·rw[aa0 h,Ao,aa0 (by omega),Ao,aa0 (by omega),aa3,J6.2 rfl,An,Ap,Ar (by omega) (by omega)]
  exact hag _ ⟨i+1,by omega,by rw[ab0];rfl⟩ (by simp only;omega)
 ·rw[aa1 h]
theorem Cjr(a:List A2)(ha:a.length≤1000000000):Jk (a,a,())=some ((true,()),(),(),()):=by
 unfold Jk Zv
 simp only
 rw[An,Ad,aa0 trivial]
 refine Ai (I:=fun x=>∃ i:Nat,i≤a.length∧x=(a,a,(i:Int),())) (m:=fun x=>((a.length:Int)-x.2.2.1).toNat) (g:=fun _=>some ((true,()),(),(),())) ?_
  ⟨0,by omega,rfl⟩ (by simp only[Au];omega)
 rintro x aa ⟨i,hi,rfl⟩ hag
 simp only at hag ⊢
 unfold Aag
 try simp only[Am]
 rw[Ad]
 by_cases h:(i:Int)<(a.length:Int)
 ·rw[aa0 h,Ao,aa0 (by omega),Ao,aa0 (by omega),aa3,J6.2 rfl,An,Ap,Ar (by omega) (by omega)]
  exact hag _ ⟨i+1,by omega,by rw[ab0];rfl⟩ (by simp only;omega)
 ·rw[aa1 h]
theorem Ckn(a:List Aq)(ha:a.length≤1000000000):Ke (a,a,())=some ((true,()),(),(),()):=by
 unfold Ke Aby
 simp only
 rw[An,Ad,aa0 trivial]
 refine Ai (I:=fun x=>∃ i:Nat,i≤a.length∧x=(a,a,(i:Int),())) (m:=fun x=>((a.length:Int)-x.2.2.1).toNat) (g:=fun _=>some ((true,()),(),(),())) ?_
  ⟨0,by omega,rfl⟩ (by simp only[Au];omega)
 rintro x aa ⟨i,hi,rfl⟩ hag
 simp only at hag ⊢
 unfold Abi
 try simp only[Am]
 rw[Ad]
 by_cases h:(i:Int)<(a.length:Int)
 ·rw[aa0 h,Ao,aa0 (by omega),Ao,aa0 (by omega),aa3,J6.2 rfl,An,Ap,Ar (by omega) (by omega)]
  exact hag _ ⟨i+1,by omega,by rw[ab0];rfl⟩ (by simp only;omega)
 ·rw[aa1 h]
theorem Bn0{S:StT}(h:StW 20000 S):Ho (S,S,())=some ((true,()),(),(),()):=by
 cases h with
 | mk h1 h2 h4 h5 h6 h7 h8 h9 v1 v2 m1 m2 c1 e1 p1 p2 =>
 rename_i st bg p b s ac vs ms cl h l1
 have y7:Ll (s,s,())=some ((true,()),(),(),()):=by
  unfold Ll Ad4
  try dsimp only
  rw[J6.2 rfl,Ap,Ad,aa0 rfl,Ad,aa0 rfl,Ad,aa0 rfl,J6.2 rfl,Ap,Ckn _ (by omega),Aa]
 obtain⟨q,em,hq⟩:=Bgo ms ms (by omega)
 rw[hq.2 rfl] at em
 unfold Ho Agp
 try dsimp only
 rw[Ad,aa0 rfl,J6.2 rfl,Ap,J6.2 rfl,Ap,Ad,aa0 rfl,y7,Aa]
 dsimp only
 rw[Ap,Cjr _ (by omega),Aa]
 dsimp only
 rw[Ap,J6.2 rfl,Ap,em,Aa]
 dsimp only
 rw[Ap,Bpj _ (by omega),Aa]
 dsimp only
 rw[Ap,J6.2 rfl,Ap,Bgr _ (by omega),Aa]
inductive Ca7(c:Int)(S:StT):Prop
 | no (e:D0 (S,())=some (([],(2:Int),()),(),())) (v:Cc (S,())=some ((false,()),(),()))
 | yes (E hs:List Int) (e:D0 (S,())=some ((E,(0:Int),()),(),())) (v:Cc (S,())=some ((true,()),(),())) (l0:0<E.length) (l1:E.length≤100000000)
   (d:Dk (E,())=some ((S,(0:Int),()),(),())) (h:L7 (S,())=some ((hs,(0:Int),()),(),())) (q:Ld (E,())=some ((hs,()),(),()))
   (d1:Dk (E++[c],())=some ((zSt,(3:Int),()),(),())) (d2:Dk (E.take (E.length-1),())=some ((zSt,(3:Int),()),(),())) (eq:Ho (S,S,())=some ((true,()),(),(),()))
open Classical in
theorem Bxk{S:StT}(hS:StW 20000 S){c:Int}(hc:0≤c∧c≤255):Ca7 c S:=by
 have heq:=Bn0 hS
 cases hS with
 | mk h1 h2 h4 h5 h6 h7 h8 h9 v1 v2 m1 m2 c1 e1 p1 p2 =>
 rename_i st bg p b s ac vs ms cl h l1
 cases h4 with
 | mk b1 b2 b3 b4 =>
 rename_i n t g f
 have hs:Bdi ac ms l1:=⟨h9,m2,p2⟩
 have ee:=Cko (cl:=cl) h1 h5 b1 b2 b3 h2 b4 h6 h7 h8 v1 v2 m1 e1 p1 hs
 have ev:=Awi (st:=st) (bg:=bg) (n:=n) (t:=t) (g:=g) (cl:=cl) h2 b4 h6 h8 v1 v2 m1 e1 p1 hs
 by_cases cv:VS p t f s ac vs ms cl h l1
 case neg =>
  rw[aa1 cv] at ee
  rw[ab5 cv] at ev
  exact .no ee ev
 rw[aa0 cv] at ee
 rw[aa7 cv] at ev
 have kw:=Ciu (cl:=cl) h1 h5 b1 b2 b3 h2 b4 h6 h7 h8 v2 m1 e1 p1 hs
 have cf:=Cpn (cl:=cl) h1 h5 b1 b2 b3 h2 b4 h6 h7 h8 v1 v2 m1 e1 p1 hs
 have dr:0<(Azo st bg n t g p s ac vs ms cl h f l1).length:=by
  have:=(Ble (Baa (Bjh (Bbg (Be2 (Lg st bg p n t g f s) s.2.2.2.2.2.1) ac) vs) ms cl) h l1).length_le
  rw[aa4,Af6] at this
  unfold Azo
  omega
 obtain⟨E,hE⟩:∃ E,E=Azo st bg n t g p s ac vs ms cl h f l1:=⟨_,rfl⟩
 have hd:=fun (m:Nat) (hm:m≤(E++[c]).length)=>Bzz (cl:=cl) (m:=m) h1 h5 b1 b2 b3 h2 b4 h6 h7 h8 v1 v2 m1 e1 p1 hs cv (W:=E++[c])
  (by rw[hE];exact C8 kw (fun x hx=>by rw[ac3.1 hx];exact hc)) (by rw[hE,aa4];simp only[ag4];omega) (by rw[hE];exact aj2 _ _) hm
 rw[← hE] at ee kw cf dr hd
 have ag:(E++[c]).length=E.length+1:=by simp
 have d0:=hd E.length (by omega)
 have d1:=hd (E.length+1) (by omega)
 have d2:=hd (E.length-1) (by omega)
 rw[aa0 rfl,List.take_left' rfl] at d0
 rw[aa1 (by omega),aa8 (by omega)] at d1
 rw[aa1 (by omega),ad4 (by omega)] at d2
 have q:=Chm kw cf
 refine .yes E _ ee ev dr (by omega) d0 ?_ q d1 d2 heq
 unfold L7 Al2
 rw[ee,Aa]
 dsimp only
 rw[An,Ad,aa0 rfl,ag0,ak1,ah8,q,Aa]
theorem Ccr{l:List StT}{c:Int}(hl:l.length=2)(ha:∀ S∈l,Ca7 c S) :
  ∃ y:(Bool×Unit)×(Unit×Unit×Unit×Unit×Unit),Ac _ _ (fun aa x=>J3 D0 Cc Dk L7 Ho Hn Ld Pu aa x.1 x.2.1 x.2.2.1) (c,l,(0:Int),())=some y∧y.1.1=true:=by
 refine Ci (I:=fun x=>∃ i:Nat,i≤2∧x=(c,l,(i:Int),())) (m:=fun x=>(2-x.2.2.1).toNat) (P:=fun w=>∃ y:(Bool×Unit)×(Unit×Unit×Unit×Unit×Unit),w=some y∧y.1.1=true) ?_ ⟨0,by omega,rfl⟩ (by rw[Au];simp only;omega)
 rintro x aa ⟨i,hi,rfl⟩ hag
 simp only at hag ⊢
 unfold J3
 rw[Ad]
 by_cases c0:(i:Int)<2
 case neg =>
  rw[aa1 c0,Ca2,Aa]
  exact⟨_,rfl,rfl⟩
 rw[aa0 c0,Ao,aa0 (by omega),aa3]
 have hn:=hag (c,l,(i:Int)+1,()) ⟨i+1,by omega,rfl⟩ (by simp only;omega)
 clear hag
 have hA:∀ d,Ca7 c (l.getD i d):=fun d=>ha _ (B3 (d:=d) (by omega))
 have hA:=hA zSt
 change Ca7 c (l.getD i ((0:Int),((0:Int),(0:Int),(0:Int),[(0:Int),0,0,0],(0:Int),[(0:Int),0,0,0],(0:Int),[(0:Int),0,0,0],(0:Int),(0:Int),(0:Int),(0:Int),()),((0:Int),(0:Int),(0:Int),[(0:Int),0,0,0],()),(0:Int),([(0:Int),0,0,0],(0:Int),(0:Int),(0:Int),(false,[(0:Int),0,0,0],()),([]:List Aq),()),([]:List A2),[[(0:Int),0,0,0],[(0:Int),0,0,0],[(0:Int),0,0,0],[(0:Int),0,0,0]],([]:List Ea),([]:List Bool),[(0:Int),0,0,0],([]:List Bl),())) at hA
 generalize l.getD i _=S at hA ⊢
 have hw:IntKind.wrap .i64 ((i:Int)+1)=(i:Int)+1:=Ar (by omega) (by omega)
 cases hA with
 | no e v =>
  simp only[Am]
  rw[e,Aa]
  dsimp only
  rw[An,Ad,aa1 (by decide),An,Ad,aa0 rfl,v,Aa]
  dsimp only
  rw[Bn,Ad,aa1 (by simp),hw]
  exact hn
 | yes E hs e v l0 l1 d h q d1 d2 eq =>
  have w1:IntKind.wrap .i64 ((E.length:Int)-1)=((E.length-1:Nat):Int):=by rw[Ar (by omega) (by omega)];omega
  have heb:Hn (E,E,())=some ((true,()),(),(),()):=by rw[Bpo,aa7 rfl]
  simp only[Am]
  rw[e,Aa]
  dsimp only
  rw[An,Ad,aa0 rfl,Ad,ak1,aa1 (by omega),af6,af1,ak1,ag0,ah8,d,Aa]
  dsimp only
  rw[e,Aa]
  dsimp only
  rw[h,Aa]
  dsimp only
  rw[Ad,aa0 trivial,aa7 (by omega),aa7 (by omega),ak7,Ap,aa3,ah8,Dv (by omega),Bx,d1,Aa]
  dsimp only
  rw[w1,aa7 (by omega),aa7 (by omega),ak7,Ap,aa3,af1,ak1,d2,Aa]
  dsimp only
  rw[An,Ad,aa0 rfl,An,Ad,aa0 rfl,An,Ad,aa0 rfl,v,Aa]
  dsimp only
  rw[An,Ap,eq,Aa]
  dsimp only
  rw[An,Ap,ak1,ag0,ah8,heb,Aa]
  dsimp only
  rw[An,Ap,q,Aa]
  dsimp only
  rw[J6.2 rfl,An,Ap,An,Ad,aa0 rfl,An,Ad,aa0 rfl,hw]
  exact hn
theorem Atr{v:List Int}(hv:∀ x∈v,I64 x){ni:Int}(hh:I64 ni){k:Nat}(hk:Al k){c:Int}(hc:0≤c∧c≤255) :
  ∃ y,Gh (v,ni,At k,c,())=some y∧y.1.1=true:=by
 unfold Gh Pq
 try dsimp only
 rw[Ad]
 by_cases cc:((v.length:Nat):Int)>20
 ·rw[aa0 cc,Ca2,Aa]
  exact⟨_,rfl,rfl⟩
 rw[aa1 cc]
 obtain⟨M,l,rc,hM,es⟩:=Cjo hv (by omega) (calm:=true)
 obtain⟨s,e1,hs⟩:=Cdl hM (by omega)
 obtain⟨s',dl,em⟩:=Cdh hs (by omega) hk hh
 have a2:=Bxk (hs.mono (by omega)) hc
 have a3:=Bxk (dl.mono (by omega)) hc
 rw[es,Aa]
 dsimp only
 rw[e1,Aa]
 dsimp only
 rw[e1,Aa]
 dsimp only
 rw[em,Aa]
 dsimp only
 refine Ccr rfl (fun S hS=>?_)
 simp only[aa9,al8,or_false] at hS
 rcases hS with rfl|rfl
 ·exact a2
 ·exact a3
theorem law_SnapshotRoundTrip:∀ x,wfL J5.ins x→∃ y,Gh x=some y∧y.1.1=true :=
 fun⟨v,ni,n,c,_⟩ ⟨hv,hh,hn,hc,_⟩=>by
  obtain⟨k,hk,rfl⟩:=Cji hn
  exact Atr (fun x hx=>Cbs.1 (hv.2 x hx)) (Cbs.1 hh) hk (Cmg.1 hc)
end Go.Pon
