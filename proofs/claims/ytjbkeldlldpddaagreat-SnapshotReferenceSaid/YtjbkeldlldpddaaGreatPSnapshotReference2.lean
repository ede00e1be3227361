/-
  Part of a proof: general lemmas, merged by a program of this work.
-/
import Derived.Test.YtjbkeldlldpddaaGreatPSnapshotReference1
set_option autoImplicit false
set_option linter.unusedVariables false
set_option linter.unusedSimpArgs false
noncomputable section
set_option maxRecDepth 10000
namespace Go.Pon
open Go
def Cn8:List Int:=[0,1,2,2,3,3,3,3,4,4,4,4,4,4,4,4,5,5,5,5,5,5,5,5,5,5,5,5,5,5,5,5,6,6,6,6,6,6,6,6,6,6,6,6,6,6,6,6,6,6,6,6,6,6,6,6,6,6,6,6,6,6,6,6,7,7,7,7,7,7,7,7,7,7,7,7,7,7,7,7,7,7,7,7,7,7,7,7,7,7,7,7,7,7,7,7,7,7,7,7,7,7,7,7,7,7,7,7,7,7,7,7,7,7,7,7,7,7,7,7,7,7,7,7,7,7,7,7,8,8,8,8,8,8,8,8,8,8,8,8,8,8,8,8,8,8,8,8,8,8,8,8,8,8,8,8,8,8,8,8,8,8,8,8,8,8,8,8,8,8,8,8,8,8,8,8,8,8,8,8,8,8,8,8,8,8,8,8,8,8,8,8,8,8,8,8,8,8,8,8,8,8,8,8,8,8,8,8,8,8,8,8,8,8,8,8,8,8,8,8,8,8,8,8,8,8,8,8,8,8,8,8,8,8,8,8,8,8,8,8,8,8,8,8,8,8,8,8,8,8,8,8,8,8,8,8]
theorem Cl2:∀ i,i<256→Cn8.getD i 0=((Ks i:Nat):Int):=by decide
theorem Cia{x:Int}(h1:0≤x)(h2:x<256):Cn8.getD x.toNat 0=((Ks x.toNat:Nat):Int):=Cl2 _ (by omega)
theorem Bv1{n:Nat}(h:n<256):Ks n≤8:=Atj.2 (by omega)
theorem Zq{x:Int}(k:Nat)(q:Int)(hk:k≤56)(h0:0≤x)(h1:((2 ^ k:Nat):Int)≤x∨k=0)(hq:q=x / ((2 ^ k:Nat):Int))(h2:q<256) :
  Ah (B0 (IntKind.wrap .u8 q) 256) (some ((IntKind.wrap .i64 ((k:Int)+IntKind.wrap .i64 (List.getD Cn8 (Int.toNat (IntKind.wrap .u8 q)) 0)),()),(),())) (none:Option ((Int×Unit)×Unit×Unit))=some ((((Ks x.toNat:Nat):Int),()),(),()):=by
 obtain⟨n,rfl⟩:=Int.eq_ofNat_of_zero_le h0
 have hq0:0≤q:=by rw[hq];exact Int.ediv_nonneg h0 (Int.natCast_nonneg _)
 have hqn:q.toNat=n / 2 ^ k:=by rw[hq,← Int.natCast_ediv,Int.toNat_natCast]
 rw[Cnw hq0 (by omega),Ao,if_pos ⟨hq0,h2⟩,Cia hq0 h2,hqn]
 have hs:Ks (n / 2 ^ k)≤8:=Bv1 (by omega)
 rw[Ar (n:=((Ks (n / 2 ^ k):Nat):Int)) (by omega) (by omega),Ar (by omega) (by omega),Int.toNat_natCast]
 have:Ks n=k+Ks (n / 2 ^ k):=by
  rcases h1 with h1|rfl
  ·exact Bo8 (by omega)
  ·simp
 rw[this];simp
theorem Bmk{a b:Int}(h:0≤b):Int.fdiv a b=a / b:=Int.fdiv_eq_ediv_of_nonneg _ h
theorem Cki{x:Int}(h0:0≤x)(h1:x≤18446744073709551615):Ml (x,())=some ((((Ks x.toNat:Nat):Int),()),(),()):=by
 unfold Ml Agb
 simp only[Am,Ad,ge_iff_le,Bmk (show (0:Int)≤4294967296 by omega),Bmk (show (0:Int)≤65536 by omega),Bmk (show (0:Int)≤256 by omega)]
 repeat' split
 ·exact Zq 56 _ (by omega) h0 (.inl (by omega)) (by omega) (by omega)
 ·exact Zq 48 _ (by omega) h0 (.inl (by omega)) (by omega) (by omega)
 ·exact Zq 40 _ (by omega) h0 (.inl (by omega)) (by omega) (by omega)
 ·exact Zq 32 _ (by omega) h0 (.inl (by omega)) (by omega) (by omega)
 ·exact Zq 24 _ (by omega) h0 (.inl (by omega)) (by omega) (by omega)
 ·exact Zq 16 _ (by omega) h0 (.inl (by omega)) (by omega) (by omega)
 ·exact Zq 8 _ (by omega) h0 (.inl (by omega)) (by omega) (by omega)
 ·exact Zq 0 _ (by omega) h0 (.inr rfl) (by omega) (by omega)
theorem Bqh{n:Nat}(h:n<115792089237316195423570985008687907853269984665640564039457584007913129639936):Ks n≤256:=Atj.2 h
theorem Cip(k:Nat):18446744073709551616 ^ k=2 ^ (64*k):=by rw[show (18446744073709551616:Nat)=2 ^ 64 from rfl,← Nat.pow_mul]
theorem Ces{n:Nat}(hn:n<115792089237316195423570985008687907853269984665640564039457584007913129639936):Oo (Aw n,())=some ((((Ks n:Nat):Int),()),(),()):=by
 unfold Oo Ahh
 refine Ak (I:=fun x=>x.1=Aw n∧-1≤x.2.1∧x.2.1≤3∧n<18446744073709551616 ^ (x.2.1+1).toNat) (m:=fun x=>(x.2.1+1).toNat) (g:=fun _=>some ((((Ks n:Nat):Int),()),(),())) ?_ ⟨rfl,by simp only;omega,by simp only;omega,hn⟩ (by simp only[Av];omega)
 rintro⟨a,i,_⟩ again ⟨h1,h2,h3,h4⟩ hag
 simp only at h1 h2 h3 h4 hag ⊢
 subst h1
 simp only[Ae4,Ad,Aq,Ao,ge_iff_le]
 by_cases hi:0≤i
 ·obtain⟨j,rfl⟩:=Int.eq_ofNat_of_zero_le hi
  have e1:((j:Int)+1).toNat=j+1:=by omega
  rw[e1] at h4
  rw[if_pos hi,if_pos ⟨hi,by omega⟩,Int.toNat_natCast,Byj hn (by omega)]
  have hp:0<18446744073709551616 ^ j:=Nat.pow_pos (by omega)
  have hlt:n / 18446744073709551616 ^ j<18446744073709551616:=by
   rw[Nat.div_lt_iff_lt_mul hp,Nat.mul_comm,← Nat.pow_succ];exact h4
  rw[Nat.mod_eq_of_lt hlt]
  by_cases hz:n / 18446744073709551616 ^ j=0
  ·rw[if_pos (by omega),Ar (by omega) (by omega)]
   refine hag _ ⟨rfl,by simp only;omega,by simp only;omega,?_⟩ (by simp only;omega)
   simp only
   rw[show ((j:Int)-1+1).toNat=j by omega]
   exact (Nat.div_eq_zero_iff.1 hz).resolve_left (by omega)
  ·have hge:2 ^ (64*j)≤n:=by
    rw[← Cip]
    rcases Nat.lt_or_ge n (18446744073709551616 ^ j) with h|h
    ·exact absurd (Nat.div_eq_of_lt h) hz
    ·exact h
   have hb:=Bo8 hge
   have:=Bqh hn
   rw[← Cip] at hb
   generalize n / 18446744073709551616 ^ j=q at *
   rw[if_neg (by omega),if_pos ⟨hi,by omega⟩,Cki (by omega) (by omega)]
   simp only[Aa]
   rw[Int.toNat_natCast,Ar (n:=64*(j:Int)) (by omega) (by omega),Ar (by omega) (by omega),hb]
   simp
 ·have hz:i = -1:=by omega
  subst hz
  have:n=0:=by simpa using h4
  subst this
  simp[Bx5]
theorem Ajh{x:Int}(h0:0≤x)(h1:x≤18446744073709551615):Da (x,())=some ((Aw x.toNat,()),(),()):=by
 unfold Da Px
 rw[Aad h0 h1]
theorem Cmf:(Ty.int IntKind.u8).size=1:=rfl
theorem Di{α:Type}{n:Nat}(h:n≤1099511627776)(a b:Option α):Ah (A9 n (.int .u8)) a b=a:=by
 rw[Ah6,Cmf,if_pos ⟨by omega,by omega⟩]
theorem Cl4{n:Int}(h0:0≤n)(h1:n≤1099511627776):Hg ((),n,())=some (([],()),(),(),()):=by
 unfold Hg Sz
 simp only[Am,Ad,Aga,Int.sub_zero]
 rw[if_neg (by omega),Ar (n:=n) (by omega) (by omega)]
 split
 ·rw[Di (by omega),Au,if_pos (by omega)];rfl
 ·rfl
theorem Aqj{ls:List (List Int)}{i:Nat}(h:i<ls.length):(ls.take (i+1)).flatten=(ls.take i).flatten++ls.getD i []:=by
 rw[List.take_succ_eq_append_getElem h,List.flatten_append,List.getD_eq_getElem?_getD,List.getElem?_eq_getElem h];simp
theorem Akw(ls:List (List Int))(i:Nat):(ls.take i).flatten.length≤ls.flatten.length:=by
 have:(ls.take i++ls.drop i).flatten=ls.flatten:=by rw[List.take_append_drop]
 rw[← this,List.flatten_append,List.length_append];omega
theorem Bye{ls:List (List Int)}(h:ls.flatten.length≤1099511627776)(hn:ls.length≤1099511627776) :
  Ac _ _ (fun again x=>J5 again x.1 x.2.1 x.2.2.1 x.2.2.2.1) (([]:List Int),ls,(ls.length:Int),(0:Int),())=some ((ls.flatten,()),(),()):=by
 refine Ak (I:=fun x=>x.2.1=ls∧x.2.2.1=(ls.length:Int)∧(0:Int)≤x.2.2.2.1∧x.2.2.2.1≤(ls.length:Int)∧x.1=(ls.take x.2.2.2.1.toNat).flatten) (m:=fun x=>((ls.length:Int)-x.2.2.2.1).toNat) (g:=fun _=>some ((ls.flatten,()),(),())) ?_ ⟨rfl,rfl,by simp only;omega,by simp only;omega,rfl⟩ (by simp only[Av];omega)
 rintro⟨new,l,n,i,_⟩ again ⟨h1,h2,h3,h4,h5⟩ hag
 simp only at h1 h2 h3 h4 h5 hag ⊢
 subst h1 h2 h5
 obtain⟨j,rfl⟩:=Int.eq_ofNat_of_zero_le h3
 simp only[J5,Ad,Ao,Int.toNat_natCast,B8]
 by_cases hi:j<l.length
 ·have e:=Aqj hi
  have hle:=Akw l (j+1)
  rw[e] at hle
  rw[if_pos (by omega),if_pos ⟨h3,by omega⟩,Di (by rw[← List.length_append];omega),← e,Ar (by omega) (by omega)]
  exact hag _ ⟨rfl,rfl,by simp only;omega,by simp only;omega,rfl⟩ (by simp only;omega)
 ·rw[if_neg (by omega),List.take_of_length_le (by omega)]
theorem At6{ls:List (List Int)}(h:ls.flatten.length≤1099511627776)(hn:ls.length≤1099511627776):B6 (ls,())=some ((ls.flatten,()),(),()):=by
 unfold B6 Pb
 refine Ak (I:=fun x=>x.1=ls∧x.2.2.1=ls∧x.2.2.2.1=(ls.length:Int)∧(0:Int)≤x.2.2.2.2.1∧x.2.2.2.2.1≤(ls.length:Int)∧x.2.1=(((ls.take x.2.2.2.2.1.toNat).flatten.length:Nat):Int)) (m:=fun x=>((ls.length:Int)-x.2.2.2.2.1).toNat) (g:=fun _=>some ((ls.flatten,()),(),())) ?_
  ⟨rfl,rfl,rfl,by simp only;omega,by simp only;omega,rfl⟩ (by simp only[Av];omega)
 rintro⟨l,size,l',n,i,_⟩ again ⟨h1,h2,h3,h4,h5,h6⟩ hag
 simp only at h1 h2 h3 h4 h5 h6 hag ⊢
 subst h2 h1 h3 h6
 obtain⟨j,rfl⟩:=Int.eq_ofNat_of_zero_le h4
 simp only[Rb,Am,Ad,Ao,Int.toNat_natCast]
 by_cases hi:j<l.length
 ·have e:=Aqj hi
  have hle:=Akw l (j+1)
  rw[e,List.length_append] at hle
  rw[if_pos (by omega),if_pos ⟨h4,by omega⟩,Ar (by omega) (by omega),if_neg (by omega),Ar (by omega) (by omega)]
  refine hag _ ⟨rfl,rfl,rfl,by simp only;omega,by simp only;omega,?_⟩ (by simp only;omega)
  simp only
  rw[show ((j:Int)+1).toNat=j+1 by omega,e,List.length_append];omega
 ·have hle:=Akw l j
  rw[if_neg (by omega),Cl4 (by omega) (by omega)]
  simp only[Aa]
  exact Bye h hn
theorem Ckd{l:List Int}(h:l.length≤1099511627776):Gy (l,())=some ((l,()),(),()):=by
 unfold Gy Q2
 simp only
 rw[Di (by omega),Ad]
 split
 ·rename_i h0
  have:l=[]:=List.length_eq_zero_iff.1 h0
  subst this
  exact Bnp rfl rfl
 ·rfl
theorem Cgp(n j:Nat):(n / 18446744073709551616 ^ (j / 8) % 18446744073709551616) / 2 ^ (8*(j % 8)) % 256=n / 256 ^ j % 256:=by
 rw[Cip,Bn7,show (18446744073709551616:Nat)=2 ^ 64 from rfl,show (256:Nat)=2 ^ 8 from rfl]
 apply Nat.eq_of_testBit_eq
 intro k
 simp only[Nat.testBit_mod_two_pow,Nat.testBit_div_two_pow]
 by_cases hk:k<8
 ·rw[show decide (k+8*(j % 8)<64)=true by simp;omega,show k+8*(j % 8)+64*(j / 8)=k+8*j by omega];simp
 ·simp[hk]
theorem Cae{n j:Nat}(hn:n<115792089237316195423570985008687907853269984665640564039457584007913129639936)(hj:j<32) :
  IntKind.wrap .u8 (Int.fdiv ((Aw n).getD (j / 8) 0) ((2:Int) ^ (min (8*(j % 8)) 64)))=((n / 256 ^ j % 256:Nat):Int):=by
 rw[Byj hn (by omega),Nat.min_eq_left (by omega),IntKind.wrap_u8,Int.fdiv_eq_ediv_of_nonneg _ (Int.pow_nonneg (by omega)),← Cgp n j]
 rfl
theorem Byi{n:Nat}(hn:n<115792089237316195423570985008687907853269984665640564039457584007913129639936){k:Nat}(hk:k≤32){out:List Int}(ho:out.length≤100) :
  Ac _ _ (fun again x=>Aa7 again x.1 x.2.1 x.2.2.1) (Aw n,out,(k:Int)-1,())=some ((out++beB k n,()),(),()):=by
 refine Eq.trans (Ak (I:=fun x=>x.1=Aw n∧(-1:Int)≤x.2.2.1∧x.2.2.1≤(31:Int)∧(x.2.1.length:Int)+x.2.2.1≤(131:Int)) (m:=fun x=>(x.2.2.1+1).toNat) (g:=fun x=>some ((x.2.1++beB (x.2.2.1+1).toNat n,()),(),())) ?_
  ⟨rfl,by simp only;omega,by simp only;omega,by simp only;omega⟩ (by simp only[Av];omega)) ?_
 ·rintro⟨l,o,i,_⟩ again ⟨h1,h2,h3,h4⟩ hag
  simp only at h1 h2 h3 h4 hag ⊢
  subst h1
  simp only[Aa7,Am,Ad,Ao,ge_iff_le,B8]
  by_cases hi:0≤i
  ·obtain⟨j,rfl⟩:=Int.eq_ofNat_of_zero_le hi
   rw[if_pos hi,Anq hi,Jg hi,Ar (n:=(j:Int) / 8) (by omega) (by omega),Ar (n:=8*((j:Int) % 8)) (by omega) (by omega),if_pos (by omega),if_pos (by omega),Di (by omega),Ar (by omega) (by omega)]
   rw[show ((j:Int) / 8).toNat=j / 8 by omega,show (8*((j:Int) % 8)).toNat=8*(j % 8) by omega,Cae hn (by omega)]
   rw[hag _ ⟨rfl,by simp only;omega,by simp only;omega,by simp only[List.length_append,List.length_singleton];omega⟩ (by simp only;omega)]
   simp only
   rw[show ((j:Int)-1+1).toNat=j by omega,show ((j:Int)+1).toNat=j+1 by omega,beB];simp
  ·have:i = -1:=by omega
   subst this
   simp[beB]
 ·simp only
  rw[show ((k:Int)-1+1).toNat=k by omega]
def enc(n:Nat):List Int:=((Al4 n:Nat):Int)::beB (Al4 n) n
theorem Aqe{n:Nat}:(enc n).length=1+Al4 n:=by simp[enc,Beo];omega
theorem Bs7{n:Nat}(hn:n<115792089237316195423570985008687907853269984665640564039457584007913129639936):L7 (Aw n,())=some ((enc n,()),(),()):=by
 unfold L7 Ar4
 have h1:=Bqh hn
 have h2:=Adu hn
 have h3:((Ks n:Nat):Int)+7=((Ks n+7:Nat):Int):=by omega
 rw[Ces hn]
 simp only[Aa,Am]
 rw[Ar (n:=((Ks n:Nat):Int)+7) (by omega) (by omega),Anq (by omega),Ar (n:=(((Ks n:Nat):Int)+7) / 8) (by omega) (by omega),Ar (by omega) (by omega),Cnw (by omega) (by omega)]
 rw[show (((Ks n:Nat):Int)+7) / 8=((Al4 n:Nat):Int) by unfold Al4;omega]
 exact Byi hn h2 (by simp)
theorem Ati{b:List Int}(hb:b.length≤1000000000){n:Nat}(hn:n<115792089237316195423570985008687907853269984665640564039457584007913129639936) :
  Fw (b,Aw n,())=some ((b++enc n,()),(),(),()):=by
 unfold Fw Zr
 have h2:=Adu hn
 rw[Bs7 hn]
 simp only[Aa]
 rw[At6 (by simp[Aqe];omega) (by simp)]
 simp[Aa]
theorem Blu{b:List Int}(hb:b.length≤1000000000){n:Int}(h0:0≤n)(h1:n≤18446744073709551615) :
  J8 (b,n,())=some ((b++enc n.toNat,()),(),(),()):=by
 unfold J8 Aat
 rw[Ajh h0 h1]
 simp only[Aa]
 rw[Ati hb (by omega)]
 simp[Aa]
def Dy(b:List Int):Prop:=∀ x∈b,0≤x∧x≤255
theorem Dy.drop{b:List Int}(h:Dy b)(i:Nat):Dy (b.drop i):=fun x hx=>h x (List.mem_of_mem_drop hx)
theorem Dy.take{b:List Int}(h:Dy b)(i:Nat):Dy (b.take i):=fun x hx=>h x (List.mem_of_mem_take hx)
theorem Dy.at{b:List Int}(h:Dy b)(i:Nat):0≤b.getD i 0∧b.getD i 0≤255:=Ch4 (p:=fun x=>0≤x∧x≤255) h (by omega) i
theorem Dy.append{a b:List Int}(ha:Dy a)(hb:Dy b):Dy (a++b):=fun x hx=>by
 rcases List.mem_append.1 hx with h|h
 ·exact ha x h
 ·exact hb x h
theorem Aim(n m:Nat):eqD (.arr 4 (.int .u64)) (Aw n) (Aw m)=decide (n=m):=by
 rw[Bool.eq_iff_iff,Aco];exact Bfa.trans (by simp)
theorem Cam(s:Bool)(n:Nat):F8 ((s,Aw n,()),())=some ((!s||!decide (n=0),()),(),()):=by
 unfold F8 Afa
 simp only[Aq]
 rw[← Anh,Aim]
 cases s<;>rfl
def Bxu(s:Bool)(n:Nat):List Int:=if s=true∧n=0 then [] else (if s then 1 else 0)::enc n
theorem Bli{b:List Int}(hb:b.length≤1000000000){s:Bool}{n:Nat}(hn:n<115792089237316195423570985008687907853269984665640564039457584007913129639936) :
  Kc (b,(s,Aw n,()),())=some ((b++Bxu s n,()),(),(),()):=by
 unfold Kc Abb Bxu
 have h2:=Adu hn
 rw[Cam]
 simp only[Aa,Aq]
 rw[Bs7 hn]
 simp only[Aa]
 rw[At6 (by simp[Aqe];omega) (by simp),At6 (by simp[Aqe];omega) (by simp),Ckd (by omega)]
 simp only[Aa]
 cases s
 ·simp[Au,Bp]
 ·by_cases h0:n=0
  ·simp[h0,Bp]
  ·simp[h0,Au]
theorem Bwl{x n:Int}(h0 : -9223372036854775808≤x)(h1:x≤9223372036854775807)(h2:1≤n)(h3:n≤9223372036854775807) :
  M6 (x,n,())=some ((((x % 18446744073709551616) % n,()),(),(),())):=by
 unfold M6 Au9
 simp only[Am,Ad]
 rw[H4 (n:=n) (by omega) (by omega),if_pos (by omega),IntKind.wrap_u64,Jg (by omega),Ar]
 ·have:=Int.emod_nonneg (x % 18446744073709551616) (b:=n) (by omega);omega
 ·have:=Int.emod_lt_of_pos (x % 18446744073709551616) (b:=n) (by omega);omega
theorem Bno{x y c:Int}(hc:c≤1):Ex (x,y,c,())=some (((x+y+c) % 18446744073709551616,(x+y+c) / 18446744073709551616,()),(),(),(),()):=by
 unfold Ex Af5 Ckx
 simp only
 rw[if_pos hc]
 rfl
theorem Cax{x y c:Int}(hc:c≤1):Aa1 (x,y,c,())=some (((x-y-c) % 18446744073709551616,(if x<y+c then 1 else 0),()),(),(),(),()):=by
 unfold Aa1 Arb Cpz
 simp only
 rw[if_pos hc]
 rfl
def lb(n i:Nat):Nat:=n / 18446744073709551616 ^ i % 18446744073709551616
theorem Alb{n q:Nat}(hn:n<115792089237316195423570985008687907853269984665640564039457584007913129639936)(hq:q<4):List.getD (Aw n) q 0=((lb n q:Nat):Int):=by
 unfold Aw lb
 match q,hq with
 | 0,_=>simp
 | 1,_=>simp
 | 2,_=>simp only[List.getD_cons_succ,List.getD_cons_zero,Nat.reducePow]
 | 3,_ =>
  simp only[List.getD_cons_succ,List.getD_cons_zero,Nat.reducePow]
  omega
def Ad1(k i n:Nat):List Int:=((List.range i).map fun j=>((lb n j:Nat):Int))++List.replicate (k-i) 0
theorem Bcv(k n:Nat):Ad1 k 0 n=List.replicate k 0:=by simp[Ad1]
theorem Az9{k i n:Nat}(h:i<k):List.set (Ad1 k i n) i ((lb n i:Nat):Int)=Ad1 k (i+1) n:=by
 unfold Ad1
 rw[List.set_append,if_neg (by simp),List.length_map,List.length_range,Nat.sub_self,show k-i=(k-(i+1))+1 by omega,List.replicate_succ,List.set_cons_zero,List.range_succ]
 simp
theorem Bsx{n:Nat}(hn:n<115792089237316195423570985008687907853269984665640564039457584007913129639936):Ad1 4 4 n=Aw n:=by
 refine Aon (d:=0) (by simp[Ad1,Aw]) fun j hj=>?_
 have hj4:j<4:=by simpa [Ad1] using hj
 rw[Alb hn hj4]
 simp[Ad1,List.getD_eq_getElem?_getD,hj4]
theorem An3(n i:Nat):n / 18446744073709551616 ^ (i+1)=n / 18446744073709551616 ^ i / 18446744073709551616:=by rw[Nat.pow_succ,Nat.div_div_eq_div_mul]
theorem Cj1:(18446744073709551616:Nat) ^ 4=115792089237316195423570985008687907853269984665640564039457584007913129639936:=by decide
theorem Bov{a b c i:Nat}(hc:c≤1)(h:(a+b) / 18446744073709551616 ^ i=a / 18446744073709551616 ^ i+b / 18446744073709551616 ^ i+c) :
  (lb a i+lb b i+c) % 18446744073709551616=lb (a+b) i∧(lb a i+lb b i+c) / 18446744073709551616≤1 ∧
   (a+b) / 18446744073709551616 ^ (i+1)=a / 18446744073709551616 ^ (i+1)+b / 18446744073709551616 ^ (i+1)+(lb a i+lb b i+c) / 18446744073709551616:=by
 unfold lb
 rw[An3,An3,An3,h]
 generalize a / 18446744073709551616 ^ i=x
 generalize b / 18446744073709551616 ^ i=y
 refine⟨by omega,by omega,by omega⟩
theorem Aue{x y c:Nat}:(((x:Int)+(y:Int)+(c:Int)) % 18446744073709551616=(((x+y+c) % 18446744073709551616:Nat):Int))∧(((x:Int)+(y:Int)+(c:Int)) / 18446744073709551616=(((x+y+c) / 18446744073709551616:Nat):Int)):=by omega
theorem Bl1{a b:Nat}(ha:a<115792089237316195423570985008687907853269984665640564039457584007913129639936)(hb:b<115792089237316195423570985008687907853269984665640564039457584007913129639936) :
  Fy (Aw a,Aw b,())=some ((if a+b<115792089237316195423570985008687907853269984665640564039457584007913129639936 then (Aw (a+b),(0:Int),()) else ([(0:Int),0,0,0],(4:Int),())),(),(),()):=by
 unfold Fy Aiv
 refine Ak (I:=fun x=>∃ i c:Nat,i≤4∧c≤1∧(a+b) / 18446744073709551616 ^ i=a / 18446744073709551616 ^ i+b / 18446744073709551616 ^ i+c ∧
   x=(Aw a,Aw b,[(0:Int),0,0,0],Ad1 4 i (a+b),(c:Int),(i:Int),()))
  (m:=fun x=>((4:Int)-x.2.2.2.2.2.1).toNat) (g:=fun _=>some ((if a+b<115792089237316195423570985008687907853269984665640564039457584007913129639936 then (Aw (a+b),(0:Int),()) else ([(0:Int),0,0,0],(4:Int),())),(),(),())) ?_
  ⟨0,0,by omega,by omega,by simp,by rw[Bcv];rfl⟩ (by rw[Av];simp only;omega)
 rintro x again ⟨i,c,hi,hc,hd,rfl⟩ hag
 simp only at hag ⊢
 unfold Alk
 simp only[Ad,Ao,Aq]
 by_cases h1:(i:Int)<4
 ·obtain⟨s1,s2,s3⟩:=Bov hc hd
  rw[if_pos h1,if_pos (by omega),if_pos (by omega),Int.toNat_natCast,Alb ha (by omega),Alb hb (by omega),Bno (by omega)]
  simp only[Aa]
  rw[if_pos (by omega),Aue.1,Aue.2,s1,Az9 (by omega),Ar (by omega) (by omega)]
  exact hag _ ⟨i+1,_,by omega,s2,s3,by rw[Int.natCast_add];rfl⟩ (by simp only;omega)
 ·have hi4:i=4:=by omega
  subst hi4
  rw[Cj1] at hd
  rw[if_neg h1]
  by_cases hs:a+b<115792089237316195423570985008687907853269984665640564039457584007913129639936
  ·rw[if_pos hs,if_pos (by omega),Bsx hs]
  ·rw[if_neg hs,if_neg (by omega)]
theorem Cdz{a b:Nat}(ha:a<115792089237316195423570985008687907853269984665640564039457584007913129639936)(hb:b<115792089237316195423570985008687907853269984665640564039457584007913129639936) :
  X5 (Aw a,Aw b,())=some ((Ad1 5 5 (a+b),()),(),(),()):=by
 unfold X5 Amt
 refine Ak (I:=fun x=>∃ i c:Nat,i≤4∧c≤1∧(a+b) / 18446744073709551616 ^ i=a / 18446744073709551616 ^ i+b / 18446744073709551616 ^ i+c ∧
   x=(Aw a,Aw b,[(0:Int),0,0,0,0],Ad1 5 i (a+b),(c:Int),(i:Int),()))
  (m:=fun x=>((4:Int)-x.2.2.2.2.2.1).toNat) (g:=fun _=>some ((Ad1 5 5 (a+b),()),(),(),())) ?_
  ⟨0,0,by omega,by omega,by simp,by rw[Bcv];rfl⟩ (by rw[Av];simp only;omega)
 rintro x again ⟨i,c,hi,hc,hd,rfl⟩ hag
 simp only at hag ⊢
 unfold Aod
 simp only[Ad,Ao,Aq]
 by_cases h1:(i:Int)<4
 ·obtain⟨s1,s2,s3⟩:=Bov hc hd
  rw[if_pos h1,if_pos (by omega),if_pos (by omega),Int.toNat_natCast,Alb ha (by omega),Alb hb (by omega),Bno (by omega)]
  simp only[Aa]
  rw[if_pos (by omega),Aue.1,Aue.2,s1,Az9 (by omega),Ar (by omega) (by omega)]
  exact hag _ ⟨i+1,_,by omega,s2,s3,by rw[Int.natCast_add];rfl⟩ (by simp only;omega)
 ·have hi4:i=4:=by omega
  subst hi4
  rw[if_neg h1]
  have e:c=lb (a+b) 4:=by
   unfold lb
   rw[hd,Cj1]
   omega
  rw[e,Az9 (by omega)]
theorem Cct{x y:Nat}(hx:x<231584178474632390847141970017375815706539969331281128078915168015826259279872)(hy:y<231584178474632390847141970017375815706539969331281128078915168015826259279872):Ad1 5 5 x=Ad1 5 5 y↔x=y:=by
 constructor
 ·intro h
  unfold Ad1 lb at h
  simp only[List.range_succ,List.range_zero,List.nil_append,List.map_append,List.map_cons,List.map_nil,List.append_assoc,List.cons_append,Nat.pow_zero,Nat.pow_one,Nat.reducePow,Nat.div_one,List.cons.injEq,Nat.sub_self,List.replicate_zero,and_true] at h
  omega
 ·intro h;rw[h]
theorem Cmi{a b:Nat}(ha:a<115792089237316195423570985008687907853269984665640564039457584007913129639936)(hb:b≤a) :
  Vb (Aw a,Aw b,())=some ((Aw (a-b),(0:Int),()),(),(),()):=by
 obtain⟨d,rfl⟩:=Nat.exists_eq_add_of_le hb
 rw[Nat.add_sub_cancel_left]
 unfold Vb Asx
 refine Ak (I:=fun x=>∃ i c:Nat,i≤4∧c≤1∧(b+d) / 18446744073709551616 ^ i=b / 18446744073709551616 ^ i+d / 18446744073709551616 ^ i+c ∧
   x=(Aw (b+d),Aw b,[(0:Int),0,0,0],Ad1 4 i d,(c:Int),(i:Int),()))
  (m:=fun x=>((4:Int)-x.2.2.2.2.2.1).toNat) (g:=fun _=>some ((Aw d,(0:Int),()),(),(),())) ?_
  ⟨0,0,by omega,by omega,by simp,by rw[Bcv];rfl⟩ (by rw[Av];simp only;omega)
 rintro x again ⟨i,c,hi,hc,hd,rfl⟩ hag
 simp only at hag ⊢
 unfold Aa4
 simp only[Ad,Ao,Aq]
 by_cases h1:(i:Int)<4
 ·have key:(((lb (b+d) i:Nat):Int)-((lb b i:Nat):Int)-(c:Int)) % 18446744073709551616=((lb d i:Nat):Int) ∧
    ∃ c':Nat,c'≤1∧(if ((lb (b+d) i:Nat):Int)<((lb b i:Nat):Int)+(c:Int) then (1:Int) else 0)=(c':Int)∧(b+d) / 18446744073709551616 ^ (i+1)=b / 18446744073709551616 ^ (i+1)+d / 18446744073709551616 ^ (i+1)+c':=by
   unfold lb
   rw[An3,An3,An3,hd]
   generalize b / 18446744073709551616 ^ i=x
   generalize d / 18446744073709551616 ^ i=y
   refine⟨by omega,?_⟩
   by_cases hlt:(((x+y+c) % 18446744073709551616:Nat):Int)<((x % 18446744073709551616:Nat):Int)+(c:Int)
   ·exact⟨1,by omega,by rw[if_pos hlt];rfl,by omega⟩
   ·exact⟨0,by omega,by rw[if_neg hlt];rfl,by omega⟩
  obtain⟨s1,c',s2,s4,s3⟩:=key
  rw[if_pos h1,if_pos (by omega),if_pos (by omega),Int.toNat_natCast,Alb ha (by omega),Alb (by omega) (by omega),Cax (by omega)]
  simp only[Aa]
  rw[if_pos (by omega),s1,s4,Az9 (by omega),Ar (by omega) (by omega)]
  exact hag _ ⟨i+1,c',by omega,s2,s3,by rw[Int.natCast_add];rfl⟩ (by simp only;omega)
 ·have hi4:i=4:=by omega
  subst hi4
  rw[Cj1] at hd
  rw[if_neg h1,if_pos (by omega),Bsx (by omega)]
theorem Cg8{a b:Nat}(ha:a<b)(hb:b<115792089237316195423570985008687907853269984665640564039457584007913129639936) :
  Vb (Aw a,Aw b,())=some (([(0:Int),0,0,0],(4:Int),()),(),(),()):=by
 have ha2:a<115792089237316195423570985008687907853269984665640564039457584007913129639936:=by omega
 unfold Vb Asx
 -- the borrow: what the low Ad1 lack
 refine Ak (I:=fun x=>∃ (i c:Nat) (s:List Int),i≤4∧s.length=4∧c≤1∧(c=1↔a % 18446744073709551616 ^ i<b % 18446744073709551616 ^ i) ∧
   x=(Aw a,Aw b,[(0:Int),0,0,0],s,(c:Int),(i:Int),()))
  (m:=fun x=>((4:Int)-x.2.2.2.2.2.1).toNat) (g:=fun _=>some (([(0:Int),0,0,0],(4:Int),()),(),(),())) ?_
  ⟨0,0,[0,0,0,0],by omega,rfl,by omega,by simp[Nat.mod_one],rfl⟩ (by rw[Av];simp only;omega)
 rintro x again ⟨i,c,s,hi,hs,hc,hd,rfl⟩ hag
 simp only at hag ⊢
 unfold Aa4
 simp only[Ad,Ao,Aq]
 by_cases h1:(i:Int)<4
 ·have ma:a % 18446744073709551616 ^ (i+1)=a % 18446744073709551616 ^ i+18446744073709551616 ^ i*lb a i:=by rw[Nat.pow_succ,Nat.mod_mul];rfl
  have mb:b % 18446744073709551616 ^ (i+1)=b % 18446744073709551616 ^ i+18446744073709551616 ^ i*lb b i:=by rw[Nat.pow_succ,Nat.mod_mul];rfl
  have p0:0<18446744073709551616 ^ i:=Nat.pow_pos (by omega)
  have ra:=Nat.mod_lt a p0;have rb:=Nat.mod_lt b p0
  have hcmp:(((lb a i:Nat):Int)<((lb b i:Nat):Int)+(c:Int))↔a % 18446744073709551616 ^ (i+1)<b % 18446744073709551616 ^ (i+1):=by
   rw[ma,mb]
   generalize a % 18446744073709551616 ^ i=x at *
   generalize b % 18446744073709551616 ^ i=y at *
   generalize 18446744073709551616 ^ i=p at *
   generalize lb a i=u at *
   generalize lb b i=v at *
   rcases Nat.lt_trichotomy u v with h|h|h
   ·have:p*(u+1)≤p*v:=Nat.mul_le_mul_left p h
    rw[Nat.mul_add,Nat.mul_one] at this
    constructor
    ·intro _;omega
    ·intro _;omega
   ·subst h
    constructor
    ·intro h;have:c=1:=by omega
     have:=hd.1 this;omega
    ·intro h;have:=hd.2 (by omega);omega
   ·have:p*(v+1)≤p*u:=Nat.mul_le_mul_left p h
    rw[Nat.mul_add,Nat.mul_one] at this
    constructor
    ·intro h';omega
    ·intro h';omega
  rw[if_pos h1,if_pos (by omega),if_pos (by omega),Int.toNat_natCast,Alb ha2 (by omega),Alb hb (by omega),Cax (by omega)]
  simp only[Aa]
  rw[if_pos (by omega),Ar (by omega) (by omega)]
  by_cases hlt:((lb a i:Nat):Int)<((lb b i:Nat):Int)+(c:Int)
  ·rw[if_pos hlt]
   exact hag _ ⟨i+1,1,(List.set s i ((((lb a i:Nat):Int)-((lb b i:Nat):Int)-(c:Int)) % 18446744073709551616)),by omega,by rw[List.length_set];exact hs,by omega,⟨fun _=>hcmp.1 hlt,fun _=>rfl⟩,by rw[Int.natCast_add];rfl⟩ (by simp only;omega)
  ·rw[if_neg hlt]
   exact hag _ ⟨i+1,0,(List.set s i ((((lb a i:Nat):Int)-((lb b i:Nat):Int)-(c:Int)) % 18446744073709551616)),by omega,by rw[List.length_set];exact hs,by omega,⟨fun h=>by omega,fun h=>absurd (hcmp.2 h) hlt⟩,by rw[Int.natCast_add];rfl⟩ (by simp only;omega)
 ·have hi4:i=4:=by omega
  subst hi4
  rw[Cj1,Nat.mod_eq_of_lt ha2,Nat.mod_eq_of_lt hb] at hd
  have:=hd.2 ha
  rw[if_neg h1,if_neg (by omega)]
def dg(n:Nat):List Int:=if h:n=0 then [] else ((n % 65536:Nat):Int)::dg (n / 65536)
termination_by n
decreasing_by omega
theorem Awd:dg 0=[]:=by rw[dg];rfl
theorem Cj5{n:Nat}(h:n≠0):dg n=((n % 65536:Nat):Int)::dg (n / 65536):=by rw[dg,dif_neg h]
theorem Bft(n i:Nat):n / 65536 ^ (i+1)=n / 65536 / 65536 ^ i:=by rw[Nat.pow_succ,Nat.mul_comm,Nat.div_div_eq_div_mul]
theorem H2(n i:Nat):n / 65536 ^ (i+1)=n / 65536 ^ i / 65536:=by rw[Nat.pow_succ,Nat.div_div_eq_div_mul]
theorem Aar:∀ (i n:Nat),List.getD (dg n) i 0=((n / 65536 ^ i % 65536:Nat):Int)
 | i,n=>by
  by_cases h:n=0
  ·subst h;rw[Awd];simp
  ·rw[Cj5 h]
   cases i with
   | zero=>simp
   | succ i=>rw[List.getD_cons_succ,Aar i,Bft]
theorem Ah4:∀ (i n:Nat),i<(dg n).length↔0<n / 65536 ^ i
 | i,n=>by
  by_cases h:n=0
  ·subst h;rw[Awd];simp
  ·rw[Cj5 h]
   cases i with
   | zero=>simp;omega
   | succ i=>rw[List.length_cons,Nat.add_lt_add_iff_right,Ah4 i,Bft]
def lo(i n:Nat):List Int:=(List.range i).map fun k=>((n / 65536 ^ k % 65536:Nat):Int)
theorem Aav(i n:Nat):(lo i n).length=i:=by simp[lo]
theorem Bwy(i n:Nat):lo (i+1) n=lo i n++[((n / 65536 ^ i % 65536:Nat):Int)]:=by simp[lo,List.range_succ]
theorem Bme{i n k:Nat}(h:k<i):List.getD (lo i n) k 0=((n / 65536 ^ k % 65536:Nat):Int):=by simp[lo,List.getD_eq_getElem?_getD,h]
theorem Cjm{i n:Nat}(h1:n / 65536 ^ i=0)(h2:i=0∨0<n / 65536 ^ (i-1)):lo i n=dg n:=by
 have hl:(dg n).length=i:=by
  have a:=Ah4 i n
  rw[h1] at a
  rcases h2 with rfl|h2
  ·omega
  ·have b:=(Ah4 (i-1) n).2 h2
   omega
 refine Aon (d:=0) (by rw[Aav,hl]) fun k hk=>?_
 rw[Aav] at hk
 rw[Bme hk,Aar]
theorem Bs8{n i j:Nat}(h:n / 65536 ^ i=0)(hij:i≤j):n / 65536 ^ j=0:=by
 obtain⟨d,rfl⟩:=Nat.exists_eq_add_of_le hij
 rw[Nat.pow_add,← Nat.div_div_eq_div_mul,h,Nat.zero_div]
theorem D0{n k:Nat}:(dg n).length≤k↔n / 65536 ^ k=0:=by
 have:=Ah4 k n
 generalize n / 65536 ^ k=q at *
 constructor
 ·intro h;omega
 ·intro h;omega
theorem Aqg{k n:Nat}(hk:k≤1000000)(h:n / 65536 ^ k=0):Ep (lo k n,())=some ((dg n,()),(),()):=by
 unfold Ep Aq2
 rw[Aav]
 refine Ak (I:=fun x=>∃ j:Nat,j≤k∧n / 65536 ^ j=0∧x=(lo k n,(j:Int),())) (m:=fun x=>x.2.1.toNat) (g:=fun _=>some ((dg n,()),(),())) ?_ ⟨k,Nat.le_refl _,h,rfl⟩ (by rw[Av];simp only;omega)
 rintro x again ⟨j,hj,h0,rfl⟩ hag
 simp only at hag ⊢
 unfold Aqb
 have htake:List.take (Int.toNat (j:Int)-0) (List.drop 0 (lo k n))=lo j n:=by
  rw[Int.toNat_natCast,Nat.sub_zero,List.drop_zero]
  refine Aon (d:=0) (by rw[List.length_take,Aav,Aav];omega) fun i hi=>?_
  rw[List.length_take,Aav] at hi
  rw[Bme (by omega),List.getD_eq_getElem?_getD,List.getElem?_take,if_pos (by omega),← List.getD_eq_getElem?_getD,Bme (by omega)]
 simp only[Am,Aga,Ad,Ao,Aav]
 by_cases h1:(j:Int)>0
 ·rw[if_pos h1,Ar (by omega) (by omega),if_pos (by omega),show ((j:Int)-1).toNat=j-1 by omega,Bme (by omega)]
  by_cases h2:((n / 65536 ^ (j-1) % 65536:Nat):Int)=0
  ·rw[if_pos h2]
   have h3:n / 65536 ^ (j-1)=0:=by
    have e:=H2 n (j-1)
    rw[show j-1+1=j by omega,h0] at e
    omega
   exact hag _ ⟨j-1,by omega,h3,by rw[show ((j-1:Nat):Int)=(j:Int)-1 by omega]⟩ (by simp only;omega)
  ·rw[if_neg h2,if_pos (by omega),if_pos (by omega),htake,Cjm h0 (.inr (Nat.pos_of_ne_zero fun h=>h2 (by rw[h];rfl)))]
 ·have:j=0:=by omega
  subst this
  rw[if_neg h1,if_pos (by omega),if_pos (by omega),htake,Cjm h0 (.inl rfl)]
theorem Amw{k n:Nat}(h:n / 65536 ^ k=0):List.take ((dg n).length-0) (List.drop 0 (lo k n))=dg n:=by
 have hl:=D0.2 h
 rw[Nat.sub_zero,List.drop_zero]
 refine Aon (d:=0) (by rw[List.length_take,Aav];omega) fun i hi=>?_
 rw[List.length_take,Aav] at hi
 rw[List.getD_eq_getElem?_getD,List.getElem?_take,if_pos (by omega),← List.getD_eq_getElem?_getD,Bme (by omega),Aar]
theorem An8{n:Nat}(h:n<18446744073709551616):(((BitVec.toNat ((BitVec.ofInt 64 (n:Int)) &&& (BitVec.ofInt 64 65535)):Nat):Int))=((n % 65536:Nat):Int):=by
 rw[BitVec.toNat_and,show BitVec.toNat (BitVec.ofInt 64 65535)=2 ^ 16-1 from rfl,Nat.and_two_pow_sub_one_eq_mod,BitVec.ofInt_natCast,BitVec.toNat_ofNat,show n % 2 ^ 64=n from Nat.mod_eq_of_lt (by omega)]
theorem Cjv:(Ty.int IntKind.i64).size=1:=rfl
theorem Am9{α:Type}{n:Nat}(h:n≤1000000000)(a b:Option α):Ah (A9 n (.int .i64)) a b=a:=by
 rw[Ah6,Cjv,if_pos ⟨by omega,by omega⟩]
theorem Cb{A B:Nat}(hA:(dg A).length≤1000)(hB:(dg B).length≤1000):A7 (dg A,dg B,())=some ((dg (A+B),()),(),(),()):=by
 unfold A7 Au0
 have hm:(dg (A+B)).length≤1002:=by
  refine D0.2 ?_
  have h1:=Bs8 (D0.1 hA) (show 1000≤1001 by omega)
  have h2:=Bs8 (D0.1 hB) (show 1000≤1001 by omega)
  generalize hK:(1001:Nat)=K at h1 h2
  rw[show (1002:Nat)=K+1 by omega,Nat.pow_succ]
  have p0:0<65536 ^ K:=Nat.pow_pos (by omega)
  have a1:=(Nat.div_eq_zero_iff_lt p0).1 h1
  have a2:=(Nat.div_eq_zero_iff_lt p0).1 h2
  exact Nat.div_eq_of_lt (by omega)
 refine Ak (I:=fun x=>∃ (i c:Nat),c≤1∧(A+B) / 65536 ^ i=A / 65536 ^ i+B / 65536 ^ i+c∧(i=0∨0<(A+B) / 65536 ^ (i-1))∧x=(dg A,dg B,lo i (A+B),(c:Int),(i:Int),()))
  (m:=fun x=>((1003:Int)-x.2.2.2.2.1).toNat) (g:=fun _=>some ((dg (A+B),()),(),(),())) ?_ ⟨0,0,by omega,by simp,.inl rfl,rfl⟩ (by rw[Av];simp only;omega)
 rintro x again ⟨i,c,hc,hd,hz,rfl⟩ hag
 have hi:i≤1002:=by
  rcases hz with rfl|hz
  ·omega
  ·have:=(Ah4 _ _).2 hz;omega
 simp only at hag ⊢
 have la:=Ah4 i A;have lb:=Ah4 i B
 have ga:=Aar i A;have gb:=Aar i B
 have sa:=H2 A i;have sb:=H2 B i;have ss:=H2 (A+B) i
 have hls:=Bwy i (A+B)
 have hpos:(0<A / 65536 ^ i∨0<B / 65536 ^ i∨0<c)→0<(A+B) / 65536 ^ i:=fun h=>by
  rw[hd]
  generalize A / 65536 ^ i=q1 at *
  generalize B / 65536 ^ i=q2 at *
  omega
 have hnx:(A+B) / 65536 ^ (i+1)=A / 65536 ^ (i+1)+B / 65536 ^ (i+1)+(c+A / 65536 ^ i % 65536+B / 65536 ^ i % 65536) / 65536:=by
  rw[sa,sb,ss,hd]
  generalize A / 65536 ^ i=q1 at *
  generalize B / 65536 ^ i=q2 at *
  omega
 have step:(0<A / 65536 ^ i∨0<B / 65536 ^ i∨0<c)→again (dg A,dg B,lo (i+1) (A+B),(((c+A / 65536 ^ i % 65536+B / 65536 ^ i % 65536) / 65536:Nat):Int),(i:Int)+1,())=some ((dg (A+B),()),(),(),()):=fun h =>
  hag _ ⟨i+1,(c+A / 65536 ^ i % 65536+B / 65536 ^ i % 65536) / 65536,by omega,hnx,.inr (by rw[Nat.add_sub_cancel];exact hpos h),by rw[Int.natCast_add];rfl⟩ (by simp only;omega)
 have fin:A / 65536 ^ i=0→B / 65536 ^ i=0→c=0→lo i (A+B)=dg (A+B):=fun h1 h2 h3=>Cjm (by omega) hz
 clear hag hm hA hB
 unfold Auc
 simp only[Am,Ad,Ao,B8,Int.toNat_natCast,Aav,ga,gb]
 generalize A / 65536 ^ i=a1 at *
 generalize B / 65536 ^ i=b1 at *
 generalize (A+B) / 65536 ^ i=s1 at *
 generalize hla:(dg A).length=nla at *
 generalize hlb:(dg B).length=nlb at *
 have hroom:∀ {α:Type} (a b:Option α),Ah (A9 (i+1) (.int .i64)) a b=a:=fun a b=>Am9 (by omega) a b
 simp only[hroom]
 have hv6:IntKind.wrap .i64 ((c:Int)+((a1 % 65536:Nat):Int))=((c+a1 % 65536:Nat):Int):=by rw[Ar (by omega) (by omega)];omega
 have hv7:IntKind.wrap .i64 ((c:Int)+((b1 % 65536:Nat):Int))=((c+b1 % 65536:Nat):Int):=by rw[Ar (by omega) (by omega)];omega
 have hv8:IntKind.wrap .i64 (((c+a1 % 65536:Nat):Int)+((b1 % 65536:Nat):Int))=((c+a1 % 65536+b1 % 65536:Nat):Int):=by rw[Ar (by omega) (by omega)];omega
 have hwi:IntKind.wrap .i64 ((i:Int)+1)=(i:Int)+1:=Ar (by omega) (by omega)
 have hfd:∀ k:Nat,Int.fdiv ((k:Nat):Int) 65536=((k / 65536:Nat):Int):=fun k=>by rw[Int.fdiv_eq_ediv_of_nonneg _ (by omega)];omega
 have hwm:∀ k:Nat,IntKind.wrap .i64 (((k % 65536:Nat):Int))=((k % 65536:Nat):Int):=fun k=>Ar (by omega) (by omega)
 simp only[hv6,hv7,hv8,hwi]
 rw[An8 (n:=c+a1 % 65536+b1 % 65536) (by omega),An8 (n:=c+a1 % 65536) (by omega),An8 (n:=c+b1 % 65536) (by omega),An8 (n:=c) (by omega)]
 simp only[hfd,hwm]
 rw[hls] at step
 have ed:s1 % 65536=(c+a1 % 65536+b1 % 65536) % 65536:=by omega
 rw[ed] at step
 by_cases ca:(i:Int)<(nla:Int)
 ·have ia:(0:Int)≤(i:Int)∧(i:Int)<(nla:Int):=by omega
  simp only[if_pos ca,if_pos ia]
  by_cases cb:(i:Int)<(nlb:Int)
  ·have ib:(0:Int)≤(i:Int)∧(i:Int)<(nlb:Int):=by omega
   simp only[if_pos cb,if_pos ib]
   exact step (by omega)
  ·simp only[if_neg cb]
   have:b1=0:=by omega
   subst this
   have:=step (by omega)
   simp only[Nat.zero_mod,Nat.add_zero] at this
   exact this
 ·have ha0:a1=0:=by omega
  subst ha0
  simp only[if_neg ca]
  by_cases cb:(i:Int)<(nlb:Int)
  ·have ib:(0:Int)≤(i:Int)∧(i:Int)<(nlb:Int):=by omega
   simp only[if_pos cb,if_pos ib]
   have:=step (by omega)
   simp only[Nat.zero_mod,Nat.add_zero] at this
   exact this
  ·have hb0:b1=0:=by omega
   subst hb0
   simp only[if_neg cb]
   by_cases cc:(c:Int)>0
   ·simp only[if_pos cc]
    have:=step (by omega)
    simp only[Nat.zero_mod,Nat.add_zero] at this
    exact this
   ·rw[if_neg cc,fin rfl rfl (by omega)]
theorem At0{n q:Nat}(hn:n<115792089237316195423570985008687907853269984665640564039457584007913129639936)(hq:q<4):List.getD (Aw n) q 0=((n / 18446744073709551616 ^ q % 18446744073709551616:Nat):Int):=by
 unfold Aw
 match q,hq with
 | 0,_=>simp
 | 1,_=>simp
 | 2,_=>simp only[List.getD_cons_succ,List.getD_cons_zero,Nat.reducePow]
 | 3,_ =>
  simp only[List.getD_cons_succ,List.getD_cons_zero,Nat.reducePow]
  omega
theorem Cqd(r:Nat):(65536:Nat) ^ r=2 ^ (16*r):=by rw[Nat.pow_mul]
theorem Cg9{n i:Nat}(hi:i<16):n / 18446744073709551616 ^ (i / 4) % 18446744073709551616 / 2 ^ (16*(i % 4)) % 65536=n / 65536 ^ i % 65536:=by
 have e:(65536:Nat) ^ i=18446744073709551616 ^ (i / 4)*2 ^ (16*(i % 4)):=by
  rw[show (18446744073709551616:Nat)=65536 ^ 4 from by decide,← Nat.pow_mul,← Cqd,← Nat.pow_add]
  congr 1
  omega
 rw[e,← Nat.div_div_eq_div_mul]
 generalize n / 18446744073709551616 ^ (i / 4)=Y
 have:i % 4=0∨i % 4=1∨i % 4=2∨i % 4=3:=by omega
 rcases this with h|h|h|h
 all_goals
  rw[h]
  simp only[Nat.reduceMul,Nat.reducePow]
  omega
theorem Bz{n:Nat}(hn:n<115792089237316195423570985008687907853269984665640564039457584007913129639936):Ai (Aw n,())=some ((dg n,()),(),()):=by
 unfold Ai T4
 have h16:n / 65536 ^ 16=0:=Nat.div_eq_of_lt (by rw[show (65536:Nat) ^ 16=115792089237316195423570985008687907853269984665640564039457584007913129639936 from by decide];exact hn)
 refine Ak (I:=fun x=>∃ i:Nat,i≤16∧x=(Aw n,lo i n++List.replicate (16-i) 0,(i:Int),())) (m:=fun x=>((16:Int)-x.2.2.1).toNat) (g:=fun _=>some ((dg n,()),(),())) ?_ ⟨0,by omega,rfl⟩ (by rw[Av];simp only;omega)
 rintro x again ⟨i,hi,rfl⟩ hag
 simp only at hag ⊢
 unfold Abu
 simp only[Am,Ad,Ao]
 by_cases h1:(i:Int)<16
 ·have hi16:i<16:=by omega
  have t1:Int.tmod (i:Int) 4=((i % 4:Nat):Int):=by rw[Jg (by omega)];omega
  have t2:Int.tdiv (i:Int) 4=((i / 4:Nat):Int):=by rw[Anq (by omega)];omega
  have t3:IntKind.wrap .i64 ((16:Int)*((i % 4:Nat):Int))=((16*(i % 4):Nat):Int):=by rw[Ar (by omega) (by omega)];omega
  have t4:IntKind.wrap .u64 (((16*(i % 4):Nat):Int))=((16*(i % 4):Nat):Int):=H4 (by omega) (by omega)
  have t5:IntKind.wrap .i64 (((i / 4:Nat):Int))=((i / 4:Nat):Int):=Ar (by omega) (by omega)
  have t6:IntKind.wrap .i64 ((i:Int)+1)=(i:Int)+1:=Ar (by omega) (by omega)
  simp only[t1,t2,t3,t4,t5,t6]
  rw[if_pos h1,if_pos (by omega),if_pos (by omega),if_pos (by rw[List.length_append,Aav,List.length_replicate];omega),Int.toNat_natCast,Int.toNat_natCast,Int.toNat_natCast,At0 hn (by omega),Nat.min_eq_left (by omega)]
  have hq:Int.fdiv ((n / 18446744073709551616 ^ (i / 4) % 18446744073709551616:Nat):Int) ((2:Int) ^ (16*(i % 4)))=((n / 18446744073709551616 ^ (i / 4) % 18446744073709551616 / 2 ^ (16*(i % 4)):Nat):Int):=by
   rw[Int.fdiv_eq_ediv_of_nonneg _ (Int.le_of_lt (Int.pow_pos (by omega)))]
   rw[Int.natCast_ediv,Int.natCast_pow]
   rfl
  rw[hq,An8 (by
   refine Nat.lt_of_le_of_lt (Nat.div_le_self _ _) ?_
   exact Nat.mod_lt _ (by omega)),Cg9 hi16]
  have hset:List.set (lo i n++List.replicate (16-i) 0) i ((n / 65536 ^ i % 65536:Nat):Int)=lo (i+1) n++List.replicate (16-(i+1)) 0:=by
   rw[List.set_append,if_neg (by rw[Aav];omega),Aav,Nat.sub_self,show 16-i=(16-(i+1))+1 by omega,List.replicate_succ,List.set_cons_zero,Bwy]
   simp
  have hw:IntKind.wrap .i64 (IntKind.wrap .u64 (((n / 65536 ^ i % 65536:Nat):Int)))=((n / 65536 ^ i % 65536:Nat):Int):=by
   have:=Nat.mod_lt (n / 65536 ^ i) (show 0<65536 by omega)
   rw[H4 (by omega) (by omega),Ar (by omega) (by omega)]
  rw[hw,hset]
  exact hag _ ⟨i+1,by omega,by rw[Int.natCast_add];rfl⟩ (by simp only;omega)
 ·have hi16:i=16:=by omega
  subst hi16
  rw[if_neg h1,Nat.sub_self,List.replicate_zero,List.append_nil,Aqg (by omega) h16,Aa]
  dsimp only
  rw[Amw h16]
theorem Nr{n:Nat}:(dg n).length≤16↔n<115792089237316195423570985008687907853269984665640564039457584007913129639936:=by
 rw[D0,show (65536:Nat) ^ 16=115792089237316195423570985008687907853269984665640564039457584007913129639936 from by decide]
 omega
theorem O3(n:Nat):Dx (dg n,())=some ((decide (n<115792089237316195423570985008687907853269984665640564039457584007913129639936),()),(),()):=by
 unfold Dx Ara
 simp only
 by_cases h:n<115792089237316195423570985008687907853269984665640564039457584007913129639936
 ·rw[decide_eq_true h,decide_eq_true (by have:=Nr.2 h;omega)]
 ·rw[decide_eq_false h,decide_eq_false (by
   intro h2
   exact h (Nr.1 (by omega)))]
theorem Cim{n i:Nat}(hi:i<16):List.set (Aw (n % 65536 ^ i)) (i / 4) ((((n % 65536 ^ i) / 18446744073709551616 ^ (i / 4) % 18446744073709551616+(n / 65536 ^ i % 65536)*2 ^ (16*(i % 4))) % 18446744073709551616:Nat):Int)=Aw (n % 65536 ^ (i+1)):=by
 have key:n % 65536 ^ (i+1)=n % 65536 ^ i+65536 ^ i*(n / 65536 ^ i % 65536):=by rw[Nat.pow_succ,Nat.mod_mul]
 rw[key]
 have hd:=Nat.mod_lt (n / 65536 ^ i) (show 0<65536 by omega)
 have hm:=Nat.mod_lt n (show 0<65536 ^ i from Nat.pow_pos (by omega))
 generalize n / 65536 ^ i % 65536=d at hd ⊢
 generalize n % 65536 ^ i=m at hm ⊢
 have hc:i=0∨i=1∨i=2∨i=3∨i=4∨i=5∨i=6∨i=7∨i=8∨i=9∨i=10∨i=11∨i=12∨i=13∨i=14∨i=15:=by omega
 unfold Aw
 rcases hc with rfl|rfl|rfl|rfl|rfl|rfl|rfl|rfl|rfl|rfl|rfl|rfl|rfl|rfl|rfl|rfl
 all_goals
  simp only[Nat.reduceDiv,Nat.reduceMod,Nat.reduceMul,Nat.reducePow,Nat.pow_zero,Nat.div_one,Nat.mul_one,List.set_cons_zero,List.set_cons_succ,List.cons.injEq,and_true] at hm ⊢
  refine⟨?_,?_,?_,?_⟩<;>omega
theorem Brl:Aw 0=[(0:Int),0,0,0]:=rfl
theorem Th{n:Nat}(hn:n<115792089237316195423570985008687907853269984665640564039457584007913129639936):Ay (dg n,())=some ((Aw n,()),(),()):=by
 unfold Ay Z7
 have hl:=Nr.2 hn
 have hend:n % 65536 ^ (dg n).length=n:=by
  have:=(D0 (n:=n) (k:=(dg n).length)).1 (Nat.le_refl _)
  exact Nat.mod_eq_of_lt ((Nat.div_eq_zero_iff_lt (Nat.pow_pos (by omega))).1 this)
 refine Ak (I:=fun x=>∃ i:Nat,i≤(dg n).length∧x=(dg n,[(0:Int),0,0,0],Aw (n % 65536 ^ i),(i:Int),())) (m:=fun x=>((17:Int)-x.2.2.2.1).toNat) (g:=fun _=>some ((Aw n,()),(),())) ?_
  ⟨0,by omega,by rw[Nat.pow_zero,Nat.mod_one,Brl];rfl⟩ (by rw[Av];simp only;omega)
 rintro x again ⟨i,hi,rfl⟩ hag
 simp only at hag ⊢
 unfold Agi
 simp only[Am,Ad,Ao]
 by_cases h1:(i:Int)<(((dg n).length:Nat):Int)
 ·have hi16:i<16:=by omega
  have t1:Int.tmod (i:Int) 4=((i % 4:Nat):Int):=by rw[Jg (by omega)];omega
  have t2:Int.tdiv (i:Int) 4=((i / 4:Nat):Int):=by rw[Anq (by omega)];omega
  have t3:IntKind.wrap .i64 ((16:Int)*((i % 4:Nat):Int))=((16*(i % 4):Nat):Int):=by rw[Ar (by omega) (by omega)];omega
  have t4:IntKind.wrap .u64 (((16*(i % 4):Nat):Int))=((16*(i % 4):Nat):Int):=H4 (by omega) (by omega)
  have t5:IntKind.wrap .i64 (((i / 4:Nat):Int))=((i / 4:Nat):Int):=Ar (by omega) (by omega)
  have t6:IntKind.wrap .i64 ((i:Int)+1)=(i:Int)+1:=Ar (by omega) (by omega)
  simp only[t1,t2,t3,t4,t5,t6]
  have hd:=Nat.mod_lt (n / 65536 ^ i) (show 0<65536 by omega)
  have hmn:n % 65536 ^ i<115792089237316195423570985008687907853269984665640564039457584007913129639936:=Nat.lt_of_le_of_lt (Nat.mod_le _ _) hn
  rw[if_pos h1,if_pos (by omega),if_pos (by omega),if_pos (by omega),if_pos (by omega),if_pos (by omega),Int.toNat_natCast,Int.toNat_natCast,Int.toNat_natCast,At0 hmn (by omega),Aar,Nat.min_eq_left (by omega)]
  have hw1:IntKind.wrap .u64 (((n / 65536 ^ i % 65536:Nat):Int))=((n / 65536 ^ i % 65536:Nat):Int):=H4 (by omega) (by omega)
  have hr:2 ^ (16*(i % 4))≤281474976710656:=by
   have:i % 4=0∨i % 4=1∨i % 4=2∨i % 4=3:=by omega
   rcases this with h|h|h|h<;>rw[h]<;>decide
  have hw2:IntKind.wrap .u64 (((n / 65536 ^ i % 65536:Nat):Int)*(2:Int) ^ (16*(i % 4)))=(((n / 65536 ^ i % 65536)*2 ^ (16*(i % 4)):Nat):Int):=by
   have h65:(n / 65536 ^ i % 65536)*2 ^ (16*(i % 4))≤65535*281474976710656:=Nat.mul_le_mul (by omega) hr
   have e:((n / 65536 ^ i % 65536:Nat):Int)*(2:Int) ^ (16*(i % 4))=(((n / 65536 ^ i % 65536)*2 ^ (16*(i % 4)):Nat):Int):=by
    rw[Int.natCast_mul,Int.natCast_pow];rfl
   rw[e,H4 (by omega) (by omega)]
  have hw3:∀ a b:Nat,IntKind.wrap .u64 (((a:Nat):Int)+((b:Nat):Int))=(((a+b) % 18446744073709551616:Nat):Int):=fun a b=>by rw[IntKind.wrap_u64];omega
  rw[hw1,hw2,hw3,Cim hi16]
  exact hag _ ⟨i+1,by omega,by rw[Int.natCast_add];rfl⟩ (by simp only;omega)
 ·have hie:i=(dg n).length:=by omega
  rw[if_neg h1,hie,hend]
theorem Yy(n:Nat):B3 (dg n,())=some ((if n<115792089237316195423570985008687907853269984665640564039457584007913129639936 then (Aw n,(0:Int),()) else ([(0:Int),0,0,0],(4:Int),())),(),()):=by
 unfold B3 Aeo
 rw[O3]
 simp only[Aa,Aq,Ad]
 by_cases h:n<115792089237316195423570985008687907853269984665640564039457584007913129639936
 ·rw[if_pos h,if_pos h,Th h]
  rfl
 ·rw[if_neg h,if_neg h]
theorem Az7{a b:Nat}(ha:a<115792089237316195423570985008687907853269984665640564039457584007913129639936)(hb:b<115792089237316195423570985008687907853269984665640564039457584007913129639936) :
  Ii (Aw a,Aw b,())=some ((if a+b<115792089237316195423570985008687907853269984665640564039457584007913129639936 then (Aw (a+b),(0:Int),()) else ([(0:Int),0,0,0],(4:Int),())),(),(),()):=by
 have la:=Nr.2 ha;have lb:=Nr.2 hb
 unfold Ii Ai4
 rw[Bz ha];simp only[Aa]
 rw[Bz hb];simp only[Aa]
 rw[Cb (by omega) (by omega)];simp only[Aa]
 rw[Yy]
 rfl
def Abs(a b:Nat):Int:=if a<b then -1 else if b<a then 1 else 0
theorem Ak0{a b:Nat}(ha:(dg a).length≤1000)(hb:(dg b).length≤1000):Ca (dg a,dg b,())=some ((Abs a b,()),(),(),()):=by
 have ltl:∀ {x y:Nat},(dg x).length<(dg y).length→x<y:=fun {x y} h=>by
  have h1:=(D0 (n:=x) (k:=(dg x).length)).1 (Nat.le_refl _)
  have h2:=(Ah4 (dg x).length y).1 h
  have p0:0<65536 ^ (dg x).length:=Nat.pow_pos (by omega)
  have h3:=(Nat.div_eq_zero_iff_lt p0).1 h1
  rcases Nat.lt_or_ge x y with h|h
  ·exact h
  ·have:y / 65536 ^ (dg x).length≤x / 65536 ^ (dg x).length:=Nat.div_le_div_right h
   omega
 unfold Ca Awl
 simp only[Aq,Ad]
 by_cases hl:(((dg a).length:Nat):Int)=(((dg b).length:Nat):Int)
 ·rw[if_pos hl]
  have hl':(dg a).length=(dg b).length:=by omega
  rw[Ar (by omega) (by omega)]
  refine Ak (I:=fun x=>∃ i:Nat,i≤(dg a).length∧a / 65536 ^ i=b / 65536 ^ i∧x=(dg a,dg b,(i:Int)-1,())) (m:=fun x=>(x.2.2.1+1).toNat) (g:=fun _=>some ((Abs a b,()),(),(),())) ?_
   ⟨(dg a).length,Nat.le_refl _,by rw[(D0 (n:=a)).1 (Nat.le_refl _),hl',(D0 (n:=b)).1 (Nat.le_refl _)],rfl⟩ (by rw[Av];simp only;omega)
  rintro x again ⟨i,hi,he,rfl⟩ hag
  simp only at hag ⊢
  unfold Atk
  simp only[Ad,Ao]
  by_cases h1:(i:Int)-1≥0
  ·have hti:((i:Int)-1).toNat=i-1:=by omega
   have ea:=H2 a (i-1);have eb:=H2 b (i-1)
   rw[show i-1+1=i by omega] at ea eb
   have lta:a / 65536 ^ (i-1)<b / 65536 ^ (i-1)→a<b:=fun h=>by
    rcases Nat.lt_or_ge a b with h'|h'
    ·exact h'
    ·have:b / 65536 ^ (i-1)≤a / 65536 ^ (i-1):=Nat.div_le_div_right h'
     omega
   have ltb:b / 65536 ^ (i-1)<a / 65536 ^ (i-1)→b<a:=fun h=>by
    rcases Nat.lt_or_ge b a with h'|h'
    ·exact h'
    ·have:a / 65536 ^ (i-1)≤b / 65536 ^ (i-1):=Nat.div_le_div_right h'
     omega
   have hnx:a / 65536 ^ (i-1)=b / 65536 ^ (i-1)→again (dg a,dg b,(i:Int)-1-1,())=some ((Abs a b,()),(),(),()):=fun h =>
    hag _ ⟨i-1,by omega,h,by rw[show ((i-1:Nat):Int)=(i:Int)-1 by omega]⟩ (by simp only;omega)
   have iA:(0:Int)≤(i:Int)-1∧(i:Int)-1<(((dg a).length:Nat):Int):=by omega
   have iB:(0:Int)≤(i:Int)-1∧(i:Int)-1<(((dg b).length:Nat):Int):=by omega
   simp only[if_pos h1,if_pos iA,if_pos iB]
   rw[hti,Aar,Aar,Ar (by omega) (by omega)]
   rw[ea,eb] at he
   clear hag
   generalize a / 65536 ^ (i-1)=qa at *
   generalize b / 65536 ^ (i-1)=qb at *
   by_cases c1:((qa % 65536:Nat):Int)<((qb % 65536:Nat):Int)
   ·rw[if_pos c1]
    unfold Abs
    rw[if_pos (lta (by omega))]
   ·rw[if_neg c1]
    by_cases c2:((qa % 65536:Nat):Int)>((qb % 65536:Nat):Int)
    ·rw[if_pos c2]
     have:=ltb (by omega)
     unfold Abs
     rw[if_neg (by omega),if_pos this]
    ·rw[if_neg c2]
     exact hnx (by omega)
  ·have:i=0:=by omega
   subst this
   rw[if_neg h1]
   simp only[Nat.pow_zero,Nat.div_one] at he
   subst he
   unfold Abs
   simp
 ·rw[if_neg hl]
  by_cases hlt:(((dg a).length:Nat):Int)<(((dg b).length:Nat):Int)
  ·rw[if_pos hlt]
   unfold Abs
   rw[if_pos (ltl (by omega))]
  ·rw[if_neg hlt]
   have:=ltl (x:=b) (y:=a) (by omega)
   unfold Abs
   rw[if_neg (by omega),if_pos this]
theorem Lt{A D B:Nat}(hD:A=B+D)(hA:(dg A).length≤1000):Dr (dg A,dg B,())=some ((dg D,()),(),(),()):=by
 unfold Dr Aup
 have hend:A / 65536 ^ (dg A).length=0:=(D0 (n:=A)).1 (Nat.le_refl _)
 have hDend:D / 65536 ^ (dg A).length=0:=by
  have:D / 65536 ^ (dg A).length≤A / 65536 ^ (dg A).length:=Nat.div_le_div_right (by omega)
  rw[hend] at this
  exact Nat.le_zero.1 this
 rw[decide_eq_true (show (0:Int)≤(((dg A).length:Nat):Int) by omega),decide_eq_true (Int.le_refl _),Int.toNat_natCast]
 simp only[Bool.and_self,Bool.true_and,Bool.and_true]
 rw[Am9 (by omega)]
 refine Ak (I:=fun x=>∃ (i u:Nat),i≤(dg A).length∧u≤1∧A / 65536 ^ i=B / 65536 ^ i+D / 65536 ^ i+u∧x=(dg A,dg B,lo i D++List.replicate ((dg A).length-i) 0,(u:Int),(i:Int),()))
  (m:=fun x=>((1001:Int)-x.2.2.2.2.1).toNat) (g:=fun _=>some ((dg D,()),(),(),())) ?_ ⟨0,0,by omega,by omega,by simp[hD],rfl⟩ (by rw[Av];simp only;omega)
 rintro x again ⟨i,u,hi,hu,hd,rfl⟩ hag
 simp only at hag ⊢
 have la:=Ah4 i A;have lb:=Ah4 i B
 have ga:=Aar i A;have gb:=Aar i B
 have sa:=H2 A i;have sb:=H2 B i;have sd:=H2 D i
 have hset:i<(dg A).length→List.set (lo i D++List.replicate ((dg A).length-i) 0) i ((D / 65536 ^ i % 65536:Nat):Int)=lo (i+1) D++List.replicate ((dg A).length-(i+1)) 0:=fun h=>by
  rw[List.set_append,if_neg (by rw[Aav];omega),Aav,Nat.sub_self,show (dg A).length-i=((dg A).length-(i+1))+1 by omega,List.replicate_succ,List.set_cons_zero,Bwy]
  simp
 have hol:(lo i D++List.replicate ((dg A).length-i) 0).length=(dg A).length:=by rw[List.length_append,Aav,List.length_replicate];omega
 have step:∀ u':Nat,u'≤1→A / 65536 ^ i / 65536=B / 65536 ^ i / 65536+D / 65536 ^ i / 65536+u'→i<(dg A).length→again (dg A,dg B,lo (i+1) D++List.replicate ((dg A).length-(i+1)) 0,((u':Nat):Int),(i:Int)+1,())=some ((dg D,()),(),(),()):=fun u' h1 h2 h3 =>
  hag _ ⟨i+1,u',by omega,h1,by rw[sa,sb,sd];exact h2,by rw[Int.natCast_add];rfl⟩ (by simp only;omega)
 clear hag
 unfold Atp
 simp only[Am,Ad,Ao,Int.toNat_natCast,ga,gb,hol]
 by_cases h1:(i:Int)<(((dg A).length:Nat):Int)
 ·have hil:i<(dg A).length:=by omega
  have hset:=hset hil
  have step:=fun u' h1 h2=>step u' h1 h2 hil
  have iA:(0:Int)≤(i:Int)∧(i:Int)<(((dg A).length:Nat):Int):=by omega
  have hwi:IntKind.wrap .i64 ((i:Int)+1)=(i:Int)+1:=Ar (by omega) (by omega)
  simp only[if_pos h1,if_pos iA,hwi]
  generalize A / 65536 ^ i=a1 at *
  generalize B / 65536 ^ i=b1 at *
  generalize D / 65536 ^ i=d1 at *
  generalize (dg A).length=nla at *
  generalize (dg B).length=nlb at *
  have hv6:IntKind.wrap .i64 (((a1 % 65536:Nat):Int)-(u:Int))=((a1 % 65536:Nat):Int)-(u:Int):=Ar (by omega) (by omega)
  have hv7:IntKind.wrap .i64 (((a1 % 65536:Nat):Int)-(u:Int)-((b1 % 65536:Nat):Int))=((a1 % 65536:Nat):Int)-(u:Int)-((b1 % 65536:Nat):Int):=Ar (by omega) (by omega)
  have hv8:IntKind.wrap .i64 (((a1 % 65536:Nat):Int)-(u:Int)+65536)=((a1 % 65536:Nat):Int)-(u:Int)+65536:=Ar (by omega) (by omega)
  have hv9:IntKind.wrap .i64 (((a1 % 65536:Nat):Int)-(u:Int)-((b1 % 65536:Nat):Int)+65536)=((a1 % 65536:Nat):Int)-(u:Int)-((b1 % 65536:Nat):Int)+65536:=Ar (by omega) (by omega)
  simp only[hv6,hv7,hv8,hv9]
  by_cases cb:(i:Int)<(nlb:Int)
  ·have iB:(0:Int)≤(i:Int)∧(i:Int)<(nlb:Int):=by omega
   simp only[if_pos cb,if_pos iB]
   by_cases cn:((a1 % 65536:Nat):Int)-(u:Int)-((b1 % 65536:Nat):Int)<0
   ·rw[if_pos cn,show ((a1 % 65536:Nat):Int)-(u:Int)-((b1 % 65536:Nat):Int)+65536=((d1 % 65536:Nat):Int) by omega,hset]
    exact step 1 (by omega) (by omega)
   ·rw[if_neg cn,show ((a1 % 65536:Nat):Int)-(u:Int)-((b1 % 65536:Nat):Int)=((d1 % 65536:Nat):Int) by omega,hset]
    exact step 0 (by omega) (by omega)
  ·have hb0:b1=0:=by omega
   subst hb0
   simp only[if_neg cb]
   by_cases cn:((a1 % 65536:Nat):Int)-(u:Int)<0
   ·rw[if_pos cn,show ((a1 % 65536:Nat):Int)-(u:Int)+65536=((d1 % 65536:Nat):Int) by omega,hset]
    exact step 1 (by omega) (by omega)
   ·rw[if_neg cn,show ((a1 % 65536:Nat):Int)-(u:Int)=((d1 % 65536:Nat):Int) by omega,hset]
    exact step 0 (by omega) (by omega)
 ·have hie:i=(dg A).length:=by omega
  rw[if_neg h1]
  subst hie
  rw[Nat.sub_self,List.replicate_zero,List.append_nil,Aqg (by omega) hDend,Aa]
  dsimp only
  rw[Amw hDend]
theorem Ad8{a b:Nat}(ha:a<115792089237316195423570985008687907853269984665640564039457584007913129639936)(hb:b<115792089237316195423570985008687907853269984665640564039457584007913129639936) :
  Ee (Aw a,Aw b,())=some ((if b≤a then (Aw (a-b),(0:Int),()) else ([(0:Int),0,0,0],(4:Int),())),(),(),()):=by
 have la:=Nr.2 ha;have lb:=Nr.2 hb
 unfold Ee Ajk
 rw[Bz ha];simp only[Aa]
 rw[Bz hb];simp only[Aa]
 rw[Ak0 (by omega) (by omega)];simp only[Aa,Ad]
 unfold Abs
 by_cases h:b≤a
 ·rw[if_neg (show ¬ a<b by omega),if_neg (by split<;>omega),if_pos h,Lt (A:=a) (B:=b) (D:=a-b) (by omega) (by omega)]
  simp only[Aa]
  rw[Th (by omega)]
  rfl
 ·rw[if_pos (show a<b by omega),if_pos (by omega),if_neg h]
theorem Nh(n:Nat):Bd (Aw n,())=some ((decide (n=0),()),(),()):=by
 unfold Bd Air
 rw[← Brl,Aim]
theorem Cdm{a b:Nat}(ha:Al a)(hb:Al b):U9 (Aw a,Aw b,())=some ((Abs a b,()),(),(),()):=by
 unfold Al at ha hb
 unfold U9 Aja
 refine Ak (I:=fun x=>∃ i:Nat,i≤4∧a / 18446744073709551616 ^ i=b / 18446744073709551616 ^ i∧x=(Aw a,Aw b,(i:Int)-1,())) (m:=fun x=>(x.2.2.1+1).toNat)
  (g:=fun _=>some ((Abs a b,()),(),(),())) ?_ ⟨4,by omega,by rw[Cj1];omega,rfl⟩ (by rw[Av];simp only;omega)
 rintro x again ⟨i,hi,hd,rfl⟩ hag
 simp only at hag ⊢
 unfold Al5
 simp only[Ad,Ao]
 by_cases h0:i=0
 ·subst h0
  rw[if_neg (by omega)]
  have:a=b:=by simpa using hd
  subst this
  unfold Abs
  rw[if_neg (by omega),if_neg (by omega)]
 ·obtain⟨j,rfl⟩:=Nat.exists_eq_succ_of_ne_zero h0
  have e:(((j+1:Nat):Int)-1)=(j:Int):=by omega
  have key:∀ n,n / 18446744073709551616 ^ j=n / 18446744073709551616 ^ (j+1)*18446744073709551616+lb n j:=fun n=>by
   rw[An3];unfold lb
   generalize n / 18446744073709551616 ^ j=q
   omega
  have ka:=key a
  have kb:=key b
  rw[Nat.succ_eq_add_one] at hd hag ⊢
  rw[e,if_pos (by omega),if_pos (by omega),if_pos (by omega),Int.toNat_natCast,Alb ha (by omega),Alb hb (by omega)]
  by_cases c1:((lb a j:Nat):Int)<((lb b j:Nat):Int)
  ·rw[if_pos c1]
   have:a<b:=by
    rcases Nat.lt_or_ge a b with h|h
    ·exact h
    ·have:=Nat.div_le_div_right (c:=18446744073709551616 ^ j) h
     omega
   unfold Abs
   rw[if_pos this]
  ·rw[if_neg c1,if_pos (by omega),if_pos (by omega)]
   by_cases c2:((lb a j:Nat):Int)>((lb b j:Nat):Int)
   ·rw[if_pos c2]
    have:b<a:=by
     rcases Nat.lt_or_ge b a with h|h
     ·exact h
     ·have:=Nat.div_le_div_right (c:=18446744073709551616 ^ j) h
      omega
    unfold Abs
    rw[if_neg (by omega),if_pos this]
   ·rw[if_neg c2,Ar (by omega) (by omega)]
    exact hag _ ⟨j,by omega,by omega,rfl⟩ (by simp only;omega)
theorem Ca0:(Ty.zero (.pair (.int .u64) (.pair (.arr 4 (.int .u64)) (.pair (.int .u64) .unit))):A5)=Gs:=rfl
theorem Cjk:(((0:Int),[(0:Int),0,0,0],(0:Int),()):A5)=Gs:=rfl
abbrev zV:List Int:=[(0:Int),0,0,0]
theorem Bxd{n:Nat}(h:n≤1000000):A9 n (.pair (.int .u64) (.pair (.arr 4 (.int .u64)) (.pair (.int .u64) .unit)))=true:=by
 rw[Ad9,decide_eq_true_eq]
 exact⟨by decide,by simp only[Ty.size];omega⟩
theorem Cez{l:List A5}(h:l.length≤1000000):Bx (l,())=some ((l,()),(),()):=by
 unfold Bx Eg
 simp only[Am]
 rw[Bxd (by omega),Au,Ad]
 split
 ·rename_i h0
  have:l=[]:=List.length_eq_zero_iff.1 h0
  subst this
  exact Bnp rfl rfl
 ·rfl
theorem Ccy{x:A5}(h:Ajp x):N8 (x,())=some ((decide (isE x),()),(),()):=by
 obtain⟨ha,hb,hn⟩:=h
 rename_i a b n
 unfold N8 Aaf
 simp only
 rw[← Brl,Aim,Ad]
 have e:isE (a,Aw b,n,())↔b=0∧n=0:=by
  unfold isE
  simp only[Prod.mk.injEq,true_and,and_true]
  rw[← Brl,Bfa]
 by_cases h0:b=0
 ·rw[if_pos h0]
  by_cases h1:n=0
  ·rw[decide_eq_true h1,decide_eq_true (e.2 ⟨h0,h1⟩)]
  ·rw[decide_eq_false h1,decide_eq_false fun h=>h1 (e.1 h).2]
 ·rw[if_neg h0,decide_eq_false fun h=>h0 (e.1 h).1]
abbrev bal(l:List A5)(a:Int):Nat:=Dw (I4 l a).2.1
abbrev non(l:List A5)(a:Int):Int:=(I4 l a).2.2.1
structure Ajz(l:List A5)(vs:List Nat):Prop where
 srt:Srt l
 ne:NE l
 all:Xu l
 nz:∀ x∈l,x.1≠0
 len:vs.length=4
 sum:En l+vs.sum<115792089237316195423570985008687907853269984665640564039457584007913129639936
theorem Ai1{l:List A5}{a:Int}(h:Xu l)(ha:B4 a):I4 l a=(a,Aw (bal l a),non l a,())∧Al (bal l a)∧B4 (non l a):=by
 have hw:=Crn h ha
 have hf:=Azw l a
 unfold bal non
 generalize I4 l a=x at hw hf ⊢
 obtain⟨h1,h2,h3⟩:=hw
 simp only at hf ⊢
 subst hf
 rw[Bk]
 exact⟨rfl,h2,h3⟩
theorem Bmp:∀ {l:List A5} {x:A5},x∈l→Dw x.2.1≤En l
 | y::l,x,h=>by
  rw[Ng]
  rcases List.mem_cons.1 h with rfl|h
  ·omega
  ·have:=Bmp h;omega
theorem Bhh(l:List A5)(a:Int):bal l a≤En l:=by
 unfold bal
 rcases Bqf l a with h | ⟨_,h⟩
 ·exact Bmp h
 ·rw[h,Bii];omega
theorem Cje:∀ {vs:List Nat} {n:Nat},n∈vs→n≤vs.sum
 | m::vs,n,h=>by
  rw[List.sum_cons]
  rcases List.mem_cons.1 h with rfl|h
  ·omega
  ·have:=Cje h;omega
theorem Buw(vs:List Nat)(i:Nat):vs.getD i 0≤vs.sum:=by
 rcases Nat.lt_or_ge i vs.length with h|h
 ·exact Cje (Bt h)
 ·rw[List.getD_eq_getElem?_getD,List.getElem?_eq_none h];exact Nat.zero_le _
theorem Bec(vs:List Nat)(i:Nat):List.getD (vs.map Aw) i zV=Aw (vs.getD i 0):=by
 rw[List.getD_eq_getElem?_getD,List.getElem?_map,List.getD_eq_getElem?_getD]
 cases vs[i]? with
 | none=>rfl
 | some n=>rfl
theorem Bu0:∀ {vs:List Nat} {i n:Nat},i<vs.length→(vs.set i n).sum+vs.getD i 0=vs.sum+n
 | m::vs,0,n,_=>by simp;omega
 | m::vs,i+1,n,h=>by
  have:=Bu0 (vs:=vs) (i:=i) (n:=n) (by simpa using h)
  simp only[List.set_cons_succ,List.sum_cons,List.getD_cons_succ]
  omega
theorem Ajz.vB{l:List A5}{vs:List Nat}(h:Ajz l vs):∀ n∈vs,Al n:=fun n hn=>by
 have:=Cje hn
 have:=h.sum
 unfold Al;omega
abbrev crd(l:List A5)(a:Int)(n:Nat):List A5:=J0 l (a,Aw (bal l a+n),non l a,())
abbrev deb(l:List A5)(a:Int)(n:Nat):List A5:=J0 l (a,Aw (bal l a-n),non l a,())
abbrev inc(l:List A5)(a:Int):List A5:=J0 l (a,Aw (bal l a),non l a+1,())
theorem Cea(l:List A5)(a:Int)(n:Nat):(crd l a n).length≤l.length+1:=Azy _ _
theorem Bws(l:List A5)(a:Int)(n:Nat):(deb l a n).length≤l.length+1:=Azy _ _
theorem Cme(l:List A5)(a:Int):(inc l a).length≤l.length+1:=Azy _ _
theorem Cee{l:List A5}{a:Int}{n:Nat}(hs:Srt l):En (crd l a n)=En l+n:=by
 have:=Azl (y:=(a,Aw (bal l a+n),non l a,())) hs
 simp only[Bk] at this
 have e:bal l a=Dw (I4 l a).2.1:=rfl
 unfold crd
 omega
theorem Bfk{l:List A5}{a:Int}{n:Nat}(hs:Srt l)(h:n≤bal l a):En (deb l a n)+n=En l:=by
 have:=Azl (y:=(a,Aw (bal l a-n),non l a,())) hs
 simp only[Bk] at this
 have e:bal l a=Dw (I4 l a).2.1:=rfl
 unfold deb
 have:=Bhh l a
 omega
theorem Clv{l:List A5}{a:Int}(hs:Srt l):En (inc l a)=En l:=by
 have:=Azl (y:=(a,Aw (bal l a),non l a+1,())) hs
 simp only[Bk] at this
 have e:bal l a=Dw (I4 l a).2.1:=rfl
 unfold inc
 omega
theorem Ck9{l:List A5}{y:A5}(h:∀ x∈l,x.1≠0)(hy:y.1≠0):∀ x∈J0 l y,x.1≠0:=fun x hx=>by
 rcases Ao6 hx with hx | ⟨rfl,_⟩
 ·exact h x hx
 ·exact hy
theorem Ajz.put{l:List A5}{vs:List Nat}{y:A5}(h:Ajz l vs)(hy:Ajp y)(hz:y.1≠0)(hsum:En (J0 l y)+vs.sum<115792089237316195423570985008687907853269984665640564039457584007913129639936):Ajz (J0 l y) vs :=
 ⟨Atw h.srt,Bvx h.ne,Byv h.all hy,Ck9 h.nz hz,h.len,hsum⟩
def Bjy(l:List A5)(vs:List Nat)(a:Int)(n:Nat):Int×(List A5×List Nat) :=
 if a=0 then (2,l,vs) else if En l+vs.sum+n<115792089237316195423570985008687907853269984665640564039457584007913129639936 then (0,crd l a n,vs) else (4,l,vs)
def Biu(l:List A5)(vs:List Nat)(a b:Int)(n:Nat):Int×(List A5×List Nat) :=
 if a=0∨b=0 then (2,l,vs) else if n≤bal l a then (0,crd (deb l a n) b n,vs) else (10,l,vs)
abbrev vix(v:Int):Nat:=(v-1).toNat
def Cgv(l:List A5)(vs:List Nat)(a v:Int)(n:Nat):Int×(List A5×List Nat) :=
 if a=0∨¬ (1≤v∧v≤4) then (2,l,vs) else if n≤bal l a then (0,deb l a n,vs.set (vix v) (vs.getD (vix v) 0+n)) else (10,l,vs)
def wdS(l:List A5)(vs:List Nat)(a:Int)(n:Nat):Int×(List A5×List Nat) :=
 if a=0 then (2,l,vs) else if n≤bal l a then (0,deb l a n,vs) else (10,l,vs)
def wvS(l:List A5)(vs:List Nat)(v:Int)(n:Nat):Int×(List A5×List Nat) :=
 if 1≤v∧v≤4 then (if n≤vs.getD (vix v) 0 then (0,l,vs.set (vix v) (vs.getD (vix v) 0-n)) else (10,l,vs)) else (2,l,vs)
def Cf9(l:List A5)(vs:List Nat)(a:Int):Int×(List A5×List Nat) :=
 if a=0 then (2,l,vs) else if non l a=18446744073709551615 then (4,l,vs) else (0,inc l a,vs)
theorem Ajz.deb{l:List A5}{vs:List Nat}{a:Int}{n:Nat}(h:Ajz l vs)(hu:B4 a)(hz:a≠0)(hn:n≤bal l a):Ajz (deb l a n) vs:=by
 obtain⟨_,hb1,hn1⟩:=Ai1 h.all hu
 have hs:=Bfk h.srt hn
 have hsum:=h.sum
 exact h.put (Ajp.mk hu (by unfold Al at *;omega) hn1) hz (by show En (Go.Pon.deb l a n)+_<_;omega)
def okA(l:List A5)(i:Nat):Prop:=(l.getD i Gs).1≠0∧¬ isE (l.getD i Gs)∧(0<i→(l.getD (i-1) Gs).1<(l.getD i Gs).1)
def VA(l:List A5):Prop:=∀ i,i<l.length→okA l i
theorem VA.srt{l:List A5}(h:VA l):Srt l:=by
 refine List.pairwise_iff_getElem.2 fun i j hi hj hij=>?_
 have key:∀ d,i+1+d<l.length→(l.getD i Gs).1<(l.getD (i+1+d) Gs).1:=by
  intro d
  induction d with
  | zero=>intro hd;exact (h (i+1) (by omega)).2.2 (by omega)
  | succ d ih =>
   intro hd
   have h1:=ih (by omega)
   have h2:=(h (i+1+(d+1)) hd).2.2 (by omega)
   rw[show i+1+(d+1)-1=i+1+d by omega] at h2
   omega
 have:=key (j-i-1) (by omega)
 rw[show i+1+(j-i-1)=j by omega,List.getD_eq_getElem?_getD,List.getElem?_eq_getElem hi,List.getD_eq_getElem?_getD,List.getElem?_eq_getElem hj] at this
 exact this
theorem Cah{l:List A5}{x:A5}(h:x∈l):∃ i,i<l.length∧l.getD i Gs=x:=by
 obtain⟨i,hi,rfl⟩:=List.getElem_of_mem h
 exact⟨i,hi,by rw[List.getD_eq_getElem?_getD,List.getElem?_eq_getElem hi];rfl⟩
theorem VA.ne{l:List A5}(h:VA l):NE l:=fun x hx=>by
 obtain⟨i,hi,rfl⟩:=Cah hx
 exact (h i hi).2.1
theorem VA.nz{l:List A5}(h:VA l):∀ x∈l,x.1≠0:=fun x hx=>by
 obtain⟨i,hi,rfl⟩:=Cah hx
 exact (h i hi).1
theorem Ajz.va{l:List A5}{vs:List Nat}(h:Ajz l vs):VA l:=fun i hi =>
 ⟨h.nz _ (Bt hi),h.ne _ (Bt hi),fun h0=>Chu h.srt (by omega) hi⟩
open Classical in
def Bs1(l:List A5)(vs:List Nat):Option (List A5×List (List Int)×Unit)×(Int×Unit) :=
 if VA l then (if En l+vs.sum<115792089237316195423570985008687907853269984665640564039457584007913129639936 then (some (l,vs.map Aw,()),(0:Int),()) else (none,(4:Int),())) else (none,(2:Int),())
theorem Ccg{l:List A5}{vs:List Nat}{s:Nat}(hl:l.length≤1000000)(hlen:vs.length=4)(hb:∀ n∈vs,Al n)(hs:Al s) :
  Ac _ _ (fun again x=>Aaw Fy Bx again x.1 x.2.1 x.2.2.1 x.2.2.2.1 x.2.2.2.2.1) (l,vs.map Aw,Aw s,vs.map Aw,(0:Int),()) =
   some ((if s+vs.sum<115792089237316195423570985008687907853269984665640564039457584007913129639936 then (some (l,vs.map Aw,()),(0:Int),()) else (none,(4:Int),())),(),(),()):=by
 refine Ak (I:=fun x=>∃ i:Nat,i≤4∧s+(vs.take i).sum<115792089237316195423570985008687907853269984665640564039457584007913129639936∧x=(l,vs.map Aw,Aw (s+(vs.take i).sum),vs.map Aw,(i:Int),())) (m:=fun x=>((4:Int)-x.2.2.2.2.1).toNat)
  (g:=fun _=>some ((if s+vs.sum<115792089237316195423570985008687907853269984665640564039457584007913129639936 then (some (l,vs.map Aw,()),(0:Int),()) else (none,(4:Int),())),(),(),())) ?_
  ⟨0,by omega,by unfold Al at hs;simpa using hs,by simp⟩ (by rw[Av];simp only;omega)
 rintro x again ⟨i,hi,hsi,rfl⟩ hag
 simp only at hag ⊢
 unfold Aaw
 simp only[Ad,Ao,Aq]
 by_cases h:(i:Int)<4
 ·have hm:vs.getD i 0∈vs:=Bt (by omega)
  have ht:(vs.take (i+1)).sum=(vs.take i).sum+vs.getD i 0:=by rw[Ok (d:=0) (by omega),List.sum_append,List.sum_singleton]
  have hle:(vs.take (i+1)).sum≤vs.sum:=by
   have:(vs.take (i+1)++vs.drop (i+1)).sum=vs.sum:=by rw[List.take_append_drop]
   rw[List.sum_append] at this;omega
  rw[if_pos h,if_pos (by omega),Int.toNat_natCast,Bec,Bl1 hsi (hb _ hm)]
  simp only[Aa]
  by_cases c:s+(vs.take i).sum+vs.getD i 0<115792089237316195423570985008687907853269984665640564039457584007913129639936
  ·simp only[if_pos c,if_true]
   rw[Ar (by omega) (by omega)]
   exact hag _ ⟨i+1,by omega,by omega,by rw[ht,Nat.add_assoc,Int.natCast_add];rfl⟩ (by simp only;omega)
  ·simp only[if_neg c]
   rw[if_neg (by decide),if_neg (by omega)]
 ·rw[List.take_of_length_le (by omega)] at hsi
  rw[if_neg h,if_pos hsi,Cez hl]
  rfl
theorem Cbf{l:List A5}{vs:List Nat}(ha:Xu l)(hl:l.length≤1000000)(hlen:vs.length=4)(hb:∀ n∈vs,Al n) :
  Ac _ _ (fun again x=>Aay Ac Fy Bx again x.1 x.2.1 x.2.2.1 x.2.2.2.1 x.2.2.2.2.1 x.2.2.2.2.2.1) (l,vs.map Aw,[(0:Int),0,0,0],l,(l.length:Int),(0:Int),()) =
   some ((if En l+vs.sum<115792089237316195423570985008687907853269984665640564039457584007913129639936 then (some (l,vs.map Aw,()),(0:Int),()) else (none,(4:Int),())),(),(),()):=by
 refine Ak (I:=fun x=>∃ i:Nat,i≤l.length∧En (l.take i)<115792089237316195423570985008687907853269984665640564039457584007913129639936∧x=(l,vs.map Aw,Aw (En (l.take i)),l,(l.length:Int),(i:Int),())) (m:=fun x=>((l.length:Int)-x.2.2.2.2.2.1).toNat)
  (g:=fun _=>some ((if En l+vs.sum<115792089237316195423570985008687907853269984665640564039457584007913129639936 then (some (l,vs.map Aw,()),(0:Int),()) else (none,(4:Int),())),(),(),())) ?_
  ⟨0,by omega,by rw[List.take_zero,Pz];decide,by rw[List.take_zero,Pz,Anh];rfl⟩ (by rw[Av];simp only;omega)
 rintro x again ⟨i,hi,hsi,rfl⟩ hag
 simp only at hag ⊢
 unfold Aay
 rw[Ca0]
 simp only[Ad,Ao,Aq]
 by_cases h:(i:Int)<(l.length:Int)
 ·have ht:En (l.take (i+1))=En (l.take i)+Dw (l.getD i Gs).2.1:=by
   rw[Ok (d:=Gs) (by omega),Aj1,Ng,Pz,Nat.add_zero]
  have hle:En (l.take (i+1))≤En l:=by
   have:En (l.take (i+1)++l.drop (i+1))=En l:=by rw[List.take_append_drop]
   rw[Aj1] at this;omega
  rw[if_pos h,if_pos (by omega),Int.toNat_natCast]
  have hw:=ha.at i
  generalize l.getD i Gs=y at hw ht ⊢
  obtain⟨h1,h2,h3⟩:=hw
  rename_i a b n
  simp only at ht ⊢
  rw[Bk] at ht
  rw[Bl1 hsi h2]
  simp only[Aa]
  by_cases c:En (l.take i)+b<115792089237316195423570985008687907853269984665640564039457584007913129639936
  ·simp only[if_pos c,if_true]
   rw[Ar (by omega) (by omega),← ht]
   exact hag _ ⟨i+1,by omega,by omega,by rw[Int.natCast_add];rfl⟩ (by simp only;omega)
  ·simp only[if_neg c]
   rw[if_neg (by decide),if_neg (by omega)]
 ·rw[List.take_of_length_le (by omega)] at hsi ⊢
  rw[if_neg h]
  exact Ccg hl hlen hb hsi
theorem Cl8{l:List A5}{vs:List Nat}(ha:Xu l)(hl:l.length≤1000000)(hlen:vs.length=4)(hb:∀ n∈vs,Al n) :
  Us (l,vs.map Aw,())=some (Bs1 l vs,(),(),()):=by
 unfold Us Aji
 refine Ak (I:=fun x=>∃ i:Nat,i≤l.length∧(∀ j,j<i→okA l j)∧x=(l,vs.map Aw,l,(l.length:Int),(i:Int),())) (m:=fun x=>((l.length:Int)-x.2.2.2.2.1).toNat)
  (g:=fun _=>some (Bs1 l vs,(),(),())) ?_
  ⟨0,by omega,fun j hj=>by omega,rfl⟩ (by rw[Av];simp only;omega)
 rintro x again ⟨i,hi,hok,rfl⟩ hag
 simp only at hag ⊢
 unfold Alp
 rw[Ca0]
 simp only[Am,Ad,Ao,Aq]
 by_cases h:(i:Int)<(l.length:Int)
 ·have hil:i<l.length:=by omega
  have ii:(0:Int)≤(i:Int)∧(i:Int)<(l.length:Int):=by omega
  have bad:¬ okA l i→Bs1 l vs=(none,(2:Int),()):=fun h=>if_neg fun hv=>h (hv i hil)
  have hnx:okA l i→again (l,vs.map Aw,l,(l.length:Int),(i:Int)+1,())=some (Bs1 l vs,(),(),()):=fun h =>
   hag _ ⟨i+1,by omega,fun j hj=>by
    by_cases e:j=i
    ·rw[e];exact h
    ·exact hok j (by omega),by rw[Int.natCast_add];rfl⟩ (by simp only;omega)
  clear hag
  have hwi:IntKind.wrap .i64 ((i:Int)+1)=(i:Int)+1:=Ar (by omega) (by omega)
  have hwj:IntKind.wrap .i64 ((i:Int)-1)=(i:Int)-1:=Ar (by omega) (by omega)
  have htj:((i:Int)-1).toNat=i-1:=by omega
  simp only[if_pos h,if_pos ii,hwi,hwj,htj,Int.toNat_natCast]
  rw[Ccy (ha.at i)]
  simp only[Aa,Ad]
  unfold okA at bad hnx
  by_cases c1:(l.getD i Gs).1=0
  ·rw[if_pos c1,bad fun h=>h.1 c1]
  rw[if_neg c1]
  by_cases c2:isE (l.getD i Gs)
  ·rw[if_pos c2,bad fun h=>h.2.1 c2]
  rw[if_neg c2]
  by_cases c3:(i:Int)>0
  ·rw[if_pos c3,if_pos (by omega)]
   by_cases c4:(l.getD i Gs).1≤(l.getD (i-1) Gs).1
   ·rw[if_pos c4,bad fun h=>by have:=h.2.2 (by omega);omega]
   ·rw[if_neg c4]
    exact hnx ⟨c1,c2,fun _=>by omega⟩
  ·rw[if_neg c3]
   exact hnx ⟨c1,c2,fun _=>by omega⟩
 ·have hva:VA l:=fun j hj=>hok j (by omega)
  rw[if_neg h]
  unfold Bs1
  rw[if_pos hva]
  exact Cbf ha hl hlen hb
structure Avg(l:List A5)(vs:List Nat)(r:Int×List A5×List Nat)(i o:Nat):Prop where
 inv:Ajz r.2.1 r.2.2
 len:r.2.1.length≤l.length+2
 bad:r.1≠0→r.2=(l,vs)
 sum:r.1=0→En r.2.1+r.2.2.sum+o=En l+vs.sum+i
theorem Avg.same{l:List A5}{vs:List Nat}{c:Int}{i o:Nat}(h:Ajz l vs)(hc:c≠0):Avg l vs (c,l,vs) i o :=
 ⟨h,by simp only;omega,fun _=>rfl,fun e=>absurd e hc⟩
theorem Cjp{l:List A5}{vs:List Nat}{a:Int}{n:Nat}(h:Ajz l vs)(ha:B4 a)(hn:Al n):Avg l vs (Bjy l vs a n) n 0:=by
 unfold Bjy
 by_cases c:a=0
 ·rw[if_pos c];exact .same h (by decide)
 rw[if_neg c]
 by_cases c2:En l+vs.sum+n<115792089237316195423570985008687907853269984665640564039457584007913129639936
 ·rw[if_pos c2]
  obtain⟨_,hb1,hn1⟩:=Ai1 h.all ha
  have hs:=Cee (a:=a) (n:=n) h.srt
  have hbl:=Bhh l a
  refine⟨h.put (Ajp.mk ha (by unfold Al;omega) hn1) c (by show En (crd l a n)+_<_;omega),by have:=Cea l a n;simp only;omega,fun e=>absurd rfl e,fun _=>by simp only;omega⟩
 ·rw[if_neg c2];exact .same h (by decide)
theorem Cfi{l:List A5}{vs:List Nat}{a b:Int}{n:Nat}(h:Ajz l vs)(ha:B4 a)(hb:B4 b)(hn:Al n):Avg l vs (Biu l vs a b n) 0 0:=by
 unfold Biu
 by_cases c:a=0∨b=0
 ·rw[if_pos c];exact .same h (by decide)
 rw[if_neg c]
 by_cases c2:n≤bal l a
 ·rw[if_pos c2]
  have hi:=h.deb ha (by omega) c2
  obtain⟨_,hb1,hn1⟩:=Ai1 hi.all hb
  have hs:=Bfk h.srt c2
  have hs2:=Cee (l:=deb l a n) (a:=b) (n:=n) hi.srt
  have hbl:=Bhh (deb l a n) b
  have hsum:=h.sum
  have l1:=Bws l a n
  have l2:=Cea (deb l a n) b n
  refine⟨hi.put (Ajp.mk hb (by unfold Al;omega) hn1) (by simp only;omega) (by show En (crd (deb l a n) b n)+_<_;omega),by simp only;omega,fun e=>absurd rfl e,fun _=>by simp only;omega⟩
 ·rw[if_neg c2];exact .same h (by decide)
theorem Ckz{l:List A5}{vs:List Nat}{a v:Int}{n:Nat}(h:Ajz l vs)(ha:B4 a)(hn:Al n):Avg l vs (Cgv l vs a v n) 0 0:=by
 unfold Cgv
 by_cases c:a=0∨¬ (1≤v∧v≤4)
 ·rw[if_pos c];exact .same h (by decide)
 rw[if_neg c]
 by_cases c2:n≤bal l a
 ·rw[if_pos c2]
  have hi:=h.deb ha (by omega) c2
  have hs:=Bfk h.srt c2
  have hlen:=h.len
  have hsum:=h.sum
  have hv:=Bu0 (vs:=vs) (i:=vix v) (n:=vs.getD (vix v) 0+n) (by unfold vix;omega)
  have l1:=Bws l a n
  refine⟨⟨hi.srt,hi.ne,hi.all,hi.nz,by simp only[List.length_set];exact hlen,by simp only;omega⟩,by simp only;omega,fun e=>absurd rfl e,fun _=>by simp only;omega⟩
 ·rw[if_neg c2];exact .same h (by decide)
theorem Cn1{l:List A5}{vs:List Nat}{a:Int}{n:Nat}(h:Ajz l vs)(ha:B4 a)(hn:Al n):Avg l vs (wdS l vs a n) 0 n:=by
 unfold wdS
 by_cases c:a=0
 ·rw[if_pos c];exact .same h (by decide)
 rw[if_neg c]
 by_cases c2:n≤bal l a
 ·rw[if_pos c2]
  have hi:=h.deb ha (by omega) c2
  have hs:=Bfk h.srt c2
  have l1:=Bws l a n
  refine⟨hi,by simp only;omega,fun e=>absurd rfl e,fun _=>by simp only;omega⟩
 ·rw[if_neg c2];exact .same h (by decide)
theorem Cog{l:List A5}{vs:List Nat}{v:Int}{n:Nat}(h:Ajz l vs)(hn:Al n):Avg l vs (wvS l vs v n) 0 n:=by
 unfold wvS
 by_cases c:1≤v∧v≤4
 ·rw[if_pos c]
  by_cases c2:n≤vs.getD (vix v) 0
  ·rw[if_pos c2]
   have hlen:=h.len
   have hsum:=h.sum
   have hv:=Bu0 (vs:=vs) (i:=vix v) (n:=vs.getD (vix v) 0-n) (by unfold vix;omega)
   exact⟨⟨h.srt,h.ne,h.all,h.nz,by simp only[List.length_set];exact hlen,by simp only;omega⟩,by simp only;omega,fun e=>absurd rfl e,fun _=>by simp only;omega⟩
  ·rw[if_neg c2];exact .same h (by decide)
 ·rw[if_neg c];exact .same h (by decide)
theorem Cmt{l:List A5}{vs:List Nat}{a:Int}(h:Ajz l vs)(ha:B4 a):Avg l vs (Cf9 l vs a) 0 0:=by
 unfold Cf9
 by_cases c:a=0
 ·rw[if_pos c];exact .same h (by decide)
 rw[if_neg c]
 by_cases c2:non l a=18446744073709551615
 ·rw[if_pos c2];exact .same h (by decide)
 ·rw[if_neg c2]
  obtain⟨_,hb1,hn1⟩:=Ai1 h.all ha
  have hs:=Clv (a:=a) h.srt
  have l1:=Cme l a
  have hsum:=h.sum
  refine⟨h.put (Ajp.mk ha hb1 (by unfold B4 at *;omega)) c (by show En (inc l a)+_<_;omega),by simp only;omega,fun e=>absurd rfl e,fun _=>by simp only;omega⟩
structure Wp(m:List A5):Prop where
 dist:Bwv m
 all:Xu m
def atA:List A5→Int→Nat→Int
 | [],_,_=>-1
 | x::m,a,k=>if x.1=a then (k:Int) else atA m a (k+1)
theorem Cis(x:A5)(m:List A5)(a:Int)(k:Nat):atA (x::m) a k=if x.1=a then (k:Int) else atA m a (k+1):=rfl
theorem Cdp{x:A5}(h:Ajp x):isE x↔Dw x.2.1=0∧x.2.2.1=0:=by
 obtain⟨h1,h2,h3⟩:=h
 unfold isE
 simp only[Prod.mk.injEq,true_and,and_true]
 rw[← Brl,Bfa,Bk]
theorem Bm9{x:A5}(h:Ajp x):Bd (x.2.1,())=some ((decide (Dw x.2.1=0),()),(),()):=by
 obtain⟨h1,h2,h3⟩:=h
 simp only
 rw[Nh,Bk]
theorem Bo7(a:Int):∀ (m:List A5) (k:Nat),(atA m a k = -1∧(∀ x∈m,x.1≠a)∧∀ y:A5,y.1=a→Amg m y=m++[y]) ∨
  ∃ j,j<m.length∧atA m a k=((k+j:Nat):Int)∧m.getD j Gs=I4 m a∧∀ y:A5,y.1=a→Amg m y=m.set j y
 | [],k=>.inl ⟨rfl,fun x h=>by simp at h,fun y _=>rfl⟩
 | x::m,k=>by
  unfold atA
  by_cases h:x.1=a
  ·rw[if_pos h]
   refine .inr ⟨0,by simp,rfl,?_,fun y hy=>?_⟩
   ·simp only[I4];rw[if_pos h];rfl
   ·unfold Amg;rw[if_pos (by omega)];rfl
  ·rw[if_neg h]
   rcases Bo7 a m (k+1) with⟨h1,h2,h3⟩ | ⟨j,h1,h2,h3,h4⟩
   ·refine .inl ⟨h1,fun y hy=>?_,fun y hy=>?_⟩
    ·rcases List.mem_cons.1 hy with rfl|hy
     ·exact h
     ·exact h2 y hy
    ·unfold Amg;rw[if_neg (by omega),h3 y hy];rfl
   ·refine .inr ⟨j+1,by simpa using h1,by rw[h2];omega,?_,fun y hy=>?_⟩
    ·simp only[I4];rw[if_neg h];exact h3
    ·unfold Amg;rw[if_neg (by omega),h4 y hy];rfl
theorem Bo0{l:List A5}{i:Nat}(h:i<l.length):l.drop i=l.getD i Gs::l.drop (i+1):=by
 rw[List.drop_eq_getElem_cons h,List.getD_eq_getElem?_getD,List.getElem?_eq_getElem h]
 rfl
theorem Ckg{m:List A5}{v:List (List Int)}{a:Int}(hl:m.length≤1000000) :
  Hq ((m,v,()),a,())=some ((atA m a 0,()),(m,v,()),(),()):=by
 unfold Hq Wv
 refine Ak (I:=fun x=>∃ i:Nat,i≤m.length∧atA m a 0=atA (m.drop i) a i∧x=((m,v,()),a,(i:Int),())) (m:=fun x=>((m.length:Int)-x.2.2.1).toNat)
  (g:=fun _=>some ((atA m a 0,()),(m,v,()),(),())) ?_ ⟨0,by omega,rfl,rfl⟩ (by rw[Av];simp only;omega)
 rintro x again ⟨i,hi,hf,rfl⟩ hag
 simp only at hag ⊢
 unfold Adr
 rw[Ca0]
 simp only[Am,Ad,Ao]
 by_cases h1:(i:Int)<(m.length:Int)
 ·have hil:i<m.length:=by omega
  rw[if_pos h1,if_pos (by omega),Int.toNat_natCast]
  rw[Bo0 hil,Cis] at hf
  by_cases he:(m.getD i Gs).1=a
  ·rw[if_pos he] at hf ⊢
   rw[hf]
  ·rw[if_neg he] at hf ⊢
   rw[Ar (by omega) (by omega)]
   exact hag _ ⟨i+1,by omega,hf,by rw[Int.natCast_add];rfl⟩ (by simp only;omega)
 ·rw[if_neg h1]
  rw[List.drop_of_length_le (by omega)] at hf
  rw[hf]
  rfl
theorem Bak{m:List A5}{v:List (List Int)}{a:Int}(hl:m.length≤1000000) :
  Cm ((m,v,()),a,())=some ((I4 m a,()),(m,v,()),(),()):=by
 unfold Cm Tq
 simp only
 rw[Ckg hl]
 simp only[Aa,Ad,Ao]
 rcases Bo7 a m 0 with⟨h1,h2,_⟩ | ⟨j,h1,h2,h3,_⟩
 ·rw[h1,if_neg (by omega),Ll h2]
 ·rw[h2,if_pos (by omega),if_pos (by omega),Int.toNat_natCast,Nat.zero_add,h3]
theorem Buo{m:List A5}{v:List (List Int)}{y:A5}(hl:m.length≤900000) :
  Eh ((m,v,()),y,())=some ((),(Amg m y,v,()),(),()):=by
 unfold Eh Uk
 simp only
 rw[Ckg (by omega)]
 simp only[Aa,Am,Ad,Ao]
 rcases Bo7 y.1 m 0 with⟨h1,_,h2⟩ | ⟨j,h1,h2,_,h3⟩
 ·rw[h1,if_neg (by omega),Bxd (by omega),Au,h2 y rfl,B8]
 ·rw[h2,if_pos (by omega),if_pos (by omega),Int.toNat_natCast,Nat.zero_add,h3 y rfl]
theorem J7{n:Nat}(h:n<115792089237316195423570985008687907853269984665640564039457584007913129639936*1048576):(dg n).length≤1000:=by
 have h18:(dg n).length≤18:=D0.2 (Nat.div_eq_of_lt (Nat.lt_of_lt_of_le h (by decide)))
 omega
theorem Bzq{m:List A5}(ha:Xu m)(i:Nat):En (m.take i)≤i*115792089237316195423570985008687907853269984665640564039457584007913129639936:=by
 induction i with
 | zero=>rw[List.take_zero,Pz];exact Nat.zero_le _
 | succ i ih =>
  rcases Nat.lt_or_ge i m.length with h|h
  ·have e:En (m.take (i+1))=En (m.take i)+Dw (m.getD i Gs).2.1:=by rw[Ok (d:=Gs) h,Aj1,Ng,Pz,Nat.add_zero]
   have h2:Dw (m.getD i Gs).2.1<115792089237316195423570985008687907853269984665640564039457584007913129639936:=by
    have hw:=ha.at i
    generalize m.getD i Gs=y at hw
    obtain⟨h1,h2,h3⟩:=hw
    simp only[Bk]
    exact h2
   generalize Dw (m.getD i Gs).2.1=q at e h2
   omega
  ·have e1:m.take i=m:=List.take_of_length_le (by omega)
   have e2:m.take (i+1)=m:=List.take_of_length_le (by omega)
   rw[e1] at ih
   have:=congrArg En e2
   omega
theorem Cc3{vs:List Nat}(hlen:vs.length=4)(hb:∀ n∈vs,Al n){i:Nat}:i≤4→(vs.take i).sum≤i*115792089237316195423570985008687907853269984665640564039457584007913129639936:=by
 induction i with
 | zero=>intro _;rw[List.take_zero,List.sum_nil];exact Nat.zero_le _
 | succ i ih =>
  intro hi
  have e:(vs.take (i+1)).sum=(vs.take i).sum+vs.getD i 0:=by rw[Ok (d:=0) (by omega),List.sum_append,List.sum_singleton]
  have h1:=hb _ (Bt (l:=vs) (i:=i) (d:=0) (by omega))
  have h2:=ih (by omega)
  unfold Al at h1
  omega
theorem Bzg{m:List A5}{vs:List Nat}(ha:Xu m)(hl:m.length≤100000)(hlen:vs.length=4)(hb:∀ n∈vs,Al n) :
  Gr ((m,vs.map Aw,()),())=some ((dg (En m+vs.sum),()),(m,vs.map Aw,()),()):=by
 have hbound:=Bzq ha
 have hvb:=fun i (hi:i≤4)=>Cc3 hlen hb hi
 unfold Gr Or
 refine Ak (I:=fun x=>∃ i:Nat,i≤m.length∧x=((m,vs.map Aw,()),dg (En (m.take i)),(i:Int),())) (m:=fun x=>((m.length:Int)-x.2.2.1).toNat)
  (g:=fun _=>some ((dg (En m+vs.sum),()),(m,vs.map Aw,()),())) ?_ ⟨0,by omega,by rw[List.take_zero,Pz,Awd];rfl⟩ (by rw[Av];simp only;omega)
 rintro x again ⟨i,hi,rfl⟩ hag
 simp only at hag ⊢
 unfold Xm
 rw[Ca0]
 simp only[Am,Ad,Ao]
 by_cases h:(i:Int)<(m.length:Int)
 ·have hs:En (m.take (i+1))=En (m.take i)+Dw (m.getD i Gs).2.1:=by
   rw[Ok (d:=Gs) (by omega),Aj1,Ng,Pz,Nat.add_zero]
  have hbi:=hbound i
  rw[if_pos h,if_pos (by omega),Int.toNat_natCast]
  have hw:=ha.at i
  generalize m.getD i Gs=y at hw hs ⊢
  obtain⟨h1,h2,h3⟩:=hw
  simp only at hs ⊢
  rw[Bk] at hs
  unfold Al at h2
  rw[Bz h2]
  simp only[Aa]
  rw[Cb (J7 (by omega)) (J7 (by omega)),← hs,Ar (by omega) (by omega)]
  simp only[Aa]
  exact hag _ ⟨i+1,by omega,by rw[Int.natCast_add];rfl⟩ (by simp only;omega)
 ·rw[if_neg h]
  have hbm:=hbound m.length
  rw[List.take_of_length_le (by omega)] at hbm ⊢
  refine Ak (I:=fun x=>∃ i:Nat,i≤4∧x=((m,vs.map Aw,()),dg (En m+(vs.take i).sum),(i:Int),())) (m:=fun x=>((4:Int)-x.2.2.1).toNat)
   (g:=fun _=>some ((dg (En m+vs.sum),()),(m,vs.map Aw,()),())) ?_ ⟨0,by omega,by rw[List.take_zero,List.sum_nil,Nat.add_zero];rfl⟩ (by rw[Av];simp only;omega)
  rintro x again2 ⟨k,hk,rfl⟩ hag2
  simp only at hag2 ⊢
  unfold Xg
  simp only[Am,Ad,Ao]
  by_cases h:(k:Int)<4
  ·have hm:vs.getD k 0∈vs:=Bt (by omega)
   have ht:(vs.take (k+1)).sum=(vs.take k).sum+vs.getD k 0:=by rw[Ok (d:=0) (by omega),List.sum_append,List.sum_singleton]
   have h2:=hb _ hm
   have hvk:=hvb k (by omega)
   unfold Al at h2
   rw[if_pos h,if_pos (by omega),Int.toNat_natCast,Bec,Bz h2]
   simp only[Aa]
   rw[Cb (J7 (by omega)) (J7 (by omega)),Ar (by omega) (by omega)]
   simp only[Aa]
   exact hag2 _ ⟨k+1,by omega,by rw[ht,Nat.add_assoc,Int.natCast_add];rfl⟩ (by simp only;omega)
  ·rw[if_neg h,List.take_of_length_le (by omega)]
theorem Cb0{m:List A5}{vs:List Nat}(hr:Wp m)(h:Ajz (Cf m) vs)(hl:m.length≤100000) :
  Gr ((m,vs.map Aw,()),())=some ((dg (En (Cf m)+vs.sum),()),(m,vs.map Aw,()),()):=by
 rw[Bzg hr.all hl h.len h.vB,Cgw hr.dist]
theorem Cmy{m:List A5}(h:Bwv m)(a:Int):I4 m a=I4 (Cf m) a:=(Bdr h a).symm
theorem Wp.put{m:List A5}{y:A5}(h:Wp m)(hy:Ajp y):Wp (Amg m y):=⟨Bh3 h.dist,Cik h.all hy⟩
theorem Bpi{m:List A5}{v:List (List Int)}{a:Int}{n:Nat}(h:Wp m)(hl:m.length≤100000)(hu:B4 a)(hn:Al n)(hb:Al (bal (Cf m) a+n)) :
  ∃ m',Fb ((m,v,()),a,Aw n,())=some ((),(m',v,()),(),(),())∧Wp m'∧Cf m'=crd (Cf m) a n∧m'.length≤m.length+1:=by
 obtain⟨e,hb1,hn1⟩:=Ai1 (Baq h.all) hu
 refine⟨Amg m (a,Aw (bal (Cf m) a+n),non (Cf m) a,()),?_,h.put (Ajp.mk hu hb hn1),Bd3 h.dist,Bed _ _⟩
 unfold Fb Ot
 simp only
 rw[Bak (by omega),Cmy h.dist]
 simp only[Aa]
 have e1:(I4 (Cf m) a).2.1=Aw (bal (Cf m) a):=by rw[e]
 have e2:(I4 (Cf m) a).2.2=(non (Cf m) a,()):=by rw[e]
 unfold Al at hb1 hn hb
 rw[e1,Azw,e2,Bz hb1]
 simp only[Aa]
 rw[Bz hn]
 simp only[Aa]
 rw[Cb (J7 (by omega)) (J7 (by omega))]
 simp only[Aa]
 rw[Th hb]
 simp only[Aa]
 rw[Buo (by omega)]
 rfl
theorem Bjb{m:List A5}{v:List (List Int)}{a:Int}{n:Nat}(h:Wp m)(hl:m.length≤100000)(hu:B4 a)(hn:Al n)(hb:n≤bal (Cf m) a) :
  ∃ m',Cv ((m,v,()),a,Aw n,())=some ((true,()),(m',v,()),(),(),())∧Wp m'∧Cf m'=deb (Cf m) a n∧m'.length≤m.length+1:=by
 obtain⟨e,hb1,hn1⟩:=Ai1 (Baq h.all) hu
 refine⟨Amg m (a,Aw (bal (Cf m) a-n),non (Cf m) a,()),?_,h.put (Ajp.mk hu (by unfold Al at *;omega) hn1),Bd3 h.dist,Bed _ _⟩
 unfold Cv Lp
 simp only
 rw[Bak (by omega),Cmy h.dist]
 simp only[Aa]
 have e1:(I4 (Cf m) a).2.1=Aw (bal (Cf m) a):=by rw[e]
 have e2:(I4 (Cf m) a).2.2=(non (Cf m) a,()):=by rw[e]
 unfold Al at hb1 hn
 rw[e1,Azw,e2,Ad8 hb1 hn,if_pos hb]
 simp only[Aa,Aq,Ad,if_true]
 rw[Buo (by omega)]
 rfl
theorem Bdm{m:List A5}{v:List (List Int)}{a:Int}{n:Nat}(h:Wp m)(hl:m.length≤100000)(hu:B4 a)(hn:Al n)(hb:bal (Cf m) a<n) :
  Cv ((m,v,()),a,Aw n,())=some ((false,()),(m,v,()),(),(),()):=by
 obtain⟨e,hb1,hn1⟩:=Ai1 (Baq h.all) hu
 unfold Cv Lp
 simp only
 rw[Bak (by omega),Cmy h.dist]
 simp only[Aa]
 have e1:(I4 (Cf m) a).2.1=Aw (bal (Cf m) a):=by rw[e]
 unfold Al at hb1 hn
 rw[e1,Ad8 hb1 hn,if_neg (by omega)]
 simp only[Aa,Aq,Ad]
 rw[if_neg (by decide)]
abbrev Bix(m:List A5)(r:Int×List A5×List Nat)(m':List A5):Prop:=Wp m'∧Cf m'=r.2.1∧m'.length≤m.length+2
theorem Cjg{m:List A5}{vs:List Nat}{a:Int}{n:Nat}(hr:Wp m)(h:Ajz (Cf m) vs)(hl:m.length≤90000)(hu:B4 a)(hn:Al n) :
  ∃ m',Hx ((m,vs.map Aw,()),a,Aw n,())=some (((Bjy (Cf m) vs a n).1,()),(m',(Bjy (Cf m) vs a n).2.2.map Aw,()),(),(),())∧Bix m (Bjy (Cf m) vs a n) m':=by
 unfold Hx Rk Bjy Bix
 simp only[Ad]
 by_cases c:a=0
 ·simp only[if_pos c];exact⟨m,rfl,hr,rfl,by omega⟩
 simp only[if_neg c]
 rw[Cb0 hr h (by omega)]
 have hs:=h.sum
 simp only[Aa]
 unfold Al at hn
 rw[Bz hn]
 simp only[Aa]
 rw[Cb (J7 (by omega)) (J7 (by omega))]
 simp only[Aa]
 rw[O3]
 simp only[Aa,Aq,Ad]
 by_cases c2:En (Cf m)+vs.sum+n<115792089237316195423570985008687907853269984665640564039457584007913129639936
 ·simp only[if_pos c2]
  obtain⟨m',e,h1,h2,h3⟩:=Bpi (v:=vs.map Aw) hr (by omega) hu hn (by have:=Bhh (Cf m) a;unfold Al;omega)
  rw[e]
  exact⟨m',rfl,h1,h2,by omega⟩
 ·simp only[if_neg c2]
  exact⟨m,rfl,hr,rfl,by omega⟩
theorem Bw7{m:List A5}{vs:List Nat}{a b:Int}{n:Nat}(hr:Wp m)(h:Ajz (Cf m) vs)(hl:m.length≤90000)(hu:B4 a)(hub:B4 b)(hn:Al n) :
  ∃ m',Fm ((m,vs.map Aw,()),a,b,Aw n,())=some (((Biu (Cf m) vs a b n).1,()),(m',(Biu (Cf m) vs a b n).2.2.map Aw,()),(),(),(),())∧Bix m (Biu (Cf m) vs a b n) m':=by
 unfold Fm Lw Biu Bix
 simp only[Ad]
 by_cases c:a=0
 ·simp only[if_pos c,if_pos (show a=0∨b=0 from .inl c)];exact⟨m,rfl,hr,rfl,by omega⟩
 by_cases c1:b=0
 ·simp only[if_neg c,if_pos c1,if_pos (show a=0∨b=0 from .inr c1)];exact⟨m,rfl,hr,rfl,by omega⟩
 have c2:¬ (a=0∨b=0):=by omega
 simp only[if_neg c,if_neg c1,if_neg c2]
 have hsum:=h.sum
 by_cases c3:n≤bal (Cf m) a
 ·have hs:=Bfk h.srt c3
  have hle:=Bhh (deb (Cf m) a n) b
  simp only[if_pos c3]
  obtain⟨m',e,h1,h2,h3⟩:=Bjb (v:=vs.map Aw) hr (by omega) hu hn c3
  rw[e]
  simp only[Aa,Aq,Au]
  obtain⟨m2,e2,g1,g2,g3⟩:=Bpi (v:=vs.map Aw) h1 (by omega) hub hn (by rw[h2];unfold Al;omega)
  rw[e2]
  exact⟨m2,rfl,g1,by rw[g2,h2],by omega⟩
 ·simp only[if_neg c3]
  rw[Bdm hr (by omega) hu hn (by omega)]
  exact⟨m,rfl,hr,rfl,by omega⟩
theorem Clk{m:List A5}{vs:List Nat}{a v:Int}{n:Nat}(hr:Wp m)(h:Ajz (Cf m) vs)(hl:m.length≤90000)(hu:B4 a)(hn:Al n)(hv : -9223372036854775808≤v∧v≤9223372036854775807) :
  ∃ m',Fo ((m,vs.map Aw,()),a,v,Aw n,())=some (((Cgv (Cf m) vs a v n).1,()),(m',(Cgv (Cf m) vs a v n).2.2.map Aw,()),(),(),(),())∧Bix m (Cgv (Cf m) vs a v n) m':=by
 unfold Fo L2 Cgv Bix
 simp only[Am,Ad]
 by_cases c:a=0
 ·simp only[if_pos c,if_pos (show a=0∨¬ (1≤v∧v≤4) from .inl c)];exact⟨m,rfl,hr,rfl,by omega⟩
 by_cases c1:1≤v∧v≤4
 case neg =>
  simp only[if_neg c,if_pos (show a=0∨¬ (1≤v∧v≤4) from .inr c1)]
  refine⟨m,?_,hr,rfl,by omega⟩
  by_cases d:v<1
  ·rw[if_pos d]
  ·rw[if_neg d,if_pos (by omega)]
 have c2:¬ (a=0∨¬ (1≤v∧v≤4)):=fun h=>h.elim c (fun h=>h c1)
 simp only[if_neg c,if_neg c2]
 rw[if_neg (by omega),if_neg (by omega)]
 have hsum:=h.sum
 have hlen:=h.len
 by_cases c3:n≤bal (Cf m) a
 ·simp only[if_pos c3]
  obtain⟨m',e,h1,h2,h3⟩:=Bjb (v:=vs.map Aw) hr (by omega) hu hn c3
  rw[e]
  simp only[Aa,Aq,Au,Ao]
  have hw:IntKind.wrap .i64 (v-1)=v-1:=Ar (by omega) (by omega)
  have hx:(v-1).toNat=vix v:=rfl
  have hg:=Buw vs (vix v)
  have hbl:=Bhh (Cf m) a
  unfold Al at hn
  rw[hw,hx,if_pos (by omega),Bec,Bz (by omega)]
  simp only[Aa]
  rw[Bz hn]
  simp only[Aa]
  rw[Cb (J7 (by omega)) (J7 (by omega))]
  simp only[Aa]
  rw[Th (by omega)]
  simp only[Aa]
  rw[if_pos (by omega),← List.map_set]
  exact⟨m',rfl,h1,h2,by omega⟩
 ·simp only[if_neg c3]
  rw[Bdm hr (by omega) hu hn (by omega)]
  exact⟨m,rfl,hr,rfl,by omega⟩
theorem Buq{m:List A5}{vs:List Nat}{a:Int}{n:Nat}(hr:Wp m)(h:Ajz (Cf m) vs)(hl:m.length≤90000)(hu:B4 a)(hn:Al n) :
  ∃ m',Fq ((m,vs.map Aw,()),a,Aw n,())=some (((wdS (Cf m) vs a n).1,()),(m',(wdS (Cf m) vs a n).2.2.map Aw,()),(),(),())∧Bix m (wdS (Cf m) vs a n) m':=by
 unfold Fq L0 wdS Bix
 simp only[Ad]
 by_cases c:a=0
 ·simp only[if_pos c];exact⟨m,rfl,hr,rfl,by omega⟩
 simp only[if_neg c]
 by_cases c3:n≤bal (Cf m) a
 ·simp only[if_pos c3]
  obtain⟨m',e,h1,h2,h3⟩:=Bjb (v:=vs.map Aw) hr (by omega) hu hn c3
  rw[e]
  exact⟨m',rfl,h1,h2,by omega⟩
 ·simp only[if_neg c3]
  rw[Bdm hr (by omega) hu hn (by omega)]
  exact⟨m,rfl,hr,rfl,by omega⟩
theorem Cn7{m:List A5}{vs:List Nat}{v:Int}{n:Nat}(hr:Wp m)(h:Ajz (Cf m) vs)(hn:Al n)(hv : -9223372036854775808≤v∧v≤9223372036854775807) :
  ∃ m',D8 ((m,vs.map Aw,()),v,Aw n,())=some (((wvS (Cf m) vs v n).1,()),(m',(wvS (Cf m) vs v n).2.2.map Aw,()),(),(),())∧Bix m (wvS (Cf m) vs v n) m':=by
 unfold D8 Ig wvS Bix
 simp only[Am,Ad]
 by_cases c1:1≤v∧v≤4
 case neg =>
  simp only[if_neg c1]
  refine⟨m,?_,hr,rfl,by omega⟩
  by_cases d:v<1
  ·rw[if_pos d]
  ·rw[if_neg d,if_pos (by omega)]
 simp only[if_pos c1]
 rw[if_neg (by omega),if_neg (by omega)]
 have hw:IntKind.wrap .i64 (v-1)=v-1:=Ar (by omega) (by omega)
 have hx:(v-1).toNat=vix v:=rfl
 have hlen:=h.len
 have hg:=Buw vs (vix v)
 have hsum:=h.sum
 unfold Al at hn
 simp only[Ao]
 rw[hw,hx,if_pos (by omega),Bec,Ad8 (by omega) hn]
 simp only[Aa,Aq,Ad]
 by_cases c3:n≤vs.getD (vix v) 0
 ·simp only[if_pos c3,if_true]
  rw[if_pos (by omega),← List.map_set]
  exact⟨m,rfl,hr,rfl,by omega⟩
 ·simp only[if_neg c3]
  rw[if_neg (by decide)]
  exact⟨m,rfl,hr,rfl,by omega⟩
theorem Cl5{m:List A5}{vs:List Nat}{a:Int}(hr:Wp m)(h:Ajz (Cf m) vs)(hl:m.length≤90000)(hu:B4 a) :
  ∃ m',Dp ((m,vs.map Aw,()),a,())=some (((Cf9 (Cf m) vs a).1,()),(m',(Cf9 (Cf m) vs a).2.2.map Aw,()),(),())∧Bix m (Cf9 (Cf m) vs a) m':=by
 unfold Dp Ht Cf9 Bix
 simp only[Ad]
 by_cases c:a=0
 ·simp only[if_pos c];exact⟨m,rfl,hr,rfl,by omega⟩
 simp only[if_neg c]
 rw[Bak (by omega),Cmy hr.dist]
 obtain⟨e,hb1,hn1⟩:=Ai1 (Baq hr.all) hu
 have e1:(I4 (Cf m) a).2.1=Aw (bal (Cf m) a):=by rw[e]
 have e3:(I4 (Cf m) a).2.2.1=non (Cf m) a:=rfl
 simp only[Aa,Am]
 rw[e3]
 unfold B4 at hn1
 by_cases c2:non (Cf m) a=18446744073709551615
 ·simp only[if_pos c2]
  rw[c2,if_pos (by decide)]
  exact⟨m,rfl,hr,rfl,by omega⟩
 ·simp only[if_neg c2]
  rw[H4 (by omega) (by omega),if_neg (by omega),Azw,e1,Buo (by omega)]
  have hlm:=Bed m (a,Aw (bal (Cf m) a),non (Cf m) a+1,())
  exact⟨Amg m (a,Aw (bal (Cf m) a),non (Cf m) a+1,()),rfl,hr.put (Ajp.mk hu hb1 (by unfold B4;omega)),Bd3 hr.dist,by omega⟩
theorem Bjw{l:List A5}{y:A5}(h:∀ x∈l,x.1≠y.1):J0 l y=if isE y then l else l.take (Adc l y.1)++(y::l.drop (Adc l y.1)):=by
 rw[Caw,if_neg]
 rintro⟨h1,h2⟩
 exact h _ (Bt h1) h2
theorem Cil{m o:List A5}{v:List (List Int)}{y:A5}{i:Nat}{again0:((List A5×List (List Int)×Unit)×List A5×Int×Unit)→Option ((List A5×Unit)×Unit×Unit)}
  (ho:Srt o) (hl:o.length≤100000) (hi:i≤100000) (hy:¬ isE y) (ha:∀ x∈o,x.1≠y.1) :
  Ac _ _ (fun again x=>Hw again0 again x.1 x.2.1 x.2.2.1 x.2.2.2.1 x.2.2.2.2.1) ((m,v,()),o,(i:Int),y,((o.length:Nat):Int),()) =
   again0 ((m,v,()),J0 o y,((i+1:Nat):Int),()):=by
 have hc:=Cec y.1 o
 refine Ak (I:=fun x=>∃ k:Nat,Adc o y.1≤k∧k≤o.length∧x=((m,v,()),o,(i:Int),y,(k:Int),())) (m:=fun x=>x.2.2.2.2.1.toNat)
  (g:=fun _=>again0 ((m,v,()),J0 o y,((i+1:Nat):Int),())) ?_ ⟨o.length,hc,by omega,rfl⟩ (by rw[Av];simp only;omega)
 rintro x again ⟨k,h1,h2,rfl⟩ hag
 simp only at hag ⊢
 unfold Hw
 rw[Cjk]
 simp only[Am,Ad,Ao,Aga]
 have fin:k=Adc o y.1→(if True then (if (0:Int)≤(k:Int) then (if (k:Int)≤((o.length:Nat):Int) then (if (0:Int)≤(k:Int) then (if (k:Int)≤((o.length:Nat):Int) then
   (Ah (A9 (1+(List.take (o.length-((k:Int)).toNat) (List.drop ((k:Int)).toNat o)).length) (.pair (.int .u64) (.pair (.arr 4 (.int .u64)) (.pair (.int .u64) .unit))))
    (if 0<(List.append [y] (List.take (o.length-((k:Int)).toNat) (List.drop ((k:Int)).toNat o))).length then
     (Ah (A9 ((List.take (((k:Int)).toNat-0) (List.drop 0 o)).length+(List.append [y] (List.take (o.length-((k:Int)).toNat) (List.drop ((k:Int)).toNat o))).length) (.pair (.int .u64) (.pair (.arr 4 (.int .u64)) (.pair (.int .u64) .unit))))
      (again0 ((m,v,()),List.append (List.take (((k:Int)).toNat-0) (List.drop 0 o)) (List.append [y] (List.take (o.length-((k:Int)).toNat) (List.drop ((k:Int)).toNat o))),IntKind.wrap .i64 ((i:Int)+1),()))
      none) else none) none) else none) else none) else none) else none) else none)=again0 ((m,v,()),J0 o y,((i+1:Nat):Int),()):=fun hk=>by
  have e1:List.take (o.length-k) (List.drop k o)=List.drop k o:=List.take_of_length_le (by rw[List.length_drop];omega)
  have hlen:(List.take k o).length+(List.append [y] (List.drop k o)).length≤1000000:=by
   rw[B8]
   simp only[List.length_take,List.length_append,List.length_drop,List.length_singleton]
   omega
  rw[if_pos trivial,if_pos (by omega),if_pos (by omega),if_pos (by omega),if_pos (by omega),Int.toNat_natCast,e1,Bxd (by rw[List.length_drop];omega),Au,if_pos (by simp[B8]),Nat.sub_zero,List.drop_zero,Bxd hlen,Au,Ar (by omega) (by omega)]
  rw[Bjw ha,if_neg hy,← hk]
  rfl
 by_cases h:(k:Int)>0
 ·have hw:IntKind.wrap .i64 ((k:Int)-1)=((k-1:Nat):Int):=by rw[Ar (by omega) (by omega)];omega
  rw[if_pos h,hw,Int.toNat_natCast,if_pos (by omega)]
  by_cases c:(o.getD (k-1) Gs).1>y.1
  ·rw[if_pos c]
   have:Adc o y.1≤k-1:=by
    rcases Nat.lt_or_ge (k-1) (Adc o y.1) with h|h
    ·have:=Cdl h;omega
    ·exact h
   exact hag _ ⟨k-1,this,by omega,rfl⟩ (by simp only;omega)
  ·rw[if_neg c]
   refine fin ?_
   rcases Nat.lt_or_ge (Adc o y.1) k with h3|h3
   ·have h4:=Ck7 ho (a:=y.1) (i:=k-1) (by omega) (by omega)
    exact absurd (show (o.getD (k-1) Gs).1=y.1 by omega) (ha _ (Bt (by omega)))
   ·omega
 ·rw[if_neg h]
  exact fin (by omega)
theorem Bvf{m:List A5}{v:List (List Int)}(hr:Wp m)(hl:m.length≤90000) :
  Hf ((m,v,()),())=some ((Cf m,()),(),()):=by
 unfold Hf Ly
 refine Ak (I:=fun x=>∃ i:Nat,i≤m.length∧x=((m,v,()),(m.take i).foldl J0 [],(i:Int),())) (m:=fun x=>((m.length:Int)-x.2.2.1).toNat)
  (g:=fun _=>some ((Cf m,()),(),())) ?_ ⟨0,by omega,rfl⟩ (by rw[Av];simp only;omega)
 rintro x again ⟨i,hi,rfl⟩ hag
 simp only at hag ⊢
 unfold Tl
 rw[Cjk]
 simp only[Am,Ad,Ao]
 by_cases h:(i:Int)<(m.length:Int)
 ·have hil:i<m.length:=by omega
  rw[if_pos h,if_pos (by omega),Int.toNat_natCast]
  have ht:(m.take (i+1)).foldl J0 []=J0 ((m.take i).foldl J0 []) (m.getD i Gs):=by
   rw[Ok (d:=Gs) hil,List.foldl_append];rfl
  have hd:∀ x∈(m.take i).foldl J0 [],x.1≠(m.getD i Gs).1:=fun x hx=>by
   have hx':=Cfw hx
   have hd:=hr.dist
   rw[← List.take_append_drop i m,Bo0 hil] at hd
   exact (List.pairwise_append.1 hd).2.2 x hx' _ (by simp)
  have hs:=Bam (m.take i)
  have hln:((m.take i).foldl J0 []).length≤100000:=by
   have:=Bmt (m.take i) []
   rw[List.length_take] at this
   simp only[List.length_nil] at this
   omega
  have hgo:again ((m,v,()),(m.take (i+1)).foldl J0 [],((i+1:Nat):Int),())=some ((Cf m,()),(),()):=hag _ ⟨i+1,by omega,rfl⟩ (by simp only;omega)
  rw[ht] at hgo
  clear hag
  have hw:=hr.all.at i
  unfold Cf at hs
  generalize (m.take i).foldl J0 []=o at hd hs hln hgo ⊢
  have e:=Cdp hw
  have ez:=Bm9 hw
  clear hw
  generalize Dw (m.getD i Gs).2.1=q at e ez
  rw[ez,Aa]
  dsimp only
  rw[Ad]
  generalize m.getD i Gs=y at *
  by_cases c:isE y
  ·rw[if_pos (e.1 c).1,if_pos (e.1 c).2,Ar (by omega) (by omega)]
   rw[Bjw hd,if_pos c,Int.natCast_add] at hgo
   exact hgo
  ·rw[Cil hs hln (by omega) c hd]
   by_cases c1:q=0
   ·rw[if_pos c1,if_neg fun c2=>c (e.2 ⟨c1,c2⟩)]
    exact hgo
   ·rw[if_neg c1]
    exact hgo
 ·rw[if_neg h,List.take_of_length_le (by omega)]
  rfl
open Classical in
theorem Ce4{l:List A5}(ha:Xu l)(hl:l.length≤100000):Iu (l,())=some ((decide (VA l),()),(),()):=by
 unfold Iu Wf
 refine Ak (I:=fun x=>∃ i:Nat,i≤l.length∧(∀ j,j<i→okA l j)∧x=(l,(i:Int),())) (m:=fun x=>((l.length:Int)-x.2.1).toNat)
  (g:=fun _=>some ((decide (VA l),()),(),())) ?_
  ⟨0,by omega,fun j hj=>by omega,rfl⟩ (by rw[Av];simp only;omega)
 rintro x again ⟨i,hi,hok,rfl⟩ hag
 simp only at hag ⊢
 unfold Wx
 rw[Ca0]
 simp only[Am,Ad,Ao,Aq]
 by_cases h:(i:Int)<(l.length:Int)
 ·have hil:i<l.length:=by omega
  have ii:(0:Int)≤(i:Int)∧(i:Int)<(l.length:Int):=by omega
  have bad:¬ okA l i→decide (VA l)=false:=fun h=>decide_eq_false fun hv=>h (hv i hil)
  have hnx:okA l i→again (l,(i:Int)+1,())=some ((decide (VA l),()),(),()):=fun h =>
   hag _ ⟨i+1,by omega,fun j hj=>by
    by_cases e:j=i
    ·rw[e];exact h
    ·exact hok j (by omega),by rw[Int.natCast_add];rfl⟩ (by simp only;omega)
  clear hag
  have hwi:IntKind.wrap .i64 ((i:Int)+1)=(i:Int)+1:=Ar (by omega) (by omega)
  have hwj:IntKind.wrap .i64 ((i:Int)-1)=(i:Int)-1:=Ar (by omega) (by omega)
  have htj:((i:Int)-1).toNat=i-1:=by omega
  simp only[if_pos h,if_pos ii,hwi,hwj,htj,Int.toNat_natCast]
  have hw:=ha.at i
  have e:=Cdp hw
  have ez:=Bm9 hw
  clear hw
  generalize Dw (l.getD i Gs).2.1=q at e ez
  rw[ez,Aa]
  dsimp only
  rw[Ad]
  unfold okA at bad hnx
  generalize l.getD i Gs=y at *
  by_cases c1:y.1=0
  ·rw[if_pos c1,bad fun h=>h.1 c1]
  rw[if_neg c1]
  have tail:(0<i→(l.getD (i-1) Gs).1<y.1)→(if q=0 then (if y.2.2.1=0 then some ((false,()),(),()) else again (l,(i:Int)+1,())) else again (l,(i:Int)+1,()))=some ((decide (VA l),()),(),()):=fun hq=>by
   by_cases c:isE y
   ·rw[if_pos (e.1 c).1,if_pos (e.1 c).2,bad fun h=>h.2.1 c]
   ·rw[hnx ⟨c1,c,hq⟩]
    by_cases c1:q=0
    ·rw[if_pos c1,if_neg fun c2=>c (e.2 ⟨c1,c2⟩)]
    ·rw[if_neg c1]
  by_cases c3:(i:Int)>0
  ·rw[if_pos c3,if_pos (by omega)]
   by_cases c4:y.1≤(l.getD (i-1) Gs).1
   ·rw[if_pos c4,bad fun h=>by have:=h.2.2 (by omega);omega]
   ·rw[if_neg c4]
    exact tail fun _=>by omega
  ·rw[if_neg c3]
   exact tail fun _=>by omega
 ·have hva:VA l:=fun j hj=>hok j (by omega)
  rw[if_neg h,decide_eq_true hva]
abbrev Bn:=Int×(List Int×Unit)
abbrev Eb:Bn:=((0:Int),[(0:Int),0,0,0],())
abbrev Ce0(a:Int):Bn:=(a,[(0:Int),0,0,0],())
inductive Akj:Bn→Prop
 | mk {a:Int} {b:Nat} (ha:B4 a) (hb:Al b):Akj (a,Aw b,())
def Fh(l:List Bn):Prop:=∀ x∈l,Akj x
def Ala(x:Bn):Prop:=x=Ce0 x.1
instance(x:Bn):Decidable (Ala x):=inferInstanceAs (Decidable (x=Ce0 x.1))
theorem Cm0{a:Int}(h:B4 a):Akj (Ce0 a):=by
 have:=Akj.mk (a:=a) (b:=0) h (by unfold Al;omega)
 exact this
theorem Cp4:Akj Eb:=Cm0 (by unfold B4;omega)
theorem Fh.at{l:List Bn}(h:Fh l)(i:Nat):Akj (l.getD i Eb):=by
 rcases Nat.lt_or_ge i l.length with hi|hi
 ·exact h _ (Bt hi)
 ·rw[List.getD_eq_getElem?_getD,List.getElem?_eq_none hi];exact Cp4
def pget:List Bn→Int→Bn
 | [],a=>Ce0 a
 | x::l,a=>if x.1=a then x else pget l a
def Nl:List Bn→Bn→List Bn
 | [],y=>if Ala y then [] else [y]
 | x::l,y=>if x.1<y.1 then x::Nl l y else if x.1=y.1 then (if Ala y then l else y::l) else (if Ala y then x::l else y::x::l)
def Bcs(l:List Bn):Prop:=l.Pairwise fun x y=>x.1<y.1
def NEP(l:List Bn):Prop:=∀ x∈l,¬ Ala x
def Ao9(l:List Bn):Nat:=(l.map fun x=>Dw x.2.1).sum
theorem Axr:Ao9 []=0:=rfl
theorem Bsr(x:Bn)(l:List Bn):Ao9 (x::l)=Dw x.2.1+Ao9 l:=by simp[Ao9]
theorem Bjp(l m:List Bn):Ao9 (l++m)=Ao9 l+Ao9 m:=by simp[Ao9]
theorem Ti:∀ {l:List Bn} {a:Int},(∀ x∈l,x.1≠a)→pget l a=Ce0 a
 | [],_,_=>rfl
 | x::l,a,h=>by
  unfold pget
  rw[if_neg (h x (by simp)),Ti fun y hy=>h y (by simp[hy])]
theorem Ca5:∀ (l:List Bn) (a:Int),(pget l a).1=a
 | [],_=>rfl
 | x::l,a=>by
  unfold pget
  by_cases h:x.1=a
  ·rw[if_pos h];exact h
  ·rw[if_neg h];exact Ca5 l a
theorem By3:∀ (l:List Bn) (a:Int),pget l a∈l∨((∀ x∈l,x.1≠a)∧pget l a=Ce0 a)
 | [],_=>.inr ⟨fun x h=>by simp at h,rfl⟩
 | x::l,a=>by
  unfold pget
  by_cases h:x.1=a
  ·rw[if_pos h];exact .inl (by simp)
  ·rw[if_neg h]
   rcases By3 l a with h1 | ⟨h1,h2⟩
   ·exact .inl (by simp[h1])
   ·exact .inr ⟨fun y hy=>by
     rcases List.mem_cons.1 hy with rfl|hy
     ·exact h
     ·exact h1 y hy,h2⟩
theorem Cps{l:List Bn}{a:Int}(h:Fh l)(ha:B4 a):Akj (pget l a):=by
 rcases By3 l a with h1 | ⟨_,h2⟩
 ·exact h _ h1
 ·rw[h2];exact Cm0 ha
theorem Aye:∀ {l:List Bn} {x y:Bn},x∈Nl l y→x∈l∨(x=y∧¬ Ala y)
 | [],x,y,h=>by
  unfold Nl at h
  by_cases he:Ala y
  ·rw[if_pos he] at h;simp at h
  ·rw[if_neg he] at h;exact .inr ⟨by simpa using h,he⟩
 | z::l,x,y,h=>by
  unfold Nl at h
  by_cases h1:z.1<y.1
  ·rw[if_pos h1] at h
   rcases List.mem_cons.1 h with rfl|h
   ·exact .inl (by simp)
   ·rcases Aye h with h|h
    ·exact .inl (by simp[h])
    ·exact .inr h
  ·rw[if_neg h1] at h
   by_cases h2:z.1=y.1
   ·rw[if_pos h2] at h
    by_cases he:Ala y
    ·rw[if_pos he] at h;exact .inl (by simp[h])
    ·rw[if_neg he] at h
     rcases List.mem_cons.1 h with rfl|h
     ·exact .inr ⟨rfl,he⟩
     ·exact .inl (by simp[h])
   ·rw[if_neg h2] at h
    by_cases he:Ala y
    ·rw[if_pos he] at h;exact .inl h
    ·rw[if_neg he] at h
     rcases List.mem_cons.1 h with rfl|h
     ·exact .inr ⟨rfl,he⟩
     ·exact .inl h
theorem Axy:∀ {l:List Bn} {y:Bn},Bcs l→Bcs (Nl l y)
 | [],y,_=>by
  unfold Nl
  by_cases he:Ala y
  ·rw[if_pos he];exact List.Pairwise.nil
  ·rw[if_neg he];exact List.pairwise_singleton _ _
 | z::l,y,h=>by
  have h':=List.pairwise_cons.1 h
  unfold Nl
  by_cases h1:z.1<y.1
  ·rw[if_pos h1]
   refine List.pairwise_cons.2 ⟨fun x hx=>?_,Axy h'.2⟩
   rcases Aye hx with hx | ⟨rfl,_⟩
   ·exact h'.1 x hx
   ·exact h1
  ·rw[if_neg h1]
   by_cases h2:z.1=y.1
   ·rw[if_pos h2]
    by_cases he:Ala y
    ·rw[if_pos he];exact h'.2
    ·rw[if_neg he]
     exact List.pairwise_cons.2 ⟨fun x hx=>by rw[← h2];exact h'.1 x hx,h'.2⟩
   ·rw[if_neg h2]
    by_cases he:Ala y
    ·rw[if_pos he];exact h
    ·rw[if_neg he]
     refine List.pairwise_cons.2 ⟨fun x hx=>?_,h⟩
     rcases List.mem_cons.1 hx with rfl|hx
     ·omega
     ·have:=h'.1 x hx;omega
theorem Bua{l:List Bn}{y:Bn}(h:NEP l):NEP (Nl l y):=fun x hx=>by
 rcases Aye hx with hx | ⟨rfl,he⟩
 ·exact h x hx
 ·exact he
theorem Bz8{l:List Bn}{y:Bn}(h:Fh l)(hy:Akj y):Fh (Nl l y):=fun x hx=>by
 rcases Aye hx with hx | ⟨rfl,he⟩
 ·exact h x hx
 ·exact hy
theorem Bnf:∀ (l:List Bn) (y:Bn),(Nl l y).length≤l.length+1
 | [],y=>by
  unfold Nl
  by_cases he:Ala y
  ·rw[if_pos he];simp
  ·rw[if_neg he];simp
 | z::l,y=>by
  have:=Bnf l y
  unfold Nl
  split
  ·simp;omega
  ·split
   ·split<;>(simp;try omega)
   ·split<;>simp
theorem Bim:∀ {l:List Bn} {y:Bn} {a:Int},Bcs l→pget (Nl l y) a=if a=y.1 then y else pget l a
 | [],y,a,_=>by
  unfold Nl
  by_cases he:Ala y
  ·rw[if_pos he]
   by_cases ha:a=y.1
   ·rw[if_pos ha,ha];exact he.symm
   ·rw[if_neg ha]
  ·rw[if_neg he]
   simp only[pget]
   by_cases ha:a=y.1
   ·rw[if_pos ha,if_pos ha.symm]
   ·rw[if_neg ha,if_neg fun h=>ha h.symm]
 | z::l,y,a,h=>by
  have h':=List.pairwise_cons.1 h
  unfold Nl
  by_cases h1:z.1<y.1
  ·rw[if_pos h1]
   have ih:=Bim (y:=y) (a:=a) h'.2
   simp only[pget]
   rw[ih]
   by_cases hz:z.1=a
   ·rw[if_pos hz,if_neg (by omega),if_pos hz]
   ·rw[if_neg hz,if_neg hz]
  ·rw[if_neg h1]
   by_cases h2:z.1=y.1
   ·rw[if_pos h2]
    by_cases he:Ala y
    ·rw[if_pos he]
     by_cases ha:a=y.1
     ·rw[if_pos ha,Ti fun x hx=>by have:=h'.1 x hx;omega,ha]
      exact he.symm
     ·rw[if_neg ha]
      simp only[pget]
      rw[if_neg (by omega)]
    ·rw[if_neg he]
     simp only[pget]
     by_cases ha:a=y.1
     ·rw[if_pos ha,if_pos ha.symm]
     ·rw[if_neg ha,if_neg (fun h=>ha h.symm),if_neg (by omega)]
   ·rw[if_neg h2]
    by_cases he:Ala y
    ·rw[if_pos he]
     by_cases ha:a=y.1
     ·rw[if_pos ha,Ti (fun x hx=>?_),ha]
      ·exact he.symm
      ·rcases List.mem_cons.1 hx with rfl|hx
       ·omega
       ·have:=h'.1 x hx;omega
     ·rw[if_neg ha]
    ·rw[if_neg he]
     simp only[pget]
     by_cases ha:a=y.1
     ·rw[if_pos ha,if_pos ha.symm]
     ·rw[if_neg ha,if_neg fun h=>ha h.symm]
theorem Ah2{x:Bn}{l:List Bn}:pget (x::l) x.1=x:=by unfold pget;rw[if_pos rfl]
theorem Cqy:∀ {l m:List Bn},Bcs l→Bcs m→NEP l→NEP m→(∀ a,pget l a=pget m a)→l=m
 | [],[],_,_,_,_,_=>rfl
 | [],y::m,_,_,_,hn,h=>by
  have:=h y.1
  rw[Ah2] at this
  exact absurd this.symm (hn y (by simp))
 | x::l,[],_,_,hn,_,h=>by
  have:=h x.1
  rw[Ah2] at this
  exact absurd this (hn x (by simp))
 | x::l,y::m,hs,ht,hn,hm,h=>by
  have hs':=List.pairwise_cons.1 hs
  have ht':=List.pairwise_cons.1 ht
  rcases Int.lt_trichotomy x.1 y.1 with h1|h1|h1
  ·have:=h x.1
   rw[Ah2,Ti (l:=y::m) (fun z hz=>by
    rcases List.mem_cons.1 hz with rfl|hz
    ·omega
    ·have:=ht'.1 z hz;omega)] at this
   exact absurd this (hn x (by simp))
  ·have e:x=y:=by
    have:=h x.1
    rw[Ah2,h1,Ah2] at this
    exact this
   subst e
   congr 1
   refine Cqy hs'.2 ht'.2 (fun z hz=>hn z (by simp[hz])) (fun z hz=>hm z (by simp[hz])) fun a=>?_
   by_cases ha:x.1=a
   ·rw[Ti fun z hz=>by have:=hs'.1 z hz;omega,Ti fun z hz=>by have:=ht'.1 z hz;omega]
   ·have:=h a
    simp only[pget] at this
    rw[if_neg ha,if_neg ha] at this
    exact this
  ·have:=h y.1
   rw[Ah2,Ti (l:=x::l) (fun z hz=>by
    rcases List.mem_cons.1 hz with rfl|hz
    ·omega
    ·have:=hs'.1 z hz;omega)] at this
   exact absurd this.symm (hm y (by simp))
def Adp:List Bn→Int→Nat
 | [],_=>0
 | p::l,a=>if p.1<a then Adp l a+1 else 0
theorem Cg1(p:Bn)(l:List Bn)(a:Int):Adp (p::l) a=if p.1<a then Adp l a+1 else 0:=rfl
theorem Cef(a:Int):∀ l:List Bn,Adp l a≤l.length
 | []=>by simp[Adp]
 | p::l=>by
  have:=Cef a l
  unfold Adp
  split
  ·simp;omega
  ·simp
theorem Cdt:∀ {l:List Bn} {a:Int} {i:Nat},i<Adp l a→(l.getD i Eb).1<a
 | [],a,i,h=>by simp[Adp] at h
 | p::l,a,i,h=>by
  unfold Adp at h
  by_cases hp:p.1<a
  ·rw[if_pos hp] at h
   cases i with
   | zero=>exact hp
   | succ i=>exact Cdt (l:=l) (by omega)
  ·rw[if_neg hp] at h;omega
theorem Ckw{l:List Bn}(h:Bcs l){i j:Nat}(hij:i<j)(hj:j<l.length):(l.getD i Eb).1<(l.getD j Eb).1:=by
 have:=List.pairwise_iff_getElem.1 h i j (by omega) hj hij
 rw[List.getD_eq_getElem?_getD,List.getElem?_eq_getElem (by omega),List.getD_eq_getElem?_getD,List.getElem?_eq_getElem hj]
 exact this
theorem Ceo:∀ {l:List Bn} {a:Int},Adp l a<l.length→a≤(l.getD (Adp l a) Eb).1
 | [],a,h=>by simp[Adp] at h
 | p::l,a,h=>by
  unfold Adp at h ⊢
  by_cases hp:p.1<a
  ·rw[if_pos hp] at h ⊢
   exact Ceo (l:=l) (by simpa using h)
  ·rw[if_neg hp] at h ⊢
   show a≤p.1
   omega
theorem Cls{l:List Bn}(hs:Bcs l){a:Int}{i:Nat}(h:Adp l a≤i)(hi:i<l.length):a≤(l.getD i Eb).1:=by
 have h1:=Ceo (l:=l) (a:=a) (by omega)
 rcases Nat.lt_or_ge (Adp l a) i with h2|h2
 ·have:=Ckw hs h2 hi;omega
 ·rw[show i=Adp l a by omega];exact h1
abbrev Bu1(l:List Bn)(a:Int):Prop:=Adp l a<l.length∧(l.getD (Adp l a) Eb).1=a
theorem Cat:∀ (l:List Bn) (y:Bn),Nl l y=if Bu1 l y.1 then (if Ala y then l.take (Adp l y.1)++l.drop (Adp l y.1+1) else l.set (Adp l y.1) y) else
  (if Ala y then l else l.take (Adp l y.1)++(y::l.drop (Adp l y.1)))
 | [],y=>by
  unfold Nl Bu1 Adp
  simp
 | p::l,y=>by
  unfold Bu1
  rw[Cg1]
  unfold Nl
  by_cases hp:p.1<y.1
  ·rw[if_pos hp,if_pos hp,Cat l y]
   unfold Bu1
   simp only[List.length_cons,Nat.add_lt_add_iff_right,List.getD_cons_succ,List.take_succ_cons,List.drop_succ_cons,List.set_cons_succ]
   split
   ·split<;>rfl
   ·split<;>rfl
  ·rw[if_neg hp,if_neg hp]
   simp only[List.length_cons,List.getD_cons_zero,Nat.zero_lt_succ,true_and,List.take_zero,List.drop_zero,List.nil_append,List.set_cons_zero,Nat.zero_add,List.drop_succ_cons]
def Bmn(m:List Bn):Prop:=m.Pairwise fun x y=>x.1≠y.1
def Ajs:List Bn→Bn→List Bn
 | [],y=>[y]
 | x::m,y=>if x.1=y.1 then y::m else x::Ajs m y
def Aqf(m:List Bn):List Bn:=m.foldl Nl []
theorem Bf6:∀ {m:List Bn} {x y:Bn},x∈Ajs m y→x∈m∨x=y
 | [],x,y,h=>.inr (by simpa [Ajs] using h)
 | z::m,x,y,h=>by
  unfold Ajs at h
  by_cases hz:z.1=y.1
  ·rw[if_pos hz] at h
   rcases List.mem_cons.1 h with rfl|h
   ·exact .inr rfl
   ·exact .inl (by simp[h])
  ·rw[if_neg hz] at h
   rcases List.mem_cons.1 h with rfl|h
   ·exact .inl (by simp)
   ·rcases Bf6 h with h|h
    ·exact .inl (by simp[h])
    ·exact .inr h
theorem Big:∀ {m:List Bn} {y:Bn},Bmn m→Bmn (Ajs m y)
 | [],y,_=>List.pairwise_singleton _ _
 | z::m,y,h=>by
  have h':=List.pairwise_cons.1 h
  unfold Ajs
  by_cases hz:z.1=y.1
  ·rw[if_pos hz]
   exact List.pairwise_cons.2 ⟨fun x hx=>by rw[← hz];exact h'.1 x hx,h'.2⟩
  ·rw[if_neg hz]
   refine List.pairwise_cons.2 ⟨fun x hx=>?_,Big h'.2⟩
   rcases Bf6 hx with hx|rfl
   ·exact h'.1 x hx
   ·exact hz
theorem Ci6{m:List Bn}{y:Bn}(h:Fh m)(hy:Akj y):Fh (Ajs m y):=fun x hx=>by
 rcases Bf6 hx with hx|rfl
 ·exact h x hx
 ·exact hy
theorem Bz4:∀ (m:List Bn) (y:Bn),(Ajs m y).length≤m.length+1
 | [],y=>by simp[Ajs]
 | z::m,y=>by
  have:=Bz4 m y
  unfold Ajs
  split
  ·simp
  ·simp;omega
theorem Bty:∀ (m:List Bn) (y:Bn) (a:Int),pget (Ajs m y) a=if a=y.1 then y else pget m a
 | [],y,a=>by
  simp only[Ajs,pget]
  by_cases ha:a=y.1
  ·rw[if_pos ha,if_pos ha.symm]
  ·rw[if_neg ha,if_neg fun h=>ha h.symm]
 | z::m,y,a=>by
  unfold Ajs
  by_cases hz:z.1=y.1
  ·rw[if_pos hz]
   simp only[pget]
   by_cases ha:a=y.1
   ·rw[if_pos ha,if_pos ha.symm]
   ·rw[if_neg ha,if_neg (fun h=>ha h.symm),if_neg (by omega)]
  ·rw[if_neg hz]
   simp only[pget]
   rw[Bty m y a]
   by_cases ha:z.1=a
   ·rw[if_pos ha,if_neg (by omega),if_pos ha]
   ·rw[if_neg ha,if_neg ha]
theorem Bth:∀ (m:List Bn) {o:List Bn},Bcs o→Bcs (m.foldl Nl o)
 | [],_,h=>h
 | x::m,_,h=>Bth m (Axy h)
theorem Bzm:∀ (m:List Bn) {o:List Bn},NEP o→NEP (m.foldl Nl o)
 | [],_,h=>h
 | x::m,_,h=>Bzm m (Bua h)
theorem Btk:∀ {m o:List Bn},Fh m→Fh o→Fh (m.foldl Nl o)
 | [],_,_,h=>h
 | x::m,o,hm,h=>Btk (m:=m) (o:=Nl o x) (fun y hy=>hm y (by simp[hy])) (Bz8 h (hm x (by simp)))
theorem Bab(m:List Bn):Bcs (Aqf m):=Bth m List.Pairwise.nil
theorem Bxt(m:List Bn):NEP (Aqf m):=Bzm m fun x h=>by simp at h
theorem Ce2{m:List Bn}(h:Fh m):Fh (Aqf m):=Btk h fun x h=>by simp at h
theorem Bt0:∀ {m o:List Bn} {x:Bn},x∈m.foldl Nl o→x∈m∨x∈o
 | [],_,_,h=>.inr h
 | y::m,o,x,h=>by
  rcases Bt0 (m:=m) h with h|h
  ·exact .inl (by simp[h])
  ·rcases Aye h with h | ⟨rfl,_⟩
   ·exact .inr h
   ·exact .inl (by simp)
theorem Cfs{m:List Bn}{x:Bn}(h:x∈Aqf m):x∈m:=by
 rcases Bt0 h with h|h
 ·exact h
 ·simp at h
theorem Bsm:∀ {m o:List Bn} (a:Int),Bmn m→Bcs o→((∀ x∈m,x.1≠a)∧pget (m.foldl Nl o) a=pget o a)∨((∃ x∈m,x.1=a)∧pget (m.foldl Nl o) a=pget m a)
 | [],o,a,_,_=>.inl ⟨fun x h=>by simp at h,rfl⟩
 | y::m,o,a,hd,ho=>by
  have hd':=List.pairwise_cons.1 hd
  show ((∀ x∈y::m,x.1≠a)∧pget (m.foldl Nl (Nl o y)) a=pget o a)∨((∃ x∈y::m,x.1=a)∧pget (m.foldl Nl (Nl o y)) a=pget (y::m) a)
  rcases Bsm (m:=m) (o:=Nl o y) a hd'.2 (Axy ho) with⟨h1,h2⟩ | ⟨⟨z,hz,h1⟩,h2⟩
  ·rw[h2,Bim ho]
   by_cases ha:a=y.1
   ·rw[if_pos ha]
    exact .inr ⟨⟨y,by simp,ha.symm⟩,by rw[ha,Ah2]⟩
   ·rw[if_neg ha]
    refine .inl ⟨fun x hx=>?_,rfl⟩
    rcases List.mem_cons.1 hx with rfl|hx
    ·exact fun h=>ha h.symm
    ·exact h1 x hx
  ·refine .inr ⟨⟨z,by simp[hz],h1⟩,?_⟩
   rw[h2]
   simp only[pget]
   rw[if_neg]
   have:=hd'.1 z hz
   rw[h1] at this
   exact this
theorem Bb8{m:List Bn}(h:Bmn m)(a:Int):pget (Aqf m) a=pget m a:=by
 rcases Bsm (o:=[]) a h List.Pairwise.nil with⟨h1,h2⟩ | ⟨_,h2⟩
 ·exact h2.trans (by rw[Ti h1];rfl)
 ·exact h2
theorem Ccw{m:List Bn}{y:Bn}(h:Bmn m):Aqf (Ajs m y)=Nl (Aqf m) y :=
 Cqy (Bab _) (Axy (Bab m)) (Bxt _) (Bua (Bxt m)) fun a=>by
  rw[Bb8 (Big h),Bty,Bim (Bab m),Bb8 h]
theorem Bsi:∀ (m o:List Bn),(m.foldl Nl o).length≤o.length+m.length
 | [],o=>by simp
 | x::m,o=>by
  have h1:=Bsi m (Nl o x)
  have h2:=Bnf o x
  simp only[List.foldl_cons,List.length_cons]
  omega
def Ay2(x y:Nat):Nat:=(x % 4294967296) ^^^ (y % 4294967296)
def Bor(x y:Nat):Nat:=(x % 4294967296) &&& (y % 4294967296)
def Ccx(x y:Nat):Nat:=(x % 4294967296) ||| (y % 4294967296)
def Agx(x y:Nat):Nat:=(x+y) % 4294967296
def Ah7(x n:Nat):Nat:=Ccx (x*2 ^ (32-n) % 4294967296) (x / 2 ^ n)
theorem Cji(x y:Nat):Ay2 x y<4294967296:=Nat.xor_lt_two_pow (n:=32) (Nat.mod_lt _ (by omega)) (Nat.mod_lt _ (by omega))
theorem Ch2(x y:Nat):Bor x y<4294967296:=Nat.and_lt_two_pow (n:=32) _ (Nat.mod_lt _ (by omega))
theorem Ck3(x y:Nat):Ccx x y<4294967296:=Nat.or_lt_two_pow (n:=32) (Nat.mod_lt _ (by omega)) (Nat.mod_lt _ (by omega))
theorem Cfu(x y:Nat):Ccx x y=Ccx y x:=Nat.or_comm _ _
theorem Ca1(x y z:Nat):Agx (Agx x y) z=Agx x (Agx y z):=by unfold Agx;omega
theorem Az0(x:Nat):IntKind.wrap .u32 (x:Int)=((x % 4294967296:Nat):Int):=by rw[IntKind.wrap_u32];omega
theorem x32(x y:Nat):IntKind.wrap .u32 ((BitVec.toNat (BitVec.ofInt 32 (x:Int) ^^^ BitVec.ofInt 32 (y:Int)):Nat):Int)=((Ay2 x y:Nat):Int):=by
 rw[BitVec.toNat_xor,BitVec.ofInt_natCast,BitVec.ofInt_natCast,BitVec.toNat_ofNat,BitVec.toNat_ofNat,Az0,← Nat.mod_eq_of_lt (Cji x y)];rfl
theorem n32(x y:Nat):IntKind.wrap .u32 ((BitVec.toNat (BitVec.ofInt 32 (x:Int) &&& BitVec.ofInt 32 (y:Int)):Nat):Int)=((Bor x y:Nat):Int):=by
 rw[BitVec.toNat_and,BitVec.ofInt_natCast,BitVec.ofInt_natCast,BitVec.toNat_ofNat,BitVec.toNat_ofNat,Az0,← Nat.mod_eq_of_lt (Ch2 x y)];rfl
theorem o32(x y:Nat):IntKind.wrap .u32 ((BitVec.toNat (BitVec.ofInt 32 (x:Int) ||| BitVec.ofInt 32 (y:Int)):Nat):Int)=((Ccx x y:Nat):Int):=by
 rw[BitVec.toNat_or,BitVec.ofInt_natCast,BitVec.ofInt_natCast,BitVec.toNat_ofNat,BitVec.toNat_ofNat,Az0,← Nat.mod_eq_of_lt (Ck3 x y)];rfl
theorem a32(x y:Nat):IntKind.wrap .u32 ((x:Int)+(y:Int))=((Agx x y:Nat):Int):=by rw[← Int.natCast_add,Az0];rfl
theorem m32(x c:Nat):IntKind.wrap .u32 ((x:Int)*(c:Int))=((x*c % 4294967296:Nat):Int):=by rw[← Int.natCast_mul,Az0]
theorem d32(x c:Nat):Int.fdiv (x:Int) (c:Int)=((x / c:Nat):Int):=by rw[Int.fdiv_eq_ediv_of_nonneg _ (Int.natCast_nonneg _)];rfl
def sig(r1 r2 s x:Nat):Nat:=Ay2 (Ay2 (Ah7 x r1) (Ah7 x r2)) (x / s)
def Crk(r1 r2 r3 x:Nat):Nat:=Ay2 (Ay2 (Ah7 x r1) (Ah7 x r2)) (Ah7 x r3)
def Che(b:List Int)(i:Nat):Nat:=(b.getD (4*i) 0).toNat*16777216+(b.getD (4*i+1) 0).toNat*65536+(b.getD (4*i+2) 0).toNat*256+(b.getD (4*i+3) 0).toNat
def Bzn(l:List Nat)(i:Nat):Nat:=Agx (Agx (Agx (l.getD (i-16) 0) (sig 7 18 8 (l.getD (i-15) 0))) (l.getD (i-7) 0)) (sig 17 19 1024 (l.getD (i-2) 0))
def I5(b:List Int):Nat→List Nat
 | 0=>[]
 | i+1=>I5 b i++[if i<16 then Che b i else Bzn (I5 b i) i]
def Bgh:List Nat:=[
 0x428a2f98,0x71374491,0xb5c0fbcf,0xe9b5dba5,0x3956c25b,0x59f111f1,0x923f82a4,0xab1c5ed5,
 0xd807aa98,0x12835b01,0x243185be,0x550c7dc3,0x72be5d74,0x80deb1fe,0x9bdc06a7,0xc19bf174,
 0xe49b69c1,0xefbe4786,0x0fc19dc6,0x240ca1cc,0x2de92c6f,0x4a7484aa,0x5cb0a9dc,0x76f988da,
 0x983e5152,0xa831c66d,0xb00327c8,0xbf597fc7,0xc6e00bf3,0xd5a79147,0x06ca6351,0x14292967,
 0x27b70a85,0x2e1b2138,0x4d2c6dfc,0x53380d13,0x650a7354,0x766a0abb,0x81c2c92e,0x92722c85,
 0xa2bfe8a1,0xa81a664b,0xc24b8b70,0xc76c51a3,0xd192e819,0xd6990624,0xf40e3585,0x106aa070,
 0x19a4c116,0x1e376c08,0x2748774c,0x34b0bcb5,0x391c0cb3,0x4ed8aa4a,0x5b9cca4f,0x682e6ff3,
 0x748f82ee,0x78a5636f,0x84c87814,0x8cc70208,0x90befffa,0xa4506ceb,0xbef9a3f7,0xc67178f2]
def iv:List Nat:=[0x6a09e667,0xbb67ae85,0x3c6ef372,0xa54ff53a,0x510e527f,0x9b05688c,0x1f83d9ab,0x5be0cd19]
def rnd(t:List Nat)(k w:Nat):List Nat :=
 let a:=t.getD 0 0;let b:=t.getD 1 0;let c:=t.getD 2 0;let e:=t.getD 4 0;let f:=t.getD 5 0;let g:=t.getD 6 0
 let p:=Agx (Agx (Agx (Agx (t.getD 7 0) (Crk 6 11 25 e)) (Ay2 (Bor e f) (Bor (Ay2 4294967295 e) g))) k) w
 [Agx (Agx p (Crk 2 13 22 a)) (Ay2 (Ay2 (Bor a b) (Bor a c)) (Bor b c)),a,b,c,Agx (t.getD 3 0) p,e,f,g]
def Qw(w s:List Nat):Nat→List Nat
 | 0=>s
 | i+1=>rnd (Qw w s i) (Bgh.getD i 0) (w.getD i 0)
def Aoz(t s:List Nat)(i:Nat):List Nat:=(List.range 8).map fun j=>if j<i then Agx (t.getD j 0) (s.getD j 0) else t.getD j 0
def Cle(s:List Nat)(b:List Int):List Nat:=Aoz (Qw (I5 b 64) s 64) s 8
def Afn(m:List Int):Nat→List Nat
 | 0=>iv
 | i+1=>Cle (Afn m i) ((m.drop (64*i)).take 64)
def Ayb(b:List Int):List Int:=b++128::(List.replicate ((119-b.length % 64) % 64) 0++beB 8 (b.length*8))
def Yf(s:List Nat):List Int:=(List.range 32).map fun i=>((s.getD (i / 4) 0 / 2 ^ (24-8*(i % 4)) % 256:Nat):Int)
def sha(b:List Int):List Int:=Yf (Afn (Ayb b) ((Ayb b).length / 64))
theorem Cmr(b:List Int):(sha b).length=32:=by simp[sha,Yf]
theorem Cew(b:List Int):Dy (sha b):=by
 intro x hx
 simp only[sha,Yf,List.mem_map] at hx
 obtain⟨i,_,rfl⟩:=hx
 omega
set_option maxRecDepth 4000
def Cg(l:List Nat):List Int:=l.map fun n=>((n:Nat):Int)
theorem Bi4{l:List Nat}:(Cg l).length=l.length:=by simp[Cg]
theorem Bt9{l m:List Nat}:Cg (l++m)=Cg l++Cg m:=by simp[Cg]
theorem Yw{l:List Nat}{i:Nat}:(Cg l).getD i 0=((l.getD i 0:Nat):Int):=by
 simp only[Cg,List.getD_eq_getElem?_getD,List.getElem?_map]
 cases l[i]?<;>rfl
def part(l:List Nat)(n:Nat):List Int:=Cg l++List.replicate (n-l.length) 0
theorem Adz{l:List Nat}{n j:Nat}(h:j<l.length):(part l n).getD j 0=((l.getD j 0:Nat):Int):=by
 rw[part,List.getD_eq_getElem?_getD,List.getElem?_append_left (by rw[Bi4];exact h),← List.getD_eq_getElem?_getD,Yw]
theorem At1{l:List Nat}{n:Nat}(h:l.length<n)(x:Nat):(part l n).set l.length (x:Int)=part (l++[x]) n:=by
 have e:n-l.length=(n-(l.length+1))+1:=by omega
 simp only[part,Bt9,List.length_append,List.length_singleton]
 rw[List.set_append,if_neg (by rw[Bi4];omega),Bi4,Nat.sub_self,e,List.replicate_succ,List.set_cons_zero]
 simp[Cg]
theorem Bau{l:List Nat}:part l l.length=Cg l:=by simp[part]
theorem Bgq{n:Nat}:part [] n=List.replicate n 0:=by simp[part,Cg]
theorem Az8(b:List Int):∀ i,(I5 b i).length=i
 | 0=>rfl
 | i+1=>by simp[I5,Az8 b i]
theorem Ai6(x n:Nat)(h1:1≤n)(h2:n≤31):Bb ((x:Int),-((n:Nat):Int),())=some ((((Ah7 x n:Nat):Int),()),(),(),()):=by
 unfold Bb Q8
 simp only[Am]
 have e:∀ n,n<32→1≤n→IntKind.wrap .u64 ((BitVec.toNat (BitVec.ofInt 64 (IntKind.wrap .u64 (-((n:Nat):Int))) &&& BitVec.ofInt 64 31):Nat):Int)=((32-n:Nat):Int):=by decide
 rw[e n (by omega) h1,Ad,if_pos (by omega),show (32:Int)-((32-n:Nat):Int)=((n:Nat):Int) by omega,H4 (by omega) (by omega),Ad,if_pos (by omega)]
 simp only[Int.toNat_natCast]
 have p:∀ k:Nat,(2:Int) ^ k=((2 ^ k:Nat):Int):=fun k=>by rw[Int.natCast_pow];rfl
 rw[Nat.min_eq_left (by omega),Nat.min_eq_left (by omega),p,p,m32,d32,o32]
 rfl
theorem Cts(x:Nat):Bb ((x:Int),(-7:Int),())=some ((((Ah7 x 7:Nat):Int),()),(),(),()):=Ai6 x 7 (by omega) (by omega)
theorem Cqt(x:Nat):Bb ((x:Int),(-18:Int),())=some ((((Ah7 x 18:Nat):Int),()),(),(),()):=Ai6 x 18 (by omega) (by omega)
theorem Cqu(x:Nat):Bb ((x:Int),(-17:Int),())=some ((((Ah7 x 17:Nat):Int),()),(),(),()):=Ai6 x 17 (by omega) (by omega)
theorem Cq1(x:Nat):Bb ((x:Int),(-19:Int),())=some ((((Ah7 x 19:Nat):Int),()),(),(),()):=Ai6 x 19 (by omega) (by omega)
theorem Ctf(x:Nat):Bb ((x:Int),(-6:Int),())=some ((((Ah7 x 6:Nat):Int),()),(),(),()):=Ai6 x 6 (by omega) (by omega)
theorem Cqp(x:Nat):Bb ((x:Int),(-11:Int),())=some ((((Ah7 x 11:Nat):Int),()),(),(),()):=Ai6 x 11 (by omega) (by omega)
theorem Cqm(x:Nat):Bb ((x:Int),(-25:Int),())=some ((((Ah7 x 25:Nat):Int),()),(),(),()):=Ai6 x 25 (by omega) (by omega)
theorem Ctz(x:Nat):Bb ((x:Int),(-2:Int),())=some ((((Ah7 x 2:Nat):Int),()),(),(),()):=Ai6 x 2 (by omega) (by omega)
theorem Cpk(x:Nat):Bb ((x:Int),(-13:Int),())=some ((((Ah7 x 13:Nat):Int),()),(),(),()):=Ai6 x 13 (by omega) (by omega)
theorem Cq3(x:Nat):Bb ((x:Int),(-22:Int),())=some ((((Ah7 x 22:Nat):Int),()),(),(),()):=Ai6 x 22 (by omega) (by omega)
theorem Cni(x:Nat):Int.fdiv (x:Int) 8=((x / 8:Nat):Int):=d32 x 8
theorem Bxz(x:Nat):Int.fdiv (x:Int) 1024=((x / 1024:Nat):Int):=d32 x 1024
theorem Cnj(x:Nat):IntKind.wrap .u32 ((BitVec.toNat (BitVec.ofInt 32 4294967295 ^^^ BitVec.ofInt 32 (x:Int)):Nat):Int)=((Ay2 4294967295 x:Nat):Int):=x32 4294967295 x
theorem Ck5{p q r s:Int}(hp:0≤p∧p≤255)(hq:0≤q∧q≤255)(hr:0≤r∧r≤255)(hs:0≤s∧s≤255) :
  IntKind.wrap .u32 ((BitVec.toNat (BitVec.ofInt 32 (IntKind.wrap .u32 ((BitVec.toNat (BitVec.ofInt 32 (IntKind.wrap .u32 ((BitVec.toNat (BitVec.ofInt 32 (IntKind.wrap .u32 (IntKind.wrap .u32 p*16777216)) ||| BitVec.ofInt 32 (IntKind.wrap .u32 (IntKind.wrap .u32 q*65536))):Nat):Int)) |||
   BitVec.ofInt 32 (IntKind.wrap .u32 (IntKind.wrap .u32 r*256))):Nat):Int)) ||| BitVec.ofInt 32 (IntKind.wrap .u32 s)):Nat):Int)=((p.toNat*16777216+q.toNat*65536+r.toNat*256+s.toNat:Nat):Int):=by
 obtain⟨p,rfl⟩:=Int.eq_ofNat_of_zero_le hp.1
 obtain⟨q,rfl⟩:=Int.eq_ofNat_of_zero_le hq.1
 obtain⟨r,rfl⟩:=Int.eq_ofNat_of_zero_le hr.1
 obtain⟨s,rfl⟩:=Int.eq_ofNat_of_zero_le hs.1
 rw[Bpp (n:=(p:Int)) (by omega) (by omega),Bpp (n:=(q:Int)) (by omega) (by omega),Bpp (n:=(r:Int)) (by omega) (by omega),Bpp (n:=(s:Int)) (by omega) (by omega)]
 rw[show (p:Int)*16777216=((p*16777216:Nat):Int) by omega,show (q:Int)*65536=((q*65536:Nat):Int) by omega,show (r:Int)*256=((r*256:Nat):Int) by omega]
 rw[Bpp (n:=((p*16777216:Nat):Int)) (by omega) (by omega),Bpp (n:=((q*65536:Nat):Int)) (by omega) (by omega),Bpp (n:=((r*256:Nat):Int)) (by omega) (by omega),o32,o32,o32]
 have o:∀ (a b i:Nat),b<2 ^ i→2 ^ i*a+b<4294967296→Ccx (2 ^ i*a) b=2 ^ i*a+b:=fun a b i h1 h2=>by
  unfold Ccx
  rw[Nat.mod_eq_of_lt (by omega),Nat.mod_eq_of_lt (by omega),Nat.two_pow_add_eq_or_of_lt h1]
 have e1:=o p (q*65536) 24 (by omega) (by omega)
 have e2:=o (p*256+q) (r*256) 16 (by omega) (by omega)
 have e3:=o (p*65536+q*256+r) s 8 (by omega) (by omega)
 rw[show p*16777216=2 ^ 24*p by omega,e1,show 2 ^ 24*p+q*65536=2 ^ 16*(p*256+q) by omega,e2,show 2 ^ 16*(p*256+q)+r*256=2 ^ 8*(p*65536+q*256+r) by omega,e3]
 simp only[Int.toNat_natCast];omega
theorem Bzx{b:List Int}(hb:Dy b)(hl:b.length=64):Jq (b,())=some ((Cg (I5 b 64),()),(),()):=by
 unfold Jq Alf
 have second:∀ t2:List Int,Ac _ _ (fun again x=>Ws Bb again x.1 x.2.1 x.2.2.1) (t2,part (I5 b 16) 64,(16:Int),())=some ((Cg (I5 b 64),()),(),()):=by
  intro t2
  refine Ak (I:=fun x=>(16:Int)≤x.2.2.1∧x.2.2.1≤(64:Int)∧x.2.1=part (I5 b x.2.2.1.toNat) 64) (m:=fun x=>((64:Int)-x.2.2.1).toNat) (g:=fun _=>some ((Cg (I5 b 64),()),(),())) ?_
   ⟨by simp only;omega,by simp only;omega,rfl⟩ (by simp only[Av];omega)
  rintro⟨t,w,i,_⟩ again ⟨e1,e2,e3⟩ hag
  simp only at e1 e2 e3 hag ⊢
  subst e3
  obtain⟨i,rfl⟩:=Int.eq_ofNat_of_zero_le (show 0≤i by omega)
  have hls:=Az8 b i
  simp only[Ws,Am,Ad,Ao,Int.toNat_natCast]
  by_cases hi:i<64
  ·rw[if_pos (by omega),Ar (n:=(i:Int)-7) (by omega) (by omega),Ar (n:=(i:Int)-16) (by omega) (by omega),Ar (n:=(i:Int)-2) (by omega) (by omega),Ar (n:=(i:Int)-15) (by omega) (by omega),Ar (n:=(i:Int)+1) (by omega) (by omega)]
   rw[show ((i:Int)-7).toNat=i-7 by omega,show ((i:Int)-16).toNat=i-16 by omega,show ((i:Int)-2).toNat=i-2 by omega,show ((i:Int)-15).toNat=i-15 by omega]
   rw[if_pos (by omega),if_pos (by omega),Adz (j:=i-7) (by omega),Adz (j:=i-16) (by omega),Adz (j:=i-2) (by omega),Adz (j:=i-15) (by omega)]
   simp only[Cts,Cqt,Cqu,Cq1,Aa]
   rw[if_pos (by omega),if_pos (by omega),if_pos (by omega)]
   simp only[x32,Cni,Bxz,a32]
   have es:(part (I5 b i) 64).set i ((Bzn (I5 b i) i:Nat):Int)=part (I5 b (i+1)) 64:=by
    have:=At1 (l:=I5 b i) (n:=64) (by omega) (Bzn (I5 b i) i)
    rw[hls] at this
    rw[this,I5,if_neg (by omega)]
   refine (congrArg again ?_).trans (hag (t,part (I5 b (i+1)) 64,((i:Int)+1),()) ⟨by simp only;omega,by simp only;omega,by simp only;rw[show ((i:Int)+1).toNat=i+1 by omega]⟩ (by simp only;omega))
   rw[← es];rfl
  ·have:i=64:=by omega
   subst this
   rw[if_neg (by omega)]
   have:=Bau (l:=I5 b 64)
   rw[hls] at this
   rw[this]
 refine Ak (I:=fun x=>x.1=b∧(0:Int)≤x.2.2.2.1∧x.2.2.2.1≤(16:Int)∧x.2.2.1=part (I5 b x.2.2.2.1.toNat) 64) (m:=fun x=>((16:Int)-x.2.2.2.1).toNat) (g:=fun _=>some ((Cg (I5 b 64),()),(),())) ?_
  ⟨rfl,by simp only;omega,by simp only;omega,by simp only;exact Bgq.symm⟩ (by simp only[Av];omega)
 rintro⟨b',t,w,i,_⟩ again ⟨e0,e1,e2,e3⟩ hag
 simp only at e0 e1 e2 e3 hag ⊢
 subst e0 e3
 obtain⟨i,rfl⟩:=Int.eq_ofNat_of_zero_le e1
 have hls:=Az8 b' i
 simp only[Ag7,Am,Ad,Ao,Int.toNat_natCast]
 by_cases hi:i<16
 ·rw[if_pos (by omega),Ar (n:=4*(i:Int)) (by omega) (by omega),Ar (n:=4*(i:Int)+3) (by omega) (by omega),Ar (n:=4*(i:Int)+2) (by omega) (by omega),Ar (n:=4*(i:Int)+1) (by omega) (by omega),Ar (n:=(i:Int)+1) (by omega) (by omega)]
  rw[show (4*(i:Int)).toNat=4*i by omega,show (4*(i:Int)+1).toNat=4*i+1 by omega,show (4*(i:Int)+2).toNat=4*i+2 by omega,show (4*(i:Int)+3).toNat=4*i+3 by omega]
  rw[if_pos (by omega),if_pos (by omega),if_pos (by omega),if_pos (by omega),if_pos (by omega),Ck5 (hb.at _) (hb.at _) (hb.at _) (hb.at _)]
  have es:(part (I5 b' i) 64).set i ((Che b' i:Nat):Int)=part (I5 b' (i+1)) 64:=by
   have:=At1 (l:=I5 b' i) (n:=64) (by omega) (Che b' i)
   rw[hls] at this
   rw[this,I5,if_pos (by omega)]
  refine (congrArg again ?_).trans (hag (b',t,part (I5 b' (i+1)) 64,((i:Int)+1),()) ⟨rfl,by simp only;omega,by simp only;omega,by simp only;rw[show ((i:Int)+1).toNat=i+1 by omega]⟩ (by simp only;omega))
  rw[← es];rfl
 ·have:i=16:=by omega
  subst this
  rw[if_neg (by omega)]
  exact second t
theorem Bp7{w s:List Nat}(h:s.length=8):∀ i,(Qw w s i).length=8
 | 0=>h
 | i+1=>rfl
theorem By4{t s:List Nat}{i:Nat}(hi:i<8):(Cg (Aoz t s i)).set i ((Agx (t.getD i 0) (s.getD i 0):Nat):Int)=Cg (Aoz t s (i+1)):=by
 apply List.ext_getElem
 ·simp[Cg,Aoz]
 ·intro j h1 h2
  have hj:j<8:=by simpa [Cg,Aoz] using h2
  simp only[List.getElem_set,Cg,Aoz,List.getElem_map,List.getElem_range]
  by_cases hc:i=j
  ·subst hc;simp
  ·rw[if_neg hc]
   by_cases h3:j<i
   ·rw[if_pos h3,if_pos (by omega)]
   ·rw[if_neg h3,if_neg (by omega)]
theorem Bta{t s:List Nat}(h:t.length=8):Aoz t s 0=t:=by
 apply List.ext_getElem
 ·simp[Aoz,h]
 ·intro j h1 h2
  simp only[Aoz,List.getElem_map,List.getElem_range]
  rw[if_neg (by omega),List.getD_eq_getElem?_getD,List.getElem?_eq_getElem h2];rfl
theorem Bst{t s:List Nat}{i:Nat}(hi:i<8):(Aoz t s i).getD i 0=t.getD i 0:=by
 rw[Aoz,List.getD_eq_getElem?_getD,List.getElem?_map,List.getElem?_range hi]
 simp
theorem Byr{s w:List Nat}(hs:s.length=8):Jd (Cg s,Cg w,Cg Bgh,())=some ((Cg (Aoz (Qw w s 64) s 8),()),(),(),(),()):=by
 unfold Jd Ak7
 have second:∀ t2:List Int,Ac _ _ (fun again x=>Wl again x.1 x.2.1 x.2.2.1 x.2.2.2.1) (Cg s,t2,Cg (Qw w s 64),(0:Int),())=some ((Cg (Aoz (Qw w s 64) s 8),()),(),(),(),()):=by
  intro t2
  refine Ak (I:=fun x=>x.1=Cg s∧(0:Int)≤x.2.2.2.1∧x.2.2.2.1≤(8:Int)∧x.2.2.1=Cg (Aoz (Qw w s 64) s x.2.2.2.1.toNat)) (m:=fun x=>((8:Int)-x.2.2.2.1).toNat) (g:=fun _=>some ((Cg (Aoz (Qw w s 64) s 8),()),(),(),(),())) ?_
   ⟨rfl,by simp only;omega,by simp only;omega,by simp only;rw[show (0:Int).toNat=0 from rfl,Bta (Bp7 hs 64)]⟩ (by simp only[Av];omega)
  rintro⟨s',t',t,i,_⟩ again ⟨e0,e1,e2,e3⟩ hag
  simp only at e0 e1 e2 e3 hag ⊢
  subst e0 e3
  obtain⟨i,rfl⟩:=Int.eq_ofNat_of_zero_le e1
  simp only[Wl,Am,Ad,Ao,Int.toNat_natCast]
  by_cases hi:i<8
  ·rw[if_pos (by omega),if_pos (by omega),if_pos (by omega),if_pos (by omega),Yw,Yw,a32,Bst hi,By4 hi,Ar (by omega) (by omega)]
   exact hag _ ⟨rfl,by simp only;omega,by simp only;omega,by simp only;rw[show ((i:Int)+1).toNat=i+1 by omega]⟩ (by simp only;omega)
  ·have:i=8:=by omega
   subst this
   rw[if_neg (by omega)]
 refine Ak (I:=fun x=>x.1=Cg s∧x.2.1=Cg w∧x.2.2.1=Cg Bgh∧(0:Int)≤x.2.2.2.2.2.1∧x.2.2.2.2.2.1≤(64:Int)∧x.2.2.2.2.1=Cg (Qw w s x.2.2.2.2.2.1.toNat)) (m:=fun x=>((64:Int)-x.2.2.2.2.2.1).toNat) (g:=fun _=>some ((Cg (Aoz (Qw w s 64) s 8),()),(),(),(),())) ?_
  ⟨rfl,rfl,rfl,by simp only;omega,by simp only;omega,rfl⟩ (by simp only[Av];omega)
 rintro⟨s',w',k',t',t,i,_⟩ again ⟨e0,e1,e2,e3,e4,e5⟩ hag
 simp only at e0 e1 e2 e3 e4 e5 hag ⊢
 subst e0 e1 e2 e5
 obtain⟨i,rfl⟩:=Int.eq_ofNat_of_zero_le e3
 simp only[Ag8,Am,Ad,Ao,Int.toNat_natCast]
 by_cases hi:i<64
 ·rw[if_pos (by omega)]
  simp only[Yw,Ctf,Cqp,Cqm,Ctz,Cpk,Cq3,Aa]
  rw[if_pos (by omega),if_pos (by omega),Ar (by omega) (by omega)]
  simp only[Cnj,x32,n32,a32]
  refine (congrArg again ?_).trans (hag (Cg s,Cg w,Cg Bgh,t',Cg (Qw w s (i+1)),((i:Int)+1),()) ⟨rfl,rfl,rfl,by simp only;omega,by simp only;omega,by simp only;rw[show ((i:Int)+1).toNat=i+1 by omega]⟩ (by simp only;omega))
  rw[Qw,rnd]
  simp only[Cg,List.map_cons,List.map_nil]
  rfl
 ·have:i=64:=by omega
  subst this
  rw[if_neg (by omega)]
  exact second t'
theorem Cjr(t s:List Nat)(i:Nat):(Aoz t s i).length=8:=by simp[Aoz]
theorem Bog(m:List Int):∀ i,(Afn m i).length=8
 | 0=>rfl
 | i+1=>by rw[Afn,Cle,Cjr]
theorem Bgp:Gm ()=some ((Cg Bgh,()),()):=by
 unfold Gm Vz;rfl
def Bh7(s:List Nat)(i:Nat):List Nat:=(List.range i).map fun i=>s.getD (i / 4) 0 / 2 ^ (24-8*(i % 4)) % 256
theorem Bzb(s:List Nat)(i:Nat):(Bh7 s i).length=i:=by simp[Bh7]
theorem Bs3(s:List Nat)(i:Nat):Bh7 s (i+1)=Bh7 s i++[s.getD (i / 4) 0 / 2 ^ (24-8*(i % 4)) % 256]:=by simp[Bh7,List.range_succ]
theorem Cd3(s:List Nat):Cg (Bh7 s 32)=Yf s:=by
 simp only[Cg,Bh7,Yf,List.map_map];rfl
theorem Byw{s:List Nat}{i:Nat}:IntKind.wrap .u8 (Int.fdiv ((Cg s).getD (i / 4) 0) ((2:Int) ^ (24-8*(i % 4))))=((s.getD (i / 4) 0 / 2 ^ (24-8*(i % 4)) % 256:Nat):Int):=by
 have p:∀ k:Nat,(2:Int) ^ k=((2 ^ k:Nat):Int):=fun k=>by rw[Int.natCast_pow];rfl
 rw[Yw,p,d32,IntKind.wrap_u8];omega
theorem Ce9{s:List Nat}(t2:List Int):Ac _ _ (fun again x=>Ahp again x.1 x.2.1 x.2.2.1 x.2.2.2.1) (t2,Cg s,List.replicate 32 0,(0:Int),())=some ((Yf s,()),(),()):=by
 refine Ak (I:=fun x=>x.2.1=Cg s∧(0:Int)≤x.2.2.2.1∧x.2.2.2.1≤(32:Int)∧x.2.2.1=part (Bh7 s x.2.2.2.1.toNat) 32) (m:=fun x=>((32:Int)-x.2.2.2.1).toNat) (g:=fun _=>some ((Yf s,()),(),())) ?_
  ⟨rfl,by simp only;omega,by simp only;omega,Bgq.symm⟩ (by simp only[Av];omega)
 rintro⟨t,s',h,i,_⟩ again ⟨e0,e1,e2,e3⟩ hag
 simp only at e0 e1 e2 e3 hag ⊢
 subst e0 e3
 obtain⟨i,rfl⟩:=Int.eq_ofNat_of_zero_le e1
 have hls:=Bzb s i
 simp only[Ahp,Am,Ad,Ao,Int.toNat_natCast]
 by_cases hi:i<32
 ·rw[if_pos (by omega),Anq (by omega),Jg (by omega),Ar (n:=(i:Int) / 4) (by omega) (by omega),Ar (n:=8*((i:Int) % 4)) (by omega) (by omega),Ar (n:=24-8*((i:Int) % 4)) (by omega) (by omega),Ar (n:=(i:Int)+1) (by omega) (by omega),if_pos (by omega),if_pos (by omega),if_pos (by omega)]
  rw[show ((i:Int) / 4).toNat=i / 4 by omega,show (24-8*((i:Int) % 4)).toNat=24-8*(i % 4) by omega,Nat.min_eq_left (by omega),Byw]
  have es:=At1 (l:=Bh7 s i) (n:=32) (by omega) (s.getD (i / 4) 0 / 2 ^ (24-8*(i % 4)) % 256)
  rw[hls,← Bs3] at es
  rw[es]
  exact hag _ ⟨rfl,by simp only;omega,by simp only;omega,by simp only;rw[show ((i:Int)+1).toNat=i+1 by omega]⟩ (by simp only;omega)
 ·have:i=32:=by omega
  subst this
  rw[if_neg (by omega)]
  have:=Bau (l:=Bh7 s 32)
  rw[hls,Cd3] at this
  rw[this]
theorem Buj{m:List Int}(hm:Dy m){n:Nat}(hn:m.length=64*n)(hl:m.length≤1000000000)(t2:List Int) :
  Ac _ _ (fun again x=>Ahw Ac Jq Jd again x.1 x.2.1 x.2.2.1 x.2.2.2.1 x.2.2.2.2.1) (t2,m,Cg iv,Cg Bgh,(0:Int),())=some ((Yf (Afn m n),()),(),()):=by
 refine Ak (I:=fun x=>x.2.1=m∧x.2.2.2.1=Cg Bgh∧∃ i:Nat,i≤n∧x.2.2.2.2.1=((64*i:Nat):Int)∧x.2.2.1=Cg (Afn m i)) (m:=fun x=>((m.length:Int)-x.2.2.2.2.1).toNat) (g:=fun _=>some ((Yf (Afn m n),()),(),())) ?_
  ⟨rfl,rfl,0,by omega,rfl,rfl⟩ (by simp only[Av];omega)
 rintro⟨t,m',s,k,a,_⟩ again ⟨e0,e1,i,hi,e2,e3⟩ hag
 simp only at e0 e1 e2 e3 hag ⊢
 subst e0 e1 e2 e3
 simp only[Ahw,Am,Ad,Aga,Int.toNat_natCast]
 by_cases hc:i<n
 ·rw[if_pos (by omega),Ar (by omega) (by omega),if_pos (by omega),if_pos (by omega),if_pos (by omega),show (((64*i:Nat):Int)+64).toNat-64*i=64 by omega,
   Bzx ((hm.drop _).take _) (by rw[List.length_take,List.length_drop];omega)]
  simp only[Aa]
  rw[Byr (Bog m' i)]
  simp only[Aa]
  exact hag _ ⟨rfl,rfl,i+1,by omega,by simp only;omega,rfl⟩ (by simp only;omega)
 ·have:i=n:=by omega
  subst this
  rw[if_neg (by omega)]
  exact Ce9 t
theorem Cfx{l:List Int}(hb:Dy l){n k:Nat}(hn:n<18446744073709551616)(hk:l.length+8=64*k)(hl:l.length≤900000000)(t2:List Int) :
  Ac _ _ (fun again x=>Ahs Ac Gm Jq Jd again x.1 x.2.1 x.2.2.1 x.2.2.2.1) (t2,(n:Int),l,(7:Int),())=some ((Yf (Afn (l++beB 8 n) k),()),(),()):=by
 refine Eq.trans (Ak (I:=fun x=>x.2.1=(n:Int)∧(-1:Int)≤x.2.2.2.1∧x.2.2.2.1≤(7:Int)∧Dy x.2.2.1∧(x.2.2.1.length:Int)+x.2.2.2.1+1=((64*k:Nat):Int)) (m:=fun x=>(x.2.2.2.1+1).toNat) (g:=fun x=>some ((Yf (Afn (x.2.2.1++beB (x.2.2.2.1+1).toNat n) k),()),(),())) ?_
  ⟨rfl,by simp only;omega,by simp only;omega,hb,by simp only;omega⟩ (by simp only[Av];omega)) rfl
 rintro⟨t,n',l',i,_⟩ again ⟨e0,e1,e2,e3,e4⟩ hag
 simp only at e0 e1 e2 e3 e4 hag ⊢
 subst e0
 simp only[Ahs,Am,Ad,B8,ge_iff_le]
 by_cases hi:0≤i
 ·obtain⟨j,rfl⟩:=Int.eq_ofNat_of_zero_le hi
  rw[if_pos hi,Ar (n:=8*(j:Int)) (by omega) (by omega),if_pos (by omega),Di (by omega),Ar (by omega) (by omega),show (8*(j:Int)).toNat=8*j by omega,Nat.min_eq_left (by omega)]
  have p:∀ k:Nat,(2:Int) ^ k=((2 ^ k:Nat):Int):=fun k=>by rw[Int.natCast_pow];rfl
  have hby:IntKind.wrap .u8 (Int.fdiv (n:Int) ((2:Int) ^ (8*j)))=((n / 256 ^ j % 256:Nat):Int):=by
   rw[p,d32,IntKind.wrap_u8,Bn7];omega
  rw[hby,hag _ ⟨rfl,by simp only;omega,by simp only;omega,e3.append (by intro x hx;simp only[List.mem_singleton] at hx;subst hx;omega),by simp only[List.length_append,List.length_singleton];omega⟩ (by simp only;omega)]
  simp only
  rw[show ((j:Int)-1+1).toNat=j by omega,show ((j:Int)+1).toNat=j+1 by omega,beB];simp
 ·have:i = -1:=by omega
  subst this
  rw[if_neg hi,Bgp]
  simp only[Aa]
  have:=Buj e3 (n:=k) (by omega) (by omega) t
  refine Eq.trans this ?_
  simp[beB]
theorem Ch8{b:List Int}(hb:Dy b)(hl:b.length≤100000000):Z1 (b,())=some ((sha b,()),(),()):=by
 unfold Z1 Bc1
 simp only
 rw[At6 (by simp;omega) (by simp),H4 (n:=(b.length:Int)) (by omega) (by omega),H4 (by omega) (by omega),show (b.length:Int)*8=((b.length*8:Nat):Int) by omega]
 simp only[Aa,List.flatten_cons,List.flatten_nil,List.append_nil]
 refine Ak (I:=fun x=>x.2.1=((b.length*8:Nat):Int)∧∃ j:Nat,j≤(119-b.length % 64) % 64∧x.2.2.1=b++128::List.replicate j 0) (m:=fun x=>b.length+100-x.2.2.1.length) (g:=fun _=>some ((sha b,()),(),())) ?_
  ⟨rfl,0,by omega,rfl⟩ (by simp only[Av];omega)
 rintro⟨t,n,l,_⟩ again ⟨e0,j,hj,e1⟩ hag
 simp only at e0 e1 hag ⊢
 subst e0 e1
 have hlen:(b++128::List.replicate j (0:Int)).length=b.length+1+j:=by simp;omega
 simp only[Ate,Am,Ad,Aq,B8]
 rw[Jg (by omega),hlen,Di (by omega)]
 by_cases hc:j=(119-b.length % 64) % 64
 ·rw[if_pos (by omega)]
  have hby:Dy (b++128::List.replicate j (0:Int)):=hb.append (by
   intro x hx
   rcases List.mem_cons.1 hx with rfl|hx
   ·omega
   ·rw[List.eq_of_mem_replicate hx];omega)
  refine (Cfx hby (n:=b.length*8) (k:=(b.length+1+j+8) / 64) (by omega) (by omega) (by omega) t).trans ?_
  have hp:b++128::List.replicate j (0:Int)++beB 8 (b.length*8)=Ayb b:=by simp[Ayb,hc]
  have hpl:(Ayb b).length=b.length+1+j+8:=by rw[← hp,List.length_append,hlen,Beo]
  rw[hp,← hpl];rfl
 ·rw[if_neg (by omega)]
  have e:b++128::List.replicate j (0:Int)++[0]=b++128::List.replicate (j+1) 0:=by
   rw[List.replicate_succ'];simp
  exact hag _ ⟨rfl,j+1,by omega,by simp only;exact e⟩ (by simp only[e,hlen];simp;omega)
set_option maxRecDepth 4000
theorem Abp(x n:Nat)(h1:1≤n)(h2:n≤31):Dm ((x:Int),(n:Int),())=some ((((Ah7 x n:Nat):Int),()),(),(),()):=by
 unfold Dm Am1
 simp only[Am]
 rw[show (32:Int)-(n:Int)=((32-n:Nat):Int) by omega,H4 (by omega) (by omega),Ad,if_pos (by omega),Ad,if_pos (by omega)]
 simp only[Int.toNat_natCast]
 have p:∀ k:Nat,(2:Int) ^ k=((2 ^ k:Nat):Int):=fun k=>by rw[Int.natCast_pow];rfl
 rw[Nat.min_eq_left (by omega),Nat.min_eq_left (by omega),p,p,m32,d32,o32,Cfu]
 rfl
theorem rr7(x:Nat):Dm ((x:Int),(7:Int),())=some ((((Ah7 x 7:Nat):Int),()),(),(),()):=Abp x 7 (by omega) (by omega)
theorem Csm(x:Nat):Dm ((x:Int),(18:Int),())=some ((((Ah7 x 18:Nat):Int),()),(),(),()):=Abp x 18 (by omega) (by omega)
theorem Csl(x:Nat):Dm ((x:Int),(17:Int),())=some ((((Ah7 x 17:Nat):Int),()),(),(),()):=Abp x 17 (by omega) (by omega)
theorem Cs4(x:Nat):Dm ((x:Int),(19:Int),())=some ((((Ah7 x 19:Nat):Int),()),(),(),()):=Abp x 19 (by omega) (by omega)
theorem rr6(x:Nat):Dm ((x:Int),(6:Int),())=some ((((Ah7 x 6:Nat):Int),()),(),(),()):=Abp x 6 (by omega) (by omega)
theorem Cs1(x:Nat):Dm ((x:Int),(11:Int),())=some ((((Ah7 x 11:Nat):Int),()),(),(),()):=Abp x 11 (by omega) (by omega)
theorem Ctg(x:Nat):Dm ((x:Int),(25:Int),())=some ((((Ah7 x 25:Nat):Int),()),(),(),()):=Abp x 25 (by omega) (by omega)
theorem rr2(x:Nat):Dm ((x:Int),(2:Int),())=some ((((Ah7 x 2:Nat):Int),()),(),(),()):=Abp x 2 (by omega) (by omega)
theorem Ct0(x:Nat):Dm ((x:Int),(13:Int),())=some ((((Ah7 x 13:Nat):Int),()),(),(),()):=Abp x 13 (by omega) (by omega)
theorem Css(x:Nat):Dm ((x:Int),(22:Int),())=some ((((Ah7 x 22:Nat):Int),()),(),(),()):=Abp x 22 (by omega) (by omega)
theorem Chz{p q r s:Int}(hp:0≤p∧p≤255)(hq:0≤q∧q≤255)(hr:0≤r∧r≤255)(hs:0≤s∧s≤255) :
  IntKind.wrap .u32 (IntKind.wrap .u32 (IntKind.wrap .u32 (IntKind.wrap .u32 (IntKind.wrap .u32 p*16777216)+IntKind.wrap .u32 (IntKind.wrap .u32 q*65536))+IntKind.wrap .u32 (IntKind.wrap .u32 r*256))+IntKind.wrap .u32 s) =
   ((p.toNat*16777216+q.toNat*65536+r.toNat*256+s.toNat:Nat):Int):=by
 simp only[IntKind.wrap_u32];omega
theorem Cir:Xz ()=some ((Cg Bgh,()),()):=by
 unfold Xz Amf;rfl
theorem Bz9{s:List Nat}(hs:s.length=8)(W:List Nat)(t2:List Int):Ac _ _ (fun again x=>Ac9 again x.1 x.2.1 x.2.2.1 x.2.2.2.1) (Cg s,t2,Cg (Qw (W) s 64),(0:Int),())=some ((Cg (Aoz (Qw W s 64) s 8),()),(),(),()):=by
 refine Ak (I:=fun x=>x.1=Cg s∧(0:Int)≤x.2.2.2.1∧x.2.2.2.1≤(8:Int)∧x.2.2.1=Cg (Aoz (Qw (W) s 64) s x.2.2.2.1.toNat)) (m:=fun x=>((8:Int)-x.2.2.2.1).toNat) (g:=fun _=>some ((Cg (Aoz (Qw W s 64) s 8),()),(),(),())) ?_
  ⟨rfl,by simp only;omega,by simp only;omega,by simp only;rw[show (0:Int).toNat=0 from rfl,Bta (Bp7 hs 64)]⟩ (by simp only[Av];omega)
 rintro⟨s',t',t,i,_⟩ again ⟨e0,e1,e2,e3⟩ hag
 simp only at e0 e1 e2 e3 hag ⊢
 subst e0 e3
 obtain⟨i,rfl⟩:=Int.eq_ofNat_of_zero_le e1
 simp only[Ac9,Am,Ad,Ao,Int.toNat_natCast]
 by_cases hi:i<8
 ·rw[if_pos (by omega),if_pos (by omega),if_pos (by omega),if_pos (by omega),Yw,Yw,a32,Bst hi,By4 hi,Ar (by omega) (by omega)]
  exact hag _ ⟨rfl,by simp only;omega,by simp only;omega,by simp only;rw[show ((i:Int)+1).toNat=i+1 by omega]⟩ (by simp only;omega)
 ·have:i=8:=by omega
  subst this
  rw[if_neg (by omega)]
set_option maxHeartbeats 1000000 in
theorem Bwz{s:List Nat}(hs:s.length=8)(W:List Nat)(t2:List Int):Ac _ _ (fun again x=>Ado Ac Dm again x.1 x.2.1 x.2.2.1 x.2.2.2.1 x.2.2.2.2.1 x.2.2.2.2.2.1) (Cg s,t2,Cg Bgh,Cg (W),Cg s,(0:Int),())=some ((Cg (Aoz (Qw W s 64) s 8),()),(),(),()):=by
 refine Ak (I:=fun x=>x.1=Cg s∧x.2.2.1=Cg Bgh∧x.2.2.2.1=Cg (W)∧(0:Int)≤x.2.2.2.2.2.1∧x.2.2.2.2.2.1≤(64:Int)∧x.2.2.2.2.1=Cg (Qw (W) s x.2.2.2.2.2.1.toNat)) (m:=fun x=>((64:Int)-x.2.2.2.2.2.1).toNat) (g:=fun _=>some ((Cg (Aoz (Qw W s 64) s 8),()),(),(),())) ?_
  ⟨rfl,rfl,rfl,by simp only;omega,by simp only;omega,rfl⟩ (by simp only[Av];omega)
 rintro⟨s',t',k',w',t,i,_⟩ again ⟨e0,e1,e2,e3,e4,e5⟩ hag
 simp only at e0 e1 e2 e3 e4 e5 hag ⊢
 subst e0 e1 e2 e5
 obtain⟨i,rfl⟩:=Int.eq_ofNat_of_zero_le e3
 simp only[Ado,Am,Ad,Ao,Int.toNat_natCast]
 by_cases hi:i<64
 ·have hin:(0:Int)≤(i:Int)∧(i:Int)<((64:Nat):Int):=by omega
  rw[if_pos (by omega)]
  simp only[Yw,rr6,Cs1,Ctg,rr2,Ct0,Css,Aa,if_pos hin]
  rw[Ar (by omega) (by omega)]
  simp only[Cnj,x32,n32,a32]
  refine (congrArg again ?_).trans (hag (Cg s,t',Cg Bgh,Cg (W),Cg (Qw (W) s (i+1)),((i:Int)+1),()) ⟨rfl,rfl,rfl,by simp only;omega,by simp only;omega,by simp only;rw[show ((i:Int)+1).toNat=i+1 by omega]⟩ (by simp only;omega))
  rw[Qw,rnd]
  simp only[Cg,List.map_cons,List.map_nil,Ca1]
  rfl
 ·have:i=64:=by omega
  subst this
  rw[if_neg (by omega)]
  exact Bz9 hs W t'
set_option maxHeartbeats 1000000 in
theorem Chv{s:List Nat}(hs:s.length=8){b:List Int}(hb:Dy b)(hl:b.length=64):Oq (Cg s,b,())=some ((Cg (Cle s b),()),(),(),()):=by
 unfold Oq Amj
 rw[Cir]
 simp only[Aa]
 refine Ak (I:=fun x=>x.1=b∧x.2.1=Cg s∧x.2.2.2.1=Cg Bgh∧(0:Int)≤x.2.2.2.2.2.1∧x.2.2.2.2.2.1≤(64:Int)∧x.2.2.2.2.1=part (I5 b x.2.2.2.2.2.1.toNat) 64) (m:=fun x=>((64:Int)-x.2.2.2.2.2.1).toNat) (g:=fun _=>some ((Cg (Cle s b),()),(),(),())) ?_
  ⟨rfl,rfl,rfl,by simp only;omega,by simp only;omega,by simp only;exact Bgq.symm⟩ (by simp only[Av];omega)
 rintro⟨b',h',t,k',w,i,_⟩ again ⟨e0,e1,e2,e3,e4,e5⟩ hag
 simp only at e0 e1 e2 e3 e4 e5 hag ⊢
 subst e0 e1 e2 e5
 obtain⟨i,rfl⟩:=Int.eq_ofNat_of_zero_le e3
 have hls:=Az8 b' i
 simp only[Ano,Am,Ad,Ao,Int.toNat_natCast]
 by_cases hi:i<64
 ·rw[if_pos (by omega)]
  by_cases h16:i<16
  ·rw[if_pos (by omega),Ar (n:=4*(i:Int)) (by omega) (by omega),Ar (n:=4*(i:Int)+3) (by omega) (by omega),Ar (n:=4*(i:Int)+2) (by omega) (by omega),Ar (n:=4*(i:Int)+1) (by omega) (by omega),Ar (n:=(i:Int)+1) (by omega) (by omega)]
   rw[show (4*(i:Int)).toNat=4*i by omega,show (4*(i:Int)+1).toNat=4*i+1 by omega,show (4*(i:Int)+2).toNat=4*i+2 by omega,show (4*(i:Int)+3).toNat=4*i+3 by omega]
   rw[if_pos (by omega),if_pos (by omega),if_pos (by omega),if_pos (by omega),if_pos (by omega),Chz (hb.at _) (hb.at _) (hb.at _) (hb.at _)]
   have es:(part (I5 b' i) 64).set i ((Che b' i:Nat):Int)=part (I5 b' (i+1)) 64:=by
    have:=At1 (l:=I5 b' i) (n:=64) (by omega) (Che b' i)
    rw[hls] at this
    rw[this,I5,if_pos (by omega)]
   refine (congrArg again ?_).trans (hag (b',Cg s,t,Cg Bgh,part (I5 b' (i+1)) 64,((i:Int)+1),()) ⟨rfl,rfl,rfl,by simp only;omega,by simp only;omega,by simp only;rw[show ((i:Int)+1).toNat=i+1 by omega]⟩ (by simp only;omega))
   rw[← es];rfl
  ·rw[if_neg (by omega),Ar (n:=(i:Int)-7) (by omega) (by omega),Ar (n:=(i:Int)-16) (by omega) (by omega),Ar (n:=(i:Int)-2) (by omega) (by omega),Ar (n:=(i:Int)-15) (by omega) (by omega),Ar (n:=(i:Int)+1) (by omega) (by omega)]
   rw[show ((i:Int)-7).toNat=i-7 by omega,show ((i:Int)-16).toNat=i-16 by omega,show ((i:Int)-2).toNat=i-2 by omega,show ((i:Int)-15).toNat=i-15 by omega]
   rw[if_pos (by omega),if_pos (by omega),if_pos (by omega),Adz (j:=i-7) (by omega),Adz (j:=i-16) (by omega),Adz (j:=i-2) (by omega),Adz (j:=i-15) (by omega)]
   have hA:(0:Int)≤(i:Int)-7∧(i:Int)-7<((64:Nat):Int):=by omega
   have hB:(0:Int)≤(i:Int)∧(i:Int)<((64:Nat):Int):=by omega
   simp only[rr7,Csm,Csl,Cs4,Aa,if_pos hA,if_pos hB]
   simp only[x32,Cni,Bxz,a32]
   have es:(part (I5 b' i) 64).set i ((Bzn (I5 b' i) i:Nat):Int)=part (I5 b' (i+1)) 64:=by
    have:=At1 (l:=I5 b' i) (n:=64) (by omega) (Bzn (I5 b' i) i)
    rw[hls] at this
    rw[this,I5,if_neg (by omega)]
   refine (congrArg again ?_).trans (hag (b',Cg s,t,Cg Bgh,part (I5 b' (i+1)) 64,((i:Int)+1),()) ⟨rfl,rfl,rfl,by simp only;omega,by simp only;omega,by simp only;rw[show ((i:Int)+1).toNat=i+1 by omega]⟩ (by simp only;omega))
   rw[← es];rfl
 ·have:i=64:=by omega
  subst this
  rw[if_neg (by omega)]
  have:=Bau (l:=I5 b' 64)
  rw[hls] at this
  rw[this]
  exact Bwz hs (I5 b' 64) t
theorem Cca{s:List Nat}(t2:List Int):Ac _ _ (fun again x=>Ahl again x.1 x.2.1 x.2.2.1 x.2.2.2.1) (t2,Cg s,List.replicate 32 0,(0:Int),())=some ((Yf s,()),(),()):=by
 refine Ak (I:=fun x=>x.2.1=Cg s∧(0:Int)≤x.2.2.2.1∧x.2.2.2.1≤(32:Int)∧x.2.2.1=part (Bh7 s x.2.2.2.1.toNat) 32) (m:=fun x=>((32:Int)-x.2.2.2.1).toNat) (g:=fun _=>some ((Yf s,()),(),())) ?_
  ⟨rfl,by simp only;omega,by simp only;omega,Bgq.symm⟩ (by simp only[Av];omega)
 rintro⟨t,s',h,i,_⟩ again ⟨e0,e1,e2,e3⟩ hag
 simp only at e0 e1 e2 e3 hag ⊢
 subst e0 e3
 obtain⟨i,rfl⟩:=Int.eq_ofNat_of_zero_le e1
 have hls:=Bzb s i
 simp only[Ahl,Am,Ad,Ao,Int.toNat_natCast]
 by_cases hi:i<32
 ·rw[if_pos (by omega),Anq (by omega),Jg (by omega),Ar (n:=(i:Int) / 4) (by omega) (by omega),Ar (n:=8*((i:Int) % 4)) (by omega) (by omega),Ar (n:=24-8*((i:Int) % 4)) (by omega) (by omega),H4 (n:=24-8*((i:Int) % 4)) (by omega) (by omega),Ar (n:=(i:Int)+1) (by omega) (by omega),if_pos (by omega),if_pos (by omega),if_pos (by omega)]
  rw[show ((i:Int) / 4).toNat=i / 4 by omega,show (24-8*((i:Int) % 4)).toNat=24-8*(i % 4) by omega,Nat.min_eq_left (by omega),Byw]
  have es:=At1 (l:=Bh7 s i) (n:=32) (by omega) (s.getD (i / 4) 0 / 2 ^ (24-8*(i % 4)) % 256)
  rw[hls,← Bs3] at es
  rw[es]
  exact hag _ ⟨rfl,by simp only;omega,by simp only;omega,by simp only;rw[show ((i:Int)+1).toNat=i+1 by omega]⟩ (by simp only;omega)
 ·have:i=32:=by omega
  subst this
  rw[if_neg (by omega)]
  have:=Bau (l:=Bh7 s 32)
  rw[hls,Cd3] at this
  rw[this]
theorem Brf{m:List Int}(hm:Dy m){n:Nat}(hn:m.length=64*n)(hl:m.length≤1000000000)(t2:List Int) :
  Ac _ _ (fun again x=>Ah8 Ac Oq again x.1 x.2.1 x.2.2.1 x.2.2.2.1) (t2,m,Cg iv,(0:Int),())=some ((Yf (Afn m n),()),(),()):=by
 refine Ak (I:=fun x=>x.2.1=m∧∃ i:Nat,i≤n∧x.2.2.2.1=((64*i:Nat):Int)∧x.2.2.1=Cg (Afn m i)) (m:=fun x=>((m.length:Int)-x.2.2.2.1).toNat) (g:=fun _=>some ((Yf (Afn m n),()),(),())) ?_
  ⟨rfl,0,by omega,rfl,rfl⟩ (by simp only[Av];omega)
 rintro⟨t,m',s,a,_⟩ again ⟨e0,i,hi,e2,e3⟩ hag
 simp only at e0 e2 e3 hag ⊢
 subst e0 e2 e3
 simp only[Ah8,Am,Ad,Aga,Int.toNat_natCast]
 by_cases hc:i<n
 ·rw[if_pos (by omega),Ar (by omega) (by omega),if_pos (by omega),if_pos (by omega),if_pos (by omega),show (((64*i:Nat):Int)+64).toNat-64*i=64 by omega,
   Chv (Bog m' i) ((hm.drop _).take _) (by rw[List.length_take,List.length_drop];omega)]
  simp only[Aa]
  exact hag _ ⟨rfl,i+1,by omega,by simp only;omega,rfl⟩ (by simp only;omega)
 ·have:i=n:=by omega
  subst this
  rw[if_neg (by omega)]
  exact Cca t
theorem Ccn{l:List Int}(hb:Dy l){n k:Nat}(hn:n<18446744073709551616)(hk:l.length+8=64*k)(hl:l.length≤900000000)(t2:List Int) :
  Ac _ _ (fun again x=>Ahc Ac Oq again x.1 x.2.1 x.2.2.1 x.2.2.2.1) (t2,l,(n:Int),(7:Int),())=some ((Yf (Afn (l++beB 8 n) k),()),(),()):=by
 refine Eq.trans (Ak (I:=fun x=>x.2.2.1=(n:Int)∧(-1:Int)≤x.2.2.2.1∧x.2.2.2.1≤(7:Int)∧Dy x.2.1∧(x.2.1.length:Int)+x.2.2.2.1+1=((64*k:Nat):Int)) (m:=fun x=>(x.2.2.2.1+1).toNat) (g:=fun x=>some ((Yf (Afn (x.2.1++beB (x.2.2.2.1+1).toNat n) k),()),(),())) ?_
  ⟨rfl,by simp only;omega,by simp only;omega,hb,by simp only;omega⟩ (by simp only[Av];omega)) rfl
 rintro⟨t,l',n',i,_⟩ again ⟨e0,e1,e2,e3,e4⟩ hag
 simp only at e0 e1 e2 e3 e4 hag ⊢
 subst e0
 simp only[Ahc,Am,Ad,B8,ge_iff_le]
 by_cases hi:0≤i
 ·obtain⟨j,rfl⟩:=Int.eq_ofNat_of_zero_le hi
  rw[if_pos hi,Ar (n:=8*(j:Int)) (by omega) (by omega),H4 (n:=8*(j:Int)) (by omega) (by omega),if_pos (by omega),Di (by omega),Ar (by omega) (by omega),show (8*(j:Int)).toNat=8*j by omega,Nat.min_eq_left (by omega)]
  have p:∀ k:Nat,(2:Int) ^ k=((2 ^ k:Nat):Int):=fun k=>by rw[Int.natCast_pow];rfl
  have hby:IntKind.wrap .u8 (Int.fdiv (n:Int) ((2:Int) ^ (8*j)))=((n / 256 ^ j % 256:Nat):Int):=by
   rw[p,d32,IntKind.wrap_u8,Bn7];omega
  rw[hby,hag _ ⟨rfl,by simp only;omega,by simp only;omega,e3.append (by intro x hx;simp only[List.mem_singleton] at hx;subst hx;omega),by simp only[List.length_append,List.length_singleton];omega⟩ (by simp only;omega)]
  simp only
  rw[show ((j:Int)-1+1).toNat=j by omega,show ((j:Int)+1).toNat=j+1 by omega,beB];simp
 ·have:i = -1:=by omega
  subst this
  rw[if_neg hi]
  have:=Brf e3 (n:=k) (by omega) (by omega) t
  refine Eq.trans this ?_
  simp[beB]
theorem Bl8{b:List Int}(hb:Dy b)(hl:b.length≤100000000):Je (b,())=some ((sha b,()),(),()):=by
 unfold Je Aui
 simp only[B8]
 rw[Di (by omega),Di (by omega)]
 refine Ak (I:=fun x=>x.1=b∧∃ j:Nat,j≤(119-b.length % 64) % 64∧x.2.2.1=b++128::List.replicate j 0) (m:=fun x=>b.length+100-x.2.2.1.length) (g:=fun _=>some ((sha b,()),(),())) ?_
  ⟨rfl,0,by omega,rfl⟩ (by simp only[Av];omega)
 rintro⟨b',t,l,_⟩ again ⟨e0,j,hj,e1⟩ hag
 simp only at e0 e1 hag ⊢
 subst e0 e1
 have hlen:(b'++128::List.replicate j (0:Int)).length=b'.length+1+j:=by simp;omega
 simp only[At5,Am,Ad,Aq,B8]
 rw[Jg (by omega),hlen,Di (by omega)]
 by_cases hc:j=(119-b'.length % 64) % 64
 ·rw[if_pos (by omega),H4 (n:=(b'.length:Int)) (by omega) (by omega),H4 (by omega) (by omega),show (b'.length:Int)*8=((b'.length*8:Nat):Int) by omega]
  have hby:Dy (b'++128::List.replicate j (0:Int)):=hb.append (by
   intro x hx
   rcases List.mem_cons.1 hx with rfl|hx
   ·omega
   ·rw[List.eq_of_mem_replicate hx];omega)
  refine (Ccn hby (n:=b'.length*8) (k:=(b'.length+1+j+8) / 64) (by omega) (by omega) (by omega) t).trans ?_
  have hp:b'++128::List.replicate j (0:Int)++beB 8 (b'.length*8)=Ayb b':=by simp[Ayb,hc]
  have hpl:(Ayb b').length=b'.length+1+j+8:=by rw[← hp,List.length_append,hlen,Beo]
  rw[hp,← hpl];rfl
 ·rw[if_neg (by omega)]
  have e:b'++128::List.replicate j (0:Int)++[0]=b'++128::List.replicate (j+1) 0:=by
   rw[List.replicate_succ'];simp
  exact hag _ ⟨rfl,j+1,by omega,by simp only;exact e⟩ (by simp only[e,hlen];simp;omega)
set_option maxRecDepth 100000
def H32(h:List Int):Prop:=h.length=32∧Dy h
theorem Buf(b:List Int):H32 (sha b):=⟨Cmr b,Cew b⟩
def Ciq(b:List Int):List Int:=sha (0::b)
def Axz(x y:List Int):List Int:=sha (1::(x++y))
theorem Bcy{x:Int}{b:List Int}(hx:0≤x∧x≤255)(hb:Dy b):Dy (x::b):=fun y hy=>by
 rcases List.mem_cons.1 hy with rfl|hy
 ·exact hx
 ·exact hb y hy
theorem Bv3{x:List Int}(h:x.length=32):List.take (32-0) (List.drop 0 x)=x:=by
 rw[List.drop_zero,List.take_of_length_le (by omega)]
theorem Cdb{x y:List Int}(hx:H32 x)(hy:H32 y):Ast (x,y,())=some ((Axz x y,()),(),(),()):=by
 unfold Ast Bjs
 simp only
 have h1:=hx.1
 have h2:=hy.1
 rw[Bv3 h1,Bv3 h2,At6 (by simp;omega) (by simp)]
 simp only[Aa,List.flatten_cons,List.flatten_nil,List.append_nil,List.cons_append,List.nil_append]
 rw[Ch8 (Bcy (by omega) (hx.2.append hy.2)) (by simp;omega)]
 rfl
theorem Ci8{b:List Int}(hb:Dy b)(hl:b.length≤90000000):Abq (b,())=some ((Ciq b,()),(),()):=by
 unfold Abq Aql
 simp only[B8]
 rw[Di (by omega),Bl8 (b:=[0]++b) (Bcy (by omega) hb) (by simp;omega)]
 rfl
theorem Boh{x y:List Int}(hx:H32 x)(hy:H32 y):Q3 (x,y,())=some ((Axz x y,()),(),(),()):=by
 unfold Q3 Az4
 simp only[Am,B8]
 have h1:=hx.1
 have h2:=hy.1
 rw[Bv3 h1,Bv3 h2,Di (by omega),Di (by simp;omega),Bl8 (b:=[1]++x++y) (Bcy (by omega) (hx.2.append hy.2)) (by simp;omega)]
 rfl
theorem Axw(x y:List Int):H32 (Axz x y):=Buf _
theorem Ch1(x:List Int):H32 (Ciq x):=Buf _
theorem Cdh(x y:List Int):eqD (.arr 32 (.int .u8)) x y=decide (x=y):=Bv5 _ _ _
def hv(c:Int):Int:=if 48≤c∧c≤57 then c-48 else if 97≤c∧c≤102 then c-87 else -1
def hN(s:List Int)(i:Nat):List Int:=(List.range 32).map fun k=>if 2*k+1<i then hv (s.getD (2*k) 0)*16+hv (s.getD (2*k+1) 0) else if 2*k<i then hv (s.getD (2*k) 0) else 0
theorem Cgu{l:List Int}{i k:Nat}{x:Int}(hi:i<l.length):(l.set i x).getD k 0=if k=i then x else l.getD k 0:=by
 rw[List.getD_eq_getElem?_getD,List.getElem?_set]
 by_cases h:i=k
 ·subst h;rw[if_pos rfl,if_pos hi,if_pos rfl];rfl
 ·rw[if_neg h,if_neg (fun e=>h e.symm),List.getD_eq_getElem?_getD]
def Cpv(s:List Int):Prop:=s.length=64∧∀ i,i<64→0≤hv (s.getD i 0)
noncomputable instance (s:List Int):Decidable (Cpv s):=Classical.propDecidable _
set_option maxRecDepth 100000
abbrev Alm:=(Int×Unit)→Option Y14
def Aap(c:Y3→Option Y14)(b:Int)(a:Int):Option Y14:=(Ah (decide (a<(IntKind.wrap .i64 (b-a)))) (c (b,(IntKind.wrap .i64 (a*2)),())) (some ((a,()),(),())))
def Al1(L:Ae)(a:Int):Option Y14:=(L _ _ (fun z x=>Aap z x.1 x.2.1) (a,1,()))
def Wr:Alm:=fun x=>Al1 Ac x.1
abbrev Xl:=Y60→Option Y68
def Ap6(L:Ae)(m:Alm)(h:Xl)(i:Bjj)(e:Int)(f:Int)(g:(List Int))(b:Y1):Option Y68:=(A2 (List.length b:Int) fun c=>A2 (IntKind.wrap .i64 (c-1)) fun a=>A2 (List.getD b (Int.toNat a) (List.replicate 32 0)) fun j=>Ah (decide (e=1)) (some ((g,(decide (c=0)),()),(),(),(),(),())) (Ah (decide (c=0)) (some (((List.replicate 32 0),false,()),(),(),(),(),())) ((m (e,())).bind fun d=>Ah (B0 a (List.length b)) (Ah ((decide (0≤a))&&(decide (a≤c))) (Ah (decide (f<d.1.1)) ((h (d.1.1,f,g,(List.take ((Int.toNat a)-0) (List.drop 0 b)),())).bind fun k=>(i (k.1.1,j,())).bind fun n=>some ((n.1.1,k.1.2.1,()),(),(),(),(),())) ((h ((IntKind.wrap .i64 (e-d.1.1)),(IntKind.wrap .i64 (f-d.1.1)),g,(List.take ((Int.toNat a)-0) (List.drop 0 b)),())).bind fun l=>(i (j,l.1.1,())).bind fun o=>some ((o.1.1,l.1.2.1,()),(),(),(),(),()))) none) none)))
def Pk:Nat→Xl|0=>fun _=>none|n+1=>fun x=>Ap6 Ac Wr (Pk n) Ast x.1 x.2.1 x.2.2.1 x.2.2.2.1
def Al2:Xl:=Pk Bks
abbrev Bkh:=Y85→Option Y94
def Awx(L:Ae)(d:Xl)(e:(List Int))(b:Int)(a:Int)(f:(List Int))(g:Y1):Option Y94:=(Ah (decide (a<0)) (some ((false,()),(),(),(),(),(),())) (Ah (decide (a≥b)) (some ((false,()),(),(),(),(),(),())) ((d (b,a,f,g,())).bind fun c=>Ah c.1.2.1 (some (((eqD (Ty.arr 32 (Ty.int IntKind.u8)) c.1.1 e),()),(),(),(),(),(),())) (some ((false,()),(),(),(),(),(),())))))
def Afm:Bkh:=fun x=>Awx Ac Al2 x.1 x.2.1 x.2.2.1 x.2.2.2.1 x.2.2.2.2.1
set_option maxRecDepth 100000
def sp(n:Nat):Nat:=2 ^ Nat.log2 (n-1)
theorem Cno{j n:Nat}(h1:2 ^ j<n)(h2:n≤2*2 ^ j):sp n=2 ^ j:=by
 have hp:0<2 ^ j:=Nat.two_pow_pos j
 have:Nat.log2 (n-1)=j:=(Nat.log2_eq_iff (by omega)).2 ⟨by omega,by rw[Nat.pow_succ];omega⟩
 rw[sp,this]
theorem Aoe{n:Nat}(h:2≤n):1≤sp n∧sp n<n∧n≤2*sp n:=by
 have h0:n-1≠0:=by omega
 have h1:=Nat.log2_self_le h0
 have h2:=@Nat.lt_log2_self (n-1)
 rw[Nat.pow_succ] at h2
 have hp:0<2 ^ Nat.log2 (n-1):=Nat.two_pow_pos _
 unfold sp
 exact⟨hp,by omega,by omega⟩
theorem Bsh{n:Nat}(h2:2≤n)(h3:n≤9223372036854775807):Wr ((n:Int),())=some ((((sp n:Nat):Int),()),(),()):=by
 unfold Wr Al1
 refine Ak (I:=fun x=>x.1=(n:Int)∧∃ j:Nat,x.2.1=((2 ^ j:Nat):Int)∧2 ^ j<n) (m:=fun x=>((n:Int)-x.2.1).toNat) (g:=fun _=>some ((((sp n:Nat):Int),()),(),())) ?_
  ⟨rfl,0,rfl,by simp only[Nat.pow_zero];omega⟩ (by simp only[Av];omega)
 rintro⟨n',k,_⟩ again ⟨e0,j,e1,e2⟩ hag
 simp only at e0 e1 hag ⊢
 subst e0 e1
 have hp:0<2 ^ j:=Nat.two_pow_pos j
 simp only[Aap,Ad]
 rw[Ar (by omega) (by omega)]
 by_cases hc:((2 ^ j:Nat):Int)<(n:Int)-((2 ^ j:Nat):Int)
 ·rw[if_pos hc,Ar (by omega) (by omega)]
  exact hag _ ⟨rfl,j+1,by simp only[Nat.pow_succ];omega,by rw[Nat.pow_succ];omega⟩ (by simp only;omega)
 ·rw[if_neg hc,Cno e2 (by omega)]
theorem Ao0{n:Nat}(h2:2≤n)(h3:n≤9223372036854775807):E0 ((n:Int),())=some ((((sp n:Nat):Int),()),(),()):=by
 unfold E0 Afu
 refine Ak (I:=fun x=>x.1=(n:Int)∧∃ j:Nat,x.2.1=((2 ^ j:Nat):Int)∧2 ^ j<n) (m:=fun x=>((n:Int)-x.2.1).toNat) (g:=fun _=>some ((((sp n:Nat):Int),()),(),())) ?_
  ⟨rfl,0,rfl,by simp only[Nat.pow_zero];omega⟩ (by simp only[Av];omega)
 rintro⟨n',k,_⟩ again ⟨e0,j,e1,e2⟩ hag
 simp only at e0 e1 hag ⊢
 subst e0 e1
 have hp:0<2 ^ j:=Nat.two_pow_pos j
 simp only[Aec,Ad]
 rw[Ar (by omega) (by omega)]
 by_cases hc:((2 ^ j:Nat):Int)<(n:Int)-((2 ^ j:Nat):Int)
 ·rw[if_pos hc,Ar (by omega) (by omega)]
  exact hag _ ⟨rfl,j+1,by simp only[Nat.pow_succ];omega,by rw[Nat.pow_succ];omega⟩ (by simp only;omega)
 ·rw[if_neg hc,Cno e2 (by omega)]
abbrev Z32:List Int:=List.replicate 32 0
theorem Bxw:H32 Z32:=⟨by simp,fun x hx=>by rw[List.eq_of_mem_replicate hx];omega⟩
def Te(l:List (List Int)):Prop:=∀ h∈l,H32 h
theorem Te.take{l:List (List Int)}(h:Te l)(i:Nat):Te (l.take i):=fun x hx=>h x (List.mem_of_mem_take hx)
theorem Te.drop{l:List (List Int)}(h:Te l)(i:Nat):Te (l.drop i):=fun x hx=>h x (List.mem_of_mem_drop hx)
theorem Te.append{l m:List (List Int)}(h:Te l)(k:Te m):Te (l++m):=fun x hx=>by
 rcases List.mem_append.1 hx with hx|hx
 ·exact h x hx
 ·exact k x hx
theorem Te.at{l:List (List Int)}(h:Te l)(i:Nat):H32 (l.getD i Z32):=by
 rcases Nat.lt_or_ge i l.length with hi|hi
 ·exact h _ (Bt hi)
 ·rw[List.getD_eq_getElem?_getD,List.getElem?_eq_none hi];exact Bxw
theorem Te.one{x:List Int}(h:H32 x):Te [x]:=fun y hy=>by simp only[List.mem_singleton] at hy;subst hy;exact h
def Agv(l:List (List Int)):List Int :=
 if l.length=0 then sha [] else if l.length=1 then l.getD 0 Z32 else
  if h:2≤l.length then Axz (Agv (l.take (sp l.length))) (Agv (l.drop (sp l.length))) else []
termination_by l.length
decreasing_by
 all_goals
  have:=Aoe h
  simp only[List.length_take,List.length_drop]
  omega
theorem Bmq{l:List (List Int)}(h:l.length=0):Agv l=sha []:=by rw[Agv,if_pos h]
theorem Bs0{l:List (List Int)}(h:l.length=1):Agv l=l.getD 0 Z32:=by rw[Agv,if_neg (by omega),if_pos h]
theorem Bs4{l:List (List Int)}(h:2≤l.length):Agv l=Axz (Agv (l.take (sp l.length))) (Agv (l.drop (sp l.length))):=by
 conv=>lhs;rw[Agv]
 rw[if_neg (by omega),if_neg (by omega),dif_pos h]
theorem Azd{l:List (List Int)}(h:Te l):H32 (Agv l):=by
 by_cases h0:l.length=0
 ·rw[Bmq h0];exact Buf _
 by_cases h1:l.length=1
 ·rw[Bs0 h1];exact h.at 0
 rw[Bs4 (by omega)];exact Axw _ _
theorem Bi5:∀ (f:Nat) (l:List (List Int)),l.length<f→l.length≤1000000000→Te l→Ni f (l,())=some ((Agv l,()),(),())
 | 0,l,h,_,_=>by omega
 | f+1,l,h,hl,ha=>by
  unfold Ni Ar9
  simp only[Am,Ad,Ao,Aga]
  by_cases h0:l.length=0
  ·rw[if_pos (by omega),Bl8 (by intro x hx;cases hx) (by simp),Bmq h0];rfl
  rw[if_neg (by omega)]
  by_cases h1:l.length=1
  ·rw[if_pos (by omega),if_pos (by omega),Bs0 h1]
  have hs:=Aoe (n:=l.length) (by omega)
  have t1:List.take (sp l.length-0) (List.drop 0 l)=l.take (sp l.length):=by simp
  have t2:List.take (l.length-sp l.length) (List.drop (sp l.length) l)=l.drop (sp l.length):=List.take_of_length_le (by rw[List.length_drop];omega)
  rw[if_neg (by omega),Ao0 (by omega) (by omega)]
  simp only[Aa,Int.toNat_natCast]
  rw[t1,t2,if_pos (by omega),if_pos (by omega),Bi5 f (l.take (sp l.length)) (by rw[List.length_take];omega) (by rw[List.length_take];omega) (ha.take _)]
  simp only[Aa]
  rw[if_pos (by omega),if_pos (by omega),Bi5 f (l.drop (sp l.length)) (by rw[List.length_drop];omega) (by rw[List.length_drop];omega) (ha.drop _)]
  simp only[Aa]
  rw[Boh (Azd (ha.take _)) (Azd (ha.drop _)),Bs4 (l:=l) (by omega)]
  rfl
theorem Bch{l:List (List Int)}(hl:l.length≤1000000000)(ha:Te l):Md (l,())=some ((Agv l,()),(),()) :=
 Bi5 Bks l (by rw[Bma];omega) hl ha
def Wm(l:List (List Int))(i:Nat):List (List Int) :=
 if h:2≤l.length then
  if i<sp l.length then Wm (l.take (sp l.length)) i++[Agv (l.drop (sp l.length))] else Wm (l.drop (sp l.length)) (i-sp l.length)++[Agv (l.take (sp l.length))]
 else []
termination_by l.length
decreasing_by
 all_goals
  have:=Aoe h
  simp only[List.length_take,List.length_drop]
  omega
theorem Awh{l:List (List Int)}{i:Nat}(h:l.length<2):Wm l i=[]:=by rw[Wm,dif_neg (by omega)]
theorem Bj8{l:List (List Int)}{i:Nat}(h:2≤l.length)(hi:i<sp l.length):Wm l i=Wm (l.take (sp l.length)) i++[Agv (l.drop (sp l.length))]:=by
 conv=>lhs;rw[Wm]
 rw[dif_pos h,if_pos hi]
theorem Bfm{l:List (List Int)}{i:Nat}(h:2≤l.length)(hi:¬ i<sp l.length):Wm l i=Wm (l.drop (sp l.length)) (i-sp l.length)++[Agv (l.take (sp l.length))]:=by
 conv=>lhs;rw[Wm]
 rw[dif_pos h,if_neg hi]
theorem Z9:∀ (n:Nat) (l:List (List Int)) (i:Nat),l.length≤n→Te l→(Wm l i).length≤l.length∧Te (Wm l i)
 | 0,l,i,h,_=>by rw[Awh (by omega)];exact⟨by simp,fun x hx=>by cases hx⟩
 | n+1,l,i,h,ha=>by
  by_cases h2:2≤l.length
  ·have hs:=Aoe h2
   by_cases hi:i<sp l.length
   ·obtain⟨k1,k2⟩:=Z9 n (l.take (sp l.length)) i (by rw[List.length_take];omega) (ha.take _)
    rw[Bj8 h2 hi]
    refine⟨?_,k2.append (Te.one (Azd (ha.drop _)))⟩
    rw[List.length_take] at k1
    rw[List.length_append,List.length_singleton];omega
   ·obtain⟨k1,k2⟩:=Z9 n (l.drop (sp l.length)) (i-sp l.length) (by rw[List.length_drop];omega) (ha.drop _)
    rw[Bfm h2 hi]
    refine⟨?_,k2.append (Te.one (Azd (ha.take _)))⟩
    rw[List.length_drop] at k1
    rw[List.length_append,List.length_singleton];omega
  ·rw[Awh (by omega)];exact⟨by simp,fun x hx=>by cases hx⟩
theorem Bg1{α:Type}{n:Nat}(h:n≤100000000)(a b:Option α):Ah (A9 n (.arr 32 (.int .u8))) a b=a:=by
 rw[Ah6,show (Ty.arr 32 (Ty.int IntKind.u8)).size=32 from rfl,if_pos ⟨by omega,by omega⟩]
theorem Bd0:∀ (f:Nat) (l:List (List Int)) (i:Nat),l.length<f→1≤l.length→l.length≤10000000→i<l.length→Te l→Pg f (l,(i:Int),())=some ((Wm l i,()),(),(),())
 | 0,l,i,h,_,_,_,_=>by omega
 | f+1,l,i,h,hl0,hl,hi,ha=>by
  unfold Pg Auj
  simp only[Am,Ad,Aga]
  by_cases h1:l.length=1
  ·rw[if_pos (by omega),Awh (by omega)]
  have hs:=Aoe (n:=l.length) (by omega)
  have t1:List.take (sp l.length-0) (List.drop 0 l)=l.take (sp l.length):=by simp
  have t2:List.take (l.length-sp l.length) (List.drop (sp l.length) l)=l.drop (sp l.length):=List.take_of_length_le (by rw[List.length_drop];omega)
  have k1:=Z9 l.length (l.take (sp l.length)) i (by rw[List.length_take];omega) (ha.take _)
  have k2:=Z9 l.length (l.drop (sp l.length)) (i-sp l.length) (by rw[List.length_drop];omega) (ha.drop _)
  rw[List.length_take] at k1
  rw[List.length_drop] at k2
  rw[if_neg (by omega),Ao0 (by omega) (by omega)]
  have g1:(0:Int)≤((sp l.length:Nat):Int):=by omega
  have g2:((sp l.length:Nat):Int)≤(l.length:Int):=by omega
  simp only[Aa,Int.toNat_natCast,if_pos g1,if_pos g2]
  rw[t1,t2]
  by_cases hc:i<sp l.length
  ·rw[if_pos (by omega),Bd0 f (l.take (sp l.length)) i (by rw[List.length_take];omega) (by rw[List.length_take];omega) (by rw[List.length_take];omega) (by rw[List.length_take];omega) (ha.take _)]
   simp only[Aa]
   rw[Bch (by rw[List.length_drop];omega) (ha.drop _)]
   simp only[Aa]
   rw[Bg1 (by omega),Bj8 (by omega) hc];rfl
  ·rw[if_neg (by omega),Ar (by omega) (by omega),show (i:Int)-((sp l.length:Nat):Int)=((i-sp l.length:Nat):Int) by omega,
    Bd0 f (l.drop (sp l.length)) (i-sp l.length) (by rw[List.length_drop];omega) (by rw[List.length_drop];omega) (by rw[List.length_drop];omega) (by rw[List.length_drop];omega) (ha.drop _)]
   simp only[Aa]
   rw[Bch (by rw[List.length_take];omega) (ha.take _)]
   simp only[Aa]
   rw[Bg1 (by omega),Bfm (by omega) hc];rfl
theorem Cgs{l:List (List Int)}{i:Nat}(hl:l.length≤10000000)(hi:i<l.length)(ha:Te l):Yj (l,(i:Int),())=some ((Wm l i,()),(),(),()) :=
 Bd0 Bks l i (by rw[Bma];omega) (by omega) hl hi ha
def upR:Nat→Nat→List Int→List (List Int)→Option (List Int)
 | n,i,leaf,[]=>if n=1 then some leaf else none
 | n,i,leaf,last::rest=>if n=1 then none else
  if i<sp n then (upR (sp n) i leaf rest).map (fun h=>Axz h last) else (upR (n-sp n) (i-sp n) leaf rest).map (fun h=>Axz last h)
theorem Bnl{p:List (List Int)}(h:p≠[]):∃ rest last,p=rest++[last]∧p.reverse=last::rest.reverse:=by
 have e:p=p.dropLast++[p.getLast h]:=(List.dropLast_concat_getLast h).symm
 refine⟨p.dropLast,p.getLast h,e,?_⟩
 conv=>lhs;rw[e]
 rw[List.reverse_append];rfl
theorem Bm7:∀ (f:Nat) (p:List (List Int)) (n i:Nat) (leaf:List Int),p.length<f→p.length≤1000000000→1≤n→n≤9223372036854775807→i<n→H32 leaf→Te p →
  ∃ h,H32 h∧Pk f ((n:Int),(i:Int),leaf,p,())=some ((h,(upR n i leaf p.reverse).isSome,()),(),(),(),(),())∧∀ r,upR n i leaf p.reverse=some r→h=r
 | 0,p,n,i,leaf,h,_,_,_,_,_,_=>by omega
 | f+1,p,n,i,leaf,h,hl,hn1,hn2,hi,hf,ha=>by
  unfold Pk Ap6
  simp only[Am,Ad,Ao,Aga]
  by_cases hp:p=[]
  ·subst hp
   by_cases h1:n=1
   ·subst h1
    exact⟨leaf,hf,by simp[upR],fun r hr=>by simpa [upR] using hr⟩
   ·refine⟨Z32,Bxw,?_,fun r hr=>by simp[upR,h1] at hr⟩
    rw[if_neg (by omega),if_pos (by simp)]
    simp[upR,h1,Z32]
  obtain⟨rest,last,e1,e2⟩:=Bnl hp
  have hlen:p.length=rest.length+1:=by rw[e1];simp
  rw[e2]
  by_cases h1:n=1
  ·subst h1
   refine⟨leaf,hf,?_,fun r hr=>by simp[upR] at hr⟩
   rw[if_pos (by omega)]
   simp[upR,hlen];omega
  have hs:=Aoe (n:=n) (by omega)
  rw[if_neg (by omega),if_neg (by omega),Bsh (by omega) hn2]
  simp only[Aa]
  rw[Ar (n:=(p.length:Int)-1) (by omega) (by omega),if_pos (by omega),if_pos (by omega),if_pos (by omega),show ((p.length:Int)-1).toNat=rest.length by omega]
  have t1:List.take (rest.length-0) (List.drop 0 p)=rest:=by rw[e1];simp
  have t2:p.getD rest.length Z32=last:=by rw[e1,List.getD_eq_getElem?_getD,List.getElem?_append_right (by omega)];simp
  have hrest:Te rest:=fun x hx=>ha x (by rw[e1];simp[hx])
  have hlast:H32 last:=ha last (by rw[e1];simp)
  rw[t1,t2]
  by_cases hc:i<sp n
  ·obtain⟨h',q1,q2,q3⟩:=Bm7 f rest (sp n) i leaf (by omega) (by omega) (by omega) (by omega) hc hf hrest
   rw[if_pos (by omega),q2]
   simp only[Aa]
   rw[Cdb q1 hlast]
   refine⟨Axz h' last,Axw _ _,by simp only[Aa,upR];rw[if_neg h1,if_pos hc];simp,fun r hr=>?_⟩
   simp only[upR] at hr
   rw[if_neg h1,if_pos hc] at hr
   obtain⟨r',hr1,rfl⟩:=Option.map_eq_some_iff.1 hr
   rw[q3 _ hr1]
  ·obtain⟨h',q1,q2,q3⟩:=Bm7 f rest (n-sp n) (i-sp n) leaf (by omega) (by omega) (by omega) (by omega) (by omega) hf hrest
   rw[if_neg (by omega),Ar (n:=(n:Int)-(sp n:Nat)) (by omega) (by omega),Ar (n:=(i:Int)-(sp n:Nat)) (by omega) (by omega),show (n:Int)-((sp n:Nat):Int)=((n-sp n:Nat):Int) by omega,show (i:Int)-((sp n:Nat):Int)=((i-sp n:Nat):Int) by omega,q2]
   simp only[Aa]
   rw[Cdb hlast q1]
   refine⟨Axz last h',Axw _ _,by simp only[Aa,upR];rw[if_neg h1,if_neg hc];simp,fun r hr=>?_⟩
   simp only[upR] at hr
   rw[if_neg h1,if_neg hc] at hr
   obtain⟨r',hr1,rfl⟩:=Option.map_eq_some_iff.1 hr
   rw[q3 _ hr1]
theorem Ccq:∀ (f:Nat) (p:List (List Int)) (n i:Nat) (leaf:List Int),p.length<f→p.length≤1000000000→1≤n→n≤9223372036854775807→i<n→H32 leaf→Te p →
  ∃ h,H32 h∧Aah f ((n:Int),(i:Int),leaf,p,())=some ((h,(upR n i leaf p.reverse).isSome,()),(),(),(),(),())∧∀ r,upR n i leaf p.reverse=some r→h=r
 | 0,p,n,i,leaf,h,_,_,_,_,_,_=>by omega
 | f+1,p,n,i,leaf,h,hl,hn1,hn2,hi,hf,ha=>by
  unfold Aah Bg6
  simp only[Am,Ad,Ao,Aga]
  by_cases hp:p=[]
  ·subst hp
   by_cases h1:n=1
   ·subst h1
    exact⟨leaf,hf,by simp[upR],fun r hr=>by simpa [upR] using hr⟩
   ·refine⟨leaf,hf,?_,fun r hr=>by simp[upR,h1] at hr⟩
    rw[if_neg (by omega),if_pos (by simp)]
    simp[upR,h1,Z32]
  obtain⟨rest,last,e1,e2⟩:=Bnl hp
  have hlen:p.length=rest.length+1:=by rw[e1];simp
  rw[e2]
  by_cases h1:n=1
  ·subst h1
   refine⟨leaf,hf,?_,fun r hr=>by simp[upR] at hr⟩
   rw[if_pos (by omega)]
   simp[upR,hlen];omega
  have hs:=Aoe (n:=n) (by omega)
  rw[if_neg (by omega),if_neg (by omega),Ao0 (by omega) hn2]
  simp only[Aa]
  rw[Ar (n:=(p.length:Int)-1) (by omega) (by omega),if_pos (by omega),show ((p.length:Int)-1).toNat=rest.length by omega]
  have g1:(0:Int)≤(p.length:Int)-1:=by omega
  have g2:(p.length:Int)-1≤(p.length:Int):=by omega
  simp only[if_pos g1,if_pos g2]
  have t1:List.take (rest.length-0) (List.drop 0 p)=rest:=by rw[e1];simp
  have t2:p.getD rest.length Z32=last:=by rw[e1,List.getD_eq_getElem?_getD,List.getElem?_append_right (by omega)];simp
  have hrest:Te rest:=fun x hx=>ha x (by rw[e1];simp[hx])
  have hlast:H32 last:=ha last (by rw[e1];simp)
  rw[t1,t2]
  by_cases hc:i<sp n
  ·obtain⟨h',q1,q2,q3⟩:=Ccq f rest (sp n) i leaf (by omega) (by omega) (by omega) (by omega) hc hf hrest
   rw[if_pos (by omega),q2]
   simp only[Aa]
   rw[Boh q1 hlast]
   refine⟨Axz h' last,Axw _ _,by simp only[Aa,upR];rw[if_neg h1,if_pos hc];simp,fun r hr=>?_⟩
   simp only[upR] at hr
   rw[if_neg h1,if_pos hc] at hr
   obtain⟨r',hr1,rfl⟩:=Option.map_eq_some_iff.1 hr
   rw[q3 _ hr1]
  ·obtain⟨h',q1,q2,q3⟩:=Ccq f rest (n-sp n) (i-sp n) leaf (by omega) (by omega) (by omega) (by omega) (by omega) hf hrest
   rw[if_neg (by omega),Ar (n:=(n:Int)-(sp n:Nat)) (by omega) (by omega),Ar (n:=(i:Int)-(sp n:Nat)) (by omega) (by omega),show (n:Int)-((sp n:Nat):Int)=((n-sp n:Nat):Int) by omega,show (i:Int)-((sp n:Nat):Int)=((i-sp n:Nat):Int) by omega,q2]
   simp only[Aa]
   rw[Boh hlast q1]
   refine⟨Axz last h',Axw _ _,by simp only[Aa,upR];rw[if_neg h1,if_neg hc];simp,fun r hr=>?_⟩
   simp only[upR] at hr
   rw[if_neg h1,if_neg hc] at hr
   obtain⟨r',hr1,rfl⟩:=Option.map_eq_some_iff.1 hr
   rw[q3 _ hr1]
def Bae(root:List Int)(n i:Int)(leaf:List Int)(p:List (List Int)):Bool :=
 decide (0≤i∧i<n)&&decide (upR n.toNat i.toNat leaf p.reverse=some root)
theorem Ce5{root leaf:List Int}{n i:Int}{p:List (List Int)}(hn:n≤9223372036854775807)(hl:p.length≤1000000000)(hf:H32 leaf)(ha:Te p) :
  Afm (root,n,i,leaf,p,())=some ((Bae root n i leaf p,()),(),(),(),(),(),()):=by
 unfold Afm Awx Bae
 simp only[Ad]
 by_cases h1:i<0
 ·rw[if_pos h1,decide_eq_false (by omega)];rfl
 rw[if_neg h1]
 by_cases h2:i≥n
 ·rw[if_pos h2,decide_eq_false (by omega)];rfl
 rw[if_neg h2,decide_eq_true (by omega)]
 obtain⟨i,rfl⟩:=Int.eq_ofNat_of_zero_le (show 0≤i by omega)
 obtain⟨n,rfl⟩:=Int.eq_ofNat_of_zero_le (show 0≤n by omega)
 obtain⟨h,q1,q2,q3⟩:=Bm7 Bks p n i leaf (by rw[Bma];omega) hl (by omega) (by omega) (by omega) hf ha
 unfold Al2
 rw[q2]
 simp only[Aa,Int.toNat_natCast,Bool.true_and]
 by_cases hu:∃ r,upR n i leaf p.reverse=some r
 ·obtain⟨r,hu⟩:=hu
  simp only[q3 r hu,hu,Option.isSome_some,Au,Cdh]
  simp
 ·have hn:upR n i leaf p.reverse=none:=by
   cases h0:upR n i leaf p.reverse with
   | none=>rfl
   | some r=>exact absurd ⟨r,h0⟩ hu
  simp[hn,Bp]
theorem Bpg{root leaf:List Int}{n i:Int}{p:List (List Int)}(hn:n≤9223372036854775807)(hl:p.length≤64)(hf:H32 leaf)(ha:Te p) :
  Ph (root,n,i,leaf,p,())=some ((Bae root n i leaf p,()),(),(),(),(),(),()):=by
 unfold Ph Aik Bae
 simp only[Ad]
 by_cases h1:i<0
 ·rw[if_pos h1,decide_eq_false (by omega)];rfl
 rw[if_neg h1]
 by_cases h2:i≥n
 ·rw[if_pos h2,decide_eq_false (by omega)];rfl
 rw[if_neg h2,if_neg (by omega),decide_eq_true (by omega)]
 obtain⟨i,rfl⟩:=Int.eq_ofNat_of_zero_le (show 0≤i by omega)
 obtain⟨n,rfl⟩:=Int.eq_ofNat_of_zero_le (show 0≤n by omega)
 obtain⟨h,q1,q2,q3⟩:=Ccq Bks p n i leaf (by rw[Bma];omega) (by omega) (by omega) (by omega) (by omega) hf ha
 unfold Ajt
 rw[q2]
 simp only[Aa,Int.toNat_natCast,Bool.true_and]
 by_cases hu:∃ r,upR n i leaf p.reverse=some r
 ·obtain⟨r,hu⟩:=hu
  simp only[q3 r hu,hu,Option.isSome_some,Au,Cdh]
  simp
 ·have hn:upR n i leaf p.reverse=none:=by
   cases h0:upR n i leaf p.reverse with
   | none=>rfl
   | some r=>exact absurd ⟨r,h0⟩ hu
  simp[hn,Bp]
theorem Bar{n:Nat}(h:Al4 n≤255):Dy (enc n):=by
 intro x hx
 rcases List.mem_cons.1 hx with rfl|hx
 ·omega
 ·exact Bzy x hx
set_option maxRecDepth 100000
def Cci(n:Int)(i:Nat):List Int:=(List.range 32).map fun k=>if k<i then (((n % 18446744073709551616).toNat / 256 ^ k % 256:Nat):Int) else 0
def hof(n:Int):List Int:=Cci n 8
theorem Ayn(n:Int)(i:Nat):(Cci n i).length=32:=by simp[Cci]
theorem Bhc{n:Int}{i k:Nat}(hk:k<32):(Cci n i).getD k 0=if k<i then (((n % 18446744073709551616).toNat / 256 ^ k % 256:Nat):Int) else 0:=by
 rw[Cci,List.getD_eq_getElem?_getD,List.getElem?_map,List.getElem?_range hk];rfl
theorem Cm2{l m:List Int}(hl:l.length=32)(hm:m.length=32)(h:∀ k,k<32→l.getD k 0=m.getD k 0):l=m:=by
 apply List.ext_getElem
 ·omega
 ·intro k h1 h2
  have:=h k (by omega)
  rw[List.getD_eq_getElem?_getD,List.getElem?_eq_getElem h1,List.getD_eq_getElem?_getD,List.getElem?_eq_getElem h2] at this
  exact this
theorem Ckv(n:Int):H32 (hof n):=by
 refine⟨Ayn n 8,fun x hx=>?_⟩
 simp only[hof,Cci,List.mem_map] at hx
 obtain⟨k,_,rfl⟩:=hx
 split<;>omega
theorem Cfb(n:Int):Uu (n,())=some ((hof n,()),(),()):=by
 unfold Uu Ai3
 refine Ak (I:=fun x=>x.1=n∧(0:Int)≤x.2.2.2.1∧x.2.2.2.1≤(8:Int)∧x.2.2.1=Cci n x.2.2.2.1.toNat) (m:=fun x=>((8:Int)-x.2.2.2.1).toNat) (g:=fun _=>some ((hof n,()),(),())) ?_
  ⟨rfl,by simp only;omega,by simp only;omega,?_⟩ (by simp only[Av];omega)
 ·rintro⟨n',t,h,i,_⟩ again ⟨e0,e1,e2,e3⟩ hag
  simp only at e0 e1 e2 e3 hag ⊢
  subst e0 e3
  obtain⟨i,rfl⟩:=Int.eq_ofNat_of_zero_le e1
  simp only[Alu,Am,Ad,Ao,Int.toNat_natCast]
  by_cases hi:i<8
  ·rw[if_pos (by omega),Ar (n:=8*(i:Int)) (by omega) (by omega),H4 (n:=8*(i:Int)) (by omega) (by omega),if_pos (by omega),if_pos (by omega),Ar (by omega) (by omega),show (8*(i:Int)).toNat=8*i by omega,Nat.min_eq_left (by omega)]
   have hb:IntKind.wrap .u8 (Int.fdiv (IntKind.wrap .u64 n') ((2:Int) ^ (8*i)))=(((n' % 18446744073709551616).toNat / 256 ^ i % 256:Nat):Int):=by
    have p:∀ k:Nat,(2:Int) ^ k=((2 ^ k:Nat):Int):=fun k=>by rw[Int.natCast_pow];rfl
    have e:IntKind.wrap .u64 n'=(((n' % 18446744073709551616).toNat:Nat):Int):=by rw[IntKind.wrap_u64];omega
    rw[e,p,d32,IntKind.wrap_u8,Bn7];omega
   rw[hb]
   refine hag _ ⟨rfl,by simp only;omega,by simp only;omega,?_⟩ (by simp only;omega)
   simp only
   rw[show ((i:Int)+1).toNat=i+1 by omega]
   refine Cm2 (by rw[List.length_set,Ayn]) (Ayn _ _) fun k hk=>?_
   rw[Cgu (by rw[Ayn];omega),Bhc hk,Bhc hk]
   by_cases hki:k=i
   ·subst hki;rw[if_pos rfl,if_pos (by omega)]
   ·rw[if_neg hki]
    by_cases hlt:k<i
    ·rw[if_pos hlt,if_pos (by omega)]
    ·rw[if_neg hlt,if_neg (by omega)]
  ·have:i=8:=by omega
   subst this
   rw[if_neg (by omega)];rfl
 ·simp only
  refine Cm2 (by simp) (Ayn _ _) fun k hk=>?_
  rw[Bhc hk,show (0:Int).toNat=0 from rfl,if_neg (by omega),List.getD_eq_getElem?_getD,List.getElem?_replicate,if_pos hk];rfl
theorem Ciw{n i:Nat}(h1:n<256 ^ (i+1))(h2:256 ^ i≤n):Al4 n=i+1:=by
 have a:=Bgm.2 h1
 rcases Nat.lt_or_ge i (Al4 n) with h|h
 ·omega
 ·have:=Bgm.1 h;omega
theorem Ce7{n:Nat}(hn:n<115792089237316195423570985008687907853269984665640564039457584007913129639936):Vg (Aw n,())=some ((beB (Al4 n) n,()),(),()):=by
 unfold Vg Ais
 refine Eq.trans (Ak (I:=fun x=>x.1=Aw n∧(-1:Int)≤x.2.2.1∧x.2.2.1≤(31:Int)∧(x.2.1.length:Int)+x.2.2.1≤(31:Int)∧(x.2.1=[]→n<256 ^ (x.2.2.1+1).toNat)) (m:=fun x=>(x.2.2.1+1).toNat)
  (g:=fun x=>some ((x.2.1++(if x.2.1=[] then beB (Al4 n) n else beB (x.2.2.1+1).toNat n),()),(),())) ?_
  ⟨rfl,by simp only;omega,by simp only;omega,by simp only[List.length_nil];omega,fun _=>hn⟩ (by simp only[Av];omega)) ?_
 ·rintro⟨l,o,i,_⟩ again ⟨h1,h2,h3,h4,h5⟩ hag
  simp only at h1 h2 h3 h4 h5 hag ⊢
  subst h1
  simp only[Al6,Am,Ad,Ao,ge_iff_le,B8]
  by_cases hi:0≤i
  ·obtain⟨j,rfl⟩:=Int.eq_ofNat_of_zero_le hi
   have ej:((j:Int)+1).toNat=j+1:=by omega
   rw[if_pos hi,Anq hi,Jg hi,Ar (n:=(j:Int) / 8) (by omega) (by omega),Ar (n:=8*((j:Int) % 8)) (by omega) (by omega),H4 (by omega) (by omega),if_pos (by omega),if_pos (by omega),Di (by omega),Ar (by omega) (by omega)]
   rw[show ((j:Int) / 8).toNat=j / 8 by omega,show (8*((j:Int) % 8)).toNat=8*(j % 8) by omega,Cae hn (by omega)]
   have hb:beB (j+1) n=((n / 256 ^ j % 256:Nat):Int)::beB j n:=rfl
   rw[ej] at h5 ⊢
   have step:o.length>0∨n / 256 ^ j % 256>0→again (Aw n,o++[((n / 256 ^ j % 256:Nat):Int)],(j:Int)-1,())=some ((o++(if o=[] then beB (Al4 n) n else beB (j+1) n),()),(),()):=by
    intro hc
    rw[hag _ ⟨rfl,by simp only;omega,by simp only;omega,by simp only[List.length_append,List.length_singleton];omega,fun h=>by simp at h⟩ (by simp only;omega)]
    simp only
    rw[if_neg (by simp),show ((j:Int)-1+1).toNat=j by omega]
    by_cases ho:o=[]
    ·subst ho
     have h6:=h5 rfl
     have h7:256 ^ j≤n:=by
      rcases Nat.lt_or_ge n (256 ^ j) with h|h
      ·rw[Nat.div_eq_of_lt h] at hc;simp at hc
      ·exact h
     rw[if_pos rfl,Ciw h6 h7,hb];simp
    ·rw[if_neg ho,hb];simp
   by_cases c1:(o.length:Int)>0
   ·rw[if_pos c1,step (.inl (by omega))]
   ·rw[if_neg c1]
    have ho:o=[]:=List.length_eq_zero_iff.1 (by omega)
    by_cases c2:((n / 256 ^ j % 256:Nat):Int)>0
    ·rw[if_pos c2,step (.inr (by omega))]
    ·rw[if_neg c2]
     have h6:=h5 ho
     have hlt:n / 256 ^ j<256:=by
      rw[Nat.div_lt_iff_lt_mul (Nat.pow_pos (by omega)),Nat.mul_comm,← Nat.pow_succ];exact h6
     have h7:n<256 ^ j:=by
      rw[Nat.mod_eq_of_lt hlt] at c2
      have:n / 256 ^ j=0:=by generalize n / 256 ^ j=q at *;omega
      exact (Nat.div_eq_zero_iff.1 this).resolve_left (by have:=Nat.pow_pos (a:=256) (n:=j) (by omega);omega)
     rw[hag _ ⟨rfl,by simp only;omega,by simp only;omega,by simp only;omega,fun _=>by simp only;rw[show ((j:Int)-1+1).toNat=j by omega];exact h7⟩ (by simp only;omega)]
     simp[ho]
  ·have:i = -1:=by omega
   subst this
   rw[if_neg hi]
   by_cases ho:o=[]
   ·have h6:n<1:=h5 ho
    have:n=0:=by omega
    subst this
    simp[Cbj,beB]
   ·simp[ho,beB]
 ·simp
theorem B1{b:List Int}(hb:b.length≤1000000000){n:Nat}(hn:n<115792089237316195423570985008687907853269984665640564039457584007913129639936) :
  Bl (b,Aw n,())=some ((b++enc n,()),(),(),()):=by
 unfold Bl Qi enc
 have h2:=Adu hn
 rw[Ce7 hn]
 simp only[Aa,Am,B8]
 rw[Beo,Cnw (by omega) (by omega),Di (by omega),Di (by omega),Di (by simp;omega)]
 simp
theorem Cx{b:List Int}(hb:b.length≤1000000000){n:Int}(h0:0≤n)(h1:n≤18446744073709551615) :
  Bu (b,n,())=some ((b++enc n.toNat,()),(),(),()):=by
 unfold Bu Ri
 simp only
 rw[Aad h0 h1,B1 hb (by omega)]
 rfl
theorem Bjc{b:List Int}(hb:b.length≤100000000){s:Bool}{n:Nat}(hn:n<115792089237316195423570985008687907853269984665640564039457584007913129639936) :
  Kq (b,(s,Aw n,()),())=some ((b++Bxu s n,()),(),(),()):=by
 unfold Kq Aba Bxu
 simp only[B8]
 rw[B1 (by simp;omega) hn,B1 (by simp;omega) hn,← Anh,Aim]
 simp only[Aa,Ad,Di (show 0+b.length≤1099511627776 by omega),Di (show b.length+1≤1099511627776 by omega)]
 cases s
 ·simp[Au,Bp]
 ·by_cases h0:n=0
  ·simp[h0,Au]
  ·simp[h0,Au]
abbrev Ff:=Int×(Int×List Int×Unit)
inductive Bcl:Ff→Prop
 | mk {s t:Int} {v:Nat} (hs:0≤s∧s≤18446744073709551615) (ht:0≤t∧t≤18446744073709551615) (hv:v<115792089237316195423570985008687907853269984665640564039457584007913129639936):Bcl (s,t,Aw v,())
abbrev Bj:Ff:=((0:Int),(0:Int),[(0:Int),0,0,0],())
def Bgz(m:Ff):List Int:=enc m.1.toNat++(enc m.2.1.toNat++enc (Dw m.2.2.1))
def Ag0(m:Ff):List Int:=Ciq (Bgz m)
theorem Btf(m:Ff):H32 (Ag0 m):=Ch1 _
theorem Cbp{m:Ff}(h:Bcl m):(Bgz m).length≤1000∧Dy (Bgz m):=by
 obtain⟨hs,ht,hv⟩:=h
 rename_i s t v
 have:=@Bgl s.toNat (by omega);have:=@Bgl t.toNat (by omega);have:=Adu hv
 unfold Bgz
 simp only[Bk]
 refine⟨by simp only[List.length_append,Aqe];omega,(Bar (by omega)).append ((Bar (by omega)).append (Bar (by omega)))⟩
theorem Byl{m:Ff}(h:Bcl m):Sh (m,())=some ((Bgz m,()),(),()):=by
 obtain⟨hs,ht,hv⟩:=h
 rename_i s t v
 have:=@Bgl s.toNat (by omega);have:=@Bgl t.toNat (by omega);have:=Adu hv
 unfold Sh Agg
 simp only
 rw[Cx (by simp) hs.1 hs.2];simp only[Aa]
 rw[Cx (by simp[Aqe];omega) ht.1 ht.2];simp only[Aa]
 rw[B1 (by simp[Aqe];omega) hv];simp only[Aa]
 simp only[Bgz,Bk,List.nil_append,List.append_assoc]
theorem Btg{m:Ff}(h:Bcl m):Nn (m,())=some ((Ag0 m,()),(),()):=by
 obtain⟨h1,h2⟩:=Cbp h
 unfold Nn Aml
 simp only
 rw[Byl h];simp only[Aa]
 rw[Ci8 h2 (by omega)];simp only[Aa]
 rfl
def O6(l:List Ff):Prop:=∀ m∈l,Bcl m
theorem An0(l:List Ff):Te (l.map Ag0):=fun x hx=>by
 obtain⟨m,_,rfl⟩:=List.mem_map.1 hx
 exact Btf m
theorem O6.at{l:List Ff}(h:O6 l){i:Nat}(hi:i<l.length)(d:Ff):Bcl (l.getD i d):=h _ (Bt hi)
theorem Cco{n:Nat}(h:n≤1000000){α:Type}(a b:Option α):Ah (A9 n (.pair (.int .u64) (.pair (.int .u64) (.pair (.arr 4 (.int .u64)) .unit)))) a b=a:=by
 rw[Ah6,if_pos ⟨by decide,by simp only[Ty.size];omega⟩]
def Bbz(m:Ff)(i:Nat):Bool:=decide (m.1=(i:Int))&&(!decide (m.2.1=0)&&!decide (Dw m.2.2.1=0))
def okM(l:List Ff):Bool:=(List.range l.length).all fun i=>Bbz (l.getD i Bj) i
theorem Bl5{l:List Ff}:okM l=true↔∀ i,i<l.length→Bbz (l.getD i Bj) i=true:=by
 unfold okM
 simp only[List.all_eq_true,List.mem_range]
theorem Bqk{l:List Ff}(ha:O6 l)(hl:l.length≤100000){n:Nat}(hn:n≤l.length):K1 (l,(n:Int),())=some (((l.map Ag0).take n,()),(),(),()):=by
 unfold K1 Aeg
 refine Ak (I:=fun x=>∃ i:Nat,i≤n∧x=(l,(n:Int),(l.map Ag0).take i,(i:Int),())) (m:=fun x=>((n:Int)-x.2.2.2.1).toNat)
  (g:=fun _=>some (((l.map Ag0).take n,()),(),(),())) ?_ ⟨0,by omega,rfl⟩ (by rw[Av];simp only;omega)
 rintro x again ⟨i,hi,rfl⟩ hag
 simp only at hag ⊢
 unfold Akc
 simp only[Ad,Ao]
 by_cases h1:(i:Int)<(n:Int)
 ·have hil:i<l.length:=by omega
  rw[if_pos h1,if_pos (by omega),Int.toNat_natCast,Btg (ha.at hil _)]
  simp only[Aa,B8]
  rw[Bg1 (by simp;omega),Ar (by omega) (by omega)]
  have e:(l.map Ag0).take i++[Ag0 (l.getD i Bj)]=(l.map Ag0).take (i+1):=by
   rw[← List.map_take,← List.map_take,Bq1 hil]
  rw[e]
  rw[hag (l,(n:Int),(l.map Ag0).take (i+1),(i:Int)+1,()) ⟨i+1,by omega,by rw[Int.natCast_add];rfl⟩ (by simp only;omega)]
 ·have hil:i=n:=by omega
  rw[if_neg h1,hil]
theorem Cbt{l:List Ff}(ha:O6 l)(hl:l.length≤100000){n:Nat}(hn:n≤l.length):Yl (l,(n:Int),())=some ((Agv ((l.map Ag0).take n),true,()),(),(),()):=by
 unfold Yl Amn
 simp only[Ad]
 rw[if_neg (by omega),if_neg (by omega),Bqk ha hl hn]
 simp only[Aa]
 rw[Bch (by rw[List.length_take];omega) ((An0 l).take n)]
 rfl
theorem Bz6{l:List Ff}(ha:O6 l)(hl:l.length≤100000){i n:Nat}(hi:i<n)(hn:n≤l.length):Ux (l,(i:Int),(n:Int),())=some ((Wm ((l.map Ag0).take n) i,true,()),(),(),(),()):=by
 unfold Ux Aix
 simp only[Ad]
 rw[if_neg (by omega),if_neg (by omega),if_neg (by omega),Bqk ha hl hn]
 simp only[Aa]
 rw[Cgs (by rw[List.length_take];omega) (by rw[List.length_take,List.length_map];omega) ((An0 l).take n)]
 rfl
theorem Cfh{l:List Ff}(ha:O6 l)(hl:l.length≤100000):I3 (l,())=some ((okM l,()),(),()):=by
 unfold I3 Wi
 refine Ak (I:=fun x=>∃ i:Nat,i≤l.length∧x=(l,(i:Int),())∧∀ j,j<i→Bbz (l.getD j Bj) j=true) (m:=fun x=>((l.length:Int)-x.2.1).toNat)
  (g:=fun _=>some ((okM l,()),(),())) ?_ ⟨0,by omega,rfl,fun j hj=>by omega⟩ (by rw[Av];simp only;omega)
 rintro x again ⟨i,hi,rfl,hg⟩ hag
 simp only at hag ⊢
 unfold Xj
 rw[show (Go.Pon.Ty.zero ((Go.Pon.Ty.int Go.IntKind.u64).pair ((Go.Pon.Ty.int Go.IntKind.u64).pair ((Go.Pon.Ty.arr 4 (Go.Pon.Ty.int Go.IntKind.u64)).pair Go.Pon.Ty.unit))))=Bj from rfl]
 simp only[Am,Ad,Ao,Aq]
 by_cases h1:(i:Int)<(l.length:Int)
 ·have hil:i<l.length:=by omega
  have hin:(0≤(i:Int)∧(i:Int)<(l.length:Int))=True:=eq_true ⟨by omega,by omega⟩
  rw[if_pos h1]
  simp only[hin,if_true,Int.toNat_natCast]
  rw[H4 (by omega) (by omega),Ar (by omega) (by omega)]
  have hm:=ha.at hil Bj
  have hb:Bbz (l.getD i Bj) i=false→okM l=false:=fun hgi=>by
   rw[Bool.eq_false_iff]
   intro h
   rw[Bl5.1 h i hil] at hgi;cases hgi
  have hn:Bbz (l.getD i Bj) i=true→again (l,(i:Int)+1,())=some ((okM l,()),(),()):=fun hgi=>hag _ ⟨i+1,by omega,by rw[Int.natCast_add];rfl,fun j hj=>by
   by_cases e:j=i
   ·rw[e];exact hgi
   ·exact hg j (by omega)⟩ (by simp only;omega)
  clear hag hg
  generalize l.getD i Bj=m at hm hb hn ⊢
  obtain⟨hs,ht,hv⟩:=hm
  rename_i s t v
  unfold Bbz at hb hn
  simp only[Bk] at hb hn ⊢
  rw[show ([(0:Int),0,0,0]:List Int)=Aw 0 from rfl,Aim,Ad]
  by_cases g1:s=(i:Int)
  ·rw[if_pos g1]
   by_cases g2:t=0
   ·rw[if_pos g2,hb (by simp[g2])]
   ·rw[if_neg g2]
    by_cases g3:v=0
    ·rw[if_pos g3,hb (by simp[g3])]
    ·rw[if_neg g3,hn (by simp[g1,g2,g3])]
  ·rw[if_neg g1,hb (by simp[g1])]
 ·have hil:i=l.length:=by omega
  have:okM l=true:=Bl5.2 fun j hj=>hg j (by omega)
  rw[if_neg h1,this]
theorem Bul:(((0:Int),[(0:Int),0,0,0],()):Bn)=Eb:=rfl
theorem Bwk{n:Nat}(h:n≤1000000):A9 n (.pair (.int .u64) (.pair (.arr 4 (.int .u64)) .unit))=true:=by
 rw[Ad9,decide_eq_true_eq]
 exact⟨by decide,by simp only[Ty.size];omega⟩
theorem Clg{n:Nat}(h:n≤1000000):A9 n .bool=true:=by
 rw[Ad9,decide_eq_true_eq]
 exact⟨by decide,by simp only[Ty.size];omega⟩
theorem Cd5{n:Nat}(h:n≤1000000):A9 n (.arr 32 (.int .u8))=true:=by
 rw[Ad9,decide_eq_true_eq]
 exact⟨by decide,by simp only[Ty.size];omega⟩
abbrev Ccj(l:List Bn)(a:Int):Nat:=Dw (pget l a).2.1
theorem Clt{l:List Bn}{a:Int}(h:Fh l)(ha:B4 a):pget l a=(a,Aw (Ccj l a),())∧Al (Ccj l a):=by
 have hw:=Cps h ha
 have hf:=Ca5 l a
 unfold Ccj
 generalize pget l a=x at hw hf ⊢
 obtain⟨h1,h2⟩:=hw
 simp only at hf ⊢
 subst hf
 rw[Bk]
 exact⟨rfl,h2⟩
structure Cp9(r:List (List Int))(cl:List Bool)(h:Nat)(p:List Bn):Prop where
 len:cl.length=r.length
 held:Al h
 srt:Bcs p
 ne:NEP p
 all:Fh p
theorem Cie:Cp9 [] [] 0 []:=⟨rfl,by unfold Al;omega,List.Pairwise.nil,fun x h=>by simp at h,fun x h=>by simp at h⟩
abbrev Cte:=Int×(Int×Int×List Int×List (List Int)×Unit)
def Ci9(r:List (List Int))(cl:List Bool)(s z t:Int)(n:Nat)(p:List (List Int)):Int :=
 if t=0∨n=0∨64<p.length then 2 else if z<1∨(r.length:Int)<z∨z≤s then 8 else if cl.getD s.toNat false=true then 9 else
  if Bae (r.getD (z-1).toNat Z32) z s (Ag0 (s,t,Aw n,())) p=true then 0 else 16
def Bhj(r:List (List Int))(cl:List Bool)(h:Nat)(q:List Bn)(s z t:Int)(n:Nat)(p:List (List Int)):Int×(List Bool×Nat×List Bn) :=
 if Ci9 r cl s z t n p=0 then (if n≤h then (if Ccj q t+n<115792089237316195423570985008687907853269984665640564039457584007913129639936 then (0,cl.set s.toNat true,h-n,Nl q (t,Aw (Ccj q t+n),())) else (4,cl,h,q)) else (10,cl,h,q))
 else (Ci9 r cl s z t n p,cl,h,q)
abbrev Cn5:=List Int×(List (List Int)×List Int×List Bn×Unit)
abbrev ref(h:Nat)(r:List (List Int))(cs:List Int)(m:List Bn):Cn5:=(Aw h,r,cs,m,())
structure Azj(r:List (List Int))(cl:List Bool)(h:Nat)(p:List Bn)(cs:List Int)(m:List Bn):Prop where
 inv:Cp9 r cl h p
 cls:∀ s:Int,0≤s→(s∈cs↔cl.getD s.toNat false=true)
 dist:Bmn m
 all:Fh m
 ne:NEP m
 sort:Aqf m=p
theorem Bb5{l:List Bn}{i:Nat}(h:i<l.length):l.drop i=l.getD i Eb::l.drop (i+1):=by
 rw[List.drop_eq_getElem_cons h,List.getD_eq_getElem?_getD,List.getElem?_eq_getElem h]
 rfl
theorem Cck{l:List Int}{i:Nat}(h:i<l.length):l.drop i=l.getD i 0::l.drop (i+1):=by
 rw[List.drop_eq_getElem_cons h,List.getD_eq_getElem?_getD,List.getElem?_eq_getElem h]
 rfl
theorem Bjt{h:Nat}{r:List (List Int)}{cs:List Int}{m:List Bn}{s:Int}(hl:cs.length≤1000000) :
  Er (ref h r cs m,s,())=some ((decide (s∈cs),()),(),(),()):=by
 unfold Er Mw
 refine Ak (I:=fun x=>∃ i:Nat,i≤cs.length∧(s∈cs↔s∈cs.drop i)∧x=(ref h r cs m,s,(i:Int),())) (m:=fun x=>((cs.length:Int)-x.2.2.1).toNat)
  (g:=fun _=>some ((decide (s∈cs),()),(),(),())) ?_ ⟨0,by omega,by rw[List.drop_zero],rfl⟩ (by rw[Av];simp only;omega)
 rintro x again ⟨i,hi,hf,rfl⟩ hag
 simp only at hag ⊢
 unfold U4
 simp only[Am,Ad,Ao]
 by_cases h1:(i:Int)<(cs.length:Int)
 ·have hil:i<cs.length:=by omega
  rw[if_pos h1,if_pos (by omega),Int.toNat_natCast]
  rw[Cck hil,List.mem_cons] at hf
  by_cases he:cs.getD i 0=s
  ·rw[if_pos he,decide_eq_true (hf.2 (.inl he.symm))]
  ·rw[if_neg he,Ar (by omega) (by omega)]
   exact hag _ ⟨i+1,by omega,⟨fun h=>(hf.1 h).resolve_left fun h=>he h.symm,fun h=>hf.2 (.inr h)⟩,by rw[Int.natCast_add];rfl⟩ (by simp only;omega)
 ·rw[if_neg h1]
  rw[List.drop_of_length_le (by omega)] at hf
  rw[decide_eq_false fun h=>by have:=hf.1 h;simp at this]
theorem Cga{m:List Bn}{a:Int}{i:Nat}(h:i<m.length):pget (m.drop i) a=if (m.getD i Eb).1=a then m.getD i Eb else pget (m.drop (i+1)) a:=by
 rw[Bb5 h];rfl
theorem Cgg{h:Nat}{r:List (List Int)}{cs:List Int}{m:List Bn}{a:Int}(hl:m.length≤1000000) :
  Gv (ref h r cs m,a,())=some (((pget m a).2.1,()),ref h r cs m,(),()):=by
 unfold Gv K8
 refine Ak (I:=fun x=>∃ i:Nat,i≤m.length∧pget m a=pget (m.drop i) a∧x=(ref h r cs m,a,[(0:Int),0,0,0],(i:Int),())) (m:=fun x=>((m.length:Int)-x.2.2.2.1).toNat)
  (g:=fun _=>some (((pget m a).2.1,()),ref h r cs m,(),())) ?_ ⟨0,by omega,by rw[List.drop_zero],rfl⟩ (by rw[Av];simp only;omega)
 rintro x again ⟨i,hi,hf,rfl⟩ hag
 simp only at hag ⊢
 unfold Sm
 rw[Bul]
 simp only[Am,Ad,Ao]
 by_cases h1:(i:Int)<(m.length:Int)
 ·have hil:i<m.length:=by omega
  rw[if_pos h1,if_pos (by omega),Int.toNat_natCast]
  rw[Cga hil] at hf
  by_cases he:(m.getD i Eb).1=a
  ·rw[if_pos he] at hf ⊢
   rw[if_pos (by omega),hf]
  ·rw[if_neg he] at hf ⊢
   rw[Ar (by omega) (by omega)]
   exact hag _ ⟨i+1,by omega,hf,by rw[Int.natCast_add];rfl⟩ (by simp only;omega)
 ·rw[if_neg h1]
  rw[List.drop_of_length_le (by omega)] at hf
  rw[hf]
  rfl
theorem Byf{l:List Bn}{y:Bn}(h:∀ x∈l,x.1≠y.1):Nl l y=if Ala y then l else l.take (Adp l y.1)++(y::l.drop (Adp l y.1)):=by
 rw[Cat,if_neg]
 rintro⟨h1,h2⟩
 exact h _ (Bt h1) h2
theorem Chl{m o:List Bn}{h:Nat}{r:List (List Int)}{cs:List Int}{i:Nat}{again0:(Cn5×List Bn×Int×Unit)→Option ((List Bn×Unit)×Unit×Unit)}
  (ho:Bcs o) (hl:o.length≤100000) (hi:i<m.length) (hml:m.length≤100000) (hy:¬ Ala (m.getD i Eb)) (ha:∀ x∈o,x.1≠(m.getD i Eb).1) :
  Ac _ _ (fun again x=>J3 again0 again x.1 x.2.1 x.2.2.1 x.2.2.2.1) (ref h r cs m,o,(i:Int),((o.length:Nat):Int),()) =
   again0 (ref h r cs m,Nl o (m.getD i Eb),((i+1:Nat):Int),()):=by
 have hc:=Cef (m.getD i Eb).1 o
 refine Ak (I:=fun x=>∃ k:Nat,Adp o (m.getD i Eb).1≤k∧k≤o.length∧x=(ref h r cs m,o,(i:Int),(k:Int),())) (m:=fun x=>x.2.2.2.1.toNat)
  (g:=fun _=>again0 (ref h r cs m,Nl o (m.getD i Eb),((i+1:Nat):Int),())) ?_ ⟨o.length,hc,by omega,rfl⟩ (by rw[Av];simp only;omega)
 rintro x again ⟨k,h1,h2,rfl⟩ hag
 simp only at hag ⊢
 unfold J3
 rw[Bul]
 simp only[Am,Ad,Ao,Aga]
 have im:(0:Int)≤(i:Int)∧(i:Int)<(m.length:Int):=by omega
 simp only[if_pos im,Int.toNat_natCast]
 generalize m.getD i Eb=y at *
 have fin:k=Adp o y.1→(if True then (if (0:Int)≤(k:Int) then (if (k:Int)≤((o.length:Nat):Int) then (if (0:Int)≤(k:Int) then (if (k:Int)≤((o.length:Nat):Int) then
   (Ah (A9 (1+(List.take (o.length-k) (List.drop k o)).length) (.pair (.int .u64) (.pair (.arr 4 (.int .u64)) .unit)))
    (if 0<(List.append [y] (List.take (o.length-k) (List.drop k o))).length then
     (Ah (A9 ((List.take (k-0) (List.drop 0 o)).length+(List.append [y] (List.take (o.length-k) (List.drop k o))).length) (.pair (.int .u64) (.pair (.arr 4 (.int .u64)) .unit)))
      (again0 (ref h r cs m,List.append (List.take (k-0) (List.drop 0 o)) (List.append [y] (List.take (o.length-k) (List.drop k o))),IntKind.wrap .i64 ((i:Int)+1),()))
      none) else none) none) else none) else none) else none) else none) else none)=again0 (ref h r cs m,Nl o y,((i+1:Nat):Int),()):=fun hk=>by
  have e1:List.take (o.length-k) (List.drop k o)=List.drop k o:=List.take_of_length_le (by rw[List.length_drop];omega)
  have hlen:(List.take k o).length+(List.append [y] (List.drop k o)).length≤1000000:=by
   rw[B8]
   simp only[List.length_take,List.length_append,List.length_drop,List.length_singleton]
   omega
  rw[if_pos trivial,if_pos (by omega),if_pos (by omega),if_pos (by omega),if_pos (by omega),e1,Bwk (by rw[List.length_drop];omega),Au,if_pos (by simp[B8]),Nat.sub_zero,List.drop_zero,Bwk hlen,Au,Ar (by omega) (by omega)]
  rw[Byf ha,if_neg hy,← hk]
  rfl
 by_cases h:(k:Int)>0
 ·have hw:IntKind.wrap .i64 ((k:Int)-1)=((k-1:Nat):Int):=by rw[Ar (by omega) (by omega)];omega
  rw[if_pos h,hw,Int.toNat_natCast,if_pos (by omega)]
  by_cases c:(o.getD (k-1) Eb).1>y.1
  ·rw[if_pos c]
   have:Adp o y.1≤k-1:=by
    rcases Nat.lt_or_ge (k-1) (Adp o y.1) with h|h
    ·have:=Cdt h;omega
    ·exact h
   exact hag _ ⟨k-1,this,by omega,rfl⟩ (by simp only;omega)
  ·rw[if_neg c]
   refine fin ?_
   rcases Nat.lt_or_ge (Adp o y.1) k with h3|h3
   ·have h4:=Cls ho (a:=y.1) (i:=k-1) (by omega) (by omega)
    exact absurd (show (o.getD (k-1) Eb).1=y.1 by omega) (ha _ (Bt (by omega)))
   ·omega
 ·rw[if_neg h]
  exact fin (by omega)
theorem Ccz{h:Nat}{r:List (List Int)}{cs:List Int}{m:List Bn}(hd:Bmn m)(hn:NEP m)(hl:m.length≤90000) :
  Gh (ref h r cs m,())=some ((Aqf m,()),(),()):=by
 unfold Gh J6
 refine Ak (I:=fun x=>∃ i:Nat,i≤m.length∧x=(ref h r cs m,(m.take i).foldl Nl [],(i:Int),())) (m:=fun x=>((m.length:Int)-x.2.2.1).toNat)
  (g:=fun _=>some ((Aqf m,()),(),())) ?_ ⟨0,by omega,rfl⟩ (by rw[Av];simp only;omega)
 rintro x again ⟨i,hi,rfl⟩ hag
 simp only at hag ⊢
 unfold Ra
 simp only[Am,Ad,Ao]
 by_cases h:(i:Int)<(m.length:Int)
 ·have hil:i<m.length:=by omega
  rw[if_pos h]
  have ht:(m.take (i+1)).foldl Nl []=Nl ((m.take i).foldl Nl []) (m.getD i Eb):=by
   rw[Ok (d:=Eb) hil,List.foldl_append];rfl
  have hd':∀ x∈(m.take i).foldl Nl [],x.1≠(m.getD i Eb).1:=fun x hx=>by
   have hx':=Cfs hx
   have hd:=hd
   rw[← List.take_append_drop i m,Bb5 hil] at hd
   exact (List.pairwise_append.1 hd).2.2 x hx' _ (by simp)
  have hs:=Bab (m.take i)
  have hln:((m.take i).foldl Nl []).length≤100000:=by
   have:=Bsi (m.take i) []
   rw[List.length_take] at this
   simp only[List.length_nil] at this
   omega
  have hgo:=hag (ref _ r cs m,(m.take (i+1)).foldl Nl [],((i+1:Nat):Int),()) ⟨i+1,by omega,rfl⟩ (by simp only;omega)
  rw[ht] at hgo
  unfold Aqf at hs
  rw[Chl hs hln hil (by omega) (hn _ (Bt hil)) hd']
  exact hgo
 ·rw[if_neg h,List.take_of_length_le (by omega)]
  rfl
theorem Byp{r:List (List Int)}{cs:List Int}{h:Nat}{m:List Bn}{n:Nat}(hh:Al h)(hn:Al n) :
  Ic (ref h r cs m,Aw n,())=some (((if n=0 then (2:Int) else if h+n<115792089237316195423570985008687907853269984665640564039457584007913129639936 then 0 else 4),()),
   (ref (if n=0 then h else if h+n<115792089237316195423570985008687907853269984665640564039457584007913129639936 then h+n else h) r cs m,(),())):=by
 unfold Ic Mu
 simp only
 rw[Nh,Aa]
 dsimp only
 rw[Ad]
 by_cases c:n=0
 ·simp only[if_pos c]
 simp only[if_neg c]
 rw[Az7 hh hn,Aa]
 dsimp only
 rw[Aq,Ad]
 by_cases c2:h+n<115792089237316195423570985008687907853269984665640564039457584007913129639936
 ·simp only[if_pos c2,if_true]
 ·simp only[if_neg c2]
  rw[if_neg (by decide)]
theorem Cbr{m:List Bn}{h:Nat}{r:List (List Int)}{cs:List Int}{c:Cte}{x:List Int}(hl:m.length≤100000) :
  Ac _ _ (fun again y=>Nq again y.1 y.2.1 y.2.2.1 y.2.2.2.1) (ref h r cs m,c,x,(0:Int),())=some (((0:Int),()),ref h r cs (Ajs m (c.2.2.1,x,())),(),()):=by
 refine Ak (I:=fun y=>∃ i:Nat,i≤m.length∧Ajs m (c.2.2.1,x,())=m.take i++Ajs (m.drop i) (c.2.2.1,x,())∧y=(ref h r cs m,c,x,(i:Int),())) (m:=fun y=>((m.length:Int)-y.2.2.2.1).toNat)
  (g:=fun _=>some (((0:Int),()),ref h r cs (Ajs m (c.2.2.1,x,())),(),())) ?_ ⟨0,by omega,by rw[List.take_zero,List.drop_zero,List.nil_append],rfl⟩ (by rw[Av];simp only;omega)
 rintro y again ⟨i,hi,hf,rfl⟩ hag
 simp only at hag ⊢
 unfold Nq
 rw[Bul]
 simp only[Am,Ad,Ao]
 by_cases h1:(i:Int)<(m.length:Int)
 ·have hil:i<m.length:=by omega
  rw[if_pos h1,if_pos (by omega),Int.toNat_natCast]
  rw[Bb5 hil] at hf
  unfold Ajs at hf
  by_cases he:(m.getD i Eb).1=c.2.2.1
  ·rw[if_pos he,if_pos (by omega)]
   have hq:Ajs m (c.2.2.1,x,())=m.set i ((m.getD i Eb).1,x,(m.getD i Eb).2.2):=by
    have h2:Ajs m (c.2.2.1,x,())=m.take i++((c.2.2.1,x,())::m.drop (i+1)):=by
     rw[show (if (m.getD i Eb).1=((c.2.2.1,x,()):Bn).1 then ((c.2.2.1,x,()):Bn)::m.drop (i+1) else m.getD i Eb::Ajs (m.drop (i+1)) (c.2.2.1,x,()))=(c.2.2.1,x,())::m.drop (i+1) from if_pos he] at hf
     cases m<;>exact hf
    rw[h2,he,List.set_eq_take_append_cons_drop,if_pos hil]
   rw[hq]
  ·rw[if_neg he,Ar (by omega) (by omega)]
   refine hag _ ⟨i+1,by omega,?_,by rw[Int.natCast_add];rfl⟩ (by simp only;omega)
   rw[show (if (m.getD i Eb).1=((c.2.2.1,x,()):Bn).1 then ((c.2.2.1,x,()):Bn)::m.drop (i+1) else m.getD i Eb::Ajs (m.drop (i+1)) (c.2.2.1,x,()))=m.getD i Eb::Ajs (m.drop (i+1)) (c.2.2.1,x,()) from if_neg he] at hf
   rw[Ok (d:=Eb) hil,List.append_assoc]
   cases m<;>exact hf
 ·rw[if_neg h1,Bwk (by omega),Au,B8]
  rw[List.drop_of_length_le (by omega),List.take_of_length_le (by omega)] at hf
  have:Ajs m (c.2.2.1,x,())=m++[(c.2.2.1,x,())]:=hf
  rw[this]
theorem Azj.pget{r:List (List Int)}{cl:List Bool}{h:Nat}{p:List Bn}{cs:List Int}{m:List Bn}(e:Azj r cl h p cs m)(a:Int):Go.Pon.pget m a=Go.Pon.pget p a:=by
 rw[← e.sort,Bb8 e.dist]
theorem Azj.mem{r:List (List Int)}{cl:List Bool}{h:Nat}{p:List Bn}{cs:List Int}{m:List Bn}(e:Azj r cl h p cs m){s:Int}(hs:0≤s):decide (s∈cs)=cl.getD s.toNat false:=by
 have:=e.cls s hs
 cases hb:cl.getD s.toNat false with
 | true=>exact decide_eq_true (this.2 hb)
 | false=>exact decide_eq_false fun h=>by rw[this.1 h] at hb;cases hb
theorem Br4{cl:List Bool}{i j:Nat}(hi:i<cl.length):(cl.set i true).getD j false=if j=i then true else cl.getD j false:=by
 rw[List.getD_eq_getElem?_getD,List.getElem?_set,List.getD_eq_getElem?_getD]
 by_cases h:i=j
 ·subst h;rw[if_pos rfl,if_pos hi,if_pos rfl];rfl
 ·rw[if_neg h,if_neg fun e=>h e.symm]
theorem Cln{r:List (List Int)}{cl:List Bool}{h:Nat}{q:List Bn}{cs:List Int}{m:List Bn}{s z t:Int}{n:Nat}{p:List (List Int)}(e:Azj r cl h q cs m)(hr:r.length≤1000000)(hm:m.length≤90000)(hcs:cs.length≤900000)
  (hs:B4 s) (hz:B4 z) (ht:B4 t) (hn:Al n) (hp:Te p) :
  ∃ cs' m',Jv (ref h r cs m,(s,z,t,Aw n,p,()),())=some (((Bhj r cl h q s z t n p).1,()),ref (Bhj r cl h q s z t n p).2.2.1 r cs' m',(),()) ∧
   Azj r (Bhj r cl h q s z t n p).2.1 (Bhj r cl h q s z t n p).2.2.1 (Bhj r cl h q s z t n p).2.2.2 cs' m'∧m'.length≤m.length+1∧cs'.length≤cs.length+1:=by
 have hc:=e.inv.len
 have keep:∀ c:Int,c≠0→Ci9 r cl s z t n p=c→∃ cs' m',some ((c,()),ref h r cs m,(),())=some (((Bhj r cl h q s z t n p).1,()),ref (Bhj r cl h q s z t n p).2.2.1 r cs' m',(),()) ∧
   Azj r (Bhj r cl h q s z t n p).2.1 (Bhj r cl h q s z t n p).2.2.1 (Bhj r cl h q s z t n p).2.2.2 cs' m'∧m'.length≤m.length+1∧cs'.length≤cs.length+1:=fun c hc0 hck=>by
  have:Bhj r cl h q s z t n p=(c,cl,h,q):=by unfold Bhj;rw[if_neg (by omega),hck]
  rw[this]
  exact⟨cs,m,rfl,e,by omega,by omega⟩
 unfold B4 at hs hz ht
 have hmem:=e.mem hs.1
 unfold Jv Qp
 simp only[Am]
 rw[Ad]
 by_cases c1:t=0
 ·rw[if_pos c1];exact keep 2 (by decide) (if_pos (.inl c1))
 rw[if_neg c1,Nh,Aa]
 dsimp only
 rw[Ad]
 by_cases c2:n=0
 ·rw[if_pos c2];exact keep 2 (by decide) (if_pos (.inr (.inl c2)))
 rw[if_neg c2,Ad]
 by_cases c3:(p.length:Int)>64
 ·rw[if_pos c3];exact keep 2 (by decide) (if_pos (.inr (.inr (by omega))))
 rw[if_neg c3,Ad]
 have k1:¬ (t=0∨n=0∨64<p.length):=by omega
 by_cases c4:z<1
 ·rw[if_pos c4];exact keep 8 (by decide) ((if_neg k1).trans (if_pos (.inl c4)))
 rw[if_neg c4,Ad,H4 (n:=(r.length:Int)) (by omega) (by omega)]
 by_cases c5:z>(r.length:Int)
 ·rw[if_pos c5];exact keep 8 (by decide) ((if_neg k1).trans (if_pos (.inr (.inl c5))))
 rw[if_neg c5,Ad]
 by_cases c6:s≥z
 ·rw[if_pos c6];exact keep 8 (by decide) ((if_neg k1).trans (if_pos (.inr (.inr c6))))
 rw[if_neg c6,Bjt (by omega),Aa,hmem]
 have k2:¬ (z<1∨(r.length:Int)<z∨z≤s):=by omega
 dsimp only
 rw[Bxa]
 by_cases c7:cl.getD s.toNat false=true
 ·rw[if_pos c7];exact keep 9 (by decide) ((if_neg k1).trans ((if_neg k2).trans (if_pos c7)))
 rw[if_neg c7,Ao,H4 (n:=z-1) (by omega) (by omega),if_pos (by omega),Btg (Bcl.mk hs ht hn),Aa,Ar (n:=z) (by omega) (by omega),Ar (n:=s) (by omega) (by omega),Bpg (by omega) (by omega) (Btf _) hp,Aa]
 dsimp only
 rw[Aq,Bxa]
 by_cases c8:Bae (r.getD (z-1).toNat Z32) z s (Ag0 (s,t,Aw n,())) p=true
 case neg=>rw[if_neg c8];exact keep 16 (by decide) ((if_neg k1).trans ((if_neg k2).trans ((if_neg c7).trans (if_neg c8))))
 have hck:Ci9 r cl s z t n p=0:=by
  unfold Ci9
  rw[if_neg (by omega),if_neg (by omega),if_neg c7,if_pos c8]
 rw[if_pos c8]
 clear keep
 unfold Bhj
 simp only[if_pos hck]
 have hh:=e.inv.held
 unfold Al at hh hn
 rw[Ad8 hh hn,Aa]
 dsimp only
 rw[Aq,Ad]
 by_cases d1:n≤h
 case neg =>
  simp only[if_neg d1]
  rw[if_neg (by decide)]
  exact⟨cs,m,rfl,e,by omega,by omega⟩
 simp only[if_pos d1,if_true]
 rw[Cgg (by omega),Aa,e.pget]
 have hpg:=Clt e.inv.all (a:=t) (by unfold B4;omega)
 have hb:=hpg.2
 have e1:(Go.Pon.pget q t).2.1=Aw (Ccj q t):=by rw[hpg.1]
 dsimp only
 rw[e1]
 generalize Ccj q t=k at *
 unfold Al at hb
 rw[Az7 hb hn,Aa]
 dsimp only
 rw[Aq,Ad]
 by_cases d2:k+n<115792089237316195423570985008687907853269984665640564039457584007913129639936
 case neg =>
  simp only[if_neg d2]
  rw[if_neg (by decide)]
  exact⟨cs,m,rfl,e,by omega,by omega⟩
 simp only[if_pos d2,if_true]
 have hroom:A9 (cs.length+1) (.int .u64)=true:=by
  rw[Ad9,decide_eq_true_eq]
  exact⟨by decide,by simp only[Ty.size];omega⟩
 rw[hroom,Au,B8]
 have hnew:Akj (t,Aw (k+n),()):=Akj.mk (by unfold B4;omega) (by unfold Al;omega)
 have hne:¬ Ala (t,Aw (k+n),()):=by
  unfold Ala
  simp only[Prod.mk.injEq,true_and,and_true]
  rw[← Brl,Bfa]
  omega
 refine⟨cs++[s],Ajs m (t,Aw (k+n),()),Cbr (c:=(s,z,t,Aw n,p,())) (by omega),⟨⟨by rw[List.length_set];exact hc,by unfold Al;omega,Axy e.inv.srt,Bua e.inv.ne,Bz8 e.inv.all hnew⟩,fun x hx=>?_,Big e.dist,Ci6 e.all hnew,fun x hx=>?_,?_⟩,Bz4 _ _,by simp⟩
 ·rw[List.mem_append,List.mem_singleton,Br4 (by omega)]
  by_cases hxs:x=s
  ·rw[hxs,if_pos rfl];simp
  ·rw[if_neg (by omega),← e.cls x hx]
   simp[hxs]
 ·rcases Bf6 hx with hx|rfl
  ·exact e.ne x hx
  ·exact hne
 ·rw[Ccw e.dist,e.sort]
theorem B7{x:Int}(h0:0≤x)(h1:x≤18446744073709551615):A1 (x,())=some ((dg x.toNat,()),(),()):=by
 unfold A1 Xn
 dsimp only
 rw[Aad h0 h1,Bz (by omega),Aa]
theorem Bht{a b:Nat}(ha:(dg a).length≤1000)(hb:(dg b).length≤1000):G8 (dg a,dg b,())=some ((dg (min a b),()),(),(),()):=by
 unfold G8 Aus
 dsimp only
 rw[Ak0 ha hb,Aa]
 dsimp only
 unfold Abs
 rw[Ad]
 by_cases h1:a<b
 ·rw[if_pos h1,if_neg (by omega),Nat.min_eq_left (by omega)]
 ·rw[if_neg h1]
  by_cases h2:a>b
  ·rw[if_pos h2,if_pos (by omega),Nat.min_eq_right (by omega)]
  ·rw[if_neg h2,if_neg (by omega),Nat.min_eq_left (by omega)]
theorem Chf{M a b:Nat}(hb:0<b)(ha:a<65536):(65536*M+a) / b % 65536=(65536*(M % b)+a) / b∧(65536*M+a) % b=(65536*(M % b)+a) % b∧(65536*(M % b)+a) / b<65536:=by
 have hM:M=b*(M / b)+M % b:=(Nat.div_add_mod M b).symm
 have hlt:M % b<b:=Nat.mod_lt _ hb
 have hx:(65536*(M % b)+a) / b<65536:=by
  rw[Nat.div_lt_iff_lt_mul hb]
  have:65536*(M % b)≤65536*(b-1):=Nat.mul_le_mul_left _ (by omega)
  omega
 have e:65536*M+a=(65536*(M % b)+a)+b*(65536*(M / b)):=by
  have h2:65536*M=65536*(b*(M / b)+M % b):=by rw[← hM]
  have h3:b*(65536*(M / b))=65536*(b*(M / b)):=by rw[Nat.mul_left_comm]
  rw[h2,h3,Nat.mul_add]
  omega
 refine⟨?_,?_,hx⟩
 ·rw[e,Nat.add_mul_div_left _ _ hb,Nat.add_mul_mod_self_left,Nat.mod_eq_of_lt hx]
 ·rw[e,Nat.add_mul_mod_self_left]
def hiD(n j A:Nat):List Int:=(List.range n).map fun k=>if j≤k then ((A / 65536 ^ k % 65536:Nat):Int) else 0
theorem Cdv(n j A:Nat):(hiD n j A).length=n:=by simp[hiD]
theorem By2(n A:Nat):hiD n 0 A=lo n A:=by simp[hiD,lo]
theorem Cdd(n A:Nat):hiD n n A=List.replicate n 0:=by
 unfold hiD
 refine List.eq_replicate_iff.2 ⟨by simp,fun b hb=>?_⟩
 obtain⟨k,hk,rfl⟩:=List.mem_map.1 hb
 rw[if_neg (by have:=List.mem_range.1 hk;omega)]
theorem Cem{n i A:Nat}(h:i<n):(hiD n (i+1) A).set i ((A / 65536 ^ i % 65536:Nat):Int)=hiD n i A:=by
 refine List.ext_getElem (by simp[hiD]) fun k h1 h2=>?_
 rw[List.getElem_set]
 simp only[hiD,List.getElem_map,List.getElem_range]
 by_cases hk:i=k
 ·subst hk;rw[if_pos rfl,if_pos (Nat.le_refl _)]
 ·rw[if_neg hk]
  by_cases h3:i+1≤k
  ·rw[if_pos h3,if_pos (by omega)]
  ·rw[if_neg h3,if_neg (by omega)]
theorem Cij{A b:Nat}(hA:(dg A).length≤1000)(hb:0<b)(hb2:b<65536):Yk (dg A,(b:Int),())=some ((dg (A / b),dg (A % b),()),(),(),()):=by
 have hlen:A / 65536 ^ (dg A).length=0:=D0.1 (Nat.le_refl _)
 unfold Yk Amd
 dsimp only
 generalize hn:(dg A).length=n at *
 rw[decide_eq_true (show (0:Int)≤(n:Int) by omega),decide_eq_true (Int.le_refl _),Int.toNat_natCast,Bool.and_true,Bool.and_true,Bool.true_and,Am9 (by omega)]
 have hw0:IntKind.wrap .i64 ((n:Int)-1)=(n:Int)-1:=Ar (by omega) (by omega)
 rw[hw0]
 refine Ak (I:=fun x=>∃ j:Nat,j≤n∧x=(dg A,(b:Int),hiD n j (A / b),(((A / 65536 ^ j) % b:Nat):Int),(j:Int)-1,())) (m:=fun x=>(x.2.2.2.2.1+1).toNat)
  (g:=fun _=>some ((dg (A / b),dg (A % b),()),(),(),())) ?_ ⟨n,Nat.le_refl _,by rw[Cdd,hlen,Nat.zero_mod];rfl⟩ (by rw[Av];simp only;omega)
 rintro x again ⟨j,hj,rfl⟩ hag
 simp only at hag ⊢
 unfold Aoy
 simp only[Am]
 rw[Ad]
 cases j with
 | zero =>
  rw[if_neg (by omega),By2,Nat.pow_zero,Nat.div_one]
  have hq:A / b / 65536 ^ n=0:=by
   rw[Nat.div_div_eq_div_mul,Nat.mul_comm,← Nat.div_div_eq_div_mul,hlen,Nat.zero_div]
  have hl:A % b<b:=Nat.mod_lt _ hb
  rw[Aqg (by omega) hq,Aa]
  dsimp only
  have h1:[((A % b:Nat):Int)]=lo 1 (A % b):=by
   have:lo 1 (A % b)=[((A % b / 65536 ^ 0 % 65536:Nat):Int)]:=by simp[lo]
   rw[this,Nat.pow_zero,Nat.div_one,Nat.mod_eq_of_lt (show A % b<65536 by omega)]
  rw[h1,Aqg (by omega) (by rw[Nat.pow_one];exact Nat.div_eq_of_lt (by omega)),Aa]
  dsimp only
  rw[Amw hq,Amw (by rw[Nat.pow_one];exact Nat.div_eq_of_lt (by omega))]
 | succ i =>
  have hi:(((i+1:Nat):Int)-1)=(i:Int):=by omega
  rw[hi,if_pos (by omega),Ao,if_pos (by rw[hn];omega),Int.toNat_natCast,Aar]
  have hd:A / 65536 ^ i=65536*(A / 65536 ^ (i+1))+A / 65536 ^ i % 65536:=by
   rw[H2 A i];omega
  have hq:A / b / 65536 ^ i=A / 65536 ^ i / b:=by rw[Nat.div_div_eq_div_mul,Nat.mul_comm,← Nat.div_div_eq_div_mul]
  obtain⟨s1,s2,s3⟩:=Chf (M:=A / 65536 ^ (i+1)) (a:=A / 65536 ^ i % 65536) hb (Nat.mod_lt _ (by omega))
  rw[← hd] at s1 s2
  have hset:=Cem (n:=n) (i:=i) (A:=A / b) (by omega)
  rw[hq,s1] at hset
  have hm:A / 65536 ^ (i+1) % b<b:=Nat.mod_lt _ hb
  have ha:A / 65536 ^ i % 65536<65536:=Nat.mod_lt _ (by omega)
  have hgo:=hag _ ⟨i,by omega,rfl⟩ (by simp only;omega)
  rw[s2,← hset] at hgo
  clear hag s1 s2 hd hq hset
  rw[Cdv]
  generalize A / 65536 ^ (i+1) % b=l at *
  generalize A / 65536 ^ i % 65536=a at *
  have w1:IntKind.wrap .i64 ((65536:Int)*(l:Int))=((65536*l:Nat):Int):=by rw[Ar (by omega) (by omega)];omega
  have w2:IntKind.wrap .i64 (((65536*l:Nat):Int)+(a:Int))=((65536*l+a:Nat):Int):=by rw[Ar (by omega) (by omega)];omega
  have w3:Int.tdiv ((65536*l+a:Nat):Int) (b:Int)=(((65536*l+a) / b:Nat):Int):=by rw[Int.tdiv_eq_ediv_of_nonneg (by omega)];rfl
  have w4:Int.tmod ((65536*l+a:Nat):Int) (b:Int)=(((65536*l+a) % b:Nat):Int):=by rw[Jg (by omega)];rfl
  have w5:IntKind.wrap .i64 ((i:Int)-1)=(i:Int)-1:=Ar (by omega) (by omega)
  have w6:∀ z:Nat,z<65536→IntKind.wrap .i64 ((z:Nat):Int)=((z:Nat):Int):=fun z hz=>Ar (by omega) (by omega)
  have hb1:(b:Int)≠0:=by omega
  have hi1:(0:Int)≤(i:Int)∧(i:Int)<(n:Int):=by omega
  rw[w1,w2,w3,w4,w5,w6 _ s3,Ad,if_pos hb1,Ad,if_pos hb1,Ao,if_pos hi1]
  exact hgo
abbrev dgt(X j:Nat):Nat:=X / 65536 ^ j % 65536
def mix(n p X Y:Nat):List Int:=(List.range n).map fun j=>if j<p then ((dgt X j:Nat):Int) else ((dgt Y j:Nat):Int)
theorem Bfx(n p X Y:Nat):(mix n p X Y).length=n:=by simp[mix]
theorem Cdo{n p X Y j:Nat}(h:j<n):(mix n p X Y).getD j 0=if j<p then ((dgt X j:Nat):Int) else ((dgt Y j:Nat):Int):=by
 simp[mix,List.getD_eq_getElem?_getD,h]
theorem Cky{X Y W p j:Nat}(hW:W=65536 ^ p)(h:X % W=Y % W)(hj:j<p):dgt X j=dgt Y j:=by
 unfold dgt
 have hp:p=j+1+(p-j-1):=by omega
 have key:∀ Z:Nat,Z / 65536 ^ j % 65536=Z % W / 65536 ^ j % 65536:=fun Z=>by
  have e:W=65536 ^ j*(65536*65536 ^ (p-j-1)):=by
   rw[hW]
   conv=>lhs;rw[hp]
   rw[Nat.pow_add,Nat.pow_succ,Nat.mul_assoc]
  rw[e,Nat.mod_mul_right_div_self,Nat.mod_mul_right_mod]
 rw[key X,key Y,h]
theorem Blw{n p X X' Y v:Nat}(hp:p<n)(h:∀ j,j<p→dgt X j=dgt X' j)(hv:v=dgt X' p):(mix n p X Y).set p (v:Int)=mix n (p+1) X' Y:=by
 refine List.ext_getElem (by simp[mix]) fun k h1 h2=>?_
 rw[List.getElem_set]
 simp only[mix,List.getElem_map,List.getElem_range]
 by_cases hk:p=k
 ·subst hk;rw[if_pos rfl,if_pos (by omega),hv]
 ·rw[if_neg hk]
  by_cases h3:k<p
  ·rw[if_pos h3,if_pos (by omega),h k h3]
  ·rw[if_neg h3,if_neg (by omega)]
theorem Bux{n p X Y:Nat}(h:∀ j,p≤j→j<n→dgt X j=dgt Y j):mix n p X Y=lo n X:=by
 refine List.ext_getElem (by simp[mix,lo]) fun k h1 h2=>?_
 simp only[mix,lo,List.getElem_map,List.getElem_range]
 by_cases h3:k<p
 ·rw[if_pos h3]
 ·rw[if_neg h3,← h k (by omega) (by simpa [mix] using h1)]
theorem Ch9(n X Y:Nat):lo n Y=mix n 0 X Y:=by simp[mix,lo]
theorem Ci5{P V W over d t:Nat}(hW:0<W)(h1:P / W=V / W+over)(hd:d=V / W % 65536):(P+t*W) / W % 65536=(over+d+t) % 65536∧(P+t*W) / (W*65536)=V / (W*65536)+(over+d+t) / 65536∧(P+t*W) % W=P % W:=by
 have e1:(P+t*W) / W=P / W+t:=Nat.add_mul_div_right _ _ hW
 rw[← Nat.div_div_eq_div_mul,← Nat.div_div_eq_div_mul,e1,h1,Nat.add_mul_mod_self_right]
 generalize V / W=q at *
 omega
theorem Cg0{x y:Nat}(hx:x≤65535)(hy:y≤65535):x*y≤4294836225:=Nat.mul_le_mul hx hy
theorem Clh{a b out:List Int}{again1:(List Int×List Int×List Int×Int×Unit)→Option ((List Int×Unit)×Unit×Unit×Unit)}{A B n i:Nat}(ha:a=dg A)(hb:b=dg B)(hn:n=a.length+b.length)(hl:a.length≤1000)(hl2:b.length≤1000)(hi:i<a.length)(hout:out=lo n (A % 65536 ^ i*B)) :
  Ac _ _ (fun again x=>Aie again1 again x.1 x.2.1 x.2.2.1 x.2.2.2.1 x.2.2.2.2.1 x.2.2.2.2.2.1) (a,b,out,(i:Int),(0:Int),(0:Int),()) =
   again1 (a,b,lo n (A % 65536 ^ (i+1)*B),((i+1:Nat):Int),()):=by
 have hB:B / 65536 ^ b.length=0:=by rw[hb];exact D0.1 (Nat.le_refl _)
 have hV1:A % 65536 ^ (i+1)*B=A % 65536 ^ i*B+(dgt A i*B)*65536 ^ i:=by
  have:A % 65536 ^ (i+1)=A % 65536 ^ i+dgt A i*65536 ^ i:=by
   rw[Nat.pow_succ,Nat.mod_mul,Nat.mul_comm (65536 ^ i)]
  rw[this,Nat.add_mul,Nat.mul_right_comm]
 have hVlt:A % 65536 ^ i*B<65536 ^ (i+b.length):=by
  have h1:A % 65536 ^ i<65536 ^ i:=Nat.mod_lt _ (Nat.pow_pos (by omega))
  have h2:B<65536 ^ b.length:=(Nat.div_eq_zero_iff_lt (Nat.pow_pos (by omega))).1 hB
  rw[Nat.pow_add]
  exact Nat.mul_lt_mul'' h1 h2
 have hV1lt:A % 65536 ^ (i+1)*B<65536 ^ (i+1+b.length):=by
  have h1:A % 65536 ^ (i+1)<65536 ^ (i+1):=Nat.mod_lt _ (Nat.pow_pos (by omega))
  have h2:B<65536 ^ b.length:=(Nat.div_eq_zero_iff_lt (Nat.pow_pos (by omega))).1 hB
  rw[Nat.pow_add 65536 (i+1) b.length]
  exact Nat.mul_lt_mul'' h1 h2
 have hai:a.getD i 0=((dgt A i:Nat):Int):=by rw[ha,Aar]
 have hbk:∀ k,b.getD k 0=((dgt B k:Nat):Int):=fun k=>by rw[hb,Aar]
 have hdA:dgt A i≤65535:=by unfold dgt;omega
 generalize hx:dgt A i=x at *
 generalize hV:A % 65536 ^ i*B=V at *
 refine Ak (I:=fun y=>∃ k over:Nat,k≤b.length∧over≤65535∧(V+(x*(B % 65536 ^ k))*65536 ^ i) / 65536 ^ (i+k)=V / 65536 ^ (i+k)+over ∧
   y=(a,b,mix n (i+k) (V+(x*(B % 65536 ^ k))*65536 ^ i) V,(i:Int),(over:Int),((k:Nat):Int),()))
  (m:=fun y=>((b.length:Int)-y.2.2.2.2.2.1).toNat) (g:=fun _=>again1 (a,b,lo n (A % 65536 ^ (i+1)*B),((i+1:Nat):Int),())) ?_ ⟨0,0,by omega,by omega,by rw[Nat.pow_zero,Nat.mod_one,Nat.mul_zero,Nat.zero_mul,Nat.add_zero,Nat.add_zero,Nat.add_zero],?_⟩ (by rw[Av];simp only;omega)
 rotate_left
 ·rw[Nat.pow_zero,Nat.mod_one,Nat.mul_zero,Nat.zero_mul,Nat.add_zero,Nat.add_zero,hout]
  rw[Bux fun j _ _=>rfl]
  rfl
 rintro y again ⟨k,over,hk,ho,hc,rfl⟩ hag
 simp only at hag ⊢
 unfold Aie
 simp only[Am]
 rw[Ad]
 have wik:IntKind.wrap .i64 ((i:Int)+((k:Nat):Int))=((i+k:Nat):Int):=by rw[Ar (by omega) (by omega)];omega
 have wk:IntKind.wrap .i64 (((k:Nat):Int)+1)=((k+1:Nat):Int):=by rw[Ar (by omega) (by omega)];omega
 have wi:IntKind.wrap .i64 ((i:Int)+1)=((i+1:Nat):Int):=by rw[Ar (by omega) (by omega)];omega
 have wib:IntKind.wrap .i64 ((i:Int)+(b.length:Int))=((i+b.length:Nat):Int):=by rw[Ar (by omega) (by omega)];omega
 by_cases h:((k:Nat):Int)<(b.length:Int)
 ·rw[if_pos h,wik,Bfx,Ao,if_pos (by omega),Ao,if_pos (by omega),Ao,if_pos (by omega),Ao,if_pos (by omega),Int.toNat_natCast,Int.toNat_natCast,Int.toNat_natCast,Cdo (by omega),if_neg (by omega),hai,hbk,wk]
  have hdB:dgt B k≤65535:=by unfold dgt;omega
  have hmb:=Cg0 hdA hdB
  have hPk:V+(x*(B % 65536 ^ (k+1)))*65536 ^ i=(V+(x*(B % 65536 ^ k))*65536 ^ i)+(x*dgt B k)*65536 ^ (i+k):=by
   have:B % 65536 ^ (k+1)=B % 65536 ^ k+dgt B k*65536 ^ k:=by
    rw[Nat.pow_succ,Nat.mod_mul,Nat.mul_comm (65536 ^ k)]
   rw[this,Nat.mul_add,Nat.add_mul,Nat.pow_add,Nat.add_assoc]
   congr 2
   rw[← Nat.mul_assoc,Nat.mul_assoc,Nat.mul_comm (65536 ^ k)]
  have hrow:=Ci5 (P:=V+(x*(B % 65536 ^ k))*65536 ^ i) (V:=V) (W:=65536 ^ (i+k)) (over:=over) (d:=dgt V (i+k)) (t:=x*dgt B k) (Nat.pow_pos (by omega)) hc rfl
  rw[← hPk] at hrow
  obtain⟨r1,r2,r3⟩:=hrow
  have hset:=Blw (n:=n) (p:=i+k) (X:=V+(x*(B % 65536 ^ k))*65536 ^ i) (X':=V+(x*(B % 65536 ^ (k+1)))*65536 ^ i) (Y:=V) (v:=(over+dgt V (i+k)+x*dgt B k) % 65536) (by omega)
   (fun j hj=>Cky rfl r3.symm hj) r1.symm
  have hdV:dgt V (i+k)≤65535:=by unfold dgt;omega
  have hgo:=hag (a,b,mix n (i+(k+1)) (V+(x*(B % 65536 ^ (k+1)))*65536 ^ i) V,(i:Int),(((over+dgt V (i+k)+x*dgt B k) / 65536:Nat):Int),((k+1:Nat):Int),())
   ⟨k+1,(over+dgt V (i+k)+x*dgt B k) / 65536,by omega,by omega,by rw[show i+(k+1)=(i+k)+1 by omega,Nat.pow_succ];exact r2,rfl⟩ (by simp only;omega)
  rw[show i+(k+1)=i+k+1 by omega,← hset] at hgo
  clear hag hset r1 r2 r3 hPk hc hV1 hVlt hV1lt hB hbk hai
  generalize V+(x*(B % 65536 ^ k))*65536 ^ i=P at *
  generalize dgt V (i+k)=d at *
  have w1:IntKind.wrap .i64 (((x:Nat):Int)*((dgt B k:Nat):Int))=((x*dgt B k:Nat):Int):=by rw[← Int.natCast_mul,Ar (by omega) (by omega)]
  rw[w1]
  generalize x*dgt B k=t at *
  have w2:IntKind.wrap .i64 ((over:Int)+(d:Int))=((over+d:Nat):Int):=by rw[Ar (by omega) (by omega)];omega
  have w3:IntKind.wrap .i64 (((over+d:Nat):Int)+(t:Int))=((over+d+t:Nat):Int):=by rw[Ar (by omega) (by omega)];omega
  have w4:Int.fdiv ((over+d+t:Nat):Int) 65536=(((over+d+t) / 65536:Nat):Int):=by rw[Int.fdiv_eq_ediv_of_nonneg _ (by omega)];omega
  have w5:IntKind.wrap .i64 (((over+d+t) % 65536:Nat):Int)=(((over+d+t) % 65536:Nat):Int):=Ar (by omega) (by omega)
  rw[w2,w3,An8 (n:=over+d+t) (by omega),w4,w5]
  exact hgo
 ·obtain rfl:k=b.length:=by omega
  clear hag
  have hBm:B % 65536 ^ b.length=B:=Nat.mod_eq_of_lt ((Nat.div_eq_zero_iff_lt (Nat.pow_pos (by omega))).1 hB)
  rw[hBm] at hc ⊢
  rw[← hV1] at hc ⊢
  rw[Nat.div_eq_of_lt hVlt,Nat.zero_add] at hc
  rw[if_neg h,wib,Bfx,Ao,if_pos (by omega),Int.toNat_natCast,wi]
  have hd:over=dgt (A % 65536 ^ (i+1)*B) (i+b.length):=by
   unfold dgt;rw[hc,Nat.mod_eq_of_lt (by omega)]
  rw[Blw (by omega) (fun j _=>rfl) hd]
  rw[Bux fun j h1 h2=>?_]
  unfold dgt
  have e1:V<65536 ^ j:=Nat.lt_of_lt_of_le hVlt (Nat.pow_le_pow_right (by omega) (by omega))
  have e2:A % 65536 ^ (i+1)*B<65536 ^ j:=Nat.lt_of_lt_of_le hV1lt (Nat.pow_le_pow_right (by omega) (by omega))
  rw[Nat.div_eq_of_lt e1,Nat.div_eq_of_lt e2]
theorem Cdu(n:Nat):lo n 0=List.replicate n 0:=by
 unfold lo
 refine List.eq_replicate_iff.2 ⟨by simp,fun b hb=>?_⟩
 obtain⟨k,hk,rfl⟩:=List.mem_map.1 hb
 rw[Nat.zero_div]
 rfl
theorem Pd{A B:Nat}(hA:(dg A).length≤1000)(hB:(dg B).length≤1000):Ci (dg A,dg B,())=some ((dg (A*B),()),(),(),()):=by
 have ha0:A / 65536 ^ (dg A).length=0:=D0.1 (Nat.le_refl _)
 have hb0:B / 65536 ^ (dg B).length=0:=D0.1 (Nat.le_refl _)
 have haa:A<65536 ^ (dg A).length:=(Nat.div_eq_zero_iff_lt (Nat.pow_pos (by omega))).1 ha0
 have hbb:B<65536 ^ (dg B).length:=(Nat.div_eq_zero_iff_lt (Nat.pow_pos (by omega))).1 hb0
 unfold Ci Aur
 simp only[Am]
 have hw:IntKind.wrap .i64 ((((dg A).length:Nat):Int)+(((dg B).length:Nat):Int))=(((dg A).length+(dg B).length:Nat):Int):=by rw[Ar (by omega) (by omega)];omega
 rw[hw,decide_eq_true (Int.natCast_nonneg _),decide_eq_true (Int.le_refl _),Int.toNat_natCast,Bool.and_true,Bool.and_true,Bool.true_and,Am9 (by omega)]
 refine Ak (I:=fun x=>∃ i:Nat,i≤(dg A).length∧x=(dg A,dg B,lo ((dg A).length+(dg B).length) (A % 65536 ^ i*B),(i:Int),())) (m:=fun x=>((((dg A).length:Nat):Int)-x.2.2.2.1).toNat)
  (g:=fun _=>some ((dg (A*B),()),(),(),())) ?_ ⟨0,by omega,by rw[Nat.pow_zero,Nat.mod_one,Nat.zero_mul,Cdu];rfl⟩ (by rw[Av];simp only;omega)
 rintro x again ⟨i,hi,rfl⟩ hag
 simp only at hag ⊢
 unfold Atn
 rw[Ad]
 by_cases h:(i:Int)<(((dg A).length:Nat):Int)
 ·rw[if_pos h,Clh rfl rfl rfl hA hB (by omega) rfl]
  exact hag _ ⟨i+1,by omega,rfl⟩ (by simp only;omega)
 ·obtain rfl:i=(dg A).length:=by omega
  have hAB:A*B<65536 ^ ((dg A).length+(dg B).length):=by
   rw[Nat.pow_add];exact Nat.mul_lt_mul'' haa hbb
  rw[if_neg h,Nat.mod_eq_of_lt haa,Aqg (by omega) (Nat.div_eq_of_lt hAB),Aa]
  dsimp only
  rw[Amw (Nat.div_eq_of_lt hAB)]
theorem Ctl{n:Nat}(h:n<18446744073709551616):(((BitVec.toNat ((BitVec.ofInt 64 (n:Int)) &&& (BitVec.ofInt 64 1)):Nat):Int))=((n % 2:Nat):Int):=by
 rw[BitVec.toNat_and,show BitVec.toNat (BitVec.ofInt 64 1)=2 ^ 1-1 from rfl,Nat.and_two_pow_sub_one_eq_mod,BitVec.ofInt_natCast,BitVec.toNat_ofNat,show n % 2 ^ 64=n from Nat.mod_eq_of_lt (by omega)]
theorem Ch0{N B:Nat}(hB:0<B):2*(N / 2 % B)+N % 2<2*B∧(2*(N / 2 % B)+N % 2<B→N % B=2*(N / 2 % B)+N % 2∧N / B=2*(N / 2 / B)) ∧
  (B≤2*(N / 2 % B)+N % 2→N % B=2*(N / 2 % B)+N % 2-B∧N / B=2*(N / 2 / B)+1):=by
 have h1:N / 2=B*(N / 2 / B)+N / 2 % B:=(Nat.div_add_mod (N / 2) B).symm
 have h2:N=(2*(N / 2 % B)+N % 2)+B*(2*(N / 2 / B)):=by
  have:B*(2*(N / 2 / B))=2*(B*(N / 2 / B)):=by rw[Nat.mul_left_comm]
  omega
 have h3:N / 2 % B<B:=Nat.mod_lt _ hB
 refine⟨by omega,fun h=>?_,fun h=>?_⟩
 ·generalize hx:2*(N / 2 % B)+N % 2=x at *
  generalize N / 2 / B=q at *
  rw[h2,Nat.add_mul_mod_self_left,Nat.add_mul_div_left _ _ hB,Nat.mod_eq_of_lt h,Nat.div_eq_of_lt h]
  omega
 ·generalize hx:2*(N / 2 % B)+N % 2=x at *
  generalize N / 2 / B=q at *
  have h4:N=(x-B)+B*(2*q+1):=by rw[Nat.mul_add,Nat.mul_one];omega
  have h5:x-B<B:=by omega
  rw[h4,Nat.add_mul_mod_self_left,Nat.add_mul_div_left _ _ hB,Nat.mod_eq_of_lt h5,Nat.div_eq_of_lt h5]
  omega
abbrev Cna:Type:=((List Int)×(List Int)×(List Int)×(List Int)×Int×Int×Unit)→Option (((List Int)×(List Int)×Unit)×Unit×Unit×Unit)
theorem Bzd{k:Nat}(h:k≤16):(2:Nat) ^ k≤65536:=Nat.pow_le_pow_right (by omega) h
theorem Btb(k:Nat):((2:Int) ^ k)=((2 ^ k:Nat):Int):=by rw[Int.natCast_pow];rfl
theorem Chx{a b q:List Int}{again8:Cna}{M X Y i k:Nat}(hM:M≤1100)(hi:i<q.length)(hq:0≤q.getD i 0∧q.getD i 0≤65536)(hk:k≤15)(hd:(dg X).length≤M) :
  Ac _ _ (fun again x=>Ahr again8 again x.1 x.2.1 x.2.2.1 x.2.2.2.1 x.2.2.2.2.1 x.2.2.2.2.2.1 x.2.2.2.2.2.2.1 x.2.2.2.2.2.2.2.1) (a,b,q,lo M Y,(i:Int),(k:Int),dg X,(0:Int),()) =
   again8 (a,b,q.set i (q.getD i 0+((2 ^ k:Nat):Int)),lo M X,(i:Int),(k:Int)-1,()):=by
 refine Ak (I:=fun y=>∃ j:Nat,j≤M∧y=(a,b,q,mix M j X Y,(i:Int),(k:Int),dg X,((j:Nat):Int),()))
  (m:=fun y=>((M:Int)-y.2.2.2.2.2.2.2.1).toNat) (g:=fun _=>again8 (a,b,q.set i (q.getD i 0+((2 ^ k:Nat):Int)),lo M X,(i:Int),(k:Int)-1,())) ?_
  ⟨0,by omega,by rw[Ch9 M X Y];rfl⟩ (by rw[Av];simp only;omega)
 rintro y again ⟨j,hj,rfl⟩ hag
 simp only at hag ⊢
 unfold Ahr
 rw[Ad,Bfx]
 by_cases h:((j:Nat):Int)<(M:Int)
 ·have wj:IntKind.wrap .i64 (((j:Nat):Int)+1)=((j+1:Nat):Int):=by rw[Ar (by omega) (by omega)];omega
  rw[if_pos h,Ao,if_pos (by omega),Int.toNat_natCast,wj,Ad]
  have hgo:=hag (a,b,q,mix M (j+1) X Y,(i:Int),(k:Int),dg X,((j+1:Nat):Int),()) ⟨j+1,by omega,rfl⟩ (by simp only;omega)
  rw[← Blw (n:=M) (p:=j) (X:=X) (X':=X) (Y:=Y) (v:=dgt X j) (by omega) (fun _ _=>rfl) rfl] at hgo
  by_cases h2:((j:Nat):Int)<(((dg X).length:Nat):Int)
  ·rw[if_pos h2,Ao,if_pos (by omega),Ao,if_pos (by rw[List.length_set,Bfx];omega),Aar,List.set_set]
   exact hgo
  ·have h3:dgt X j=0:=by
    have:X / 65536 ^ j=0:=Nat.eq_zero_of_not_pos fun h=>h2 (by have:=(Ah4 j X).2 h;omega)
    unfold dgt
    rw[this]
   rw[if_neg h2]
   rw[h3] at hgo
   exact hgo
 ·obtain rfl:j=M:=by omega
  have hp:=Bzd (show k≤16 by omega)
  have w1:IntKind.wrap .u64 (k:Int)=(k:Int):=H4 (by omega) (by omega)
  have w3:IntKind.wrap .i64 ((k:Int)-1)=(k:Int)-1:=Ar (by omega) (by omega)
  rw[if_neg h,Ao,if_pos (by omega),w1,Ad,if_pos (by omega),Ao,if_pos (by omega),Int.toNat_natCast,Int.toNat_natCast,Nat.min_eq_left (by omega),w3,Btb,Int.one_mul]
  generalize 2 ^ k=z at *
  rw[Ar (n:=(z:Int)) (by omega) (by omega),Ar (n:=q.getD i 0+(z:Int)) (by omega) (by omega),Bux fun j h1 h2=>by omega]
theorem Cmv{a b q:List Int}{again8:Cna}{B M R β i k:Nat}(hb:b=dg B)(hM:M=b.length+1)(hbl:b.length≤990)(hR:R<B)(hβ:β≤1)(hi:i<q.length)(hq:0≤q.getD i 0∧q.getD i 0≤65536)(hk:k≤15) :
  Ac _ _ (fun again x=>Ahq Ac Ep Ca Dr again8 again x.1 x.2.1 x.2.2.1 x.2.2.2.1 x.2.2.2.2.1 x.2.2.2.2.2.1 x.2.2.2.2.2.2.1 x.2.2.2.2.2.2.2.1) (a,b,q,lo M R,(i:Int),(k:Int),(β:Int),(0:Int),()) =
   if 2*R+β<B then again8 (a,b,q,lo M (2*R+β),(i:Int),(k:Int)-1,()) else
    again8 (a,b,q.set i (q.getD i 0+((2 ^ k:Nat):Int)),lo M (2*R+β-B),(i:Int),(k:Int)-1,()):=by
 have hB0:B / 65536 ^ b.length=0:=by rw[hb];exact D0.1 (Nat.le_refl _)
 have hBlt:B<65536 ^ b.length:=(Nat.div_eq_zero_iff_lt (Nat.pow_pos (by omega))).1 hB0
 have hR2lt:2*R+β<65536 ^ M:=by
  rw[hM,Nat.pow_succ];omega
 have hR2:(2*R+β) / 65536 ^ M=0:=Nat.div_eq_of_lt hR2lt
 refine Ak (I:=fun y=>∃ j over:Nat,j≤M∧over=(2*(R % 65536 ^ j)+β) / 65536 ^ j∧over≤1∧y=(a,b,q,mix M j (2*R+β) R,(i:Int),(k:Int),(over:Int),(j:Int),()))
  (m:=fun y=>((M:Int)-y.2.2.2.2.2.2.2.1).toNat) (g:=fun _=>if 2*R+β<B then again8 (a,b,q,lo M (2*R+β),(i:Int),(k:Int)-1,()) else
    again8 (a,b,q.set i (q.getD i 0+((2 ^ k:Nat):Int)),lo M (2*R+β-B),(i:Int),(k:Int)-1,())) ?_
  ⟨0,β,by omega,by rw[Nat.pow_zero,Nat.mod_one,Nat.div_one];omega,hβ,by rw[Ch9 M (2*R+β) R];rfl⟩ (by rw[Av];simp only;omega)
 rintro y again ⟨j,over,hj,hov,ho1,rfl⟩ hag
 simp only at hag ⊢
 unfold Ahq
 rw[Am,Ad,Bfx]
 by_cases h:(j:Int)<(M:Int)
 ·have wj:IntKind.wrap .i64 ((j:Int)+1)=((j+1:Nat):Int):=by rw[Ar (by omega) (by omega)];omega
  rw[if_pos h,Ao,if_pos (by omega),Ao,if_pos (by omega),Int.toNat_natCast,Cdo (by omega),if_neg (by omega),wj]
  -- the digit
  have hW:0<65536 ^ j:=Nat.pow_pos (by omega)
  have e1:R % 65536 ^ (j+1)=R % 65536 ^ j+dgt R j*65536 ^ j:=by
   rw[Nat.pow_succ,Nat.mod_mul,Nat.mul_comm (65536 ^ j)]
  have e2:(2*(R % 65536 ^ (j+1))+β) / 65536 ^ j=over+2*dgt R j:=by
   rw[e1,show 2*(R % 65536 ^ j+dgt R j*65536 ^ j)+β=(2*(R % 65536 ^ j)+β)+(2*dgt R j)*65536 ^ j by rw[Nat.mul_add,Nat.mul_assoc];omega,Nat.add_mul_div_right _ _ hW,hov]
  have e3:(2*(R % 65536 ^ (j+1))+β) / 65536 ^ (j+1)=(over+2*dgt R j) / 65536:=by
   rw[Nat.pow_succ,← Nat.div_div_eq_div_mul,← Nat.pow_succ,e2]
  have e4:dgt (2*R+β) j=(over+2*dgt R j) % 65536:=by
   rw[← e2]
   unfold dgt
   have:2*R+β=(2*(R % 65536 ^ (j+1))+β)+(2*(R / 65536 ^ (j+1))*65536)*65536 ^ j:=by
    have:=Nat.div_add_mod R (65536 ^ (j+1))
    have e:2*(R / 65536 ^ (j+1))*65536*65536 ^ j=2*(65536 ^ (j+1)*(R / 65536 ^ (j+1))):=by
     rw[Nat.pow_succ]
     generalize R / (65536 ^ j*65536)=r
     generalize 65536 ^ j=w
     rw[Nat.mul_assoc 2 r 65536,Nat.mul_assoc 2,Nat.mul_comm (w*65536) r,Nat.mul_assoc r,Nat.mul_comm 65536 w]
    omega
   conv=>lhs;rw[this]
   rw[Nat.add_mul_div_right _ _ hW,Nat.add_mul_mod_self_right]
  have hdR:dgt R j≤65535:=by unfold dgt;omega
  have hgo:=hag (a,b,q,mix M (j+1) (2*R+β) R,(i:Int),(k:Int),(((over+2*dgt R j) / 65536:Nat):Int),((j+1:Nat):Int),())
   ⟨j+1,(over+2*dgt R j) / 65536,by omega,e3.symm,by omega,rfl⟩ (by simp only;omega)
  rw[← Blw (n:=M) (p:=j) (X:=2*R+β) (X':=2*R+β) (Y:=R) (v:=(over+2*dgt R j) % 65536) (by omega) (fun _ _=>rfl) e4.symm] at hgo
  clear hag e1 e2 e3 e4 hov
  generalize dgt R j=d at *
  have w1:IntKind.wrap .i64 ((2:Int)*(d:Int))=((2*d:Nat):Int):=by rw[Ar (by omega) (by omega)];omega
  have w2:IntKind.wrap .i64 ((over:Int)+((2*d:Nat):Int))=((over+2*d:Nat):Int):=by rw[Ar (by omega) (by omega)];omega
  have w4:Int.fdiv ((over+2*d:Nat):Int) 65536=(((over+2*d) / 65536:Nat):Int):=by rw[Int.fdiv_eq_ediv_of_nonneg _ (by omega)];omega
  have w5:IntKind.wrap .i64 (((over+2*d) % 65536:Nat):Int)=(((over+2*d) % 65536:Nat):Int):=Ar (by omega) (by omega)
  rw[w1,w2,An8 (n:=over+2*d) (by omega),w4,w5]
  exact hgo
 ·obtain rfl:j=M:=by omega
  clear hag
  have w3:IntKind.wrap .i64 ((k:Int)-1)=(k:Int)-1:=Ar (by omega) (by omega)
  have hl2:(dg (2*R+β)).length≤j:=D0.2 hR2
  rw[if_neg h,Bux fun j' h1 h2=>by omega,Aqg (by omega) hR2,Aa]
  dsimp only
  rw[Amw hR2,hb,Ak0 (by omega) (by rw[← hb];omega),Aa]
  dsimp only
  unfold Abs
  rw[Ad]
  by_cases c1:2*R+β<B
  ·rw[if_pos c1,if_pos c1,if_neg (by omega),w3]
  ·rw[if_neg c1,if_neg c1,if_pos (by split<;>omega),Aa]
   dsimp only
   rw[Amw hR2,Lt (D:=2*R+β-B) (by omega) (by omega),Aa]
   dsimp only
   exact Chx (by omega) hi hq hk (by
    refine D0.2 (Nat.div_eq_of_lt ?_)
    omega)
theorem Cjb(n i A:Nat):(hiD n (i+1) A).set i 0=hiD n (i+1) A:=by
 refine List.ext_getElem (by simp) fun k h1 h2=>?_
 rw[List.getElem_set]
 by_cases hk:i=k
 ·subst hk
  simp[hiD]
  intro h;omega
 ·rw[if_neg hk]
theorem Com{D k:Nat}(hk:k≤15):D % 65536 / 2 ^ k % 2=D / 2 ^ k % 2:=by
 have e:(65536:Nat)=2 ^ k*2 ^ (16-k):=by rw[← Nat.pow_add,show k+(16-k)=16 by omega]
 rw[e,Nat.mod_mul_right_div_self,Nat.mod_mod_of_dvd]
 exact⟨2 ^ (15-k),by rw[← Nat.pow_succ',show (15-k).succ=16-k by omega]⟩
theorem Cgn{a b:List Int}{again2:((List Int)×(List Int)×(List Int)×(List Int)×Int×Unit)→Option (((List Int)×(List Int)×Unit)×Unit×Unit×Unit)}{A B M n i:Nat}
  (ha:a=dg A) (hb:b=dg B) (hM:M=b.length+1) (hn:n=a.length) (hbl:b.length≤990) (hal:a.length≤990) (hB:0<B) (hi:i<n) :
  Ac _ _ (fun again x=>Ahv Ac Ep Ca Dr again2 again x.1 x.2.1 x.2.2.1 x.2.2.2.1 x.2.2.2.2.1 x.2.2.2.2.2.1) (a,b,hiD n (i+1) (A / B),lo M (A / 65536 ^ (i+1) % B),(i:Int),(15:Int),()) =
   again2 (a,b,hiD n i (A / B),lo M (A / 65536 ^ i % B),(i:Int)-1,()):=by
 have hD1:A / 65536 ^ (i+1)=A / 65536 ^ i / 2 ^ 16:=by rw[H2]
 have hQ:A / B / 65536 ^ i % 65536=A / 65536 ^ i / B % 65536:=by rw[Nat.div_div_eq_div_mul,Nat.mul_comm,← Nat.div_div_eq_div_mul]
 have hset:=Cem (n:=n) (i:=i) (A:=A / B) hi
 rw[hQ] at hset
 generalize hD:A / 65536 ^ i=D at *
 have hq0:=Cjb n i (A / B)
 have hql:(hiD n (i+1) (A / B)).length=n:=Cdv ..
 generalize hiD n (i+1) (A / B)=q at *
 rw[hD1]
 refine Ak (I:=fun y=>∃ k t:Nat,k≤16∧D / 2 ^ k / B=D / 2 ^ 16 / B*2 ^ (16-k)+t∧t<2 ^ (16-k)∧y=(a,b,q.set i ((t*2 ^ k:Nat):Int),lo M (D / 2 ^ k % B),(i:Int),(k:Int)-1,()))
  (m:=fun y=>(y.2.2.2.2.2.1+1).toNat) (g:=fun _=>again2 (a,b,hiD n i (A / B),lo M (D % B),(i:Int)-1,())) ?_
  ⟨16,0,by omega,by rw[Nat.sub_self,Nat.pow_zero,Nat.mul_one,Nat.add_zero],by rw[Nat.sub_self,Nat.pow_zero];omega,by rw[Nat.zero_mul,show ((0:Nat):Int)=0 from rfl,hq0];rfl⟩ (by rw[Av];simp only;omega)
 rintro y again ⟨k,t,hk,ht,htl,rfl⟩ hag
 simp only at hag ⊢
 unfold Ahv
 rw[Ad]
 cases k with
 | zero =>
  have wi:IntKind.wrap .i64 ((i:Int)-1)=(i:Int)-1:=Ar (by omega) (by omega)
  rw[if_neg (by omega),wi]
  rw[Nat.pow_zero,Nat.div_one] at ht ⊢
  have htv:t=D / B % 65536:=by
   rw[Nat.sub_zero] at ht htl
   generalize D / B=x at *
   generalize D / 2 ^ 16 / B=y at *
   have:(2:Nat) ^ 16=65536:=rfl
   omega
  rw[Nat.mul_one,htv,hset]
 | succ k =>
  have hk15:k≤15:=by omega
  have hkk:(((k+1:Nat):Int)-1)=(k:Int):=by omega
  have w1:IntKind.wrap .u64 (k:Int)=(k:Int):=H4 (by omega) (by omega)
  have hai:a.getD i 0=((D % 65536:Nat):Int):=by rw[ha,Aar,hD]
  have hp:=Bzd (show k≤16 by omega)
  have hp1:0<2 ^ k:=Nat.pow_pos (by omega)
  have hbitv:IntKind.wrap .i64 (((BitVec.toNat ((BitVec.ofInt (64:Nat) (Int.fdiv ((D % 65536:Nat):Int) ((2:Int) ^ k))) &&& (BitVec.ofInt (64:Nat) (1:Int)))):Nat):Int)=((D / 2 ^ k % 2:Nat):Int):=by
   rw[Btb,d32,Ctl (by
    refine Nat.lt_of_le_of_lt (Nat.div_le_self _ _) ?_
    omega),Com hk15]
   generalize D / 2 ^ k=x
   exact Ar (by omega) (by omega)
  rw[hkk,if_pos (by omega),Ao,if_pos (by omega),w1,Ad,if_pos (by omega),Int.toNat_natCast,Int.toNat_natCast,Nat.min_eq_left (by omega),hai,hbitv]
  have hN:D / 2 ^ (k+1)=D / 2 ^ k / 2:=by rw[Nat.pow_succ,Nat.div_div_eq_div_mul]
  rw[hN] at ht ⊢
  obtain⟨s1,s2,s3⟩:=Ch0 (N:=D / 2 ^ k) hB
  have hlt:D / 2 ^ k / 2 % B<B:=Nat.mod_lt _ hB
  have hβ:D / 2 ^ k % 2≤1:=by omega
  have hpk:(2:Nat) ^ (16-k)=2*2 ^ (16-(k+1)):=by rw[← Nat.pow_succ',show (16-(k+1)).succ=16-k by omega]
  have hgq:(q.set i ((t*2 ^ (k+1):Nat):Int)).getD i 0=((t*2 ^ (k+1):Nat):Int):=by
   rw[List.getD_eq_getElem?_getD,List.getElem?_set_self (by omega)];rfl
  have htb:t*2 ^ (k+1)≤65536:=by
   have:t*2 ^ (k+1)≤2 ^ (16-(k+1))*2 ^ (k+1):=Nat.mul_le_mul_right _ (by omega)
   rw[← Nat.pow_add,show 16-(k+1)+(k+1)=16 by omega] at this
   exact this
  have hgo1:=fun (h:2*(D / 2 ^ k / 2 % B)+D / 2 ^ k % 2<B)=>hag (a,b,q.set i ((2*t*2 ^ k:Nat):Int),lo M (D / 2 ^ k % B),(i:Int),(k:Int)-1,()) ⟨k,2*t,by omega,by
    rw[(s2 h).2,ht,hpk]
    generalize D / 2 ^ 16 / B=x
    generalize 2 ^ (16-(k+1))=y
    rw[Nat.mul_add,← Nat.mul_assoc,Nat.mul_comm 2 x,Nat.mul_assoc x 2 y],by omega,rfl⟩ (by simp only;omega)
  have hgo2:=fun (h:B≤2*(D / 2 ^ k / 2 % B)+D / 2 ^ k % 2)=>hag (a,b,q.set i (((2*t+1)*2 ^ k:Nat):Int),lo M (D / 2 ^ k % B),(i:Int),(k:Int)-1,()) ⟨k,2*t+1,by omega,by
    rw[(s3 h).2,ht,hpk]
    generalize D / 2 ^ 16 / B=x
    generalize 2 ^ (16-(k+1))=y
    rw[Nat.mul_add,← Nat.mul_assoc,Nat.mul_comm 2 x,Nat.mul_assoc x 2 y]
    omega,by omega,rfl⟩ (by simp only;omega)
  clear hag
  have htt:t*2 ^ (k+1)=2*t*2 ^ k:=by rw[Nat.pow_succ,Nat.mul_comm (2 ^ k) 2,← Nat.mul_assoc,Nat.mul_comm t 2]
  rw[Cmv hb hM hbl hlt hβ (by rw[List.length_set];omega) (by rw[hgq];omega) hk15,hgq,htt,List.set_set]
  generalize D / 2 ^ k=N at *
  by_cases c:2*(N / 2 % B)+N % 2<B
  ·rw[if_pos c,← (s2 c).1]
   exact hgo1 c
  ·have c':B≤2*(N / 2 % B)+N % 2:=by omega
   rw[if_neg c,← (s3 c').1]
   have e:((2*t*2 ^ k:Nat):Int)+((2 ^ k:Nat):Int)=(((2*t+1)*2 ^ k:Nat):Int):=by
    rw[Nat.add_mul,Nat.one_mul,Int.natCast_add]
   rw[e]
   exact hgo2 c'
theorem Awo{A B:Nat}(hA:(dg A).length≤990)(hBl:(dg B).length≤990)(hB:0<B):Ds (dg A,dg B,())=some ((dg (A / B),dg (A % B),()),(),(),()):=by
 have hA0:A / 65536 ^ (dg A).length=0:=D0.1 (Nat.le_refl _)
 have hB0:B / 65536 ^ (dg B).length=0:=D0.1 (Nat.le_refl _)
 unfold Ds Awc
 simp only[Am]
 rw[Ad]
 by_cases h1:(((dg B).length:Nat):Int)=1
 ·have hlt:B<65536:=by
   have:=(Nat.div_eq_zero_iff_lt (Nat.pow_pos (by omega))).1 hB0
   rw[show (dg B).length=1 by omega,Nat.pow_one] at this
   exact this
  have hg:List.getD (dg B) 0 0=(B:Int):=by rw[Aar,Nat.pow_zero,Nat.div_one,Nat.mod_eq_of_lt hlt]
  rw[if_pos h1,Ao,if_pos (by omega),hg,Cij (by omega) hB hlt,Aa]
 ·rw[if_neg h1]
  have wv:IntKind.wrap .i64 ((((dg B).length:Nat):Int)+1)=(((dg B).length+1:Nat):Int):=by rw[Ar (by omega) (by omega)];omega
  have wn:IntKind.wrap .i64 ((((dg A).length:Nat):Int)-1)=(((dg A).length:Nat):Int)-1:=Ar (by omega) (by omega)
  rw[wv,wn]
  generalize ha:dg A=a at *
  generalize hb:dg B=b at *
  rw[decide_eq_true (show (0:Int)≤(a.length:Int) by omega),decide_eq_true (Int.le_refl _),decide_eq_true (show (0:Int)≤((b.length+1:Nat):Int) by omega),decide_eq_true (Int.le_refl _),Int.toNat_natCast,Int.toNat_natCast]
  simp only[Bool.and_true,Bool.true_and]
  rw[Am9 (by omega),Am9 (by omega)]
  have hBlt:B<65536 ^ (b.length+1):=by
   have:=(Nat.div_eq_zero_iff_lt (Nat.pow_pos (by omega))).1 hB0
   rw[Nat.pow_succ];omega
  refine Ak (I:=fun y=>∃ j:Nat,j≤a.length∧y=(a,b,hiD a.length j (A / B),lo (b.length+1) (A / 65536 ^ j % B),(j:Int)-1,()))
   (m:=fun y=>(y.2.2.2.2.1+1).toNat) (g:=fun _=>some ((dg (A / B),dg (A % B),()),(),(),())) ?_
   ⟨a.length,Nat.le_refl _,by rw[Cdd,hA0,Nat.zero_mod,Cdu]⟩ (by rw[Av];simp only;omega)
  rintro y again ⟨j,hj,rfl⟩ hag
  simp only at hag ⊢
  unfold Auf
  rw[Ad]
  cases j with
  | zero =>
   have hq:A / B / 65536 ^ a.length=0:=by
    rw[Nat.div_div_eq_div_mul,Nat.mul_comm,← Nat.div_div_eq_div_mul,hA0,Nat.zero_div]
   have hr:A % B / 65536 ^ (b.length+1)=0:=Nat.div_eq_of_lt (Nat.lt_trans (Nat.mod_lt _ hB) hBlt)
   rw[if_neg (by omega),By2,Nat.pow_zero,Nat.div_one,Aqg (by omega) hq,Aa]
   dsimp only
   rw[Aqg (by omega) hr,Aa]
   dsimp only
   rw[Amw hq,Amw hr]
  | succ i =>
   have hii:(((i+1:Nat):Int)-1)=(i:Int):=by omega
   rw[hii,if_pos (by omega),Cgn ha.symm hb.symm rfl rfl hBl hA hB (by omega)]
   exact hag _ ⟨i,by omega,rfl⟩ (by simp only;omega)
theorem Cq{ω δ:Type}{round:(δ→Option ω)→δ→Option ω}(I:δ→Prop)(m:δ→Nat)(P:Option ω→Prop)
  (h:∀ x (again:δ→Option ω),I x→(∀ y,I y→m y<m x→P (again y))→P (round again x)) {x:δ} (hx:I x) (hm:m x<Br7):P (Ac ω δ round x):=by
 have key:∀ n x,I x→m x<n→P (Bfd round n x):=by
  intro n
  induction n with
  | zero=>intro x _ hm;omega
  | succ n ih =>
   intro x hx hm
   rw[Bcq]
   exact h x _ hx fun y hy hlt=>ih y hy (by omega)
 rw[Aqk]
 exact key Br7 x hx hm
theorem Bhe{n:Nat}(hn:Al n):G6 (Aw n,())=some ((if n<18446744073709551616 then ((n:Int),true,()) else ((0:Int),false,())),(),()):=by
 unfold Al at hn
 have e:∀ q,q<4→List.getD (Aw n) q 0=((n / 18446744073709551616 ^ q % 18446744073709551616:Nat):Int):=fun q hq=>At0 hn hq
 have e0:=e 0 (by omega)
 have e1:=e 1 (by omega)
 have e2:=e 2 (by omega)
 have e3:=e 3 (by omega)
 have p0:(18446744073709551616:Nat) ^ 0=1:=rfl
 have p1:(18446744073709551616:Nat) ^ 1=18446744073709551616:=by decide
 have p2:(18446744073709551616:Nat) ^ 2=340282366920938463463374607431768211456:=by decide
 have p3:(18446744073709551616:Nat) ^ 3=6277101735386680763835789423207666416102355444464034512896:=by decide
 rw[p0] at e0;rw[p1] at e1;rw[p2] at e2;rw[p3] at e3
 unfold G6 Aiz
 dsimp only
 rw[e0,e1,e2,e3]
 clear e e0 e1 e2 e3
 rw[Aq,Ad,Aq,Ad,Aq,Ad]
 by_cases h:n<18446744073709551616
 ·rw[if_pos (by omega),if_pos (by omega),if_pos (by omega),if_pos h,Nat.div_one,Nat.mod_eq_of_lt h]
 ·rw[if_neg h]
  by_cases h1:((n / 18446744073709551616 % 18446744073709551616:Nat):Int)=0
  ·rw[if_pos h1]
   by_cases h2:((n / 340282366920938463463374607431768211456 % 18446744073709551616:Nat):Int)=0
   ·rw[if_pos h2,if_neg (by omega)]
   ·rw[if_neg h2]
  ·rw[if_neg h1]
theorem Be8(n lo hi:Int):Afk (n,lo,hi,())=some ((decide (lo≤n∧n≤hi),()),(),(),(),()):=by
 unfold Afk Awf
 dsimp only
 rw[Ad]
 by_cases h:n≥lo
 ·rw[if_pos h,show decide (lo≤n∧n≤hi)=decide (n≤hi) by rw[decide_eq_decide];omega]
 ·rw[if_neg h,decide_eq_false (by omega)]
theorem Bdd{n:Nat}{lo:Int}(hn:Al n):P8 (Aw n,lo,())=some ((decide (n<18446744073709551616∧lo≤(n:Int)),()),(),(),()):=by
 unfold P8 Acm
 dsimp only
 rw[Bhe hn,Aa]
 by_cases h:n<18446744073709551616
 ·rw[if_pos h]
  dsimp only
  rw[Au,show decide (n<18446744073709551616∧lo≤(n:Int))=decide ((n:Int)≥lo) by rw[decide_eq_decide];omega]
 ·rw[if_neg h]
  dsimp only
  rw[Bp,decide_eq_false (by omega)]
abbrev N6:=Int×(Int×Int×List Int×Int×List Int×Int×List Int×Int×Int×Int×Int×Unit)
inductive Vd:N6→Prop
 | mk {sp to bi gl bb eu pi mi ma:Int} {fe ic rw:Nat} (h1:B4 sp) (h2:B4 to) (h3:B4 bi) (h4:Al fe) (h5:B4 gl) (h6:Al ic) (h7:B4 bb) (h8:Al rw) (h9:B4 eu) (h10:B4 pi) (h11:B4 mi) (h12:B4 ma) :
  Vd (sp,to,bi,Aw fe,gl,Aw ic,bb,Aw rw,eu,pi,mi,ma,())
def PV(p:N6):Prop :=
 ((1≤p.1∧p.1≤1099511627776)∧(0≤p.2.1∧p.2.1≤1048576)∧(1≤p.2.2.1∧p.2.2.1≤1048576)) ∧
 (Dw p.2.2.2.1<18446744073709551616∧1≤((Dw p.2.2.2.1:Nat):Int))∧(1≤p.2.2.2.2.1∧p.2.2.2.2.1≤1099511627776) ∧
 (Dw p.2.2.2.2.2.1<18446744073709551616∧0≤((Dw p.2.2.2.2.2.1:Nat):Int))∧(0≤p.2.2.2.2.2.2.1∧p.2.2.2.2.2.2.1≤10000) ∧
 (Dw p.2.2.2.2.2.2.2.1<18446744073709551616∧0≤((Dw p.2.2.2.2.2.2.2.1:Nat):Int)) ∧
 (1≤p.2.2.2.2.2.2.2.2.1∧p.2.2.2.2.2.2.2.2.1≤1099511627776)∧(1≤p.2.2.2.2.2.2.2.2.2.1∧p.2.2.2.2.2.2.2.2.2.1≤1048576) ∧
 (0≤p.2.2.2.2.2.2.2.2.2.2.1∧p.2.2.2.2.2.2.2.2.2.2.1≤1048576)∧(p.2.2.2.2.2.2.2.2.2.2.1≤p.2.2.2.2.2.2.2.2.2.2.2.1∧p.2.2.2.2.2.2.2.2.2.2.2.1≤16777216)
instance(p:N6):Decidable (PV p):=by unfold PV;infer_instance
def fi:List Bool→Int→Int
 | [],_=>0
 | b::l,i=>if b then fi l (i+1) else i+1
theorem Cel:∀ (l:List Bool) {i:Int},0≤i→(fi l i=0↔∀ b∈l,b=true)
 | [],i,_=>by simp[fi]
 | b::l,i,h=>by
  unfold fi
  cases b with
  | true=>rw[if_pos rfl,Cel l (by omega)];simp
  | false=>rw[if_neg (by decide)];simp;omega
theorem Clj(l:List Bool)(hl:l.length=12):Ac _ _ (fun again x=>Nt again x.1 x.2.1) (l,(0:Int),())=some ((fi l 0,()),(),()):=by
 refine Ak (I:=fun x=>∃ i:Nat,i≤12∧fi l 0=fi (l.drop i) (i:Int)∧x=(l,(i:Int),())) (m:=fun x=>((12:Int)-x.2.1).toNat) (g:=fun _=>some ((fi l 0,()),(),())) ?_
  ⟨0,by omega,rfl,rfl⟩ (by rw[Av];simp only;omega)
 rintro x again ⟨i,hi,hf,rfl⟩ hag
 simp only at hag ⊢
 unfold Nt
 simp only[Am]
 have hw:IntKind.wrap .i64 ((i:Int)+1)=(i:Int)+1:=Ar (by omega) (by omega)
 rw[Ad,hw]
 by_cases h:(i:Int)<12
 ·have hd:l.drop i=l.getD i false::l.drop (i+1):=by
   rw[List.drop_eq_getElem_cons (by omega),List.getD_eq_getElem?_getD,List.getElem?_eq_getElem (by omega)];rfl
  rw[if_pos h,Ao,if_pos (by omega),Int.toNat_natCast]
  rw[hd] at hf
  unfold fi at hf
  cases hb:l.getD i false with
  | true =>
   rw[hb,if_pos rfl] at hf
   rw[Aq,Au]
   refine hag _ ⟨i+1,by omega,?_,by rw[Int.natCast_add];rfl⟩ (by simp only;omega)
   rw[Int.natCast_add]
   cases l with
   | nil=>simp at hl
   | cons _ _=>exact hf
  | false =>
   rw[hb,if_neg (by decide)] at hf
   rw[Aq,Bp]
   have:fi l 0=(i:Int)+1:=by
    cases l with
    | nil=>simp at hl
    | cons _ _=>exact hf
   rw[this]
 ·rw[if_neg h]
  have:fi l 0=0:=by
   rw[hf,List.drop_of_length_le (by omega)];rfl
  rw[this]
theorem Zf{p:N6}(h:Vd p):Cr (p,())=some ((decide (PV p),()),(),()):=by
 obtain⟨h1,h2,h3,h4,h5,h6,h7,h8,h9,h10,h11,h12⟩:=h
 rename_i sp to bi gl bb eu pi mi ma fe ic rw'
 unfold Cr Ajg
 dsimp only
 unfold Mx Qa
 dsimp only
 rw[Be8,Aa,Be8,Aa,Be8,Aa,Bdd h4,Aa,Be8,Aa,Bdd h6,Aa,Be8,Aa,Bdd h8,Aa,Be8,Aa,Be8,Aa,Be8,Aa,Be8,Aa]
 dsimp only
 rw[Clj _ rfl,Aa]
 dsimp only
 congr 4
 rw[Cel _ (Int.le_refl _)]
 unfold PV
 simp only[List.forall_mem_cons,List.not_mem_nil,false_imp_iff,implies_true,and_true,decide_eq_true_eq,Bk,and_assoc]
theorem Bsy:Vd ((7000000:Int),(10:Int),(102:Int),[(100000000:Int),0,0,0],(32000000:Int),[(60000000:Int),0,0,0],(1000:Int),[(10:Int),0,0,0],(160000000:Int),(10:Int),(16:Int),(65536:Int),()):=by
 have e1:([(100000000:Int),0,0,0]:List Int)=Aw 100000000:=by decide
 have e2:([(60000000:Int),0,0,0]:List Int)=Aw 60000000:=by decide
 have e3:([(10:Int),0,0,0]:List Int)=Aw 10:=by decide
 rw[e1,e2,e3]
 exact .mk (by unfold B4;omega) (by unfold B4;omega) (by unfold B4;omega) (by unfold Al;omega) (by unfold B4;omega) (by unfold Al;omega) (by unfold B4;omega) (by unfold Al;omega) (by unfold B4;omega) (by unfold B4;omega) (by unfold B4;omega) (by unfold B4;omega)
abbrev Cos:N6:=((0:Int),(0:Int),(0:Int),[(0:Int),0,0,0],(0:Int),[(0:Int),0,0,0],(0:Int),[(0:Int),0,0,0],(0:Int),(0:Int),(0:Int),(0:Int),())
theorem Cd7:Vd Cos:=by
 have u0:B4 0:=⟨by omega,by omega⟩
 have b0:Al 0:=by unfold Al;omega
 have:=Vd.mk u0 u0 u0 b0 u0 b0 u0 b0 u0 u0 u0 u0
 rw[Brl] at this
 exact this
def Cpn(l:List (List Int)):Prop:=l.length=12∧∀ i,i<12→∃ k:Nat,Al k∧l.getD i [(0:Int),0,0,0]=Aw k
theorem Ams{k:Nat}(h:Al k):B4 (List.getD (Aw k) 0 0):=by
 unfold Al at h
 have e:=At0 h (q:=0) (by omega)
 have p0:(18446744073709551616:Nat) ^ 0=1:=rfl
 rw[p0] at e
 rw[e]
 unfold B4
 omega
theorem Cfa(l:List (List Int))(h:Cpn l) :
  ∃ q c,Ac _ _ (fun again x=>Afx G6 Cr again x.1 x.2.1 x.2.2.1) (Cos,l,(0:Int),())=some ((q,c,()),(),(),(),())∧Vd q∧(c=0→PV q):=by
 refine Cq (I:=fun x=>∃ i:Nat,i≤12∧x=(Cos,l,(i:Int),())) (m:=fun x=>((12:Int)-x.2.2.1).toNat)
  (P:=fun r=>∃ q c,r=some ((q,c,()),(),(),(),())∧Vd q∧(c=0→PV q)) ?_ ⟨0,by omega,rfl⟩ (by simp only[Av];omega)
 rintro x again ⟨i,hi,rfl⟩ hag
 simp only at hag ⊢
 unfold Afx
 rw[Ad]
 by_cases c:(i:Int)<12
 ·obtain⟨k,hk,e⟩:=h.2 i (by omega)
  rw[if_pos c,Ao,if_pos (by omega),Int.toNat_natCast,e,Bhe hk,Aa,Ar (by omega) (by omega)]
  by_cases d:k<18446744073709551616
  ·rw[if_pos d]
   dsimp only
   rw[Aq,Au]
   exact hag _ ⟨i+1,by omega,by rw[Int.natCast_add];rfl⟩ (by simp only;omega)
  ·rw[if_neg d]
   dsimp only
   rw[Aq,Bp]
   exact⟨_,_,rfl,Cd7,fun h=>by cases h⟩
 ·rw[if_neg c]
  clear hag
  obtain⟨k0,b0,e0⟩:=h.2 0 (by omega)
  obtain⟨k1,b1,e1⟩:=h.2 1 (by omega)
  obtain⟨k2,b2,e2⟩:=h.2 2 (by omega)
  obtain⟨k3,b3,e3⟩:=h.2 3 (by omega)
  obtain⟨k4,b4,e4⟩:=h.2 4 (by omega)
  obtain⟨k5,b5,e5⟩:=h.2 5 (by omega)
  obtain⟨k6,b6,e6⟩:=h.2 6 (by omega)
  obtain⟨k7,b7,e7⟩:=h.2 7 (by omega)
  obtain⟨k8,b8,e8⟩:=h.2 8 (by omega)
  obtain⟨k9,b9,e9⟩:=h.2 9 (by omega)
  obtain⟨k10,b10,e10⟩:=h.2 10 (by omega)
  obtain⟨k11,b11,e11⟩:=h.2 11 (by omega)
  rw[e0,e1,e2,e3,e4,e5,e6,e7,e8,e9,e10,e11]
  have hw:=Vd.mk (Ams b0) (Ams b1) (Ams b2) b3 (Ams b4) b5 (Ams b6) b7 (Ams b8) (Ams b9) (Ams b10) (Ams b11)
  generalize hq:(((List.getD (Aw k0) 0 0),(List.getD (Aw k1) 0 0),(List.getD (Aw k2) 0 0),Aw k3,(List.getD (Aw k4) 0 0),Aw k5,(List.getD (Aw k6) 0 0),Aw k7,(List.getD (Aw k8) 0 0),(List.getD (Aw k9) 0 0),(List.getD (Aw k10) 0 0),(List.getD (Aw k11) 0 0),()):N6)=q at *
  rw[Zf hw,Aa]
  dsimp only
  rw[Aq,Ad]
  by_cases d:PV q
  ·rw[if_pos d]
   exact⟨_,_,rfl,hw,fun _=>d⟩
  ·rw[if_neg d]
   exact⟨_,_,rfl,Cd7,fun h=>by cases h⟩
theorem Clm{p:N6}(h:Vd p)(hv:PV p)(key:Int){n:Nat}(hn:Al n)(hk:I64 key):∃ q c,Ab9 (p,key,Aw n,())=some ((q,c,()),(),(),(),())∧Vd q∧(c=0→PV q):=by
 unfold I64 at hk
 have hval:=Zf h
 unfold Ab9 Aq3
 simp only[Am]
 rw[Ad]
 by_cases c1:key<1
 ·rw[if_pos c1];exact⟨_,_,rfl,Cd7,fun h=>by cases h⟩
 rw[if_neg c1,Ad]
 by_cases c2:key>12
 ·rw[if_pos c2];exact⟨_,_,rfl,Cd7,fun h=>by cases h⟩
 rw[if_neg c2,hval,Aa]
 dsimp only
 rw[decide_eq_true hv,Aq,Au]
 unfold Aiy Aqr
 rw[Aa]
 dsimp only
 rw[Ar (by omega) (by omega),Ao,if_pos (by omega)]
 refine Cfa _ ⟨by rw[List.length_set];rfl,fun i hi=>?_⟩
 by_cases he:(key-1).toNat=i
 ·refine⟨n,hn,?_⟩
  rw[← he,List.getD_eq_getElem?_getD,List.getElem?_set_self (by show (key-1).toNat<12;omega)]
  rfl
 ·rw[List.getD_eq_getElem?_getD,List.getElem?_set_ne he,← List.getD_eq_getElem?_getD]
  obtain⟨h1,h2,h3,h4,h5,h6,h7,h8,h9,h10,h11,h12⟩:=h
  have sm:∀ {x:Int},B4 x→∃ k:Nat,Al k∧[x,(0:Int),(0:Int),(0:Int)]=Aw k:=fun {x} hx=>by
   unfold B4 at hx
   exact⟨x.toNat,by unfold Al;omega,Aad hx.1 hx.2⟩
  match i,hi with
  | 0,_=>exact sm h1
  | 1,_=>exact sm h2
  | 2,_=>exact sm h3
  | 3,_=>exact⟨_,h4,rfl⟩
  | 4,_=>exact sm h5
  | 5,_=>exact⟨_,h6,rfl⟩
  | 6,_=>exact sm h7
  | 7,_=>exact⟨_,h8,rfl⟩
  | 8,_=>exact sm h9
  | 9,_=>exact sm h10
  | 10,_=>exact sm h11
  | 11,_=>exact sm h12
theorem Ans{n:Nat}(h:n<115792089237316195423570985008687907853269984665640564039457584007913129639936):(dg n).length≤16:=Nr.2 h
theorem Cd6{a b c:Int}(ha:B4 a)(hb:B4 b)(hc:B4 c):N9 (a,b,c,())=some ((((a.toNat-b.toNat*c.toNat:Nat):Int),()),(),(),(),()):=by
 unfold B4 at ha hb hc
 unfold N9 Amh
 dsimp only
 have hm:b.toNat*c.toNat≤18446744073709551615*18446744073709551615:=Nat.mul_le_mul (by omega) (by omega)
 rw[B7 ha.1 ha.2,Aa,B7 hb.1 hb.2,Aa,B7 hc.1 hc.2,Aa]
 dsimp only
 have l1:=Ans (n:=a.toNat) (by omega)
 have l2:=Ans (n:=b.toNat) (by omega)
 have l3:=Ans (n:=c.toNat) (by omega)
 have l4:=Ans (n:=b.toNat*c.toNat) (by omega)
 rw[Pd (by omega) (by omega),Aa]
 dsimp only
 generalize b.toNat*c.toNat=m at *
 rw[Ak0 (by omega) (by omega),Aa]
 dsimp only
 unfold Abs
 rw[Ad]
 by_cases h:a.toNat≤m
 ·have hq:(if a.toNat<m then (-1:Int) else if a.toNat>m then 1 else 0)≤0:=by
   by_cases h2:a.toNat<m
   ·rw[if_pos h2];omega
   ·rw[if_neg h2,if_neg (by omega)];omega
  rw[if_pos hq,show a.toNat-m=0 by omega]
  rfl
 ·rw[if_neg (by rw[if_neg (by omega),if_pos (by omega)];omega),Lt (A:=a.toNat) (B:=m) (D:=a.toNat-m) (by omega) (by omega),Aa]
  dsimp only
  rw[Th (by omega),Aa]
  dsimp only
  have e:=At0 (n:=a.toNat-m) (q:=0) (by omega) (by omega)
  rw[Nat.pow_zero,Nat.div_one,Nat.mod_eq_of_lt (by omega)] at e
  rw[e]
theorem Cj9{a b c:Int}(ha:B4 a)(hb:B4 b)(hc:B4 c):Uq (a,b,c,())=some ((((a.toNat-b.toNat*c.toNat:Nat):Int),()),(),(),(),()):=by
 unfold Uq Ai5
 dsimp only
 rw[Cd6 ha hb hc,Aa]
theorem Cfz{a b c:Int}(ha:B4 a)(hb:B4 b)(hc:B4 c):Sc (a,b,c,())=some ((((a.toNat-b.toNat*c.toNat:Nat):Int),()),(),(),(),()):=by
 unfold Sc Aep
 dsimp only
 rw[Cd6 ha hb hc,Aa]
theorem Cly{a b:Int}(ha:B4 a)(hb:B4 b):Ach (a,b,())=some (((if a+b≤18446744073709551615 then a+b else 18446744073709551615),()),(),(),()):=by
 unfold B4 at ha hb
 unfold Ach Ap3
 dsimp only
 rw[B7 ha.1 ha.2,Aa,B7 hb.1 hb.2,Aa]
 dsimp only
 have l1:=Ans (n:=a.toNat) (by omega)
 have l2:=Ans (n:=b.toNat) (by omega)
 rw[Cb (by omega) (by omega),Aa]
 dsimp only
 rw[Th (by omega),Aa]
 dsimp only
 rw[Bhe (by unfold Al;omega),Aa]
 by_cases h:a.toNat+b.toNat<18446744073709551616
 ·rw[if_pos h,if_pos (by omega)]
  dsimp only
  rw[Aq,Au,show ((a.toNat+b.toNat:Nat):Int)=a+b by omega]
 ·rw[if_neg h,if_neg (by omega)]
  dsimp only
  rw[Aq,Bp]
theorem Ca2(n:Nat):n<65536 ^ (dg n).length:=(Nat.div_eq_zero_iff_lt (Nat.pow_pos (by omega))).1 (D0.1 (Nat.le_refl _))
theorem Boq{n k:Nat}(h:n<65536 ^ k):(dg n).length≤k:=D0.2 (Nat.div_eq_of_lt h)
theorem Aoa{a b:Nat}(h:a≤b):(dg a).length≤(dg b).length:=Boq (Nat.lt_of_le_of_lt h (Ca2 b))
theorem O1(a b:Nat):(dg (a*b)).length≤(dg a).length+(dg b).length :=
 Boq (by rw[Nat.pow_add];exact Nat.mul_lt_mul'' (Ca2 a) (Ca2 b))
theorem Av6(a b:Nat):(dg (a / b)).length≤(dg a).length:=Aoa (Nat.div_le_self _ _)
theorem Aqc(a b:Nat):(dg (a+b)).length≤max (dg a).length (dg b).length+1:=by
 refine Boq ?_
 have h1:a<65536 ^ max (dg a).length (dg b).length:=Nat.lt_of_lt_of_le (Ca2 a) (Nat.pow_le_pow_right (by omega) (Nat.le_max_left _ _))
 have h2:b<65536 ^ max (dg a).length (dg b).length:=Nat.lt_of_lt_of_le (Ca2 b) (Nat.pow_le_pow_right (by omega) (Nat.le_max_right _ _))
 rw[Nat.pow_succ]
 generalize 65536 ^ max (dg a).length (dg b).length=w at *
 omega
theorem Mr{n:Nat}(h:n<18446744073709551616):(dg n).length≤4:=Boq (by rw[show (65536:Nat) ^ 4=18446744073709551616 from rfl];exact h)
theorem M4{n:Nat}(h:Al n):(dg n).length≤16:=Nr.2 h
theorem Bmb{n:Nat}(hn:Al n):List.getD (Aw n) 0 0=((n % 18446744073709551616:Nat):Int):=by
 have e:=At0 (n:=n) (q:=0) hn (by omega)
 rw[Nat.pow_zero,Nat.div_one] at e
 exact e
theorem Cja{n:Nat}(hn:Al n){b:Int}(hb:B4 b) :
  Zl (Aw n,b,())=some ((if n*b.toNat / 10000<115792089237316195423570985008687907853269984665640564039457584007913129639936 then (Aw (n*b.toNat / 10000),(0:Int),()) else ([(0:Int),0,0,0],(4:Int),())),(),(),()):=by
 unfold B4 at hb
 have l1:=M4 hn
 have l2:=Mr (n:=b.toNat) (by omega)
 have l3:=O1 n b.toNat
 have l4:=Mr (n:=10000) (by omega)
 unfold Zl Ame
 dsimp only
 rw[Bz hn,Aa,B7 hb.1 hb.2,Aa]
 dsimp only
 rw[Pd (by omega) (by omega),Aa,B7 (by omega) (by omega),Aa]
 dsimp only
 rw[show Int.toNat 10000=10000 from rfl,Awo (by omega) (by omega) (by omega),Aa]
 dsimp only
 rw[Yy,Aa]
def hb(i:Nat):Nat:=[52454210000,2622710000,262270000,39339000,7865800,1963950,586185,201665,76666,30000,10000].getD i 0
theorem Cqi:∀ {i:Nat},i≤10→hb i≤52454210000
 | 0,_|1,_|2,_|3,_|4,_|5,_|6,_|7,_|8,_|9,_|10,_=>by decide
 | n+11,h=>by omega
theorem Cml:∀ {i h x:Nat},i<10→x≤200000→h≤hb (i+1)→10000+h*x / ((i+1)*10000)≤hb i:=by
 intro i h x hi hx hh
 have hm:h*x≤hb (i+1)*200000:=Nat.mul_le_mul hh hx
 have hd:h*x / ((i+1)*10000)≤hb (i+1)*200000 / ((i+1)*10000):=Nat.div_le_div_right hm
 refine Nat.le_trans (Nat.add_le_add_left hd _) ?_
 clear hd hm hh
 match i,hi with
 | 0,_|1,_|2,_|3,_|4,_|5,_|6,_|7,_|8,_|9,_=>decide
theorem Cnt{x:Int}(h0:0≤x)(h1:x≤200000):∃ h:Nat,Agj (x,(10:Int),())=some (((h:Int),(0:Int),()),(),(),())∧10000≤h∧h≤52454210000:=by
 unfold Agj Avj
 dsimp only
 rw[Ad,if_neg (by omega),Ad,if_neg (by omega),Ad,if_neg (by omega),B7 (by omega) (by omega),Aa]
 dsimp only
 refine Cq (I:=fun y=>∃ i h:Nat,i≤10∧10000≤h∧h≤hb i∧y=(x,dg h,(i:Int),())) (m:=fun y=>y.2.2.1.toNat)
  (P:=fun r=>∃ h:Nat,r=some (((h:Int),(0:Int),()),(),(),())∧10000≤h∧h≤52454210000) ?_ ⟨10,10000,by omega,by omega,by decide,rfl⟩ (by rw[Av];simp only;omega)
 rintro y again ⟨i,h,hi,hh0,hh,rfl⟩ hag
 simp only at hag ⊢
 unfold Atc
 rw[Ad]
 have hhb:=Cqi hi
 cases i with
 | zero =>
  rw[if_neg (by omega),Th (by omega),Aa]
  dsimp only
  rw[Bmb (by unfold Al;omega),Nat.mod_eq_of_lt (by omega)]
  exact⟨h,rfl,hh0,by omega⟩
 | succ i =>
  have hs:=Cml (i:=i) (h:=h) (x:=x.toNat) (by omega) (by omega) hh
  have l1:=Mr (n:=h) (by omega)
  have l2:=Mr (n:=x.toNat) (by omega)
  have l3:=O1 h x.toNat
  have l4:=Mr (n:=i+1) (by omega)
  have l5:=Mr (n:=10000) (by omega)
  have l6:=O1 (i+1) 10000
  have l7:=Av6 (h*x.toNat) ((i+1)*10000)
  rw[if_pos (by omega),B7 h0 (by omega),Aa]
  dsimp only
  rw[Pd (by omega) (by omega),Aa]
  dsimp only
  rw[H4 (by omega) (by omega),B7 (by omega) (by omega),Aa]
  dsimp only
  rw[B7 (by omega) (by omega),Aa]
  dsimp only
  rw[show Int.toNat 10000=10000 from rfl,Int.toNat_natCast,Pd (by omega) (by omega),Aa]
  dsimp only
  rw[Awo (by omega) (by omega) (by omega),Aa,Aa]
  dsimp only
  rw[Cb (by omega) (by omega),Aa,Ar (by omega) (by omega)]
  dsimp only
  exact hag _ ⟨i,10000+h*x.toNat / ((i+1)*10000),by omega,Nat.le_add_right _ _,hs,by rw[show ((i+1:Nat):Int)-1=(i:Int) by omega]⟩ (by simp only;omega)
theorem Byc{n:Nat}(hn:n<18446744073709551616){x:Int}(h0:0≤x)(h1:x≤200000) :
  ∃ f:Nat,Qe (Aw n,x,(10:Int),())=some ((Aw f,(0:Int),()),(),(),(),())∧n≤f∧f<18446744073709551616*52454210000:=by
 obtain⟨h,e1,h2,h3⟩:=Cnt h0 h1
 have hm:n*h≤18446744073709551615*52454210000:=Nat.mul_le_mul (by omega) h3
 have hm2:n*10000≤n*h:=Nat.mul_le_mul_left _ h2
 unfold Qe Acn
 dsimp only
 rw[e1,Aa]
 dsimp only
 rw[decide_eq_true rfl,Aq,Au,Cja (by unfold Al;omega) (by unfold B4;omega),Aa,Int.toNat_natCast]
 dsimp only
 generalize n*h=z at *
 rw[if_pos (by omega)]
 exact⟨z / 10000,rfl,by omega,by omega⟩
theorem Cad{p:N6}(hp:Vd p){b:Int}(hb:B4 b) :
  (PV p→∃ x:Int,Kr (b,p,())=some ((x,(0:Int),()),(),(),())∧0≤x∧x≤200000)∧(¬ PV p→Kr (b,p,())=some (((0:Int),(15:Int),()),(),(),())):=by
 unfold Kr Z8
 dsimp only
 rw[Zf hp,Aa]
 dsimp only
 rw[Aq,Ad]
 refine⟨fun hv=>?_,fun hv=>by rw[if_neg hv]⟩
 rw[if_pos hv]
 have hbi:=hv.1.2.2
 have hsp:=hv.1.1
 cases hp with
 | mk w1 w2 w3 w4 w5 w6 w7 w8 w9 w10 w11 w12 =>
 dsimp only at hbi hsp ⊢
 rename_i sp to bi gl bb eu pi mi ma fe ic rw'
 rw[Cfz hb w1 w2,Aa]
 dsimp only
 unfold B4 at hb w1 w2
 have hx:b.toNat-sp.toNat*to.toNat<18446744073709551616:=Nat.lt_of_le_of_lt (Nat.sub_le _ _) (by omega)
 generalize b.toNat-sp.toNat*to.toNat=x at *
 have l1:=Mr hx
 have l2:=Mr (n:=10000) (by omega)
 have l3:=O1 x 10000
 have l4:=Mr (n:=bi.toNat) (by omega)
 have l5:=Mr (n:=sp.toNat) (by omega)
 have l6:=O1 bi.toNat sp.toNat
 have l7:=Av6 (x*10000) (bi.toNat*sp.toNat)
 have l8:=Mr (n:=200000) (by omega)
 have hpos:0<bi.toNat*sp.toNat:=Nat.mul_pos (by omega) (by omega)
 rw[B7 (by omega) (by omega),Aa,Int.toNat_natCast]
 dsimp only
 rw[B7 (by omega) (by omega),Aa,show Int.toNat 10000=10000 from rfl]
 dsimp only
 rw[Pd (by omega) (by omega),Aa]
 dsimp only
 rw[B7 (by omega) (by omega),Aa,B7 (by omega) (by omega),Aa]
 dsimp only
 rw[Pd (by omega) (by omega),Aa]
 dsimp only
 rw[Awo (by omega) (by omega) hpos,Aa]
 dsimp only
 rw[B7 (by omega) (by omega),Aa,show Int.toNat 200000=200000 from rfl]
 dsimp only
 rw[Bht (by omega) (by omega),Aa]
 dsimp only
 have hle:min (x*10000 / (bi.toNat*sp.toNat)) 200000≤200000:=Nat.min_le_right _ _
 generalize min (x*10000 / (bi.toNat*sp.toNat)) 200000=z at *
 rw[Th (by omega),Aa]
 dsimp only
 rw[Bmb (by unfold Al;omega),Nat.mod_eq_of_lt (by omega)]
 exact⟨_,rfl,by omega,by omega⟩
theorem Cj0{p:N6}(hp:Vd p){b:Int}(hb:B4 b) :
  (PV p→∃ f:Nat,Nd (b,p,())=some ((Aw f,(0:Int),()),(),(),())∧1≤f∧f<18446744073709551616*52454210000) ∧
  (¬ PV p→Nd (b,p,())=some (([(0:Int),0,0,0],(15:Int),()),(),(),())):=by
 obtain⟨e1,e2⟩:=Cad hp hb
 unfold Nd Aqo
 dsimp only
 refine⟨fun hv=>?_,fun hv=>?_⟩
 ·obtain⟨x,e,h0,h1⟩:=e1 hv
  have hm:=hv.2.1
  rw[e,Aa]
  dsimp only
  rw[decide_eq_true rfl,Aq,Au]
  cases hp with
  | mk w1 w2 w3 w4 w5 w6 w7 w8 w9 w10 w11 w12 =>
  dsimp only at hm ⊢
  rename_i fe ic rw'
  rw[Bk] at hm
  obtain⟨f,e3,f1,f2⟩:=Byc hm.1 h0 h1
  rw[e3,Aa]
  exact⟨f,rfl,by omega,f2⟩
 ·rw[e2 hv,Aa]
  dsimp only
  rw[decide_eq_false (by omega),Aq,Bp]
theorem Ku(x:Int):B4 (IntKind.wrap .u64 x):=by unfold B4;rw[IntKind.wrap_u64];omega
abbrev Aob:=Int×(Int×Int×List Int×Unit)
inductive Bcn:Aob→Prop
 | mk {n t g:Int} {f:Nat} (h1:B4 n) (h2:B4 t) (h3:B4 g) (h4:Al f):Bcn (n,t,g,Aw f,())
inductive Bq8:Aob→Prop
 | mk {n t g:Int} {f:Nat} (h1:B4 n) (h2:B4 t) (h3:B4 g) (h4:f<340282366920938463463374607431768211456):Bq8 (n,t,g,Aw f,())
theorem Bq8.w{b:Aob}(h:Bq8 b):Bcn b:=by
 cases h with
 | mk h1 h2 h3 h4=>exact .mk h1 h2 h3 (by unfold Al;omega)
abbrev z4:List Int:=[(0:Int),0,0,0]
abbrev Cnq:Aob:=((0:Int),(0:Int),(0:Int),z4,())
theorem Crm:Bcn Cnq:=Bcn.mk (f:=0) ⟨by omega,by omega⟩ ⟨by omega,by omega⟩ ⟨by omega,by omega⟩ (by unfold Al;omega)
theorem Bzl{p:N6}(hp:Vd p)(hv:PV p):∃ f:Nat,P5 (p,())=some ((((1:Int),(0:Int),(0:Int),Aw f,()),(0:Int),()),(),())∧1≤f∧f<340282366920938463463374607431768211456:=by
 obtain⟨f,e,h1,h2⟩:=(Cj0 hp (b:=0) ⟨by omega,by omega⟩).1 hv
 unfold P5 Acz
 dsimp only
 rw[e,Aa]
 dsimp only
 rw[decide_eq_true rfl,Aq,Au]
 exact⟨f,rfl,h1,by omega⟩
theorem Chn{b:Aob}(hb:Bcn b){s g:Int}(hs:B4 s)(hg:B4 g){p:N6}(hp:Vd p) :
  ∃ (k:Aob) (c:Int),Zm (b,s,g,p,())=some ((k,c,()),(),(),(),(),())∧Bcn k∧I64 c∧(c=0→0<Dw k.2.2.2.1∧b.2.1≤k.2.1∧Bq8 k):=by
 obtain⟨e1,e2⟩:=Cj0 hp hg
 unfold Zm Ami
 simp only[Am]
 have z:∀ c:Int,I64 c→c≠0→∃ (k:Aob) (c':Int),some (((Cnq,c,()),(),(),(),(),()))=some (((k,c',()),(),(),(),(),()))∧Bcn k∧I64 c'∧(c'=0→0<Dw k.2.2.2.1∧b.2.1≤k.2.1∧Bq8 k) :=
  fun c h1 h2=>⟨Cnq,c,rfl,Crm,h1,fun h=>absurd h h2⟩
 rw[Ad]
 by_cases c1:s<1
 ·rw[if_pos c1];exact z 2 ⟨by omega,by omega⟩ (by omega)
 rw[if_neg c1,Ad]
 by_cases c2:s>1048576
 ·rw[if_pos c2];exact z 2 ⟨by omega,by omega⟩ (by omega)
 rw[if_neg c2]
 by_cases hv:PV p
 ·obtain⟨f,e,h1,h2⟩:=e1 hv
  rw[e,Aa]
  dsimp only
  rw[decide_eq_true rfl,Aq,Au,Ad]
  cases hb with
  | mk k1 k2 k3 k4 =>
  rename_i n t gu f'
  dsimp only
  by_cases c3:IntKind.wrap .u64 (n+1)=0
  ·rw[if_pos c3];exact z 4 ⟨by omega,by omega⟩ (by omega)
  rw[if_neg c3,Ad]
  by_cases c4:IntKind.wrap .u64 (t+s)<t
  ·rw[if_pos c4];exact z 4 ⟨by omega,by omega⟩ (by omega)
  rw[if_neg c4]
  refine⟨_,_,rfl,Bcn.mk (Ku _) (Ku _) ⟨by omega,by omega⟩ (by unfold Al;omega),⟨by omega,by omega⟩,fun _=>⟨?_,?_,Bq8.mk (Ku _) (Ku _) ⟨by omega,by omega⟩ (by omega)⟩⟩
  ·dsimp only;rw[Bk];omega
  ·dsimp only;omega
 ·rw[e2 hv,Aa]
  dsimp only
  rw[decide_eq_false (by omega),Aq,Bp]
  exact z 15 ⟨by omega,by omega⟩ (by omega)
theorem Cfg{b:Aob}(hb:Bcn b){p:N6}(hp:Vd p):∃ r:Int,Jt (b,p,())=some ((r,()),(),(),())∧B4 r∧(r=0∨b.2.2.1+r=p.2.2.2.2.1):=by
 unfold Jt Qj
 dsimp only
 cases hb with
 | mk k1 k2 k3 k4 =>
 cases hp with
 | mk w1 w2 w3 w4 w5 w6 w7 w8 w9 w10 w11 w12 =>
 rename_i n t gu f' sp to bi gl bb eu pi mi ma fe ic rw'
 dsimp only
 unfold B4 at k3 w5
 rw[Ad]
 by_cases c:gu>gl
 ·rw[if_pos c];exact⟨0,rfl,⟨by omega,by omega⟩,.inl rfl⟩
 ·rw[if_neg c,H4 (by omega) (by omega)]
  exact⟨_,rfl,⟨by omega,by omega⟩,.inr (by omega)⟩
theorem Ca7{u l t n:Int}(hu:B4 u)(hl:B4 l)(ht:B4 t)(hn:B4 n) :
  ∃ r c:Int,Nz (u,l,t,n,())=some ((r,c,()),(),(),(),(),())∧B4 r∧I64 c∧(c=0→l≤t∧t≤n∧r≤u):=by
 unfold B4 at hu hl ht hn
 unfold Nz Aac
 dsimp only
 rw[Ad]
 by_cases c1:l>t
 ·rw[if_pos c1];exact⟨0,14,rfl,⟨by omega,by omega⟩,⟨by omega,by omega⟩,fun h=>by omega⟩
 rw[if_neg c1,Ad]
 by_cases c2:t>n
 ·rw[if_pos c2];exact⟨0,14,rfl,⟨by omega,by omega⟩,⟨by omega,by omega⟩,fun h=>by omega⟩
 rw[if_neg c2,Ad]
 by_cases c3:n=l
 ·rw[if_pos c3];exact⟨u,0,rfl,hu,⟨by omega,by omega⟩,fun h=>⟨by omega,by omega,by omega⟩⟩
 have l1:=Mr (n:=u.toNat) (by omega)
 have l2:=Mr (n:=(t-l).toNat) (by omega)
 have l3:=O1 u.toNat (t-l).toNat
 have l4:=Mr (n:=(n-l).toNat) (by omega)
 have hm:u.toNat*(t-l).toNat≤u.toNat*(n-l).toNat:=Nat.mul_le_mul_left _ (by omega)
 have hq:u.toNat*(t-l).toNat / (n-l).toNat≤u.toNat:=Nat.div_le_of_le_mul (by rw[Nat.mul_comm (n-l).toNat];exact hm)
 rw[if_neg c3,B7 (by omega) (by omega),Aa,H4 (by omega) (by omega),B7 (by omega) (by omega),Aa]
 dsimp only
 rw[Pd (by omega) (by omega),Aa,H4 (by omega) (by omega),B7 (by omega) (by omega),Aa]
 dsimp only
 rw[Awo (by omega) (by omega) (by omega),Aa]
 dsimp only
 generalize u.toNat*(t-l).toNat / (n-l).toNat=q at *
 rw[Th (by omega),Aa]
 dsimp only
 rw[Bmb (by unfold Al;omega),Nat.mod_eq_of_lt (by omega)]
 exact⟨_,0,rfl,⟨by omega,by omega⟩,⟨by omega,by omega⟩,fun h=>⟨by omega,by omega,by omega⟩⟩
abbrev Axu:=Bool×(List Int×Unit)
def sgn(g:Bool)(n:Nat):Axu:=(g&&decide (0<n),dg n,())
theorem Acs(g:Bool)(n:Nat):Dz (g,dg n,())=some ((sgn g n,()),(),(),()):=by
 unfold Dz Aqz
 dsimp only
 cases g with
 | false=>rfl
 | true =>
  have:decide ((((List.length (dg n)):Nat):Int)>(0:Int))=decide (0<n):=by
   rw[decide_eq_decide]
   have:=Ah4 0 n
   rw[Nat.pow_zero,Nat.div_one] at this
   omega
  rw[Au,this]
  rfl
inductive Awn:Axu→Prop
 | mk {g:Bool} {n:Nat} (h:Al n):Awn (g,Aw n,())
theorem Bn4(g:Bool){n:Nat}(hn:Al n):Hm ((g,Aw n,()),())=some ((sgn g n,()),(),()):=by
 unfold Hm Wz
 dsimp only
 rw[Bz hn,Aa]
 dsimp only
 rw[Acs,Aa]
theorem Bh4(g:Bool)(n:Nat):Vk ((g,dg n,()),())=some ((sgn (!g) n,()),(),()):=by
 unfold Vk Aip
 dsimp only
 rw[Acs,Aa]
theorem Am5(g:Bool)(n:Nat):Ek ((g,Aw n,()),())=some ((!(g&&decide (n=0)),()),(),()):=by
 unfold Ek Amr
 dsimp only
 cases g with
 | false=>rfl
 | true =>
  rw[Au,Nh,Aa]
  rfl
theorem Blx(g h:Bool){a b:Nat}(ha:(dg a).length≤900)(hb:(dg b).length≤900):∃ (k:Bool) (n:Nat),Mv ((g,dg a,()),(h,dg b,()),())=some ((sgn k n,()),(),(),())∧n≤a+b ∧
  (g=false→h=true→n=(if b≤a then a-b else b-a)∧k=decide (a<b)):=by
 unfold Mv Awe
 dsimp only
 have hq:eqD .bool g h=(g == h):=rfl
 rw[hq]
 cases hgh:(g == h) with
 | true =>
  rw[Au,Cb (by omega) (by omega),Aa]
  dsimp only
  rw[Acs,Aa]
  exact⟨g,a+b,rfl,Nat.le_refl _,fun h1 h2=>by subst h1 h2;cases hgh⟩
 | false =>
  rw[Bp,Ak0 (by omega) (by omega),Aa]
  dsimp only
  unfold Abs
  rw[Ad]
  by_cases c:b≤a
  ·have hc:(if a<b then (-1:Int) else if a>b then 1 else 0)≥0:=by
    rw[if_neg (by omega)];split<;>omega
   rw[if_pos hc,Lt (A:=a) (B:=b) (D:=a-b) (by omega) (by omega),Aa]
   dsimp only
   rw[Acs,Aa]
   refine⟨g,a-b,rfl,by omega,fun h1 h2=>⟨by rw[if_pos c],?_⟩⟩
   rw[h1,decide_eq_false (by omega)]
  ·rw[if_neg (by rw[if_pos (by omega)];omega),Lt (A:=b) (B:=a) (D:=b-a) (by omega) (by omega),Aa]
   dsimp only
   rw[Acs,Aa]
   refine⟨h,b-a,rfl,by omega,fun h1 h2=>⟨by rw[if_neg c],?_⟩⟩
   rw[h2,decide_eq_true (by omega)]
theorem Cl6(g h:Bool){a b:Nat}(ha:(dg a).length≤900)(hb:(dg b).length≤900):∃ k:Bool,Aeq ((g,dg a,()),(h,dg b,()),())=some ((sgn k (a*b),()),(),(),()):=by
 unfold Aeq Au5
 dsimp only
 rw[Pd (by omega) (by omega),Aa]
 dsimp only
 rw[Acs,Aa]
 exact⟨_,rfl⟩
theorem Bwe(g:Bool){a b:Nat}(ha:(dg a).length≤900)(hb:(dg b).length≤900)(h0:0<b):∃ (k:Bool) (n:Nat),Pq ((g,dg a,()),dg b,())=some ((sgn k n,()),(),(),())∧n≤a+1:=by
 unfold Pq Ac7
 dsimp only
 have l:=Av6 a b
 have hd:=Nat.div_le_self a b
 rw[Awo (by omega) (by omega) h0,Aa]
 dsimp only
 generalize a / b=q at *
 cases g with
 | false =>
  rw[Bp,Acs,Aa]
  exact⟨_,_,rfl,by omega⟩
 | true =>
  rw[Au,Ad]
  by_cases c:(((List.length (dg (a % b))):Nat):Int)>0
  ·have l1:=Mr (n:=1) (by omega)
   rw[if_pos c,B7 (by omega) (by omega),Aa,show Int.toNat 1=1 from rfl]
   dsimp only
   rw[Cb (by omega) (by omega),Aa]
   dsimp only
   rw[Acs,Aa]
   exact⟨_,_,rfl,by omega⟩
  ·rw[if_neg c,Acs,Aa]
   exact⟨_,_,rfl,by omega⟩
theorem Bj1(g:Bool)(n:Nat):∃ (r:Axu) (c:Int),K0 (sgn g n,())=some ((r,c,()),(),())∧Awn r∧I64 c∧(r.1&&decide (Dw r.2.1=0))=false∧(Al n→r=((sgn g n).1,Aw n,())):=by
 unfold K0 Aft sgn
 dsimp only
 rw[Yy,Aa]
 by_cases c:n<115792089237316195423570985008687907853269984665640564039457584007913129639936
 ·rw[if_pos c]
  dsimp only
  rw[decide_eq_true rfl,Aq,Au]
  refine⟨_,_,rfl,Awn.mk c,⟨by omega,by omega⟩,?_,fun _=>rfl⟩
  dsimp only
  rw[Bk]
  by_cases hn:n=0
  ·subst hn;simp
  ·simp[hn]
 ·rw[if_neg c]
  dsimp only
  rw[decide_eq_false (by omega),Aq,Bp]
  exact⟨_,_,rfl,Awn.mk (n:=0) (by unfold Al;omega),⟨by omega,by omega⟩,rfl,fun h=>absurd h c⟩
theorem Cmc{a b:Nat}(ha:Al a)(hb:Al b):∃ r:Axu,Acd (Aw a,Aw b,())=some ((r,()),(),(),())∧Awn r∧(r.1&&decide (Dw r.2.1=0))=false:=by
 unfold Acd Aqh
 dsimp only
 have l1:=M4 ha
 have l2:=M4 hb
 rw[Bz ha,Aa]
 dsimp only
 rw[Acs,Aa,Bz hb,Aa]
 dsimp only
 rw[Acs,Aa]
 dsimp only
 obtain⟨k,n,e,h1,h2⟩:=Blx (false&&decide (0<a)) (true&&decide (0<b)) (a:=a) (b:=b) (by omega) (by omega)
 unfold sgn at e ⊢
 rw[e,Aa]
 dsimp only
 obtain⟨r,c,e2,h3,h4,h5,_⟩:=Bj1 k n
 unfold sgn at e2
 rw[e2,Aa]
 exact⟨r,rfl,h3,h5⟩
theorem Brk{a:Nat}(ha:Al a){s:Axu}(hs:Awn s):∃ (n:Nat) (c:Int),Mo (Aw a,s,())=some ((Aw n,c,()),(),(),())∧Al n∧I64 c:=by
 cases hs with
 | mk hb =>
 rename_i g b
 unfold Mo Xk
 dsimp only
 have l1:=M4 ha
 have l2:=M4 hb
 rw[Am5,Aa]
 dsimp only
 cases hv:(g&&decide (b=0)) with
 | true=>exact⟨0,2,rfl,by unfold Al;omega,⟨by omega,by omega⟩⟩
 | false =>
  rw[Bool.not_false,Bool.not_true,Bp,Bz ha,Aa]
  dsimp only
  rw[Acs,Aa,Bn4 g hb,Aa]
  dsimp only
  obtain⟨k,n,e,h1,h2⟩:=Blx (false&&decide (0<a)) (g&&decide (0<b)) (a:=a) (b:=b) (by omega) (by omega)
  unfold sgn at e ⊢
  rw[e,Aa]
  dsimp only
  cases hk:(k&&decide (0<n)) with
  | true=>exact⟨0,0,rfl,by unfold Al;omega,⟨by omega,by omega⟩⟩
  | false =>
   rw[Bp,Yy,Aa]
   by_cases c:n<115792089237316195423570985008687907853269984665640564039457584007913129639936
   ·rw[if_pos c];exact⟨n,0,rfl,c,⟨by omega,by omega⟩⟩
   ·rw[if_neg c];exact⟨0,4,rfl,by unfold Al;omega,⟨by omega,by omega⟩⟩
theorem Cj2{s1 s2:Axu}(h1:Awn s1)(h2:Awn s2){u:Int}(hu:B4 u){p:N6}(hp:Vd p) :
  ∃ (r:Axu) (c:Int),Ve (s1,s2,u,p,())=some ((r,c,()),(),(),(),(),())∧Awn r∧I64 c:=by
 have z:∀ c:Int,I64 c→∃ (r:Axu) (c':Int),some (((false,z4,()),c,()),(),(),(),(),())=some ((r,c',()),(),(),(),(),())∧Awn r∧I64 c' :=
  fun c hc=>⟨_,_,rfl,Awn.mk (n:=0) (by unfold Al;omega),hc⟩
 unfold Ve Ain
 dsimp only
 rw[Zf hp,Aa]
 dsimp only
 rw[Aq,Ad]
 by_cases hv:PV p
 case neg=>rw[if_neg hv];exact z 15 ⟨by omega,by omega⟩
 rw[if_pos hv]
 have heu:=hv.2.2.2.2.2.2.1
 have hpi:=hv.2.2.2.2.2.2.2.1
 cases h1 with
 | mk b1 =>
 cases h2 with
 | mk b2 =>
 cases hp with
 | mk w1 w2 w3 w4 w5 w6 w7 w8 w9 w10 w11 w12 =>
 rename_i g1 n1 g2 n2 sp to bi gl bb eu pi mi ma fe ic rw'
 dsimp only at heu hpi ⊢
 clear hv w1 w2 w3 w4 w5 w6 w7 w8 w11 w12
 unfold B4 at hu w9 w10
 rw[Am5,Aa]
 dsimp only
 cases hg1:(g1&&decide (n1=0)) with
 | true=>exact z 2 ⟨by omega,by omega⟩
 | false =>
 rw[Bool.not_false,Bool.not_true,Bp,Am5,Aa]
 dsimp only
 cases hg2:(g2&&decide (n2=0)) with
 | true=>exact z 2 ⟨by omega,by omega⟩
 | false =>
 rw[Bool.not_false,Bool.not_true,Bp,Ad]
 by_cases hu0:u=0
 ·rw[if_pos hu0];exact z 2 ⟨by omega,by omega⟩
 have l1:=M4 b1
 have l2:=M4 b2
 have leu:=Mr (n:=eu.toNat) (by omega)
 have lpi:=Mr (n:=pi.toNat) (by omega)
 have lu:=Mr (n:=u.toNat) (by omega)
 have lone:=Mr (n:=1) (by omega)
 rw[if_neg hu0,Bn4 g1 b1,Aa]
 dsimp only[sgn]
 rw[Bh4,Aa,B7 (by omega) (by omega),Aa]
 dsimp only[sgn]
 obtain⟨k3,n3,e3,d3⟩:=Bwe (!(g1&&decide (0<n1))&&decide (0<n1)) (a:=n1) (b:=eu.toNat) (by omega) (by omega) (by omega)
 have l3:=Nat.le_trans (Aoa d3) (Aqc n1 1)
 rw[e3,Aa,Aa,Bn4 g2 b2,Aa]
 dsimp only[sgn]
 rw[Bh4,Aa]
 dsimp only[sgn]
 obtain⟨k4,n4,e4,d4,_⟩:=Blx (g1&&decide (0<n1)) (!(g2&&decide (0<n2))&&decide (0<n2)) (a:=n1) (b:=n2) (by omega) (by omega)
 have l4:=Nat.le_trans (Aoa d4) (Aqc n1 n2)
 rw[e4,Aa,B7 (by omega) (by omega),Aa]
 dsimp only[sgn]
 obtain⟨k5,n5,e5,d5⟩:=Bwe (k4&&decide (0<n4)) (a:=n4) (b:=u.toNat) (by omega) (by omega) (by omega)
 have l5:=Nat.le_trans (Aoa d5) (Aqc n4 1)
 rw[e5,Aa]
 dsimp only[sgn]
 rw[Bh4,Aa]
 dsimp only[sgn]
 obtain⟨k6,n6,e6,d6,_⟩:=Blx (k3&&decide (0<n3)) (!(k5&&decide (0<n5))&&decide (0<n5)) (a:=n3) (b:=n5) (by omega) (by omega)
 have l6:=Nat.le_trans (Aoa d6) (Aqc n3 n5)
 rw[e6,Aa,Aa]
 dsimp only[sgn]
 obtain⟨k7,e7⟩:=Cl6 (k6&&decide (0<n6)) false (a:=n6) (b:=u.toNat) (by omega) (by omega)
 have l7:=O1 n6 u.toNat
 rw[e7,Aa]
 dsimp only[sgn]
 rw[O3,Aa]
 dsimp only
 rw[Aq,Ad]
 by_cases c1:n4<115792089237316195423570985008687907853269984665640564039457584007913129639936
 case neg=>rw[if_neg c1];exact z 4 ⟨by omega,by omega⟩
 rw[if_pos c1,O3,Aa]
 dsimp only
 rw[Aq,Ad]
 by_cases c2:n6<115792089237316195423570985008687907853269984665640564039457584007913129639936
 case neg=>rw[if_neg c2];exact z 4 ⟨by omega,by omega⟩
 rw[if_pos c2,O3,Aa]
 dsimp only
 rw[Aq,Ad]
 by_cases c3:n6*u.toNat<115792089237316195423570985008687907853269984665640564039457584007913129639936
 case neg=>rw[if_neg c3];exact z 4 ⟨by omega,by omega⟩
 have ld:=Av6 eu.toNat pi.toNat
 have la:=Aqc (eu.toNat / pi.toNat) u.toNat
 rw[if_pos c3,Aa,B7 (by omega) (by omega),Aa]
 dsimp only
 rw[Awo (by omega) (by omega) (by omega),Aa,Aa]
 dsimp only
 rw[Cb (by omega) (by omega),Aa]
 dsimp only
 obtain⟨k8,n8,e8,d8⟩:=Bwe (k7&&decide (0<n6*u.toNat)) (a:=n6*u.toNat) (b:=eu.toNat / pi.toNat+u.toNat) (by omega) (by omega) (Nat.lt_of_lt_of_le (by omega) (Nat.le_add_left _ _))
 rw[e8,Aa]
 dsimp only
 obtain⟨r,c,e9,h3,h4,h5,_⟩:=Bj1 k8 n8
 rw[e9,Aa]
 exact⟨r,c,rfl,h3,h4⟩
theorem Ci4{a:Nat}(ha:Al a){s1 s2:Axu}(h1:Awn s1)(h2:Awn s2){u:Int}(hu:B4 u){p:N6}(hp:Vd p) :
  ∃ (n:Nat) (c:Int),Ya (Aw a,s1,s2,u,p,())=some ((Aw n,c,()),(),(),(),(),(),())∧Al n∧I64 c:=by
 have z:∀ c:Int,I64 c→∃ (n:Nat) (c':Int),some ((z4,c,()),(),(),(),(),(),())=some ((Aw n,c',()),(),(),(),(),(),())∧Al n∧I64 c' :=
  fun c hc=>⟨0,_,rfl,by unfold Al;omega,hc⟩
 obtain⟨r,c,e,hr,hc⟩:=Cj2 h1 h2 hu hp
 unfold Ya Amu
 dsimp only
 rw[Zf hp,Aa]
 dsimp only
 rw[Aq,Ad]
 by_cases hv:PV p
 case neg=>rw[if_neg hv];exact z 15 ⟨by omega,by omega⟩
 rw[if_pos hv]
 have v1:∃ b,Ek (s1,())=some ((b,()),(),()):=by cases h1;exact⟨_,Am5 _ _⟩
 have v2:∃ b,Ek (s2,())=some ((b,()),(),()):=by cases h2;exact⟨_,Am5 _ _⟩
 obtain⟨b1,v1⟩:=v1
 obtain⟨b2,v2⟩:=v2
 rw[v1,Aa]
 dsimp only
 cases b1 with
 | false=>exact z 2 ⟨by omega,by omega⟩
 | true =>
 rw[Bool.not_true,Bp,v2,Aa]
 dsimp only
 cases b2 with
 | false=>exact z 2 ⟨by omega,by omega⟩
 | true =>
 rw[Bool.not_true,Bp,Ad]
 by_cases hu0:u=0
 ·rw[if_pos hu0];exact⟨a,0,rfl,ha,⟨by omega,by omega⟩⟩
 rw[if_neg hu0,e,Aa]
 dsimp only
 rw[Aq,Ad]
 by_cases hc0:c=0
 ·obtain⟨n,c',e2,hn,hc'⟩:=Brk ha hr
  rw[if_pos hc0,e2,Aa]
  exact⟨n,c',rfl,hn,hc'⟩
 ·rw[if_neg hc0];exact z c hc
abbrev At:=Int×(List Int×List Int×List Int×List Int×Int×Unit)
abbrev Ax:At:=((0:Int),[(0:Int),0,0,0],[(0:Int),0,0,0],[(0:Int),0,0,0],[(0:Int),0,0,0],(0:Int),())
abbrev Bo9(a:Int):At:=(a,[(0:Int),0,0,0],[(0:Int),0,0,0],[(0:Int),0,0,0],[(0:Int),0,0,0],(0:Int),())
theorem Ayr:(Ty.zero (.pair (.int .u64) (.pair (.arr 4 (.int .u64)) (.pair (.arr 4 (.int .u64)) (.pair (.arr 4 (.int .u64)) (.pair (.arr 4 (.int .u64)) (.pair (.int .u64) .unit)))))):At)=Ax:=rfl
inductive Mt:At→Prop
 | mk {a:Int} {d c r p:Nat} {s:Int} (ha:B4 a) (hd:Al d) (hc:Al c) (hr:Al r) (hp:Al p) (hs:B4 s):Mt (a,Aw d,Aw c,Aw r,Aw p,s,())
def Adi(l:List At):Prop:=∀ p∈l,Mt p
theorem Ch5:Mt Ax:=by
 have:=Mt.mk (a:=0) (d:=0) (c:=0) (r:=0) (p:=0) (s:=0) (by unfold B4;omega) (by unfold Al;omega) (by unfold Al;omega) (by unfold Al;omega) (by unfold Al;omega) (by unfold B4;omega)
 exact this
theorem Cqa{a:Int}(h:B4 a):Mt (Bo9 a):=by
 have:=Mt.mk (a:=a) (d:=0) (c:=0) (r:=0) (p:=0) (s:=0) h (by unfold Al;omega) (by unfold Al;omega) (by unfold Al;omega) (by unfold Al;omega) (by unfold B4;omega)
 exact this
theorem Adi.at{l:List At}(h:Adi l)(i:Nat):Mt (l.getD i Ax):=by
 rcases Nat.lt_or_ge i l.length with hi|hi
 ·exact h _ (Bt hi)
 ·rw[List.getD_eq_getElem?_getD,List.getElem?_eq_none hi];exact Ch5
def Atd(p:At):Bool:=decide (p.1≠0)&&(decide (Dw p.2.1+Dw p.2.2.2.2.1=Dw p.2.2.1+Dw p.2.2.2.1)&&decide ((p.2.2.2.2.2.1=0)↔(Dw p.2.1=0)))
def Brt(l:List At)(i:Nat):Prop:=Atd (l.getD i Ax)=true∧(0<i→(l.getD (i-1) Ax).1<(l.getD i Ax).1)
def Ahd(l:List At):Prop:=l.length≤64∧∀ i,i<l.length→Brt l i
open Classical in
def Jc(l:List At):Bool:=decide (Ahd l)
theorem Q7{l:List At}:Jc l=true↔Ahd l:=by unfold Jc;simp only[decide_eq_true_eq]
theorem Ah0{l:List At}(h:¬ Ahd l):Jc l=false:=by unfold Jc;simp only[decide_eq_false_iff_not];exact h
theorem Azc{a:Int}{d c r p:Nat}{s:Int}:Atd (a,Aw d,Aw c,Aw r,Aw p,s,())=(decide (a≠0)&&(decide (d+p=c+r)&&decide ((s=0)↔(d=0)))):=by
 unfold Atd
 simp only[Bk]
theorem Acr(n:Nat):Jb (Aw n,())=some ((decide (n=0),()),(),()):=by
 unfold Jb Ac4
 rw[← Brl,Aim]
theorem Cdc{p q:Prop}[Decidable p][Decidable q]:eqD .bool (decide p) (decide q)=decide (p↔q):=by
 rw[Bool.eq_iff_iff,Aco]
 by_cases hp:p<;>by_cases hq:q<;>simp[hp,hq]
theorem Ao7{l:List At}(ha:Adi l)(hl:l.length≤1000000):Kt (l,())=some ((Jc l,()),(),()):=by
 unfold Kt Afo
 refine Ak (I:=fun x=>∃ i:Nat,i≤l.length∧(∀ j,j<i→Brt l j)∧x=(l,l,(l.length:Int),(i:Int),())) (m:=fun x=>((l.length:Int)-x.2.2.2.1).toNat)
  (g:=fun _=>some ((Jc l,()),(),())) ?_ ⟨0,by omega,fun j hj=>by omega,rfl⟩ (by rw[Av];simp only;omega)
 rintro x again ⟨i,hi,hok,rfl⟩ hag
 simp only at hag ⊢
 unfold Aki
 rw[Ayr]
 simp only[Am]
 by_cases h1:(i:Int)<(l.length:Int)
 ·have hil:i<l.length:=by omega
  have ii:(0:Int)≤(i:Int)∧(i:Int)<(l.length:Int):=by omega
  have bad:¬ Brt l i→Jc l=false:=fun h=>Ah0 fun hv=>h (hv.2 i hil)
  have hnx:Brt l i→again (l,l,(l.length:Int),(i:Int)+1,())=some ((Jc l,()),(),()):=fun h =>
   hag _ ⟨i+1,by omega,fun j hj=>by
    by_cases e:j=i
    ·rw[e];exact h
    ·exact hok j (by omega),by rw[Int.natCast_add];rfl⟩ (by simp only;omega)
  clear hag
  have hp:=ha.at i
  have hwi:IntKind.wrap .i64 ((i:Int)+1)=(i:Int)+1:=Ar (by omega) (by omega)
  have hwj:IntKind.wrap .i64 ((i:Int)-1)=(i:Int)-1:=Ar (by omega) (by omega)
  have htj:((i:Int)-1).toNat=i-1:=by omega
  unfold Brt at bad hnx
  rw[hwi,hwj,htj,Int.toNat_natCast]
  generalize l.getD i Ax=p at hp bad hnx ⊢
  generalize l.getD (i-1) Ax=q at bad hnx ⊢
  obtain⟨h2,hd,hc,hr,hpd,hs⟩:=hp
  rename_i a d c r pd s
  rw[Azc] at bad hnx
  simp only at bad hnx ⊢
  simp only[Ad,Ao,Aq,if_pos h1,if_pos ii]
  unfold Al at hd hc hr hpd
  rw[Cdz hd hpd,Cdz hc hr,Acr]
  simp only[Aa]
  rw[Cdc,Ad]
  have e5:eqD (.arr 5 (.int .u64)) (Ad1 5 5 (d+pd)) (Ad1 5 5 (c+r))=decide (d+pd=c+r):=by
   rw[Bool.eq_iff_iff,Aco,decide_eq_true_eq]
   exact Cct (by omega) (by omega)
  rw[e5,Ad]
  by_cases ca:a=0
  ·rw[if_pos ca,bad (by simp[ca])]
  rw[if_neg ca]
  have tail:(0<i→q.1<a)→(if d+pd=c+r then (if (s=0↔d=0) then again (l,l,(l.length:Int),(i:Int)+1,()) else some ((false,()),(),())) else some ((false,()),(),()))=some ((Jc l,()),(),()):=fun hq=>by
   by_cases c1:d+pd=c+r
   ·rw[if_pos c1]
    by_cases c2:(s=0↔d=0)
    ·rw[if_pos c2]
     exact hnx ⟨by simp[ca,c1,c2],hq⟩
    ·rw[if_neg c2,bad (by simp[c2])]
   ·rw[if_neg c1,bad (by simp[c1])]
  by_cases c3:(i:Int)>0
  ·have ij:(0:Int)≤(i:Int)-1∧(i:Int)-1<(l.length:Int):=by omega
   rw[if_pos c3,if_pos ij]
   by_cases c4:a≤q.1
   ·rw[if_pos c4,bad (fun h=>by have:=h.2 (by omega);omega)]
   ·rw[if_neg c4]
    exact tail fun _=>by omega
  ·rw[if_neg c3]
   exact tail fun h=>by omega
 ·have hie:i=l.length:=by omega
  rw[decide_eq_false h1,Bp]
  by_cases h64:(l.length:Int)≤64
  ·rw[decide_eq_true h64,Q7.2 ⟨by omega,fun j hj=>hok j (by omega)⟩]
  ·rw[decide_eq_false h64,Ah0 fun h=>by have:=h.1;omega]
theorem Bn0{p:At}(hp:Mt p):Km (p,())=some ((Atd p,()),(),()):=by
 obtain⟨h2,hd,hc,hr,hpd,hs⟩:=hp
 rename_i a d c r pd s
 rw[Azc]
 unfold Al at hd hc hr hpd
 have ld:=Nr.2 hd;have lc:=Nr.2 hc;have lr:=Nr.2 hr;have lp:=Nr.2 hpd
 unfold Km Rf
 simp only
 rw[Bz hd,Bz hpd];simp only[Aa]
 rw[Cb (by omega) (by omega)];simp only[Aa]
 rw[Bz hc,Bz hr];simp only[Aa]
 rw[Cb (by omega) (by omega)];simp only[Aa]
 have l17:∀ x y:Nat,x<115792089237316195423570985008687907853269984665640564039457584007913129639936→y<115792089237316195423570985008687907853269984665640564039457584007913129639936→(dg (x+y)).length≤17:=fun x y hx hy =>
  D0.2 (Nat.div_eq_of_lt (by rw[show (65536:Nat) ^ 17=7588550360256754183279148073529370729071901715047420004889892225542594864082845696 from by decide];omega))
 have q1:=l17 d pd hd hpd;have q2:=l17 c r hc hr
 rw[Ak0 (by omega) (by omega),Nh]
 simp only[Aa,Aq,Ad]
 rw[Cdc]
 unfold Abs
 by_cases ca:a=0
 ·rw[if_pos ca];simp[ca]
 rw[if_neg ca]
 by_cases c1:d+pd=c+r
 ·rw[if_pos (by rw[if_neg (by omega),if_neg (by omega)])]
  simp[ca,c1]
 ·have hcn:¬ ((if d+pd<c+r then (-1:Int) else if c+r<d+pd then 1 else 0)=0):=by
   by_cases c2:d+pd<c+r
   ·rw[if_pos c2];decide
   ·rw[if_neg c2,if_pos (by omega)];decide
  rw[if_neg hcn]
  simp[c1]
theorem L5{l:List At}(ha:Adi l)(hl:l.length≤1000000):Dl (l,())=some ((Jc l,()),(),()):=by
 unfold Dl Aig
 simp only[Ad]
 by_cases h64:(l.length:Int)>64
 ·rw[if_pos h64,Ah0 fun h=>by have:=h.1;omega]
 rw[if_neg h64]
 refine Ak (I:=fun x=>∃ i:Nat,i≤l.length∧(∀ j,j<i→Brt l j)∧x=(l,(i:Int),())) (m:=fun x=>((l.length:Int)-x.2.1).toNat)
  (g:=fun _=>some ((Jc l,()),(),())) ?_ ⟨0,by omega,fun j hj=>by omega,rfl⟩ (by rw[Av];simp only;omega)
 rintro x again ⟨i,hi,hok,rfl⟩ hag
 simp only at hag ⊢
 unfold Alr
 rw[Ayr]
 simp only[Am,Ad,Ao,Aq]
 by_cases h1:(i:Int)<(l.length:Int)
 ·have hil:i<l.length:=by omega
  have ii:(0:Int)≤(i:Int)∧(i:Int)<(l.length:Int):=by omega
  have bad:¬ Brt l i→Jc l=false:=fun h=>Ah0 fun hv=>h (hv.2 i hil)
  have hnx:Brt l i→again (l,(i:Int)+1,())=some ((Jc l,()),(),()):=fun h =>
   hag _ ⟨i+1,by omega,fun j hj=>by
    by_cases e:j=i
    ·rw[e];exact h
    ·exact hok j (by omega),by rw[Int.natCast_add];rfl⟩ (by simp only;omega)
  clear hag
  have hwi:IntKind.wrap .i64 ((i:Int)+1)=(i:Int)+1:=Ar (by omega) (by omega)
  have hwj:IntKind.wrap .i64 ((i:Int)-1)=(i:Int)-1:=Ar (by omega) (by omega)
  have htj:((i:Int)-1).toNat=i-1:=by omega
  unfold Brt at bad hnx
  simp only[if_pos h1,if_pos ii,hwi,hwj,htj,Int.toNat_natCast]
  rw[Bn0 (ha.at i)]
  simp only[Aa]
  cases hg:Atd (l.getD i Ax) with
  | false=>rw[Bp,bad (fun h=>by rw[hg] at h;cases h.1)]
  | true =>
   rw[Au]
   by_cases c3:(i:Int)>0
   ·have ij:(0:Int)≤(i:Int)-1∧(i:Int)-1<(l.length:Int):=by omega
    rw[if_pos c3,if_pos ij]
    by_cases c4:(l.getD i Ax).1≤(l.getD (i-1) Ax).1
    ·rw[if_pos c4,bad (fun h=>by have:=h.2 (by omega);omega)]
    ·rw[if_neg c4]
     exact hnx ⟨hg,fun _=>by omega⟩
   ·rw[if_neg c3]
    exact hnx ⟨hg,fun h=>by omega⟩
 ·rw[if_neg h1,Q7.2 ⟨by omega,fun j hj=>hok j (by omega)⟩]
def Aum:List At→Int→Nat→Int
 | [],_,_=>-1
 | p::l,a,k=>if p.1=a then (k:Int) else Aum l a (k+1)
def Aaq(l:List At)(a:Int):Int:=Aum l a 0
theorem Bj3(a:Int):∀ (l:List At) (k:Nat),(Aum l a k = -1∧∀ i,i<l.length→(l.getD i Ax).1≠a)∨∃ j,j<l.length∧Aum l a k=((k+j:Nat):Int)∧(l.getD j Ax).1=a
 | [],k=>.inl ⟨rfl,fun i hi=>by simp at hi⟩
 | p::l,k=>by
  unfold Aum
  by_cases h:p.1=a
  ·rw[if_pos h]
   exact .inr ⟨0,by simp,rfl,h⟩
  ·rw[if_neg h]
   rcases Bj3 a l (k+1) with⟨h1,h2⟩ | ⟨j,h1,h2,h3⟩
   ·refine .inl ⟨h1,fun i hi=>?_⟩
    cases i with
    | zero=>exact h
    | succ i=>exact h2 i (by simpa using hi)
   ·exact .inr ⟨j+1,by simpa using h1,by rw[h2];omega,h3⟩
theorem Avp(l:List At)(a:Int):(Aaq l a = -1∧∀ i,i<l.length→(l.getD i Ax).1≠a)∨∃ j:Nat,j<l.length∧Aaq l a=(j:Int)∧(l.getD j Ax).1=a:=by
 have:=Bj3 a l 0
 simpa [Aaq] using this
theorem Btx{l:List At}{i:Nat}(h:i<l.length):l.drop i=l.getD i Ax::l.drop (i+1):=by
 rw[List.drop_eq_getElem_cons h,List.getD_eq_getElem?_getD,List.getElem?_eq_getElem h]
 rfl
theorem Bb3{l:List At}{a:Int}(hl:l.length≤1000000):Ac0 (l,a,())=some ((Aaq l a,()),(),(),()):=by
 have h:Fx (l,(a,()),())=some ((Aaq l a,()),(),(),()):=by
  unfold Fx Ki
  refine Ak (I:=fun x=>∃ i:Nat,i≤l.length∧Aaq l a=Aum (l.drop i) a i∧x=(l,(a,()),(l.length:Int),(i:Int),())) (m:=fun x=>((l.length:Int)-x.2.2.2.1).toNat)
   (g:=fun _=>some ((Aaq l a,()),(),(),())) ?_ ⟨0,by omega,rfl,rfl⟩ (by rw[Av];simp only;omega)
  rintro x again ⟨i,hi,hf,rfl⟩ hag
  simp only at hag ⊢
  unfold H6
  simp only[Ad,Ao]
  by_cases h1:(i:Int)<(l.length:Int)
  ·have hil:i<l.length:=by omega
   rw[if_pos h1,if_pos (by omega),Int.toNat_natCast]
   unfold Aq0 Aw0
   simp only[Aa,Ad]
   rw[Btx hil] at hf
   unfold Aum at hf
   by_cases he:(l.getD i Ax).1=a
   ·rw[if_pos he] at hf ⊢
    rw[hf]
   ·rw[if_neg he] at hf ⊢
    rw[Ar (by omega) (by omega)]
    exact hag _ ⟨i+1,by omega,hf,by rw[Int.natCast_add];rfl⟩ (by simp only;omega)
  ·rw[if_neg h1]
   rw[List.drop_of_length_le (by omega)] at hf
   rw[hf]
   rfl
 unfold Ac0 Bbp
 rw[h]
 rfl
theorem Akl{l:List At}{a:Int}(hl:l.length≤1000000):G4 (l,a,())=some ((Aaq l a,()),(),(),()):=by
 unfold G4 Am0
 refine Ak (I:=fun x=>∃ i:Nat,i≤l.length∧Aaq l a=Aum (l.drop i) a i∧x=(l,a,(i:Int),())) (m:=fun x=>((l.length:Int)-x.2.2.1).toNat)
  (g:=fun _=>some ((Aaq l a,()),(),(),())) ?_ ⟨0,by omega,rfl,rfl⟩ (by rw[Av];simp only;omega)
 rintro x again ⟨i,hi,hf,rfl⟩ hag
 simp only at hag ⊢
 unfold Aot
 rw[Ayr]
 simp only[Am,Ad,Ao]
 by_cases h1:(i:Int)<(l.length:Int)
 ·have hil:i<l.length:=by omega
  rw[if_pos h1,if_pos (by omega),Int.toNat_natCast]
  rw[Btx hil] at hf
  unfold Aum at hf
  by_cases he:(l.getD i Ax).1=a
  ·rw[if_pos he] at hf ⊢
   rw[hf]
  ·rw[if_neg he] at hf ⊢
   rw[Ar (by omega) (by omega)]
   exact hag _ ⟨i+1,by omega,hf,by rw[Int.natCast_add];rfl⟩ (by simp only;omega)
 ·rw[if_neg h1]
  rw[List.drop_of_length_le (by omega)] at hf
  rw[hf]
  rfl
def Bmf(p:At):Nat:=Dw p.2.1
def Aw9:List At→Nat
 | []=>0
 | p::l=>Bmf p+Aw9 l
theorem Bfe:Aw9 []=0:=rfl
theorem Biw(p:At)(l:List At):Aw9 (p::l)=Bmf p+Aw9 l:=rfl
theorem Byq(l m:List At):Aw9 (l++m)=Aw9 l+Aw9 m:=by
 induction l with
 | nil=>rw[List.nil_append,Bfe,Nat.zero_add]
 | cons p l ih=>rw[List.cons_append,Biw,Biw,ih,Nat.add_assoc]
theorem Bs9{l:List At}{i:Nat}(h:i<l.length):Aw9 (l.take (i+1))=Aw9 (l.take i)+Bmf (l.getD i Ax):=by
 rw[List.take_add_one,List.getElem?_eq_getElem h,Byq,List.getD_eq_getElem?_getD,List.getElem?_eq_getElem h,Option.toList_some,Option.getD_some,Biw,Bfe,Nat.add_zero]
theorem Baa{p:At}(h:Mt p):p.2.1=Aw (Bmf p)∧Bmf p<115792089237316195423570985008687907853269984665640564039457584007913129639936:=by
 obtain⟨_,hd,_,_,_,_⟩:=h
 unfold Al at hd
 unfold Bmf
 simp only[Bk,true_and]
 exact hd
theorem Cbx{l:List At}{M:Nat}(h:∀ i,Bmf (l.getD i Ax)≤M):∀ i,i≤l.length→Aw9 (l.take i)≤M*i:=by
 intro i
 induction i with
 | zero=>intro _;rw[List.take_zero,Bfe];exact Nat.zero_le _
 | succ i ih =>
  intro hi
  rw[Bs9 (by omega),Nat.mul_succ]
  exact Nat.add_le_add (ih (by omega)) (h i)
def Bud(l:List At):List Int×(Int×Unit) :=
 if Jc l=true then (if Aw9 l<115792089237316195423570985008687907853269984665640564039457584007913129639936 then (Aw (Aw9 l),(0:Int),()) else ([(0:Int),0,0,0],(4:Int),())) else ([(0:Int),0,0,0],(2:Int),())
theorem Cf4{l:List At}(ha:Adi l)(hl:l.length≤1000000):N7 (l,())=some ((Bud l),(),()):=by
 unfold N7 Aaj Bud
 rw[L5 ha hl]
 simp only[Aa,Aq]
 by_cases hv:Ahd l
 case neg=>rw[Ah0 hv,Bp,if_neg (by simp)]
 rw[Q7.2 hv,Au,if_pos rfl]
 have hl64:=hv.1
 refine Ak (I:=fun x=>∃ i:Nat,i≤l.length∧x=(l,[(0:Int),0,0,0],dg (Aw9 (l.take i)),(i:Int),()))
  (m:=fun x=>((l.length:Int)-x.2.2.2.1).toNat) (g:=fun _=>some ((if Aw9 l<115792089237316195423570985008687907853269984665640564039457584007913129639936 then (Aw (Aw9 l),(0:Int),()) else ([(0:Int),0,0,0],(4:Int),())),(),())) ?_
  ⟨0,by omega,by rw[List.take_zero,Bfe,Awd];rfl⟩ (by rw[Av];simp only;omega)
 rintro x again ⟨i,hi,rfl⟩ hag
 simp only at hag ⊢
 unfold Aee
 rw[Ayr]
 simp only[Am,Ad,Ao,Aq]
 by_cases h1:(i:Int)<(l.length:Int)
 ·have hil:i<l.length:=by omega
  obtain⟨d1,d2⟩:=Baa (ha.at i)
  have hb:=Cbx (l:=l) (M:=115792089237316195423570985008687907853269984665640564039457584007913129639935) (fun j=>Nat.le_of_lt_succ (Baa (ha.at j)).2) i (by omega)
  have hb2:Aw9 (l.take i)≤115792089237316195423570985008687907853269984665640564039457584007913129639935*64:=Nat.le_trans hb (Nat.mul_le_mul_left _ (by omega))
  rw[show 115792089237316195423570985008687907853269984665640564039457584007913129639935*64=7410693711188236507108543040556026102609279018600996098525285376506440296955840 from by decide] at hb2
  clear hb
  rw[if_pos h1,if_pos (by omega),Int.toNat_natCast,d1,Bz d2]
  have hst:=Bs9 hil
  have ld:=Nr.2 d2
  simp only[Aa]
  have h17:(dg (Aw9 (l.take i))).length≤17:=D0.2 (Nat.div_eq_of_lt (by rw[show (65536:Nat) ^ 17=7588550360256754183279148073529370729071901715047420004889892225542594864082845696 from by decide];omega))
  rw[Cb (by omega) (by omega)]
  simp only[Aa]
  rw[← hst,Ar (by omega) (by omega)]
  exact hag _ ⟨i+1,by omega,by rw[Int.natCast_add];rfl⟩ (by simp only;omega)
 ·have hie:i=l.length:=by omega
  subst hie
  rw[if_neg h1,List.take_length,Yy]
  rfl
def Qd:List At→Int→Nat
 | [],_=>0
 | p::l,a=>if p.1<a then Qd l a+1 else 0
theorem Bt2(p:At)(l:List At)(a:Int):Qd (p::l) a=if p.1<a then Qd l a+1 else 0:=rfl
theorem Beg(a:Int):∀ l:List At,Qd l a≤l.length
 | []=>by simp[Qd]
 | p::l=>by
  have:=Beg a l
  unfold Qd
  split
  ·simp;omega
  ·simp
def pins(l:List At)(a:Int):List At:=l.take (Qd l a)++(Bo9 a::l.drop (Qd l a))
def Cod(l:List At)(a:Int):List At×(Int×Unit) :=
 if Jc l=true then (if a=0 then ([],(2:Int),()) else if Aaq l a≥0 then ([],(9:Int),()) else if l.length=64 then ([],(7:Int),()) else (pins l a,(0:Int),())) else ([],(2:Int),())
theorem roomyP{n:Nat}(h:n≤1000000):A9 n (.pair (.int .u64) (.pair (.arr 4 (.int .u64)) (.pair (.arr 4 (.int .u64)) (.pair (.arr 4 (.int .u64)) (.pair (.arr 4 (.int .u64)) (.pair (.int .u64) .unit))))))=true:=by
 rw[Ad9,decide_eq_true_eq]
 exact⟨by decide,by simp only[Ty.size];omega⟩
theorem Btp{l:List At}(h:l.length≤1000000):Ei (l,())=some ((l,()),(),()):=by
 unfold Ei Mi
 simp only[Am]
 rw[roomyP (by omega),Au,Ad]
 split
 ·rename_i h0
  have:l=[]:=List.length_eq_zero_iff.1 h0
  subst this
  exact Bnp rfl rfl
 ·rfl
end Go.Pon
