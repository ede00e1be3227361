/-
  Part of a proof: general lemmas, merged by a program of this work.
-/
import Derived.Test.YtjbkeldlldpddaaGreatPSnapshotRoundTrip1
set_option autoImplicit false
set_option linter.unusedVariables false
set_option linter.unusedSimpArgs false
noncomputable section
namespace Go.Pon
theorem aa7:type_of% @decide_eq_true:=@decide_eq_true
theorem ab0:type_of% @Int.natCast_add:=@Int.natCast_add
theorem ab5:type_of% @decide_eq_false:=@decide_eq_false
theorem ae2:type_of% @Nat.div_div_eq_div_mul:=@Nat.div_div_eq_div_mul
theorem af0:type_of% @Nat.div_eq_of_lt:=@Nat.div_eq_of_lt
theorem ag2:type_of% @Nat.div_eq_zero_iff_lt:=@Nat.div_eq_zero_iff_lt
theorem ah0:type_of% @Nat.pow_pos:=@Nat.pow_pos
theorem ah2:type_of% @Nat.pow_zero:=@Nat.pow_zero
theorem ah7:type_of% @List.mem_of_mem_take:=@List.mem_of_mem_take
theorem ah8:type_of% @List.take_length:=@List.take_length
theorem ai6:type_of% @Nat.lt_of_le_of_lt:=@Nat.lt_of_le_of_lt
theorem aj4:type_of% @Nat.mul_assoc:=@Nat.mul_assoc
theorem aj5:type_of% @decide_eq_decide:=@decide_eq_decide
theorem ak2:type_of% @Nat.sub_self:=@Nat.sub_self
theorem ak3:type_of% @List.drop_of_length_le:=@List.drop_of_length_le
theorem ak6:type_of% @Nat.mul_le_mul:=@Nat.mul_le_mul
theorem ak7:type_of% @Bool.and_true:=@Bool.and_true
theorem ak9:type_of% @Int.natCast_pow:=@Int.natCast_pow
theorem al6:type_of% @Nat.div_one:=@Nat.div_one
theorem al7:type_of% @Nat.div_le_div_right:=@Nat.div_le_div_right
theorem al8:type_of% @List.not_mem_nil:=@List.not_mem_nil
theorem am1:type_of% @List.replicate_zero:=@List.replicate_zero
theorem an1:type_of% @Bool.not_true:=@Bool.not_true
theorem an2:type_of% @List.mem_of_mem_drop:=@List.mem_of_mem_drop
theorem ao0:type_of% @List.getElem_of_mem:=@List.getElem_of_mem
theorem ao6:type_of% @Classical.byContradiction:=@Classical.byContradiction
theorem ao7:type_of% @Nat.add_mul_mod_self_left:=@Nat.add_mul_mod_self_left
theorem ap6:type_of% @Nat.mul_add:=@Nat.mul_add
theorem ap7:type_of% @List.take_add_one:=@List.take_add_one
theorem aq7:type_of% @List.length_eq_zero_iff:=@List.length_eq_zero_iff
theorem aq8:type_of% @Bool.not_false:=@Bool.not_false
theorem aq9:type_of% @List.getElem_range:=@List.getElem_range
theorem ar1:type_of% @List.sum_append:=@List.sum_append
theorem ar9:type_of% @Nat.add_le_add:=@Nat.add_le_add
theorem as5:type_of% @List.getElem_map:=@List.getElem_map
theorem as6:type_of% @Nat.min_le_right:=@Nat.min_le_right
theorem at4:type_of% @List.range_succ:=@List.range_succ
theorem at8:type_of% @Nat.mul_one:=@Nat.mul_one
theorem at9:type_of% @Nat.mod_one:=@Nat.mod_one
theorem au0:type_of% @Nat.mod_mul:=@Nat.mod_mul
theorem au2:type_of% @List.sum_nil:=@List.sum_nil
end Go.Pon
set_option maxRecDepth 10000
namespace Go.Pon
open Go
def Cmd:List Int:=[0,1,2,2,3,3,3,3,4,4,4,4,4,4,4,4,5,5,5,5,5,5,5,5,5,5,5,5,5,5,5,5,6,6,6,6,6,6,6,6,6,6,6,6,6,6,6,6,6,6,6,6,6,6,6,6,6,6,6,6,6,6,6,6,7,7,7,7,7,7,7,7,7,7,7,7,7,7,7,7,7,7,7,7,7,7,7,7,7,7,7,7,7,7,7,7,7,7,7,7,7,7,7,7,7,7,7,7,7,7,7,7,7,7,7,7,7,7,7,7,7,7,7,7,7,7,7,7,8,8,8,8,8,8,8,8,8,8,8,8,8,8,8,8,8,8,8,8,8,8,8,8,8,8,8,8,8,8,8,8,8,8,8,8,8,8,8,8,8,8,8,8,8,8,8,8,8,8,8,8,8,8,8,8,8,8,8,8,8,8,8,8,8,8,8,8,8,8,8,8,8,8,8,8,8,8,8,8,8,8,8,8,8,8,8,8,8,8,8,8,8,8,8,8,8,8,8,8,8,8,8,8,8,8,8,8,8,8,8,8,8,8,8,8,8,8,8,8,8,8,8,8,8,8,8,8]
theorem Cj4:∀ i,i<256→Cmd.getD i 0=((Kt i:Nat):Int):=by decide
theorem Cib{x:Int}(h1:0≤x)(h2:x<256):Cmd.getD x.toNat 0=((Kt x.toNat:Nat):Int):=Cj4 _ (by omega)
theorem Bt5{n:Nat}(h:n<256):Kt n≤8:=Aun.2 (by omega)
theorem Y0{x:Int}(k:Nat)(q:Int)(hk:k≤56)(h0:0≤x)(h1:((2 ^ k:Nat):Int)≤x∨k=0)(hq:q=x / ((2 ^ k:Nat):Int))(h2:q<256) :
  Ag (Cj (IntKind.wrap .u8 q) 256) (some ((IntKind.wrap .i64 ((k:Int)+IntKind.wrap .i64 (List.getD Cmd (Int.toNat (IntKind.wrap .u8 q)) 0)),()),(),())) (none:Option ((Int×Unit)×Unit×Unit))=some ((((Kt x.toNat:Nat):Int),()),(),()):=by
 obtain⟨n,rfl⟩:=ab3 h0
 have yl:0≤q:=by rw[hq];exact Int.ediv_nonneg h0 (Int.natCast_nonneg _)
 have hqn:q.toNat=n / 2 ^ k:=by rw[hq,← Int.natCast_ediv,aa3]
 rw[Cmy yl (by omega),Ao,aa0 ⟨yl,h2⟩,Cib yl h2,hqn]
 have hs:Kt (n / 2 ^ k)≤8:=Bt5 (by omega)
 rw[Ar (n:=((Kt (n / 2 ^ k):Nat):Int)) (by omega) (by omega),Ar (by omega) (by omega),aa3]
 have:Kt n=k+Kt (n / 2 ^ k):=by
  rcases h1 with h1|rfl
  ·exact Blj (by omega)
  ·simp
 rw[this];simp
theorem Bl0{a b:Int}(h:0≤b):Int.fdiv a b=a / b:=ai1 _ h
theorem Cgj{x:Int}(h0:0≤x)(h1:x≤18446744073709551615):Mr (x,())=some ((((Kt x.toNat:Nat):Int),()),(),()):=by
 unfold Mr Agk
 simp only[Am,Ad,ge_iff_le,Bl0 (show (0:Int)≤4294967296 by omega),Bl0 (show (0:Int)≤65536 by omega),Bl0 (show (0:Int)≤256 by omega)]
 repeat' split
 ·exact Y0 56 _ (by omega) h0 (.inl (by omega)) (by omega) (by omega)
 ·exact Y0 48 _ (by omega) h0 (.inl (by omega)) (by omega) (by omega)
 ·exact Y0 40 _ (by omega) h0 (.inl (by omega)) (by omega) (by omega)
 ·exact Y0 32 _ (by omega) h0 (.inl (by omega)) (by omega) (by omega)
 ·exact Y0 24 _ (by omega) h0 (.inl (by omega)) (by omega) (by omega)
 ·exact Y0 16 _ (by omega) h0 (.inl (by omega)) (by omega) (by omega)
 ·exact Y0 8 _ (by omega) h0 (.inl (by omega)) (by omega) (by omega)
 ·exact Y0 0 _ (by omega) h0 (.inr rfl) (by omega) (by omega)
theorem Bnw{n:Nat}(h:n<115792089237316195423570985008687907853269984665640564039457584007913129639936):Kt n≤256:=Aun.2 h
theorem Cgw(k:Nat):18446744073709551616 ^ k=2 ^ (64*k):=by rw[show (18446744073709551616:Nat)=2 ^ 64 from rfl,← Nat.pow_mul]
theorem Ccy{n:Nat}(hn:n<115792089237316195423570985008687907853269984665640564039457584007913129639936):Oa (At n,())=some ((((Kt n:Nat):Int),()),(),()):=by
 unfold Oa Aiy
 refine Ai (I:=fun x=>x.1=At n∧-1≤x.2.1∧x.2.1≤3∧n<18446744073709551616 ^ (x.2.1+1).toNat) (m:=fun x=>(x.2.1+1).toNat) (g:=fun _=>some ((((Kt n:Nat):Int),()),(),())) ?_ ⟨rfl,by simp only;omega,by simp only;omega,hn⟩ (by simp only[Au];omega)
 rintro⟨a,i,_⟩ aa ⟨h1,h2,h3,h4⟩ hag
 simp only at h1 h2 h3 h4 hag ⊢
 subst h1
 simp only[Afz,Ad,An,Ao,ge_iff_le]
 by_cases hi:0≤i
 ·obtain⟨j,rfl⟩:=ab3 hi
  have e1:((j:Int)+1).toNat=j+1:=by omega
  rw[e1] at h4
  rw[aa0 hi,aa0 ⟨hi,by omega⟩,aa3,Be8 hn (by omega)]
  have hp:0<18446744073709551616 ^ j:=ah0 (by omega)
  have ar:n / 18446744073709551616 ^ j<18446744073709551616:=by
   rw[ao5 hp,af9,← ae6];exact h4
  rw[ac8 ar]
  by_cases hz:n / 18446744073709551616 ^ j=0
  ·rw[aa0 (by omega),Ar (by omega) (by omega)]
   refine hag _ ⟨rfl,by simp only;omega,by simp only;omega,?_⟩ (by simp only;omega)
   simp only
   rw[show ((j:Int)-1+1).toNat=j by omega]
   exact (Nat.div_eq_zero_iff.1 hz).resolve_left (by omega)
  ·have lk:2 ^ (64*j)≤n:=by
    rw[← Cgw]
    rcases ad3 n (18446744073709551616 ^ j) with h|h
    ·exact absurd (af0 h) hz
    ·exact h
   have hb:=Blj lk
   have:=Bnw hn
   rw[← Cgw] at hb
   generalize n / 18446744073709551616 ^ j=q at *
   rw[aa1 (by omega),aa0 ⟨hi,by omega⟩,Cgj (by omega) (by omega)]
   simp only[Aa]
   rw[aa3,Ar (n:=64*(j:Int)) (by omega) (by omega),Ar (by omega) (by omega),hb]
   simp
 ·have hz:i = -1:=by omega
  subst hz
  have:n=0:=by simpa using h4
  subst this
  simp[Byd]
theorem Akc{x:Int}(h0:0≤x)(h1:x≤18446744073709551615):Db (x,())=some ((At x.toNat,()),(),()):=by
 unfold Db Qs
 rw[Aai h0 h1]
theorem Ci8:(Ty.int IntKind.u8).size=1:=rfl
theorem Dv{α:Type}{n:Nat}(h:n≤1099511627776)(a b:Option α):Ag (A8 n (.int .u8)) a b=a:=by
 rw[Ah2,Ci8,aa0 ⟨by omega,by omega⟩]
theorem Ckc{n:Int}(h0:0≤n)(h1:n≤1099511627776):Hi ((),n,())=some (([],()),(),(),()):=by
 unfold Hi Ti
 simp only[Am,Ad,Adg,Int.sub_zero]
 rw[aa1 (by omega),Ar (n:=n) (by omega) (by omega)]
 split
 ·rw[Dv (by omega),Ap,aa0 (by omega)];rfl
 ·rfl
theorem Arr{ls:List (List Int)}{i:Nat}(h:i<ls.length):(ls.take (i+1)).flatten=(ls.take i).flatten++ls.getD i []:=by
 rw[am0 h,as7,aa2,aa6 h];simp
theorem Alw(ls:List (List Int))(i:Nat):(ls.take i).flatten.length≤ls.flatten.length:=by
 have:(ls.take i++ls.drop i).flatten=ls.flatten:=by rw[ad7]
 rw[← this,as7,aa4];omega
theorem Bxj{ls:List (List Int)}(h:ls.flatten.length≤1099511627776)(hn:ls.length≤1099511627776) :
  Ac _ _ (fun aa x=>J2 aa x.1 x.2.1 x.2.2.1 x.2.2.2.1) (([]:List Int),ls,(ls.length:Int),(0:Int),())=some ((ls.flatten,()),(),()):=by
 refine Ai (I:=fun x=>x.2.1=ls∧x.2.2.1=(ls.length:Int)∧(0:Int)≤x.2.2.2.1∧x.2.2.2.1≤(ls.length:Int)∧x.1=(ls.take x.2.2.2.1.toNat).flatten) (m:=fun x=>((ls.length:Int)-x.2.2.2.1).toNat) (g:=fun _=>some ((ls.flatten,()),(),())) ?_ ⟨rfl,rfl,by simp only;omega,by simp only;omega,rfl⟩ (by simp only[Au];omega)
 rintro⟨new,l,n,i,_⟩ aa ⟨h1,h2,h3,h4,h5⟩ hag
 simp only at h1 h2 h3 h4 h5 hag ⊢
 subst h1 h2 h5
 obtain⟨j,rfl⟩:=ab3 h3
 simp only[J2,Ad,Ao,aa3,Bx]
 by_cases hi:j<l.length
 ·have e:=Arr hi
  have cf:=Alw l (j+1)
  rw[e] at cf
  rw[aa0 (by omega),aa0 ⟨h3,by omega⟩,Dv (by rw[← aa4];omega),← e,Ar (by omega) (by omega)]
  exact hag _ ⟨rfl,rfl,by simp only;omega,by simp only;omega,rfl⟩ (by simp only;omega)
 ·rw[aa1 (by omega),aa8 (by omega)]
theorem Aud{ls:List (List Int)}(h:ls.flatten.length≤1099511627776)(hn:ls.length≤1099511627776):B9 (ls,())=some ((ls.flatten,()),(),()):=by
 unfold B9 Pn
 refine Ai (I:=fun x=>x.1=ls∧x.2.2.1=ls∧x.2.2.2.1=(ls.length:Int)∧(0:Int)≤x.2.2.2.2.1∧x.2.2.2.2.1≤(ls.length:Int)∧x.2.1=(((ls.take x.2.2.2.2.1.toNat).flatten.length:Nat):Int)) (m:=fun x=>((ls.length:Int)-x.2.2.2.2.1).toNat) (g:=fun _=>some ((ls.flatten,()),(),())) ?_
  ⟨rfl,rfl,rfl,by simp only;omega,by simp only;omega,rfl⟩ (by simp only[Au];omega)
 rintro⟨l,size,l',n,i,_⟩ aa ⟨h1,h2,h3,h4,h5,h6⟩ hag
 simp only at h1 h2 h3 h4 h5 h6 hag ⊢
 subst h2 h1 h3 h6
 obtain⟨j,rfl⟩:=ab3 h4
 simp only[R0,Am,Ad,Ao,aa3]
 by_cases hi:j<l.length
 ·have e:=Arr hi
  have cf:=Alw l (j+1)
  rw[e,aa4] at cf
  rw[aa0 (by omega),aa0 ⟨h4,by omega⟩,Ar (by omega) (by omega),aa1 (by omega),Ar (by omega) (by omega)]
  refine hag _ ⟨rfl,rfl,rfl,by simp only;omega,by simp only;omega,?_⟩ (by simp only;omega)
  simp only
  rw[show ((j:Int)+1).toNat=j+1 by omega,e,aa4];omega
 ·have cf:=Alw l j
  rw[aa1 (by omega),Ckc (by omega) (by omega)]
  simp only[Aa]
  exact Bxj h hn
theorem Cg2{l:List Int}(h:l.length≤1099511627776):Gy (l,())=some ((l,()),(),()):=by
 unfold Gy Rt
 simp only
 rw[Dv (by omega),Ad]
 split
 ·rename_i h0
  have:l=[]:=aq7.1 h0
  subst this
  exact Bm0 rfl rfl
 ·rfl
theorem Cch(n j:Nat):(n / 18446744073709551616 ^ (j / 8) % 18446744073709551616) / 2 ^ (8*(j % 8)) % 256=n / 256 ^ j % 256:=by
 rw[Cgw,Bdf,show (18446744073709551616:Nat)=2 ^ 64 from rfl,show (256:Nat)=2 ^ 8 from rfl]
 apply Nat.eq_of_testBit_eq
 intro k
 simp only[Nat.testBit_mod_two_pow,Nat.testBit_div_two_pow]
 by_cases hk:k<8
 ·rw[show decide (k+8*(j % 8)<64)=true by simp;omega,show k+8*(j % 8)+64*(j / 8)=k+8*j by omega];simp
 ·simp[hk]
theorem Bvi{n j:Nat}(hn:n<115792089237316195423570985008687907853269984665640564039457584007913129639936)(hj:j<32) :
  IntKind.wrap .u8 (Int.fdiv ((At n).getD (j / 8) 0) ((2:Int) ^ (min (8*(j % 8)) 64)))=((n / 256 ^ j % 256:Nat):Int):=by
 rw[Be8 hn (by omega),ad8 (by omega),ap2,ai1 _ (Int.pow_nonneg (by omega)),← Cch n j]
 rfl
theorem Bx5{n:Nat}(hn:n<115792089237316195423570985008687907853269984665640564039457584007913129639936){k:Nat}(hk:k≤32){out:List Int}(ho:out.length≤100) :
  Ac _ _ (fun aa x=>Abq aa x.1 x.2.1 x.2.2.1) (At n,out,(k:Int)-1,())=some ((out++beB k n,()),(),()):=by
 refine Eq.trans (Ai (I:=fun x=>x.1=At n∧(-1:Int)≤x.2.2.1∧x.2.2.1≤(31:Int)∧(x.2.1.length:Int)+x.2.2.1≤(131:Int)) (m:=fun x=>(x.2.2.1+1).toNat) (g:=fun x=>some ((x.2.1++beB (x.2.2.1+1).toNat n,()),(),())) ?_
  ⟨rfl,by simp only;omega,by simp only;omega,by simp only;omega⟩ (by simp only[Au];omega)) ?_
 ·rintro⟨l,o,i,_⟩ aa ⟨h1,h2,h3,h4⟩ hag
  simp only at h1 h2 h3 h4 hag ⊢
  subst h1
  simp only[Abq,Am,Ad,Ao,ge_iff_le,Bx]
  by_cases hi:0≤i
  ·obtain⟨j,rfl⟩:=ab3 hi
   rw[aa0 hi,Ak1 hi,Ix hi,Ar (n:=(j:Int) / 8) (by omega) (by omega),Ar (n:=8*((j:Int) % 8)) (by omega) (by omega),aa0 (by omega),aa0 (by omega),Dv (by omega),Ar (by omega) (by omega)]
   rw[show ((j:Int) / 8).toNat=j / 8 by omega,show (8*((j:Int) % 8)).toNat=8*(j % 8) by omega,Bvi hn (by omega)]
   rw[hag _ ⟨rfl,by simp only;omega,by simp only;omega,by simp only[aa4,ag4];omega⟩ (by simp only;omega)]
   simp only
   rw[show ((j:Int)-1+1).toNat=j by omega,show ((j:Int)+1).toNat=j+1 by omega,beB];simp
  ·have:i = -1:=by omega
   subst this
   simp[beB]
 ·simp only
  rw[show ((k:Int)-1+1).toNat=k by omega]
def enc(n:Nat):List Int:=((Wn n:Nat):Int)::beB (Wn n) n
theorem Af6{n:Nat}:(enc n).length=1+Wn n:=by simp[enc,Ado];omega
theorem Bp6{n:Nat}(hn:n<115792089237316195423570985008687907853269984665640564039457584007913129639936):Mk (At n,())=some ((enc n,()),(),()):=by
 unfold Mk Atv
 have h1:=Bnw hn
 have h2:=Ae3 hn
 have h3:((Kt n:Nat):Int)+7=((Kt n+7:Nat):Int):=by omega
 rw[Ccy hn]
 simp only[Aa,Am]
 rw[Ar (n:=((Kt n:Nat):Int)+7) (by omega) (by omega),Ak1 (by omega),Ar (n:=(((Kt n:Nat):Int)+7) / 8) (by omega) (by omega),Ar (by omega) (by omega),Cmy (by omega) (by omega)]
 rw[show (((Kt n:Nat):Int)+7) / 8=((Wn n:Nat):Int) by unfold Wn;omega]
 exact Bx5 hn h2 (by simp)
theorem At5{b:List Int}(hb:b.length≤1000000000){n:Nat}(hn:n<115792089237316195423570985008687907853269984665640564039457584007913129639936) :
  Fo (b,At n,())=some ((b++enc n,()),(),(),()):=by
 unfold Fo Zm
 have h2:=Ae3 hn
 rw[Bp6 hn]
 simp only[Aa]
 rw[Aud (by simp[Af6];omega) (by simp)]
 simp[Aa]
theorem Bjk{b:List Int}(hb:b.length≤1000000000){n:Int}(h0:0≤n)(h1:n≤18446744073709551615) :
  J8 (b,n,())=some ((b++enc n.toNat,()),(),(),()):=by
 unfold J8 Ab0
 rw[Akc h0 h1]
 simp only[Aa]
 rw[At5 hb (by omega)]
 simp[Aa]
def Co(b:List Int):Prop:=∀ x∈b,0≤x∧x≤255
theorem Co.drop{b:List Int}(h:Co b)(i:Nat):Co (b.drop i):=fun x hx=>h x (an2 hx)
theorem Co.take{b:List Int}(h:Co b)(i:Nat):Co (b.take i):=fun x hx=>h x (ah7 hx)
theorem Co.at{b:List Int}(h:Co b)(i:Nat):0≤b.getD i 0∧b.getD i 0≤255:=Cgx (p:=fun x=>0≤x∧x≤255) h (by omega) i
theorem Co.append{a b:List Int}(ha:Co a)(hb:Co b):Co (a++b):=fun x hx=>by
 rcases ad9.1 hx with h|h
 ·exact ha x h
 ·exact hb x h
theorem Bpk{r:List Int}{i:Nat}(h:i<r.length):beV (r.take (i+1))=beV (r.take i)*256+(r.getD i 0).toNat:=by
 rw[am0 h,Bcx,aa2,aa6 h];rfl
theorem Ayy{r:List Int}(hr:Co r){i:Nat}(h:i≤r.length):beV (r.take i)<256 ^ i:=by
 have:=Cm3 (r.take i) (hr.take i)
 rwa [ab2,ad8 h] at this
theorem Bpw{r:List Int}(hr:Co r){k:Nat}(hk:k≤32)(hkr:k≤r.length){at_:Int}(h0:0≤at_)(h1:at_≤1099511627776)(t6:List Int) :
  Ac _ _ (fun aa x=>O8 aa x.1 x.2.1 x.2.2.1 x.2.2.2.1 x.2.2.2.2.1 x.2.2.2.2.2.1 x.2.2.2.2.2.2.1) (at_,t6,r,(k:Int),At 0,(k:Int),(0:Int),()) =
   some ((At (beV (r.take k)),at_+1+k,(0:Int),()),(),(),(),()):=by
 refine Ai (I:=fun x=>x.1=at_∧x.2.2.1=r∧x.2.2.2.1=(k:Int)∧x.2.2.2.2.2.1=(k:Int)∧(0:Int)≤x.2.2.2.2.2.2.1∧x.2.2.2.2.2.2.1≤(k:Int)∧x.2.2.2.2.1=At (beV (r.take x.2.2.2.2.2.2.1.toNat)*256 ^ (k-x.2.2.2.2.2.2.1.toNat)))
  (m:=fun x=>((k:Int)-x.2.2.2.2.2.2.1).toNat) (g:=fun _=>some ((At (beV (r.take k)),at_+1+k,(0:Int),()),(),(),(),())) ?_
  ⟨rfl,rfl,rfl,rfl,by simp only;omega,by simp only;omega,by simp[Caf]⟩ (by simp only[Au];omega)
 rintro⟨a,t,r',k',l,k2,i,_⟩ aa ⟨e1,e2,e3,e4,e5,e6,e7⟩ hag
 simp only at e1 e2 e3 e4 e5 e6 e7 hag ⊢
 subst e1 e2 e3 e4 e7
 obtain⟨i,rfl⟩:=ab3 e5
 simp only[O8,Am,Ad,Ao,aa3]
 by_cases hi:i<k
 ·obtain⟨j,hj⟩:∃ j,k=i+1+j:=⟨k-i-1,by omega⟩
  have e:(k:Int)-1-i=(j:Int):=by omega
  have hb:=hr.at i
  have hA:=Ayy hr (i:=i+1) (by omega)
  have hs:=Bpk (r:=r') (i:=i) (by omega)
  rw[hs] at hA
  rw[aa0 (by omega),Ar (n:=(k:Int)-1) (by omega) (by omega),e,Ar (n:=(j:Int)) (by omega) (by omega),Ak1 (by omega),Ix (by omega),Ar (n:=(j:Int) / 8) (by omega) (by omega),
   Ar (n:=8*((j:Int) % 8)) (by omega) (by omega),aa0 (by omega),aa0 (by omega),aa0 (by omega),aa0 (by omega),Ar (by omega) (by omega)]
  rw[show ((j:Int) / 8).toNat=j / 8 by omega,show (8*((j:Int) % 8)).toNat=8*(j % 8) by omega,show k-i=j+1 by omega,Gt (n:=r'.getD i 0) (by omega) (by omega)]
  obtain⟨c,hc⟩:=ab3 hb.1
  rw[hc] at hb hs hA ⊢
  rw[aa3] at hs hA
  generalize hv:beV (r'.take i)=v at *
  have hp:0<256 ^ j:=ah0 (by omega)
  have h3:(v*256+c)*256 ^ j<256 ^ (i+1)*256 ^ j:=Nat.mul_lt_mul_of_pos_right hA hp
  rw[← al5] at h3
  have h4:(256:Nat) ^ (i+1+j)≤256 ^ 32:=ah6 (by omega) (by omega)
  have h5:v*256 ^ (j+1)+c*256 ^ j=(v*256+c)*256 ^ j:=by rw[ae4,ae6,aj4 v,af9 256]
  have h6:v*256 ^ (j+1)+c*256 ^ j<115792089237316195423570985008687907853269984665640564039457584007913129639936:=by
   rw[h5];exact ae3 h3 h4
  rw[Be8 (by omega) (by omega),ad8 (by omega)]
  have h7:(2:Nat) ^ (8*(j % 8))≤72057594037927936:=ah6 (n:=2) (j:=56) (by omega) (by omega)
  have h8:(c:Int)*2 ^ (8*(j % 8))=((c*2 ^ (8*(j % 8)):Nat):Int):=by rw[ap1,ak9];rfl
  have h9:c*2 ^ (8*(j % 8))≤255*72057594037927936:=ak6 (by omega) h7
  have bq:v*256 ^ (j+1) / 18446744073709551616 ^ (j / 8) % 18446744073709551616<18446744073709551616:=ai3 _ (by omega)
  have pc:v*256 ^ (j+1) / 18446744073709551616 ^ (j / 8) % 18446744073709551616 ||| c*2 ^ (8*(j % 8))<18446744073709551616:=Nat.or_lt_two_pow (n:=64) bq (by omega)
  rw[h8,Gt (n:=((c*2 ^ (8*(j % 8)):Nat):Int)) (by omega) (by omega),Cjd bq (by omega),Gt (by omega) (by omega),Ckw (by omega) (by omega) h6 rfl,h5]
  refine hag _ ⟨rfl,rfl,rfl,rfl,by simp only;omega,by simp only;omega,?_⟩ (by simp only;omega)
  simp only
  rw[show ((i:Int)+1).toNat=i+1 by omega,hs,show k-(i+1)=j by omega]
 ·have:i=k:=by omega
  subst this
  rw[aa1 (by omega),ak2,ah2,at8,Ar (n:=a+1) (by omega) (by omega),Ar (by omega) (by omega)]
def rdU(b:List Int)(i:Nat)(most:Nat):Option (Nat×Nat) :=
 match b.drop i with
 | []=>none
 | k::r=>if most<k.toNat∨r.length<k.toNat∨(0<k.toNat∧r.getD 0 0=0) then none else some (beV (r.take k.toNat),i+1+k.toNat)
def Akw(b:List Int)(at_:Int)(most:Nat):List Int×(Int×Int×Unit) :=
 if at_<0∨b.length<at_ then (At 0,0,2,()) else
  match rdU b at_.toNat most with
  | none=>(At 0,0,3,())
  | some (v,j)=>(At v,j,0,())
theorem Bi7{b:List Int}(hb:Co b)(hl:b.length≤1000000000){at_:Int}(h1 : -9223372036854775808≤at_)(h2:at_≤9223372036854775807){most:Nat}(hm:most≤32) :
  Jj (b,at_,(most:Int),())=some (Akw b at_ most,(),(),(),()):=by
 unfold Jj Acv Akw
 simp only[Am,Ad,Adg]
 by_cases c1:at_<0
 ·rw[aa0 c1,aa0 (.inl c1)];rfl
 rw[aa1 c1]
 by_cases c2:b.length<at_
 ·rw[aa0 (by omega),aa0 (.inr c2)];rfl
 rw[aa1 (show ¬ at_>(b.length:Int) by omega),aa1 (show ¬ (at_<0∨(b.length:Int)<at_) by omega),aa0 (by omega),aa0 (by omega)]
 obtain⟨i,rfl⟩:=ab3 (show 0≤at_ by omega)
 have hd:=hb.drop i
 have ag:(b.drop i).length=b.length-i:=ac0
 rw[aa3,aa8 (by omega)]
 unfold rdU
 generalize b.drop i=au at *
 cases au with
 | nil=>rw[aa0 (by simp)];rfl
 | cons k r =>
  have hk:=hd k (by simp)
  have hr:Co r:=fun x hx=>hd x (by simp[hx])
  obtain⟨k,rfl⟩:=ab3 hk.1
  simp only[ac5] at ag
  rw[aa1 (by simp;omega),Ao,aa0 ⟨by omega,by simp⟩,aa0 (by simp;omega)]
  simp only[ag6,an9,ag0,ac5,Nat.add_sub_cancel,ah8]
  rw[Ar (by omega) (by omega)]
  by_cases c3:most<k
  ·rw[aa0 (by omega),aa0 (by omega)];rfl
  rw[aa1 (by omega)]
  by_cases c4:r.length<k
  ·rw[aa0 (by omega),aa0 (by omega)];rfl
  rw[aa1 (by omega)]
  have loop:=Bpw hr (k:=k) (by omega) (by omega) (at_:=(i:Int)) (by omega) (by omega)
  by_cases c5:0<k
  ·rw[aa0 (by omega),Ao,aa0 (by omega)]
   by_cases c6:r.getD 0 0=0
   ·rw[aa0 c6,aa0 (by simp only[aa3];omega)];rfl
   ·rw[aa1 c6,aa1 (by simp only[aa3];omega)]
    refine (loop _).trans ?_
    simp only[aa3]
    rw[show ((i+1+k:Nat):Int)=(i:Int)+1+k by omega]
  ·rw[aa1 (by omega),aa1 (by simp only[aa3];omega)]
   refine (loop _).trans ?_
   simp only[aa3]
   rw[show ((i+1+k:Nat):Int)=(i:Int)+1+k by omega]
theorem Aoq{b:List Int}(hb:Co b)(hl:b.length≤1000000000){at_:Int}(h1 : -9223372036854775808≤at_)(h2:at_≤9223372036854775807) :
  G3 (b,at_,())=some (Akw b at_ 32,(),(),()):=by
 unfold G3 Uz
 rw[show ((32:Int))=((32:Nat):Int) from rfl,Bi7 hb hl h1 h2 (by omega)]
 simp only[Aa]
theorem Bup{b:List Int}(hb:Co b)(at_:Int){most:Nat}(hm:most≤32):∃ v,v<256 ^ most∧(Akw b at_ most).1=At v∧0≤(Akw b at_ most).2.1∧(Akw b at_ most).2.1≤b.length ∧
  ((Akw b at_ most).2.2.1=0∨(Akw b at_ most).2.2.1=2∨(Akw b at_ most).2.2.1=3):=by
 unfold Akw
 have h0:0<256 ^ most:=ah0 (by omega)
 split
 ·exact⟨0,h0,rfl,by simp,by simp only;omega,by simp⟩
 ·split
  ·exact⟨0,h0,rfl,by simp,by simp only;omega,by simp⟩
  ·rename_i hc _ v j hv
   unfold rdU at hv
   split at hv
   ·cases hv
   ·rename_i k r hr
    split at hv
    ·cases hv
    ·rename_i hk
     cases hv
     have hl:=am6 List.length hr
     simp only[ac0,ac5] at hl
     have wa:Co r:=fun x hx=>(hb.drop at_.toNat) x (by rw[hr];simp[hx])
     refine⟨_,ae3 (Ayy wa (by omega)) (ah6 (by omega) (by omega)),rfl,by simp only;omega,by simp only;omega,by simp⟩
theorem Bb0{b:List Int}(hb:Co b)(hl:b.length≤1000000000){at_:Int}(h1 : -9223372036854775808≤at_)(h2:at_≤9223372036854775807) :
  Mv (b,at_,())=some ((((D8 (Akw b at_ 8).1:Nat):Int),(Akw b at_ 8).2),(),(),()):=by
 unfold Mv Yq
 obtain⟨v,v1,v2,_⟩:=Bup hb at_ (most:=8) (by omega)
 rw[show ((8:Int))=((8:Nat):Int) from rfl,Bi7 hb hl h1 h2 (by omega)]
 simp only[Aa]
 have:(Akw b at_ 8).1.getD 0 0=((D8 (Akw b at_ 8).1:Nat):Int):=by
  rw[v2,Bi];simp only[At,ag6];omega
 rw[this]
theorem Cgr{b:List Int}{i most v j:Nat}(h:rdU b i most=some (v,j))(hb:Co b):i<j∧j≤b.length∧v<256 ^ most∧j≤i+1+most:=by
 unfold rdU at h
 split at h
 ·cases h
 ·rename_i k r hr
  split at h
  ·cases h
  ·rename_i hk
   cases h
   have hl:=am6 List.length hr
   simp only[ac0,ac5] at hl
   have wa:Co r:=fun x hx=>(hb.drop i) x (by rw[hr];simp[hx])
   exact⟨by omega,by omega,ae3 (Ayy wa (by omega)) (ah6 (by omega) (by omega)),by omega⟩
abbrev Cry:=Bool×(List Int×Unit)
theorem Asg(n m:Nat):Yu (.arr 4 (.int .u64)) (At n) (At m)=decide (n=m):=by
 rw[an7,J6];exact Be6.trans (by simp)
theorem Be7(s:Bool)(n:Nat):F0 ((s,At n,()),())=some ((!s||!decide (n=0),()),(),()):=by
 unfold F0 Age
 simp only[An]
 rw[← Aut,Asg]
 cases s<;>rfl
def Aob(s:Bool)(n:Nat):List Int:=if s=true∧n=0 then [] else (if s then 1 else 0)::enc n
theorem Bj1{b:List Int}(hb:b.length≤1000000000){s:Bool}{n:Nat}(hn:n<115792089237316195423570985008687907853269984665640564039457584007913129639936) :
  Kf (b,(s,At n,()),())=some ((b++Aob s n,()),(),(),()):=by
 unfold Kf Abn Aob
 have h2:=Ae3 hn
 rw[Be7]
 simp only[Aa,An]
 rw[Bp6 hn]
 simp only[Aa]
 rw[Aud (by simp[Af6];omega) (by simp),Aud (by simp[Af6];omega) (by simp),Cg2 (by omega)]
 simp only[Aa]
 cases s
 ·simp[Ap,Bn]
 ·by_cases h0:n=0
  ·simp[h0,Bn]
  ·simp[h0,Ap]
def Bq0(b:List Int)(at_:Int):Cry×(Int×Int×Unit) :=
 if at_<0∨b.length<at_ then ((false,At 0,()),0,2,()) else
  if b.length=at_.toNat∨1<b.getD at_.toNat 0 then ((false,At 0,()),0,3,()) else
   match rdU b (at_.toNat+1) 32 with
   | none=>((false,At 0,()),0,3,())
   | some (n,j)=>if b.getD at_.toNat 0=1∧n=0 then ((false,At 0,()),0,3,()) else ((decide (b.getD at_.toNat 0=1),At n,()),j,0,())
theorem Bcb{b:List Int}(hb:Co b)(hl:b.length≤1000000000){at_:Int}(h1 : -9223372036854775808≤at_)(h2:at_≤9223372036854775807) :
  Mw (b,at_,())=some (Bq0 b at_,(),(),()):=by
 unfold Mw X1 Bq0
 simp only[Am,Ad,Ao,An]
 by_cases c1:at_<0
 ·rw[aa0 c1,aa0 (.inl c1)];rfl
 rw[aa1 c1]
 by_cases c2:b.length<at_
 ·rw[aa0 (by omega),aa0 (.inr c2)];rfl
 obtain⟨i,rfl⟩:=ab3 (show 0≤at_ by omega)
 rw[aa1 (show ¬ (i:Int)>(b.length:Int) by omega),aa1 (show ¬ ((i:Int)<0∨(b.length:Int)<(i:Int)) by omega)]
 simp only[aa3]
 by_cases c3:b.length=i
 ·rw[aa0 (by omega),aa0 (.inl c3)];rfl
 rw[aa1 (by omega),aa0 (by omega)]
 by_cases c4:1<b.getD i 0
 ·rw[aa0 (by omega),aa0 (.inr c4)];rfl
 rw[aa1 (show ¬ b.getD i 0>1 by omega),aa1 (show ¬ (b.length=i∨1<b.getD i 0) by omega),Ar (by omega) (by omega),show ((i:Int)+1)=((i+1:Nat):Int) by omega,Aoq hb hl (by omega) (by omega)]
 simp only[Aa]
 unfold Akw
 rw[aa1 (show ¬ (((i+1:Nat):Int)<0∨(b.length:Int)<((i+1:Nat):Int)) by omega),aa3,aa0 (by omega)]
 cases h:rdU b (i+1) 32 with
 | none =>
  rw[Be7]
  rfl
 | some p =>
  obtain⟨n,j⟩:=p
  simp only
  rw[Be7]
  simp only[Aa,aa0]
  rw[Cl7,An,An,Ad,Ad]
  by_cases c5:b.getD i 0=1<;>by_cases c6:n=0<;>simp[c5,c6,Aut,-List.getD_eq_getElem?_getD]
theorem Bpo(a b:List Int):Hn (a,b,())=some ((decide (a=b),()),(),(),()):=by
 unfold Hn Af3
 rfl
theorem Buu{x n:Int}(h0 : -9223372036854775808≤x)(h1:x≤9223372036854775807)(h2:1≤n)(h3:n≤9223372036854775807) :
  M7 (x,n,())=some ((((x % 18446744073709551616) % n,()),(),(),())):=by
 unfold M7 Awt
 simp only[Am,Ad]
 rw[Gt (n:=n) (by omega) (by omega),aa0 (by omega),am8,Ix (by omega),Ar]
 ·have:=ar0 (x % 18446744073709551616) (b:=n) (by omega);omega
 ·have:=Int.emod_lt_of_pos (x % 18446744073709551616) (b:=n) (by omega);omega
theorem Blh{x y c:Int}(hc:c≤1):Ew (x,y,c,())=some (((x+y+c) % 18446744073709551616,(x+y+c) / 18446744073709551616,()),(),(),(),()):=by
 unfold Ew Afx Cjg
 simp only
 rw[aa0 hc]
 rfl
theorem Bwg{x y c:Int}(hc:c≤1):Abw (x,y,c,())=some (((x-y-c) % 18446744073709551616,(if x<y+c then 1 else 0),()),(),(),(),()):=by
 unfold Abw Ar0 Coo
 simp only
 rw[aa0 hc]
 rfl
def lb(n i:Nat):Nat:=n / 18446744073709551616 ^ i % 18446744073709551616
theorem Als{n q:Nat}(hn:n<115792089237316195423570985008687907853269984665640564039457584007913129639936)(hq:q<4):List.getD (At n) q 0=((lb n q:Nat):Int):=by
 unfold At lb
 match q,hq with
 | 0,_=>simp
 | 1,_=>simp
 | 2,_=>simp only[ah1,ag6,Nat.reducePow]
 | 3,_ =>
  simp only[ah1,ag6,Nat.reducePow]
  omega
def Ae4(k i n:Nat):List Int:=((List.range i).map fun j=>((lb n j:Nat):Int))++List.replicate (k-i) 0
theorem Bdh(k n:Nat):Ae4 k 0 n=List.replicate k 0:=by simp[Ae4]
theorem Ba4{k i n:Nat}(h:i<k):List.set (Ae4 k i n) i ((lb n i:Nat):Int)=Ae4 k (i+1) n:=by
 unfold Ae4
 rw[List.set_append,aa1 (by simp),ag7,List.length_range,ak2,show k-i=(k-(i+1))+1 by omega,aq0,am9,at4]
 simp
theorem Bra{n:Nat}(hn:n<115792089237316195423570985008687907853269984665640564039457584007913129639936):Ae4 4 4 n=At n:=by
 refine Aln (d:=0) (by simp[Ae4,At]) fun j hj=>?_
 have hj4:j<4:=by simpa [Ae4] using hj
 rw[Als hn hj4]
 simp[Ae4,aa2,hj4]
theorem Apv(n i:Nat):n / 18446744073709551616 ^ (i+1)=n / 18446744073709551616 ^ i / 18446744073709551616:=by rw[ae6,ae2]
theorem Cgd:(18446744073709551616:Nat) ^ 4=115792089237316195423570985008687907853269984665640564039457584007913129639936:=by decide
theorem Boa{a b c i:Nat}(hc:c≤1)(h:(a+b) / 18446744073709551616 ^ i=a / 18446744073709551616 ^ i+b / 18446744073709551616 ^ i+c) :
  (lb a i+lb b i+c) % 18446744073709551616=lb (a+b) i∧(lb a i+lb b i+c) / 18446744073709551616≤1 ∧
   (a+b) / 18446744073709551616 ^ (i+1)=a / 18446744073709551616 ^ (i+1)+b / 18446744073709551616 ^ (i+1)+(lb a i+lb b i+c) / 18446744073709551616:=by
 unfold lb
 rw[Apv,Apv,Apv,h]
 generalize a / 18446744073709551616 ^ i=x
 generalize b / 18446744073709551616 ^ i=y
 refine⟨by omega,by omega,by omega⟩
theorem Aur{x y c:Nat}:(((x:Int)+(y:Int)+(c:Int)) % 18446744073709551616=(((x+y+c) % 18446744073709551616:Nat):Int))∧(((x:Int)+(y:Int)+(c:Int)) / 18446744073709551616=(((x+y+c) / 18446744073709551616:Nat):Int)):=by omega
theorem Bkp{a b:Nat}(ha:a<115792089237316195423570985008687907853269984665640564039457584007913129639936)(hb:b<115792089237316195423570985008687907853269984665640564039457584007913129639936) :
  Fu (At a,At b,())=some ((if a+b<115792089237316195423570985008687907853269984665640564039457584007913129639936 then (At (a+b),(0:Int),()) else ([(0:Int),0,0,0],(4:Int),())),(),(),()):=by
 unfold Fu Ajs
 refine Ai (I:=fun x=>∃ i c:Nat,i≤4∧c≤1∧(a+b) / 18446744073709551616 ^ i=a / 18446744073709551616 ^ i+b / 18446744073709551616 ^ i+c ∧
   x=(At a,At b,[(0:Int),0,0,0],Ae4 4 i (a+b),(c:Int),(i:Int),()))
  (m:=fun x=>((4:Int)-x.2.2.2.2.2.1).toNat) (g:=fun _=>some ((if a+b<115792089237316195423570985008687907853269984665640564039457584007913129639936 then (At (a+b),(0:Int),()) else ([(0:Int),0,0,0],(4:Int),())),(),(),())) ?_
  ⟨0,0,by omega,by omega,by simp,by rw[Bdh];rfl⟩ (by rw[Au];simp only;omega)
 rintro x aa ⟨i,c,hi,hc,hd,rfl⟩ hag
 simp only at hag ⊢
 unfold Am1
 simp only[Ad,Ao,An]
 by_cases h1:(i:Int)<4
 ·obtain⟨s1,s2,s3⟩:=Boa hc hd
  rw[aa0 h1,aa0 (by omega),aa0 (by omega),aa3,Als ha (by omega),Als hb (by omega),Blh (by omega)]
  simp only[Aa]
  rw[aa0 (by omega),Aur.1,Aur.2,s1,Ba4 (by omega),Ar (by omega) (by omega)]
  exact hag _ ⟨i+1,_,by omega,s2,s3,by rw[ab0];rfl⟩ (by simp only;omega)
 ·have rn:i=4:=by omega
  subst rn
  rw[Cgd] at hd
  rw[aa1 h1]
  by_cases hs:a+b<115792089237316195423570985008687907853269984665640564039457584007913129639936
  ·rw[aa0 hs,aa0 (by omega),Bra hs]
  ·rw[aa1 hs,aa1 (by omega)]
theorem Cbt{a b:Nat}(ha:a<115792089237316195423570985008687907853269984665640564039457584007913129639936)(hb:b<115792089237316195423570985008687907853269984665640564039457584007913129639936) :
  Zy (At a,At b,())=some ((Ae4 5 5 (a+b),()),(),(),()):=by
 unfold Zy An3
 refine Ai (I:=fun x=>∃ i c:Nat,i≤4∧c≤1∧(a+b) / 18446744073709551616 ^ i=a / 18446744073709551616 ^ i+b / 18446744073709551616 ^ i+c ∧
   x=(At a,At b,[(0:Int),0,0,0,0],Ae4 5 i (a+b),(c:Int),(i:Int),()))
  (m:=fun x=>((4:Int)-x.2.2.2.2.2.1).toNat) (g:=fun _=>some ((Ae4 5 5 (a+b),()),(),(),())) ?_
  ⟨0,0,by omega,by omega,by simp,by rw[Bdh];rfl⟩ (by rw[Au];simp only;omega)
 rintro x aa ⟨i,c,hi,hc,hd,rfl⟩ hag
 simp only at hag ⊢
 unfold Apn
 simp only[Ad,Ao,An]
 by_cases h1:(i:Int)<4
 ·obtain⟨s1,s2,s3⟩:=Boa hc hd
  rw[aa0 h1,aa0 (by omega),aa0 (by omega),aa3,Als ha (by omega),Als hb (by omega),Blh (by omega)]
  simp only[Aa]
  rw[aa0 (by omega),Aur.1,Aur.2,s1,Ba4 (by omega),Ar (by omega) (by omega)]
  exact hag _ ⟨i+1,_,by omega,s2,s3,by rw[ab0];rfl⟩ (by simp only;omega)
 ·have rn:i=4:=by omega
  subst rn
  rw[aa1 h1]
  have e:c=lb (a+b) 4:=by
   unfold lb
   rw[hd,Cgd]
   omega
  rw[e,Ba4 (by omega)]
theorem Bzk{x y:Nat}(hx:x<231584178474632390847141970017375815706539969331281128078915168015826259279872)(hy:y<231584178474632390847141970017375815706539969331281128078915168015826259279872):Ae4 5 5 x=Ae4 5 5 y↔x=y:=by
 constructor
 ·intro h
  unfold Ae4 lb at h
  simp only[at4,List.range_zero,af8,at2,ae5,ak0,ab6,aq5,ah2,Nat.pow_one,Nat.reducePow,al6,ao9,ak2,am1,aq4] at h
  omega
 ·intro h;rw[h]
theorem Ck1{a b:Nat}(ha:a<115792089237316195423570985008687907853269984665640564039457584007913129639936)(hb:b≤a) :
  Wl (At a,At b,())=some ((At (a-b),(0:Int),()),(),(),()):=by
 obtain⟨d,rfl⟩:=Nat.exists_eq_add_of_le hb
 rw[Nat.add_sub_cancel_left]
 unfold Wl Ato
 refine Ai (I:=fun x=>∃ i c:Nat,i≤4∧c≤1∧(b+d) / 18446744073709551616 ^ i=b / 18446744073709551616 ^ i+d / 18446744073709551616 ^ i+c ∧
   x=(At (b+d),At b,[(0:Int),0,0,0],Ae4 4 i d,(c:Int),(i:Int),()))
  (m:=fun x=>((4:Int)-x.2.2.2.2.2.1).toNat) (g:=fun _=>some ((At d,(0:Int),()),(),(),())) ?_
  ⟨0,0,by omega,by omega,by simp,by rw[Bdh];rfl⟩ (by rw[Au];simp only;omega)
 rintro x aa ⟨i,c,hi,hc,hd,rfl⟩ hag
 simp only at hag ⊢
 unfold Abm
 simp only[Ad,Ao,An]
 by_cases h1:(i:Int)<4
 ·have key:(((lb (b+d) i:Nat):Int)-((lb b i:Nat):Int)-(c:Int)) % 18446744073709551616=((lb d i:Nat):Int) ∧
    ∃ c':Nat,c'≤1∧(if ((lb (b+d) i:Nat):Int)<((lb b i:Nat):Int)+(c:Int) then (1:Int) else 0)=(c':Int)∧(b+d) / 18446744073709551616 ^ (i+1)=b / 18446744073709551616 ^ (i+1)+d / 18446744073709551616 ^ (i+1)+c':=by
   unfold lb
   rw[Apv,Apv,Apv,hd]
   generalize b / 18446744073709551616 ^ i=x
   generalize d / 18446744073709551616 ^ i=y
   refine⟨by omega,?_⟩
   by_cases ar:(((x+y+c) % 18446744073709551616:Nat):Int)<((x % 18446744073709551616:Nat):Int)+(c:Int)
   ·exact⟨1,by omega,by rw[aa0 ar];rfl,by omega⟩
   ·exact⟨0,by omega,by rw[aa1 ar];rfl,by omega⟩
  obtain⟨s1,c',s2,s4,s3⟩:=key
  rw[aa0 h1,aa0 (by omega),aa0 (by omega),aa3,Als ha (by omega),Als (by omega) (by omega),Bwg (by omega)]
  simp only[Aa]
  rw[aa0 (by omega),s1,s4,Ba4 (by omega),Ar (by omega) (by omega)]
  exact hag _ ⟨i+1,c',by omega,s2,s3,by rw[ab0];rfl⟩ (by simp only;omega)
 ·have rn:i=4:=by omega
  subst rn
  rw[Cgd] at hd
  rw[aa1 h1,aa0 (by omega),Bra (by omega)]
theorem Chh{a b:Nat}(ha:a<b)(hb:b<115792089237316195423570985008687907853269984665640564039457584007913129639936) :
  Wl (At a,At b,())=some (([(0:Int),0,0,0],(4:Int),()),(),(),()):=by
 have ha2:a<115792089237316195423570985008687907853269984665640564039457584007913129639936:=by omega
 unfold Wl Ato
 -- the borrow: uh the low Ae4 ba6
 refine Ai (I:=fun x=>∃ (i c:Nat) (s:List Int),i≤4∧s.length=4∧c≤1∧(c=1↔a % 18446744073709551616 ^ i<b % 18446744073709551616 ^ i) ∧
   x=(At a,At b,[(0:Int),0,0,0],s,(c:Int),(i:Int),()))
  (m:=fun x=>((4:Int)-x.2.2.2.2.2.1).toNat) (g:=fun _=>some (([(0:Int),0,0,0],(4:Int),()),(),(),())) ?_
  ⟨0,0,[0,0,0,0],by omega,rfl,by omega,by simp[at9],rfl⟩ (by rw[Au];simp only;omega)
 rintro x aa ⟨i,c,s,hi,hs,hc,hd,rfl⟩ hag
 simp only at hag ⊢
 unfold Abm
 simp only[Ad,Ao,An]
 by_cases h1:(i:Int)<4
 ·have ma:a % 18446744073709551616 ^ (i+1)=a % 18446744073709551616 ^ i+18446744073709551616 ^ i*lb a i:=by rw[ae6,au0];rfl
  have mb:b % 18446744073709551616 ^ (i+1)=b % 18446744073709551616 ^ i+18446744073709551616 ^ i*lb b i:=by rw[ae6,au0];rfl
  have p0:0<18446744073709551616 ^ i:=ah0 (by omega)
  have ra:=ai3 a p0;have rb:=ai3 b p0
  have ym:(((lb a i:Nat):Int)<((lb b i:Nat):Int)+(c:Int))↔a % 18446744073709551616 ^ (i+1)<b % 18446744073709551616 ^ (i+1):=by
   rw[ma,mb]
   generalize a % 18446744073709551616 ^ i=x at *
   generalize b % 18446744073709551616 ^ i=y at *
   generalize 18446744073709551616 ^ i=p at *
   generalize lb a i=u at *
   generalize lb b i=v at *
   rcases Nat.lt_trichotomy u v with h|h|h
   ·have:p*(u+1)≤p*v:=ae8 p h
    rw[ap6,at8] at this
    constructor
    ·intro _;omega
    ·intro _;omega
   ·subst h
    constructor
    ·intro h;have:c=1:=by omega
     have:=hd.1 this;omega
    ·intro h;have:=hd.2 (by omega);omega
   ·have:p*(v+1)≤p*u:=ae8 p h
    rw[ap6,at8] at this
    constructor
    ·intro h';omega
    ·intro h';omega
  rw[aa0 h1,aa0 (by omega),aa0 (by omega),aa3,Als ha2 (by omega),Als hb (by omega),Bwg (by omega)]
  simp only[Aa]
  rw[aa0 (by omega),Ar (by omega) (by omega)]
  by_cases ar:((lb a i:Nat):Int)<((lb b i:Nat):Int)+(c:Int)
  ·rw[aa0 ar]
   exact hag _ ⟨i+1,1,(List.set s i ((((lb a i:Nat):Int)-((lb b i:Nat):Int)-(c:Int)) % 18446744073709551616)),by omega,by rw[ae1];exact hs,by omega,⟨fun _=>ym.1 ar,fun _=>rfl⟩,by rw[ab0];rfl⟩ (by simp only;omega)
  ·rw[aa1 ar]
   exact hag _ ⟨i+1,0,(List.set s i ((((lb a i:Nat):Int)-((lb b i:Nat):Int)-(c:Int)) % 18446744073709551616)),by omega,by rw[ae1];exact hs,by omega,⟨fun h=>by omega,fun h=>absurd (ym.2 h) ar⟩,by rw[ab0];rfl⟩ (by simp only;omega)
 ·have rn:i=4:=by omega
  subst rn
  rw[Cgd,ac8 ha2,ac8 hb] at hd
  have:=hd.2 ha
  rw[aa1 h1,aa1 (by omega)]
def dg(n:Nat):List Int:=if h:n=0 then [] else ((n % 65536:Nat):Int)::dg (n / 65536)
termination_by n
decreasing_by omega
theorem Bfu:dg 0=[]:=by rw[dg];rfl
theorem Cev{n:Nat}(h:n≠0):dg n=((n % 65536:Nat):Int)::dg (n / 65536):=by rw[dg,dif_neg h]
theorem Bfo(n i:Nat):n / 65536 ^ (i+1)=n / 65536 / 65536 ^ i:=by rw[ae6,af9,ae2]
theorem Il(n i:Nat):n / 65536 ^ (i+1)=n / 65536 ^ i / 65536:=by rw[ae6,ae2]
theorem Abo:∀ (i n:Nat),List.getD (dg n) i 0=((n / 65536 ^ i % 65536:Nat):Int)
 | i,n=>by
  by_cases h:n=0
  ·subst h;rw[Bfu];simp
  ·rw[Cev h]
   cases i with
   | zero=>simp
   | succ i=>rw[ah1,Abo i,Bfo]
theorem Aid:∀ (i n:Nat),i<(dg n).length↔0<n / 65536 ^ i
 | i,n=>by
  by_cases h:n=0
  ·subst h;rw[Bfu];simp
  ·rw[Cev h]
   cases i with
   | zero=>simp;omega
   | succ i=>rw[ac5,an0,Aid i,Bfo]
def lo(i n:Nat):List Int:=(List.range i).map fun k=>((n / 65536 ^ k % 65536:Nat):Int)
theorem Abs(i n:Nat):(lo i n).length=i:=by simp[lo]
theorem Bsn(i n:Nat):lo (i+1) n=lo i n++[((n / 65536 ^ i % 65536:Nat):Int)]:=by simp[lo,at4]
theorem Bne{i n k:Nat}(h:k<i):List.getD (lo i n) k 0=((n / 65536 ^ k % 65536:Nat):Int):=by simp[lo,aa2,h]
theorem Cgq{i n:Nat}(h1:n / 65536 ^ i=0)(h2:i=0∨0<n / 65536 ^ (i-1)):lo i n=dg n:=by
 have hl:(dg n).length=i:=by
  have a:=Aid i n
  rw[h1] at a
  rcases h2 with rfl|h2
  ·omega
  ·have b:=(Aid (i-1) n).2 h2
   omega
 refine Aln (d:=0) (by rw[Abs,hl]) fun k hk=>?_
 rw[Abs] at hk
 rw[Bne hk,Abo]
theorem Bqk{n i j:Nat}(h:n / 65536 ^ i=0)(qt:i≤j):n / 65536 ^ j=0:=by
 obtain⟨d,rfl⟩:=Nat.exists_eq_add_of_le qt
 rw[al5,← ae2,h,Nat.zero_div]
theorem Du{n k:Nat}:(dg n).length≤k↔n / 65536 ^ k=0:=by
 have:=Aid k n
 generalize n / 65536 ^ k=q at *
 constructor
 ·intro h;omega
 ·intro h;omega
theorem Aru{k n:Nat}(hk:k≤1000000)(h:n / 65536 ^ k=0):En (lo k n,())=some ((dg n,()),(),()):=by
 unfold En Aqx
 rw[Abs]
 refine Ai (I:=fun x=>∃ j:Nat,j≤k∧n / 65536 ^ j=0∧x=(lo k n,(j:Int),())) (m:=fun x=>x.2.1.toNat) (g:=fun _=>some ((dg n,()),(),())) ?_ ⟨k,ab4 _,h,rfl⟩ (by rw[Au];simp only;omega)
 rintro x aa ⟨j,hj,h0,rfl⟩ hag
 simp only at hag ⊢
 unfold Aq7
 have et:List.take (Int.toNat (j:Int)-0) (List.drop 0 (lo k n))=lo j n:=by
  rw[aa3,ak1,ag0]
  refine Aln (d:=0) (by rw[ab2,Abs,Abs];omega) fun i hi=>?_
  rw[ab2,Abs] at hi
  rw[Bne (by omega),aa2,af4,aa0 (by omega),← aa2,Bne (by omega)]
 simp only[Am,Adg,Ad,Ao,Abs]
 by_cases h1:(j:Int)>0
 ·rw[aa0 h1,Ar (by omega) (by omega),aa0 (by omega),show ((j:Int)-1).toNat=j-1 by omega,Bne (by omega)]
  by_cases h2:((n / 65536 ^ (j-1) % 65536:Nat):Int)=0
  ·rw[aa0 h2]
   have h3:n / 65536 ^ (j-1)=0:=by
    have e:=Il n (j-1)
    rw[show j-1+1=j by omega,h0] at e
    omega
   exact hag _ ⟨j-1,by omega,h3,by rw[show ((j-1:Nat):Int)=(j:Int)-1 by omega]⟩ (by simp only;omega)
  ·rw[aa1 h2,aa0 (by omega),aa0 (by omega),et,Cgq h0 (.inr (Nat.pos_of_ne_zero fun h=>h2 (by rw[h];rfl)))]
 ·have:j=0:=by omega
  subst this
  rw[aa1 h1,aa0 (by omega),aa0 (by omega),et,Cgq h0 (.inl rfl)]
theorem Ang{k n:Nat}(h:n / 65536 ^ k=0):List.take ((dg n).length-0) (List.drop 0 (lo k n))=dg n:=by
 have hl:=Du.2 h
 rw[ak1,ag0]
 refine Aln (d:=0) (by rw[ab2,Abs];omega) fun i hi=>?_
 rw[ab2,Abs] at hi
 rw[aa2,af4,aa0 (by omega),← aa2,Bne (by omega),Abo]
theorem Aot{n:Nat}(h:n<18446744073709551616):(((BitVec.toNat ((BitVec.ofInt 64 (n:Int)) &&& (BitVec.ofInt 64 65535)):Nat):Int))=((n % 65536:Nat):Int):=by
 rw[BitVec.toNat_and,show BitVec.toNat (BitVec.ofInt 64 65535)=2 ^ 16-1 from rfl,Nat.and_two_pow_sub_one_eq_mod,ai5,aj1,show n % 2 ^ 64=n from ac8 (by omega)]
theorem Cg8:(Ty.int IntKind.i64).size=1:=rfl
theorem Aok{α:Type}{n:Nat}(h:n≤1000000000)(a b:Option α):Ag (A8 n (.int .i64)) a b=a:=by
 rw[Ah2,Cg8,aa0 ⟨by omega,by omega⟩]
theorem Cy{A B:Nat}(hA:(dg A).length≤1000)(hB:(dg B).length≤1000):Bh (dg A,dg B,())=some ((dg (A+B),()),(),(),()):=by
 unfold Bh Aw0
 have hm:(dg (A+B)).length≤1002:=by
  refine Du.2 ?_
  have h1:=Bqk (Du.1 hA) (show 1000≤1001 by omega)
  have h2:=Bqk (Du.1 hB) (show 1000≤1001 by omega)
  generalize hK:(1001:Nat)=K at h1 h2
  rw[show (1002:Nat)=K+1 by omega,ae6]
  have p0:0<65536 ^ K:=ah0 (by omega)
  have a1:=(ag2 p0).1 h1
  have a2:=(ag2 p0).1 h2
  exact af0 (by omega)
 refine Ai (I:=fun x=>∃ (i c:Nat),c≤1∧(A+B) / 65536 ^ i=A / 65536 ^ i+B / 65536 ^ i+c∧(i=0∨0<(A+B) / 65536 ^ (i-1))∧x=(dg A,dg B,lo i (A+B),(c:Int),(i:Int),()))
  (m:=fun x=>((1003:Int)-x.2.2.2.2.1).toNat) (g:=fun _=>some ((dg (A+B),()),(),(),())) ?_ ⟨0,0,by omega,by simp,.inl rfl,rfl⟩ (by rw[Au];simp only;omega)
 rintro x aa ⟨i,c,hc,hd,hz,rfl⟩ hag
 have hi:i≤1002:=by
  rcases hz with rfl|hz
  ·omega
  ·have:=(Aid _ _).2 hz;omega
 simp only at hag ⊢
 have la:=Aid i A;have lb:=Aid i B
 have ga:=Abo i A;have gb:=Abo i B
 have sa:=Il A i;have sb:=Il B i;have ss:=Il (A+B) i
 have kf:=Bsn i (A+B)
 have dr:(0<A / 65536 ^ i∨0<B / 65536 ^ i∨0<c)→0<(A+B) / 65536 ^ i:=fun h=>by
  rw[hd]
  generalize A / 65536 ^ i=q1 at *
  generalize B / 65536 ^ i=q2 at *
  omega
 have iy:(A+B) / 65536 ^ (i+1)=A / 65536 ^ (i+1)+B / 65536 ^ (i+1)+(c+A / 65536 ^ i % 65536+B / 65536 ^ i % 65536) / 65536:=by
  rw[sa,sb,ss,hd]
  generalize A / 65536 ^ i=q1 at *
  generalize B / 65536 ^ i=q2 at *
  omega
 have step:(0<A / 65536 ^ i∨0<B / 65536 ^ i∨0<c)→aa (dg A,dg B,lo (i+1) (A+B),(((c+A / 65536 ^ i % 65536+B / 65536 ^ i % 65536) / 65536:Nat):Int),(i:Int)+1,())=some ((dg (A+B),()),(),(),()):=fun h =>
  hag _ ⟨i+1,(c+A / 65536 ^ i % 65536+B / 65536 ^ i % 65536) / 65536,by omega,iy,.inr (by rw[Nat.add_sub_cancel];exact dr h),by rw[ab0];rfl⟩ (by simp only;omega)
 have cg:A / 65536 ^ i=0→B / 65536 ^ i=0→c=0→lo i (A+B)=dg (A+B):=fun h1 h2 h3=>Cgq (by omega) hz
 clear hag hm hA hB
 unfold Aub
 simp only[Am,Ad,Ao,Bx,aa3,Abs,ga,gb]
 generalize A / 65536 ^ i=a1 at *
 generalize B / 65536 ^ i=b1 at *
 generalize (A+B) / 65536 ^ i=s1 at *
 generalize hla:(dg A).length=nla at *
 generalize hlb:(dg B).length=uy at *
 have dc:∀ {α:Type} (a b:Option α),Ag (A8 (i+1) (.int .i64)) a b=a:=fun a b=>Aok (by omega) a b
 simp only[dc]
 have hv6:IntKind.wrap .i64 ((c:Int)+((a1 % 65536:Nat):Int))=((c+a1 % 65536:Nat):Int):=by rw[Ar (by omega) (by omega)];omega
 have hv7:IntKind.wrap .i64 ((c:Int)+((b1 % 65536:Nat):Int))=((c+b1 % 65536:Nat):Int):=by rw[Ar (by omega) (by omega)];omega
 have hv8:IntKind.wrap .i64 (((c+a1 % 65536:Nat):Int)+((b1 % 65536:Nat):Int))=((c+a1 % 65536+b1 % 65536:Nat):Int):=by rw[Ar (by omega) (by omega)];omega
 have pe:IntKind.wrap .i64 ((i:Int)+1)=(i:Int)+1:=Ar (by omega) (by omega)
 have hfd:∀ k:Nat,Int.fdiv ((k:Nat):Int) 65536=((k / 65536:Nat):Int):=fun k=>by rw[ai1 _ (by omega)];omega
 have hwm:∀ k:Nat,IntKind.wrap .i64 (((k % 65536:Nat):Int))=((k % 65536:Nat):Int):=fun k=>Ar (by omega) (by omega)
 simp only[hv6,hv7,hv8,pe]
 rw[Aot (n:=c+a1 % 65536+b1 % 65536) (by omega),Aot (n:=c+a1 % 65536) (by omega),Aot (n:=c+b1 % 65536) (by omega),Aot (n:=c) (by omega)]
 simp only[hfd,hwm]
 rw[kf] at step
 have ed:s1 % 65536=(c+a1 % 65536+b1 % 65536) % 65536:=by omega
 rw[ed] at step
 by_cases ca:(i:Int)<(nla:Int)
 ·have ia:(0:Int)≤(i:Int)∧(i:Int)<(nla:Int):=by omega
  simp only[aa0 ca,aa0 ia]
  by_cases cb:(i:Int)<(uy:Int)
  ·have ib:(0:Int)≤(i:Int)∧(i:Int)<(uy:Int):=by omega
   simp only[aa0 cb,aa0 ib]
   exact step (by omega)
  ·simp only[aa1 cb]
   have:b1=0:=by omega
   subst this
   have:=step (by omega)
   simp only[Nat.zero_mod,af6] at this
   exact this
 ·have x9:a1=0:=by omega
  subst x9
  simp only[aa1 ca]
  by_cases cb:(i:Int)<(uy:Int)
  ·have ib:(0:Int)≤(i:Int)∧(i:Int)<(uy:Int):=by omega
   simp only[aa0 cb,aa0 ib]
   have:=step (by omega)
   simp only[Nat.zero_mod,af6] at this
   exact this
  ·have qv:b1=0:=by omega
   subst qv
   simp only[aa1 cb]
   by_cases cc:(c:Int)>0
   ·simp only[aa0 cc]
    have:=step (by omega)
    simp only[Nat.zero_mod,af6] at this
    exact this
   ·rw[aa1 cc,cg rfl rfl (by omega)]
theorem Aus{n q:Nat}(hn:n<115792089237316195423570985008687907853269984665640564039457584007913129639936)(hq:q<4):List.getD (At n) q 0=((n / 18446744073709551616 ^ q % 18446744073709551616:Nat):Int):=by
 unfold At
 match q,hq with
 | 0,_=>simp
 | 1,_=>simp
 | 2,_=>simp only[ah1,ag6,Nat.reducePow]
 | 3,_ =>
  simp only[ah1,ag6,Nat.reducePow]
  omega
theorem Cp7(r:Nat):(65536:Nat) ^ r=2 ^ (16*r):=by rw[Nat.pow_mul]
theorem Cf3{n i:Nat}(hi:i<16):n / 18446744073709551616 ^ (i / 4) % 18446744073709551616 / 2 ^ (16*(i % 4)) % 65536=n / 65536 ^ i % 65536:=by
 have e:(65536:Nat) ^ i=18446744073709551616 ^ (i / 4)*2 ^ (16*(i % 4)):=by
  rw[show (18446744073709551616:Nat)=65536 ^ 4 from by decide,← Nat.pow_mul,← Cp7,← al5]
  congr 1
  omega
 rw[e,← ae2]
 generalize n / 18446744073709551616 ^ (i / 4)=Y
 have:i % 4=0∨i % 4=1∨i % 4=2∨i % 4=3:=by omega
 rcases this with h|h|h|h
 all_goals
  rw[h]
  simp only[Nat.reduceMul,Nat.reducePow]
  omega
theorem Cd{n:Nat}(hn:n<115792089237316195423570985008687907853269984665640564039457584007913129639936):Ah (At n,())=some ((dg n,()),(),()):=by
 unfold Ah U8
 have h16:n / 65536 ^ 16=0:=af0 (by rw[show (65536:Nat) ^ 16=115792089237316195423570985008687907853269984665640564039457584007913129639936 from by decide];exact hn)
 refine Ai (I:=fun x=>∃ i:Nat,i≤16∧x=(At n,lo i n++List.replicate (16-i) 0,(i:Int),())) (m:=fun x=>((16:Int)-x.2.2.1).toNat) (g:=fun _=>some ((dg n,()),(),())) ?_ ⟨0,by omega,rfl⟩ (by rw[Au];simp only;omega)
 rintro x aa ⟨i,hi,rfl⟩ hag
 simp only at hag ⊢
 unfold Acp
 simp only[Am,Ad,Ao]
 by_cases h1:(i:Int)<16
 ·have pg:i<16:=by omega
  have t1:Int.tmod (i:Int) 4=((i % 4:Nat):Int):=by rw[Ix (by omega)];omega
  have t2:Int.tdiv (i:Int) 4=((i / 4:Nat):Int):=by rw[Ak1 (by omega)];omega
  have t3:IntKind.wrap .i64 ((16:Int)*((i % 4:Nat):Int))=((16*(i % 4):Nat):Int):=by rw[Ar (by omega) (by omega)];omega
  have t4:IntKind.wrap .u64 (((16*(i % 4):Nat):Int))=((16*(i % 4):Nat):Int):=Gt (by omega) (by omega)
  have t5:IntKind.wrap .i64 (((i / 4:Nat):Int))=((i / 4:Nat):Int):=Ar (by omega) (by omega)
  have t6:IntKind.wrap .i64 ((i:Int)+1)=(i:Int)+1:=Ar (by omega) (by omega)
  simp only[t1,t2,t3,t4,t5,t6]
  rw[aa0 h1,aa0 (by omega),aa0 (by omega),aa0 (by rw[aa4,Abs,List.length_replicate];omega),aa3,aa3,aa3,Aus hn (by omega),ad8 (by omega)]
  have hq:Int.fdiv ((n / 18446744073709551616 ^ (i / 4) % 18446744073709551616:Nat):Int) ((2:Int) ^ (16*(i % 4)))=((n / 18446744073709551616 ^ (i / 4) % 18446744073709551616 / 2 ^ (16*(i % 4)):Nat):Int):=by
   rw[ai1 _ (Int.le_of_lt (Int.pow_pos (by omega)))]
   rw[Int.natCast_ediv,ak9]
   rfl
  rw[hq,Aot (by
   refine ai6 (Nat.div_le_self _ _) ?_
   exact ai3 _ (by omega)),Cf3 pg]
  have cx:List.set (lo i n++List.replicate (16-i) 0) i ((n / 65536 ^ i % 65536:Nat):Int)=lo (i+1) n++List.replicate (16-(i+1)) 0:=by
   rw[List.set_append,aa1 (by rw[Abs];omega),Abs,ak2,show 16-i=(16-(i+1))+1 by omega,aq0,am9,Bsn]
   simp
  have hw:IntKind.wrap .i64 (IntKind.wrap .u64 (((n / 65536 ^ i % 65536:Nat):Int)))=((n / 65536 ^ i % 65536:Nat):Int):=by
   have:=ai3 (n / 65536 ^ i) (show 0<65536 by omega)
   rw[Gt (by omega) (by omega),Ar (by omega) (by omega)]
  rw[hw,cx]
  exact hag _ ⟨i+1,by omega,by rw[ab0];rfl⟩ (by simp only;omega)
 ·have pg:i=16:=by omega
  subst pg
  rw[aa1 h1,ak2,am1,ah9,Aru (by omega) h16,Aa]
  dsimp only
  rw[Ang h16]
theorem Og{n:Nat}:(dg n).length≤16↔n<115792089237316195423570985008687907853269984665640564039457584007913129639936:=by
 rw[Du,show (65536:Nat) ^ 16=115792089237316195423570985008687907853269984665640564039457584007913129639936 from by decide]
 omega
theorem Oq(n:Nat):Ds (dg n,())=some ((decide (n<115792089237316195423570985008687907853269984665640564039457584007913129639936),()),(),()):=by
 unfold Ds Ars
 simp only
 by_cases h:n<115792089237316195423570985008687907853269984665640564039457584007913129639936
 ·rw[aa7 h,aa7 (by have:=Og.2 h;omega)]
 ·rw[ab5 h,ab5 (by
   intro h2
   exact h (Og.1 (by omega)))]
theorem Chz{n i:Nat}(hi:i<16):List.set (At (n % 65536 ^ i)) (i / 4) ((((n % 65536 ^ i) / 18446744073709551616 ^ (i / 4) % 18446744073709551616+(n / 65536 ^ i % 65536)*2 ^ (16*(i % 4))) % 18446744073709551616:Nat):Int)=At (n % 65536 ^ (i+1)):=by
 have key:n % 65536 ^ (i+1)=n % 65536 ^ i+65536 ^ i*(n / 65536 ^ i % 65536):=by rw[ae6,au0]
 rw[key]
 have hd:=ai3 (n / 65536 ^ i) (show 0<65536 by omega)
 have hm:=ai3 n (show 0<65536 ^ i from ah0 (by omega))
 generalize n / 65536 ^ i % 65536=d at hd ⊢
 generalize n % 65536 ^ i=m at hm ⊢
 have hc:i=0∨i=1∨i=2∨i=3∨i=4∨i=5∨i=6∨i=7∨i=8∨i=9∨i=10∨i=11∨i=12∨i=13∨i=14∨i=15:=by omega
 unfold At
 rcases hc with rfl|rfl|rfl|rfl|rfl|rfl|rfl|rfl|rfl|rfl|rfl|rfl|rfl|rfl|rfl|rfl
 all_goals
  simp only[Nat.reduceDiv,Nat.reduceMod,Nat.reduceMul,Nat.reducePow,ah2,al6,at8,am9,List.set_cons_succ,ao9,aq4] at hm ⊢
  refine⟨?_,?_,?_,?_⟩<;>omega
theorem Bpg:At 0=[(0:Int),0,0,0]:=rfl
theorem Uo{n:Nat}(hn:n<115792089237316195423570985008687907853269984665640564039457584007913129639936):Ax (dg n,())=some ((At n,()),(),()):=by
 unfold Ax Aaw
 have hl:=Og.2 hn
 have jx:n % 65536 ^ (dg n).length=n:=by
  have:=(Du (n:=n) (k:=(dg n).length)).1 (ab4 _)
  exact ac8 ((ag2 (ah0 (by omega))).1 this)
 refine Ai (I:=fun x=>∃ i:Nat,i≤(dg n).length∧x=(dg n,[(0:Int),0,0,0],At (n % 65536 ^ i),(i:Int),())) (m:=fun x=>((17:Int)-x.2.2.2.1).toNat) (g:=fun _=>some ((At n,()),(),())) ?_
  ⟨0,by omega,by rw[ah2,at9,Bpg];rfl⟩ (by rw[Au];simp only;omega)
 rintro x aa ⟨i,hi,rfl⟩ hag
 simp only at hag ⊢
 unfold Afv
 simp only[Am,Ad,Ao]
 by_cases h1:(i:Int)<(((dg n).length:Nat):Int)
 ·have pg:i<16:=by omega
  have t1:Int.tmod (i:Int) 4=((i % 4:Nat):Int):=by rw[Ix (by omega)];omega
  have t2:Int.tdiv (i:Int) 4=((i / 4:Nat):Int):=by rw[Ak1 (by omega)];omega
  have t3:IntKind.wrap .i64 ((16:Int)*((i % 4:Nat):Int))=((16*(i % 4):Nat):Int):=by rw[Ar (by omega) (by omega)];omega
  have t4:IntKind.wrap .u64 (((16*(i % 4):Nat):Int))=((16*(i % 4):Nat):Int):=Gt (by omega) (by omega)
  have t5:IntKind.wrap .i64 (((i / 4:Nat):Int))=((i / 4:Nat):Int):=Ar (by omega) (by omega)
  have t6:IntKind.wrap .i64 ((i:Int)+1)=(i:Int)+1:=Ar (by omega) (by omega)
  simp only[t1,t2,t3,t4,t5,t6]
  have hd:=ai3 (n / 65536 ^ i) (show 0<65536 by omega)
  have hmn:n % 65536 ^ i<115792089237316195423570985008687907853269984665640564039457584007913129639936:=ai6 (Nat.mod_le _ _) hn
  rw[aa0 h1,aa0 (by omega),aa0 (by omega),aa0 (by omega),aa0 (by omega),aa0 (by omega),aa3,aa3,aa3,Aus hmn (by omega),Abo,ad8 (by omega)]
  have xk:IntKind.wrap .u64 (((n / 65536 ^ i % 65536:Nat):Int))=((n / 65536 ^ i % 65536:Nat):Int):=Gt (by omega) (by omega)
  have hr:2 ^ (16*(i % 4))≤281474976710656:=by
   have:i % 4=0∨i % 4=1∨i % 4=2∨i % 4=3:=by omega
   rcases this with h|h|h|h<;>rw[h]<;>decide
  have hw2:IntKind.wrap .u64 (((n / 65536 ^ i % 65536:Nat):Int)*(2:Int) ^ (16*(i % 4)))=(((n / 65536 ^ i % 65536)*2 ^ (16*(i % 4)):Nat):Int):=by
   have h65:(n / 65536 ^ i % 65536)*2 ^ (16*(i % 4))≤65535*281474976710656:=ak6 (by omega) hr
   have e:((n / 65536 ^ i % 65536:Nat):Int)*(2:Int) ^ (16*(i % 4))=(((n / 65536 ^ i % 65536)*2 ^ (16*(i % 4)):Nat):Int):=by
    rw[ap1,ak9];rfl
   rw[e,Gt (by omega) (by omega)]
  have hw3:∀ a b:Nat,IntKind.wrap .u64 (((a:Nat):Int)+((b:Nat):Int))=(((a+b) % 18446744073709551616:Nat):Int):=fun a b=>by rw[am8];omega
  rw[xk,hw2,hw3,Chz pg]
  exact hag _ ⟨i+1,by omega,by rw[ab0];rfl⟩ (by simp only;omega)
 ·have wb:i=(dg n).length:=by omega
  rw[aa1 h1,wb,jx]
theorem Zj(n:Nat):B5 (dg n,())=some ((if n<115792089237316195423570985008687907853269984665640564039457584007913129639936 then (At n,(0:Int),()) else ([(0:Int),0,0,0],(4:Int),())),(),()):=by
 unfold B5 Af5
 rw[Oq]
 simp only[Aa,An,Ad]
 by_cases h:n<115792089237316195423570985008687907853269984665640564039457584007913129639936
 ·rw[aa0 h,aa0 h,Uo h]
  rfl
 ·rw[aa1 h,aa1 h]
theorem Bas{a b:Nat}(ha:a<115792089237316195423570985008687907853269984665640564039457584007913129639936)(hb:b<115792089237316195423570985008687907853269984665640564039457584007913129639936) :
  Ip (At a,At b,())=some ((if a+b<115792089237316195423570985008687907853269984665640564039457584007913129639936 then (At (a+b),(0:Int),()) else ([(0:Int),0,0,0],(4:Int),())),(),(),()):=by
 have la:=Og.2 ha;have lb:=Og.2 hb
 unfold Ip Ajk
 rw[Cd ha];simp only[Aa]
 rw[Cd hb];simp only[Aa]
 rw[Cy (by omega) (by omega)];simp only[Aa]
 rw[Zj]
 rfl
def Agg(a b:Nat):Int:=if a<b then -1 else if b<a then 1 else 0
theorem Atu{a b:Nat}(ha:(dg a).length≤1000)(hb:(dg b).length≤1000):Cv (dg a,dg b,())=some ((Agg a b,()),(),(),()):=by
 have ltl:∀ {x y:Nat},(dg x).length<(dg y).length→x<y:=fun {x y} h=>by
  have h1:=(Du (n:=x) (k:=(dg x).length)).1 (ab4 _)
  have h2:=(Aid (dg x).length y).1 h
  have p0:0<65536 ^ (dg x).length:=ah0 (by omega)
  have h3:=(ag2 p0).1 h1
  rcases ad3 x y with h|h
  ·exact h
  ·have:y / 65536 ^ (dg x).length≤x / 65536 ^ (dg x).length:=al7 h
   omega
 unfold Cv Av2
 simp only[An,Ad]
 by_cases hl:(((dg a).length:Nat):Int)=(((dg b).length:Nat):Int)
 ·rw[aa0 hl]
  have wz:(dg a).length=(dg b).length:=by omega
  rw[Ar (by omega) (by omega)]
  refine Ai (I:=fun x=>∃ i:Nat,i≤(dg a).length∧a / 65536 ^ i=b / 65536 ^ i∧x=(dg a,dg b,(i:Int)-1,())) (m:=fun x=>(x.2.2.1+1).toNat) (g:=fun _=>some ((Agg a b,()),(),(),())) ?_
   ⟨(dg a).length,ab4 _,by rw[(Du (n:=a)).1 (ab4 _),wz,(Du (n:=b)).1 (ab4 _)],rfl⟩ (by rw[Au];simp only;omega)
  rintro x aa ⟨i,hi,he,rfl⟩ hag
  simp only at hag ⊢
  unfold At0
  simp only[Ad,Ao]
  by_cases h1:(i:Int)-1≥0
  ·have hti:((i:Int)-1).toNat=i-1:=by omega
   have ea:=Il a (i-1);have eb:=Il b (i-1)
   rw[show i-1+1=i by omega] at ea eb
   have lta:a / 65536 ^ (i-1)<b / 65536 ^ (i-1)→a<b:=fun h=>by
    rcases ad3 a b with h'|h'
    ·exact h'
    ·have:b / 65536 ^ (i-1)≤a / 65536 ^ (i-1):=al7 h'
     omega
   have ltb:b / 65536 ^ (i-1)<a / 65536 ^ (i-1)→b<a:=fun h=>by
    rcases ad3 b a with h'|h'
    ·exact h'
    ·have:a / 65536 ^ (i-1)≤b / 65536 ^ (i-1):=al7 h'
     omega
   have iy:a / 65536 ^ (i-1)=b / 65536 ^ (i-1)→aa (dg a,dg b,(i:Int)-1-1,())=some ((Agg a b,()),(),(),()):=fun h =>
    hag _ ⟨i-1,by omega,h,by rw[show ((i-1:Nat):Int)=(i:Int)-1 by omega]⟩ (by simp only;omega)
   have iA:(0:Int)≤(i:Int)-1∧(i:Int)-1<(((dg a).length:Nat):Int):=by omega
   have iB:(0:Int)≤(i:Int)-1∧(i:Int)-1<(((dg b).length:Nat):Int):=by omega
   simp only[aa0 h1,aa0 iA,aa0 iB]
   rw[hti,Abo,Abo,Ar (by omega) (by omega)]
   rw[ea,eb] at he
   clear hag
   generalize a / 65536 ^ (i-1)=qa at *
   generalize b / 65536 ^ (i-1)=qb at *
   by_cases c1:((qa % 65536:Nat):Int)<((qb % 65536:Nat):Int)
   ·rw[aa0 c1]
    unfold Agg
    rw[aa0 (lta (by omega))]
   ·rw[aa1 c1]
    by_cases c2:((qa % 65536:Nat):Int)>((qb % 65536:Nat):Int)
    ·rw[aa0 c2]
     have:=ltb (by omega)
     unfold Agg
     rw[aa1 (by omega),aa0 this]
    ·rw[aa1 c2]
     exact iy (by omega)
  ·have:i=0:=by omega
   subst this
   rw[aa1 h1]
   simp only[ah2,al6] at he
   subst he
   unfold Agg
   simp
 ·rw[aa1 hl]
  by_cases ar:(((dg a).length:Nat):Int)<(((dg b).length:Nat):Int)
  ·rw[aa0 ar]
   unfold Agg
   rw[aa0 (ltl (by omega))]
  ·rw[aa1 ar]
   have:=ltl (x:=b) (y:=a) (by omega)
   unfold Agg
   rw[aa1 (by omega),aa0 this]
theorem Lp{A D B:Nat}(hD:A=B+D)(hA:(dg A).length≤1000):Do (dg A,dg B,())=some ((dg D,()),(),(),()):=by
 unfold Do Aw1
 have jx:A / 65536 ^ (dg A).length=0:=(Du (n:=A)).1 (ab4 _)
 have td:D / 65536 ^ (dg A).length=0:=by
  have:D / 65536 ^ (dg A).length≤A / 65536 ^ (dg A).length:=al7 (by omega)
  rw[jx] at this
  exact Nat.le_zero.1 this
 rw[aa7 (show (0:Int)≤(((dg A).length:Nat):Int) by omega),aa7 (ap5 _),aa3]
 simp only[Bool.and_self,ao1,ak7]
 rw[Aok (by omega)]
 refine Ai (I:=fun x=>∃ (i u:Nat),i≤(dg A).length∧u≤1∧A / 65536 ^ i=B / 65536 ^ i+D / 65536 ^ i+u∧x=(dg A,dg B,lo i D++List.replicate ((dg A).length-i) 0,(u:Int),(i:Int),()))
  (m:=fun x=>((1001:Int)-x.2.2.2.2.1).toNat) (g:=fun _=>some ((dg D,()),(),(),())) ?_ ⟨0,0,by omega,by omega,by simp[hD],rfl⟩ (by rw[Au];simp only;omega)
 rintro x aa ⟨i,u,hi,hu,hd,rfl⟩ hag
 simp only at hag ⊢
 have la:=Aid i A;have lb:=Aid i B
 have ga:=Abo i A;have gb:=Abo i B
 have sa:=Il A i;have sb:=Il B i;have sd:=Il D i
 have cx:i<(dg A).length→List.set (lo i D++List.replicate ((dg A).length-i) 0) i ((D / 65536 ^ i % 65536:Nat):Int)=lo (i+1) D++List.replicate ((dg A).length-(i+1)) 0:=fun h=>by
  rw[List.set_append,aa1 (by rw[Abs];omega),Abs,ak2,show (dg A).length-i=((dg A).length-(i+1))+1 by omega,aq0,am9,Bsn]
  simp
 have i7:(lo i D++List.replicate ((dg A).length-i) 0).length=(dg A).length:=by rw[aa4,Abs,List.length_replicate];omega
 have step:∀ u':Nat,u'≤1→A / 65536 ^ i / 65536=B / 65536 ^ i / 65536+D / 65536 ^ i / 65536+u'→i<(dg A).length→aa (dg A,dg B,lo (i+1) D++List.replicate ((dg A).length-(i+1)) 0,((u':Nat):Int),(i:Int)+1,())=some ((dg D,()),(),(),()):=fun u' h1 h2 h3 =>
  hag _ ⟨i+1,u',by omega,h1,by rw[sa,sb,sd];exact h2,by rw[ab0];rfl⟩ (by simp only;omega)
 clear hag
 unfold Au4
 simp only[Am,Ad,Ao,aa3,ga,gb,i7]
 by_cases h1:(i:Int)<(((dg A).length:Nat):Int)
 ·have bx:i<(dg A).length:=by omega
  have cx:=cx bx
  have step:=fun u' h1 h2=>step u' h1 h2 bx
  have iA:(0:Int)≤(i:Int)∧(i:Int)<(((dg A).length:Nat):Int):=by omega
  have pe:IntKind.wrap .i64 ((i:Int)+1)=(i:Int)+1:=Ar (by omega) (by omega)
  simp only[aa0 h1,aa0 iA,pe]
  generalize A / 65536 ^ i=a1 at *
  generalize B / 65536 ^ i=b1 at *
  generalize D / 65536 ^ i=d1 at *
  generalize (dg A).length=nla at *
  generalize (dg B).length=uy at *
  have hv6:IntKind.wrap .i64 (((a1 % 65536:Nat):Int)-(u:Int))=((a1 % 65536:Nat):Int)-(u:Int):=Ar (by omega) (by omega)
  have hv7:IntKind.wrap .i64 (((a1 % 65536:Nat):Int)-(u:Int)-((b1 % 65536:Nat):Int))=((a1 % 65536:Nat):Int)-(u:Int)-((b1 % 65536:Nat):Int):=Ar (by omega) (by omega)
  have hv8:IntKind.wrap .i64 (((a1 % 65536:Nat):Int)-(u:Int)+65536)=((a1 % 65536:Nat):Int)-(u:Int)+65536:=Ar (by omega) (by omega)
  have hv9:IntKind.wrap .i64 (((a1 % 65536:Nat):Int)-(u:Int)-((b1 % 65536:Nat):Int)+65536)=((a1 % 65536:Nat):Int)-(u:Int)-((b1 % 65536:Nat):Int)+65536:=Ar (by omega) (by omega)
  simp only[hv6,hv7,hv8,hv9]
  by_cases cb:(i:Int)<(uy:Int)
  ·have iB:(0:Int)≤(i:Int)∧(i:Int)<(uy:Int):=by omega
   simp only[aa0 cb,aa0 iB]
   by_cases cn:((a1 % 65536:Nat):Int)-(u:Int)-((b1 % 65536:Nat):Int)<0
   ·rw[aa0 cn,show ((a1 % 65536:Nat):Int)-(u:Int)-((b1 % 65536:Nat):Int)+65536=((d1 % 65536:Nat):Int) by omega,cx]
    exact step 1 (by omega) (by omega)
   ·rw[aa1 cn,show ((a1 % 65536:Nat):Int)-(u:Int)-((b1 % 65536:Nat):Int)=((d1 % 65536:Nat):Int) by omega,cx]
    exact step 0 (by omega) (by omega)
  ·have qv:b1=0:=by omega
   subst qv
   simp only[aa1 cb]
   by_cases cn:((a1 % 65536:Nat):Int)-(u:Int)<0
   ·rw[aa0 cn,show ((a1 % 65536:Nat):Int)-(u:Int)+65536=((d1 % 65536:Nat):Int) by omega,cx]
    exact step 1 (by omega) (by omega)
   ·rw[aa1 cn,show ((a1 % 65536:Nat):Int)-(u:Int)=((d1 % 65536:Nat):Int) by omega,cx]
    exact step 0 (by omega) (by omega)
 ·have wb:i=(dg A).length:=by omega
  rw[aa1 h1]
  subst wb
  rw[ak2,am1,ah9,Aru (by omega) td,Aa]
  dsimp only
  rw[Ang td]
theorem Aex{a b:Nat}(ha:a<115792089237316195423570985008687907853269984665640564039457584007913129639936)(hb:b<115792089237316195423570985008687907853269984665640564039457584007913129639936) :
  Ec (At a,At b,())=some ((if b≤a then (At (a-b),(0:Int),()) else ([(0:Int),0,0,0],(4:Int),())),(),(),()):=by
 have la:=Og.2 ha;have lb:=Og.2 hb
 unfold Ec Akn
 rw[Cd ha];simp only[Aa]
 rw[Cd hb];simp only[Aa]
 rw[Atu (by omega) (by omega)];simp only[Aa,Ad]
 unfold Agg
 by_cases h:b≤a
 ·rw[aa1 (show ¬ a<b by omega),aa1 (by split<;>omega),aa0 h,Lp (A:=a) (B:=b) (D:=a-b) (by omega) (by omega)]
  simp only[Aa]
  rw[Uo (by omega)]
  rfl
 ·rw[aa0 (show a<b by omega),aa0 (by omega),aa1 h]
theorem Wr(n:Nat):Bs (At n,())=some ((decide (n=0),()),(),()):=by
 unfold Bs Ajj
 rw[← Bpg,Asg]
theorem Cav{a b:Nat}(ha:Al a)(hb:Al b):Wi (At a,At b,())=some ((Agg a b,()),(),(),()):=by
 unfold Al at ha hb
 unfold Wi Akf
 refine Ai (I:=fun x=>∃ i:Nat,i≤4∧a / 18446744073709551616 ^ i=b / 18446744073709551616 ^ i∧x=(At a,At b,(i:Int)-1,())) (m:=fun x=>(x.2.2.1+1).toNat)
  (g:=fun _=>some ((Agg a b,()),(),(),())) ?_ ⟨4,by omega,by rw[Cgd];omega,rfl⟩ (by rw[Au];simp only;omega)
 rintro x aa ⟨i,hi,hd,rfl⟩ hag
 simp only at hag ⊢
 unfold Amv
 simp only[Ad,Ao]
 by_cases h0:i=0
 ·subst h0
  rw[aa1 (by omega)]
  have:a=b:=by simpa using hd
  subst this
  unfold Agg
  rw[aa1 (by omega),aa1 (by omega)]
 ·obtain⟨j,rfl⟩:=Nat.exists_eq_succ_of_ne_zero h0
  have e:(((j+1:Nat):Int)-1)=(j:Int):=by omega
  have key:∀ n,n / 18446744073709551616 ^ j=n / 18446744073709551616 ^ (j+1)*18446744073709551616+lb n j:=fun n=>by
   rw[Apv];unfold lb
   generalize n / 18446744073709551616 ^ j=q
   omega
  have ka:=key a
  have kb:=key b
  rw[Nat.succ_eq_add_one] at hd hag ⊢
  rw[e,aa0 (by omega),aa0 (by omega),aa0 (by omega),aa3,Als ha (by omega),Als hb (by omega)]
  by_cases c1:((lb a j:Nat):Int)<((lb b j:Nat):Int)
  ·rw[aa0 c1]
   have:a<b:=by
    rcases ad3 a b with h|h
    ·exact h
    ·have:=al7 (c:=18446744073709551616 ^ j) h
     omega
   unfold Agg
   rw[aa0 this]
  ·rw[aa1 c1,aa0 (by omega),aa0 (by omega)]
   by_cases c2:((lb a j:Nat):Int)>((lb b j:Nat):Int)
   ·rw[aa0 c2]
    have:b<a:=by
     rcases ad3 b a with h|h
     ·exact h
     ·have:=al7 (c:=18446744073709551616 ^ j) h
      omega
    unfold Agg
    rw[aa1 (by omega),aa0 this]
   ·rw[aa1 c2,Ar (by omega) (by omega)]
    exact hag _ ⟨j,by omega,by omega,rfl⟩ (by simp only;omega)
theorem Caj:(Ty.zero (.pair (.int .u64) (.pair (.arr 4 (.int .u64)) (.pair (.int .u64) .unit))):A2)=Ib:=rfl
theorem Ceu:(((0:Int),[(0:Int),0,0,0],(0:Int),()):A2)=Ib:=rfl
abbrev zV:List Int:=[(0:Int),0,0,0]
theorem Bt8{n:Nat}(h:n≤1000000):A8 n (.pair (.int .u64) (.pair (.arr 4 (.int .u64)) (.pair (.int .u64) .unit)))=true:=by
 rw[Aeu,ac4]
 exact⟨by decide,by simp only[Ty.size];omega⟩
theorem Ccm{l:List A2}(h:l.length≤1000000):Bw (l,())=some ((l,()),(),()):=by
 unfold Bw Ei
 simp only[Am]
 rw[Bt8 (by omega),Ap,Ad]
 split
 ·rename_i h0
  have:l=[]:=aq7.1 h0
  subst this
  exact Bm0 rfl rfl
 ·rfl
theorem Bz6{x:A2}(h:Aky x):Nz (x,())=some ((decide (isE x),()),(),()):=by
 obtain⟨ha,hb,hn⟩:=h
 rename_i a b n
 unfold Nz Aao
 simp only
 rw[← Bpg,Asg,Ad]
 have e:isE (a,At b,n,())↔b=0∧n=0:=by
  unfold isE
  simp only[ai9,true_and,aq4]
  rw[← Bpg,Be6]
 by_cases h0:b=0
 ·rw[aa0 h0]
  by_cases h1:n=0
  ·rw[aa7 h1,aa7 (e.2 ⟨h0,h1⟩)]
  ·rw[ab5 h1,ab5 fun h=>h1 (e.1 h).2]
 ·rw[aa1 h0,ab5 fun h=>h0 (e.1 h).1]
abbrev bal(l:List A2)(a:Int):Nat:=D8 (I5 l a).2.1
abbrev non(l:List A2)(a:Int):Int:=(I5 l a).2.2.1
structure Ala(l:List A2)(vs:List Nat):Prop where
 srt:Srt l
 ne:NE l
 all:Aaf l
 nz:∀ x∈l,x.1≠0
 len:vs.length=4
 sum:Fr l+vs.sum<115792089237316195423570985008687907853269984665640564039457584007913129639936
theorem Akr{l:List A2}{a:Int}(h:Aaf l)(ha:B2 a):I5 l a=(a,At (bal l a),non l a,())∧Al (bal l a)∧B2 (non l a):=by
 have hw:=Coa h ha
 have hf:=Az2 l a
 unfold bal non
 generalize I5 l a=x at hw hf ⊢
 obtain⟨h1,h2,h3⟩:=hw
 simp only at hf ⊢
 subst hf
 rw[Bi]
 exact⟨rfl,h2,h3⟩
theorem Blm:∀ {l:List A2} {x:A2},x∈l→D8 x.2.1≤Fr l
 | y::l,x,h=>by
  rw[Nw]
  rcases aa9.1 h with rfl|h
  ·omega
  ·have:=Blm h;omega
theorem Bhy(l:List A2)(a:Int):bal l a≤Fr l:=by
 unfold bal
 rcases Bmw l a with h | ⟨_,h⟩
 ·exact Blm h
 ·rw[h,Big];omega
theorem Ce7:∀ {vs:List Nat} {n:Nat},n∈vs→n≤vs.sum
 | m::vs,n,h=>by
  rw[List.sum_cons]
  rcases aa9.1 h with rfl|h
  ·omega
  ·have:=Ce7 h;omega
theorem Btr(vs:List Nat)(i:Nat):vs.getD i 0≤vs.sum:=by
 rcases ad3 i vs.length with h|h
 ·exact Ce7 (B3 h)
 ·rw[aa2,ai4 h];exact ac2 _
theorem Bfz(vs:List Nat)(i:Nat):List.getD (vs.map At) i zV=At (vs.getD i 0):=by
 rw[aa2,ag3,aa2]
 cases vs[i]? with
 | none=>rfl
 | some n=>rfl
theorem Bsm:∀ {vs:List Nat} {i n:Nat},i<vs.length→(vs.set i n).sum+vs.getD i 0=vs.sum+n
 | m::vs,0,n,_=>by simp;omega
 | m::vs,i+1,n,h=>by
  have:=Bsm (vs:=vs) (i:=i) (n:=n) (by simpa using h)
  simp only[List.set_cons_succ,List.sum_cons,ah1]
  omega
theorem Ala.vB{l:List A2}{vs:List Nat}(h:Ala l vs):∀ n∈vs,Al n:=fun n hn=>by
 have:=Ce7 hn
 have:=h.sum
 unfold Al;omega
abbrev crd(l:List A2)(a:Int)(n:Nat):List A2:=Jy l (a,At (bal l a+n),non l a,())
abbrev deb(l:List A2)(a:Int)(n:Nat):List A2:=Jy l (a,At (bal l a-n),non l a,())
abbrev inc(l:List A2)(a:Int):List A2:=Jy l (a,At (bal l a),non l a+1,())
theorem Cat(l:List A2)(a:Int)(n:Nat):(crd l a n).length≤l.length+1:=Ayz _ _
theorem Bta(l:List A2)(a:Int)(n:Nat):(deb l a n).length≤l.length+1:=Ayz _ _
theorem Cks(l:List A2)(a:Int):(inc l a).length≤l.length+1:=Ayz _ _
theorem Cau{l:List A2}{a:Int}{n:Nat}(hs:Srt l):Fr (crd l a n)=Fr l+n:=by
 have:=Azp (y:=(a,At (bal l a+n),non l a,())) hs
 simp only[Bi] at this
 have e:bal l a=D8 (I5 l a).2.1:=rfl
 unfold crd
 omega
theorem Bfj{l:List A2}{a:Int}{n:Nat}(hs:Srt l)(h:n≤bal l a):Fr (deb l a n)+n=Fr l:=by
 have:=Azp (y:=(a,At (bal l a-n),non l a,())) hs
 simp only[Bi] at this
 have e:bal l a=D8 (I5 l a).2.1:=rfl
 unfold deb
 have:=Bhy l a
 omega
theorem Ck4{l:List A2}{a:Int}(hs:Srt l):Fr (inc l a)=Fr l:=by
 have:=Azp (y:=(a,At (bal l a),non l a+1,())) hs
 simp only[Bi] at this
 have e:bal l a=D8 (I5 l a).2.1:=rfl
 unfold inc
 omega
theorem Ci9{l:List A2}{y:A2}(h:∀ x∈l,x.1≠0)(hy:y.1≠0):∀ x∈Jy l y,x.1≠0:=fun x hx=>by
 rcases Aqc hx with hx | ⟨rfl,_⟩
 ·exact h x hx
 ·exact hy
theorem Ala.put{l:List A2}{vs:List Nat}{y:A2}(h:Ala l vs)(hy:Aky y)(hz:y.1≠0)(de:Fr (Jy l y)+vs.sum<115792089237316195423570985008687907853269984665640564039457584007913129639936):Ala (Jy l y) vs :=
 ⟨Aup h.srt,Bul h.ne,Bu3 h.all hy,Ci9 h.nz hz,h.len,de⟩
def Bi9(l:List A2)(vs:List Nat)(a:Int)(n:Nat):Int×(List A2×List Nat) :=
 if a=0 then (2,l,vs) else if Fr l+vs.sum+n<115792089237316195423570985008687907853269984665640564039457584007913129639936 then (0,crd l a n,vs) else (4,l,vs)
def Bh5(l:List A2)(vs:List Nat)(a b:Int)(n:Nat):Int×(List A2×List Nat) :=
 if a=0∨b=0 then (2,l,vs) else if n≤bal l a then (0,crd (deb l a n) b n,vs) else (10,l,vs)
abbrev vix(v:Int):Nat:=(v-1).toNat
def Cd1(l:List A2)(vs:List Nat)(a v:Int)(n:Nat):Int×(List A2×List Nat) :=
 if a=0∨¬ (1≤v∧v≤4) then (2,l,vs) else if n≤bal l a then (0,deb l a n,vs.set (vix v) (vs.getD (vix v) 0+n)) else (10,l,vs)
def wdS(l:List A2)(vs:List Nat)(a:Int)(n:Nat):Int×(List A2×List Nat) :=
 if a=0 then (2,l,vs) else if n≤bal l a then (0,deb l a n,vs) else (10,l,vs)
def wvS(l:List A2)(vs:List Nat)(v:Int)(n:Nat):Int×(List A2×List Nat) :=
 if 1≤v∧v≤4 then (if n≤vs.getD (vix v) 0 then (0,l,vs.set (vix v) (vs.getD (vix v) 0-n)) else (10,l,vs)) else (2,l,vs)
def Cdy(l:List A2)(vs:List Nat)(a:Int):Int×(List A2×List Nat) :=
 if a=0 then (2,l,vs) else if non l a=18446744073709551615 then (4,l,vs) else (0,inc l a,vs)
theorem Ala.deb{l:List A2}{vs:List Nat}{a:Int}{n:Nat}(h:Ala l vs)(hu:B2 a)(hz:a≠0)(hn:n≤bal l a):Ala (deb l a n) vs:=by
 obtain⟨_,f0,ky⟩:=Akr h.all hu
 have hs:=Bfj h.srt hn
 have de:=h.sum
 exact h.put (Aky.mk hu (by unfold Al at *;omega) ky) hz (by show Fr (Go.Pon.deb l a n)+_<_;omega)
def okA(l:List A2)(i:Nat):Prop:=(l.getD i Ib).1≠0∧¬ isE (l.getD i Ib)∧(0<i→(l.getD (i-1) Ib).1<(l.getD i Ib).1)
def VA(l:List A2):Prop:=∀ i,i<l.length→okA l i
theorem VA.srt{l:List A2}(h:VA l):Srt l:=by
 refine am4.2 fun i j hi hj qt=>?_
 have key:∀ d,i+1+d<l.length→(l.getD i Ib).1<(l.getD (i+1+d) Ib).1:=by
  intro d
  induction d with
  | zero=>intro hd;exact (h (i+1) (by omega)).2.2 (by omega)
  | succ d ih =>
   intro hd
   have h1:=ih (by omega)
   have h2:=(h (i+1+(d+1)) hd).2.2 (by omega)
   rw[show i+1+(d+1)-1=i+1+d by omega] at h2
   omega
 have:=key (j-i-1) (by omega)
 rw[show i+1+(j-i-1)=j by omega,aa2,aa6 hi,aa2,aa6 hj] at this
 exact this
theorem Bx4{l:List A2}{x:A2}(h:x∈l):∃ i,i<l.length∧l.getD i Ib=x:=by
 obtain⟨i,hi,rfl⟩:=ao0 h
 exact⟨i,hi,by rw[aa2,aa6 hi];rfl⟩
theorem VA.ne{l:List A2}(h:VA l):NE l:=fun x hx=>by
 obtain⟨i,hi,rfl⟩:=Bx4 hx
 exact (h i hi).2.1
theorem VA.nz{l:List A2}(h:VA l):∀ x∈l,x.1≠0:=fun x hx=>by
 obtain⟨i,hi,rfl⟩:=Bx4 hx
 exact (h i hi).1
theorem Ala.va{l:List A2}{vs:List Nat}(h:Ala l vs):VA l:=fun i hi =>
 ⟨h.nz _ (B3 hi),h.ne _ (B3 hi),fun h0=>Cf4 h.srt (by omega) hi⟩
open Classical in
def Bqo(l:List A2)(vs:List Nat):Option (List A2×List (List Int)×Unit)×(Int×Unit) :=
 if VA l then (if Fr l+vs.sum<115792089237316195423570985008687907853269984665640564039457584007913129639936 then (some (l,vs.map At,()),(0:Int),()) else (none,(4:Int),())) else (none,(2:Int),())
theorem Bze{l:List A2}{vs:List Nat}{s:Nat}(hl:l.length≤1000000)(ag:vs.length=4)(hb:∀ n∈vs,Al n)(hs:Al s) :
  Ac _ _ (fun aa x=>Abr Fu Bw aa x.1 x.2.1 x.2.2.1 x.2.2.2.1 x.2.2.2.2.1) (l,vs.map At,At s,vs.map At,(0:Int),()) =
   some ((if s+vs.sum<115792089237316195423570985008687907853269984665640564039457584007913129639936 then (some (l,vs.map At,()),(0:Int),()) else (none,(4:Int),())),(),(),()):=by
 refine Ai (I:=fun x=>∃ i:Nat,i≤4∧s+(vs.take i).sum<115792089237316195423570985008687907853269984665640564039457584007913129639936∧x=(l,vs.map At,At (s+(vs.take i).sum),vs.map At,(i:Int),())) (m:=fun x=>((4:Int)-x.2.2.2.2.1).toNat)
  (g:=fun _=>some ((if s+vs.sum<115792089237316195423570985008687907853269984665640564039457584007913129639936 then (some (l,vs.map At,()),(0:Int),()) else (none,(4:Int),())),(),(),())) ?_
  ⟨0,by omega,by unfold Al at hs;simpa using hs,by simp⟩ (by rw[Au];simp only;omega)
 rintro x aa ⟨i,hi,jo,rfl⟩ hag
 simp only at hag ⊢
 unfold Abr
 simp only[Ad,Ao,An]
 by_cases h:(i:Int)<4
 ·have hm:vs.getD i 0∈vs:=B3 (by omega)
  have ht:(vs.take (i+1)).sum=(vs.take i).sum+vs.getD i 0:=by rw[Of (d:=0) (by omega),ar1,List.sum_singleton]
  have cf:(vs.take (i+1)).sum≤vs.sum:=by
   have:(vs.take (i+1)++vs.drop (i+1)).sum=vs.sum:=by rw[ad7]
   rw[ar1] at this;omega
  rw[aa0 h,aa0 (by omega),aa3,Bfz,Bkp jo (hb _ hm)]
  simp only[Aa]
  by_cases c:s+(vs.take i).sum+vs.getD i 0<115792089237316195423570985008687907853269984665640564039457584007913129639936
  ·simp only[aa0 c,ar3]
   rw[Ar (by omega) (by omega)]
   exact hag _ ⟨i+1,by omega,by omega,by rw[ht,aj3,ab0];rfl⟩ (by simp only;omega)
  ·simp only[aa1 c]
   rw[aa1 (by decide),aa1 (by omega)]
 ·rw[aa8 (by omega)] at jo
  rw[aa1 h,aa0 jo,Ccm hl]
  rfl
theorem Bym{l:List A2}{vs:List Nat}(ha:Aaf l)(hl:l.length≤1000000)(ag:vs.length=4)(hb:∀ n∈vs,Al n) :
  Ac _ _ (fun aa x=>Abz Ac Fu Bw aa x.1 x.2.1 x.2.2.1 x.2.2.2.1 x.2.2.2.2.1 x.2.2.2.2.2.1) (l,vs.map At,[(0:Int),0,0,0],l,(l.length:Int),(0:Int),()) =
   some ((if Fr l+vs.sum<115792089237316195423570985008687907853269984665640564039457584007913129639936 then (some (l,vs.map At,()),(0:Int),()) else (none,(4:Int),())),(),(),()):=by
 refine Ai (I:=fun x=>∃ i:Nat,i≤l.length∧Fr (l.take i)<115792089237316195423570985008687907853269984665640564039457584007913129639936∧x=(l,vs.map At,At (Fr (l.take i)),l,(l.length:Int),(i:Int),())) (m:=fun x=>((l.length:Int)-x.2.2.2.2.2.1).toNat)
  (g:=fun _=>some ((if Fr l+vs.sum<115792089237316195423570985008687907853269984665640564039457584007913129639936 then (some (l,vs.map At,()),(0:Int),()) else (none,(4:Int),())),(),(),())) ?_
  ⟨0,by omega,by rw[ag1,Tt];decide,by rw[ag1,Tt,Aut];rfl⟩ (by rw[Au];simp only;omega)
 rintro x aa ⟨i,hi,jo,rfl⟩ hag
 simp only at hag ⊢
 unfold Abz
 rw[Caj]
 simp only[Ad,Ao,An]
 by_cases h:(i:Int)<(l.length:Int)
 ·have ht:Fr (l.take (i+1))=Fr (l.take i)+D8 (l.getD i Ib).2.1:=by
   rw[Of (d:=Ib) (by omega),Alc,Nw,Tt,af6]
  have cf:Fr (l.take (i+1))≤Fr l:=by
   have:Fr (l.take (i+1)++l.drop (i+1))=Fr l:=by rw[ad7]
   rw[Alc] at this;omega
  rw[aa0 h,aa0 (by omega),aa3]
  have hw:=ha.at i
  generalize l.getD i Ib=y at hw ht ⊢
  obtain⟨h1,h2,h3⟩:=hw
  rename_i a b n
  simp only at ht ⊢
  rw[Bi] at ht
  rw[Bkp jo h2]
  simp only[Aa]
  by_cases c:Fr (l.take i)+b<115792089237316195423570985008687907853269984665640564039457584007913129639936
  ·simp only[aa0 c,ar3]
   rw[Ar (by omega) (by omega),← ht]
   exact hag _ ⟨i+1,by omega,by omega,by rw[ab0];rfl⟩ (by simp only;omega)
  ·simp only[aa1 c]
   rw[aa1 (by decide),aa1 (by omega)]
 ·rw[aa8 (by omega)] at jo ⊢
  rw[aa1 h]
  exact Bze hl ag hb jo
theorem Cj8{l:List A2}{vs:List Nat}(ha:Aaf l)(hl:l.length≤1000000)(ag:vs.length=4)(hb:∀ n∈vs,Al n) :
  Vx (l,vs.map At,())=some (Bqo l vs,(),(),()):=by
 unfold Vx Akd
 refine Ai (I:=fun x=>∃ i:Nat,i≤l.length∧(∀ j,j<i→okA l j)∧x=(l,vs.map At,l,(l.length:Int),(i:Int),())) (m:=fun x=>((l.length:Int)-x.2.2.2.2.1).toNat)
  (g:=fun _=>some (Bqo l vs,(),(),())) ?_
  ⟨0,by omega,fun j hj=>by omega,rfl⟩ (by rw[Au];simp only;omega)
 rintro x aa ⟨i,hi,bj,rfl⟩ hag
 simp only at hag ⊢
 unfold Amm
 rw[Caj]
 simp only[Am,Ad,Ao,An]
 by_cases h:(i:Int)<(l.length:Int)
 ·have bx:i<l.length:=by omega
  have ii:(0:Int)≤(i:Int)∧(i:Int)<(l.length:Int):=by omega
  have bad:¬ okA l i→Bqo l vs=(none,(2:Int),()):=fun h=>aa1 fun hv=>h (hv i bx)
  have iy:okA l i→aa (l,vs.map At,l,(l.length:Int),(i:Int)+1,())=some (Bqo l vs,(),(),()):=fun h =>
   hag _ ⟨i+1,by omega,fun j hj=>by
    by_cases e:j=i
    ·rw[e];exact h
    ·exact bj j (by omega),by rw[ab0];rfl⟩ (by simp only;omega)
  clear hag
  have pe:IntKind.wrap .i64 ((i:Int)+1)=(i:Int)+1:=Ar (by omega) (by omega)
  have uz:IntKind.wrap .i64 ((i:Int)-1)=(i:Int)-1:=Ar (by omega) (by omega)
  have u6:((i:Int)-1).toNat=i-1:=by omega
  simp only[aa0 h,aa0 ii,pe,uz,u6,aa3]
  rw[Bz6 (ha.at i)]
  simp only[Aa,Ad]
  unfold okA at bad iy
  by_cases c1:(l.getD i Ib).1=0
  ·rw[aa0 c1,bad fun h=>h.1 c1]
  rw[aa1 c1]
  by_cases c2:isE (l.getD i Ib)
  ·rw[aa0 c2,bad fun h=>h.2.1 c2]
  rw[aa1 c2]
  by_cases c3:(i:Int)>0
  ·rw[aa0 c3,aa0 (by omega)]
   by_cases c4:(l.getD i Ib).1≤(l.getD (i-1) Ib).1
   ·rw[aa0 c4,bad fun h=>by have:=h.2.2 (by omega);omega]
   ·rw[aa1 c4]
    exact iy ⟨c1,c2,fun _=>by omega⟩
  ·rw[aa1 c3]
   exact iy ⟨c1,c2,fun _=>by omega⟩
 ·have hva:VA l:=fun j hj=>bj j (by omega)
  rw[aa1 h]
  unfold Bqo
  rw[aa0 hva]
  exact Bym ha hl ag hb
structure Avy(l:List A2)(vs:List Nat)(r:Int×List A2×List Nat)(i o:Nat):Prop where
 inv:Ala r.2.1 r.2.2
 len:r.2.1.length≤l.length+2
 bad:r.1≠0→r.2=(l,vs)
 sum:r.1=0→Fr r.2.1+r.2.2.sum+o=Fr l+vs.sum+i
theorem Avy.same{l:List A2}{vs:List Nat}{c:Int}{i o:Nat}(h:Ala l vs)(hc:c≠0):Avy l vs (c,l,vs) i o :=
 ⟨h,by simp only;omega,fun _=>rfl,fun e=>absurd e hc⟩
theorem Chg{l:List A2}{vs:List Nat}{a:Int}{n:Nat}(h:Ala l vs)(ha:B2 a)(hn:Al n):Avy l vs (Bi9 l vs a n) n 0:=by
 unfold Bi9
 by_cases c:a=0
 ·rw[aa0 c];exact .same h (by decide)
 rw[aa1 c]
 by_cases c2:Fr l+vs.sum+n<115792089237316195423570985008687907853269984665640564039457584007913129639936
 ·rw[aa0 c2]
  obtain⟨_,f0,ky⟩:=Akr h.all ha
  have hs:=Cau (a:=a) (n:=n) h.srt
  have yn:=Bhy l a
  refine⟨h.put (Aky.mk ha (by unfold Al;omega) ky) c (by show Fr (crd l a n)+_<_;omega),by have:=Cat l a n;simp only;omega,fun e=>absurd rfl e,fun _=>by simp only;omega⟩
 ·rw[aa1 c2];exact .same h (by decide)
theorem Cci{l:List A2}{vs:List Nat}{a b:Int}{n:Nat}(h:Ala l vs)(ha:B2 a)(hb:B2 b)(hn:Al n):Avy l vs (Bh5 l vs a b n) 0 0:=by
 unfold Bh5
 by_cases c:a=0∨b=0
 ·rw[aa0 c];exact .same h (by decide)
 rw[aa1 c]
 by_cases c2:n≤bal l a
 ·rw[aa0 c2]
  have hi:=h.deb ha (by omega) c2
  obtain⟨_,f0,ky⟩:=Akr hi.all hb
  have hs:=Bfj h.srt c2
  have sr:=Cau (l:=deb l a n) (a:=b) (n:=n) hi.srt
  have yn:=Bhy (deb l a n) b
  have de:=h.sum
  have l1:=Bta l a n
  have l2:=Cat (deb l a n) b n
  refine⟨hi.put (Aky.mk hb (by unfold Al;omega) ky) (by simp only;omega) (by show Fr (crd (deb l a n) b n)+_<_;omega),by simp only;omega,fun e=>absurd rfl e,fun _=>by simp only;omega⟩
 ·rw[aa1 c2];exact .same h (by decide)
theorem Ci4{l:List A2}{vs:List Nat}{a v:Int}{n:Nat}(h:Ala l vs)(ha:B2 a)(hn:Al n):Avy l vs (Cd1 l vs a v n) 0 0:=by
 unfold Cd1
 by_cases c:a=0∨¬ (1≤v∧v≤4)
 ·rw[aa0 c];exact .same h (by decide)
 rw[aa1 c]
 by_cases c2:n≤bal l a
 ·rw[aa0 c2]
  have hi:=h.deb ha (by omega) c2
  have hs:=Bfj h.srt c2
  have ag:=h.len
  have de:=h.sum
  have hv:=Bsm (vs:=vs) (i:=vix v) (n:=vs.getD (vix v) 0+n) (by unfold vix;omega)
  have l1:=Bta l a n
  refine⟨⟨hi.srt,hi.ne,hi.all,hi.nz,by simp only[ae1];exact ag,by simp only;omega⟩,by simp only;omega,fun e=>absurd rfl e,fun _=>by simp only;omega⟩
 ·rw[aa1 c2];exact .same h (by decide)
theorem Cmf{l:List A2}{vs:List Nat}{a:Int}{n:Nat}(h:Ala l vs)(ha:B2 a)(hn:Al n):Avy l vs (wdS l vs a n) 0 n:=by
 unfold wdS
 by_cases c:a=0
 ·rw[aa0 c];exact .same h (by decide)
 rw[aa1 c]
 by_cases c2:n≤bal l a
 ·rw[aa0 c2]
  have hi:=h.deb ha (by omega) c2
  have hs:=Bfj h.srt c2
  have l1:=Bta l a n
  refine⟨hi,by simp only;omega,fun e=>absurd rfl e,fun _=>by simp only;omega⟩
 ·rw[aa1 c2];exact .same h (by decide)
theorem Cl0{l:List A2}{vs:List Nat}{v:Int}{n:Nat}(h:Ala l vs)(hn:Al n):Avy l vs (wvS l vs v n) 0 n:=by
 unfold wvS
 by_cases c:1≤v∧v≤4
 ·rw[aa0 c]
  by_cases c2:n≤vs.getD (vix v) 0
  ·rw[aa0 c2]
   have ag:=h.len
   have de:=h.sum
   have hv:=Bsm (vs:=vs) (i:=vix v) (n:=vs.getD (vix v) 0-n) (by unfold vix;omega)
   exact⟨⟨h.srt,h.ne,h.all,h.nz,by simp only[ae1];exact ag,by simp only;omega⟩,by simp only;omega,fun e=>absurd rfl e,fun _=>by simp only;omega⟩
  ·rw[aa1 c2];exact .same h (by decide)
 ·rw[aa1 c];exact .same h (by decide)
theorem Ci7{l:List A2}{vs:List Nat}{a:Int}(h:Ala l vs)(ha:B2 a):Avy l vs (Cdy l vs a) 0 0:=by
 unfold Cdy
 by_cases c:a=0
 ·rw[aa0 c];exact .same h (by decide)
 rw[aa1 c]
 by_cases c2:non l a=18446744073709551615
 ·rw[aa0 c2];exact .same h (by decide)
 ·rw[aa1 c2]
  obtain⟨_,f0,ky⟩:=Akr h.all ha
  have hs:=Ck4 (a:=a) h.srt
  have l1:=Cks l a
  have de:=h.sum
  refine⟨h.put (Aky.mk ha f0 (by unfold B2 at *;omega)) c (by show Fr (inc l a)+_<_;omega),by simp only;omega,fun e=>absurd rfl e,fun _=>by simp only;omega⟩
structure Xp(m:List A2):Prop where
 dist:Bsl m
 all:Aaf m
def atA:List A2→Int→Nat→Int
 | [],_,_=>-1
 | x::m,a,k=>if x.1=a then (k:Int) else atA m a (k+1)
theorem Cf6(x:A2)(m:List A2)(a:Int)(k:Nat):atA (x::m) a k=if x.1=a then (k:Int) else atA m a (k+1):=rfl
theorem Cke{x:A2}(h:Aky x):isE x↔D8 x.2.1=0∧x.2.2.1=0:=by
 obtain⟨h1,h2,h3⟩:=h
 unfold isE
 simp only[ai9,true_and,aq4]
 rw[← Bpg,Be6,Bi]
theorem Byv{x:A2}(h:Aky x):Bs (x.2.1,())=some ((decide (D8 x.2.1=0),()),(),()):=by
 obtain⟨h1,h2,h3⟩:=h
 simp only
 rw[Wr,Bi]
theorem Bl5(a:Int):∀ (m:List A2) (k:Nat),(atA m a k = -1∧(∀ x∈m,x.1≠a)∧∀ y:A2,y.1=a→Anh m y=m++[y]) ∨
  ∃ j,j<m.length∧atA m a k=((k+j:Nat):Int)∧m.getD j Ib=I5 m a∧∀ y:A2,y.1=a→Anh m y=m.set j y
 | [],k=>.inl ⟨rfl,fun x h=>by simp at h,fun y _=>rfl⟩
 | x::m,k=>by
  unfold atA
  by_cases h:x.1=a
  ·rw[aa0 h]
   refine .inr ⟨0,by simp,rfl,?_,fun y hy=>?_⟩
   ·simp only[I5];rw[aa0 h];rfl
   ·unfold Anh;rw[aa0 (by omega)];rfl
  ·rw[aa1 h]
   rcases Bl5 a m (k+1) with⟨h1,h2,h3⟩ | ⟨j,h1,h2,h3,h4⟩
   ·refine .inl ⟨h1,fun y hy=>?_,fun y hy=>?_⟩
    ·rcases aa9.1 hy with rfl|hy
     ·exact h
     ·exact h2 y hy
    ·unfold Anh;rw[aa1 (by omega),h3 y hy];rfl
   ·refine .inr ⟨j+1,by simpa using h1,by rw[h2];omega,?_,fun y hy=>?_⟩
    ·simp only[I5];rw[aa1 h];exact h3
    ·unfold Anh;rw[aa1 (by omega),h4 y hy];rfl
theorem Bm6{l:List A2}{i:Nat}(h:i<l.length):l.drop i=l.getD i Ib::l.drop (i+1):=by
 rw[ak4 h,aa2,aa6 h]
 rfl
theorem Cf8{m:List A2}{v:List (List Int)}{a:Int}(hl:m.length≤1000000) :
  Hj ((m,v,()),a,())=some ((atA m a 0,()),(m,v,()),(),()):=by
 unfold Hj X8
 refine Ai (I:=fun x=>∃ i:Nat,i≤m.length∧atA m a 0=atA (m.drop i) a i∧x=((m,v,()),a,(i:Int),())) (m:=fun x=>((m.length:Int)-x.2.2.1).toNat)
  (g:=fun _=>some ((atA m a 0,()),(m,v,()),(),())) ?_ ⟨0,by omega,rfl,rfl⟩ (by rw[Au];simp only;omega)
 rintro x aa ⟨i,hi,hf,rfl⟩ hag
 simp only at hag ⊢
 unfold Aeh
 rw[Caj]
 simp only[Am,Ad,Ao]
 by_cases h1:(i:Int)<(m.length:Int)
 ·have bx:i<m.length:=by omega
  rw[aa0 h1,aa0 (by omega),aa3]
  rw[Bm6 bx,Cf6] at hf
  by_cases he:(m.getD i Ib).1=a
  ·rw[aa0 he] at hf ⊢
   rw[hf]
  ·rw[aa1 he] at hf ⊢
   rw[Ar (by omega) (by omega)]
   exact hag _ ⟨i+1,by omega,hf,by rw[ab0];rfl⟩ (by simp only;omega)
 ·rw[aa1 h1]
  rw[ak3 (by omega)] at hf
  rw[hf]
  rfl
theorem Ba0{m:List A2}{v:List (List Int)}{a:Int}(hl:m.length≤1000000) :
  Cq ((m,v,()),a,())=some ((I5 m a,()),(m,v,()),(),()):=by
 unfold Cq Vq
 simp only
 rw[Cf8 hl]
 simp only[Aa,Ad,Ao]
 rcases Bl5 a m 0 with⟨h1,h2,_⟩ | ⟨j,h1,h2,h3,_⟩
 ·rw[h1,aa1 (by omega),Lk h2]
 ·rw[h2,aa0 (by omega),aa0 (by omega),aa3,af1,h3]
theorem Bus{m:List A2}{v:List (List Int)}{y:A2}(hl:m.length≤900000) :
  Eg ((m,v,()),y,())=some ((),(Anh m y,v,()),(),()):=by
 unfold Eg Ve
 simp only
 rw[Cf8 (by omega)]
 simp only[Aa,Am,Ad,Ao]
 rcases Bl5 y.1 m 0 with⟨h1,_,h2⟩ | ⟨j,h1,h2,_,h3⟩
 ·rw[h1,aa1 (by omega),Bt8 (by omega),Ap,h2 y rfl,Bx]
 ·rw[h2,aa0 (by omega),aa0 (by omega),aa3,af1,h3 y rfl]
theorem Aki{n:Nat}(h:n<115792089237316195423570985008687907853269984665640564039457584007913129639936*1048576):(dg n).length≤1000:=by
 have h18:(dg n).length≤18:=Du.2 (af0 (ae3 h (by decide)))
 omega
theorem Bwu{m:List A2}(ha:Aaf m)(i:Nat):Fr (m.take i)≤i*115792089237316195423570985008687907853269984665640564039457584007913129639936:=by
 induction i with
 | zero=>rw[ag1,Tt];exact ac2 _
 | succ i ih =>
  rcases ad3 i m.length with h|h
  ·have e:Fr (m.take (i+1))=Fr (m.take i)+D8 (m.getD i Ib).2.1:=by rw[Of (d:=Ib) h,Alc,Nw,Tt,af6]
   have h2:D8 (m.getD i Ib).2.1<115792089237316195423570985008687907853269984665640564039457584007913129639936:=by
    have hw:=ha.at i
    generalize m.getD i Ib=y at hw
    obtain⟨h1,h2,h3⟩:=hw
    simp only[Bi]
    exact h2
   generalize D8 (m.getD i Ib).2.1=q at e h2
   omega
  ·have e1:m.take i=m:=aa8 (by omega)
   have e2:m.take (i+1)=m:=aa8 (by omega)
   rw[e1] at ih
   have:=am6 Fr e2
   omega
theorem By5{vs:List Nat}(ag:vs.length=4)(hb:∀ n∈vs,Al n){i:Nat}:i≤4→(vs.take i).sum≤i*115792089237316195423570985008687907853269984665640564039457584007913129639936:=by
 induction i with
 | zero=>intro _;rw[ag1,au2];exact ac2 _
 | succ i ih =>
  intro hi
  have e:(vs.take (i+1)).sum=(vs.take i).sum+vs.getD i 0:=by rw[Of (d:=0) (by omega),ar1,List.sum_singleton]
  have h1:=hb _ (B3 (l:=vs) (i:=i) (d:=0) (by omega))
  have h2:=ih (by omega)
  unfold Al at h1
  omega
theorem Bwn{m:List A2}{vs:List Nat}(ha:Aaf m)(hl:m.length≤100000)(ag:vs.length=4)(hb:∀ n∈vs,Al n) :
  Gr ((m,vs.map At,()),())=some ((dg (Fr m+vs.sum),()),(m,vs.map At,()),()):=by
 have jj:=Bwu ha
 have rg:=fun i (hi:i≤4)=>By5 ag hb hi
 unfold Gr Pe
 refine Ai (I:=fun x=>∃ i:Nat,i≤m.length∧x=((m,vs.map At,()),dg (Fr (m.take i)),(i:Int),())) (m:=fun x=>((m.length:Int)-x.2.2.1).toNat)
  (g:=fun _=>some ((dg (Fr m+vs.sum),()),(m,vs.map At,()),())) ?_ ⟨0,by omega,by rw[ag1,Tt,Bfu];rfl⟩ (by rw[Au];simp only;omega)
 rintro x aa ⟨i,hi,rfl⟩ hag
 simp only at hag ⊢
 unfold Yg
 rw[Caj]
 simp only[Am,Ad,Ao]
 by_cases h:(i:Int)<(m.length:Int)
 ·have hs:Fr (m.take (i+1))=Fr (m.take i)+D8 (m.getD i Ib).2.1:=by
   rw[Of (d:=Ib) (by omega),Alc,Nw,Tt,af6]
  have hbi:=jj i
  rw[aa0 h,aa0 (by omega),aa3]
  have hw:=ha.at i
  generalize m.getD i Ib=y at hw hs ⊢
  obtain⟨h1,h2,h3⟩:=hw
  simp only at hs ⊢
  rw[Bi] at hs
  unfold Al at h2
  rw[Cd h2]
  simp only[Aa]
  rw[Cy (Aki (by omega)) (Aki (by omega)),← hs,Ar (by omega) (by omega)]
  simp only[Aa]
  exact hag _ ⟨i+1,by omega,by rw[ab0];rfl⟩ (by simp only;omega)
 ·rw[aa1 h]
  have hbm:=jj m.length
  rw[aa8 (by omega)] at hbm ⊢
  refine Ai (I:=fun x=>∃ i:Nat,i≤4∧x=((m,vs.map At,()),dg (Fr m+(vs.take i).sum),(i:Int),())) (m:=fun x=>((4:Int)-x.2.2.1).toNat)
   (g:=fun _=>some ((dg (Fr m+vs.sum),()),(m,vs.map At,()),())) ?_ ⟨0,by omega,by rw[ag1,au2,af6];rfl⟩ (by rw[Au];simp only;omega)
  rintro x again2 ⟨k,hk,rfl⟩ yo
  simp only at yo ⊢
  unfold Ya
  simp only[Am,Ad,Ao]
  by_cases h:(k:Int)<4
  ·have hm:vs.getD k 0∈vs:=B3 (by omega)
   have ht:(vs.take (k+1)).sum=(vs.take k).sum+vs.getD k 0:=by rw[Of (d:=0) (by omega),ar1,List.sum_singleton]
   have h2:=hb _ hm
   have hvk:=rg k (by omega)
   unfold Al at h2
   rw[aa0 h,aa0 (by omega),aa3,Bfz,Cd h2]
   simp only[Aa]
   rw[Cy (Aki (by omega)) (Aki (by omega)),Ar (by omega) (by omega)]
   simp only[Aa]
   exact yo _ ⟨k+1,by omega,by rw[ht,aj3,ab0];rfl⟩ (by simp only;omega)
  ·rw[aa1 h,aa8 (by omega)]
theorem Bzx{m:List A2}{vs:List Nat}(hr:Xp m)(h:Ala (Ce m) vs)(hl:m.length≤100000) :
  Gr ((m,vs.map At,()),())=some ((dg (Fr (Ce m)+vs.sum),()),(m,vs.map At,()),()):=by
 rw[Bwn hr.all hl h.len h.vB,Ceg hr.dist]
theorem Ckr{m:List A2}(h:Bsl m)(a:Int):I5 m a=I5 (Ce m) a:=(Bds h a).symm
theorem Xp.put{m:List A2}{y:A2}(h:Xp m)(hy:Aky y):Xp (Anh m y):=⟨Bid h.dist,Cgn h.all hy⟩
theorem Bms{m:List A2}{v:List (List Int)}{a:Int}{n:Nat}(h:Xp m)(hl:m.length≤100000)(hu:B2 a)(hn:Al n)(hb:Al (bal (Ce m) a+n)) :
  ∃ m',Ey ((m,v,()),a,At n,())=some ((),(m',v,()),(),(),())∧Xp m'∧Ce m'=crd (Ce m) a n∧m'.length≤m.length+1:=by
 obtain⟨e,f0,ky⟩:=Akr (Ba6 h.all) hu
 refine⟨Anh m (a,At (bal (Ce m) a+n),non (Ce m) a,()),?_,h.put (Aky.mk hu hb ky),Bdt h.dist,Ben _ _⟩
 unfold Ey O0
 simp only
 rw[Ba0 (by omega),Ckr h.dist]
 simp only[Aa]
 have e1:(I5 (Ce m) a).2.1=At (bal (Ce m) a):=by rw[e]
 have e2:(I5 (Ce m) a).2.2=(non (Ce m) a,()):=by rw[e]
 unfold Al at f0 hn hb
 rw[e1,Az2,e2,Cd f0]
 simp only[Aa]
 rw[Cd hn]
 simp only[Aa]
 rw[Cy (Aki (by omega)) (Aki (by omega))]
 simp only[Aa]
 rw[Uo hb]
 simp only[Aa]
 rw[Bus (by omega)]
 rfl
theorem Bgf{m:List A2}{v:List (List Int)}{a:Int}{n:Nat}(h:Xp m)(hl:m.length≤100000)(hu:B2 a)(hn:Al n)(hb:n≤bal (Ce m) a) :
  ∃ m',Ct ((m,v,()),a,At n,())=some ((true,()),(m',v,()),(),(),())∧Xp m'∧Ce m'=deb (Ce m) a n∧m'.length≤m.length+1:=by
 obtain⟨e,f0,ky⟩:=Akr (Ba6 h.all) hu
 refine⟨Anh m (a,At (bal (Ce m) a-n),non (Ce m) a,()),?_,h.put (Aky.mk hu (by unfold Al at *;omega) ky),Bdt h.dist,Ben _ _⟩
 unfold Ct Ln
 simp only
 rw[Ba0 (by omega),Ckr h.dist]
 simp only[Aa]
 have e1:(I5 (Ce m) a).2.1=At (bal (Ce m) a):=by rw[e]
 have e2:(I5 (Ce m) a).2.2=(non (Ce m) a,()):=by rw[e]
 unfold Al at f0 hn
 rw[e1,Az2,e2,Aex f0 hn,aa0 hb]
 simp only[Aa,An,Ad,ar3]
 rw[Bus (by omega)]
 rfl
theorem Bde{m:List A2}{v:List (List Int)}{a:Int}{n:Nat}(h:Xp m)(hl:m.length≤100000)(hu:B2 a)(hn:Al n)(hb:bal (Ce m) a<n) :
  Ct ((m,v,()),a,At n,())=some ((false,()),(m,v,()),(),(),()):=by
 obtain⟨e,f0,ky⟩:=Akr (Ba6 h.all) hu
 unfold Ct Ln
 simp only
 rw[Ba0 (by omega),Ckr h.dist]
 simp only[Aa]
 have e1:(I5 (Ce m) a).2.1=At (bal (Ce m) a):=by rw[e]
 unfold Al at f0 hn
 rw[e1,Aex f0 hn,aa1 (by omega)]
 simp only[Aa,An,Ad]
 rw[aa1 (by decide)]
abbrev Bgk(m:List A2)(r:Int×List A2×List Nat)(m':List A2):Prop:=Xp m'∧Ce m'=r.2.1∧m'.length≤m.length+2
theorem Ch8{m:List A2}{vs:List Nat}{a:Int}{n:Nat}(hr:Xp m)(h:Ala (Ce m) vs)(hl:m.length≤90000)(hu:B2 a)(hn:Al n) :
  ∃ m',H9 ((m,vs.map At,()),a,At n,())=some (((Bi9 (Ce m) vs a n).1,()),(m',(Bi9 (Ce m) vs a n).2.2.map At,()),(),(),())∧Bgk m (Bi9 (Ce m) vs a n) m':=by
 unfold H9 Sg Bi9 Bgk
 simp only[Ad]
 by_cases c:a=0
 ·simp only[aa0 c];exact⟨m,rfl,hr,rfl,by omega⟩
 simp only[aa1 c]
 rw[Bzx hr h (by omega)]
 have hs:=h.sum
 simp only[Aa]
 unfold Al at hn
 rw[Cd hn]
 simp only[Aa]
 rw[Cy (Aki (by omega)) (Aki (by omega))]
 simp only[Aa]
 rw[Oq]
 simp only[Aa,An,Ad]
 by_cases c2:Fr (Ce m)+vs.sum+n<115792089237316195423570985008687907853269984665640564039457584007913129639936
 ·simp only[aa0 c2]
  obtain⟨m',e,h1,h2,h3⟩:=Bms (v:=vs.map At) hr (by omega) hu hn (by have:=Bhy (Ce m) a;unfold Al;omega)
  rw[e]
  exact⟨m',rfl,h1,h2,by omega⟩
 ·simp only[aa1 c2]
  exact⟨m,rfl,hr,rfl,by omega⟩
theorem Bte{m:List A2}{vs:List Nat}{a b:Int}{n:Nat}(hr:Xp m)(h:Ala (Ce m) vs)(hl:m.length≤90000)(hu:B2 a)(hub:B2 b)(hn:Al n) :
  ∃ m',Fj ((m,vs.map At,()),a,b,At n,())=some (((Bh5 (Ce m) vs a b n).1,()),(m',(Bh5 (Ce m) vs a b n).2.2.map At,()),(),(),(),())∧Bgk m (Bh5 (Ce m) vs a b n) m':=by
 unfold Fj Mf Bh5 Bgk
 simp only[Ad]
 by_cases c:a=0
 ·simp only[aa0 c,aa0 (show a=0∨b=0 from .inl c)];exact⟨m,rfl,hr,rfl,by omega⟩
 by_cases c1:b=0
 ·simp only[aa1 c,aa0 c1,aa0 (show a=0∨b=0 from .inr c1)];exact⟨m,rfl,hr,rfl,by omega⟩
 have c2:¬ (a=0∨b=0):=by omega
 simp only[aa1 c,aa1 c1,aa1 c2]
 have de:=h.sum
 by_cases c3:n≤bal (Ce m) a
 ·have hs:=Bfj h.srt c3
  have cf:=Bhy (deb (Ce m) a n) b
  simp only[aa0 c3]
  obtain⟨m',e,h1,h2,h3⟩:=Bgf (v:=vs.map At) hr (by omega) hu hn c3
  rw[e]
  simp only[Aa,An,Ap]
  obtain⟨m2,e2,g1,g2,g3⟩:=Bms (v:=vs.map At) h1 (by omega) hub hn (by rw[h2];unfold Al;omega)
  rw[e2]
  exact⟨m2,rfl,g1,by rw[g2,h2],by omega⟩
 ·simp only[aa1 c3]
  rw[Bde hr (by omega) hu hn (by omega)]
  exact⟨m,rfl,hr,rfl,by omega⟩
theorem Ckz{m:List A2}{vs:List Nat}{a v:Int}{n:Nat}(hr:Xp m)(h:Ala (Ce m) vs)(hl:m.length≤90000)(hu:B2 a)(hn:Al n)(hv : -9223372036854775808≤v∧v≤9223372036854775807) :
  ∃ m',Fk ((m,vs.map At,()),a,v,At n,())=some (((Cd1 (Ce m) vs a v n).1,()),(m',(Cd1 (Ce m) vs a v n).2.2.map At,()),(),(),(),())∧Bgk m (Cd1 (Ce m) vs a v n) m':=by
 unfold Fk L6 Cd1 Bgk
 simp only[Am,Ad]
 by_cases c:a=0
 ·simp only[aa0 c,aa0 (show a=0∨¬ (1≤v∧v≤4) from .inl c)];exact⟨m,rfl,hr,rfl,by omega⟩
 by_cases c1:1≤v∧v≤4
 case neg =>
  simp only[aa1 c,aa0 (show a=0∨¬ (1≤v∧v≤4) from .inr c1)]
  refine⟨m,?_,hr,rfl,by omega⟩
  by_cases d:v<1
  ·rw[aa0 d]
  ·rw[aa1 d,aa0 (by omega)]
 have c2:¬ (a=0∨¬ (1≤v∧v≤4)):=fun h=>h.elim c (fun h=>h c1)
 simp only[aa1 c,aa1 c2]
 rw[aa1 (by omega),aa1 (by omega)]
 have de:=h.sum
 have ag:=h.len
 by_cases c3:n≤bal (Ce m) a
 ·simp only[aa0 c3]
  obtain⟨m',e,h1,h2,h3⟩:=Bgf (v:=vs.map At) hr (by omega) hu hn c3
  rw[e]
  simp only[Aa,An,Ap,Ao]
  have hw:IntKind.wrap .i64 (v-1)=v-1:=Ar (by omega) (by omega)
  have hx:(v-1).toNat=vix v:=rfl
  have hg:=Btr vs (vix v)
  have yn:=Bhy (Ce m) a
  unfold Al at hn
  rw[hw,hx,aa0 (by omega),Bfz,Cd (by omega)]
  simp only[Aa]
  rw[Cd hn]
  simp only[Aa]
  rw[Cy (Aki (by omega)) (Aki (by omega))]
  simp only[Aa]
  rw[Uo (by omega)]
  simp only[Aa]
  rw[aa0 (by omega),← List.map_set]
  exact⟨m',rfl,h1,h2,by omega⟩
 ·simp only[aa1 c3]
  rw[Bde hr (by omega) hu hn (by omega)]
  exact⟨m,rfl,hr,rfl,by omega⟩
theorem Btl{m:List A2}{vs:List Nat}{a:Int}{n:Nat}(hr:Xp m)(h:Ala (Ce m) vs)(hl:m.length≤90000)(hu:B2 a)(hn:Al n) :
  ∃ m',Fh ((m,vs.map At,()),a,At n,())=some (((wdS (Ce m) vs a n).1,()),(m',(wdS (Ce m) vs a n).2.2.map At,()),(),(),())∧Bgk m (wdS (Ce m) vs a n) m':=by
 unfold Fh Ly wdS Bgk
 simp only[Ad]
 by_cases c:a=0
 ·simp only[aa0 c];exact⟨m,rfl,hr,rfl,by omega⟩
 simp only[aa1 c]
 by_cases c3:n≤bal (Ce m) a
 ·simp only[aa0 c3]
  obtain⟨m',e,h1,h2,h3⟩:=Bgf (v:=vs.map At) hr (by omega) hu hn c3
  rw[e]
  exact⟨m',rfl,h1,h2,by omega⟩
 ·simp only[aa1 c3]
  rw[Bde hr (by omega) hu hn (by omega)]
  exact⟨m,rfl,hr,rfl,by omega⟩
theorem Cmn{m:List A2}{vs:List Nat}{v:Int}{n:Nat}(hr:Xp m)(h:Ala (Ce m) vs)(hn:Al n)(hv : -9223372036854775808≤v∧v≤9223372036854775807) :
  ∃ m',Dx ((m,vs.map At,()),v,At n,())=some (((wvS (Ce m) vs v n).1,()),(m',(wvS (Ce m) vs v n).2.2.map At,()),(),(),())∧Bgk m (wvS (Ce m) vs v n) m':=by
 unfold Dx Im wvS Bgk
 simp only[Am,Ad]
 by_cases c1:1≤v∧v≤4
 case neg =>
  simp only[aa1 c1]
  refine⟨m,?_,hr,rfl,by omega⟩
  by_cases d:v<1
  ·rw[aa0 d]
  ·rw[aa1 d,aa0 (by omega)]
 simp only[aa0 c1]
 rw[aa1 (by omega),aa1 (by omega)]
 have hw:IntKind.wrap .i64 (v-1)=v-1:=Ar (by omega) (by omega)
 have hx:(v-1).toNat=vix v:=rfl
 have ag:=h.len
 have hg:=Btr vs (vix v)
 have de:=h.sum
 unfold Al at hn
 simp only[Ao]
 rw[hw,hx,aa0 (by omega),Bfz,Aex (by omega) hn]
 simp only[Aa,An,Ad]
 by_cases c3:n≤vs.getD (vix v) 0
 ·simp only[aa0 c3,ar3]
  rw[aa0 (by omega),← List.map_set]
  exact⟨m,rfl,hr,rfl,by omega⟩
 ·simp only[aa1 c3]
  rw[aa1 (by decide)]
  exact⟨m,rfl,hr,rfl,by omega⟩
theorem Cj1{m:List A2}{vs:List Nat}{a:Int}(hr:Xp m)(h:Ala (Ce m) vs)(hl:m.length≤90000)(hu:B2 a) :
  ∃ m',Dm ((m,vs.map At,()),a,())=some (((Cdy (Ce m) vs a).1,()),(m',(Cdy (Ce m) vs a).2.2.map At,()),(),())∧Bgk m (Cdy (Ce m) vs a) m':=by
 unfold Dm Hv Cdy Bgk
 simp only[Ad]
 by_cases c:a=0
 ·simp only[aa0 c];exact⟨m,rfl,hr,rfl,by omega⟩
 simp only[aa1 c]
 rw[Ba0 (by omega),Ckr hr.dist]
 obtain⟨e,f0,ky⟩:=Akr (Ba6 hr.all) hu
 have e1:(I5 (Ce m) a).2.1=At (bal (Ce m) a):=by rw[e]
 have e3:(I5 (Ce m) a).2.2.1=non (Ce m) a:=rfl
 simp only[Aa,Am]
 rw[e3]
 unfold B2 at ky
 by_cases c2:non (Ce m) a=18446744073709551615
 ·simp only[aa0 c2]
  rw[c2,aa0 (by decide)]
  exact⟨m,rfl,hr,rfl,by omega⟩
 ·simp only[aa1 c2]
  rw[Gt (by omega) (by omega),aa1 (by omega),Az2,e1,Bus (by omega)]
  have hlm:=Ben m (a,At (bal (Ce m) a),non (Ce m) a+1,())
  exact⟨Anh m (a,At (bal (Ce m) a),non (Ce m) a+1,()),rfl,hr.put (Aky.mk hu f0 (by unfold B2;omega)),Bdt hr.dist,by omega⟩
theorem Bi1{l:List A2}{y:A2}(h:∀ x∈l,x.1≠y.1):Jy l y=if isE y then l else l.take (Ad9 l y.1)++(y::l.drop (Ad9 l y.1)):=by
 rw[Bwo,aa1]
 rintro⟨h1,h2⟩
 exact h _ (B3 h1) h2
theorem Chi{m o:List A2}{v:List (List Int)}{y:A2}{i:Nat}{again0:((List A2×List (List Int)×Unit)×List A2×Int×Unit)→Option ((List A2×Unit)×Unit×Unit)}
  (ho:Srt o) (hl:o.length≤100000) (hi:i≤100000) (hy:¬ isE y) (ha:∀ x∈o,x.1≠y.1) :
  Ac _ _ (fun aa x=>Hu again0 aa x.1 x.2.1 x.2.2.1 x.2.2.2.1 x.2.2.2.2.1) ((m,v,()),o,(i:Int),y,((o.length:Nat):Int),()) =
   again0 ((m,v,()),Jy o y,((i+1:Nat):Int),()):=by
 have hc:=Cbg y.1 o
 refine Ai (I:=fun x=>∃ k:Nat,Ad9 o y.1≤k∧k≤o.length∧x=((m,v,()),o,(i:Int),y,(k:Int),())) (m:=fun x=>x.2.2.2.2.1.toNat)
  (g:=fun _=>again0 ((m,v,()),Jy o y,((i+1:Nat):Int),())) ?_ ⟨o.length,hc,by omega,rfl⟩ (by rw[Au];simp only;omega)
 rintro x aa ⟨k,h1,h2,rfl⟩ hag
 simp only at hag ⊢
 unfold Hu
 rw[Ceu]
 simp only[Am,Ad,Ao,Adg]
 have cg:k=Ad9 o y.1→(if True then (if (0:Int)≤(k:Int) then (if (k:Int)≤((o.length:Nat):Int) then (if (0:Int)≤(k:Int) then (if (k:Int)≤((o.length:Nat):Int) then
   (Ag (A8 (1+(List.take (o.length-((k:Int)).toNat) (List.drop ((k:Int)).toNat o)).length) (.pair (.int .u64) (.pair (.arr 4 (.int .u64)) (.pair (.int .u64) .unit))))
    (if 0<(List.append [y] (List.take (o.length-((k:Int)).toNat) (List.drop ((k:Int)).toNat o))).length then
     (Ag (A8 ((List.take (((k:Int)).toNat-0) (List.drop 0 o)).length+(List.append [y] (List.take (o.length-((k:Int)).toNat) (List.drop ((k:Int)).toNat o))).length) (.pair (.int .u64) (.pair (.arr 4 (.int .u64)) (.pair (.int .u64) .unit))))
      (again0 ((m,v,()),List.append (List.take (((k:Int)).toNat-0) (List.drop 0 o)) (List.append [y] (List.take (o.length-((k:Int)).toNat) (List.drop ((k:Int)).toNat o))),IntKind.wrap .i64 ((i:Int)+1),()))
      none) else none) none) else none) else none) else none) else none) else none)=again0 ((m,v,()),Jy o y,((i+1:Nat):Int),()):=fun hk=>by
  have e1:List.take (o.length-k) (List.drop k o)=List.drop k o:=aa8 (by rw[ac0];omega)
  have ag:(List.take k o).length+(List.append [y] (List.drop k o)).length≤1000000:=by
   rw[Bx]
   simp only[ab2,aa4,ac0,ag4]
   omega
  rw[aa0 trivial,aa0 (by omega),aa0 (by omega),aa0 (by omega),aa0 (by omega),aa3,e1,Bt8 (by rw[ac0];omega),Ap,aa0 (by simp[Bx]),ak1,ag0,Bt8 ag,Ap,Ar (by omega) (by omega)]
  rw[Bi1 ha,aa1 hy,← hk]
  rfl
 by_cases h:(k:Int)>0
 ·have hw:IntKind.wrap .i64 ((k:Int)-1)=((k-1:Nat):Int):=by rw[Ar (by omega) (by omega)];omega
  rw[aa0 h,hw,aa3,aa0 (by omega)]
  by_cases c:(o.getD (k-1) Ib).1>y.1
  ·rw[aa0 c]
   have:Ad9 o y.1≤k-1:=by
    rcases ad3 (k-1) (Ad9 o y.1) with h|h
    ·have:=Cal h;omega
    ·exact h
   exact hag _ ⟨k-1,this,by omega,rfl⟩ (by simp only;omega)
  ·rw[aa1 c]
   refine cg ?_
   rcases ad3 (Ad9 o y.1) k with h3|h3
   ·have h4:=Cj9 ho (a:=y.1) (i:=k-1) (by omega) (by omega)
    exact absurd (show (o.getD (k-1) Ib).1=y.1 by omega) (ha _ (B3 (by omega)))
   ·omega
 ·rw[aa1 h]
  exact cg (by omega)
theorem Btm{m:List A2}{v:List (List Int)}(hr:Xp m)(hl:m.length≤90000) :
  He ((m,v,()),())=some ((Ce m,()),(),()):=by
 unfold He Lw
 refine Ai (I:=fun x=>∃ i:Nat,i≤m.length∧x=((m,v,()),(m.take i).foldl Jy [],(i:Int),())) (m:=fun x=>((m.length:Int)-x.2.2.1).toNat)
  (g:=fun _=>some ((Ce m,()),(),())) ?_ ⟨0,by omega,rfl⟩ (by rw[Au];simp only;omega)
 rintro x aa ⟨i,hi,rfl⟩ hag
 simp only at hag ⊢
 unfold Us
 rw[Ceu]
 simp only[Am,Ad,Ao]
 by_cases h:(i:Int)<(m.length:Int)
 ·have bx:i<m.length:=by omega
  rw[aa0 h,aa0 (by omega),aa3]
  have ht:(m.take (i+1)).foldl Jy []=Jy ((m.take i).foldl Jy []) (m.getD i Ib):=by
   rw[Of (d:=Ib) bx,List.foldl_append];rfl
  have hd:∀ x∈(m.take i).foldl Jy [],x.1≠(m.getD i Ib).1:=fun x hx=>by
   have uf:=Ccq hx
   have hd:=hr.dist
   rw[← ad7 i m,Bm6 bx] at hd
   exact (List.pairwise_append.1 hd).2.2 x uf _ (by simp)
  have hs:=Bat (m.take i)
  have hln:((m.take i).foldl Jy []).length≤100000:=by
   have:=Bk9 (m.take i) []
   rw[ab2] at this
   simp only[am3] at this
   omega
  have dw:aa ((m,v,()),(m.take (i+1)).foldl Jy [],((i+1:Nat):Int),())=some ((Ce m,()),(),()):=hag _ ⟨i+1,by omega,rfl⟩ (by simp only;omega)
  rw[ht] at dw
  clear hag
  have hw:=hr.all.at i
  unfold Ce at hs
  generalize (m.take i).foldl Jy []=o at hd hs hln dw ⊢
  have e:=Cke hw
  have ez:=Byv hw
  clear hw
  generalize D8 (m.getD i Ib).2.1=q at e ez
  rw[ez,Aa]
  dsimp only
  rw[Ad]
  generalize m.getD i Ib=y at *
  by_cases c:isE y
  ·rw[aa0 (e.1 c).1,aa0 (e.1 c).2,Ar (by omega) (by omega)]
   rw[Bi1 hd,aa0 c,ab0] at dw
   exact dw
  ·rw[Chi hs hln (by omega) c hd]
   by_cases c1:q=0
   ·rw[aa0 c1,aa1 fun c2=>c (e.2 ⟨c1,c2⟩)]
    exact dw
   ·rw[aa1 c1]
    exact dw
 ·rw[aa1 h,aa8 (by omega)]
  rfl
abbrev Bl:=Int×(List Int×Unit)
abbrev F7:Bl:=((0:Int),[(0:Int),0,0,0],())
abbrev Cce(a:Int):Bl:=(a,[(0:Int),0,0,0],())
inductive Alu:Bl→Prop
 | mk {a:Int} {b:Nat} (ha:B2 a) (hb:Al b):Alu (a,At b,())
def G1(l:List Bl):Prop:=∀ x∈l,Alu x
def Alt(x:Bl):Prop:=x=Cce x.1
instance(x:Bl):Decidable (Alt x):=inferInstanceAs (Decidable (x=Cce x.1))
theorem Clh{a:Int}(h:B2 a):Alu (Cce a):=by
 have:=Alu.mk (a:=a) (b:=0) h (by unfold Al;omega)
 exact this
theorem Cpm:Alu F7:=Clh (by unfold B2;omega)
theorem G1.at{l:List Bl}(h:G1 l)(i:Nat):Alu (l.getD i F7):=by
 rcases ad3 i l.length with hi|hi
 ·exact h _ (B3 hi)
 ·rw[aa2,ai4 hi];exact Cpm
def pget:List Bl→Int→Bl
 | [],a=>Cce a
 | x::l,a=>if x.1=a then x else pget l a
def Ns:List Bl→Bl→List Bl
 | [],y=>if Alt y then [] else [y]
 | x::l,y=>if x.1<y.1 then x::Ns l y else if x.1=y.1 then (if Alt y then l else y::l) else (if Alt y then x::l else y::x::l)
def Bcj(l:List Bl):Prop:=l.Pairwise fun x y=>x.1<y.1
def NEP(l:List Bl):Prop:=∀ x∈l,¬ Alt x
def Apd(l:List Bl):Nat:=(l.map fun x=>D8 x.2.1).sum
theorem Bao:Apd []=0:=rfl
theorem Brv(x:Bl)(l:List Bl):Apd (x::l)=D8 x.2.1+Apd l:=by simp[Apd]
theorem Bik(l m:List Bl):Apd (l++m)=Apd l+Apd m:=by simp[Apd]
theorem Up:∀ {l:List Bl} {a:Int},(∀ x∈l,x.1≠a)→pget l a=Cce a
 | [],_,_=>rfl
 | x::l,a,h=>by
  unfold pget
  rw[aa1 (h x (by simp)),Up fun y hy=>h y (by simp[hy])]
theorem Bvk:∀ (l:List Bl) (a:Int),(pget l a).1=a
 | [],_=>rfl
 | x::l,a=>by
  unfold pget
  by_cases h:x.1=a
  ·rw[aa0 h];exact h
  ·rw[aa1 h];exact Bvk l a
theorem Bxa:∀ (l:List Bl) (a:Int),pget l a∈l∨((∀ x∈l,x.1≠a)∧pget l a=Cce a)
 | [],_=>.inr ⟨fun x h=>by simp at h,rfl⟩
 | x::l,a=>by
  unfold pget
  by_cases h:x.1=a
  ·rw[aa0 h];exact .inl (by simp)
  ·rw[aa1 h]
   rcases Bxa l a with h1 | ⟨h1,h2⟩
   ·exact .inl (by simp[h1])
   ·exact .inr ⟨fun y hy=>by
     rcases aa9.1 hy with rfl|hy
     ·exact h
     ·exact h1 y hy,h2⟩
theorem Cpt{l:List Bl}{a:Int}(h:G1 l)(ha:B2 a):Alu (pget l a):=by
 rcases Bxa l a with h1 | ⟨_,h2⟩
 ·exact h _ h1
 ·rw[h2];exact Clh ha
theorem Azi:∀ {l:List Bl} {x y:Bl},x∈Ns l y→x∈l∨(x=y∧¬ Alt y)
 | [],x,y,h=>by
  unfold Ns at h
  by_cases he:Alt y
  ·rw[aa0 he] at h;simp at h
  ·rw[aa1 he] at h;exact .inr ⟨by simpa using h,he⟩
 | z::l,x,y,h=>by
  unfold Ns at h
  by_cases h1:z.1<y.1
  ·rw[aa0 h1] at h
   rcases aa9.1 h with rfl|h
   ·exact .inl (by simp)
   ·rcases Azi h with h|h
    ·exact .inl (by simp[h])
    ·exact .inr h
  ·rw[aa1 h1] at h
   by_cases h2:z.1=y.1
   ·rw[aa0 h2] at h
    by_cases he:Alt y
    ·rw[aa0 he] at h;exact .inl (by simp[h])
    ·rw[aa1 he] at h
     rcases aa9.1 h with rfl|h
     ·exact .inr ⟨rfl,he⟩
     ·exact .inl (by simp[h])
   ·rw[aa1 h2] at h
    by_cases he:Alt y
    ·rw[aa0 he] at h;exact .inl h
    ·rw[aa1 he] at h
     rcases aa9.1 h with rfl|h
     ·exact .inr ⟨rfl,he⟩
     ·exact .inl h
theorem Azr:∀ {l:List Bl} {y:Bl},Bcj l→Bcj (Ns l y)
 | [],y,_=>by
  unfold Ns
  by_cases he:Alt y
  ·rw[aa0 he];exact List.Pairwise.nil
  ·rw[aa1 he];exact aq6 _ _
 | z::l,y,h=>by
  have h':=ad6.1 h
  unfold Ns
  by_cases h1:z.1<y.1
  ·rw[aa0 h1]
   refine ad6.2 ⟨fun x hx=>?_,Azr h'.2⟩
   rcases Azi hx with hx | ⟨rfl,_⟩
   ·exact h'.1 x hx
   ·exact h1
  ·rw[aa1 h1]
   by_cases h2:z.1=y.1
   ·rw[aa0 h2]
    by_cases he:Alt y
    ·rw[aa0 he];exact h'.2
    ·rw[aa1 he]
     exact ad6.2 ⟨fun x hx=>by rw[← h2];exact h'.1 x hx,h'.2⟩
   ·rw[aa1 h2]
    by_cases he:Alt y
    ·rw[aa0 he];exact h
    ·rw[aa1 he]
     refine ad6.2 ⟨fun x hx=>?_,h⟩
     rcases aa9.1 hx with rfl|hx
     ·omega
     ·have:=h'.1 x hx;omega
theorem Btt{l:List Bl}{y:Bl}(h:NEP l):NEP (Ns l y):=fun x hx=>by
 rcases Azi hx with hx | ⟨rfl,he⟩
 ·exact h x hx
 ·exact he
theorem Bx1{l:List Bl}{y:Bl}(h:G1 l)(hy:Alu y):G1 (Ns l y):=fun x hx=>by
 rcases Azi hx with hx | ⟨rfl,he⟩
 ·exact h x hx
 ·exact hy
theorem Bn7:∀ (l:List Bl) (y:Bl),(Ns l y).length≤l.length+1
 | [],y=>by
  unfold Ns
  by_cases he:Alt y
  ·rw[aa0 he];simp
  ·rw[aa1 he];simp
 | z::l,y=>by
  have:=Bn7 l y
  unfold Ns
  split
  ·simp;omega
  ·split
   ·split<;>(simp;try omega)
   ·split<;>simp
theorem Bh4:∀ {l:List Bl} {y:Bl} {a:Int},Bcj l→pget (Ns l y) a=if a=y.1 then y else pget l a
 | [],y,a,_=>by
  unfold Ns
  by_cases he:Alt y
  ·rw[aa0 he]
   by_cases ha:a=y.1
   ·rw[aa0 ha,ha];exact he.symm
   ·rw[aa1 ha]
  ·rw[aa1 he]
   simp only[pget]
   by_cases ha:a=y.1
   ·rw[aa0 ha,aa0 ha.symm]
   ·rw[aa1 ha,aa1 fun h=>ha h.symm]
 | z::l,y,a,h=>by
  have h':=ad6.1 h
  unfold Ns
  by_cases h1:z.1<y.1
  ·rw[aa0 h1]
   have ih:=Bh4 (y:=y) (a:=a) h'.2
   simp only[pget]
   rw[ih]
   by_cases hz:z.1=a
   ·rw[aa0 hz,aa1 (by omega),aa0 hz]
   ·rw[aa1 hz,aa1 hz]
  ·rw[aa1 h1]
   by_cases h2:z.1=y.1
   ·rw[aa0 h2]
    by_cases he:Alt y
    ·rw[aa0 he]
     by_cases ha:a=y.1
     ·rw[aa0 ha,Up fun x hx=>by have:=h'.1 x hx;omega,ha]
      exact he.symm
     ·rw[aa1 ha]
      simp only[pget]
      rw[aa1 (by omega)]
    ·rw[aa1 he]
     simp only[pget]
     by_cases ha:a=y.1
     ·rw[aa0 ha,aa0 ha.symm]
     ·rw[aa1 ha,aa1 (fun h=>ha h.symm),aa1 (by omega)]
   ·rw[aa1 h2]
    by_cases he:Alt y
    ·rw[aa0 he]
     by_cases ha:a=y.1
     ·rw[aa0 ha,Up (fun x hx=>?_),ha]
      ·exact he.symm
      ·rcases aa9.1 hx with rfl|hx
       ·omega
       ·have:=h'.1 x hx;omega
     ·rw[aa1 ha]
    ·rw[aa1 he]
     simp only[pget]
     by_cases ha:a=y.1
     ·rw[aa0 ha,aa0 ha.symm]
     ·rw[aa1 ha,aa1 fun h=>ha h.symm]
theorem Aiz{x:Bl}{l:List Bl}:pget (x::l) x.1=x:=by unfold pget;rw[aa0 rfl]
theorem Cpb:∀ {l m:List Bl},Bcj l→Bcj m→NEP l→NEP m→(∀ a,pget l a=pget m a)→l=m
 | [],[],_,_,_,_,_=>rfl
 | [],y::m,_,_,_,hn,h=>by
  have:=h y.1
  rw[Aiz] at this
  exact absurd this.symm (hn y (by simp))
 | x::l,[],_,_,hn,_,h=>by
  have:=h x.1
  rw[Aiz] at this
  exact absurd this (hn x (by simp))
 | x::l,y::m,hs,ht,hn,hm,h=>by
  have dl:=ad6.1 hs
  have gn:=ad6.1 ht
  rcases Int.lt_trichotomy x.1 y.1 with h1|h1|h1
  ·have:=h x.1
   rw[Aiz,Up (l:=y::m) (fun z hz=>by
    rcases aa9.1 hz with rfl|hz
    ·omega
    ·have:=gn.1 z hz;omega)] at this
   exact absurd this (hn x (by simp))
  ·have e:x=y:=by
    have:=h x.1
    rw[Aiz,h1,Aiz] at this
    exact this
   subst e
   congr 1
   refine Cpb dl.2 gn.2 (fun z hz=>hn z (by simp[hz])) (fun z hz=>hm z (by simp[hz])) fun a=>?_
   by_cases ha:x.1=a
   ·rw[Up fun z hz=>by have:=dl.1 z hz;omega,Up fun z hz=>by have:=gn.1 z hz;omega]
   ·have:=h a
    simp only[pget] at this
    rw[aa1 ha,aa1 ha] at this
    exact this
  ·have:=h y.1
   rw[Aiz,Up (l:=x::l) (fun z hz=>by
    rcases aa9.1 hz with rfl|hz
    ·omega
    ·have:=dl.1 z hz;omega)] at this
   exact absurd this.symm (hm y (by simp))
def Ad3:List Bl→Int→Nat
 | [],_=>0
 | p::l,a=>if p.1<a then Ad3 l a+1 else 0
theorem Cdd(p:Bl)(l:List Bl)(a:Int):Ad3 (p::l) a=if p.1<a then Ad3 l a+1 else 0:=rfl
theorem Cae(a:Int):∀ l:List Bl,Ad3 l a≤l.length
 | []=>by simp[Ad3]
 | p::l=>by
  have:=Cae a l
  unfold Ad3
  split
  ·simp;omega
  ·simp
theorem Cbq:∀ {l:List Bl} {a:Int} {i:Nat},i<Ad3 l a→(l.getD i F7).1<a
 | [],a,i,h=>by simp[Ad3] at h
 | p::l,a,i,h=>by
  unfold Ad3 at h
  by_cases hp:p.1<a
  ·rw[aa0 hp] at h
   cases i with
   | zero=>exact hp
   | succ i=>exact Cbq (l:=l) (by omega)
  ·rw[aa1 hp] at h;omega
theorem Ckb{l:List Bl}(h:Bcj l){i j:Nat}(qt:i<j)(hj:j<l.length):(l.getD i F7).1<(l.getD j F7).1:=by
 have:=am4.1 h i j (by omega) hj qt
 rw[aa2,aa6 (by omega),aa2,aa6 hj]
 exact this
theorem Car:∀ {l:List Bl} {a:Int},Ad3 l a<l.length→a≤(l.getD (Ad3 l a) F7).1
 | [],a,h=>by simp[Ad3] at h
 | p::l,a,h=>by
  unfold Ad3 at h ⊢
  by_cases hp:p.1<a
  ·rw[aa0 hp] at h ⊢
   exact Car (l:=l) (by simpa using h)
  ·rw[aa1 hp] at h ⊢
   show a≤p.1
   omega
theorem Cjx{l:List Bl}(hs:Bcj l){a:Int}{i:Nat}(h:Ad3 l a≤i)(hi:i<l.length):a≤(l.getD i F7).1:=by
 have h1:=Car (l:=l) (a:=a) (by omega)
 rcases ad3 (Ad3 l a) i with h2|h2
 ·have:=Ckb hs h2 hi;omega
 ·rw[show i=Ad3 l a by omega];exact h1
abbrev Bua(l:List Bl)(a:Int):Prop:=Ad3 l a<l.length∧(l.getD (Ad3 l a) F7).1=a
theorem Bxy:∀ (l:List Bl) (y:Bl),Ns l y=if Bua l y.1 then (if Alt y then l.take (Ad3 l y.1)++l.drop (Ad3 l y.1+1) else l.set (Ad3 l y.1) y) else
  (if Alt y then l else l.take (Ad3 l y.1)++(y::l.drop (Ad3 l y.1)))
 | [],y=>by
  unfold Ns Bua Ad3
  simp
 | p::l,y=>by
  unfold Bua
  rw[Cdd]
  unfold Ns
  by_cases hp:p.1<y.1
  ·rw[aa0 hp,aa0 hp,Bxy l y]
   unfold Bua
   simp only[ac5,an0,ah1,aq1,an9,List.set_cons_succ]
   split
   ·split<;>rfl
   ·split<;>rfl
  ·rw[aa1 hp,aa1 hp]
   simp only[ac5,ag6,Nat.zero_lt_succ,true_and,ag1,ag0,af8,am9,af1,an9]
def Bnz(m:List Bl):Prop:=m.Pairwise fun x y=>x.1≠y.1
def Alk:List Bl→Bl→List Bl
 | [],y=>[y]
 | x::m,y=>if x.1=y.1 then y::m else x::Alk m y
def Art(m:List Bl):List Bl:=m.foldl Ns []
theorem Bf5:∀ {m:List Bl} {x y:Bl},x∈Alk m y→x∈m∨x=y
 | [],x,y,h=>.inr (by simpa [Alk] using h)
 | z::m,x,y,h=>by
  unfold Alk at h
  by_cases hz:z.1=y.1
  ·rw[aa0 hz] at h
   rcases aa9.1 h with rfl|h
   ·exact .inr rfl
   ·exact .inl (by simp[h])
  ·rw[aa1 hz] at h
   rcases aa9.1 h with rfl|h
   ·exact .inl (by simp)
   ·rcases Bf5 h with h|h
    ·exact .inl (by simp[h])
    ·exact .inr h
theorem Bge:∀ {m:List Bl} {y:Bl},Bnz m→Bnz (Alk m y)
 | [],y,_=>aq6 _ _
 | z::m,y,h=>by
  have h':=ad6.1 h
  unfold Alk
  by_cases hz:z.1=y.1
  ·rw[aa0 hz]
   exact ad6.2 ⟨fun x hx=>by rw[← hz];exact h'.1 x hx,h'.2⟩
  ·rw[aa1 hz]
   refine ad6.2 ⟨fun x hx=>?_,Bge h'.2⟩
   rcases Bf5 hx with hx|rfl
   ·exact h'.1 x hx
   ·exact hz
theorem Cgz{m:List Bl}{y:Bl}(h:G1 m)(hy:Alu y):G1 (Alk m y):=fun x hx=>by
 rcases Bf5 hx with hx|rfl
 ·exact h x hx
 ·exact hy
theorem Bw8:∀ (m:List Bl) (y:Bl),(Alk m y).length≤m.length+1
 | [],y=>by simp[Alk]
 | z::m,y=>by
  have:=Bw8 m y
  unfold Alk
  split
  ·simp
  ·simp;omega
theorem Bru:∀ (m:List Bl) (y:Bl) (a:Int),pget (Alk m y) a=if a=y.1 then y else pget m a
 | [],y,a=>by
  simp only[Alk,pget]
  by_cases ha:a=y.1
  ·rw[aa0 ha,aa0 ha.symm]
  ·rw[aa1 ha,aa1 fun h=>ha h.symm]
 | z::m,y,a=>by
  unfold Alk
  by_cases hz:z.1=y.1
  ·rw[aa0 hz]
   simp only[pget]
   by_cases ha:a=y.1
   ·rw[aa0 ha,aa0 ha.symm]
   ·rw[aa1 ha,aa1 (fun h=>ha h.symm),aa1 (by omega)]
  ·rw[aa1 hz]
   simp only[pget]
   rw[Bru m y a]
   by_cases ha:z.1=a
   ·rw[aa0 ha,aa1 (by omega),aa0 ha]
   ·rw[aa1 ha,aa1 ha]
theorem Brh:∀ (m:List Bl) {o:List Bl},Bcj o→Bcj (m.foldl Ns o)
 | [],_,h=>h
 | x::m,_,h=>Brh m (Azr h)
theorem Bv4:∀ (m:List Bl) {o:List Bl},NEP o→NEP (m.foldl Ns o)
 | [],_,h=>h
 | x::m,_,h=>Bv4 m (Btt h)
theorem Bql:∀ {m o:List Bl},G1 m→G1 o→G1 (m.foldl Ns o)
 | [],_,_,h=>h
 | x::m,o,hm,h=>Bql (m:=m) (o:=Ns o x) (fun y hy=>hm y (by simp[hy])) (Bx1 h (hm x (by simp)))
theorem Ba2(m:List Bl):Bcj (Art m):=Brh m List.Pairwise.nil
theorem Bv5(m:List Bl):NEP (Art m):=Bv4 m fun x h=>by simp at h
theorem Cb9{m:List Bl}(h:G1 m):G1 (Art m):=Bql h fun x h=>by simp at h
theorem Bq3:∀ {m o:List Bl} {x:Bl},x∈m.foldl Ns o→x∈m∨x∈o
 | [],_,_,h=>.inr h
 | y::m,o,x,h=>by
  rcases Bq3 (m:=m) h with h|h
  ·exact .inl (by simp[h])
  ·rcases Azi h with h | ⟨rfl,_⟩
   ·exact .inr h
   ·exact .inl (by simp)
theorem Cd0{m:List Bl}{x:Bl}(h:x∈Art m):x∈m:=by
 rcases Bq3 h with h|h
 ·exact h
 ·simp at h
theorem Brb:∀ {m o:List Bl} (a:Int),Bnz m→Bcj o→((∀ x∈m,x.1≠a)∧pget (m.foldl Ns o) a=pget o a)∨((∃ x∈m,x.1=a)∧pget (m.foldl Ns o) a=pget m a)
 | [],o,a,_,_=>.inl ⟨fun x h=>by simp at h,rfl⟩
 | y::m,o,a,hd,ho=>by
  have ji:=ad6.1 hd
  show ((∀ x∈y::m,x.1≠a)∧pget (m.foldl Ns (Ns o y)) a=pget o a)∨((∃ x∈y::m,x.1=a)∧pget (m.foldl Ns (Ns o y)) a=pget (y::m) a)
  rcases Brb (m:=m) (o:=Ns o y) a ji.2 (Azr ho) with⟨h1,h2⟩ | ⟨⟨z,hz,h1⟩,h2⟩
  ·rw[h2,Bh4 ho]
   by_cases ha:a=y.1
   ·rw[aa0 ha]
    exact .inr ⟨⟨y,by simp,ha.symm⟩,by rw[ha,Aiz]⟩
   ·rw[aa1 ha]
    refine .inl ⟨fun x hx=>?_,rfl⟩
    rcases aa9.1 hx with rfl|hx
    ·exact fun h=>ha h.symm
    ·exact h1 x hx
  ·refine .inr ⟨⟨z,by simp[hz],h1⟩,?_⟩
   rw[h2]
   simp only[pget]
   rw[aa1]
   have:=ji.1 z hz
   rw[h1] at this
   exact this
theorem Bdj{m:List Bl}(h:Bnz m)(a:Int):pget (Art m) a=pget m a:=by
 rcases Brb (o:=[]) a h List.Pairwise.nil with⟨h1,h2⟩ | ⟨_,h2⟩
 ·exact h2.trans (by rw[Up h1];rfl)
 ·exact h2
theorem Byz{m:List Bl}{y:Bl}(h:Bnz m):Art (Alk m y)=Ns (Art m) y :=
 Cpb (Ba2 _) (Azr (Ba2 m)) (Bv5 _) (Btt (Bv5 m)) fun a=>by
  rw[Bdj (Bge h),Bru,Bh4 (Ba2 m),Bdj h]
theorem Brj:∀ (m o:List Bl),(m.foldl Ns o).length≤o.length+m.length
 | [],o=>by simp
 | x::m,o=>by
  have h1:=Brj m (Ns o x)
  have h2:=Bn7 o x
  simp only[ap0,ac5]
  omega
def Bam(x y:Nat):Nat:=(x % 4294967296) ^^^ (y % 4294967296)
def Boc(x y:Nat):Nat:=(x % 4294967296) &&& (y % 4294967296)
def Byx(x y:Nat):Nat:=(x % 4294967296) ||| (y % 4294967296)
def Ahs(x y:Nat):Nat:=(x+y) % 4294967296
def Ai0(x n:Nat):Nat:=Byx (x*2 ^ (32-n) % 4294967296) (x / 2 ^ n)
theorem Chf(x y:Nat):Bam x y<4294967296:=Nat.xor_lt_two_pow (n:=32) (ai3 _ (by omega)) (ai3 _ (by omega))
theorem Cfz(x y:Nat):Boc x y<4294967296:=Nat.and_lt_two_pow (n:=32) _ (ai3 _ (by omega))
theorem Cip(x y:Nat):Byx x y<4294967296:=Nat.or_lt_two_pow (n:=32) (ai3 _ (by omega)) (ai3 _ (by omega))
theorem Cee(x y:Nat):Byx x y=Byx y x:=Nat.or_comm _ _
theorem Bv0(x y z:Nat):Ahs (Ahs x y) z=Ahs x (Ahs y z):=by unfold Ahs;omega
theorem Azf(x:Nat):IntKind.wrap .u32 (x:Int)=((x % 4294967296:Nat):Int):=by rw[IntKind.wrap_u32];omega
theorem x32(x y:Nat):IntKind.wrap .u32 ((BitVec.toNat (BitVec.ofInt 32 (x:Int) ^^^ BitVec.ofInt 32 (y:Int)):Nat):Int)=((Bam x y:Nat):Int):=by
 rw[BitVec.toNat_xor,ai5,ai5,aj1,aj1,Azf,← ac8 (Chf x y)];rfl
theorem n32(x y:Nat):IntKind.wrap .u32 ((BitVec.toNat (BitVec.ofInt 32 (x:Int) &&& BitVec.ofInt 32 (y:Int)):Nat):Int)=((Boc x y:Nat):Int):=by
 rw[BitVec.toNat_and,ai5,ai5,aj1,aj1,Azf,← ac8 (Cfz x y)];rfl
theorem o32(x y:Nat):IntKind.wrap .u32 ((BitVec.toNat (BitVec.ofInt 32 (x:Int) ||| BitVec.ofInt 32 (y:Int)):Nat):Int)=((Byx x y:Nat):Int):=by
 rw[BitVec.toNat_or,ai5,ai5,aj1,aj1,Azf,← ac8 (Cip x y)];rfl
theorem a32(x y:Nat):IntKind.wrap .u32 ((x:Int)+(y:Int))=((Ahs x y:Nat):Int):=by rw[← ab0,Azf];rfl
theorem m32(x c:Nat):IntKind.wrap .u32 ((x:Int)*(c:Int))=((x*c % 4294967296:Nat):Int):=by rw[← ap1,Azf]
theorem d32(x c:Nat):Int.fdiv (x:Int) (c:Int)=((x / c:Nat):Int):=by rw[ai1 _ (Int.natCast_nonneg _)];rfl
def sig(r1 r2 s x:Nat):Nat:=Bam (Bam (Ai0 x r1) (Ai0 x r2)) (x / s)
def Cpo(r1 r2 r3 x:Nat):Nat:=Bam (Bam (Ai0 x r1) (Ai0 x r2)) (Ai0 x r3)
def Chv(b:List Int)(i:Nat):Nat:=(b.getD (4*i) 0).toNat*16777216+(b.getD (4*i+1) 0).toNat*65536+(b.getD (4*i+2) 0).toNat*256+(b.getD (4*i+3) 0).toNat
def Bwh(l:List Nat)(i:Nat):Nat:=Ahs (Ahs (Ahs (l.getD (i-16) 0) (sig 7 18 8 (l.getD (i-15) 0))) (l.getD (i-7) 0)) (sig 17 19 1024 (l.getD (i-2) 0))
def I6(b:List Int):Nat→List Nat
 | 0=>[]
 | i+1=>I6 b i++[if i<16 then Chv b i else Bwh (I6 b i) i]
def Bf0:List Nat:=[
 0x428a2f98,0x71374491,0xb5c0fbcf,0xe9b5dba5,0x3956c25b,0x59f111f1,0x923f82a4,0xab1c5ed5,
 0xd807aa98,0x12835b01,0x243185be,0x550c7dc3,0x72be5d74,0x80deb1fe,0x9bdc06a7,0xc19bf174,
 0xe49b69c1,0xefbe4786,0x0fc19dc6,0x240ca1cc,0x2de92c6f,0x4a7484aa,0x5cb0a9dc,0x76f988da,
 0x983e5152,0xa831c66d,0xb00327c8,0xbf597fc7,0xc6e00bf3,0xd5a79147,0x06ca6351,0x14292967,
 0x27b70a85,0x2e1b2138,0x4d2c6dfc,0x53380d13,0x650a7354,0x766a0abb,0x81c2c92e,0x92722c85,
 0xa2bfe8a1,0xa81a664b,0xc24b8b70,0xc76c51a3,0xd192e819,0xd6990624,0xf40e3585,0x106aa070,
 0x19a4c116,0x1e376c08,0x2748774c,0x34b0bcb5,0x391c0cb3,0x4ed8aa4a,0x5b9cca4f,0x682e6ff3,
 0x748f82ee,0x78a5636f,0x84c87814,0x8cc70208,0x90befffa,0xa4506ceb,0xbef9a3f7,0xc67178f2]
def iv:List Nat:=[0x6a09e667,0xbb67ae85,0x3c6ef372,0xa54ff53a,0x510e527f,0x9b05688c,0x1f83d9ab,0x5be0cd19]
def rnd(t:List Nat)(k w:Nat):List Nat :=
 let a:=t.getD 0 0;let b:=t.getD 1 0;let c:=t.getD 2 0;let e:=t.getD 4 0;let f:=t.getD 5 0;let g:=t.getD 6 0
 let p:=Ahs (Ahs (Ahs (Ahs (t.getD 7 0) (Cpo 6 11 25 e)) (Bam (Boc e f) (Boc (Bam 4294967295 e) g))) k) w
 [Ahs (Ahs p (Cpo 2 13 22 a)) (Bam (Bam (Boc a b) (Boc a c)) (Boc b c)),a,b,c,Ahs (t.getD 3 0) p,e,f,g]
def Rr(w s:List Nat):Nat→List Nat
 | 0=>s
 | i+1=>rnd (Rr w s i) (Bf0.getD i 0) (w.getD i 0)
def Ap5(t s:List Nat)(i:Nat):List Nat:=(List.range 8).map fun j=>if j<i then Ahs (t.getD j 0) (s.getD j 0) else t.getD j 0
def Ci2(s:List Nat)(b:List Int):List Nat:=Ap5 (Rr (I6 b 64) s 64) s 8
def Ag1(m:List Int):Nat→List Nat
 | 0=>iv
 | i+1=>Ci2 (Ag1 m i) ((m.drop (64*i)).take 64)
def Ay0(b:List Int):List Int:=b++128::(List.replicate ((119-b.length % 64) % 64) 0++beB 8 (b.length*8))
def Z8(s:List Nat):List Int:=(List.range 32).map fun i=>((s.getD (i / 4) 0 / 2 ^ (24-8*(i % 4)) % 256:Nat):Int)
def sha(b:List Int):List Int:=Z8 (Ag1 (Ay0 b) ((Ay0 b).length / 64))
theorem Cio(b:List Int):(sha b).length=32:=by simp[sha,Z8]
theorem Cej(b:List Int):Co (sha b):=by
 intro x hx
 simp only[sha,Z8,ag8] at hx
 obtain⟨i,_,rfl⟩:=hx
 omega
set_option maxRecDepth 4000
def Cf(l:List Nat):List Int:=l.map fun n=>((n:Nat):Int)
theorem Bgy{l:List Nat}:(Cf l).length=l.length:=by simp[Cf]
theorem Btx{l m:List Nat}:Cf (l++m)=Cf l++Cf m:=by simp[Cf]
theorem Zq{l:List Nat}{i:Nat}:(Cf l).getD i 0=((l.getD i 0:Nat):Int):=by
 simp only[Cf,aa2,ag3]
 cases l[i]?<;>rfl
def part(l:List Nat)(n:Nat):List Int:=Cf l++List.replicate (n-l.length) 0
theorem Aej{l:List Nat}{n j:Nat}(h:j<l.length):(part l n).getD j 0=((l.getD j 0:Nat):Int):=by
 rw[part,aa2,ag9 (by rw[Bgy];exact h),← aa2,Zq]
theorem Avd{l:List Nat}{n:Nat}(h:l.length<n)(x:Nat):(part l n).set l.length (x:Int)=part (l++[x]) n:=by
 have e:n-l.length=(n-(l.length+1))+1:=by omega
 simp only[part,Btx,aa4,ag4]
 rw[List.set_append,aa1 (by rw[Bgy];omega),Bgy,ak2,e,aq0,am9]
 simp[Cf]
theorem Bay{l:List Nat}:part l l.length=Cf l:=by simp[part]
theorem Be1{n:Nat}:part [] n=List.replicate n 0:=by simp[part,Cf]
theorem Bau(b:List Int):∀ i,(I6 b i).length=i
 | 0=>rfl
 | i+1=>by simp[I6,Bau b i]
theorem Akl(x n:Nat)(h1:1≤n)(h2:n≤31):Bb ((x:Int),-((n:Nat):Int),())=some ((((Ai0 x n:Nat):Int),()),(),(),()):=by
 unfold Bb Rq
 simp only[Am]
 have e:∀ n,n<32→1≤n→IntKind.wrap .u64 ((BitVec.toNat (BitVec.ofInt 64 (IntKind.wrap .u64 (-((n:Nat):Int))) &&& BitVec.ofInt 64 31):Nat):Int)=((32-n:Nat):Int):=by decide
 rw[e n (by omega) h1,Ad,aa0 (by omega),show (32:Int)-((32-n:Nat):Int)=((n:Nat):Int) by omega,Gt (by omega) (by omega),Ad,aa0 (by omega)]
 simp only[aa3]
 have p:∀ k:Nat,(2:Int) ^ k=((2 ^ k:Nat):Int):=fun k=>by rw[ak9];rfl
 rw[ad8 (by omega),ad8 (by omega),p,p,m32,d32,o32]
 rfl
theorem Crr(x:Nat):Bb ((x:Int),(-7:Int),())=some ((((Ai0 x 7:Nat):Int),()),(),(),()):=Akl x 7 (by omega) (by omega)
theorem Cpl(x:Nat):Bb ((x:Int),(-18:Int),())=some ((((Ai0 x 18:Nat):Int),()),(),(),()):=Akl x 18 (by omega) (by omega)
theorem Coq(x:Nat):Bb ((x:Int),(-17:Int),())=some ((((Ai0 x 17:Nat):Int),()),(),(),()):=Akl x 17 (by omega) (by omega)
theorem Co3(x:Nat):Bb ((x:Int),(-19:Int),())=some ((((Ai0 x 19:Nat):Int),()),(),(),()):=Akl x 19 (by omega) (by omega)
theorem Csj(x:Nat):Bb ((x:Int),(-6:Int),())=some ((((Ai0 x 6:Nat):Int),()),(),(),()):=Akl x 6 (by omega) (by omega)
theorem Cp4(x:Nat):Bb ((x:Int),(-11:Int),())=some ((((Ai0 x 11:Nat):Int),()),(),(),()):=Akl x 11 (by omega) (by omega)
theorem Cp5(x:Nat):Bb ((x:Int),(-25:Int),())=some ((((Ai0 x 25:Nat):Int),()),(),(),()):=Akl x 25 (by omega) (by omega)
theorem Crk(x:Nat):Bb ((x:Int),(-2:Int),())=some ((((Ai0 x 2:Nat):Int),()),(),(),()):=Akl x 2 (by omega) (by omega)
theorem Cos(x:Nat):Bb ((x:Int),(-13:Int),())=some ((((Ai0 x 13:Nat):Int),()),(),(),()):=Akl x 13 (by omega) (by omega)
theorem Cpz(x:Nat):Bb ((x:Int),(-22:Int),())=some ((((Ai0 x 22:Nat):Int),()),(),(),()):=Akl x 22 (by omega) (by omega)
theorem Clu(x:Nat):Int.fdiv (x:Int) 8=((x / 8:Nat):Int):=d32 x 8
theorem Bxw(x:Nat):Int.fdiv (x:Int) 1024=((x / 1024:Nat):Int):=d32 x 1024
theorem Cle(x:Nat):IntKind.wrap .u32 ((BitVec.toNat (BitVec.ofInt 32 4294967295 ^^^ BitVec.ofInt 32 (x:Int)):Nat):Int)=((Bam 4294967295 x:Nat):Int):=x32 4294967295 x
theorem Cjv{p q r s:Int}(hp:0≤p∧p≤255)(hq:0≤q∧q≤255)(hr:0≤r∧r≤255)(hs:0≤s∧s≤255) :
  IntKind.wrap .u32 ((BitVec.toNat (BitVec.ofInt 32 (IntKind.wrap .u32 ((BitVec.toNat (BitVec.ofInt 32 (IntKind.wrap .u32 ((BitVec.toNat (BitVec.ofInt 32 (IntKind.wrap .u32 (IntKind.wrap .u32 p*16777216)) ||| BitVec.ofInt 32 (IntKind.wrap .u32 (IntKind.wrap .u32 q*65536))):Nat):Int)) |||
   BitVec.ofInt 32 (IntKind.wrap .u32 (IntKind.wrap .u32 r*256))):Nat):Int)) ||| BitVec.ofInt 32 (IntKind.wrap .u32 s)):Nat):Int)=((p.toNat*16777216+q.toNat*65536+r.toNat*256+s.toNat:Nat):Int):=by
 obtain⟨p,rfl⟩:=ab3 hp.1
 obtain⟨q,rfl⟩:=ab3 hq.1
 obtain⟨r,rfl⟩:=ab3 hr.1
 obtain⟨s,rfl⟩:=ab3 hs.1
 rw[Blv (n:=(p:Int)) (by omega) (by omega),Blv (n:=(q:Int)) (by omega) (by omega),Blv (n:=(r:Int)) (by omega) (by omega),Blv (n:=(s:Int)) (by omega) (by omega)]
 rw[show (p:Int)*16777216=((p*16777216:Nat):Int) by omega,show (q:Int)*65536=((q*65536:Nat):Int) by omega,show (r:Int)*256=((r*256:Nat):Int) by omega]
 rw[Blv (n:=((p*16777216:Nat):Int)) (by omega) (by omega),Blv (n:=((q*65536:Nat):Int)) (by omega) (by omega),Blv (n:=((r*256:Nat):Int)) (by omega) (by omega),o32,o32,o32]
 have o:∀ (a b i:Nat),b<2 ^ i→2 ^ i*a+b<4294967296→Byx (2 ^ i*a) b=2 ^ i*a+b:=fun a b i h1 h2=>by
  unfold Byx
  rw[ac8 (by omega),ac8 (by omega),Nat.two_pow_add_eq_or_of_lt h1]
 have e1:=o p (q*65536) 24 (by omega) (by omega)
 have e2:=o (p*256+q) (r*256) 16 (by omega) (by omega)
 have e3:=o (p*65536+q*256+r) s 8 (by omega) (by omega)
 rw[show p*16777216=2 ^ 24*p by omega,e1,show 2 ^ 24*p+q*65536=2 ^ 16*(p*256+q) by omega,e2,show 2 ^ 16*(p*256+q)+r*256=2 ^ 8*(p*65536+q*256+r) by omega,e3]
 simp only[aa3];omega
theorem Byb{b:List Int}(hb:Co b)(hl:b.length=64):Ji (b,())=some ((Cf (I6 b 64),()),(),()):=by
 unfold Ji Alv
 have kz:∀ t2:List Int,Ac _ _ (fun aa x=>Xo Bb aa x.1 x.2.1 x.2.2.1) (t2,part (I6 b 16) 64,(16:Int),())=some ((Cf (I6 b 64),()),(),()):=by
  intro t2
  refine Ai (I:=fun x=>(16:Int)≤x.2.2.1∧x.2.2.1≤(64:Int)∧x.2.1=part (I6 b x.2.2.1.toNat) 64) (m:=fun x=>((64:Int)-x.2.2.1).toNat) (g:=fun _=>some ((Cf (I6 b 64),()),(),())) ?_
   ⟨by simp only;omega,by simp only;omega,rfl⟩ (by simp only[Au];omega)
  rintro⟨t,w,i,_⟩ aa ⟨e1,e2,e3⟩ hag
  simp only at e1 e2 e3 hag ⊢
  subst e3
  obtain⟨i,rfl⟩:=ab3 (show 0≤i by omega)
  have kf:=Bau b i
  simp only[Xo,Am,Ad,Ao,aa3]
  by_cases hi:i<64
  ·rw[aa0 (by omega),Ar (n:=(i:Int)-7) (by omega) (by omega),Ar (n:=(i:Int)-16) (by omega) (by omega),Ar (n:=(i:Int)-2) (by omega) (by omega),Ar (n:=(i:Int)-15) (by omega) (by omega),Ar (n:=(i:Int)+1) (by omega) (by omega)]
   rw[show ((i:Int)-7).toNat=i-7 by omega,show ((i:Int)-16).toNat=i-16 by omega,show ((i:Int)-2).toNat=i-2 by omega,show ((i:Int)-15).toNat=i-15 by omega]
   rw[aa0 (by omega),aa0 (by omega),Aej (j:=i-7) (by omega),Aej (j:=i-16) (by omega),Aej (j:=i-2) (by omega),Aej (j:=i-15) (by omega)]
   simp only[Crr,Cpl,Coq,Co3,Aa]
   rw[aa0 (by omega),aa0 (by omega),aa0 (by omega)]
   simp only[x32,Clu,Bxw,a32]
   have es:(part (I6 b i) 64).set i ((Bwh (I6 b i) i:Nat):Int)=part (I6 b (i+1)) 64:=by
    have:=Avd (l:=I6 b i) (n:=64) (by omega) (Bwh (I6 b i) i)
    rw[kf] at this
    rw[this,I6,aa1 (by omega)]
   refine (am6 aa ?_).trans (hag (t,part (I6 b (i+1)) 64,((i:Int)+1),()) ⟨by simp only;omega,by simp only;omega,by simp only;rw[show ((i:Int)+1).toNat=i+1 by omega]⟩ (by simp only;omega))
   rw[← es];rfl
  ·have:i=64:=by omega
   subst this
   rw[aa1 (by omega)]
   have:=Bay (l:=I6 b 64)
   rw[kf] at this
   rw[this]
 refine Ai (I:=fun x=>x.1=b∧(0:Int)≤x.2.2.2.1∧x.2.2.2.1≤(16:Int)∧x.2.2.1=part (I6 b x.2.2.2.1.toNat) 64) (m:=fun x=>((16:Int)-x.2.2.2.1).toNat) (g:=fun _=>some ((Cf (I6 b 64),()),(),())) ?_
  ⟨rfl,by simp only;omega,by simp only;omega,by simp only;exact Be1.symm⟩ (by simp only[Au];omega)
 rintro⟨b',t,w,i,_⟩ aa ⟨e0,e1,e2,e3⟩ hag
 simp only at e0 e1 e2 e3 hag ⊢
 subst e0 e3
 obtain⟨i,rfl⟩:=ab3 e1
 have kf:=Bau b' i
 simp only[Ahm,Am,Ad,Ao,aa3]
 by_cases hi:i<16
 ·rw[aa0 (by omega),Ar (n:=4*(i:Int)) (by omega) (by omega),Ar (n:=4*(i:Int)+3) (by omega) (by omega),Ar (n:=4*(i:Int)+2) (by omega) (by omega),Ar (n:=4*(i:Int)+1) (by omega) (by omega),Ar (n:=(i:Int)+1) (by omega) (by omega)]
  rw[show (4*(i:Int)).toNat=4*i by omega,show (4*(i:Int)+1).toNat=4*i+1 by omega,show (4*(i:Int)+2).toNat=4*i+2 by omega,show (4*(i:Int)+3).toNat=4*i+3 by omega]
  rw[aa0 (by omega),aa0 (by omega),aa0 (by omega),aa0 (by omega),aa0 (by omega),Cjv (hb.at _) (hb.at _) (hb.at _) (hb.at _)]
  have es:(part (I6 b' i) 64).set i ((Chv b' i:Nat):Int)=part (I6 b' (i+1)) 64:=by
   have:=Avd (l:=I6 b' i) (n:=64) (by omega) (Chv b' i)
   rw[kf] at this
   rw[this,I6,aa0 (by omega)]
  refine (am6 aa ?_).trans (hag (b',t,part (I6 b' (i+1)) 64,((i:Int)+1),()) ⟨rfl,by simp only;omega,by simp only;omega,by simp only;rw[show ((i:Int)+1).toNat=i+1 by omega]⟩ (by simp only;omega))
  rw[← es];rfl
 ·have:i=16:=by omega
  subst this
  rw[aa1 (by omega)]
  exact kz t
theorem Bog{w s:List Nat}(h:s.length=8):∀ i,(Rr w s i).length=8
 | 0=>h
 | i+1=>rfl
theorem Bvv{t s:List Nat}{i:Nat}(hi:i<8):(Cf (Ap5 t s i)).set i ((Ahs (t.getD i 0) (s.getD i 0):Nat):Int)=Cf (Ap5 t s (i+1)):=by
 apply al4
 ·simp[Cf,Ap5]
 ·intro j h1 h2
  have hj:j<8:=by simpa [Cf,Ap5] using h2
  simp only[as4,Cf,Ap5,as5,aq9]
  by_cases hc:i=j
  ·subst hc;simp
  ·rw[aa1 hc]
   by_cases h3:j<i
   ·rw[aa0 h3,aa0 (by omega)]
   ·rw[aa1 h3,aa1 (by omega)]
theorem Brn{t s:List Nat}(h:t.length=8):Ap5 t s 0=t:=by
 apply al4
 ·simp[Ap5,h]
 ·intro j h1 h2
  simp only[Ap5,as5,aq9]
  rw[aa1 (by omega),aa2,aa6 h2];rfl
theorem Bqu{t s:List Nat}{i:Nat}(hi:i<8):(Ap5 t s i).getD i 0=t.getD i 0:=by
 rw[Ap5,aa2,ag3,List.getElem?_range hi]
 simp
theorem Bx9{s w:List Nat}(hs:s.length=8):Jr (Cf s,Cf w,Cf Bf0,())=some ((Cf (Ap5 (Rr w s 64) s 8),()),(),(),(),()):=by
 unfold Jr Amg
 have kz:∀ t2:List Int,Ac _ _ (fun aa x=>Xf aa x.1 x.2.1 x.2.2.1 x.2.2.2.1) (Cf s,t2,Cf (Rr w s 64),(0:Int),())=some ((Cf (Ap5 (Rr w s 64) s 8),()),(),(),(),()):=by
  intro t2
  refine Ai (I:=fun x=>x.1=Cf s∧(0:Int)≤x.2.2.2.1∧x.2.2.2.1≤(8:Int)∧x.2.2.1=Cf (Ap5 (Rr w s 64) s x.2.2.2.1.toNat)) (m:=fun x=>((8:Int)-x.2.2.2.1).toNat) (g:=fun _=>some ((Cf (Ap5 (Rr w s 64) s 8),()),(),(),(),())) ?_
   ⟨rfl,by simp only;omega,by simp only;omega,by simp only;rw[show (0:Int).toNat=0 from rfl,Brn (Bog hs 64)]⟩ (by simp only[Au];omega)
  rintro⟨s',t',t,i,_⟩ aa ⟨e0,e1,e2,e3⟩ hag
  simp only at e0 e1 e2 e3 hag ⊢
  subst e0 e3
  obtain⟨i,rfl⟩:=ab3 e1
  simp only[Xf,Am,Ad,Ao,aa3]
  by_cases hi:i<8
  ·rw[aa0 (by omega),aa0 (by omega),aa0 (by omega),aa0 (by omega),Zq,Zq,a32,Bqu hi,Bvv hi,Ar (by omega) (by omega)]
   exact hag _ ⟨rfl,by simp only;omega,by simp only;omega,by simp only;rw[show ((i:Int)+1).toNat=i+1 by omega]⟩ (by simp only;omega)
  ·have:i=8:=by omega
   subst this
   rw[aa1 (by omega)]
 refine Ai (I:=fun x=>x.1=Cf s∧x.2.1=Cf w∧x.2.2.1=Cf Bf0∧(0:Int)≤x.2.2.2.2.2.1∧x.2.2.2.2.2.1≤(64:Int)∧x.2.2.2.2.1=Cf (Rr w s x.2.2.2.2.2.1.toNat)) (m:=fun x=>((64:Int)-x.2.2.2.2.2.1).toNat) (g:=fun _=>some ((Cf (Ap5 (Rr w s 64) s 8),()),(),(),(),())) ?_
  ⟨rfl,rfl,rfl,by simp only;omega,by simp only;omega,rfl⟩ (by simp only[Au];omega)
 rintro⟨s',w',k',t',t,i,_⟩ aa ⟨e0,e1,e2,e3,e4,e5⟩ hag
 simp only at e0 e1 e2 e3 e4 e5 hag ⊢
 subst e0 e1 e2 e5
 obtain⟨i,rfl⟩:=ab3 e3
 simp only[Aho,Am,Ad,Ao,aa3]
 by_cases hi:i<64
 ·rw[aa0 (by omega)]
  simp only[Zq,Csj,Cp4,Cp5,Crk,Cos,Cpz,Aa]
  rw[aa0 (by omega),aa0 (by omega),Ar (by omega) (by omega)]
  simp only[Cle,x32,n32,a32]
  refine (am6 aa ?_).trans (hag (Cf s,Cf w,Cf Bf0,t',Cf (Rr w s (i+1)),((i:Int)+1),()) ⟨rfl,rfl,rfl,by simp only;omega,by simp only;omega,by simp only;rw[show ((i:Int)+1).toNat=i+1 by omega]⟩ (by simp only;omega))
  rw[Rr,rnd]
  simp only[Cf,ae5,ak0]
  rfl
 ·have:i=64:=by omega
  subst this
  rw[aa1 (by omega)]
  exact kz t'
theorem Cg3(t s:List Nat)(i:Nat):(Ap5 t s i).length=8:=by simp[Ap5]
theorem Bls(m:List Int):∀ i,(Ag1 m i).length=8
 | 0=>rfl
 | i+1=>by rw[Ag1,Ci2,Cg3]
theorem Bea:Gv ()=some ((Cf Bf0,()),()):=by
 unfold Gv Wz;rfl
def Bie(s:List Nat)(i:Nat):List Nat:=(List.range i).map fun i=>s.getD (i / 4) 0 / 2 ^ (24-8*(i % 4)) % 256
theorem Bvm(s:List Nat)(i:Nat):(Bie s i).length=i:=by simp[Bie]
theorem Bqt(s:List Nat)(i:Nat):Bie s (i+1)=Bie s i++[s.getD (i / 4) 0 / 2 ^ (24-8*(i % 4)) % 256]:=by simp[Bie,at4]
theorem Ca8(s:List Nat):Cf (Bie s 32)=Z8 s:=by
 simp only[Cf,Bie,Z8,List.map_map];rfl
theorem Bye{s:List Nat}{i:Nat}:IntKind.wrap .u8 (Int.fdiv ((Cf s).getD (i / 4) 0) ((2:Int) ^ (24-8*(i % 4))))=((s.getD (i / 4) 0 / 2 ^ (24-8*(i % 4)) % 256:Nat):Int):=by
 have p:∀ k:Nat,(2:Int) ^ k=((2 ^ k:Nat):Int):=fun k=>by rw[ak9];rfl
 rw[Zq,p,d32,ap2];omega
theorem Cdx{s:List Nat}(t2:List Int):Ac _ _ (fun aa x=>Aim aa x.1 x.2.1 x.2.2.1 x.2.2.2.1) (t2,Cf s,List.replicate 32 0,(0:Int),())=some ((Z8 s,()),(),()):=by
 refine Ai (I:=fun x=>x.2.1=Cf s∧(0:Int)≤x.2.2.2.1∧x.2.2.2.1≤(32:Int)∧x.2.2.1=part (Bie s x.2.2.2.1.toNat) 32) (m:=fun x=>((32:Int)-x.2.2.2.1).toNat) (g:=fun _=>some ((Z8 s,()),(),())) ?_
  ⟨rfl,by simp only;omega,by simp only;omega,Be1.symm⟩ (by simp only[Au];omega)
 rintro⟨t,s',h,i,_⟩ aa ⟨e0,e1,e2,e3⟩ hag
 simp only at e0 e1 e2 e3 hag ⊢
 subst e0 e3
 obtain⟨i,rfl⟩:=ab3 e1
 have kf:=Bvm s i
 simp only[Aim,Am,Ad,Ao,aa3]
 by_cases hi:i<32
 ·rw[aa0 (by omega),Ak1 (by omega),Ix (by omega),Ar (n:=(i:Int) / 4) (by omega) (by omega),Ar (n:=8*((i:Int) % 4)) (by omega) (by omega),Ar (n:=24-8*((i:Int) % 4)) (by omega) (by omega),Ar (n:=(i:Int)+1) (by omega) (by omega),aa0 (by omega),aa0 (by omega),aa0 (by omega)]
  rw[show ((i:Int) / 4).toNat=i / 4 by omega,show (24-8*((i:Int) % 4)).toNat=24-8*(i % 4) by omega,ad8 (by omega),Bye]
  have es:=Avd (l:=Bie s i) (n:=32) (by omega) (s.getD (i / 4) 0 / 2 ^ (24-8*(i % 4)) % 256)
  rw[kf,← Bqt] at es
  rw[es]
  exact hag _ ⟨rfl,by simp only;omega,by simp only;omega,by simp only;rw[show ((i:Int)+1).toNat=i+1 by omega]⟩ (by simp only;omega)
 ·have:i=32:=by omega
  subst this
  rw[aa1 (by omega)]
  have:=Bay (l:=Bie s 32)
  rw[kf,Ca8] at this
  rw[this]
theorem Bss{m:List Int}(hm:Co m){n:Nat}(hn:m.length=64*n)(hl:m.length≤1000000000)(t2:List Int) :
  Ac _ _ (fun aa x=>Aiu Ac Ji Jr aa x.1 x.2.1 x.2.2.1 x.2.2.2.1 x.2.2.2.2.1) (t2,m,Cf iv,Cf Bf0,(0:Int),())=some ((Z8 (Ag1 m n),()),(),()):=by
 refine Ai (I:=fun x=>x.2.1=m∧x.2.2.2.1=Cf Bf0∧∃ i:Nat,i≤n∧x.2.2.2.2.1=((64*i:Nat):Int)∧x.2.2.1=Cf (Ag1 m i)) (m:=fun x=>((m.length:Int)-x.2.2.2.2.1).toNat) (g:=fun _=>some ((Z8 (Ag1 m n),()),(),())) ?_
  ⟨rfl,rfl,0,by omega,rfl,rfl⟩ (by simp only[Au];omega)
 rintro⟨t,m',s,k,a,_⟩ aa ⟨e0,e1,i,hi,e2,e3⟩ hag
 simp only at e0 e1 e2 e3 hag ⊢
 subst e0 e1 e2 e3
 simp only[Aiu,Am,Ad,Adg,aa3]
 by_cases hc:i<n
 ·rw[aa0 (by omega),Ar (by omega) (by omega),aa0 (by omega),aa0 (by omega),aa0 (by omega),show (((64*i:Nat):Int)+64).toNat-64*i=64 by omega,
   Byb ((hm.drop _).take _) (by rw[ab2,ac0];omega)]
  simp only[Aa]
  rw[Bx9 (Bls m' i)]
  simp only[Aa]
  exact hag _ ⟨rfl,rfl,i+1,by omega,by simp only;omega,rfl⟩ (by simp only;omega)
 ·have:i=n:=by omega
  subst this
  rw[aa1 (by omega)]
  exact Cdx t
theorem Cc2{l:List Int}(hb:Co l){n k:Nat}(hn:n<18446744073709551616)(hk:l.length+8=64*k)(hl:l.length≤900000000)(t2:List Int) :
  Ac _ _ (fun aa x=>Ah9 Ac Gv Ji Jr aa x.1 x.2.1 x.2.2.1 x.2.2.2.1) (t2,(n:Int),l,(7:Int),())=some ((Z8 (Ag1 (l++beB 8 n) k),()),(),()):=by
 refine Eq.trans (Ai (I:=fun x=>x.2.1=(n:Int)∧(-1:Int)≤x.2.2.2.1∧x.2.2.2.1≤(7:Int)∧Co x.2.2.1∧(x.2.2.1.length:Int)+x.2.2.2.1+1=((64*k:Nat):Int)) (m:=fun x=>(x.2.2.2.1+1).toNat) (g:=fun x=>some ((Z8 (Ag1 (x.2.2.1++beB (x.2.2.2.1+1).toNat n) k),()),(),())) ?_
  ⟨rfl,by simp only;omega,by simp only;omega,hb,by simp only;omega⟩ (by simp only[Au];omega)) rfl
 rintro⟨t,n',l',i,_⟩ aa ⟨e0,e1,e2,e3,e4⟩ hag
 simp only at e0 e1 e2 e3 e4 hag ⊢
 subst e0
 simp only[Ah9,Am,Ad,Bx,ge_iff_le]
 by_cases hi:0≤i
 ·obtain⟨j,rfl⟩:=ab3 hi
  rw[aa0 hi,Ar (n:=8*(j:Int)) (by omega) (by omega),aa0 (by omega),Dv (by omega),Ar (by omega) (by omega),show (8*(j:Int)).toNat=8*j by omega,ad8 (by omega)]
  have p:∀ k:Nat,(2:Int) ^ k=((2 ^ k:Nat):Int):=fun k=>by rw[ak9];rfl
  have kw:IntKind.wrap .u8 (Int.fdiv (n:Int) ((2:Int) ^ (8*j)))=((n / 256 ^ j % 256:Nat):Int):=by
   rw[p,d32,ap2,Bdf];omega
  rw[kw,hag _ ⟨rfl,by simp only;omega,by simp only;omega,e3.append (by intro x hx;simp only[ac3] at hx;subst hx;omega),by simp only[aa4,ag4];omega⟩ (by simp only;omega)]
  simp only
  rw[show ((j:Int)-1+1).toNat=j by omega,show ((j:Int)+1).toNat=j+1 by omega,beB];simp
 ·have:i = -1:=by omega
  subst this
  rw[aa1 hi,Bea]
  simp only[Aa]
  have:=Bss e3 (n:=k) (by omega) (by omega) t
  refine Eq.trans this ?_
  simp[beB]
theorem Chm{b:List Int}(hb:Co b)(hl:b.length≤100000000):Ld (b,())=some ((sha b,()),(),()):=by
 unfold Ld Bc4
 simp only
 rw[Aud (by simp;omega) (by simp),Gt (n:=(b.length:Int)) (by omega) (by omega),Gt (by omega) (by omega),show (b.length:Int)*8=((b.length*8:Nat):Int) by omega]
 simp only[Aa,List.flatten_cons,List.flatten_nil,ah9]
 refine Ai (I:=fun x=>x.2.1=((b.length*8:Nat):Int)∧∃ j:Nat,j≤(119-b.length % 64) % 64∧x.2.2.1=b++128::List.replicate j 0) (m:=fun x=>b.length+100-x.2.2.1.length) (g:=fun _=>some ((sha b,()),(),())) ?_
  ⟨rfl,0,by omega,rfl⟩ (by simp only[Au];omega)
 rintro⟨t,n,l,_⟩ aa ⟨e0,j,hj,e1⟩ hag
 simp only at e0 e1 hag ⊢
 subst e0 e1
 have ag:(b++128::List.replicate j (0:Int)).length=b.length+1+j:=by simp;omega
 simp only[Aui,Am,Ad,An,Bx]
 rw[Ix (by omega),ag,Dv (by omega)]
 by_cases hc:j=(119-b.length % 64) % 64
 ·rw[aa0 (by omega)]
  have kw:Co (b++128::List.replicate j (0:Int)):=hb.append (by
   intro x hx
   rcases aa9.1 hx with rfl|hx
   ·omega
   ·rw[ap9 hx];omega)
  refine (Cc2 kw (n:=b.length*8) (k:=(b.length+1+j+8) / 64) (by omega) (by omega) (by omega) t).trans ?_
  have hp:b++128::List.replicate j (0:Int)++beB 8 (b.length*8)=Ay0 b:=by simp[Ay0,hc]
  have gf:(Ay0 b).length=b.length+1+j+8:=by rw[← hp,aa4,ag,Ado]
  rw[hp,← gf];rfl
 ·rw[aa1 (by omega)]
  have e:b++128::List.replicate j (0:Int)++[0]=b++128::List.replicate (j+1) 0:=by
   rw[List.replicate_succ'];simp
  exact hag _ ⟨rfl,j+1,by omega,by simp only;exact e⟩ (by simp only[e,ag];simp;omega)
set_option maxRecDepth 4000
theorem Acm(x n:Nat)(h1:1≤n)(h2:n≤31):Dl ((x:Int),(n:Int),())=some ((((Ai0 x n:Nat):Int),()),(),(),()):=by
 unfold Dl Anr
 simp only[Am]
 rw[show (32:Int)-(n:Int)=((32-n:Nat):Int) by omega,Gt (by omega) (by omega),Ad,aa0 (by omega),Ad,aa0 (by omega)]
 simp only[aa3]
 have p:∀ k:Nat,(2:Int) ^ k=((2 ^ k:Nat):Int):=fun k=>by rw[ak9];rfl
 rw[ad8 (by omega),ad8 (by omega),p,p,m32,d32,o32,Cee]
 rfl
theorem rr7(x:Nat):Dl ((x:Int),(7:Int),())=some ((((Ai0 x 7:Nat):Int),()),(),(),()):=Acm x 7 (by omega) (by omega)
theorem Crz(x:Nat):Dl ((x:Int),(18:Int),())=some ((((Ai0 x 18:Nat):Int),()),(),(),()):=Acm x 18 (by omega) (by omega)
theorem Cru(x:Nat):Dl ((x:Int),(17:Int),())=some ((((Ai0 x 17:Nat):Int),()),(),(),()):=Acm x 17 (by omega) (by omega)
theorem Cre(x:Nat):Dl ((x:Int),(19:Int),())=some ((((Ai0 x 19:Nat):Int),()),(),(),()):=Acm x 19 (by omega) (by omega)
theorem rr6(x:Nat):Dl ((x:Int),(6:Int),())=some ((((Ai0 x 6:Nat):Int),()),(),(),()):=Acm x 6 (by omega) (by omega)
theorem Cri(x:Nat):Dl ((x:Int),(11:Int),())=some ((((Ai0 x 11:Nat):Int),()),(),(),()):=Acm x 11 (by omega) (by omega)
theorem Csf(x:Nat):Dl ((x:Int),(25:Int),())=some ((((Ai0 x 25:Nat):Int),()),(),(),()):=Acm x 25 (by omega) (by omega)
theorem rr2(x:Nat):Dl ((x:Int),(2:Int),())=some ((((Ai0 x 2:Nat):Int),()),(),(),()):=Acm x 2 (by omega) (by omega)
theorem Cra(x:Nat):Dl ((x:Int),(13:Int),())=some ((((Ai0 x 13:Nat):Int),()),(),(),()):=Acm x 13 (by omega) (by omega)
theorem Cr3(x:Nat):Dl ((x:Int),(22:Int),())=some ((((Ai0 x 22:Nat):Int),()),(),(),()):=Acm x 22 (by omega) (by omega)
theorem Cfy{p q r s:Int}(hp:0≤p∧p≤255)(hq:0≤q∧q≤255)(hr:0≤r∧r≤255)(hs:0≤s∧s≤255) :
  IntKind.wrap .u32 (IntKind.wrap .u32 (IntKind.wrap .u32 (IntKind.wrap .u32 (IntKind.wrap .u32 p*16777216)+IntKind.wrap .u32 (IntKind.wrap .u32 q*65536))+IntKind.wrap .u32 (IntKind.wrap .u32 r*256))+IntKind.wrap .u32 s) =
   ((p.toNat*16777216+q.toNat*65536+r.toNat*256+s.toNat:Nat):Int):=by
 simp only[IntKind.wrap_u32];omega
theorem Ces:Za ()=some ((Cf Bf0,()),()):=by
 unfold Za An0;rfl
theorem Bv9{s:List Nat}(hs:s.length=8)(W:List Nat)(t2:List Int):Ac _ _ (fun aa x=>Ad8 aa x.1 x.2.1 x.2.2.1 x.2.2.2.1) (Cf s,t2,Cf (Rr (W) s 64),(0:Int),())=some ((Cf (Ap5 (Rr W s 64) s 8),()),(),(),()):=by
 refine Ai (I:=fun x=>x.1=Cf s∧(0:Int)≤x.2.2.2.1∧x.2.2.2.1≤(8:Int)∧x.2.2.1=Cf (Ap5 (Rr (W) s 64) s x.2.2.2.1.toNat)) (m:=fun x=>((8:Int)-x.2.2.2.1).toNat) (g:=fun _=>some ((Cf (Ap5 (Rr W s 64) s 8),()),(),(),())) ?_
  ⟨rfl,by simp only;omega,by simp only;omega,by simp only;rw[show (0:Int).toNat=0 from rfl,Brn (Bog hs 64)]⟩ (by simp only[Au];omega)
 rintro⟨s',t',t,i,_⟩ aa ⟨e0,e1,e2,e3⟩ hag
 simp only at e0 e1 e2 e3 hag ⊢
 subst e0 e3
 obtain⟨i,rfl⟩:=ab3 e1
 simp only[Ad8,Am,Ad,Ao,aa3]
 by_cases hi:i<8
 ·rw[aa0 (by omega),aa0 (by omega),aa0 (by omega),aa0 (by omega),Zq,Zq,a32,Bqu hi,Bvv hi,Ar (by omega) (by omega)]
  exact hag _ ⟨rfl,by simp only;omega,by simp only;omega,by simp only;rw[show ((i:Int)+1).toNat=i+1 by omega]⟩ (by simp only;omega)
 ·have:i=8:=by omega
  subst this
  rw[aa1 (by omega)]
set_option maxHeartbeats 1000000 in
theorem Bse{s:List Nat}(hs:s.length=8)(W:List Nat)(t2:List Int):Ac _ _ (fun aa x=>Adv Ac Dl aa x.1 x.2.1 x.2.2.1 x.2.2.2.1 x.2.2.2.2.1 x.2.2.2.2.2.1) (Cf s,t2,Cf Bf0,Cf (W),Cf s,(0:Int),())=some ((Cf (Ap5 (Rr W s 64) s 8),()),(),(),()):=by
 refine Ai (I:=fun x=>x.1=Cf s∧x.2.2.1=Cf Bf0∧x.2.2.2.1=Cf (W)∧(0:Int)≤x.2.2.2.2.2.1∧x.2.2.2.2.2.1≤(64:Int)∧x.2.2.2.2.1=Cf (Rr (W) s x.2.2.2.2.2.1.toNat)) (m:=fun x=>((64:Int)-x.2.2.2.2.2.1).toNat) (g:=fun _=>some ((Cf (Ap5 (Rr W s 64) s 8),()),(),(),())) ?_
  ⟨rfl,rfl,rfl,by simp only;omega,by simp only;omega,rfl⟩ (by simp only[Au];omega)
 rintro⟨s',t',k',w',t,i,_⟩ aa ⟨e0,e1,e2,e3,e4,e5⟩ hag
 simp only at e0 e1 e2 e3 e4 e5 hag ⊢
 subst e0 e1 e2 e5
 obtain⟨i,rfl⟩:=ab3 e3
 simp only[Adv,Am,Ad,Ao,aa3]
 by_cases hi:i<64
 ·have ir:(0:Int)≤(i:Int)∧(i:Int)<((64:Nat):Int):=by omega
  rw[aa0 (by omega)]
  simp only[Zq,rr6,Cri,Csf,rr2,Cra,Cr3,Aa,aa0 ir]
  rw[Ar (by omega) (by omega)]
  simp only[Cle,x32,n32,a32]
  refine (am6 aa ?_).trans (hag (Cf s,t',Cf Bf0,Cf (W),Cf (Rr (W) s (i+1)),((i:Int)+1),()) ⟨rfl,rfl,rfl,by simp only;omega,by simp only;omega,by simp only;rw[show ((i:Int)+1).toNat=i+1 by omega]⟩ (by simp only;omega))
  rw[Rr,rnd]
  simp only[Cf,ae5,ak0,Bv0]
  rfl
 ·have:i=64:=by omega
  subst this
  rw[aa1 (by omega)]
  exact Bv9 hs W t'
set_option maxHeartbeats 1000000 in
theorem Cf1{s:List Nat}(hs:s.length=8){b:List Int}(hb:Co b)(hl:b.length=64):Od (Cf s,b,())=some ((Cf (Ci2 s b),()),(),(),()):=by
 unfold Od Anw
 rw[Ces]
 simp only[Aa]
 refine Ai (I:=fun x=>x.1=b∧x.2.1=Cf s∧x.2.2.2.1=Cf Bf0∧(0:Int)≤x.2.2.2.2.2.1∧x.2.2.2.2.2.1≤(64:Int)∧x.2.2.2.2.1=part (I6 b x.2.2.2.2.2.1.toNat) 64) (m:=fun x=>((64:Int)-x.2.2.2.2.2.1).toNat) (g:=fun _=>some ((Cf (Ci2 s b),()),(),(),())) ?_
  ⟨rfl,rfl,rfl,by simp only;omega,by simp only;omega,by simp only;exact Be1.symm⟩ (by simp only[Au];omega)
 rintro⟨b',h',t,k',w,i,_⟩ aa ⟨e0,e1,e2,e3,e4,e5⟩ hag
 simp only at e0 e1 e2 e3 e4 e5 hag ⊢
 subst e0 e1 e2 e5
 obtain⟨i,rfl⟩:=ab3 e3
 have kf:=Bau b' i
 simp only[Apy,Am,Ad,Ao,aa3]
 by_cases hi:i<64
 ·rw[aa0 (by omega)]
  by_cases h16:i<16
  ·rw[aa0 (by omega),Ar (n:=4*(i:Int)) (by omega) (by omega),Ar (n:=4*(i:Int)+3) (by omega) (by omega),Ar (n:=4*(i:Int)+2) (by omega) (by omega),Ar (n:=4*(i:Int)+1) (by omega) (by omega),Ar (n:=(i:Int)+1) (by omega) (by omega)]
   rw[show (4*(i:Int)).toNat=4*i by omega,show (4*(i:Int)+1).toNat=4*i+1 by omega,show (4*(i:Int)+2).toNat=4*i+2 by omega,show (4*(i:Int)+3).toNat=4*i+3 by omega]
   rw[aa0 (by omega),aa0 (by omega),aa0 (by omega),aa0 (by omega),aa0 (by omega),Cfy (hb.at _) (hb.at _) (hb.at _) (hb.at _)]
   have es:(part (I6 b' i) 64).set i ((Chv b' i:Nat):Int)=part (I6 b' (i+1)) 64:=by
    have:=Avd (l:=I6 b' i) (n:=64) (by omega) (Chv b' i)
    rw[kf] at this
    rw[this,I6,aa0 (by omega)]
   refine (am6 aa ?_).trans (hag (b',Cf s,t,Cf Bf0,part (I6 b' (i+1)) 64,((i:Int)+1),()) ⟨rfl,rfl,rfl,by simp only;omega,by simp only;omega,by simp only;rw[show ((i:Int)+1).toNat=i+1 by omega]⟩ (by simp only;omega))
   rw[← es];rfl
  ·rw[aa1 (by omega),Ar (n:=(i:Int)-7) (by omega) (by omega),Ar (n:=(i:Int)-16) (by omega) (by omega),Ar (n:=(i:Int)-2) (by omega) (by omega),Ar (n:=(i:Int)-15) (by omega) (by omega),Ar (n:=(i:Int)+1) (by omega) (by omega)]
   rw[show ((i:Int)-7).toNat=i-7 by omega,show ((i:Int)-16).toNat=i-16 by omega,show ((i:Int)-2).toNat=i-2 by omega,show ((i:Int)-15).toNat=i-15 by omega]
   rw[aa0 (by omega),aa0 (by omega),aa0 (by omega),Aej (j:=i-7) (by omega),Aej (j:=i-16) (by omega),Aej (j:=i-2) (by omega),Aej (j:=i-15) (by omega)]
   have hA:(0:Int)≤(i:Int)-7∧(i:Int)-7<((64:Nat):Int):=by omega
   have hB:(0:Int)≤(i:Int)∧(i:Int)<((64:Nat):Int):=by omega
   simp only[rr7,Crz,Cru,Cre,Aa,aa0 hA,aa0 hB]
   simp only[x32,Clu,Bxw,a32]
   have es:(part (I6 b' i) 64).set i ((Bwh (I6 b' i) i:Nat):Int)=part (I6 b' (i+1)) 64:=by
    have:=Avd (l:=I6 b' i) (n:=64) (by omega) (Bwh (I6 b' i) i)
    rw[kf] at this
    rw[this,I6,aa1 (by omega)]
   refine (am6 aa ?_).trans (hag (b',Cf s,t,Cf Bf0,part (I6 b' (i+1)) 64,((i:Int)+1),()) ⟨rfl,rfl,rfl,by simp only;omega,by simp only;omega,by simp only;rw[show ((i:Int)+1).toNat=i+1 by omega]⟩ (by simp only;omega))
   rw[← es];rfl
 ·have:i=64:=by omega
  subst this
  rw[aa1 (by omega)]
  have:=Bay (l:=I6 b' 64)
  rw[kf] at this
  rw[this]
  exact Bse hs (I6 b' 64) t
theorem Byt{s:List Nat}(t2:List Int):Ac _ _ (fun aa x=>Aig aa x.1 x.2.1 x.2.2.1 x.2.2.2.1) (t2,Cf s,List.replicate 32 0,(0:Int),())=some ((Z8 s,()),(),()):=by
 refine Ai (I:=fun x=>x.2.1=Cf s∧(0:Int)≤x.2.2.2.1∧x.2.2.2.1≤(32:Int)∧x.2.2.1=part (Bie s x.2.2.2.1.toNat) 32) (m:=fun x=>((32:Int)-x.2.2.2.1).toNat) (g:=fun _=>some ((Z8 s,()),(),())) ?_
  ⟨rfl,by simp only;omega,by simp only;omega,Be1.symm⟩ (by simp only[Au];omega)
 rintro⟨t,s',h,i,_⟩ aa ⟨e0,e1,e2,e3⟩ hag
 simp only at e0 e1 e2 e3 hag ⊢
 subst e0 e3
 obtain⟨i,rfl⟩:=ab3 e1
 have kf:=Bvm s i
 simp only[Aig,Am,Ad,Ao,aa3]
 by_cases hi:i<32
 ·rw[aa0 (by omega),Ak1 (by omega),Ix (by omega),Ar (n:=(i:Int) / 4) (by omega) (by omega),Ar (n:=8*((i:Int) % 4)) (by omega) (by omega),Ar (n:=24-8*((i:Int) % 4)) (by omega) (by omega),Gt (n:=24-8*((i:Int) % 4)) (by omega) (by omega),Ar (n:=(i:Int)+1) (by omega) (by omega),aa0 (by omega),aa0 (by omega),aa0 (by omega)]
  rw[show ((i:Int) / 4).toNat=i / 4 by omega,show (24-8*((i:Int) % 4)).toNat=24-8*(i % 4) by omega,ad8 (by omega),Bye]
  have es:=Avd (l:=Bie s i) (n:=32) (by omega) (s.getD (i / 4) 0 / 2 ^ (24-8*(i % 4)) % 256)
  rw[kf,← Bqt] at es
  rw[es]
  exact hag _ ⟨rfl,by simp only;omega,by simp only;omega,by simp only;rw[show ((i:Int)+1).toNat=i+1 by omega]⟩ (by simp only;omega)
 ·have:i=32:=by omega
  subst this
  rw[aa1 (by omega)]
  have:=Bay (l:=Bie s 32)
  rw[kf,Ca8] at this
  rw[this]
theorem Boz{m:List Int}(hm:Co m){n:Nat}(hn:m.length=64*n)(hl:m.length≤1000000000)(t2:List Int) :
  Ac _ _ (fun aa x=>Aia Ac Od aa x.1 x.2.1 x.2.2.1 x.2.2.2.1) (t2,m,Cf iv,(0:Int),())=some ((Z8 (Ag1 m n),()),(),()):=by
 refine Ai (I:=fun x=>x.2.1=m∧∃ i:Nat,i≤n∧x.2.2.2.1=((64*i:Nat):Int)∧x.2.2.1=Cf (Ag1 m i)) (m:=fun x=>((m.length:Int)-x.2.2.2.1).toNat) (g:=fun _=>some ((Z8 (Ag1 m n),()),(),())) ?_
  ⟨rfl,0,by omega,rfl,rfl⟩ (by simp only[Au];omega)
 rintro⟨t,m',s,a,_⟩ aa ⟨e0,i,hi,e2,e3⟩ hag
 simp only at e0 e2 e3 hag ⊢
 subst e0 e2 e3
 simp only[Aia,Am,Ad,Adg,aa3]
 by_cases hc:i<n
 ·rw[aa0 (by omega),Ar (by omega) (by omega),aa0 (by omega),aa0 (by omega),aa0 (by omega),show (((64*i:Nat):Int)+64).toNat-64*i=64 by omega,
   Cf1 (Bls m' i) ((hm.drop _).take _) (by rw[ab2,ac0];omega)]
  simp only[Aa]
  exact hag _ ⟨rfl,i+1,by omega,by simp only;omega,rfl⟩ (by simp only;omega)
 ·have:i=n:=by omega
  subst this
  rw[aa1 (by omega)]
  exact Byt t
theorem Byk{l:List Int}(hb:Co l){n k:Nat}(hn:n<18446744073709551616)(hk:l.length+8=64*k)(hl:l.length≤900000000)(t2:List Int) :
  Ac _ _ (fun aa x=>Aiq Ac Od aa x.1 x.2.1 x.2.2.1 x.2.2.2.1) (t2,l,(n:Int),(7:Int),())=some ((Z8 (Ag1 (l++beB 8 n) k),()),(),()):=by
 refine Eq.trans (Ai (I:=fun x=>x.2.2.1=(n:Int)∧(-1:Int)≤x.2.2.2.1∧x.2.2.2.1≤(7:Int)∧Co x.2.1∧(x.2.1.length:Int)+x.2.2.2.1+1=((64*k:Nat):Int)) (m:=fun x=>(x.2.2.2.1+1).toNat) (g:=fun x=>some ((Z8 (Ag1 (x.2.1++beB (x.2.2.2.1+1).toNat n) k),()),(),())) ?_
  ⟨rfl,by simp only;omega,by simp only;omega,hb,by simp only;omega⟩ (by simp only[Au];omega)) rfl
 rintro⟨t,l',n',i,_⟩ aa ⟨e0,e1,e2,e3,e4⟩ hag
 simp only at e0 e1 e2 e3 e4 hag ⊢
 subst e0
 simp only[Aiq,Am,Ad,Bx,ge_iff_le]
 by_cases hi:0≤i
 ·obtain⟨j,rfl⟩:=ab3 hi
  rw[aa0 hi,Ar (n:=8*(j:Int)) (by omega) (by omega),Gt (n:=8*(j:Int)) (by omega) (by omega),aa0 (by omega),Dv (by omega),Ar (by omega) (by omega),show (8*(j:Int)).toNat=8*j by omega,ad8 (by omega)]
  have p:∀ k:Nat,(2:Int) ^ k=((2 ^ k:Nat):Int):=fun k=>by rw[ak9];rfl
  have kw:IntKind.wrap .u8 (Int.fdiv (n:Int) ((2:Int) ^ (8*j)))=((n / 256 ^ j % 256:Nat):Int):=by
   rw[p,d32,ap2,Bdf];omega
  rw[kw,hag _ ⟨rfl,by simp only;omega,by simp only;omega,e3.append (by intro x hx;simp only[ac3] at hx;subst hx;omega),by simp only[aa4,ag4];omega⟩ (by simp only;omega)]
  simp only
  rw[show ((j:Int)-1+1).toNat=j by omega,show ((j:Int)+1).toNat=j+1 by omega,beB];simp
 ·have:i = -1:=by omega
  subst this
  rw[aa1 hi]
  have:=Boz e3 (n:=k) (by omega) (by omega) t
  refine Eq.trans this ?_
  simp[beB]
theorem Bsr{b:List Int}(hb:Co b)(hl:b.length≤100000000):M5 (b,())=some ((sha b,()),(),()):=by
 unfold M5 Awz
 simp only[Bx]
 rw[Dv (by omega),Dv (by omega)]
 refine Ai (I:=fun x=>x.1=b∧∃ j:Nat,j≤(119-b.length % 64) % 64∧x.2.2.1=b++128::List.replicate j 0) (m:=fun x=>b.length+100-x.2.2.1.length) (g:=fun _=>some ((sha b,()),(),())) ?_
  ⟨rfl,0,by omega,rfl⟩ (by simp only[Au];omega)
 rintro⟨b',t,l,_⟩ aa ⟨e0,j,hj,e1⟩ hag
 simp only at e0 e1 hag ⊢
 subst e0 e1
 have ag:(b'++128::List.replicate j (0:Int)).length=b'.length+1+j:=by simp;omega
 simp only[Aul,Am,Ad,An,Bx]
 rw[Ix (by omega),ag,Dv (by omega)]
 by_cases hc:j=(119-b'.length % 64) % 64
 ·rw[aa0 (by omega),Gt (n:=(b'.length:Int)) (by omega) (by omega),Gt (by omega) (by omega),show (b'.length:Int)*8=((b'.length*8:Nat):Int) by omega]
  have kw:Co (b'++128::List.replicate j (0:Int)):=hb.append (by
   intro x hx
   rcases aa9.1 hx with rfl|hx
   ·omega
   ·rw[ap9 hx];omega)
  refine (Byk kw (n:=b'.length*8) (k:=(b'.length+1+j+8) / 64) (by omega) (by omega) (by omega) t).trans ?_
  have hp:b'++128::List.replicate j (0:Int)++beB 8 (b'.length*8)=Ay0 b':=by simp[Ay0,hc]
  have gf:(Ay0 b').length=b'.length+1+j+8:=by rw[← hp,aa4,ag,Ado]
  rw[hp,← gf];rfl
 ·rw[aa1 (by omega)]
  have e:b'++128::List.replicate j (0:Int)++[0]=b'++128::List.replicate (j+1) 0:=by
   rw[List.replicate_succ'];simp
  exact hag _ ⟨rfl,j+1,by omega,by simp only;exact e⟩ (by simp only[e,ag];simp;omega)
set_option maxRecDepth 100000
def H32(h:List Int):Prop:=h.length=32∧Co h
theorem Bug(b:List Int):H32 (sha b):=⟨Cio b,Cej b⟩
def Cfa(b:List Int):List Int:=sha (0::b)
def Ay9(x y:List Int):List Int:=sha (1::(x++y))
theorem Bdm{x:Int}{b:List Int}(hx:0≤x∧x≤255)(hb:Co b):Co (x::b):=fun y hy=>by
 rcases aa9.1 hy with rfl|hy
 ·exact hx
 ·exact hb y hy
theorem Bsz{x:List Int}(h:x.length=32):List.take (32-0) (List.drop 0 x)=x:=by
 rw[ag0,aa8 (by omega)]
theorem Ca3{x y:List Int}(hx:H32 x)(hy:H32 y):Asy (x,y,())=some ((Ay9 x y,()),(),(),()):=by
 unfold Asy Biw
 simp only
 have h1:=hx.1
 have h2:=hy.1
 rw[Bsz h1,Bsz h2,Aud (by simp;omega) (by simp)]
 simp only[Aa,List.flatten_cons,List.flatten_nil,ah9,aq5,af8]
 rw[Chm (Bdm (by omega) (hx.2.append hy.2)) (by simp;omega)]
 rfl
theorem Cgy{b:List Int}(hb:Co b)(hl:b.length≤90000000):Acn (b,())=some ((Cfa b,()),(),()):=by
 unfold Acn Aqw
 simp only[Bx]
 rw[Dv (by omega),Bsr (b:=[0]++b) (Bdm (by omega) hb) (by simp;omega)]
 rfl
theorem Bmt{x y:List Int}(hx:H32 x)(hy:H32 y):Ry (x,y,())=some ((Ay9 x y,()),(),(),()):=by
 unfold Ry Az8
 simp only[Am,Bx]
 have h1:=hx.1
 have h2:=hy.1
 rw[Bsz h1,Bsz h2,Dv (by omega),Dv (by simp;omega),Bsr (b:=[1]++x++y) (Bdm (by omega) (hx.2.append hy.2)) (by simp;omega)]
 rfl
theorem Azj(x y:List Int):H32 (Ay9 x y):=Bug _
theorem Cgl(x:List Int):H32 (Cfa x):=Bug _
theorem Cax(x y:List Int):Yu (.arr 32 (.int .u8)) x y=decide (x=y):=Bsw _ _ _
def hv(c:Int):Int:=if 48≤c∧c≤57 then c-48 else if 97≤c∧c≤102 then c-87 else -1
def hN(s:List Int)(i:Nat):List Int:=(List.range 32).map fun k=>if 2*k+1<i then hv (s.getD (2*k) 0)*16+hv (s.getD (2*k+1) 0) else if 2*k<i then hv (s.getD (2*k) 0) else 0
theorem Cdg{l:List Int}{i k:Nat}{x:Int}(hi:i<l.length):(l.set i x).getD k 0=if k=i then x else l.getD k 0:=by
 rw[aa2,List.getElem?_set]
 by_cases h:i=k
 ·subst h;rw[aa0 rfl,aa0 hi,aa0 rfl];rfl
 ·rw[aa1 h,aa1 (fun e=>h e.symm),aa2]
def Cn5(s:List Int):Prop:=s.length=64∧∀ i,i<64→0≤hv (s.getD i 0)
noncomputable instance (s:List Int):Decidable (Cn5 s):=Classical.propDecidable _
set_option maxRecDepth 100000
abbrev Am2:=(Int×Unit)→Option Y14
def Abf(c:Y3→Option Y14)(b:Int)(a:Int):Option Y14:=(Ag (decide (a<(IntKind.wrap .i64 (b-a)))) (c (b,(IntKind.wrap .i64 (a*2)),())) (some ((a,()),(),())))
def Am3(L:Af)(a:Int):Option Y14:=(L _ _ (fun z x=>Abf z x.1 x.2.1) (a,1,()))
def Xs:Am2:=fun x=>Am3 Ac x.1
abbrev Xy:=Y57→Option Y65
def Asi(L:Af)(m:Am2)(h:Xy)(i:Biu)(e:Int)(f:Int)(g:(List Int))(b:Y1):Option Y65:=(A4 (List.length b:Int) fun c=>A4 (IntKind.wrap .i64 (c-1)) fun a=>A4 (List.getD b (Int.toNat a) (List.replicate 32 0)) fun j=>Ag (decide (e=1)) (some ((g,(decide (c=0)),()),(),(),(),(),())) (Ag (decide (c=0)) (some (((List.replicate 32 0),false,()),(),(),(),(),())) ((m (e,())).bind fun d=>Ag (Cj a (List.length b)) (Ag ((decide (0≤a))&&(decide (a≤c))) (Ag (decide (f<d.1.1)) ((h (d.1.1,f,g,(List.take ((Int.toNat a)-0) (List.drop 0 b)),())).bind fun k=>(i (k.1.1,j,())).bind fun n=>some ((n.1.1,k.1.2.1,()),(),(),(),(),())) ((h ((IntKind.wrap .i64 (e-d.1.1)),(IntKind.wrap .i64 (f-d.1.1)),g,(List.take ((Int.toNat a)-0) (List.drop 0 b)),())).bind fun l=>(i (j,l.1.1,())).bind fun o=>some ((o.1.1,l.1.2.1,()),(),(),(),(),()))) none) none)))
def Q6:Nat→Xy|0=>fun _=>none|n+1=>fun x=>Asi Ac Xs (Q6 n) Asy x.1 x.2.1 x.2.2.1 x.2.2.2.1
def Amu:Xy:=Q6 Bkh
abbrev Bka:=Y83→Option Y93
def Axl(L:Af)(d:Xy)(e:(List Int))(b:Int)(a:Int)(f:(List Int))(g:Y1):Option Y93:=(Ag (decide (a<0)) (some ((false,()),(),(),(),(),(),())) (Ag (decide (a≥b)) (some ((false,()),(),(),(),(),(),())) ((d (b,a,f,g,())).bind fun c=>Ag c.1.2.1 (some (((Yu (Ty.arr 32 (Ty.int IntKind.u8)) c.1.1 e),()),(),(),(),(),(),())) (some ((false,()),(),(),(),(),(),())))))
def Af1:Bka:=fun x=>Axl Ac Amu x.1 x.2.1 x.2.2.1 x.2.2.2.1 x.2.2.2.2.1
set_option maxRecDepth 100000
def sp(n:Nat):Nat:=2 ^ Nat.log2 (n-1)
theorem Cla{j n:Nat}(h1:2 ^ j<n)(h2:n≤2*2 ^ j):sp n=2 ^ j:=by
 have hp:0<2 ^ j:=ap3 j
 have:Nat.log2 (n-1)=j:=(Nat.log2_eq_iff (by omega)).2 ⟨by omega,by rw[ae6];omega⟩
 rw[sp,this]
theorem Ao7{n:Nat}(h:2≤n):1≤sp n∧sp n<n∧n≤2*sp n:=by
 have h0:n-1≠0:=by omega
 have h1:=Nat.log2_self_le h0
 have h2:=@Nat.lt_log2_self (n-1)
 rw[ae6] at h2
 have hp:0<2 ^ Nat.log2 (n-1):=ap3 _
 unfold sp
 exact⟨hp,by omega,by omega⟩
theorem Bo9{n:Nat}(h2:2≤n)(h3:n≤9223372036854775807):Xs ((n:Int),())=some ((((sp n:Nat):Int),()),(),()):=by
 unfold Xs Am3
 refine Ai (I:=fun x=>x.1=(n:Int)∧∃ j:Nat,x.2.1=((2 ^ j:Nat):Int)∧2 ^ j<n) (m:=fun x=>((n:Int)-x.2.1).toNat) (g:=fun _=>some ((((sp n:Nat):Int),()),(),())) ?_
  ⟨rfl,0,rfl,by simp only[ah2];omega⟩ (by simp only[Au];omega)
 rintro⟨n',k,_⟩ aa ⟨e0,j,e1,e2⟩ hag
 simp only at e0 e1 hag ⊢
 subst e0 e1
 have hp:0<2 ^ j:=ap3 j
 simp only[Abf,Ad]
 rw[Ar (by omega) (by omega)]
 by_cases hc:((2 ^ j:Nat):Int)<(n:Int)-((2 ^ j:Nat):Int)
 ·rw[aa0 hc,Ar (by omega) (by omega)]
  exact hag _ ⟨rfl,j+1,by simp only[ae6];omega,by rw[ae6];omega⟩ (by simp only;omega)
 ·rw[aa1 hc,Cla e2 (by omega)]
theorem Apw{n:Nat}(h2:2≤n)(h3:n≤9223372036854775807):Ex ((n:Int),())=some ((((sp n:Nat):Int),()),(),()):=by
 unfold Ex Agf
 refine Ai (I:=fun x=>x.1=(n:Int)∧∃ j:Nat,x.2.1=((2 ^ j:Nat):Int)∧2 ^ j<n) (m:=fun x=>((n:Int)-x.2.1).toNat) (g:=fun _=>some ((((sp n:Nat):Int),()),(),())) ?_
  ⟨rfl,0,rfl,by simp only[ah2];omega⟩ (by simp only[Au];omega)
 rintro⟨n',k,_⟩ aa ⟨e0,j,e1,e2⟩ hag
 simp only at e0 e1 hag ⊢
 subst e0 e1
 have hp:0<2 ^ j:=ap3 j
 simp only[Ae2,Ad]
 rw[Ar (by omega) (by omega)]
 by_cases hc:((2 ^ j:Nat):Int)<(n:Int)-((2 ^ j:Nat):Int)
 ·rw[aa0 hc,Ar (by omega) (by omega)]
  exact hag _ ⟨rfl,j+1,by simp only[ae6];omega,by rw[ae6];omega⟩ (by simp only;omega)
 ·rw[aa1 hc,Cla e2 (by omega)]
abbrev Z32:List Int:=List.replicate 32 0
theorem Bvu:H32 Z32:=⟨by simp,fun x hx=>by rw[ap9 hx];omega⟩
def Ul(l:List (List Int)):Prop:=∀ h∈l,H32 h
theorem Ul.take{l:List (List Int)}(h:Ul l)(i:Nat):Ul (l.take i):=fun x hx=>h x (ah7 hx)
theorem Ul.drop{l:List (List Int)}(h:Ul l)(i:Nat):Ul (l.drop i):=fun x hx=>h x (an2 hx)
theorem Ul.append{l m:List (List Int)}(h:Ul l)(k:Ul m):Ul (l++m):=fun x hx=>by
 rcases ad9.1 hx with hx|hx
 ·exact h x hx
 ·exact k x hx
theorem Ul.at{l:List (List Int)}(h:Ul l)(i:Nat):H32 (l.getD i Z32):=by
 rcases ad3 i l.length with hi|hi
 ·exact h _ (B3 hi)
 ·rw[aa2,ai4 hi];exact Bvu
theorem Ul.one{x:List Int}(h:H32 x):Ul [x]:=fun y hy=>by simp only[ac3] at hy;subst hy;exact h
def Ahz(l:List (List Int)):List Int :=
 if l.length=0 then sha [] else if l.length=1 then l.getD 0 Z32 else
  if h:2≤l.length then Ay9 (Ahz (l.take (sp l.length))) (Ahz (l.drop (sp l.length))) else []
termination_by l.length
decreasing_by
 all_goals
  have:=Ao7 h
  simp only[ab2,ac0]
  omega
theorem Bk0{l:List (List Int)}(h:l.length=0):Ahz l=sha []:=by rw[Ahz,aa0 h]
theorem Brr{l:List (List Int)}(h:l.length=1):Ahz l=l.getD 0 Z32:=by rw[Ahz,aa1 (by omega),aa0 h]
theorem Brx{l:List (List Int)}(h:2≤l.length):Ahz l=Ay9 (Ahz (l.take (sp l.length))) (Ahz (l.drop (sp l.length))):=by
 conv=>lhs;rw[Ahz]
 rw[aa1 (by omega),aa1 (by omega),dif_pos h]
theorem Azv{l:List (List Int)}(h:Ul l):H32 (Ahz l):=by
 by_cases h0:l.length=0
 ·rw[Bk0 h0];exact Bug _
 by_cases h1:l.length=1
 ·rw[Brr h1];exact h.at 0
 rw[Brx (by omega)];exact Azj _ _
theorem Bhq:∀ (f:Nat) (l:List (List Int)),l.length<f→l.length≤1000000000→Ul l→Nt f (l,())=some ((Ahz l,()),(),())
 | 0,l,h,_,_=>by omega
 | f+1,l,h,hl,ha=>by
  unfold Nt As0
  simp only[Am,Ad,Ao,Adg]
  by_cases h0:l.length=0
  ·rw[aa0 (by omega),Bsr (by intro x hx;cases hx) (by simp),Bk0 h0];rfl
  rw[aa1 (by omega)]
  by_cases h1:l.length=1
  ·rw[aa0 (by omega),aa0 (by omega),Brr h1]
  have hs:=Ao7 (n:=l.length) (by omega)
  have t1:List.take (sp l.length-0) (List.drop 0 l)=l.take (sp l.length):=by simp
  have t2:List.take (l.length-sp l.length) (List.drop (sp l.length) l)=l.drop (sp l.length):=aa8 (by rw[ac0];omega)
  rw[aa1 (by omega),Apw (by omega) (by omega)]
  simp only[Aa,aa3]
  rw[t1,t2,aa0 (by omega),aa0 (by omega),Bhq f (l.take (sp l.length)) (by rw[ab2];omega) (by rw[ab2];omega) (ha.take _)]
  simp only[Aa]
  rw[aa0 (by omega),aa0 (by omega),Bhq f (l.drop (sp l.length)) (by rw[ac0];omega) (by rw[ac0];omega) (ha.drop _)]
  simp only[Aa]
  rw[Bmt (Azv (ha.take _)) (Azv (ha.drop _)),Brx (l:=l) (by omega)]
  rfl
theorem Bcy{l:List (List Int)}(hl:l.length≤1000000000)(ha:Ul l):Ml (l,())=some ((Ahz l,()),(),()) :=
 Bhq Bkh l (by rw[Bkn];omega) hl ha
def Xg(l:List (List Int))(i:Nat):List (List Int) :=
 if h:2≤l.length then
  if i<sp l.length then Xg (l.take (sp l.length)) i++[Ahz (l.drop (sp l.length))] else Xg (l.drop (sp l.length)) (i-sp l.length)++[Ahz (l.take (sp l.length))]
 else []
termination_by l.length
decreasing_by
 all_goals
  have:=Ao7 h
  simp only[ab2,ac0]
  omega
theorem Av8{l:List (List Int)}{i:Nat}(h:l.length<2):Xg l i=[]:=by rw[Xg,dif_neg (by omega)]
theorem Bi8{l:List (List Int)}{i:Nat}(h:2≤l.length)(hi:i<sp l.length):Xg l i=Xg (l.take (sp l.length)) i++[Ahz (l.drop (sp l.length))]:=by
 conv=>lhs;rw[Xg]
 rw[dif_pos h,aa0 hi]
theorem Bfx{l:List (List Int)}{i:Nat}(h:2≤l.length)(hi:¬ i<sp l.length):Xg l i=Xg (l.drop (sp l.length)) (i-sp l.length)++[Ahz (l.take (sp l.length))]:=by
 conv=>lhs;rw[Xg]
 rw[dif_pos h,aa1 hi]
theorem Aa7:∀ (n:Nat) (l:List (List Int)) (i:Nat),l.length≤n→Ul l→(Xg l i).length≤l.length∧Ul (Xg l i)
 | 0,l,i,h,_=>by rw[Av8 (by omega)];exact⟨by simp,fun x hx=>by cases hx⟩
 | n+1,l,i,h,ha=>by
  by_cases h2:2≤l.length
  ·have hs:=Ao7 h2
   by_cases hi:i<sp l.length
   ·obtain⟨k1,k2⟩:=Aa7 n (l.take (sp l.length)) i (by rw[ab2];omega) (ha.take _)
    rw[Bi8 h2 hi]
    refine⟨?_,k2.append (Ul.one (Azv (ha.drop _)))⟩
    rw[ab2] at k1
    rw[aa4,ag4];omega
   ·obtain⟨k1,k2⟩:=Aa7 n (l.drop (sp l.length)) (i-sp l.length) (by rw[ac0];omega) (ha.drop _)
    rw[Bfx h2 hi]
    refine⟨?_,k2.append (Ul.one (Azv (ha.take _)))⟩
    rw[ac0] at k1
    rw[aa4,ag4];omega
  ·rw[Av8 (by omega)];exact⟨by simp,fun x hx=>by cases hx⟩
theorem Bgi{α:Type}{n:Nat}(h:n≤100000000)(a b:Option α):Ag (A8 n (.arr 32 (.int .u8))) a b=a:=by
 rw[Ah2,show (Ty.arr 32 (Ty.int IntKind.u8)).size=32 from rfl,aa0 ⟨by omega,by omega⟩]
theorem Bdg:∀ (f:Nat) (l:List (List Int)) (i:Nat),l.length<f→1≤l.length→l.length≤10000000→i<l.length→Ul l→Pv f (l,(i:Int),())=some ((Xg l i,()),(),(),())
 | 0,l,i,h,_,_,_,_=>by omega
 | f+1,l,i,h,vv,hl,hi,ha=>by
  unfold Pv Avh
  simp only[Am,Ad,Adg]
  by_cases h1:l.length=1
  ·rw[aa0 (by omega),Av8 (by omega)]
  have hs:=Ao7 (n:=l.length) (by omega)
  have t1:List.take (sp l.length-0) (List.drop 0 l)=l.take (sp l.length):=by simp
  have t2:List.take (l.length-sp l.length) (List.drop (sp l.length) l)=l.drop (sp l.length):=aa8 (by rw[ac0];omega)
  have k1:=Aa7 l.length (l.take (sp l.length)) i (by rw[ab2];omega) (ha.take _)
  have k2:=Aa7 l.length (l.drop (sp l.length)) (i-sp l.length) (by rw[ac0];omega) (ha.drop _)
  rw[ab2] at k1
  rw[ac0] at k2
  rw[aa1 (by omega),Apw (by omega) (by omega)]
  have g1:(0:Int)≤((sp l.length:Nat):Int):=by omega
  have g2:((sp l.length:Nat):Int)≤(l.length:Int):=by omega
  simp only[Aa,aa3,aa0 g1,aa0 g2]
  rw[t1,t2]
  by_cases hc:i<sp l.length
  ·rw[aa0 (by omega),Bdg f (l.take (sp l.length)) i (by rw[ab2];omega) (by rw[ab2];omega) (by rw[ab2];omega) (by rw[ab2];omega) (ha.take _)]
   simp only[Aa]
   rw[Bcy (by rw[ac0];omega) (ha.drop _)]
   simp only[Aa]
   rw[Bgi (by omega),Bi8 (by omega) hc];rfl
  ·rw[aa1 (by omega),Ar (by omega) (by omega),show (i:Int)-((sp l.length:Nat):Int)=((i-sp l.length:Nat):Int) by omega,
    Bdg f (l.drop (sp l.length)) (i-sp l.length) (by rw[ac0];omega) (by rw[ac0];omega) (by rw[ac0];omega) (by rw[ac0];omega) (ha.drop _)]
   simp only[Aa]
   rw[Bcy (by rw[ab2];omega) (ha.take _)]
   simp only[Aa]
   rw[Bgi (by omega),Bfx (by omega) hc];rfl
theorem Cdo{l:List (List Int)}{i:Nat}(hl:l.length≤10000000)(hi:i<l.length)(ha:Ul l):Zu (l,(i:Int),())=some ((Xg l i,()),(),(),()) :=
 Bdg Bkh l i (by rw[Bkn];omega) (by omega) hl hi ha
def upR:Nat→Nat→List Int→List (List Int)→Option (List Int)
 | n,i,leaf,[]=>if n=1 then some leaf else none
 | n,i,leaf,last::au=>if n=1 then none else
  if i<sp n then (upR (sp n) i leaf au).map (fun h=>Ay9 h last) else (upR (n-sp n) (i-sp n) leaf au).map (fun h=>Ay9 last h)
theorem Bon{p:List (List Int)}(h:p≠[]):∃ au last,p=au++[last]∧p.reverse=last::au.reverse:=by
 have e:p=p.dropLast++[p.getLast h]:=(List.dropLast_concat_getLast h).symm
 refine⟨p.dropLast,p.getLast h,e,?_⟩
 conv=>lhs;rw[e]
 rw[List.reverse_append];rfl
theorem Bk1:∀ (f:Nat) (p:List (List Int)) (n i:Nat) (leaf:List Int),p.length<f→p.length≤1000000000→1≤n→n≤9223372036854775807→i<n→H32 leaf→Ul p →
  ∃ h,H32 h∧Q6 f ((n:Int),(i:Int),leaf,p,())=some ((h,(upR n i leaf p.reverse).isSome,()),(),(),(),(),())∧∀ r,upR n i leaf p.reverse=some r→h=r
 | 0,p,n,i,leaf,h,_,_,_,_,_,_=>by omega
 | f+1,p,n,i,leaf,h,hl,ky,wc,hi,hf,ha=>by
  unfold Q6 Asi
  simp only[Am,Ad,Ao,Adg]
  by_cases hp:p=[]
  ·subst hp
   by_cases h1:n=1
   ·subst h1
    exact⟨leaf,hf,by simp[upR],fun r hr=>by simpa [upR] using hr⟩
   ·refine⟨Z32,Bvu,?_,fun r hr=>by simp[upR,h1] at hr⟩
    rw[aa1 (by omega),aa0 (by simp)]
    simp[upR,h1,Z32]
  obtain⟨au,last,e1,e2⟩:=Bon hp
  have ag:p.length=au.length+1:=by rw[e1];simp
  rw[e2]
  by_cases h1:n=1
  ·subst h1
   refine⟨leaf,hf,?_,fun r hr=>by simp[upR] at hr⟩
   rw[aa0 (by omega)]
   simp[upR,ag];omega
  have hs:=Ao7 (n:=n) (by omega)
  rw[aa1 (by omega),aa1 (by omega),Bo9 (by omega) wc]
  simp only[Aa]
  rw[Ar (n:=(p.length:Int)-1) (by omega) (by omega),aa0 (by omega),aa0 (by omega),aa0 (by omega),show ((p.length:Int)-1).toNat=au.length by omega]
  have t1:List.take (au.length-0) (List.drop 0 p)=au:=by rw[e1];simp
  have t2:p.getD au.length Z32=last:=by rw[e1,aa2,af5 (by omega)];simp
  have jy:Ul au:=fun x hx=>ha x (by rw[e1];simp[hx])
  have jz:H32 last:=ha last (by rw[e1];simp)
  rw[t1,t2]
  by_cases hc:i<sp n
  ·obtain⟨h',q1,q2,q3⟩:=Bk1 f au (sp n) i leaf (by omega) (by omega) (by omega) (by omega) hc hf jy
   rw[aa0 (by omega),q2]
   simp only[Aa]
   rw[Ca3 q1 jz]
   refine⟨Ay9 h' last,Azj _ _,by simp only[Aa,upR];rw[aa1 h1,aa0 hc];simp,fun r hr=>?_⟩
   simp only[upR] at hr
   rw[aa1 h1,aa0 hc] at hr
   obtain⟨r',mw,rfl⟩:=ae0.1 hr
   rw[q3 _ mw]
  ·obtain⟨h',q1,q2,q3⟩:=Bk1 f au (n-sp n) (i-sp n) leaf (by omega) (by omega) (by omega) (by omega) (by omega) hf jy
   rw[aa1 (by omega),Ar (n:=(n:Int)-(sp n:Nat)) (by omega) (by omega),Ar (n:=(i:Int)-(sp n:Nat)) (by omega) (by omega),show (n:Int)-((sp n:Nat):Int)=((n-sp n:Nat):Int) by omega,show (i:Int)-((sp n:Nat):Int)=((i-sp n:Nat):Int) by omega,q2]
   simp only[Aa]
   rw[Ca3 jz q1]
   refine⟨Ay9 last h',Azj _ _,by simp only[Aa,upR];rw[aa1 h1,aa1 hc];simp,fun r hr=>?_⟩
   simp only[upR] at hr
   rw[aa1 h1,aa1 hc] at hr
   obtain⟨r',mw,rfl⟩:=ae0.1 hr
   rw[q3 _ mw]
theorem Bz8:∀ (f:Nat) (p:List (List Int)) (n i:Nat) (leaf:List Int),p.length<f→p.length≤1000000000→1≤n→n≤9223372036854775807→i<n→H32 leaf→Ul p →
  ∃ h,H32 h∧Aa1 f ((n:Int),(i:Int),leaf,p,())=some ((h,(upR n i leaf p.reverse).isSome,()),(),(),(),(),())∧∀ r,upR n i leaf p.reverse=some r→h=r
 | 0,p,n,i,leaf,h,_,_,_,_,_,_=>by omega
 | f+1,p,n,i,leaf,h,hl,ky,wc,hi,hf,ha=>by
  unfold Aa1 Bih
  simp only[Am,Ad,Ao,Adg]
  by_cases hp:p=[]
  ·subst hp
   by_cases h1:n=1
   ·subst h1
    exact⟨leaf,hf,by simp[upR],fun r hr=>by simpa [upR] using hr⟩
   ·refine⟨leaf,hf,?_,fun r hr=>by simp[upR,h1] at hr⟩
    rw[aa1 (by omega),aa0 (by simp)]
    simp[upR,h1,Z32]
  obtain⟨au,last,e1,e2⟩:=Bon hp
  have ag:p.length=au.length+1:=by rw[e1];simp
  rw[e2]
  by_cases h1:n=1
  ·subst h1
   refine⟨leaf,hf,?_,fun r hr=>by simp[upR] at hr⟩
   rw[aa0 (by omega)]
   simp[upR,ag];omega
  have hs:=Ao7 (n:=n) (by omega)
  rw[aa1 (by omega),aa1 (by omega),Apw (by omega) wc]
  simp only[Aa]
  rw[Ar (n:=(p.length:Int)-1) (by omega) (by omega),aa0 (by omega),show ((p.length:Int)-1).toNat=au.length by omega]
  have g1:(0:Int)≤(p.length:Int)-1:=by omega
  have g2:(p.length:Int)-1≤(p.length:Int):=by omega
  simp only[aa0 g1,aa0 g2]
  have t1:List.take (au.length-0) (List.drop 0 p)=au:=by rw[e1];simp
  have t2:p.getD au.length Z32=last:=by rw[e1,aa2,af5 (by omega)];simp
  have jy:Ul au:=fun x hx=>ha x (by rw[e1];simp[hx])
  have jz:H32 last:=ha last (by rw[e1];simp)
  rw[t1,t2]
  by_cases hc:i<sp n
  ·obtain⟨h',q1,q2,q3⟩:=Bz8 f au (sp n) i leaf (by omega) (by omega) (by omega) (by omega) hc hf jy
   rw[aa0 (by omega),q2]
   simp only[Aa]
   rw[Bmt q1 jz]
   refine⟨Ay9 h' last,Azj _ _,by simp only[Aa,upR];rw[aa1 h1,aa0 hc];simp,fun r hr=>?_⟩
   simp only[upR] at hr
   rw[aa1 h1,aa0 hc] at hr
   obtain⟨r',mw,rfl⟩:=ae0.1 hr
   rw[q3 _ mw]
  ·obtain⟨h',q1,q2,q3⟩:=Bz8 f au (n-sp n) (i-sp n) leaf (by omega) (by omega) (by omega) (by omega) (by omega) hf jy
   rw[aa1 (by omega),Ar (n:=(n:Int)-(sp n:Nat)) (by omega) (by omega),Ar (n:=(i:Int)-(sp n:Nat)) (by omega) (by omega),show (n:Int)-((sp n:Nat):Int)=((n-sp n:Nat):Int) by omega,show (i:Int)-((sp n:Nat):Int)=((i-sp n:Nat):Int) by omega,q2]
   simp only[Aa]
   rw[Bmt jz q1]
   refine⟨Ay9 last h',Azj _ _,by simp only[Aa,upR];rw[aa1 h1,aa1 hc];simp,fun r hr=>?_⟩
   simp only[upR] at hr
   rw[aa1 h1,aa1 hc] at hr
   obtain⟨r',mw,rfl⟩:=ae0.1 hr
   rw[q3 _ mw]
def Baw(root:List Int)(n i:Int)(leaf:List Int)(p:List (List Int)):Bool :=
 decide (0≤i∧i<n)&&decide (upR n.toNat i.toNat leaf p.reverse=some root)
theorem Ccg{root leaf:List Int}{n i:Int}{p:List (List Int)}(hn:n≤9223372036854775807)(hl:p.length≤1000000000)(hf:H32 leaf)(ha:Ul p) :
  Af1 (root,n,i,leaf,p,())=some ((Baw root n i leaf p,()),(),(),(),(),(),()):=by
 unfold Af1 Axl Baw
 simp only[Ad]
 by_cases h1:i<0
 ·rw[aa0 h1,ab5 (by omega)];rfl
 rw[aa1 h1]
 by_cases h2:i≥n
 ·rw[aa0 h2,ab5 (by omega)];rfl
 rw[aa1 h2,aa7 (by omega)]
 obtain⟨i,rfl⟩:=ab3 (show 0≤i by omega)
 obtain⟨n,rfl⟩:=ab3 (show 0≤n by omega)
 obtain⟨h,q1,q2,q3⟩:=Bk1 Bkh p n i leaf (by rw[Bkn];omega) hl (by omega) (by omega) (by omega) hf ha
 unfold Amu
 rw[q2]
 simp only[Aa,aa3,ao1]
 by_cases hu:∃ r,upR n i leaf p.reverse=some r
 ·obtain⟨r,hu⟩:=hu
  simp only[q3 r hu,hu,Option.isSome_some,Ap,Cax]
  simp
 ·have hn:upR n i leaf p.reverse=none:=by
   cases h0:upR n i leaf p.reverse with
   | none=>rfl
   | some r=>exact absurd ⟨r,h0⟩ hu
  simp[hn,Bn]
theorem Bni{root leaf:List Int}{n i:Int}{p:List (List Int)}(hn:n≤9223372036854775807)(hl:p.length≤64)(hf:H32 leaf)(ha:Ul p) :
  Pw (root,n,i,leaf,p,())=some ((Baw root n i leaf p,()),(),(),(),(),(),()):=by
 unfold Pw Ajx Baw
 simp only[Ad]
 by_cases h1:i<0
 ·rw[aa0 h1,ab5 (by omega)];rfl
 rw[aa1 h1]
 by_cases h2:i≥n
 ·rw[aa0 h2,ab5 (by omega)];rfl
 rw[aa1 h2,aa1 (by omega),aa7 (by omega)]
 obtain⟨i,rfl⟩:=ab3 (show 0≤i by omega)
 obtain⟨n,rfl⟩:=ab3 (show 0≤n by omega)
 obtain⟨h,q1,q2,q3⟩:=Bz8 Bkh p n i leaf (by rw[Bkn];omega) (by omega) (by omega) (by omega) (by omega) hf ha
 unfold Alg
 rw[q2]
 simp only[Aa,aa3,ao1]
 by_cases hu:∃ r,upR n i leaf p.reverse=some r
 ·obtain⟨r,hu⟩:=hu
  simp only[q3 r hu,hu,Option.isSome_some,Ap,Cax]
  simp
 ·have hn:upR n i leaf p.reverse=none:=by
   cases h0:upR n i leaf p.reverse with
   | none=>rfl
   | some r=>exact absurd ⟨r,h0⟩ hu
  simp[hn,Bn]
theorem Cd5(l:List Int):∀ v:Nat,l.foldl (fun v x=>v*256+x.toNat) v=v*256 ^ l.length+beV l:=by
 refine Bxf (motive:=fun l=>∀ v:Nat,l.foldl (fun v x=>v*256+x.toNat) v=v*256 ^ l.length+beV l) l ?_ ?_
 ·intro v;simp[beV]
 ·intro l x ih v
  rw[List.foldl_append,ih,Bcx]
  simp only[ap0,List.foldl_nil,aa4,ag4,ae6]
  rw[ae4,aj4];omega
theorem Cgh(x:Int)(l:List Int):beV (x::l)=x.toNat*256 ^ l.length+beV l:=by
 rw[beV,ap0,Cd5];simp
theorem Cbm:∀ k n,beV (beB k n)=n % 256 ^ k
 | 0,n=>by simp[beB,Caf,at9]
 | k+1,n=>by
  rw[beB,Cgh,Cbm k n,Ado,aa3,ae6,au0,af9];omega
theorem Cfe{n:Nat}(h:0<Wn n):(beB (Wn n) n).getD 0 1≠0:=by
 obtain⟨k,hk⟩:∃ k,Wn n=k+1:=⟨Wn n-1,by omega⟩
 rw[hk,beB,ag6]
 have h1:n<256 ^ (k+1):=Alj.1 (by omega)
 have h2:256 ^ k≤n:=by
  rcases ad3 n (256 ^ k) with hh|hh
  ·have:=Alj.2 hh;omega
  ·exact hh
 have hp:0<256 ^ k:=ah0 (by omega)
 have h3:n / 256 ^ k<256:=by rw[ao5 hp,af9,← ae6];exact h1
 have h4:1≤n / 256 ^ k:=(Nat.le_div_iff_mul_le hp).2 (by omega)
 rw[ac8 h3]
 generalize n / 256 ^ k=q at *
 omega
theorem Bbc{n:Nat}(h:Wn n≤255):Co (enc n):=by
 intro x hx
 rcases aa9.1 hx with rfl|hx
 ·omega
 ·exact Bx0 x hx
theorem Cbf{a z:List Int}{n most:Nat}(hn:n<256 ^ most)(hm:most≤32):rdU (a++(enc n++z)) a.length most=some (n,a.length+1+Wn n):=by
 have hk:=Alj.2 hn
 unfold rdU
 rw[List.drop_left' rfl,enc,aq5]
 simp only[aa3,aa4,Ado]
 rw[aa1,ad4 (by rw[Ado];omega),aa8 (by rw[Ado];omega),Cbm,ac8 (Alj.1 (ab4 _))]
 rintro (h|h | ⟨h1,h2⟩)
 ·omega
 ·omega
 ·have:=Cfe h1
  rw[aa2,ag9 (by rw[Ado];omega),← aa2] at h2
  have e:(beB (Wn n) n).getD 0 1=(beB (Wn n) n).getD 0 0:=by
   have:0<(beB (Wn n) n).length:=by rw[Ado];exact h1
   rw[aa2,aa2,aa6 this];rfl
  omega
theorem Cdq{a z:List Int}{s:Bool}{n:Nat}(hn:n<115792089237316195423570985008687907853269984665640564039457584007913129639936)(h:¬ (s=true∧n=0)) :
  Bq0 (a++(Aob s n++z)) (a.length:Int)=((s,At n,()),(((a++Aob s n).length:Nat):Int),0,()):=by
 unfold Bq0 Aob
 rw[aa1 h,aa1 (by simp only[aa4];omega),aa3]
 have g:(a++((if s=true then (1:Int) else 0)::enc n++z)).getD a.length 0=if s=true then 1 else 0:=by
  rw[aa2,af5 (by omega),ak2];rfl
 rw[g,aa1 (by
  rintro (hh|hh)
  ·simp only[aa4,ac5] at hh;omega
  ·cases s<;>simp at hh)]
 have e:a++((if s=true then (1:Int) else 0)::enc n++z)=(a++[if s=true then (1:Int) else 0])++(enc n++z):=by simp
 have l:a.length+1=(a++[if s=true then (1:Int) else 0]).length:=by simp
 rw[e,l,Cbf hn (by omega)]
 simp only
 rw[aa1 (by
  rintro⟨h1,h2⟩
  cases s
  ·simp at h1
  ·exact h ⟨rfl,h2⟩)]
 cases s<;>simp[Af6]<;>omega
set_option maxRecDepth 100000
def Bzm(n:Int)(i:Nat):List Int:=(List.range 32).map fun k=>if k<i then (((n % 18446744073709551616).toNat / 256 ^ k % 256:Nat):Int) else 0
def hof(n:Int):List Int:=Bzm n 8
theorem Ayg(n:Int)(i:Nat):(Bzm n i).length=32:=by simp[Bzm]
theorem Bhi{n:Int}{i k:Nat}(hk:k<32):(Bzm n i).getD k 0=if k<i then (((n % 18446744073709551616).toNat / 256 ^ k % 256:Nat):Int) else 0:=by
 rw[Bzm,aa2,ag3,List.getElem?_range hk];rfl
theorem Ck9{l m:List Int}(hl:l.length=32)(hm:m.length=32)(h:∀ k,k<32→l.getD k 0=m.getD k 0):l=m:=by
 apply al4
 ·omega
 ·intro k h1 h2
  have:=h k (by omega)
  rw[aa2,aa6 h1,aa2,aa6 h2] at this
  exact this
theorem Cix(n:Int):H32 (hof n):=by
 refine⟨Ayg n 8,fun x hx=>?_⟩
 simp only[hof,Bzm,ag8] at hx
 obtain⟨k,_,rfl⟩:=hx
 split<;>omega
theorem Cd3(n:Int):Vr (n,())=some ((hof n,()),(),()):=by
 unfold Vr Akm
 refine Ai (I:=fun x=>x.1=n∧(0:Int)≤x.2.2.2.1∧x.2.2.2.1≤(8:Int)∧x.2.2.1=Bzm n x.2.2.2.1.toNat) (m:=fun x=>((8:Int)-x.2.2.2.1).toNat) (g:=fun _=>some ((hof n,()),(),())) ?_
  ⟨rfl,by simp only;omega,by simp only;omega,?_⟩ (by simp only[Au];omega)
 ·rintro⟨n',t,h,i,_⟩ aa ⟨e0,e1,e2,e3⟩ hag
  simp only at e0 e1 e2 e3 hag ⊢
  subst e0 e3
  obtain⟨i,rfl⟩:=ab3 e1
  simp only[Ams,Am,Ad,Ao,aa3]
  by_cases hi:i<8
  ·rw[aa0 (by omega),Ar (n:=8*(i:Int)) (by omega) (by omega),Gt (n:=8*(i:Int)) (by omega) (by omega),aa0 (by omega),aa0 (by omega),Ar (by omega) (by omega),show (8*(i:Int)).toNat=8*i by omega,ad8 (by omega)]
   have hb:IntKind.wrap .u8 (Int.fdiv (IntKind.wrap .u64 n') ((2:Int) ^ (8*i)))=(((n' % 18446744073709551616).toNat / 256 ^ i % 256:Nat):Int):=by
    have p:∀ k:Nat,(2:Int) ^ k=((2 ^ k:Nat):Int):=fun k=>by rw[ak9];rfl
    have e:IntKind.wrap .u64 n'=(((n' % 18446744073709551616).toNat:Nat):Int):=by rw[am8];omega
    rw[e,p,d32,ap2,Bdf];omega
   rw[hb]
   refine hag _ ⟨rfl,by simp only;omega,by simp only;omega,?_⟩ (by simp only;omega)
   simp only
   rw[show ((i:Int)+1).toNat=i+1 by omega]
   refine Ck9 (by rw[ae1,Ayg]) (Ayg _ _) fun k hk=>?_
   rw[Cdg (by rw[Ayg];omega),Bhi hk,Bhi hk]
   by_cases hki:k=i
   ·subst hki;rw[aa0 rfl,aa0 (by omega)]
   ·rw[aa1 hki]
    by_cases ar:k<i
    ·rw[aa0 ar,aa0 (by omega)]
    ·rw[aa1 ar,aa1 (by omega)]
  ·have:i=8:=by omega
   subst this
   rw[aa1 (by omega)];rfl
 ·simp only
  refine Ck9 (by simp) (Ayg _ _) fun k hk=>?_
  rw[Bhi hk,show (0:Int).toNat=0 from rfl,aa1 (by omega),aa2,List.getElem?_replicate,aa0 hk];rfl
theorem Ch0{n i:Nat}(h1:n<256 ^ (i+1))(h2:256 ^ i≤n):Wn n=i+1:=by
 have a:=Alj.2 h1
 rcases ad3 i (Wn n) with h|h
 ·omega
 ·have:=Alj.1 h;omega
theorem Cco{n:Nat}(hn:n<115792089237316195423570985008687907853269984665640564039457584007913129639936):Wd (At n,())=some ((beB (Wn n) n,()),(),()):=by
 unfold Wd Ajz
 refine Eq.trans (Ai (I:=fun x=>x.1=At n∧(-1:Int)≤x.2.2.1∧x.2.2.1≤(31:Int)∧(x.2.1.length:Int)+x.2.2.1≤(31:Int)∧(x.2.1=[]→n<256 ^ (x.2.2.1+1).toNat)) (m:=fun x=>(x.2.2.1+1).toNat)
  (g:=fun x=>some ((x.2.1++(if x.2.1=[] then beB (Wn n) n else beB (x.2.2.1+1).toNat n),()),(),())) ?_
  ⟨rfl,by simp only;omega,by simp only;omega,by simp only[am3];omega,fun _=>hn⟩ (by simp only[Au];omega)) ?_
 ·rintro⟨l,o,i,_⟩ aa ⟨h1,h2,h3,h4,h5⟩ hag
  simp only at h1 h2 h3 h4 h5 hag ⊢
  subst h1
  simp only[Amq,Am,Ad,Ao,ge_iff_le,Bx]
  by_cases hi:0≤i
  ·obtain⟨j,rfl⟩:=ab3 hi
   have ej:((j:Int)+1).toNat=j+1:=by omega
   rw[aa0 hi,Ak1 hi,Ix hi,Ar (n:=(j:Int) / 8) (by omega) (by omega),Ar (n:=8*((j:Int) % 8)) (by omega) (by omega),Gt (by omega) (by omega),aa0 (by omega),aa0 (by omega),Dv (by omega),Ar (by omega) (by omega)]
   rw[show ((j:Int) / 8).toNat=j / 8 by omega,show (8*((j:Int) % 8)).toNat=8*(j % 8) by omega,Bvi hn (by omega)]
   have hb:beB (j+1) n=((n / 256 ^ j % 256:Nat):Int)::beB j n:=rfl
   rw[ej] at h5 ⊢
   have step:o.length>0∨n / 256 ^ j % 256>0→aa (At n,o++[((n / 256 ^ j % 256:Nat):Int)],(j:Int)-1,())=some ((o++(if o=[] then beB (Wn n) n else beB (j+1) n),()),(),()):=by
    intro hc
    rw[hag _ ⟨rfl,by simp only;omega,by simp only;omega,by simp only[aa4,ag4];omega,fun h=>by simp at h⟩ (by simp only;omega)]
    simp only
    rw[aa1 (by simp),show ((j:Int)-1+1).toNat=j by omega]
    by_cases ho:o=[]
    ·subst ho
     have h6:=h5 rfl
     have h7:256 ^ j≤n:=by
      rcases ad3 n (256 ^ j) with h|h
      ·rw[af0 h] at hc;simp at hc
      ·exact h
     rw[aa0 rfl,Ch0 h6 h7,hb];simp
    ·rw[aa1 ho,hb];simp
   by_cases c1:(o.length:Int)>0
   ·rw[aa0 c1,step (.inl (by omega))]
   ·rw[aa1 c1]
    have ho:o=[]:=aq7.1 (by omega)
    by_cases c2:((n / 256 ^ j % 256:Nat):Int)>0
    ·rw[aa0 c2,step (.inr (by omega))]
    ·rw[aa1 c2]
     have h6:=h5 ho
     have ar:n / 256 ^ j<256:=by
      rw[ao5 (ah0 (by omega)),af9,← ae6];exact h6
     have h7:n<256 ^ j:=by
      rw[ac8 ar] at c2
      have:n / 256 ^ j=0:=by generalize n / 256 ^ j=q at *;omega
      exact (Nat.div_eq_zero_iff.1 this).resolve_left (by have:=ah0 (a:=256) (n:=j) (by omega);omega)
     rw[hag _ ⟨rfl,by simp only;omega,by simp only;omega,by simp only;omega,fun _=>by simp only;rw[show ((j:Int)-1+1).toNat=j by omega];exact h7⟩ (by simp only;omega)]
     simp[ho]
  ·have:i = -1:=by omega
   subst this
   rw[aa1 hi]
   by_cases ho:o=[]
   ·have h6:n<1:=h5 ho
    have:n=0:=by omega
    subst this
    simp[Bzc,beB]
   ·simp[ho,beB]
 ·simp
theorem Arc{b:List Int}(hb:b.length≤1000000000){n:Nat}(hn:n<115792089237316195423570985008687907853269984665640564039457584007913129639936) :
  Fm (b,At n,())=some ((b++enc n,()),(),(),()):=by
 unfold Fm Qz enc
 have h2:=Ae3 hn
 rw[Cco hn]
 simp only[Aa,Am,Bx]
 rw[Ado,Cmy (by omega) (by omega),Dv (by omega),Dv (by omega),Dv (by simp;omega)]
 simp
theorem Auw{b:List Int}(hb:b.length≤1000000000){n:Int}(h0:0≤n)(h1:n≤18446744073709551615) :
  Ki (b,n,())=some ((b++enc n.toNat,()),(),(),()):=by
 unfold Ki Sm
 simp only
 rw[Aai h0 h1,Arc hb (by omega)]
 rfl
abbrev Ea:=Int×(Int×List Int×Unit)
inductive Bc9:Ea→Prop
 | mk {s t:Int} {v:Nat} (hs:0≤s∧s≤18446744073709551615) (ht:0≤t∧t≤18446744073709551615) (hv:v<115792089237316195423570985008687907853269984665640564039457584007913129639936):Bc9 (s,t,At v,())
abbrev Bp:Ea:=((0:Int),(0:Int),[(0:Int),0,0,0],())
def Bic(m:Ea):List Int:=enc m.1.toNat++(enc m.2.1.toNat++enc (D8 m.2.2.1))
def Ahy(m:Ea):List Int:=Cfa (Bic m)
theorem Bqm(m:Ea):H32 (Ahy m):=Cgl _
theorem Bz5{m:Ea}(h:Bc9 m):(Bic m).length≤1000∧Co (Bic m):=by
 obtain⟨hs,ht,hv⟩:=h
 rename_i s t v
 have:=@Bfs s.toNat (by omega);have:=@Bfs t.toNat (by omega);have:=Ae3 hv
 unfold Bic
 simp only[Bi]
 refine⟨by simp only[aa4,Af6];omega,(Bbc (by omega)).append ((Bbc (by omega)).append (Bbc (by omega)))⟩
theorem Bxc{m:Ea}(h:Bc9 m):Tw (m,())=some ((Bic m,()),(),()):=by
 obtain⟨hs,ht,hv⟩:=h
 rename_i s t v
 have:=@Bfs s.toNat (by omega);have:=@Bfs t.toNat (by omega);have:=Ae3 hv
 unfold Tw Agh
 simp only
 rw[Auw (by simp) hs.1 hs.2];simp only[Aa]
 rw[Auw (by simp[Af6];omega) ht.1 ht.2];simp only[Aa]
 rw[Arc (by simp[Af6];omega) hv];simp only[Aa]
 simp only[Bic,Bi,af8,ab6]
theorem Bp1{m:Ea}(h:Bc9 m):N0 (m,())=some ((Ahy m,()),(),()):=by
 obtain⟨h1,h2⟩:=Bz5 h
 unfold N0 Anl
 simp only
 rw[Bxc h];simp only[Aa]
 rw[Cgy h2 (by omega)];simp only[Aa]
 rfl
def Vg(l:List Ea):Prop:=∀ m∈l,Bc9 m
theorem Ap4(l:List Ea):Ul (l.map Ahy):=fun x hx=>by
 obtain⟨m,_,rfl⟩:=ag8.1 hx
 exact Bqm m
theorem Vg.at{l:List Ea}(h:Vg l){i:Nat}(hi:i<l.length)(d:Ea):Bc9 (l.getD i d):=h _ (B3 hi)
theorem Byn{n:Nat}(h:n≤1000000){α:Type}(a b:Option α):Ag (A8 n (.pair (.int .u64) (.pair (.int .u64) (.pair (.arr 4 (.int .u64)) .unit)))) a b=a:=by
 rw[Ah2,aa0 ⟨by decide,by simp only[Ty.size];omega⟩]
def Bnf(m:Ea)(i:Nat):Bool:=decide (m.1=(i:Int))&&(!decide (m.2.1=0)&&!decide (D8 m.2.2.1=0))
def okM(l:List Ea):Bool:=(List.range l.length).all fun i=>Bnf (l.getD i Bp) i
theorem Bty{l:List Ea}:okM l=true↔∀ i,i<l.length→Bnf (l.getD i Bp) i=true:=by
 unfold okM
 simp only[List.all_eq_true,List.mem_range]
theorem Bln{l:List Ea}(ha:Vg l)(hl:l.length≤100000){n:Nat}(hn:n≤l.length):Ks (l,(n:Int),())=some (((l.map Ahy).take n,()),(),(),()):=by
 unfold Ks Af9
 refine Ai (I:=fun x=>∃ i:Nat,i≤n∧x=(l,(n:Int),(l.map Ahy).take i,(i:Int),())) (m:=fun x=>((n:Int)-x.2.2.2.1).toNat)
  (g:=fun _=>some (((l.map Ahy).take n,()),(),(),())) ?_ ⟨0,by omega,rfl⟩ (by rw[Au];simp only;omega)
 rintro x aa ⟨i,hi,rfl⟩ hag
 simp only at hag ⊢
 unfold Ak8
 simp only[Ad,Ao]
 by_cases h1:(i:Int)<(n:Int)
 ·have bx:i<l.length:=by omega
  rw[aa0 h1,aa0 (by omega),aa3,Bp1 (ha.at bx _)]
  simp only[Aa,Bx]
  rw[Bgi (by simp;omega),Ar (by omega) (by omega)]
  have e:(l.map Ahy).take i++[Ahy (l.getD i Bp)]=(l.map Ahy).take (i+1):=by
   rw[← List.map_take,← List.map_take,Bo8 bx]
  rw[e]
  rw[hag (l,(n:Int),(l.map Ahy).take (i+1),(i:Int)+1,()) ⟨i+1,by omega,by rw[ab0];rfl⟩ (by simp only;omega)]
 ·have bx:i=n:=by omega
  rw[aa1 h1,bx]
theorem Cab{l:List Ea}(ha:Vg l)(hl:l.length≤100000){n:Nat}(hn:n≤l.length):Zr (l,(n:Int),())=some ((Ahz ((l.map Ahy).take n),true,()),(),(),()):=by
 unfold Zr An8
 simp only[Ad]
 rw[aa1 (by omega),aa1 (by omega),Bln ha hl hn]
 simp only[Aa]
 rw[Bcy (by rw[ab2];omega) ((Ap4 l).take n)]
 rfl
theorem Bvd{l:List Ea}(ha:Vg l)(hl:l.length≤100000){i n:Nat}(hi:i<n)(hn:n≤l.length):Wj (l,(i:Int),(n:Int),())=some ((Xg ((l.map Ahy).take n) i,true,()),(),(),(),()):=by
 unfold Wj Akp
 simp only[Ad]
 rw[aa1 (by omega),aa1 (by omega),aa1 (by omega),Bln ha hl hn]
 simp only[Aa]
 rw[Cdo (by rw[ab2];omega) (by rw[ab2,ag7];omega) ((Ap4 l).take n)]
 rfl
theorem Bgo(a b:List Ea)(ha:a.length≤1000000000):∃ q:Bool,Jl (a,b,())=some ((q,()),(),(),())∧(q=true↔a=b):=by
 unfold Jl Aac
 simp only[Ad,An]
 by_cases hl:a.length=b.length
 ·rw[aa0 (by omega)]
  by_cases vn:a=b
  ·subst vn
   refine⟨true,Ai (I:=fun x=>∃ i:Nat,i≤a.length∧x=(a,a,(i:Int),())) (m:=fun x=>((a.length:Int)-x.2.2.1).toNat) (g:=fun _=>some ((true,()),(),(),())) ?_
    ⟨0,by omega,rfl⟩ (by simp only[Au];omega),by simp⟩
   rintro x aa ⟨i,hi,rfl⟩ hag
   simp only at hag ⊢
   simp only[Om,Am,Ad,Ao,An,aa3]
   by_cases h1:(i:Int)<(a.length:Int)
   ·rw[aa0 h1,aa0 (by omega),aa0 (by omega),show ∀ (t:Ty) (z:t.den),Yu t z z=true from fun t z=>J6.2 rfl,Ap,Ar (by omega) (by omega)]
    exact hag _ ⟨i+1,by omega,by rw[ab0];rfl⟩ (by simp only;omega)
   ·rw[aa1 h1]
  ·obtain⟨k,hk,bm⟩:∃ k,k<a.length∧a.getD k Bp≠b.getD k Bp:=by
    refine ao6 fun hn=>vn (Aln (d:=Bp) hl fun k hk=>ao6 fun h=>hn ⟨k,hk,h⟩)
   refine⟨false,Ai (I:=fun x=>∃ i:Nat,i≤k∧x=(a,b,(i:Int),())) (m:=fun x=>((a.length:Int)-x.2.2.1).toNat) (g:=fun _=>some ((false,()),(),(),())) ?_
    ⟨0,by omega,rfl⟩ (by simp only[Au];omega),by simp[vn]⟩
   rintro x aa ⟨i,hi,rfl⟩ hag
   simp only at hag ⊢
   simp only[Om,Am,Ad,Ao,An,aa3]
   rw[aa0 (by omega),aa0 (by omega),aa0 (by omega)]
   cases he:Yu ((Go.Pon.Ty.int Go.IntKind.u64).pair ((Go.Pon.Ty.int Go.IntKind.u64).pair ((Go.Pon.Ty.arr 4 (Go.Pon.Ty.int Go.IntKind.u64)).pair Go.Pon.Ty.unit))) (a.getD i Bp) (b.getD i Bp) with
   | false=>rw[Bn]
   | true =>
    rw[Ap,Ar (by omega) (by omega)]
    have hik:i≠k:=fun e=>bm (by rw[← e];exact J6.1 he)
    exact hag _ ⟨i+1,by omega,by rw[ab0];rfl⟩ (by simp only;omega)
 ·rw[aa1 (by omega)]
  exact⟨false,rfl,by simp;intro h;exact hl (by rw[h])⟩
theorem Byu:(((0:Int),[(0:Int),0,0,0],()):Bl)=F7:=rfl
theorem Bs6{n:Nat}(h:n≤1000000):A8 n (.pair (.int .u64) (.pair (.arr 4 (.int .u64)) .unit))=true:=by
 rw[Aeu,ac4]
 exact⟨by decide,by simp only[Ty.size];omega⟩
theorem Cjm{n:Nat}(h:n≤1000000):A8 n .bool=true:=by
 rw[Aeu,ac4]
 exact⟨by decide,by simp only[Ty.size];omega⟩
theorem Cbi{n:Nat}(h:n≤1000000):A8 n (.arr 32 (.int .u8))=true:=by
 rw[Aeu,ac4]
 exact⟨by decide,by simp only[Ty.size];omega⟩
abbrev Byq(l:List Bl)(a:Int):Nat:=D8 (pget l a).2.1
theorem Cja{l:List Bl}{a:Int}(h:G1 l)(ha:B2 a):pget l a=(a,At (Byq l a),())∧Al (Byq l a):=by
 have hw:=Cpt h ha
 have hf:=Bvk l a
 unfold Byq
 generalize pget l a=x at hw hf ⊢
 obtain⟨h1,h2⟩:=hw
 simp only at hf ⊢
 subst hf
 rw[Bi]
 exact⟨rfl,h2⟩
structure Cn2(r:List (List Int))(cl:List Bool)(h:Nat)(p:List Bl):Prop where
 len:cl.length=r.length
 held:Al h
 srt:Bcj p
 ne:NEP p
 all:G1 p
theorem Cfw:Cn2 [] [] 0 []:=⟨rfl,by unfold Al;omega,List.Pairwise.nil,fun x h=>by simp at h,fun x h=>by simp at h⟩
abbrev Cse:=Int×(Int×Int×List Int×List (List Int)×Unit)
def Ce5(r:List (List Int))(cl:List Bool)(s z t:Int)(n:Nat)(p:List (List Int)):Int :=
 if t=0∨n=0∨64<p.length then 2 else if z<1∨(r.length:Int)<z∨z≤s then 8 else if cl.getD s.toNat false=true then 9 else
  if Baw (r.getD (z-1).toNat Z32) z s (Ahy (s,t,At n,())) p=true then 0 else 16
def Bhp(r:List (List Int))(cl:List Bool)(h:Nat)(q:List Bl)(s z t:Int)(n:Nat)(p:List (List Int)):Int×(List Bool×Nat×List Bl) :=
 if Ce5 r cl s z t n p=0 then (if n≤h then (if Byq q t+n<115792089237316195423570985008687907853269984665640564039457584007913129639936 then (0,cl.set s.toNat true,h-n,Ns q (t,At (Byq q t+n),())) else (4,cl,h,q)) else (10,cl,h,q))
 else (Ce5 r cl s z t n p,cl,h,q)
abbrev Cm1:=List Int×(List (List Int)×List Int×List Bl×Unit)
abbrev ref(h:Nat)(r:List (List Int))(cs:List Int)(m:List Bl):Cm1:=(At h,r,cs,m,())
structure Azt(r:List (List Int))(cl:List Bool)(h:Nat)(p:List Bl)(cs:List Int)(m:List Bl):Prop where
 inv:Cn2 r cl h p
 cls:∀ s:Int,0≤s→(s∈cs↔cl.getD s.toNat false=true)
 dist:Bnz m
 all:G1 m
 ne:NEP m
 sort:Art m=p
theorem Bcf{l:List Bl}{i:Nat}(h:i<l.length):l.drop i=l.getD i F7::l.drop (i+1):=by
 rw[ak4 h,aa2,aa6 h]
 rfl
theorem Bzq{l:List Int}{i:Nat}(h:i<l.length):l.drop i=l.getD i 0::l.drop (i+1):=by
 rw[ak4 h,aa2,aa6 h]
 rfl
theorem Biv{h:Nat}{r:List (List Int)}{cs:List Int}{m:List Bl}{s:Int}(hl:cs.length≤1000000) :
  Eo (ref h r cs m,s,())=some ((decide (s∈cs),()),(),(),()):=by
 unfold Eo Nj
 refine Ai (I:=fun x=>∃ i:Nat,i≤cs.length∧(s∈cs↔s∈cs.drop i)∧x=(ref h r cs m,s,(i:Int),())) (m:=fun x=>((cs.length:Int)-x.2.2.1).toNat)
  (g:=fun _=>some ((decide (s∈cs),()),(),(),())) ?_ ⟨0,by omega,by rw[ag0],rfl⟩ (by rw[Au];simp only;omega)
 rintro x aa ⟨i,hi,hf,rfl⟩ hag
 simp only at hag ⊢
 unfold V0
 simp only[Am,Ad,Ao]
 by_cases h1:(i:Int)<(cs.length:Int)
 ·have bx:i<cs.length:=by omega
  rw[aa0 h1,aa0 (by omega),aa3]
  rw[Bzq bx,aa9] at hf
  by_cases he:cs.getD i 0=s
  ·rw[aa0 he,aa7 (hf.2 (.inl he.symm))]
  ·rw[aa1 he,Ar (by omega) (by omega)]
   exact hag _ ⟨i+1,by omega,⟨fun h=>(hf.1 h).resolve_left fun h=>he h.symm,fun h=>hf.2 (.inr h)⟩,by rw[ab0];rfl⟩ (by simp only;omega)
 ·rw[aa1 h1]
  rw[ak3 (by omega)] at hf
  rw[ab5 fun h=>by have:=hf.1 h;simp at this]
theorem Cek{m:List Bl}{a:Int}{i:Nat}(h:i<m.length):pget (m.drop i) a=if (m.getD i F7).1=a then m.getD i F7 else pget (m.drop (i+1)) a:=by
 rw[Bcf h];rfl
theorem Cd6{h:Nat}{r:List (List Int)}{cs:List Int}{m:List Bl}{a:Int}(hl:m.length≤1000000) :
  Gw (ref h r cs m,a,())=some (((pget m a).2.1,()),ref h r cs m,(),()):=by
 unfold Gw K3
 refine Ai (I:=fun x=>∃ i:Nat,i≤m.length∧pget m a=pget (m.drop i) a∧x=(ref h r cs m,a,[(0:Int),0,0,0],(i:Int),())) (m:=fun x=>((m.length:Int)-x.2.2.2.1).toNat)
  (g:=fun _=>some (((pget m a).2.1,()),ref h r cs m,(),())) ?_ ⟨0,by omega,by rw[ag0],rfl⟩ (by rw[Au];simp only;omega)
 rintro x aa ⟨i,hi,hf,rfl⟩ hag
 simp only at hag ⊢
 unfold S8
 rw[Byu]
 simp only[Am,Ad,Ao]
 by_cases h1:(i:Int)<(m.length:Int)
 ·have bx:i<m.length:=by omega
  rw[aa0 h1,aa0 (by omega),aa3]
  rw[Cek bx] at hf
  by_cases he:(m.getD i F7).1=a
  ·rw[aa0 he] at hf ⊢
   rw[aa0 (by omega),hf]
  ·rw[aa1 he] at hf ⊢
   rw[Ar (by omega) (by omega)]
   exact hag _ ⟨i+1,by omega,hf,by rw[ab0];rfl⟩ (by simp only;omega)
 ·rw[aa1 h1]
  rw[ak3 (by omega)] at hf
  rw[hf]
  rfl
theorem Byc{l:List Bl}{y:Bl}(h:∀ x∈l,x.1≠y.1):Ns l y=if Alt y then l else l.take (Ad3 l y.1)++(y::l.drop (Ad3 l y.1)):=by
 rw[Bxy,aa1]
 rintro⟨h1,h2⟩
 exact h _ (B3 h1) h2
theorem Cez{m o:List Bl}{h:Nat}{r:List (List Int)}{cs:List Int}{i:Nat}{again0:(Cm1×List Bl×Int×Unit)→Option ((List Bl×Unit)×Unit×Unit)}
  (ho:Bcj o) (hl:o.length≤100000) (hi:i<m.length) (yp:m.length≤100000) (hy:¬ Alt (m.getD i F7)) (ha:∀ x∈o,x.1≠(m.getD i F7).1) :
  Ac _ _ (fun aa x=>J1 again0 aa x.1 x.2.1 x.2.2.1 x.2.2.2.1) (ref h r cs m,o,(i:Int),((o.length:Nat):Int),()) =
   again0 (ref h r cs m,Ns o (m.getD i F7),((i+1:Nat):Int),()):=by
 have hc:=Cae (m.getD i F7).1 o
 refine Ai (I:=fun x=>∃ k:Nat,Ad3 o (m.getD i F7).1≤k∧k≤o.length∧x=(ref h r cs m,o,(i:Int),(k:Int),())) (m:=fun x=>x.2.2.2.1.toNat)
  (g:=fun _=>again0 (ref h r cs m,Ns o (m.getD i F7),((i+1:Nat):Int),())) ?_ ⟨o.length,hc,by omega,rfl⟩ (by rw[Au];simp only;omega)
 rintro x aa ⟨k,h1,h2,rfl⟩ hag
 simp only at hag ⊢
 unfold J1
 rw[Byu]
 simp only[Am,Ad,Ao,Adg]
 have im:(0:Int)≤(i:Int)∧(i:Int)<(m.length:Int):=by omega
 simp only[aa0 im,aa3]
 generalize m.getD i F7=y at *
 have cg:k=Ad3 o y.1→(if True then (if (0:Int)≤(k:Int) then (if (k:Int)≤((o.length:Nat):Int) then (if (0:Int)≤(k:Int) then (if (k:Int)≤((o.length:Nat):Int) then
   (Ag (A8 (1+(List.take (o.length-k) (List.drop k o)).length) (.pair (.int .u64) (.pair (.arr 4 (.int .u64)) .unit)))
    (if 0<(List.append [y] (List.take (o.length-k) (List.drop k o))).length then
     (Ag (A8 ((List.take (k-0) (List.drop 0 o)).length+(List.append [y] (List.take (o.length-k) (List.drop k o))).length) (.pair (.int .u64) (.pair (.arr 4 (.int .u64)) .unit)))
      (again0 (ref h r cs m,List.append (List.take (k-0) (List.drop 0 o)) (List.append [y] (List.take (o.length-k) (List.drop k o))),IntKind.wrap .i64 ((i:Int)+1),()))
      none) else none) none) else none) else none) else none) else none) else none)=again0 (ref h r cs m,Ns o y,((i+1:Nat):Int),()):=fun hk=>by
  have e1:List.take (o.length-k) (List.drop k o)=List.drop k o:=aa8 (by rw[ac0];omega)
  have ag:(List.take k o).length+(List.append [y] (List.drop k o)).length≤1000000:=by
   rw[Bx]
   simp only[ab2,aa4,ac0,ag4]
   omega
  rw[aa0 trivial,aa0 (by omega),aa0 (by omega),aa0 (by omega),aa0 (by omega),e1,Bs6 (by rw[ac0];omega),Ap,aa0 (by simp[Bx]),ak1,ag0,Bs6 ag,Ap,Ar (by omega) (by omega)]
  rw[Byc ha,aa1 hy,← hk]
  rfl
 by_cases h:(k:Int)>0
 ·have hw:IntKind.wrap .i64 ((k:Int)-1)=((k-1:Nat):Int):=by rw[Ar (by omega) (by omega)];omega
  rw[aa0 h,hw,aa3,aa0 (by omega)]
  by_cases c:(o.getD (k-1) F7).1>y.1
  ·rw[aa0 c]
   have:Ad3 o y.1≤k-1:=by
    rcases ad3 (k-1) (Ad3 o y.1) with h|h
    ·have:=Cbq h;omega
    ·exact h
   exact hag _ ⟨k-1,this,by omega,rfl⟩ (by simp only;omega)
  ·rw[aa1 c]
   refine cg ?_
   rcases ad3 (Ad3 o y.1) k with h3|h3
   ·have h4:=Cjx ho (a:=y.1) (i:=k-1) (by omega) (by omega)
    exact absurd (show (o.getD (k-1) F7).1=y.1 by omega) (ha _ (B3 (by omega)))
   ·omega
 ·rw[aa1 h]
  exact cg (by omega)
theorem Bzy{h:Nat}{r:List (List Int)}{cs:List Int}{m:List Bl}(hd:Bnz m)(hn:NEP m)(hl:m.length≤90000) :
  Gg (ref h r cs m,())=some ((Art m,()),(),()):=by
 unfold Gg J7
 refine Ai (I:=fun x=>∃ i:Nat,i≤m.length∧x=(ref h r cs m,(m.take i).foldl Ns [],(i:Int),())) (m:=fun x=>((m.length:Int)-x.2.2.1).toNat)
  (g:=fun _=>some ((Art m,()),(),())) ?_ ⟨0,by omega,rfl⟩ (by rw[Au];simp only;omega)
 rintro x aa ⟨i,hi,rfl⟩ hag
 simp only at hag ⊢
 unfold Sa
 simp only[Am,Ad,Ao]
 by_cases h:(i:Int)<(m.length:Int)
 ·have bx:i<m.length:=by omega
  rw[aa0 h]
  have ht:(m.take (i+1)).foldl Ns []=Ns ((m.take i).foldl Ns []) (m.getD i F7):=by
   rw[Of (d:=F7) bx,List.foldl_append];rfl
  have ji:∀ x∈(m.take i).foldl Ns [],x.1≠(m.getD i F7).1:=fun x hx=>by
   have uf:=Cd0 hx
   have hd:=hd
   rw[← ad7 i m,Bcf bx] at hd
   exact (List.pairwise_append.1 hd).2.2 x uf _ (by simp)
  have hs:=Ba2 (m.take i)
  have hln:((m.take i).foldl Ns []).length≤100000:=by
   have:=Brj (m.take i) []
   rw[ab2] at this
   simp only[am3] at this
   omega
  have dw:=hag (ref _ r cs m,(m.take (i+1)).foldl Ns [],((i+1:Nat):Int),()) ⟨i+1,by omega,rfl⟩ (by simp only;omega)
  rw[ht] at dw
  unfold Art at hs
  rw[Cez hs hln bx (by omega) (hn _ (B3 bx)) ji]
  exact dw
 ·rw[aa1 h,aa8 (by omega)]
  rfl
theorem Bxo{r:List (List Int)}{cs:List Int}{h:Nat}{m:List Bl}{n:Nat}(hh:Al h)(hn:Al n) :
  Ie (ref h r cs m,At n,())=some (((if n=0 then (2:Int) else if h+n<115792089237316195423570985008687907853269984665640564039457584007913129639936 then 0 else 4),()),
   (ref (if n=0 then h else if h+n<115792089237316195423570985008687907853269984665640564039457584007913129639936 then h+n else h) r cs m,(),())):=by
 unfold Ie Nd
 simp only
 rw[Wr,Aa]
 dsimp only
 rw[Ad]
 by_cases c:n=0
 ·simp only[aa0 c]
 simp only[aa1 c]
 rw[Bas hh hn,Aa]
 dsimp only
 rw[An,Ad]
 by_cases c2:h+n<115792089237316195423570985008687907853269984665640564039457584007913129639936
 ·simp only[aa0 c2,ar3]
 ·simp only[aa1 c2]
  rw[aa1 (by decide)]
theorem By0{m:List Bl}{h:Nat}{r:List (List Int)}{cs:List Int}{c:Cse}{x:List Int}(hl:m.length≤100000) :
  Ac _ _ (fun aa y=>Oc aa y.1 y.2.1 y.2.2.1 y.2.2.2.1) (ref h r cs m,c,x,(0:Int),())=some (((0:Int),()),ref h r cs (Alk m (c.2.2.1,x,())),(),()):=by
 refine Ai (I:=fun y=>∃ i:Nat,i≤m.length∧Alk m (c.2.2.1,x,())=m.take i++Alk (m.drop i) (c.2.2.1,x,())∧y=(ref h r cs m,c,x,(i:Int),())) (m:=fun y=>((m.length:Int)-y.2.2.2.1).toNat)
  (g:=fun _=>some (((0:Int),()),ref h r cs (Alk m (c.2.2.1,x,())),(),())) ?_ ⟨0,by omega,by rw[ag1,ag0,af8],rfl⟩ (by rw[Au];simp only;omega)
 rintro y aa ⟨i,hi,hf,rfl⟩ hag
 simp only at hag ⊢
 unfold Oc
 rw[Byu]
 simp only[Am,Ad,Ao]
 by_cases h1:(i:Int)<(m.length:Int)
 ·have bx:i<m.length:=by omega
  rw[aa0 h1,aa0 (by omega),aa3]
  rw[Bcf bx] at hf
  unfold Alk at hf
  by_cases he:(m.getD i F7).1=c.2.2.1
  ·rw[aa0 he,aa0 (by omega)]
   have hq:Alk m (c.2.2.1,x,())=m.set i ((m.getD i F7).1,x,(m.getD i F7).2.2):=by
    have h2:Alk m (c.2.2.1,x,())=m.take i++((c.2.2.1,x,())::m.drop (i+1)):=by
     rw[show (if (m.getD i F7).1=((c.2.2.1,x,()):Bl).1 then ((c.2.2.1,x,()):Bl)::m.drop (i+1) else m.getD i F7::Alk (m.drop (i+1)) (c.2.2.1,x,()))=(c.2.2.1,x,())::m.drop (i+1) from aa0 he] at hf
     cases m<;>exact hf
    rw[h2,he,List.set_eq_take_append_cons_drop,aa0 bx]
   rw[hq]
  ·rw[aa1 he,Ar (by omega) (by omega)]
   refine hag _ ⟨i+1,by omega,?_,by rw[ab0];rfl⟩ (by simp only;omega)
   rw[show (if (m.getD i F7).1=((c.2.2.1,x,()):Bl).1 then ((c.2.2.1,x,()):Bl)::m.drop (i+1) else m.getD i F7::Alk (m.drop (i+1)) (c.2.2.1,x,()))=m.getD i F7::Alk (m.drop (i+1)) (c.2.2.1,x,()) from aa1 he] at hf
   rw[Of (d:=F7) bx,ab6]
   cases m<;>exact hf
 ·rw[aa1 h1,Bs6 (by omega),Ap,Bx]
  rw[ak3 (by omega),aa8 (by omega)] at hf
  have:Alk m (c.2.2.1,x,())=m++[(c.2.2.1,x,())]:=hf
  rw[this]
theorem Azt.pget{r:List (List Int)}{cl:List Bool}{h:Nat}{p:List Bl}{cs:List Int}{m:List Bl}(e:Azt r cl h p cs m)(a:Int):Go.Pon.pget m a=Go.Pon.pget p a:=by
 rw[← e.sort,Bdj e.dist]
theorem Azt.mem{r:List (List Int)}{cl:List Bool}{h:Nat}{p:List Bl}{cs:List Int}{m:List Bl}(e:Azt r cl h p cs m){s:Int}(hs:0≤s):decide (s∈cs)=cl.getD s.toNat false:=by
 have:=e.cls s hs
 cases hb:cl.getD s.toNat false with
 | true=>exact aa7 (this.2 hb)
 | false=>exact ab5 fun h=>by rw[this.1 h] at hb;cases hb
theorem Bov{cl:List Bool}{i j:Nat}(hi:i<cl.length):(cl.set i true).getD j false=if j=i then true else cl.getD j false:=by
 rw[aa2,List.getElem?_set,aa2]
 by_cases h:i=j
 ·subst h;rw[aa0 rfl,aa0 hi,aa0 rfl];rfl
 ·rw[aa1 h,aa1 fun e=>h e.symm]
theorem Cku{r:List (List Int)}{cl:List Bool}{h:Nat}{q:List Bl}{cs:List Int}{m:List Bl}{s z t:Int}{n:Nat}{p:List (List Int)}(e:Azt r cl h q cs m)(hr:r.length≤1000000)(hm:m.length≤90000)(er:cs.length≤900000)
  (hs:B2 s) (hz:B2 z) (ht:B2 t) (hn:Al n) (hp:Ul p) :
  ∃ og m',Jm (ref h r cs m,(s,z,t,At n,p,()),())=some (((Bhp r cl h q s z t n p).1,()),ref (Bhp r cl h q s z t n p).2.2.1 r og m',(),()) ∧
   Azt r (Bhp r cl h q s z t n p).2.1 (Bhp r cl h q s z t n p).2.2.1 (Bhp r cl h q s z t n p).2.2.2 og m'∧m'.length≤m.length+1∧og.length≤cs.length+1:=by
 have hc:=e.inv.len
 have jk:∀ c:Int,c≠0→Ce5 r cl s z t n p=c→∃ og m',some ((c,()),ref h r cs m,(),())=some (((Bhp r cl h q s z t n p).1,()),ref (Bhp r cl h q s z t n p).2.2.1 r og m',(),()) ∧
   Azt r (Bhp r cl h q s z t n p).2.1 (Bhp r cl h q s z t n p).2.2.1 (Bhp r cl h q s z t n p).2.2.2 og m'∧m'.length≤m.length+1∧og.length≤cs.length+1:=fun c hc0 nf=>by
  have:Bhp r cl h q s z t n p=(c,cl,h,q):=by unfold Bhp;rw[aa1 (by omega),nf]
  rw[this]
  exact⟨cs,m,rfl,e,by omega,by omega⟩
 unfold B2 at hs hz ht
 have jc:=e.mem hs.1
 unfold Jm Q9
 simp only[Am]
 rw[Ad]
 by_cases c1:t=0
 ·rw[aa0 c1];exact jk 2 (by decide) (aa0 (.inl c1))
 rw[aa1 c1,Wr,Aa]
 dsimp only
 rw[Ad]
 by_cases c2:n=0
 ·rw[aa0 c2];exact jk 2 (by decide) (aa0 (.inr (.inl c2)))
 rw[aa1 c2,Ad]
 by_cases c3:(p.length:Int)>64
 ·rw[aa0 c3];exact jk 2 (by decide) (aa0 (.inr (.inr (by omega))))
 rw[aa1 c3,Ad]
 have k1:¬ (t=0∨n=0∨64<p.length):=by omega
 by_cases c4:z<1
 ·rw[aa0 c4];exact jk 8 (by decide) ((aa1 k1).trans (aa0 (.inl c4)))
 rw[aa1 c4,Ad,Gt (n:=(r.length:Int)) (by omega) (by omega)]
 by_cases c5:z>(r.length:Int)
 ·rw[aa0 c5];exact jk 8 (by decide) ((aa1 k1).trans (aa0 (.inr (.inl c5))))
 rw[aa1 c5,Ad]
 by_cases c6:s≥z
 ·rw[aa0 c6];exact jk 8 (by decide) ((aa1 k1).trans (aa0 (.inr (.inr c6))))
 rw[aa1 c6,Biv (by omega),Aa,jc]
 have k2:¬ (z<1∨(r.length:Int)<z∨z≤s):=by omega
 dsimp only
 rw[Bso]
 by_cases c7:cl.getD s.toNat false=true
 ·rw[aa0 c7];exact jk 9 (by decide) ((aa1 k1).trans ((aa1 k2).trans (aa0 c7)))
 rw[aa1 c7,Ao,Gt (n:=z-1) (by omega) (by omega),aa0 (by omega),Bp1 (Bc9.mk hs ht hn),Aa,Ar (n:=z) (by omega) (by omega),Ar (n:=s) (by omega) (by omega),Bni (by omega) (by omega) (Bqm _) hp,Aa]
 dsimp only
 rw[An,Bso]
 by_cases c8:Baw (r.getD (z-1).toNat Z32) z s (Ahy (s,t,At n,())) p=true
 case neg=>rw[aa1 c8];exact jk 16 (by decide) ((aa1 k1).trans ((aa1 k2).trans ((aa1 c7).trans (aa1 c8))))
 have nf:Ce5 r cl s z t n p=0:=by
  unfold Ce5
  rw[aa1 (by omega),aa1 (by omega),aa1 c7,aa0 c8]
 rw[aa0 c8]
 clear jk
 unfold Bhp
 simp only[aa0 nf]
 have hh:=e.inv.held
 unfold Al at hh hn
 rw[Aex hh hn,Aa]
 dsimp only
 rw[An,Ad]
 by_cases d1:n≤h
 case neg =>
  simp only[aa1 d1]
  rw[aa1 (by decide)]
  exact⟨cs,m,rfl,e,by omega,by omega⟩
 simp only[aa0 d1,ar3]
 rw[Cd6 (by omega),Aa,e.pget]
 have hpg:=Cja e.inv.all (a:=t) (by unfold B2;omega)
 have hb:=hpg.2
 have e1:(Go.Pon.pget q t).2.1=At (Byq q t):=by rw[hpg.1]
 dsimp only
 rw[e1]
 generalize Byq q t=k at *
 unfold Al at hb
 rw[Bas hb hn,Aa]
 dsimp only
 rw[An,Ad]
 by_cases d2:k+n<115792089237316195423570985008687907853269984665640564039457584007913129639936
 case neg =>
  simp only[aa1 d2]
  rw[aa1 (by decide)]
  exact⟨cs,m,rfl,e,by omega,by omega⟩
 simp only[aa0 d2,ar3]
 have dc:A8 (cs.length+1) (.int .u64)=true:=by
  rw[Aeu,ac4]
  exact⟨by decide,by simp only[Ty.size];omega⟩
 rw[dc,Ap,Bx]
 have gj:Alu (t,At (k+n),()):=Alu.mk (by unfold B2;omega) (by unfold Al;omega)
 have bm:¬ Alt (t,At (k+n),()):=by
  unfold Alt
  simp only[ai9,true_and,aq4]
  rw[← Bpg,Be6]
  omega
 refine⟨cs++[s],Alk m (t,At (k+n),()),By0 (c:=(s,z,t,At n,p,())) (by omega),⟨⟨by rw[ae1];exact hc,by unfold Al;omega,Azr e.inv.srt,Btt e.inv.ne,Bx1 e.inv.all gj⟩,fun x hx=>?_,Bge e.dist,Cgz e.all gj,fun x hx=>?_,?_⟩,Bw8 _ _,by simp⟩
 ·rw[ad9,ac3,Bov (by omega)]
  by_cases hxs:x=s
  ·rw[hxs,aa0 rfl];simp
  ·rw[aa1 (by omega),← e.cls x hx]
   simp[hxs]
 ·rcases Bf5 hx with hx|rfl
  ·exact e.ne x hx
  ·exact bm
 ·rw[Byz e.dist,e.sort]
theorem Ca{x:Int}(h0:0≤x)(h1:x≤18446744073709551615):A0 (x,())=some ((dg x.toNat,()),(),()):=by
 unfold A0 Yk
 try dsimp only
 rw[Aai h0 h1,Cd (by omega),Aa]
theorem Bg0{a b:Nat}(ha:(dg a).length≤1000)(hb:(dg b).length≤1000):Hc (dg a,dg b,())=some ((dg (min a b),()),(),(),()):=by
 unfold Hc Aws
 try dsimp only
 rw[Atu ha hb,Aa]
 dsimp only
 unfold Agg
 rw[Ad]
 by_cases h1:a<b
 ·rw[aa0 h1,aa1 (by omega),ad8 (by omega)]
 ·rw[aa1 h1]
  by_cases h2:a>b
  ·rw[aa0 h2,aa0 (by omega),Nat.min_eq_right (by omega)]
  ·rw[aa1 h2,aa1 (by omega),ad8 (by omega)]
theorem Ch9{M a b:Nat}(hb:0<b)(ha:a<65536):(65536*M+a) / b % 65536=(65536*(M % b)+a) / b∧(65536*M+a) % b=(65536*(M % b)+a) % b∧(65536*(M % b)+a) / b<65536:=by
 have hM:M=b*(M / b)+M % b:=(Nat.div_add_mod M b).symm
 have ar:M % b<b:=ai3 _ hb
 have hx:(65536*(M % b)+a) / b<65536:=by
  rw[ao5 hb]
  have:65536*(M % b)≤65536*(b-1):=ae8 _ (by omega)
  omega
 have e:65536*M+a=(65536*(M % b)+a)+b*(65536*(M / b)):=by
  have h2:65536*M=65536*(b*(M / b)+M % b):=by rw[← hM]
  have h3:b*(65536*(M / b))=65536*(b*(M / b)):=by rw[Nat.mul_left_comm]
  rw[h2,h3,ap6]
  omega
 refine⟨?_,?_,hx⟩
 ·rw[e,Nat.add_mul_div_left _ _ hb,ao7,ac8 hx]
 ·rw[e,ao7]
def hiD(n j A:Nat):List Int:=(List.range n).map fun k=>if j≤k then ((A / 65536 ^ k % 65536:Nat):Int) else 0
theorem Cb4(n j A:Nat):(hiD n j A).length=n:=by simp[hiD]
theorem Bv2(n A:Nat):hiD n 0 A=lo n A:=by simp[hiD,lo]
theorem Cak(n A:Nat):hiD n n A=List.replicate n 0:=by
 unfold hiD
 refine List.eq_replicate_iff.2 ⟨by simp,fun b hb=>?_⟩
 obtain⟨k,hk,rfl⟩:=ag8.1 hb
 rw[aa1 (by have:=List.mem_range.1 hk;omega)]
theorem Can{n i A:Nat}(h:i<n):(hiD n (i+1) A).set i ((A / 65536 ^ i % 65536:Nat):Int)=hiD n i A:=by
 refine al4 (by simp[hiD]) fun k h1 h2=>?_
 rw[as4]
 simp only[hiD,as5,aq9]
 by_cases hk:i=k
 ·subst hk;rw[aa0 rfl,aa0 (ab4 _)]
 ·rw[aa1 hk]
  by_cases h3:i+1≤k
  ·rw[aa0 h3,aa0 (by omega)]
  ·rw[aa1 h3,aa1 (by omega)]
theorem Chs{A b:Nat}(hA:(dg A).length≤1000)(hb:0<b)(jr:b<65536):Zi (dg A,(b:Int),())=some ((dg (A / b),dg (A % b),()),(),(),()):=by
 have ag:A / 65536 ^ (dg A).length=0:=Du.1 (ab4 _)
 unfold Zi An1
 try dsimp only
 generalize hn:(dg A).length=n at *
 rw[aa7 (show (0:Int)≤(n:Int) by omega),aa7 (ap5 _),aa3,ak7,ak7,ao1,Aok (by omega)]
 have hw0:IntKind.wrap .i64 ((n:Int)-1)=(n:Int)-1:=Ar (by omega) (by omega)
 rw[hw0]
 refine Ai (I:=fun x=>∃ j:Nat,j≤n∧x=(dg A,(b:Int),hiD n j (A / b),(((A / 65536 ^ j) % b:Nat):Int),(j:Int)-1,())) (m:=fun x=>(x.2.2.2.2.1+1).toNat)
  (g:=fun _=>some ((dg (A / b),dg (A % b),()),(),(),())) ?_ ⟨n,ab4 _,by rw[Cak,ag,Nat.zero_mod];rfl⟩ (by rw[Au];simp only;omega)
 rintro x aa ⟨j,hj,rfl⟩ hag
 simp only at hag ⊢
 unfold Aqf
 simp only[Am]
 rw[Ad]
 cases j with
 | zero =>
  rw[aa1 (by omega),Bv2,ah2,al6]
  have hq:A / b / 65536 ^ n=0:=by
   rw[ae2,af9,← ae2,ag,Nat.zero_div]
  have hl:A % b<b:=ai3 _ hb
  rw[Aru (by omega) hq,Aa]
  dsimp only
  have h1:[((A % b:Nat):Int)]=lo 1 (A % b):=by
   have:lo 1 (A % b)=[((A % b / 65536 ^ 0 % 65536:Nat):Int)]:=by simp[lo]
   rw[this,ah2,al6,ac8 (show A % b<65536 by omega)]
  rw[h1,Aru (by omega) (by rw[Nat.pow_one];exact af0 (by omega)),Aa]
  dsimp only
  rw[Ang hq,Ang (by rw[Nat.pow_one];exact af0 (by omega))]
 | succ i =>
  have hi:(((i+1:Nat):Int)-1)=(i:Int):=by omega
  rw[hi,aa0 (by omega),Ao,aa0 (by rw[hn];omega),aa3,Abo]
  have hd:A / 65536 ^ i=65536*(A / 65536 ^ (i+1))+A / 65536 ^ i % 65536:=by
   rw[Il A i];omega
  have hq:A / b / 65536 ^ i=A / 65536 ^ i / b:=by rw[ae2,af9,← ae2]
  obtain⟨s1,s2,s3⟩:=Ch9 (M:=A / 65536 ^ (i+1)) (a:=A / 65536 ^ i % 65536) hb (ai3 _ (by omega))
  rw[← hd] at s1 s2
  have cx:=Can (n:=n) (i:=i) (A:=A / b) (by omega)
  rw[hq,s1] at cx
  have hm:A / 65536 ^ (i+1) % b<b:=ai3 _ hb
  have ha:A / 65536 ^ i % 65536<65536:=ai3 _ (by omega)
  have dw:=hag _ ⟨i,by omega,rfl⟩ (by simp only;omega)
  rw[s2,← cx] at dw
  clear hag s1 s2 hd hq cx
  rw[Cb4]
  generalize A / 65536 ^ (i+1) % b=l at *
  generalize A / 65536 ^ i % 65536=a at *
  have w1:IntKind.wrap .i64 ((65536:Int)*(l:Int))=((65536*l:Nat):Int):=by rw[Ar (by omega) (by omega)];omega
  have w2:IntKind.wrap .i64 (((65536*l:Nat):Int)+(a:Int))=((65536*l+a:Nat):Int):=by rw[Ar (by omega) (by omega)];omega
  have w3:Int.tdiv ((65536*l+a:Nat):Int) (b:Int)=(((65536*l+a) / b:Nat):Int):=by rw[ah3 (by omega)];rfl
  have w4:Int.tmod ((65536*l+a:Nat):Int) (b:Int)=(((65536*l+a) % b:Nat):Int):=by rw[Ix (by omega)];rfl
  have w5:IntKind.wrap .i64 ((i:Int)-1)=(i:Int)-1:=Ar (by omega) (by omega)
  have w6:∀ z:Nat,z<65536→IntKind.wrap .i64 ((z:Nat):Int)=((z:Nat):Int):=fun z hz=>Ar (by omega) (by omega)
  have f0:(b:Int)≠0:=by omega
  have sh:(0:Int)≤(i:Int)∧(i:Int)<(n:Int):=by omega
  rw[w1,w2,w3,w4,w5,w6 _ s3,Ad,aa0 f0,Ad,aa0 f0,Ao,aa0 sh]
  exact dw
abbrev dgt(X j:Nat):Nat:=X / 65536 ^ j % 65536
def mix(n p X Y:Nat):List Int:=(List.range n).map fun j=>if j<p then ((dgt X j:Nat):Int) else ((dgt Y j:Nat):Int)
theorem Bfg(n p X Y:Nat):(mix n p X Y).length=n:=by simp[mix]
theorem Cb2{n p X Y j:Nat}(h:j<n):(mix n p X Y).getD j 0=if j<p then ((dgt X j:Nat):Int) else ((dgt Y j:Nat):Int):=by
 simp[mix,aa2,h]
theorem Ciy{X Y W p j:Nat}(hW:W=65536 ^ p)(h:X % W=Y % W)(hj:j<p):dgt X j=dgt Y j:=by
 unfold dgt
 have hp:p=j+1+(p-j-1):=by omega
 have key:∀ Z:Nat,Z / 65536 ^ j % 65536=Z % W / 65536 ^ j % 65536:=fun Z=>by
  have e:W=65536 ^ j*(65536*65536 ^ (p-j-1)):=by
   rw[hW]
   conv=>lhs;rw[hp]
   rw[al5,ae6,aj4]
  rw[e,Nat.mod_mul_right_div_self,Nat.mod_mul_right_mod]
 rw[key X,key Y,h]
theorem Bkx{n p X X' Y v:Nat}(hp:p<n)(h:∀ j,j<p→dgt X j=dgt X' j)(hv:v=dgt X' p):(mix n p X Y).set p (v:Int)=mix n (p+1) X' Y:=by
 refine al4 (by simp[mix]) fun k h1 h2=>?_
 rw[as4]
 simp only[mix,as5,aq9]
 by_cases hk:p=k
 ·subst hk;rw[aa0 rfl,aa0 (by omega),hv]
 ·rw[aa1 hk]
  by_cases h3:k<p
  ·rw[aa0 h3,aa0 (by omega),h k h3]
  ·rw[aa1 h3,aa1 (by omega)]
theorem Bsd{n p X Y:Nat}(h:∀ j,p≤j→j<n→dgt X j=dgt Y j):mix n p X Y=lo n X:=by
 refine al4 (by simp[mix,lo]) fun k h1 h2=>?_
 simp only[mix,lo,as5,aq9]
 by_cases h3:k<p
 ·rw[aa0 h3]
 ·rw[aa1 h3,← h k (by omega) (by simpa [mix] using h1)]
theorem Cf5(n X Y:Nat):lo n Y=mix n 0 X Y:=by simp[mix,lo]
theorem Cg4{P V W over d t:Nat}(hW:0<W)(h1:P / W=V / W+over)(hd:d=V / W % 65536):(P+t*W) / W % 65536=(over+d+t) % 65536∧(P+t*W) / (W*65536)=V / (W*65536)+(over+d+t) / 65536∧(P+t*W) % W=P % W:=by
 have e1:(P+t*W) / W=P / W+t:=Nat.add_mul_div_right _ _ hW
 rw[← ae2,← ae2,e1,h1,Nat.add_mul_mod_self_right]
 generalize V / W=q at *
 omega
theorem Cdm{x y:Nat}(hx:x≤65535)(hy:y≤65535):x*y≤4294836225:=ak6 hx hy
theorem Cju{a b out:List Int}{again1:(List Int×List Int×List Int×Int×Unit)→Option ((List Int×Unit)×Unit×Unit×Unit)}{A B n i:Nat}(ha:a=dg A)(hb:b=dg B)(hn:n=a.length+b.length)(hl:a.length≤1000)(db:b.length≤1000)(hi:i<a.length)(ax4:out=lo n (A % 65536 ^ i*B)) :
  Ac _ _ (fun aa x=>Aih again1 aa x.1 x.2.1 x.2.2.1 x.2.2.2.1 x.2.2.2.2.1 x.2.2.2.2.2.1) (a,b,out,(i:Int),(0:Int),(0:Int),()) =
   again1 (a,b,lo n (A % 65536 ^ (i+1)*B),((i+1:Nat):Int),()):=by
 have hB:B / 65536 ^ b.length=0:=by rw[hb];exact Du.1 (ab4 _)
 have hV1:A % 65536 ^ (i+1)*B=A % 65536 ^ i*B+(dgt A i*B)*65536 ^ i:=by
  have:A % 65536 ^ (i+1)=A % 65536 ^ i+dgt A i*65536 ^ i:=by
   rw[ae6,au0,af9 (65536 ^ i)]
  rw[this,ae4,Nat.mul_right_comm]
 have u7:A % 65536 ^ i*B<65536 ^ (i+b.length):=by
  have h1:A % 65536 ^ i<65536 ^ i:=ai3 _ (ah0 (by omega))
  have h2:B<65536 ^ b.length:=(ag2 (ah0 (by omega))).1 hB
  rw[al5]
  exact Nat.mul_lt_mul'' h1 h2
 have te:A % 65536 ^ (i+1)*B<65536 ^ (i+1+b.length):=by
  have h1:A % 65536 ^ (i+1)<65536 ^ (i+1):=ai3 _ (ah0 (by omega))
  have h2:B<65536 ^ b.length:=(ag2 (ah0 (by omega))).1 hB
  rw[al5 65536 (i+1) b.length]
  exact Nat.mul_lt_mul'' h1 h2
 have wd:a.getD i 0=((dgt A i:Nat):Int):=by rw[ha,Abo]
 have hbk:∀ k,b.getD k 0=((dgt B k:Nat):Int):=fun k=>by rw[hb,Abo]
 have hdA:dgt A i≤65535:=by unfold dgt;omega
 generalize hx:dgt A i=x at *
 generalize hV:A % 65536 ^ i*B=V at *
 refine Ai (I:=fun y=>∃ k over:Nat,k≤b.length∧over≤65535∧(V+(x*(B % 65536 ^ k))*65536 ^ i) / 65536 ^ (i+k)=V / 65536 ^ (i+k)+over ∧
   y=(a,b,mix n (i+k) (V+(x*(B % 65536 ^ k))*65536 ^ i) V,(i:Int),(over:Int),((k:Nat):Int),()))
  (m:=fun y=>((b.length:Int)-y.2.2.2.2.2.1).toNat) (g:=fun _=>again1 (a,b,lo n (A % 65536 ^ (i+1)*B),((i+1:Nat):Int),())) ?_ ⟨0,0,by omega,by omega,by rw[ah2,at9,Nat.mul_zero,al9,af6,af6,af6],?_⟩ (by rw[Au];simp only;omega)
 rotate_left
 ·rw[ah2,at9,Nat.mul_zero,al9,af6,af6,ax4]
  rw[Bsd fun j _ _=>rfl]
  rfl
 rintro y aa ⟨k,over,hk,ho,hc,rfl⟩ hag
 simp only at hag ⊢
 unfold Aih
 simp only[Am]
 rw[Ad]
 have wik:IntKind.wrap .i64 ((i:Int)+((k:Nat):Int))=((i+k:Nat):Int):=by rw[Ar (by omega) (by omega)];omega
 have wk:IntKind.wrap .i64 (((k:Nat):Int)+1)=((k+1:Nat):Int):=by rw[Ar (by omega) (by omega)];omega
 have wi:IntKind.wrap .i64 ((i:Int)+1)=((i+1:Nat):Int):=by rw[Ar (by omega) (by omega)];omega
 have wib:IntKind.wrap .i64 ((i:Int)+(b.length:Int))=((i+b.length:Nat):Int):=by rw[Ar (by omega) (by omega)];omega
 by_cases h:((k:Nat):Int)<(b.length:Int)
 ·rw[aa0 h,wik,Bfg,Ao,aa0 (by omega),Ao,aa0 (by omega),Ao,aa0 (by omega),Ao,aa0 (by omega),aa3,aa3,aa3,Cb2 (by omega),aa1 (by omega),wd,hbk,wk]
  have hdB:dgt B k≤65535:=by unfold dgt;omega
  have vr:=Cdm hdA hdB
  have hPk:V+(x*(B % 65536 ^ (k+1)))*65536 ^ i=(V+(x*(B % 65536 ^ k))*65536 ^ i)+(x*dgt B k)*65536 ^ (i+k):=by
   have:B % 65536 ^ (k+1)=B % 65536 ^ k+dgt B k*65536 ^ k:=by
    rw[ae6,au0,af9 (65536 ^ k)]
   rw[this,ap6,ae4,al5,aj3]
   congr 2
   rw[← aj4,aj4,af9 (65536 ^ k)]
  have fk:=Cg4 (P:=V+(x*(B % 65536 ^ k))*65536 ^ i) (V:=V) (W:=65536 ^ (i+k)) (over:=over) (d:=dgt V (i+k)) (t:=x*dgt B k) (ah0 (by omega)) hc rfl
  rw[← hPk] at fk
  obtain⟨r1,r2,r3⟩:=fk
  have cx:=Bkx (n:=n) (p:=i+k) (X:=V+(x*(B % 65536 ^ k))*65536 ^ i) (X':=V+(x*(B % 65536 ^ (k+1)))*65536 ^ i) (Y:=V) (v:=(over+dgt V (i+k)+x*dgt B k) % 65536) (by omega)
   (fun j hj=>Ciy rfl r3.symm hj) r1.symm
  have hdV:dgt V (i+k)≤65535:=by unfold dgt;omega
  have dw:=hag (a,b,mix n (i+(k+1)) (V+(x*(B % 65536 ^ (k+1)))*65536 ^ i) V,(i:Int),(((over+dgt V (i+k)+x*dgt B k) / 65536:Nat):Int),((k+1:Nat):Int),())
   ⟨k+1,(over+dgt V (i+k)+x*dgt B k) / 65536,by omega,by omega,by rw[show i+(k+1)=(i+k)+1 by omega,ae6];exact r2,rfl⟩ (by simp only;omega)
  rw[show i+(k+1)=i+k+1 by omega,← cx] at dw
  clear hag cx r1 r2 r3 hPk hc hV1 u7 te hB hbk wd
  generalize V+(x*(B % 65536 ^ k))*65536 ^ i=P at *
  generalize dgt V (i+k)=d at *
  have w1:IntKind.wrap .i64 (((x:Nat):Int)*((dgt B k:Nat):Int))=((x*dgt B k:Nat):Int):=by rw[← ap1,Ar (by omega) (by omega)]
  rw[w1]
  generalize x*dgt B k=t at *
  have w2:IntKind.wrap .i64 ((over:Int)+(d:Int))=((over+d:Nat):Int):=by rw[Ar (by omega) (by omega)];omega
  have w3:IntKind.wrap .i64 (((over+d:Nat):Int)+(t:Int))=((over+d+t:Nat):Int):=by rw[Ar (by omega) (by omega)];omega
  have w4:Int.fdiv ((over+d+t:Nat):Int) 65536=(((over+d+t) / 65536:Nat):Int):=by rw[ai1 _ (by omega)];omega
  have w5:IntKind.wrap .i64 (((over+d+t) % 65536:Nat):Int)=(((over+d+t) % 65536:Nat):Int):=Ar (by omega) (by omega)
  rw[w2,w3,Aot (n:=over+d+t) (by omega),w4,w5]
  exact dw
 ·obtain rfl:k=b.length:=by omega
  clear hag
  have hBm:B % 65536 ^ b.length=B:=ac8 ((ag2 (ah0 (by omega))).1 hB)
  rw[hBm] at hc ⊢
  rw[← hV1] at hc ⊢
  rw[af0 u7,af1] at hc
  rw[aa1 h,wib,Bfg,Ao,aa0 (by omega),aa3,wi]
  have hd:over=dgt (A % 65536 ^ (i+1)*B) (i+b.length):=by
   unfold dgt;rw[hc,ac8 (by omega)]
  rw[Bkx (by omega) (fun j _=>rfl) hd]
  rw[Bsd fun j h1 h2=>?_]
  unfold dgt
  have e1:V<65536 ^ j:=ae3 u7 (ah6 (by omega) (by omega))
  have e2:A % 65536 ^ (i+1)*B<65536 ^ j:=ae3 te (ah6 (by omega) (by omega))
  rw[af0 e1,af0 e2]
theorem Cag(n:Nat):lo n 0=List.replicate n 0:=by
 unfold lo
 refine List.eq_replicate_iff.2 ⟨by simp,fun b hb=>?_⟩
 obtain⟨k,hk,rfl⟩:=ag8.1 hb
 rw[Nat.zero_div]
 rfl
theorem Pp{A B:Nat}(hA:(dg A).length≤1000)(hB:(dg B).length≤1000):Cg (dg A,dg B,())=some ((dg (A*B),()),(),(),()):=by
 have x9:A / 65536 ^ (dg A).length=0:=Du.1 (ab4 _)
 have qv:B / 65536 ^ (dg B).length=0:=Du.1 (ab4 _)
 have haa:A<65536 ^ (dg A).length:=(ag2 (ah0 (by omega))).1 x9
 have tu:B<65536 ^ (dg B).length:=(ag2 (ah0 (by omega))).1 qv
 unfold Cg Awd
 simp only[Am]
 have hw:IntKind.wrap .i64 ((((dg A).length:Nat):Int)+(((dg B).length:Nat):Int))=(((dg A).length+(dg B).length:Nat):Int):=by rw[Ar (by omega) (by omega)];omega
 rw[hw,aa7 (Int.natCast_nonneg _),aa7 (ap5 _),aa3,ak7,ak7,ao1,Aok (by omega)]
 refine Ai (I:=fun x=>∃ i:Nat,i≤(dg A).length∧x=(dg A,dg B,lo ((dg A).length+(dg B).length) (A % 65536 ^ i*B),(i:Int),())) (m:=fun x=>((((dg A).length:Nat):Int)-x.2.2.2.1).toNat)
  (g:=fun _=>some ((dg (A*B),()),(),(),())) ?_ ⟨0,by omega,by rw[ah2,at9,al9,Cag];rfl⟩ (by rw[Au];simp only;omega)
 rintro x aa ⟨i,hi,rfl⟩ hag
 simp only at hag ⊢
 unfold Au7
 rw[Ad]
 by_cases h:(i:Int)<(((dg A).length:Nat):Int)
 ·rw[aa0 h,Cju rfl rfl rfl hA hB (by omega) rfl]
  exact hag _ ⟨i+1,by omega,rfl⟩ (by simp only;omega)
 ·obtain rfl:i=(dg A).length:=by omega
  have hAB:A*B<65536 ^ ((dg A).length+(dg B).length):=by
   rw[al5];exact Nat.mul_lt_mul'' haa tu
  rw[aa1 h,ac8 haa,Aru (by omega) (af0 hAB),Aa]
  dsimp only
  rw[Ang (af0 hAB)]
theorem Csg{n:Nat}(h:n<18446744073709551616):(((BitVec.toNat ((BitVec.ofInt 64 (n:Int)) &&& (BitVec.ofInt 64 1)):Nat):Int))=((n % 2:Nat):Int):=by
 rw[BitVec.toNat_and,show BitVec.toNat (BitVec.ofInt 64 1)=2 ^ 1-1 from rfl,Nat.and_two_pow_sub_one_eq_mod,ai5,aj1,show n % 2 ^ 64=n from ac8 (by omega)]
theorem Ce3{N B:Nat}(hB:0<B):2*(N / 2 % B)+N % 2<2*B∧(2*(N / 2 % B)+N % 2<B→N % B=2*(N / 2 % B)+N % 2∧N / B=2*(N / 2 / B)) ∧
  (B≤2*(N / 2 % B)+N % 2→N % B=2*(N / 2 % B)+N % 2-B∧N / B=2*(N / 2 / B)+1):=by
 have h1:N / 2=B*(N / 2 / B)+N / 2 % B:=(Nat.div_add_mod (N / 2) B).symm
 have h2:N=(2*(N / 2 % B)+N % 2)+B*(2*(N / 2 / B)):=by
  have:B*(2*(N / 2 / B))=2*(B*(N / 2 / B)):=by rw[Nat.mul_left_comm]
  omega
 have h3:N / 2 % B<B:=ai3 _ hB
 refine⟨by omega,fun h=>?_,fun h=>?_⟩
 ·generalize hx:2*(N / 2 % B)+N % 2=x at *
  generalize N / 2 / B=q at *
  rw[h2,ao7,Nat.add_mul_div_left _ _ hB,ac8 h,af0 h]
  omega
 ·generalize hx:2*(N / 2 % B)+N % 2=x at *
  generalize N / 2 / B=q at *
  have h4:N=(x-B)+B*(2*q+1):=by rw[ap6,at8];omega
  have h5:x-B<B:=by omega
  rw[h4,ao7,Nat.add_mul_div_left _ _ hB,ac8 h5,af0 h5]
  omega
abbrev Clo:Type:=((List Int)×(List Int)×(List Int)×(List Int)×Int×Int×Unit)→Option (((List Int)×(List Int)×Unit)×Unit×Unit×Unit)
theorem Bvl{k:Nat}(h:k≤16):(2:Nat) ^ k≤65536:=ah6 (by omega) h
theorem Brg(k:Nat):((2:Int) ^ k)=((2 ^ k:Nat):Int):=by rw[ak9];rfl
theorem Chb{a b q:List Int}{again8:Clo}{M X Y i k:Nat}(hM:M≤1100)(hi:i<q.length)(hq:0≤q.getD i 0∧q.getD i 0≤65536)(hk:k≤15)(hd:(dg X).length≤M) :
  Ac _ _ (fun aa x=>Ah0 again8 aa x.1 x.2.1 x.2.2.1 x.2.2.2.1 x.2.2.2.2.1 x.2.2.2.2.2.1 x.2.2.2.2.2.2.1 x.2.2.2.2.2.2.2.1) (a,b,q,lo M Y,(i:Int),(k:Int),dg X,(0:Int),()) =
   again8 (a,b,q.set i (q.getD i 0+((2 ^ k:Nat):Int)),lo M X,(i:Int),(k:Int)-1,()):=by
 refine Ai (I:=fun y=>∃ j:Nat,j≤M∧y=(a,b,q,mix M j X Y,(i:Int),(k:Int),dg X,((j:Nat):Int),()))
  (m:=fun y=>((M:Int)-y.2.2.2.2.2.2.2.1).toNat) (g:=fun _=>again8 (a,b,q.set i (q.getD i 0+((2 ^ k:Nat):Int)),lo M X,(i:Int),(k:Int)-1,())) ?_
  ⟨0,by omega,by rw[Cf5 M X Y];rfl⟩ (by rw[Au];simp only;omega)
 rintro y aa ⟨j,hj,rfl⟩ hag
 simp only at hag ⊢
 unfold Ah0
 rw[Ad,Bfg]
 by_cases h:((j:Nat):Int)<(M:Int)
 ·have wj:IntKind.wrap .i64 (((j:Nat):Int)+1)=((j+1:Nat):Int):=by rw[Ar (by omega) (by omega)];omega
  rw[aa0 h,Ao,aa0 (by omega),aa3,wj,Ad]
  have dw:=hag (a,b,q,mix M (j+1) X Y,(i:Int),(k:Int),dg X,((j+1:Nat):Int),()) ⟨j+1,by omega,rfl⟩ (by simp only;omega)
  rw[← Bkx (n:=M) (p:=j) (X:=X) (X':=X) (Y:=Y) (v:=dgt X j) (by omega) (fun _ _=>rfl) rfl] at dw
  by_cases h2:((j:Nat):Int)<(((dg X).length:Nat):Int)
  ·rw[aa0 h2,Ao,aa0 (by omega),Ao,aa0 (by rw[ae1,Bfg];omega),Abo,List.set_set]
   exact dw
  ·have h3:dgt X j=0:=by
    have:X / 65536 ^ j=0:=Nat.eq_zero_of_not_pos fun h=>h2 (by have:=(Aid j X).2 h;omega)
    unfold dgt
    rw[this]
   rw[aa1 h2]
   rw[h3] at dw
   exact dw
 ·obtain rfl:j=M:=by omega
  have hp:=Bvl (show k≤16 by omega)
  have w1:IntKind.wrap .u64 (k:Int)=(k:Int):=Gt (by omega) (by omega)
  have w3:IntKind.wrap .i64 ((k:Int)-1)=(k:Int)-1:=Ar (by omega) (by omega)
  rw[aa1 h,Ao,aa0 (by omega),w1,Ad,aa0 (by omega),Ao,aa0 (by omega),aa3,aa3,ad8 (by omega),w3,Brg,Int.one_mul]
  generalize 2 ^ k=z at *
  rw[Ar (n:=(z:Int)) (by omega) (by omega),Ar (n:=q.getD i 0+(z:Int)) (by omega) (by omega),Bsd fun j h1 h2=>by omega]
theorem Cjj{a b q:List Int}{again8:Clo}{B M R β i k:Nat}(hb:b=dg B)(hM:M=b.length+1)(yn:b.length≤990)(hR:R<B)(hβ:β≤1)(hi:i<q.length)(hq:0≤q.getD i 0∧q.getD i 0≤65536)(hk:k≤15) :
  Ac _ _ (fun aa x=>Ail Ac En Cv Do again8 aa x.1 x.2.1 x.2.2.1 x.2.2.2.1 x.2.2.2.2.1 x.2.2.2.2.2.1 x.2.2.2.2.2.2.1 x.2.2.2.2.2.2.2.1) (a,b,q,lo M R,(i:Int),(k:Int),(β:Int),(0:Int),()) =
   if 2*R+β<B then again8 (a,b,q,lo M (2*R+β),(i:Int),(k:Int)-1,()) else
    again8 (a,b,q.set i (q.getD i 0+((2 ^ k:Nat):Int)),lo M (2*R+β-B),(i:Int),(k:Int)-1,()):=by
 have hB0:B / 65536 ^ b.length=0:=by rw[hb];exact Du.1 (ab4 _)
 have yq:B<65536 ^ b.length:=(ag2 (ah0 (by omega))).1 hB0
 have yr:2*R+β<65536 ^ M:=by
  rw[hM,ae6];omega
 have hR2:(2*R+β) / 65536 ^ M=0:=af0 yr
 refine Ai (I:=fun y=>∃ j over:Nat,j≤M∧over=(2*(R % 65536 ^ j)+β) / 65536 ^ j∧over≤1∧y=(a,b,q,mix M j (2*R+β) R,(i:Int),(k:Int),(over:Int),(j:Int),()))
  (m:=fun y=>((M:Int)-y.2.2.2.2.2.2.2.1).toNat) (g:=fun _=>if 2*R+β<B then again8 (a,b,q,lo M (2*R+β),(i:Int),(k:Int)-1,()) else
    again8 (a,b,q.set i (q.getD i 0+((2 ^ k:Nat):Int)),lo M (2*R+β-B),(i:Int),(k:Int)-1,())) ?_
  ⟨0,β,by omega,by rw[ah2,at9,al6];omega,hβ,by rw[Cf5 M (2*R+β) R];rfl⟩ (by rw[Au];simp only;omega)
 rintro y aa ⟨j,over,hj,nh,ho1,rfl⟩ hag
 simp only at hag ⊢
 unfold Ail
 rw[Am,Ad,Bfg]
 by_cases h:(j:Int)<(M:Int)
 ·have wj:IntKind.wrap .i64 ((j:Int)+1)=((j+1:Nat):Int):=by rw[Ar (by omega) (by omega)];omega
  rw[aa0 h,Ao,aa0 (by omega),Ao,aa0 (by omega),aa3,Cb2 (by omega),aa1 (by omega),wj]
  -- the az7
  have hW:0<65536 ^ j:=ah0 (by omega)
  have e1:R % 65536 ^ (j+1)=R % 65536 ^ j+dgt R j*65536 ^ j:=by
   rw[ae6,au0,af9 (65536 ^ j)]
  have e2:(2*(R % 65536 ^ (j+1))+β) / 65536 ^ j=over+2*dgt R j:=by
   rw[e1,show 2*(R % 65536 ^ j+dgt R j*65536 ^ j)+β=(2*(R % 65536 ^ j)+β)+(2*dgt R j)*65536 ^ j by rw[ap6,aj4];omega,Nat.add_mul_div_right _ _ hW,nh]
  have e3:(2*(R % 65536 ^ (j+1))+β) / 65536 ^ (j+1)=(over+2*dgt R j) / 65536:=by
   rw[ae6,← ae2,← ae6,e2]
  have e4:dgt (2*R+β) j=(over+2*dgt R j) % 65536:=by
   rw[← e2]
   unfold dgt
   have:2*R+β=(2*(R % 65536 ^ (j+1))+β)+(2*(R / 65536 ^ (j+1))*65536)*65536 ^ j:=by
    have:=Nat.div_add_mod R (65536 ^ (j+1))
    have e:2*(R / 65536 ^ (j+1))*65536*65536 ^ j=2*(65536 ^ (j+1)*(R / 65536 ^ (j+1))):=by
     rw[ae6]
     generalize R / (65536 ^ j*65536)=r
     generalize 65536 ^ j=w
     rw[aj4 2 r 65536,aj4 2,af9 (w*65536) r,aj4 r,af9 65536 w]
    omega
   conv=>lhs;rw[this]
   rw[Nat.add_mul_div_right _ _ hW,Nat.add_mul_mod_self_right]
  have hdR:dgt R j≤65535:=by unfold dgt;omega
  have dw:=hag (a,b,q,mix M (j+1) (2*R+β) R,(i:Int),(k:Int),(((over+2*dgt R j) / 65536:Nat):Int),((j+1:Nat):Int),())
   ⟨j+1,(over+2*dgt R j) / 65536,by omega,e3.symm,by omega,rfl⟩ (by simp only;omega)
  rw[← Bkx (n:=M) (p:=j) (X:=2*R+β) (X':=2*R+β) (Y:=R) (v:=(over+2*dgt R j) % 65536) (by omega) (fun _ _=>rfl) e4.symm] at dw
  clear hag e1 e2 e3 e4 nh
  generalize dgt R j=d at *
  have w1:IntKind.wrap .i64 ((2:Int)*(d:Int))=((2*d:Nat):Int):=by rw[Ar (by omega) (by omega)];omega
  have w2:IntKind.wrap .i64 ((over:Int)+((2*d:Nat):Int))=((over+2*d:Nat):Int):=by rw[Ar (by omega) (by omega)];omega
  have w4:Int.fdiv ((over+2*d:Nat):Int) 65536=(((over+2*d) / 65536:Nat):Int):=by rw[ai1 _ (by omega)];omega
  have w5:IntKind.wrap .i64 (((over+2*d) % 65536:Nat):Int)=(((over+2*d) % 65536:Nat):Int):=Ar (by omega) (by omega)
  rw[w1,w2,Aot (n:=over+2*d) (by omega),w4,w5]
  exact dw
 ·obtain rfl:j=M:=by omega
  clear hag
  have w3:IntKind.wrap .i64 ((k:Int)-1)=(k:Int)-1:=Ar (by omega) (by omega)
  have db:(dg (2*R+β)).length≤j:=Du.2 hR2
  rw[aa1 h,Bsd fun j' h1 h2=>by omega,Aru (by omega) hR2,Aa]
  dsimp only
  rw[Ang hR2,hb,Atu (by omega) (by rw[← hb];omega),Aa]
  dsimp only
  unfold Agg
  rw[Ad]
  by_cases c1:2*R+β<B
  ·rw[aa0 c1,aa0 c1,aa1 (by omega),w3]
  ·rw[aa1 c1,aa1 c1,aa0 (by split<;>omega),Aa]
   dsimp only
   rw[Ang hR2,Lp (D:=2*R+β-B) (by omega) (by omega),Aa]
   dsimp only
   exact Chb (by omega) hi hq hk (by
    refine Du.2 (af0 ?_)
    omega)
theorem Cia(n i A:Nat):(hiD n (i+1) A).set i 0=hiD n (i+1) A:=by
 refine al4 (by simp) fun k h1 h2=>?_
 rw[as4]
 by_cases hk:i=k
 ·subst hk
  simp[hiD]
  intro h;omega
 ·rw[aa1 hk]
theorem Cmu{D k:Nat}(hk:k≤15):D % 65536 / 2 ^ k % 2=D / 2 ^ k % 2:=by
 have e:(65536:Nat)=2 ^ k*2 ^ (16-k):=by rw[← al5,show k+(16-k)=16 by omega]
 rw[e,Nat.mod_mul_right_div_self,Nat.mod_mod_of_dvd]
 exact⟨2 ^ (15-k),by rw[← Nat.pow_succ',show (15-k).succ=16-k by omega]⟩
theorem Ccs{a b:List Int}{again2:((List Int)×(List Int)×(List Int)×(List Int)×Int×Unit)→Option (((List Int)×(List Int)×Unit)×Unit×Unit×Unit)}{A B M n i:Nat}
  (ha:a=dg A) (hb:b=dg B) (hM:M=b.length+1) (hn:n=a.length) (yn:b.length≤990) (js:a.length≤990) (hB:0<B) (hi:i<n) :
  Ac _ _ (fun aa x=>Ais Ac En Cv Do again2 aa x.1 x.2.1 x.2.2.1 x.2.2.2.1 x.2.2.2.2.1 x.2.2.2.2.2.1) (a,b,hiD n (i+1) (A / B),lo M (A / 65536 ^ (i+1) % B),(i:Int),(15:Int),()) =
   again2 (a,b,hiD n i (A / B),lo M (A / 65536 ^ i % B),(i:Int)-1,()):=by
 have hD1:A / 65536 ^ (i+1)=A / 65536 ^ i / 2 ^ 16:=by rw[Il]
 have hQ:A / B / 65536 ^ i % 65536=A / 65536 ^ i / B % 65536:=by rw[ae2,af9,← ae2]
 have cx:=Can (n:=n) (i:=i) (A:=A / B) hi
 rw[hQ] at cx
 generalize hD:A / 65536 ^ i=D at *
 have yl:=Cia n i (A / B)
 have we:(hiD n (i+1) (A / B)).length=n:=Cb4 ..
 generalize hiD n (i+1) (A / B)=q at *
 rw[hD1]
 refine Ai (I:=fun y=>∃ k t:Nat,k≤16∧D / 2 ^ k / B=D / 2 ^ 16 / B*2 ^ (16-k)+t∧t<2 ^ (16-k)∧y=(a,b,q.set i ((t*2 ^ k:Nat):Int),lo M (D / 2 ^ k % B),(i:Int),(k:Int)-1,()))
  (m:=fun y=>(y.2.2.2.2.2.1+1).toNat) (g:=fun _=>again2 (a,b,hiD n i (A / B),lo M (D % B),(i:Int)-1,())) ?_
  ⟨16,0,by omega,by rw[ak2,ah2,at8,af6],by rw[ak2,ah2];omega,by rw[al9,show ((0:Nat):Int)=0 from rfl,yl];rfl⟩ (by rw[Au];simp only;omega)
 rintro y aa ⟨k,t,hk,ht,htl,rfl⟩ hag
 simp only at hag ⊢
 unfold Ais
 rw[Ad]
 cases k with
 | zero =>
  have wi:IntKind.wrap .i64 ((i:Int)-1)=(i:Int)-1:=Ar (by omega) (by omega)
  rw[aa1 (by omega),wi]
  rw[ah2,al6] at ht ⊢
  have htv:t=D / B % 65536:=by
   rw[ak1] at ht htl
   generalize D / B=x at *
   generalize D / 2 ^ 16 / B=y at *
   have:(2:Nat) ^ 16=65536:=rfl
   omega
  rw[at8,htv,cx]
 | succ k =>
  have yt:k≤15:=by omega
  have xv:(((k+1:Nat):Int)-1)=(k:Int):=by omega
  have w1:IntKind.wrap .u64 (k:Int)=(k:Int):=Gt (by omega) (by omega)
  have wd:a.getD i 0=((D % 65536:Nat):Int):=by rw[ha,Abo,hD]
  have hp:=Bvl (show k≤16 by omega)
  have hp1:0<2 ^ k:=ah0 (by omega)
  have yu:IntKind.wrap .i64 (((BitVec.toNat ((BitVec.ofInt (64:Nat) (Int.fdiv ((D % 65536:Nat):Int) ((2:Int) ^ k))) &&& (BitVec.ofInt (64:Nat) (1:Int)))):Nat):Int)=((D / 2 ^ k % 2:Nat):Int):=by
   rw[Brg,d32,Csg (by
    refine ai6 (Nat.div_le_self _ _) ?_
    omega),Cmu yt]
   generalize D / 2 ^ k=x
   exact Ar (by omega) (by omega)
  rw[xv,aa0 (by omega),Ao,aa0 (by omega),w1,Ad,aa0 (by omega),aa3,aa3,ad8 (by omega),wd,yu]
  have hN:D / 2 ^ (k+1)=D / 2 ^ k / 2:=by rw[ae6,ae2]
  rw[hN] at ht ⊢
  obtain⟨s1,s2,s3⟩:=Ce3 (N:=D / 2 ^ k) hB
  have ar:D / 2 ^ k / 2 % B<B:=ai3 _ hB
  have hβ:D / 2 ^ k % 2≤1:=by omega
  have ph:(2:Nat) ^ (16-k)=2*2 ^ (16-(k+1)):=by rw[← Nat.pow_succ',show (16-(k+1)).succ=16-k by omega]
  have hgq:(q.set i ((t*2 ^ (k+1):Nat):Int)).getD i 0=((t*2 ^ (k+1):Nat):Int):=by
   rw[aa2,List.getElem?_set_self (by omega)];rfl
  have htb:t*2 ^ (k+1)≤65536:=by
   have:t*2 ^ (k+1)≤2 ^ (16-(k+1))*2 ^ (k+1):=ac6 _ (by omega)
   rw[← al5,show 16-(k+1)+(k+1)=16 by omega] at this
   exact this
  have ax5:=fun (h:2*(D / 2 ^ k / 2 % B)+D / 2 ^ k % 2<B)=>hag (a,b,q.set i ((2*t*2 ^ k:Nat):Int),lo M (D / 2 ^ k % B),(i:Int),(k:Int)-1,()) ⟨k,2*t,by omega,by
    rw[(s2 h).2,ht,ph]
    generalize D / 2 ^ 16 / B=x
    generalize 2 ^ (16-(k+1))=y
    rw[ap6,← aj4,af9 2 x,aj4 x 2 y],by omega,rfl⟩ (by simp only;omega)
  have ax6:=fun (h:B≤2*(D / 2 ^ k / 2 % B)+D / 2 ^ k % 2)=>hag (a,b,q.set i (((2*t+1)*2 ^ k:Nat):Int),lo M (D / 2 ^ k % B),(i:Int),(k:Int)-1,()) ⟨k,2*t+1,by omega,by
    rw[(s3 h).2,ht,ph]
    generalize D / 2 ^ 16 / B=x
    generalize 2 ^ (16-(k+1))=y
    rw[ap6,← aj4,af9 2 x,aj4 x 2 y]
    omega,by omega,rfl⟩ (by simp only;omega)
  clear hag
  have wu:t*2 ^ (k+1)=2*t*2 ^ k:=by rw[ae6,af9 (2 ^ k) 2,← aj4,af9 t 2]
  rw[Cjj hb hM yn ar hβ (by rw[ae1];omega) (by rw[hgq];omega) yt,hgq,wu,List.set_set]
  generalize D / 2 ^ k=N at *
  by_cases c:2*(N / 2 % B)+N % 2<B
  ·rw[aa0 c,← (s2 c).1]
   exact ax5 c
  ·have c':B≤2*(N / 2 % B)+N % 2:=by omega
   rw[aa1 c,← (s3 c').1]
   have e:((2*t*2 ^ k:Nat):Int)+((2 ^ k:Nat):Int)=(((2*t+1)*2 ^ k:Nat):Int):=by
    rw[ae4,ap4,ab0]
   rw[e]
   exact ax6 c'
theorem Awb{A B:Nat}(hA:(dg A).length≤990)(hBl:(dg B).length≤990)(hB:0<B):Dq (dg A,dg B,())=some ((dg (A / B),dg (A % B),()),(),(),()):=by
 have hA0:A / 65536 ^ (dg A).length=0:=Du.1 (ab4 _)
 have hB0:B / 65536 ^ (dg B).length=0:=Du.1 (ab4 _)
 unfold Dq Awr
 simp only[Am]
 rw[Ad]
 by_cases h1:(((dg B).length:Nat):Int)=1
 ·have ar:B<65536:=by
   have:=(ag2 (ah0 (by omega))).1 hB0
   rw[show (dg B).length=1 by omega,Nat.pow_one] at this
   exact this
  have hg:List.getD (dg B) 0 0=(B:Int):=by rw[Abo,ah2,al6,ac8 ar]
  rw[aa0 h1,Ao,aa0 (by omega),hg,Chs (by omega) hB ar,Aa]
 ·rw[aa1 h1]
  have wv:IntKind.wrap .i64 ((((dg B).length:Nat):Int)+1)=(((dg B).length+1:Nat):Int):=by rw[Ar (by omega) (by omega)];omega
  have wn:IntKind.wrap .i64 ((((dg A).length:Nat):Int)-1)=(((dg A).length:Nat):Int)-1:=Ar (by omega) (by omega)
  rw[wv,wn]
  generalize ha:dg A=a at *
  generalize hb:dg B=b at *
  rw[aa7 (show (0:Int)≤(a.length:Int) by omega),aa7 (ap5 _),aa7 (show (0:Int)≤((b.length+1:Nat):Int) by omega),aa7 (ap5 _),aa3,aa3]
  simp only[ak7,ao1]
  rw[Aok (by omega),Aok (by omega)]
  have yq:B<65536 ^ (b.length+1):=by
   have:=(ag2 (ah0 (by omega))).1 hB0
   rw[ae6];omega
  refine Ai (I:=fun y=>∃ j:Nat,j≤a.length∧y=(a,b,hiD a.length j (A / B),lo (b.length+1) (A / 65536 ^ j % B),(j:Int)-1,()))
   (m:=fun y=>(y.2.2.2.2.1+1).toNat) (g:=fun _=>some ((dg (A / B),dg (A % B),()),(),(),())) ?_
   ⟨a.length,ab4 _,by rw[Cak,hA0,Nat.zero_mod,Cag]⟩ (by rw[Au];simp only;omega)
  rintro y aa ⟨j,hj,rfl⟩ hag
  simp only at hag ⊢
  unfold Aue
  rw[Ad]
  cases j with
  | zero =>
   have hq:A / B / 65536 ^ a.length=0:=by
    rw[ae2,af9,← ae2,hA0,Nat.zero_div]
   have hr:A % B / 65536 ^ (b.length+1)=0:=af0 (Nat.lt_trans (ai3 _ hB) yq)
   rw[aa1 (by omega),Bv2,ah2,al6,Aru (by omega) hq,Aa]
   dsimp only
   rw[Aru (by omega) hr,Aa]
   dsimp only
   rw[Ang hq,Ang hr]
  | succ i =>
   have hii:(((i+1:Nat):Int)-1)=(i:Int):=by omega
   rw[hii,aa0 (by omega),Ccs ha.symm hb.symm rfl rfl hBl hA hB (by omega)]
   exact hag _ ⟨i,by omega,rfl⟩ (by simp only;omega)
theorem Ci{ω δ:Type}{round:(δ→Option ω)→δ→Option ω}(I:δ→Prop)(m:δ→Nat)(P:Option ω→Prop)
  (h:∀ x (aa:δ→Option ω),I x→(∀ y,I y→m y<m x→P (aa y))→P (round aa x)) {x:δ} (hx:I x) (hm:m x<Bo4):P (Ac ω δ round x):=by
 have key:∀ n x,I x→m x<n→P (Bb8 round n x):=by
  intro n
  induction n with
  | zero=>intro x _ hm;omega
  | succ n ih =>
   intro x hx hm
   rw[Axa]
   exact h x _ hx fun y hy ar=>ih y hy (by omega)
 rw[Arw]
 exact key Bo4 x hx hm
theorem Bhn{n:Nat}(hn:Al n):G8 (At n,())=some ((if n<18446744073709551616 then ((n:Int),true,()) else ((0:Int),false,())),(),()):=by
 unfold Al at hn
 have e:∀ q,q<4→List.getD (At n) q 0=((n / 18446744073709551616 ^ q % 18446744073709551616:Nat):Int):=fun q hq=>Aus hn hq
 have e0:=e 0 (by omega)
 have e1:=e 1 (by omega)
 have e2:=e 2 (by omega)
 have e3:=e 3 (by omega)
 have p0:(18446744073709551616:Nat) ^ 0=1:=rfl
 have p1:(18446744073709551616:Nat) ^ 1=18446744073709551616:=by decide
 have p2:(18446744073709551616:Nat) ^ 2=340282366920938463463374607431768211456:=by decide
 have p3:(18446744073709551616:Nat) ^ 3=6277101735386680763835789423207666416102355444464034512896:=by decide
 rw[p0] at e0;rw[p1] at e1;rw[p2] at e2;rw[p3] at e3
 unfold G8 Ai8
 try dsimp only
 rw[e0,e1,e2,e3]
 clear e e0 e1 e2 e3
 rw[An,Ad,An,Ad,An,Ad]
 by_cases h:n<18446744073709551616
 ·rw[aa0 (by omega),aa0 (by omega),aa0 (by omega),aa0 h,al6,ac8 h]
 ·rw[aa1 h]
  by_cases h1:((n / 18446744073709551616 % 18446744073709551616:Nat):Int)=0
  ·rw[aa0 h1]
   by_cases h2:((n / 340282366920938463463374607431768211456 % 18446744073709551616:Nat):Int)=0
   ·rw[aa0 h2,aa1 (by omega)]
   ·rw[aa1 h2]
  ·rw[aa1 h1]
theorem Bd7(n lo hi:Int):Ag5 (n,lo,hi,())=some ((decide (lo≤n∧n≤hi),()),(),(),(),()):=by
 unfold Ag5 Avx
 try dsimp only
 rw[Ad]
 by_cases h:n≥lo
 ·rw[aa0 h,show decide (lo≤n∧n≤hi)=decide (n≤hi) by rw[aj5];omega]
 ·rw[aa1 h,ab5 (by omega)]
theorem Bcv{n:Nat}{lo:Int}(hn:Al n):Re (At n,lo,())=some ((decide (n<18446744073709551616∧lo≤(n:Int)),()),(),(),()):=by
 unfold Re Adb
 try dsimp only
 rw[Bhn hn,Aa]
 by_cases h:n<18446744073709551616
 ·rw[aa0 h]
  dsimp only
  rw[Ap,show decide (n<18446744073709551616∧lo≤(n:Int))=decide ((n:Int)≥lo) by rw[aj5];omega]
 ·rw[aa1 h]
  dsimp only
  rw[Bn,ab5 (by omega)]
abbrev J9:=Int×(Int×Int×List Int×Int×List Int×Int×List Int×Int×Int×Int×Int×Unit)
inductive Uk:J9→Prop
 | mk {sp to bi gl bb eu pi mi ma:Int} {fe ic rw:Nat} (h1:B2 sp) (h2:B2 to) (h3:B2 bi) (h4:Al fe) (h5:B2 gl) (h6:Al ic) (h7:B2 bb) (h8:Al rw) (h9:B2 eu) (bq:B2 pi) (pc:B2 mi) (u9:B2 ma) :
  Uk (sp,to,bi,At fe,gl,At ic,bb,At rw,eu,pi,mi,ma,())
def PV(p:J9):Prop :=
 ((1≤p.1∧p.1≤1099511627776)∧(0≤p.2.1∧p.2.1≤1048576)∧(1≤p.2.2.1∧p.2.2.1≤1048576)) ∧
 (D8 p.2.2.2.1<18446744073709551616∧1≤((D8 p.2.2.2.1:Nat):Int))∧(1≤p.2.2.2.2.1∧p.2.2.2.2.1≤1099511627776) ∧
 (D8 p.2.2.2.2.2.1<18446744073709551616∧0≤((D8 p.2.2.2.2.2.1:Nat):Int))∧(0≤p.2.2.2.2.2.2.1∧p.2.2.2.2.2.2.1≤10000) ∧
 (D8 p.2.2.2.2.2.2.2.1<18446744073709551616∧0≤((D8 p.2.2.2.2.2.2.2.1:Nat):Int)) ∧
 (1≤p.2.2.2.2.2.2.2.2.1∧p.2.2.2.2.2.2.2.2.1≤1099511627776)∧(1≤p.2.2.2.2.2.2.2.2.2.1∧p.2.2.2.2.2.2.2.2.2.1≤1048576) ∧
 (0≤p.2.2.2.2.2.2.2.2.2.2.1∧p.2.2.2.2.2.2.2.2.2.2.1≤1048576)∧(p.2.2.2.2.2.2.2.2.2.2.1≤p.2.2.2.2.2.2.2.2.2.2.2.1∧p.2.2.2.2.2.2.2.2.2.2.2.1≤16777216)
instance(p:J9):Decidable (PV p):=by unfold PV;infer_instance
def fi:List Bool→Int→Int
 | [],_=>0
 | b::l,i=>if b then fi l (i+1) else i+1
theorem Ca9:∀ (l:List Bool) {i:Int},0≤i→(fi l i=0↔∀ b∈l,b=true)
 | [],i,_=>by simp[fi]
 | b::l,i,h=>by
  unfold fi
  cases b with
  | true=>rw[aa0 rfl,Ca9 l (by omega)];simp
  | false=>rw[aa1 (by decide)];simp;omega
theorem Ciz(l:List Bool)(hl:l.length=12):Ac _ _ (fun aa x=>N6 aa x.1 x.2.1) (l,(0:Int),())=some ((fi l 0,()),(),()):=by
 refine Ai (I:=fun x=>∃ i:Nat,i≤12∧fi l 0=fi (l.drop i) (i:Int)∧x=(l,(i:Int),())) (m:=fun x=>((12:Int)-x.2.1).toNat) (g:=fun _=>some ((fi l 0,()),(),())) ?_
  ⟨0,by omega,rfl,rfl⟩ (by rw[Au];simp only;omega)
 rintro x aa ⟨i,hi,hf,rfl⟩ hag
 simp only at hag ⊢
 unfold N6
 simp only[Am]
 have hw:IntKind.wrap .i64 ((i:Int)+1)=(i:Int)+1:=Ar (by omega) (by omega)
 rw[Ad,hw]
 by_cases h:(i:Int)<12
 ·have hd:l.drop i=l.getD i false::l.drop (i+1):=by
   rw[ak4 (by omega),aa2,aa6 (by omega)];rfl
  rw[aa0 h,Ao,aa0 (by omega),aa3]
  rw[hd] at hf
  unfold fi at hf
  cases hb:l.getD i false with
  | true =>
   rw[hb,aa0 rfl] at hf
   rw[An,Ap]
   refine hag _ ⟨i+1,by omega,?_,by rw[ab0];rfl⟩ (by simp only;omega)
   rw[ab0]
   cases l with
   | nil=>simp at hl
   | cons _ _=>exact hf
  | false =>
   rw[hb,aa1 (by decide)] at hf
   rw[An,Bn]
   have:fi l 0=(i:Int)+1:=by
    cases l with
    | nil=>simp at hl
    | cons _ _=>exact hf
   rw[this]
 ·rw[aa1 h]
  have:fi l 0=0:=by
   rw[hf,ak3 (by omega)];rfl
  rw[this]
theorem Ad1{p:J9}(h:Uk p):C9 (p,())=some ((decide (PV p),()),(),()):=by
 obtain⟨h1,h2,h3,h4,h5,h6,h7,h8,h9,bq,pc,u9⟩:=h
 rename_i sp to bi gl bb eu pi mi ma fe ic ep
 unfold C9 Aja
 try dsimp only
 unfold Ng Qf
 try dsimp only
 rw[Bd7,Aa,Bd7,Aa,Bd7,Aa,Bcv h4,Aa,Bd7,Aa,Bcv h6,Aa,Bd7,Aa,Bcv h8,Aa,Bd7,Aa,Bd7,Aa,Bd7,Aa,Bd7,Aa]
 dsimp only
 rw[Ciz _ rfl,Aa]
 dsimp only
 congr 4
 rw[Ca9 _ (ap5 _)]
 unfold PV
 simp only[List.forall_mem_cons,al8,false_imp_iff,implies_true,aq4,ac4,Bi,and_assoc]
theorem Bqi:Uk ((7000000:Int),(10:Int),(102:Int),[(100000000:Int),0,0,0],(32000000:Int),[(60000000:Int),0,0,0],(1000:Int),[(10:Int),0,0,0],(160000000:Int),(10:Int),(16:Int),(65536:Int),()):=by
 have e1:([(100000000:Int),0,0,0]:List Int)=At 100000000:=by decide
 have e2:([(60000000:Int),0,0,0]:List Int)=At 60000000:=by decide
 have e3:([(10:Int),0,0,0]:List Int)=At 10:=by decide
 rw[e1,e2,e3]
 exact .mk (by unfold B2;omega) (by unfold B2;omega) (by unfold B2;omega) (by unfold Al;omega) (by unfold B2;omega) (by unfold Al;omega) (by unfold B2;omega) (by unfold Al;omega) (by unfold B2;omega) (by unfold B2;omega) (by unfold B2;omega) (by unfold B2;omega)
abbrev Cj2:J9:=((0:Int),(0:Int),(0:Int),[(0:Int),0,0,0],(0:Int),[(0:Int),0,0,0],(0:Int),[(0:Int),0,0,0],(0:Int),(0:Int),(0:Int),(0:Int),())
theorem Cbl:Uk Cj2:=by
 have u0:B2 0:=⟨by omega,by omega⟩
 have b0:Al 0:=by unfold Al;omega
 have:=Uk.mk u0 u0 u0 b0 u0 b0 u0 b0 u0 u0 u0 u0
 rw[Bpg] at this
 exact this
def Cn9(l:List (List Int)):Prop:=l.length=12∧∀ i,i<12→∃ k:Nat,Al k∧l.getD i [(0:Int),0,0,0]=At k
theorem Am5{k:Nat}(h:Al k):B2 (List.getD (At k) 0 0):=by
 unfold Al at h
 have e:=Aus h (q:=0) (by omega)
 have p0:(18446744073709551616:Nat) ^ 0=1:=rfl
 rw[p0] at e
 rw[e]
 unfold B2
 omega
theorem Ccv(l:List (List Int))(h:Cn9 l) :
  ∃ q c,Ac _ _ (fun aa x=>Ag7 G8 C9 aa x.1 x.2.1 x.2.2.1) (Cj2,l,(0:Int),())=some ((q,c,()),(),(),(),())∧Uk q∧(c=0→PV q):=by
 refine Ci (I:=fun x=>∃ i:Nat,i≤12∧x=(Cj2,l,(i:Int),())) (m:=fun x=>((12:Int)-x.2.2.1).toNat)
  (P:=fun r=>∃ q c,r=some ((q,c,()),(),(),(),())∧Uk q∧(c=0→PV q)) ?_ ⟨0,by omega,rfl⟩ (by simp only[Au];omega)
 rintro x aa ⟨i,hi,rfl⟩ hag
 simp only at hag ⊢
 unfold Ag7
 rw[Ad]
 by_cases c:(i:Int)<12
 ·obtain⟨k,hk,e⟩:=h.2 i (by omega)
  rw[aa0 c,Ao,aa0 (by omega),aa3,e,Bhn hk,Aa,Ar (by omega) (by omega)]
  by_cases d:k<18446744073709551616
  ·rw[aa0 d]
   dsimp only
   rw[An,Ap]
   exact hag _ ⟨i+1,by omega,by rw[ab0];rfl⟩ (by simp only;omega)
  ·rw[aa1 d]
   dsimp only
   rw[An,Bn]
   exact⟨_,_,rfl,Cbl,fun h=>by cases h⟩
 ·rw[aa1 c]
  clear hag
  obtain⟨k0,b0,e0⟩:=h.2 0 (by omega)
  obtain⟨k1,b1,e1⟩:=h.2 1 (by omega)
  obtain⟨k2,b2,e2⟩:=h.2 2 (by omega)
  obtain⟨k3,b3,e3⟩:=h.2 3 (by omega)
  obtain⟨k4,b4,e4⟩:=h.2 4 (by omega)
  obtain⟨k5,b5,e5⟩:=h.2 5 (by omega)
  obtain⟨k6,b6,e6⟩:=h.2 6 (by omega)
  obtain⟨k7,b7,e7⟩:=h.2 7 (by omega)
  obtain⟨k8,b8,e8⟩:=h.2 8 (by omega)
  obtain⟨k9,b9,e9⟩:=h.2 9 (by omega)
  obtain⟨mc,b10,e10⟩:=h.2 10 (by omega)
  obtain⟨md,b11,e11⟩:=h.2 11 (by omega)
  rw[e0,e1,e2,e3,e4,e5,e6,e7,e8,e9,e10,e11]
  have hw:=Uk.mk (Am5 b0) (Am5 b1) (Am5 b2) b3 (Am5 b4) b5 (Am5 b6) b7 (Am5 b8) (Am5 b9) (Am5 b10) (Am5 b11)
  generalize hq:(((List.getD (At k0) 0 0),(List.getD (At k1) 0 0),(List.getD (At k2) 0 0),At k3,(List.getD (At k4) 0 0),At k5,(List.getD (At k6) 0 0),At k7,(List.getD (At k8) 0 0),(List.getD (At k9) 0 0),(List.getD (At mc) 0 0),(List.getD (At md) 0 0),()):J9)=q at *
  rw[Ad1 hw,Aa]
  dsimp only
  rw[An,Ad]
  by_cases d:PV q
  ·rw[aa0 d]
   exact⟨_,_,rfl,hw,fun _=>d⟩
  ·rw[aa1 d]
   exact⟨_,_,rfl,Cbl,fun h=>by cases h⟩
theorem Cin{p:J9}(h:Uk p)(hv:PV p)(key:Int){n:Nat}(hn:Al n)(hk:I64 key):∃ q c,Acj (p,key,At n,())=some ((q,c,()),(),(),(),())∧Uk q∧(c=0→PV q):=by
 unfold I64 at hk
 have aq:=Ad1 h
 unfold Acj Asf
 simp only[Am]
 rw[Ad]
 by_cases c1:key<1
 ·rw[aa0 c1];exact⟨_,_,rfl,Cbl,fun h=>by cases h⟩
 rw[aa1 c1,Ad]
 by_cases c2:key>12
 ·rw[aa0 c2];exact⟨_,_,rfl,Cbl,fun h=>by cases h⟩
 rw[aa1 c2,aq,Aa]
 dsimp only
 rw[aa7 hv,An,Ap]
 unfold Aje Aq6
 rw[Aa]
 dsimp only
 rw[Ar (by omega) (by omega),Ao,aa0 (by omega)]
 refine Ccv _ ⟨by rw[ae1];rfl,fun i hi=>?_⟩
 by_cases he:(key-1).toNat=i
 ·refine⟨n,hn,?_⟩
  rw[← he,aa2,List.getElem?_set_self (by show (key-1).toNat<12;omega)]
  rfl
 ·rw[aa2,List.getElem?_set_ne he,← aa2]
  obtain⟨h1,h2,h3,h4,h5,h6,h7,h8,h9,bq,pc,u9⟩:=h
  have sm:∀ {x:Int},B2 x→∃ k:Nat,Al k∧[x,(0:Int),(0:Int),(0:Int)]=At k:=fun {x} hx=>by
   unfold B2 at hx
   exact⟨x.toNat,by unfold Al;omega,Aai hx.1 hx.2⟩
  match i,hi with
  | 0,_=>exact sm h1
  | 1,_=>exact sm h2
  | 2,_=>exact sm h3
  | 3,_=>exact⟨_,h4,rfl⟩
  | 4,_=>exact sm h5
  | 5,_=>exact⟨_,h6,rfl⟩
  | 6,_=>exact sm h7
  | 7,_=>exact⟨_,h8,rfl⟩
  | 8,_=>exact sm h9
  | 9,_=>exact sm bq
  | 10,_=>exact sm pc
  | 11,_=>exact sm u9
theorem Apc{n:Nat}(h:n<115792089237316195423570985008687907853269984665640564039457584007913129639936):(dg n).length≤16:=Og.2 h
theorem Cb1{a b c:Int}(ha:B2 a)(hb:B2 b)(hc:B2 c):Ob (a,b,c,())=some ((((a.toNat-b.toNat*c.toNat:Nat):Int),()),(),(),(),()):=by
 unfold B2 at ha hb hc
 unfold Ob Ant
 try dsimp only
 have hm:b.toNat*c.toNat≤18446744073709551615*18446744073709551615:=ak6 (by omega) (by omega)
 rw[Ca ha.1 ha.2,Aa,Ca hb.1 hb.2,Aa,Ca hc.1 hc.2,Aa]
 dsimp only
 have l1:=Apc (n:=a.toNat) (by omega)
 have l2:=Apc (n:=b.toNat) (by omega)
 have l3:=Apc (n:=c.toNat) (by omega)
 have l4:=Apc (n:=b.toNat*c.toNat) (by omega)
 rw[Pp (by omega) (by omega),Aa]
 dsimp only
 generalize b.toNat*c.toNat=m at *
 rw[Atu (by omega) (by omega),Aa]
 dsimp only
 unfold Agg
 rw[Ad]
 by_cases h:a.toNat≤m
 ·have hq:(if a.toNat<m then (-1:Int) else if a.toNat>m then 1 else 0)≤0:=by
   by_cases h2:a.toNat<m
   ·rw[aa0 h2];omega
   ·rw[aa1 h2,aa1 (by omega)];omega
  rw[aa0 hq,show a.toNat-m=0 by omega]
  rfl
 ·rw[aa1 (by rw[aa1 (by omega),aa0 (by omega)];omega),Lp (A:=a.toNat) (B:=m) (D:=a.toNat-m) (by omega) (by omega),Aa]
  dsimp only
  rw[Uo (by omega),Aa]
  dsimp only
  have e:=Aus (n:=a.toNat-m) (q:=0) (by omega) (by omega)
  rw[ah2,al6,ac8 (by omega)] at e
  rw[e]
theorem Cgv{a b c:Int}(ha:B2 a)(hb:B2 b)(hc:B2 c):Wa (a,b,c,())=some ((((a.toNat-b.toNat*c.toNat:Nat):Int),()),(),(),(),()):=by
 unfold Wa Ai7
 try dsimp only
 rw[Cb1 ha hb hc,Aa]
theorem Cdr{a b c:Int}(ha:B2 a)(hb:B2 b)(hc:B2 c):Td (a,b,c,())=some ((((a.toNat-b.toNat*c.toNat:Nat):Int),()),(),(),(),()):=by
 unfold Td Afq
 try dsimp only
 rw[Cb1 ha hb hc,Aa]
theorem Ckk{a b:Int}(ha:B2 a)(hb:B2 b):Ab9 (a,b,())=some (((if a+b≤18446744073709551615 then a+b else 18446744073709551615),()),(),(),()):=by
 unfold B2 at ha hb
 unfold Ab9 Arg
 try dsimp only
 rw[Ca ha.1 ha.2,Aa,Ca hb.1 hb.2,Aa]
 dsimp only
 have l1:=Apc (n:=a.toNat) (by omega)
 have l2:=Apc (n:=b.toNat) (by omega)
 rw[Cy (by omega) (by omega),Aa]
 dsimp only
 rw[Uo (by omega),Aa]
 dsimp only
 rw[Bhn (by unfold Al;omega),Aa]
 by_cases h:a.toNat+b.toNat<18446744073709551616
 ·rw[aa0 h,aa0 (by omega)]
  dsimp only
  rw[An,Ap,show ((a.toNat+b.toNat:Nat):Int)=a+b by omega]
 ·rw[aa1 h,aa1 (by omega)]
  dsimp only
  rw[An,Bn]
theorem Bya(n:Nat):n<65536 ^ (dg n).length:=(ag2 (ah0 (by omega))).1 (Du.1 (ab4 _))
theorem Boo{n k:Nat}(h:n<65536 ^ k):(dg n).length≤k:=Du.2 (af0 h)
theorem Aow{a b:Nat}(h:a≤b):(dg a).length≤(dg b).length:=Boo (ai6 h (Bya b))
theorem Pg(a b:Nat):(dg (a*b)).length≤(dg a).length+(dg b).length :=
 Boo (by rw[al5];exact Nat.mul_lt_mul'' (Bya a) (Bya b))
theorem Aw5(a b:Nat):(dg (a / b)).length≤(dg a).length:=Aow (Nat.div_le_self _ _)
theorem Aq0(a b:Nat):(dg (a+b)).length≤max (dg a).length (dg b).length+1:=by
 refine Boo ?_
 have h1:a<65536 ^ max (dg a).length (dg b).length:=ae3 (Bya a) (ah6 (by omega) (Nat.le_max_left _ _))
 have h2:b<65536 ^ max (dg a).length (dg b).length:=ae3 (Bya b) (ah6 (by omega) (Nat.le_max_right _ _))
 rw[ae6]
 generalize 65536 ^ max (dg a).length (dg b).length=w at *
 omega
theorem Mz{n:Nat}(h:n<18446744073709551616):(dg n).length≤4:=Boo (by rw[show (65536:Nat) ^ 4=18446744073709551616 from rfl];exact h)
theorem Nf{n:Nat}(h:Al n):(dg n).length≤16:=Og.2 h
theorem Bki{n:Nat}(hn:Al n):List.getD (At n) 0 0=((n % 18446744073709551616:Nat):Int):=by
 have e:=Aus (n:=n) (q:=0) hn (by omega)
 rw[ah2,al6] at e
 exact e
theorem Cfg{n:Nat}(hn:Al n){b:Int}(hb:B2 b) :
  Z5 (At n,b,())=some ((if n*b.toNat / 10000<115792089237316195423570985008687907853269984665640564039457584007913129639936 then (At (n*b.toNat / 10000),(0:Int),()) else ([(0:Int),0,0,0],(4:Int),())),(),(),()):=by
 unfold B2 at hb
 have l1:=Nf hn
 have l2:=Mz (n:=b.toNat) (by omega)
 have l3:=Pg n b.toNat
 have l4:=Mz (n:=10000) (by omega)
 unfold Z5 Aoi
 try dsimp only
 rw[Cd hn,Aa,Ca hb.1 hb.2,Aa]
 dsimp only
 rw[Pp (by omega) (by omega),Aa,Ca (by omega) (by omega),Aa]
 dsimp only
 rw[show Int.toNat 10000=10000 from rfl,Awb (by omega) (by omega) (by omega),Aa]
 dsimp only
 rw[Zj,Aa]
def hb(i:Nat):Nat:=[52454210000,2622710000,262270000,39339000,7865800,1963950,586185,201665,76666,30000,10000].getD i 0
theorem Cn7:∀ {i:Nat},i≤10→hb i≤52454210000
 | 0,_|1,_|2,_|3,_|4,_|5,_|6,_|7,_|8,_|9,_|10,_=>by decide
 | n+11,h=>by omega
theorem Civ:∀ {i h x:Nat},i<10→x≤200000→h≤hb (i+1)→10000+h*x / ((i+1)*10000)≤hb i:=by
 intro i h x hi hx hh
 have hm:h*x≤hb (i+1)*200000:=ak6 hh hx
 have hd:h*x / ((i+1)*10000)≤hb (i+1)*200000 / ((i+1)*10000):=al7 hm
 refine af2 (Nat.add_le_add_left hd _) ?_
 clear hd hm hh
 match i,hi with
 | 0,_|1,_|2,_|3,_|4,_|5,_|6,_|7,_|8,_|9,_=>decide
theorem Cmx{x:Int}(h0:0≤x)(h1:x≤200000):∃ h:Nat,Agq (x,(10:Int),())=some (((h:Int),(0:Int),()),(),(),())∧10000≤h∧h≤52454210000:=by
 unfold Agq Avr
 try dsimp only
 rw[Ad,aa1 (by omega),Ad,aa1 (by omega),Ad,aa1 (by omega),Ca (by omega) (by omega),Aa]
 dsimp only
 refine Ci (I:=fun y=>∃ i h:Nat,i≤10∧10000≤h∧h≤hb i∧y=(x,dg h,(i:Int),())) (m:=fun y=>y.2.2.1.toNat)
  (P:=fun r=>∃ h:Nat,r=some (((h:Int),(0:Int),()),(),(),())∧10000≤h∧h≤52454210000) ?_ ⟨10,10000,by omega,by omega,by decide,rfl⟩ (by rw[Au];simp only;omega)
 rintro y aa ⟨i,h,hi,hh0,hh,rfl⟩ hag
 simp only at hag ⊢
 unfold Auq
 rw[Ad]
 have hhb:=Cn7 hi
 cases i with
 | zero =>
  rw[aa1 (by omega),Uo (by omega),Aa]
  dsimp only
  rw[Bki (by unfold Al;omega),ac8 (by omega)]
  exact⟨h,rfl,hh0,by omega⟩
 | succ i =>
  have hs:=Civ (i:=i) (h:=h) (x:=x.toNat) (by omega) (by omega) hh
  have l1:=Mz (n:=h) (by omega)
  have l2:=Mz (n:=x.toNat) (by omega)
  have l3:=Pg h x.toNat
  have l4:=Mz (n:=i+1) (by omega)
  have l5:=Mz (n:=10000) (by omega)
  have l6:=Pg (i+1) 10000
  have l7:=Aw5 (h*x.toNat) ((i+1)*10000)
  rw[aa0 (by omega),Ca h0 (by omega),Aa]
  dsimp only
  rw[Pp (by omega) (by omega),Aa]
  dsimp only
  rw[Gt (by omega) (by omega),Ca (by omega) (by omega),Aa]
  dsimp only
  rw[Ca (by omega) (by omega),Aa]
  dsimp only
  rw[show Int.toNat 10000=10000 from rfl,aa3,Pp (by omega) (by omega),Aa]
  dsimp only
  rw[Awb (by omega) (by omega) (by omega),Aa,Aa]
  dsimp only
  rw[Cy (by omega) (by omega),Aa,Ar (by omega) (by omega)]
  dsimp only
  exact hag _ ⟨i,10000+h*x.toNat / ((i+1)*10000),by omega,Nat.le_add_right _ _,hs,by rw[show ((i+1:Nat):Int)-1=(i:Int) by omega]⟩ (by simp only;omega)
theorem Bvg{n:Nat}(hn:n<18446744073709551616){x:Int}(h0:0≤x)(h1:x≤200000) :
  ∃ f:Nat,Rg (At n,x,(10:Int),())=some ((At f,(0:Int),()),(),(),(),())∧n≤f∧f<18446744073709551616*52454210000:=by
 obtain⟨h,e1,h2,h3⟩:=Cmx h0 h1
 have hm:n*h≤18446744073709551615*52454210000:=ak6 (by omega) h3
 have hm2:n*10000≤n*h:=ae8 _ h2
 unfold Rg Adc
 try dsimp only
 rw[e1,Aa]
 dsimp only
 rw[aa7 rfl,An,Ap,Cfg (by unfold Al;omega) (by unfold B2;omega),Aa,aa3]
 dsimp only
 generalize n*h=z at *
 rw[aa0 (by omega)]
 exact⟨z / 10000,rfl,by omega,by omega⟩
theorem Bvw{p:J9}(hp:Uk p){b:Int}(hb:B2 b) :
  (PV p→∃ x:Int,Ko (b,p,())=some ((x,(0:Int),()),(),(),())∧0≤x∧x≤200000)∧(¬ PV p→Ko (b,p,())=some (((0:Int),(15:Int),()),(),(),())):=by
 unfold Ko Aau
 try dsimp only
 rw[Ad1 hp,Aa]
 dsimp only
 rw[An,Ad]
 refine⟨fun hv=>?_,fun hv=>by rw[aa1 hv]⟩
 rw[aa0 hv]
 have hbi:=hv.1.2.2
 have nv:=hv.1.1
 cases hp with
 | mk w1 w2 w3 w4 w5 w6 w7 w8 w9 pj pk pm =>
 dsimp only at hbi nv ⊢
 rename_i sp to bi gl bb eu pi mi ma fe ic ep
 rw[Cdr hb w1 w2,Aa]
 dsimp only
 unfold B2 at hb w1 w2
 have hx:b.toNat-sp.toNat*to.toNat<18446744073709551616:=ai6 (Nat.sub_le _ _) (by omega)
 generalize b.toNat-sp.toNat*to.toNat=x at *
 have l1:=Mz hx
 have l2:=Mz (n:=10000) (by omega)
 have l3:=Pg x 10000
 have l4:=Mz (n:=bi.toNat) (by omega)
 have l5:=Mz (n:=sp.toNat) (by omega)
 have l6:=Pg bi.toNat sp.toNat
 have l7:=Aw5 (x*10000) (bi.toNat*sp.toNat)
 have l8:=Mz (n:=200000) (by omega)
 have dr:0<bi.toNat*sp.toNat:=Nat.mul_pos (by omega) (by omega)
 rw[Ca (by omega) (by omega),Aa,aa3]
 dsimp only
 rw[Ca (by omega) (by omega),Aa,show Int.toNat 10000=10000 from rfl]
 dsimp only
 rw[Pp (by omega) (by omega),Aa]
 dsimp only
 rw[Ca (by omega) (by omega),Aa,Ca (by omega) (by omega),Aa]
 dsimp only
 rw[Pp (by omega) (by omega),Aa]
 dsimp only
 rw[Awb (by omega) (by omega) dr,Aa]
 dsimp only
 rw[Ca (by omega) (by omega),Aa,show Int.toNat 200000=200000 from rfl]
 dsimp only
 rw[Bg0 (by omega) (by omega),Aa]
 dsimp only
 have cf:min (x*10000 / (bi.toNat*sp.toNat)) 200000≤200000:=as6 _ _
 generalize min (x*10000 / (bi.toNat*sp.toNat)) 200000=z at *
 rw[Uo (by omega),Aa]
 dsimp only
 rw[Bki (by unfold Al;omega),ac8 (by omega)]
 exact⟨_,rfl,by omega,by omega⟩
theorem Chj{p:J9}(hp:Uk p){b:Int}(hb:B2 b) :
  (PV p→∃ f:Nat,Nn (b,p,())=some ((At f,(0:Int),()),(),(),())∧1≤f∧f<18446744073709551616*52454210000) ∧
  (¬ PV p→Nn (b,p,())=some (([(0:Int),0,0,0],(15:Int),()),(),(),())):=by
 obtain⟨e1,e2⟩:=Bvw hp hb
 unfold Nn Aq1
 try dsimp only
 refine⟨fun hv=>?_,fun hv=>?_⟩
 ·obtain⟨x,e,h0,h1⟩:=e1 hv
  have hm:=hv.2.1
  rw[e,Aa]
  dsimp only
  rw[aa7 rfl,An,Ap]
  cases hp with
  | mk w1 w2 w3 w4 w5 w6 w7 w8 w9 pj pk pm =>
  dsimp only at hm ⊢
  rename_i fe ic ep
  rw[Bi] at hm
  obtain⟨f,e3,f1,f2⟩:=Bvg hm.1 h0 h1
  rw[e3,Aa]
  exact⟨f,rfl,by omega,f2⟩
 ·rw[e2 hv,Aa]
  dsimp only
  rw[ab5 (by omega),An,Bn]
theorem Kx(x:Int):B2 (IntKind.wrap .u64 x):=by unfold B2;rw[am8];omega
abbrev Ae5:=Int×(Int×Int×List Int×Unit)
inductive Bet:Ae5→Prop
 | mk {n t g:Int} {f:Nat} (h1:B2 n) (h2:B2 t) (h3:B2 g) (h4:Al f):Bet (n,t,g,At f,())
inductive Bpb:Ae5→Prop
 | mk {n t g:Int} {f:Nat} (h1:B2 n) (h2:B2 t) (h3:B2 g) (h4:f<340282366920938463463374607431768211456):Bpb (n,t,g,At f,())
theorem Bpb.w{b:Ae5}(h:Bpb b):Bet b:=by
 cases h with
 | mk h1 h2 h3 h4=>exact .mk h1 h2 h3 (by unfold Al;omega)
abbrev z4:List Int:=[(0:Int),0,0,0]
abbrev Cje:Ae5:=((0:Int),(0:Int),(0:Int),z4,())
theorem Coe:Bet Cje:=Bet.mk (f:=0) ⟨by omega,by omega⟩ ⟨by omega,by omega⟩ ⟨by omega,by omega⟩ (by unfold Al;omega)
theorem Bvc{p:J9}(hp:Uk p)(hv:PV p):∃ f:Nat,Rd (p,())=some ((((1:Int),(0:Int),(0:Int),At f,()),(0:Int),()),(),())∧1≤f∧f<340282366920938463463374607431768211456:=by
 obtain⟨f,e,h1,h2⟩:=(Chj hp (b:=0) ⟨by omega,by omega⟩).1 hv
 unfold Rd Ac1
 try dsimp only
 rw[e,Aa]
 dsimp only
 rw[aa7 rfl,An,Ap]
 exact⟨f,rfl,h1,by omega⟩
theorem Cfm{b:Ae5}(hb:Bet b){s g:Int}(hs:B2 s)(hg:B2 g){p:J9}(hp:Uk p) :
  ∃ (k:Ae5) (c:Int),Z3 (b,s,g,p,())=some ((k,c,()),(),(),(),(),())∧Bet k∧I64 c∧(c=0→0<D8 k.2.2.2.1∧b.2.1≤k.2.1∧Bpb k):=by
 obtain⟨e1,e2⟩:=Chj hp hg
 unfold Z3 Aod
 simp only[Am]
 have z:∀ c:Int,I64 c→c≠0→∃ (k:Ae5) (c':Int),some (((Cje,c,()),(),(),(),(),()))=some (((k,c',()),(),(),(),(),()))∧Bet k∧I64 c'∧(c'=0→0<D8 k.2.2.2.1∧b.2.1≤k.2.1∧Bpb k) :=
  fun c h1 h2=>⟨Cje,c,rfl,Coe,h1,fun h=>absurd h h2⟩
 rw[Ad]
 by_cases c1:s<1
 ·rw[aa0 c1];exact z 2 ⟨by omega,by omega⟩ (by omega)
 rw[aa1 c1,Ad]
 by_cases c2:s>1048576
 ·rw[aa0 c2];exact z 2 ⟨by omega,by omega⟩ (by omega)
 rw[aa1 c2]
 by_cases hv:PV p
 ·obtain⟨f,e,h1,h2⟩:=e1 hv
  rw[e,Aa]
  dsimp only
  rw[aa7 rfl,An,Ap,Ad]
  cases hb with
  | mk k1 k2 k3 k4 =>
  rename_i n t gu f'
  dsimp only
  by_cases c3:IntKind.wrap .u64 (n+1)=0
  ·rw[aa0 c3];exact z 4 ⟨by omega,by omega⟩ (by omega)
  rw[aa1 c3,Ad]
  by_cases c4:IntKind.wrap .u64 (t+s)<t
  ·rw[aa0 c4];exact z 4 ⟨by omega,by omega⟩ (by omega)
  rw[aa1 c4]
  refine⟨_,_,rfl,Bet.mk (Kx _) (Kx _) ⟨by omega,by omega⟩ (by unfold Al;omega),⟨by omega,by omega⟩,fun _=>⟨?_,?_,Bpb.mk (Kx _) (Kx _) ⟨by omega,by omega⟩ (by omega)⟩⟩
  ·dsimp only;rw[Bi];omega
  ·dsimp only;omega
 ·rw[e2 hv,Aa]
  dsimp only
  rw[ab5 (by omega),An,Bn]
  exact z 15 ⟨by omega,by omega⟩ (by omega)
theorem Ced{b:Ae5}(hb:Bet b){p:J9}(hp:Uk p):∃ r:Int,Jg (b,p,())=some ((r,()),(),(),())∧B2 r∧(r=0∨b.2.2.1+r=p.2.2.2.2.1):=by
 unfold Jg Qo
 try dsimp only
 cases hb with
 | mk k1 k2 k3 k4 =>
 cases hp with
 | mk w1 w2 w3 w4 w5 w6 w7 w8 w9 pj pk pm =>
 rename_i n t gu f' sp to bi gl bb eu pi mi ma fe ic ep
 dsimp only
 unfold B2 at k3 w5
 rw[Ad]
 by_cases c:gu>gl
 ·rw[aa0 c];exact⟨0,rfl,⟨by omega,by omega⟩,.inl rfl⟩
 ·rw[aa1 c,Gt (by omega) (by omega)]
  exact⟨_,rfl,⟨by omega,by omega⟩,.inr (by omega)⟩
theorem Bu6{u l t n:Int}(hu:B2 u)(hl:B2 l)(ht:B2 t)(hn:B2 n) :
  ∃ r c:Int,Ny (u,l,t,n,())=some ((r,c,()),(),(),(),(),())∧B2 r∧I64 c∧(c=0→l≤t∧t≤n∧r≤u):=by
 unfold B2 at hu hl ht hn
 unfold Ny Aax
 try dsimp only
 rw[Ad]
 by_cases c1:l>t
 ·rw[aa0 c1];exact⟨0,14,rfl,⟨by omega,by omega⟩,⟨by omega,by omega⟩,fun h=>by omega⟩
 rw[aa1 c1,Ad]
 by_cases c2:t>n
 ·rw[aa0 c2];exact⟨0,14,rfl,⟨by omega,by omega⟩,⟨by omega,by omega⟩,fun h=>by omega⟩
 rw[aa1 c2,Ad]
 by_cases c3:n=l
 ·rw[aa0 c3];exact⟨u,0,rfl,hu,⟨by omega,by omega⟩,fun h=>⟨by omega,by omega,by omega⟩⟩
 have l1:=Mz (n:=u.toNat) (by omega)
 have l2:=Mz (n:=(t-l).toNat) (by omega)
 have l3:=Pg u.toNat (t-l).toNat
 have l4:=Mz (n:=(n-l).toNat) (by omega)
 have hm:u.toNat*(t-l).toNat≤u.toNat*(n-l).toNat:=ae8 _ (by omega)
 have hq:u.toNat*(t-l).toNat / (n-l).toNat≤u.toNat:=Nat.div_le_of_le_mul (by rw[af9 (n-l).toNat];exact hm)
 rw[aa1 c3,Ca (by omega) (by omega),Aa,Gt (by omega) (by omega),Ca (by omega) (by omega),Aa]
 dsimp only
 rw[Pp (by omega) (by omega),Aa,Gt (by omega) (by omega),Ca (by omega) (by omega),Aa]
 dsimp only
 rw[Awb (by omega) (by omega) (by omega),Aa]
 dsimp only
 generalize u.toNat*(t-l).toNat / (n-l).toNat=q at *
 rw[Uo (by omega),Aa]
 dsimp only
 rw[Bki (by unfold Al;omega),ac8 (by omega)]
 exact⟨_,0,rfl,⟨by omega,by omega⟩,⟨by omega,by omega⟩,fun h=>⟨by omega,by omega,by omega⟩⟩
abbrev Akv:=Bool×(List Int×Unit)
def sgn(g:Bool)(n:Nat):Akv:=(g&&decide (0<n),dg n,())
theorem Ac0(g:Bool)(n:Nat):Dr (g,dg n,())=some ((sgn g n,()),(),(),()):=by
 unfold Dr Arn
 try dsimp only
 cases g with
 | false=>rfl
 | true =>
  have:decide ((((List.length (dg n)):Nat):Int)>(0:Int))=decide (0<n):=by
   rw[aj5]
   have:=Aid 0 n
   rw[ah2,al6] at this
   omega
  rw[Ap,this]
  rfl
inductive Ax6:Akv→Prop
 | mk {g:Bool} {n:Nat} (h:Al n):Ax6 (g,At n,())
theorem Boq(g:Bool){n:Nat}(hn:Al n):Hm ((g,At n,()),())=some ((sgn g n,()),(),()):=by
 unfold Hm Xx
 try dsimp only
 rw[Cd hn,Aa]
 dsimp only
 rw[Ac0,Aa]
theorem Bgd(g:Bool)(n:Nat):Vu ((g,dg n,()),())=some ((sgn (!g) n,()),(),()):=by
 unfold Vu Aj4
 try dsimp only
 rw[Ac0,Aa]
theorem Aoj(g:Bool)(n:Nat):Ef ((g,At n,()),())=some ((!(g&&decide (n=0)),()),(),()):=by
 unfold Ef Ani
 try dsimp only
 cases g with
 | false=>rfl
 | true =>
  rw[Ap,Wr,Aa]
  rfl
theorem Bkr(g h:Bool){a b:Nat}(ha:(dg a).length≤900)(hb:(dg b).length≤900):∃ (k:Bool) (n:Nat),M4 ((g,dg a,()),(h,dg b,()),())=some ((sgn k n,()),(),(),())∧n≤a+b ∧
  (g=false→h=true→n=(if b≤a then a-b else b-a)∧k=decide (a<b)):=by
 unfold M4 Avq
 try dsimp only
 have hq:Yu .bool g h=(g == h):=rfl
 rw[hq]
 cases hgh:(g == h) with
 | true =>
  rw[Ap,Cy (by omega) (by omega),Aa]
  dsimp only
  rw[Ac0,Aa]
  exact⟨g,a+b,rfl,ab4 _,fun h1 h2=>by subst h1 h2;cases hgh⟩
 | false =>
  rw[Bn,Atu (by omega) (by omega),Aa]
  dsimp only
  unfold Agg
  rw[Ad]
  by_cases c:b≤a
  ·have hc:(if a<b then (-1:Int) else if a>b then 1 else 0)≥0:=by
    rw[aa1 (by omega)];split<;>omega
   rw[aa0 hc,Lp (A:=a) (B:=b) (D:=a-b) (by omega) (by omega),Aa]
   dsimp only
   rw[Ac0,Aa]
   refine⟨g,a-b,rfl,by omega,fun h1 h2=>⟨by rw[aa0 c],?_⟩⟩
   rw[h1,ab5 (by omega)]
  ·rw[aa1 (by rw[aa0 (by omega)];omega),Lp (A:=b) (B:=a) (D:=b-a) (by omega) (by omega),Aa]
   dsimp only
   rw[Ac0,Aa]
   refine⟨h,b-a,rfl,by omega,fun h1 h2=>⟨by rw[aa1 c],?_⟩⟩
   rw[h2,aa7 (by omega)]
theorem Ckd(g h:Bool){a b:Nat}(ha:(dg a).length≤900)(hb:(dg b).length≤900):∃ k:Bool,Ags ((g,dg a,()),(h,dg b,()),())=some ((sgn k (a*b),()),(),(),()):=by
 unfold Ags Awh
 try dsimp only
 rw[Pp (by omega) (by omega),Aa]
 dsimp only
 rw[Ac0,Aa]
 exact⟨_,rfl⟩
theorem Bsq(g:Bool){a b:Nat}(ha:(dg a).length≤900)(hb:(dg b).length≤900)(h0:0<b):∃ (k:Bool) (n:Nat),Qk ((g,dg a,()),dg b,())=some ((sgn k n,()),(),(),())∧n≤a+1:=by
 unfold Qk Acx
 try dsimp only
 have l:=Aw5 a b
 have hd:=Nat.div_le_self a b
 rw[Awb (by omega) (by omega) h0,Aa]
 dsimp only
 generalize a / b=q at *
 cases g with
 | false =>
  rw[Bn,Ac0,Aa]
  exact⟨_,_,rfl,by omega⟩
 | true =>
  rw[Ap,Ad]
  by_cases c:(((List.length (dg (a % b))):Nat):Int)>0
  ·have l1:=Mz (n:=1) (by omega)
   rw[aa0 c,Ca (by omega) (by omega),Aa,show Int.toNat 1=1 from rfl]
   dsimp only
   rw[Cy (by omega) (by omega),Aa]
   dsimp only
   rw[Ac0,Aa]
   exact⟨_,_,rfl,by omega⟩
  ·rw[aa1 c,Ac0,Aa]
   exact⟨_,_,rfl,by omega⟩
theorem Bil(g:Bool)(n:Nat):∃ (r:Akv) (c:Int),Kp (sgn g n,())=some ((r,c,()),(),())∧Ax6 r∧I64 c∧(r.1&&decide (D8 r.2.1=0))=false∧(Al n→r=((sgn g n).1,At n,())):=by
 unfold Kp Afe sgn
 try dsimp only
 rw[Zj,Aa]
 by_cases c:n<115792089237316195423570985008687907853269984665640564039457584007913129639936
 ·rw[aa0 c]
  dsimp only
  rw[aa7 rfl,An,Ap]
  refine⟨_,_,rfl,Ax6.mk c,⟨by omega,by omega⟩,?_,fun _=>rfl⟩
  dsimp only
  rw[Bi]
  by_cases hn:n=0
  ·subst hn;simp
  ·simp[hn]
 ·rw[aa1 c]
  dsimp only
  rw[ab5 (by omega),An,Bn]
  exact⟨_,_,rfl,Ax6.mk (n:=0) (by unfold Al;omega),⟨by omega,by omega⟩,rfl,fun h=>absurd h c⟩
theorem Cjz{a b:Nat}(ha:Al a)(hb:Al b):∃ r:Akv,Ab5 (At a,At b,())=some ((r,()),(),(),())∧Ax6 r∧(r.1&&decide (D8 r.2.1=0))=false:=by
 unfold Ab5 Aqy
 try dsimp only
 have l1:=Nf ha
 have l2:=Nf hb
 rw[Cd ha,Aa]
 dsimp only
 rw[Ac0,Aa,Cd hb,Aa]
 dsimp only
 rw[Ac0,Aa]
 dsimp only
 obtain⟨k,n,e,h1,h2⟩:=Bkr (false&&decide (0<a)) (true&&decide (0<b)) (a:=a) (b:=b) (by omega) (by omega)
 unfold sgn at e ⊢
 rw[e,Aa]
 dsimp only
 obtain⟨r,c,e2,h3,h4,h5,_⟩:=Bil k n
 unfold sgn at e2
 rw[e2,Aa]
 exact⟨r,rfl,h3,h5⟩
theorem Bo2{a:Nat}(ha:Al a){s:Akv}(hs:Ax6 s):∃ (n:Nat) (c:Int),Mt (At a,s,())=some ((At n,c,()),(),(),())∧Al n∧I64 c:=by
 cases hs with
 | mk hb =>
 rename_i g b
 unfold Mt Ye
 try dsimp only
 have l1:=Nf ha
 have l2:=Nf hb
 rw[Aoj,Aa]
 dsimp only
 cases hv:(g&&decide (b=0)) with
 | true=>exact⟨0,2,rfl,by unfold Al;omega,⟨by omega,by omega⟩⟩
 | false =>
  rw[aq8,an1,Bn,Cd ha,Aa]
  dsimp only
  rw[Ac0,Aa,Boq g hb,Aa]
  dsimp only
  obtain⟨k,n,e,h1,h2⟩:=Bkr (false&&decide (0<a)) (g&&decide (0<b)) (a:=a) (b:=b) (by omega) (by omega)
  unfold sgn at e ⊢
  rw[e,Aa]
  dsimp only
  cases hk:(k&&decide (0<n)) with
  | true=>exact⟨0,0,rfl,by unfold Al;omega,⟨by omega,by omega⟩⟩
  | false =>
   rw[Bn,Zj,Aa]
   by_cases c:n<115792089237316195423570985008687907853269984665640564039457584007913129639936
   ·rw[aa0 c];exact⟨n,0,rfl,c,⟨by omega,by omega⟩⟩
   ·rw[aa1 c];exact⟨0,4,rfl,by unfold Al;omega,⟨by omega,by omega⟩⟩
theorem Cex{s1 s2:Akv}(h1:Ax6 s1)(h2:Ax6 s2){u:Int}(hu:B2 u){p:J9}(hp:Uk p) :
  ∃ (r:Akv) (c:Int),Vy (s1,s2,u,p,())=some ((r,c,()),(),(),(),(),())∧Ax6 r∧I64 c:=by
 have z:∀ c:Int,I64 c→∃ (r:Akv) (c':Int),some (((false,z4,()),c,()),(),(),(),(),())=some ((r,c',()),(),(),(),(),())∧Ax6 r∧I64 c' :=
  fun c hc=>⟨_,_,rfl,Ax6.mk (n:=0) (by unfold Al;omega),hc⟩
 unfold Vy Ajy
 try dsimp only
 rw[Ad1 hp,Aa]
 dsimp only
 rw[An,Ad]
 by_cases hv:PV p
 case neg=>rw[aa1 hv];exact z 15 ⟨by omega,by omega⟩
 rw[aa0 hv]
 have heu:=hv.2.2.2.2.2.2.1
 have hpi:=hv.2.2.2.2.2.2.2.1
 cases h1 with
 | mk b1 =>
 cases h2 with
 | mk b2 =>
 cases hp with
 | mk w1 w2 w3 w4 w5 w6 w7 w8 w9 pj pk pm =>
 rename_i g1 n1 g2 n2 sp to bi gl bb eu pi mi ma fe ic ep
 dsimp only at heu hpi ⊢
 clear hv w1 w2 w3 w4 w5 w6 w7 w8 pk pm
 unfold B2 at hu w9 pj
 rw[Aoj,Aa]
 dsimp only
 cases hg1:(g1&&decide (n1=0)) with
 | true=>exact z 2 ⟨by omega,by omega⟩
 | false =>
 rw[aq8,an1,Bn,Aoj,Aa]
 dsimp only
 cases hg2:(g2&&decide (n2=0)) with
 | true=>exact z 2 ⟨by omega,by omega⟩
 | false =>
 rw[aq8,an1,Bn,Ad]
 by_cases jb:u=0
 ·rw[aa0 jb];exact z 2 ⟨by omega,by omega⟩
 have l1:=Nf b1
 have l2:=Nf b2
 have leu:=Mz (n:=eu.toNat) (by omega)
 have lpi:=Mz (n:=pi.toNat) (by omega)
 have lu:=Mz (n:=u.toNat) (by omega)
 have lone:=Mz (n:=1) (by omega)
 rw[aa1 jb,Boq g1 b1,Aa]
 dsimp only[sgn]
 rw[Bgd,Aa,Ca (by omega) (by omega),Aa]
 dsimp only[sgn]
 obtain⟨k3,n3,e3,d3⟩:=Bsq (!(g1&&decide (0<n1))&&decide (0<n1)) (a:=n1) (b:=eu.toNat) (by omega) (by omega) (by omega)
 have l3:=af2 (Aow d3) (Aq0 n1 1)
 rw[e3,Aa,Aa,Boq g2 b2,Aa]
 dsimp only[sgn]
 rw[Bgd,Aa]
 dsimp only[sgn]
 obtain⟨k4,n4,e4,d4,_⟩:=Bkr (g1&&decide (0<n1)) (!(g2&&decide (0<n2))&&decide (0<n2)) (a:=n1) (b:=n2) (by omega) (by omega)
 have l4:=af2 (Aow d4) (Aq0 n1 n2)
 rw[e4,Aa,Ca (by omega) (by omega),Aa]
 dsimp only[sgn]
 obtain⟨k5,n5,e5,d5⟩:=Bsq (k4&&decide (0<n4)) (a:=n4) (b:=u.toNat) (by omega) (by omega) (by omega)
 have l5:=af2 (Aow d5) (Aq0 n4 1)
 rw[e5,Aa]
 dsimp only[sgn]
 rw[Bgd,Aa]
 dsimp only[sgn]
 obtain⟨k6,n6,e6,d6,_⟩:=Bkr (k3&&decide (0<n3)) (!(k5&&decide (0<n5))&&decide (0<n5)) (a:=n3) (b:=n5) (by omega) (by omega)
 have l6:=af2 (Aow d6) (Aq0 n3 n5)
 rw[e6,Aa,Aa]
 dsimp only[sgn]
 obtain⟨k7,e7⟩:=Ckd (k6&&decide (0<n6)) false (a:=n6) (b:=u.toNat) (by omega) (by omega)
 have l7:=Pg n6 u.toNat
 rw[e7,Aa]
 dsimp only[sgn]
 rw[Oq,Aa]
 dsimp only
 rw[An,Ad]
 by_cases c1:n4<115792089237316195423570985008687907853269984665640564039457584007913129639936
 case neg=>rw[aa1 c1];exact z 4 ⟨by omega,by omega⟩
 rw[aa0 c1,Oq,Aa]
 dsimp only
 rw[An,Ad]
 by_cases c2:n6<115792089237316195423570985008687907853269984665640564039457584007913129639936
 case neg=>rw[aa1 c2];exact z 4 ⟨by omega,by omega⟩
 rw[aa0 c2,Oq,Aa]
 dsimp only
 rw[An,Ad]
 by_cases c3:n6*u.toNat<115792089237316195423570985008687907853269984665640564039457584007913129639936
 case neg=>rw[aa1 c3];exact z 4 ⟨by omega,by omega⟩
 have ld:=Aw5 eu.toNat pi.toNat
 have la:=Aq0 (eu.toNat / pi.toNat) u.toNat
 rw[aa0 c3,Aa,Ca (by omega) (by omega),Aa]
 dsimp only
 rw[Awb (by omega) (by omega) (by omega),Aa,Aa]
 dsimp only
 rw[Cy (by omega) (by omega),Aa]
 dsimp only
 obtain⟨k8,n8,e8,d8⟩:=Bsq (k7&&decide (0<n6*u.toNat)) (a:=n6*u.toNat) (b:=eu.toNat / pi.toNat+u.toNat) (by omega) (by omega) (ae3 (by omega) (Nat.le_add_left _ _))
 rw[e8,Aa]
 dsimp only
 obtain⟨r,c,e9,h3,h4,h5,_⟩:=Bil k8 n8
 rw[e9,Aa]
 exact⟨r,c,rfl,h3,h4⟩
theorem Cfq{a:Nat}(ha:Al a){s1 s2:Akv}(h1:Ax6 s1)(h2:Ax6 s2){u:Int}(hu:B2 u){p:J9}(hp:Uk p) :
  ∃ (n:Nat) (c:Int),Yz (At a,s1,s2,u,p,())=some ((At n,c,()),(),(),(),(),(),())∧Al n∧I64 c:=by
 have z:∀ c:Int,I64 c→∃ (n:Nat) (c':Int),some ((z4,c,()),(),(),(),(),(),())=some ((At n,c',()),(),(),(),(),(),())∧Al n∧I64 c' :=
  fun c hc=>⟨0,_,rfl,by unfold Al;omega,hc⟩
 obtain⟨r,c,e,hr,hc⟩:=Cex h1 h2 hu hp
 unfold Yz Anq
 try dsimp only
 rw[Ad1 hp,Aa]
 dsimp only
 rw[An,Ad]
 by_cases hv:PV p
 case neg=>rw[aa1 hv];exact z 15 ⟨by omega,by omega⟩
 rw[aa0 hv]
 have v1:∃ b,Ef (s1,())=some ((b,()),(),()):=by cases h1;exact⟨_,Aoj _ _⟩
 have v2:∃ b,Ef (s2,())=some ((b,()),(),()):=by cases h2;exact⟨_,Aoj _ _⟩
 obtain⟨b1,v1⟩:=v1
 obtain⟨b2,v2⟩:=v2
 rw[v1,Aa]
 dsimp only
 cases b1 with
 | false=>exact z 2 ⟨by omega,by omega⟩
 | true =>
 rw[an1,Bn,v2,Aa]
 dsimp only
 cases b2 with
 | false=>exact z 2 ⟨by omega,by omega⟩
 | true =>
 rw[an1,Bn,Ad]
 by_cases jb:u=0
 ·rw[aa0 jb];exact⟨a,0,rfl,ha,⟨by omega,by omega⟩⟩
 rw[aa1 jb,e,Aa]
 dsimp only
 rw[An,Ad]
 by_cases hc0:c=0
 ·obtain⟨n,c',e2,hn,hc'⟩:=Bo2 ha hr
  rw[aa0 hc0,e2,Aa]
  exact⟨n,c',rfl,hn,hc'⟩
 ·rw[aa1 hc0];exact z c hc
abbrev Aq:=Int×(List Int×List Int×List Int×List Int×Int×Unit)
abbrev Aw:Aq:=((0:Int),[(0:Int),0,0,0],[(0:Int),0,0,0],[(0:Int),0,0,0],[(0:Int),0,0,0],(0:Int),())
abbrev Bld(a:Int):Aq:=(a,[(0:Int),0,0,0],[(0:Int),0,0,0],[(0:Int),0,0,0],[(0:Int),0,0,0],(0:Int),())
theorem Az7:(Ty.zero (.pair (.int .u64) (.pair (.arr 4 (.int .u64)) (.pair (.arr 4 (.int .u64)) (.pair (.arr 4 (.int .u64)) (.pair (.arr 4 (.int .u64)) (.pair (.int .u64) .unit)))))):Aq)=Aw:=rfl
inductive Ni:Aq→Prop
 | mk {a:Int} {d c r p:Nat} {s:Int} (ha:B2 a) (hd:Al d) (hc:Al c) (hr:Al r) (hp:Al p) (hs:B2 s):Ni (a,At d,At c,At r,At p,s,())
def Aco(l:List Aq):Prop:=∀ p∈l,Ni p
theorem Cgc:Ni Aw:=by
 have:=Ni.mk (a:=0) (d:=0) (c:=0) (r:=0) (p:=0) (s:=0) (by unfold B2;omega) (by unfold Al;omega) (by unfold Al;omega) (by unfold Al;omega) (by unfold Al;omega) (by unfold B2;omega)
 exact this
theorem Coy{a:Int}(h:B2 a):Ni (Bld a):=by
 have:=Ni.mk (a:=a) (d:=0) (c:=0) (r:=0) (p:=0) (s:=0) h (by unfold Al;omega) (by unfold Al;omega) (by unfold Al;omega) (by unfold Al;omega) (by unfold B2;omega)
 exact this
theorem Aco.at{l:List Aq}(h:Aco l)(i:Nat):Ni (l.getD i Aw):=by
 rcases ad3 i l.length with hi|hi
 ·exact h _ (B3 hi)
 ·rw[aa2,ai4 hi];exact Cgc
def At4(p:Aq):Bool:=decide (p.1≠0)&&(decide (D8 p.2.1+D8 p.2.2.2.2.1=D8 p.2.2.1+D8 p.2.2.2.1)&&decide ((p.2.2.2.2.2.1=0)↔(D8 p.2.1=0)))
def Bpp(l:List Aq)(i:Nat):Prop:=At4 (l.getD i Aw)=true∧(0<i→(l.getD (i-1) Aw).1<(l.getD i Aw).1)
def Ah4(l:List Aq):Prop:=l.length≤64∧∀ i,i<l.length→Bpp l i
open Classical in
def I9(l:List Aq):Bool:=decide (Ah4 l)
theorem Ro{l:List Aq}:I9 l=true↔Ah4 l:=by unfold I9;simp only[ac4]
theorem Ah3{l:List Aq}(h:¬ Ah4 l):I9 l=false:=by unfold I9;simp only[decide_eq_false_iff_not];exact h
theorem Aye{a:Int}{d c r p:Nat}{s:Int}:At4 (a,At d,At c,At r,At p,s,())=(decide (a≠0)&&(decide (d+p=c+r)&&decide ((s=0)↔(d=0)))):=by
 unfold At4
 simp only[Bi]
theorem Acs(n:Nat):Js (At n,())=some ((decide (n=0),()),(),()):=by
 unfold Js Ads
 rw[← Bpg,Asg]
theorem Cad{p q:Prop}[Decidable p][Decidable q]:Yu .bool (decide p) (decide q)=decide (p↔q):=by
 rw[an7,J6]
 by_cases hp:p<;>by_cases hq:q<;>simp[hp,hq]
theorem Ao8{l:List Aq}(ha:Aco l)(hl:l.length≤1000000):Km (l,())=some ((I9 l,()),(),()):=by
 unfold Km Ae8
 refine Ai (I:=fun x=>∃ i:Nat,i≤l.length∧(∀ j,j<i→Bpp l j)∧x=(l,l,(l.length:Int),(i:Int),())) (m:=fun x=>((l.length:Int)-x.2.2.2.1).toNat)
  (g:=fun _=>some ((I9 l,()),(),())) ?_ ⟨0,by omega,fun j hj=>by omega,rfl⟩ (by rw[Au];simp only;omega)
 rintro x aa ⟨i,hi,bj,rfl⟩ hag
 simp only at hag ⊢
 unfold Ak6
 rw[Az7]
 simp only[Am]
 by_cases h1:(i:Int)<(l.length:Int)
 ·have bx:i<l.length:=by omega
  have ii:(0:Int)≤(i:Int)∧(i:Int)<(l.length:Int):=by omega
  have bad:¬ Bpp l i→I9 l=false:=fun h=>Ah3 fun hv=>h (hv.2 i bx)
  have iy:Bpp l i→aa (l,l,(l.length:Int),(i:Int)+1,())=some ((I9 l,()),(),()):=fun h =>
   hag _ ⟨i+1,by omega,fun j hj=>by
    by_cases e:j=i
    ·rw[e];exact h
    ·exact bj j (by omega),by rw[ab0];rfl⟩ (by simp only;omega)
  clear hag
  have hp:=ha.at i
  have pe:IntKind.wrap .i64 ((i:Int)+1)=(i:Int)+1:=Ar (by omega) (by omega)
  have uz:IntKind.wrap .i64 ((i:Int)-1)=(i:Int)-1:=Ar (by omega) (by omega)
  have u6:((i:Int)-1).toNat=i-1:=by omega
  unfold Bpp at bad iy
  rw[pe,uz,u6,aa3]
  generalize l.getD i Aw=p at hp bad iy ⊢
  generalize l.getD (i-1) Aw=q at bad iy ⊢
  obtain⟨h2,hd,hc,hr,gh,hs⟩:=hp
  rename_i a d c r pd s
  rw[Aye] at bad iy
  simp only at bad iy ⊢
  simp only[Ad,Ao,An,aa0 h1,aa0 ii]
  unfold Al at hd hc hr gh
  rw[Cbt hd gh,Cbt hc hr,Acs]
  simp only[Aa]
  rw[Cad,Ad]
  have e5:Yu (.arr 5 (.int .u64)) (Ae4 5 5 (d+pd)) (Ae4 5 5 (c+r))=decide (d+pd=c+r):=by
   rw[an7,J6,ac4]
   exact Bzk (by omega) (by omega)
  rw[e5,Ad]
  by_cases ca:a=0
  ·rw[aa0 ca,bad (by simp[ca])]
  rw[aa1 ca]
  have tail:(0<i→q.1<a)→(if d+pd=c+r then (if (s=0↔d=0) then aa (l,l,(l.length:Int),(i:Int)+1,()) else some ((false,()),(),())) else some ((false,()),(),()))=some ((I9 l,()),(),()):=fun hq=>by
   by_cases c1:d+pd=c+r
   ·rw[aa0 c1]
    by_cases c2:(s=0↔d=0)
    ·rw[aa0 c2]
     exact iy ⟨by simp[ca,c1,c2],hq⟩
    ·rw[aa1 c2,bad (by simp[c2])]
   ·rw[aa1 c1,bad (by simp[c1])]
  by_cases c3:(i:Int)>0
  ·have ij:(0:Int)≤(i:Int)-1∧(i:Int)-1<(l.length:Int):=by omega
   rw[aa0 c3,aa0 ij]
   by_cases c4:a≤q.1
   ·rw[aa0 c4,bad (fun h=>by have:=h.2 (by omega);omega)]
   ·rw[aa1 c4]
    exact tail fun _=>by omega
  ·rw[aa1 c3]
   exact tail fun h=>by omega
 ·have wb:i=l.length:=by omega
  rw[ab5 h1,Bn]
  by_cases yv:(l.length:Int)≤64
  ·rw[aa7 yv,Ro.2 ⟨by omega,fun j hj=>bj j (by omega)⟩]
  ·rw[ab5 yv,Ah3 fun h=>by have:=h.1;omega]
theorem Bmy{p:Aq}(hp:Ni p):Kh (p,())=some ((At4 p,()),(),()):=by
 obtain⟨h2,hd,hc,hr,gh,hs⟩:=hp
 rename_i a d c r pd s
 rw[Aye]
 unfold Al at hd hc hr gh
 have ld:=Og.2 hd;have lc:=Og.2 hc;have lr:=Og.2 hr;have lp:=Og.2 gh
 unfold Kh Sq
 simp only
 rw[Cd hd,Cd gh];simp only[Aa]
 rw[Cy (by omega) (by omega)];simp only[Aa]
 rw[Cd hc,Cd hr];simp only[Aa]
 rw[Cy (by omega) (by omega)];simp only[Aa]
 have l17:∀ x y:Nat,x<115792089237316195423570985008687907853269984665640564039457584007913129639936→y<115792089237316195423570985008687907853269984665640564039457584007913129639936→(dg (x+y)).length≤17:=fun x y hx hy =>
  Du.2 (af0 (by rw[show (65536:Nat) ^ 17=7588550360256754183279148073529370729071901715047420004889892225542594864082845696 from by decide];omega))
 have q1:=l17 d pd hd gh;have q2:=l17 c r hc hr
 rw[Atu (by omega) (by omega),Wr]
 simp only[Aa,An,Ad]
 rw[Cad]
 unfold Agg
 by_cases ca:a=0
 ·rw[aa0 ca];simp[ca]
 rw[aa1 ca]
 by_cases c1:d+pd=c+r
 ·rw[aa0 (by rw[aa1 (by omega),aa1 (by omega)])]
  simp[ca,c1]
 ·have hcn:¬ ((if d+pd<c+r then (-1:Int) else if c+r<d+pd then 1 else 0)=0):=by
   by_cases c2:d+pd<c+r
   ·rw[aa0 c2];decide
   ·rw[aa1 c2,aa0 (by omega)];decide
  rw[aa1 hcn]
  simp[c1]
theorem Mj{l:List Aq}(ha:Aco l)(hl:l.length≤1000000):Dh (l,())=some ((I9 l,()),(),()):=by
 unfold Dh Aj8
 simp only[Ad]
 by_cases yv:(l.length:Int)>64
 ·rw[aa0 yv,Ah3 fun h=>by have:=h.1;omega]
 rw[aa1 yv]
 refine Ai (I:=fun x=>∃ i:Nat,i≤l.length∧(∀ j,j<i→Bpp l j)∧x=(l,(i:Int),())) (m:=fun x=>((l.length:Int)-x.2.1).toNat)
  (g:=fun _=>some ((I9 l,()),(),())) ?_ ⟨0,by omega,fun j hj=>by omega,rfl⟩ (by rw[Au];simp only;omega)
 rintro x aa ⟨i,hi,bj,rfl⟩ hag
 simp only at hag ⊢
 unfold Amx
 rw[Az7]
 simp only[Am,Ad,Ao,An]
 by_cases h1:(i:Int)<(l.length:Int)
 ·have bx:i<l.length:=by omega
  have ii:(0:Int)≤(i:Int)∧(i:Int)<(l.length:Int):=by omega
  have bad:¬ Bpp l i→I9 l=false:=fun h=>Ah3 fun hv=>h (hv.2 i bx)
  have iy:Bpp l i→aa (l,(i:Int)+1,())=some ((I9 l,()),(),()):=fun h =>
   hag _ ⟨i+1,by omega,fun j hj=>by
    by_cases e:j=i
    ·rw[e];exact h
    ·exact bj j (by omega),by rw[ab0];rfl⟩ (by simp only;omega)
  clear hag
  have pe:IntKind.wrap .i64 ((i:Int)+1)=(i:Int)+1:=Ar (by omega) (by omega)
  have uz:IntKind.wrap .i64 ((i:Int)-1)=(i:Int)-1:=Ar (by omega) (by omega)
  have u6:((i:Int)-1).toNat=i-1:=by omega
  unfold Bpp at bad iy
  simp only[aa0 h1,aa0 ii,pe,uz,u6,aa3]
  rw[Bmy (ha.at i)]
  simp only[Aa]
  cases hg:At4 (l.getD i Aw) with
  | false=>rw[Bn,bad (fun h=>by rw[hg] at h;cases h.1)]
  | true =>
   rw[Ap]
   by_cases c3:(i:Int)>0
   ·have ij:(0:Int)≤(i:Int)-1∧(i:Int)-1<(l.length:Int):=by omega
    rw[aa0 c3,aa0 ij]
    by_cases c4:(l.getD i Aw).1≤(l.getD (i-1) Aw).1
    ·rw[aa0 c4,bad (fun h=>by have:=h.2 (by omega);omega)]
    ·rw[aa1 c4]
     exact iy ⟨hg,fun _=>by omega⟩
   ·rw[aa1 c3]
    exact iy ⟨hg,fun h=>by omega⟩
 ·rw[aa1 h1,Ro.2 ⟨by omega,fun j hj=>bj j (by omega)⟩]
def Awu:List Aq→Int→Nat→Int
 | [],_,_=>-1
 | p::l,a,k=>if p.1=a then (k:Int) else Awu l a (k+1)
def Abj(l:List Aq)(a:Int):Int:=Awu l a 0
theorem Bi5(a:Int):∀ (l:List Aq) (k:Nat),(Awu l a k = -1∧∀ i,i<l.length→(l.getD i Aw).1≠a)∨∃ j,j<l.length∧Awu l a k=((k+j:Nat):Int)∧(l.getD j Aw).1=a
 | [],k=>.inl ⟨rfl,fun i hi=>by simp at hi⟩
 | p::l,k=>by
  unfold Awu
  by_cases h:p.1=a
  ·rw[aa0 h]
   exact .inr ⟨0,by simp,rfl,h⟩
  ·rw[aa1 h]
   rcases Bi5 a l (k+1) with⟨h1,h2⟩ | ⟨j,h1,h2,h3⟩
   ·refine .inl ⟨h1,fun i hi=>?_⟩
    cases i with
    | zero=>exact h
    | succ i=>exact h2 i (by simpa using hi)
   ·exact .inr ⟨j+1,by simpa using h1,by rw[h2];omega,h3⟩
theorem Av9(l:List Aq)(a:Int):(Abj l a = -1∧∀ i,i<l.length→(l.getD i Aw).1≠a)∨∃ j:Nat,j<l.length∧Abj l a=(j:Int)∧(l.getD j Aw).1=a:=by
 have:=Bi5 a l 0
 simpa [Abj] using this
theorem Bri{l:List Aq}{i:Nat}(h:i<l.length):l.drop i=l.getD i Aw::l.drop (i+1):=by
 rw[ak4 h,aa2,aa6 h]
 rfl
theorem Bbz{l:List Aq}{a:Int}(hl:l.length≤1000000):Acr (l,a,())=some ((Abj l a,()),(),(),()):=by
 have h:Fl (l,(a,()),())=some ((Abj l a,()),(),(),()):=by
  unfold Fl Kg
  refine Ai (I:=fun x=>∃ i:Nat,i≤l.length∧Abj l a=Awu (l.drop i) a i∧x=(l,(a,()),(l.length:Int),(i:Int),())) (m:=fun x=>((l.length:Int)-x.2.2.2.1).toNat)
   (g:=fun _=>some ((Abj l a,()),(),(),())) ?_ ⟨0,by omega,rfl,rfl⟩ (by rw[Au];simp only;omega)
  rintro x aa ⟨i,hi,hf,rfl⟩ hag
  simp only at hag ⊢
  unfold Ik
  simp only[Ad,Ao]
  by_cases h1:(i:Int)<(l.length:Int)
  ·have bx:i<l.length:=by omega
   rw[aa0 h1,aa0 (by omega),aa3]
   unfold Ar7 Axj
   simp only[Aa,Ad]
   rw[Bri bx] at hf
   unfold Awu at hf
   by_cases he:(l.getD i Aw).1=a
   ·rw[aa0 he] at hf ⊢
    rw[hf]
   ·rw[aa1 he] at hf ⊢
    rw[Ar (by omega) (by omega)]
    exact hag _ ⟨i+1,by omega,hf,by rw[ab0];rfl⟩ (by simp only;omega)
  ·rw[aa1 h1]
   rw[ak3 (by omega)] at hf
   rw[hf]
   rfl
 unfold Acr Bb9
 rw[h]
 rfl
theorem Ald{l:List Aq}{a:Int}(hl:l.length≤1000000):G0 (l,a,())=some ((Abj l a,()),(),(),()):=by
 unfold G0 Am6
 refine Ai (I:=fun x=>∃ i:Nat,i≤l.length∧Abj l a=Awu (l.drop i) a i∧x=(l,a,(i:Int),())) (m:=fun x=>((l.length:Int)-x.2.2.1).toNat)
  (g:=fun _=>some ((Abj l a,()),(),(),())) ?_ ⟨0,by omega,rfl,rfl⟩ (by rw[Au];simp only;omega)
 rintro x aa ⟨i,hi,hf,rfl⟩ hag
 simp only at hag ⊢
 unfold Ao9
 rw[Az7]
 simp only[Am,Ad,Ao]
 by_cases h1:(i:Int)<(l.length:Int)
 ·have bx:i<l.length:=by omega
  rw[aa0 h1,aa0 (by omega),aa3]
  rw[Bri bx] at hf
  unfold Awu at hf
  by_cases he:(l.getD i Aw).1=a
  ·rw[aa0 he] at hf ⊢
   rw[hf]
  ·rw[aa1 he] at hf ⊢
   rw[Ar (by omega) (by omega)]
   exact hag _ ⟨i+1,by omega,hf,by rw[ab0];rfl⟩ (by simp only;omega)
 ·rw[aa1 h1]
  rw[ak3 (by omega)] at hf
  rw[hf]
  rfl
def Bl6(p:Aq):Nat:=D8 p.2.1
def Ax4:List Aq→Nat
 | []=>0
 | p::l=>Bl6 p+Ax4 l
theorem Bd8:Ax4 []=0:=rfl
theorem Bhb(p:Aq)(l:List Aq):Ax4 (p::l)=Bl6 p+Ax4 l:=rfl
theorem Bxb(l m:List Aq):Ax4 (l++m)=Ax4 l+Ax4 m:=by
 induction l with
 | nil=>rw[af8,Bd8,af1]
 | cons p l ih=>rw[aq5,Bhb,Bhb,ih,aj3]
theorem Bq5{l:List Aq}{i:Nat}(h:i<l.length):Ax4 (l.take (i+1))=Ax4 (l.take i)+Bl6 (l.getD i Aw):=by
 rw[ap7,aa6 h,Bxb,aa2,aa6 h,Option.toList_some,Option.getD_some,Bhb,Bd8,af6]
theorem Bba{p:Aq}(h:Ni p):p.2.1=At (Bl6 p)∧Bl6 p<115792089237316195423570985008687907853269984665640564039457584007913129639936:=by
 obtain⟨_,hd,_,_,_,_⟩:=h
 unfold Al at hd
 unfold Bl6
 simp only[Bi,true_and]
 exact hd
theorem By3{l:List Aq}{M:Nat}(h:∀ i,Bl6 (l.getD i Aw)≤M):∀ i,i≤l.length→Ax4 (l.take i)≤M*i:=by
 intro i
 induction i with
 | zero=>intro _;rw[ag1,Bd8];exact ac2 _
 | succ i ih =>
  intro hi
  rw[Bq5 (by omega),Nat.mul_succ]
  exact ar9 (ih (by omega)) (h i)
def Bs9(l:List Aq):List Int×(Int×Unit) :=
 if I9 l=true then (if Ax4 l<115792089237316195423570985008687907853269984665640564039457584007913129639936 then (At (Ax4 l),(0:Int),()) else ([(0:Int),0,0,0],(4:Int),())) else ([(0:Int),0,0,0],(2:Int),())
theorem Cd4{l:List Aq}(ha:Aco l)(hl:l.length≤1000000):On (l,())=some ((Bs9 l),(),()):=by
 unfold On Abb Bs9
 rw[Mj ha hl]
 simp only[Aa,An]
 by_cases hv:Ah4 l
 case neg=>rw[Ah3 hv,Bn,aa1 (by simp)]
 rw[Ro.2 hv,Ap,aa0 rfl]
 have ba7:=hv.1
 refine Ai (I:=fun x=>∃ i:Nat,i≤l.length∧x=(l,[(0:Int),0,0,0],dg (Ax4 (l.take i)),(i:Int),()))
  (m:=fun x=>((l.length:Int)-x.2.2.2.1).toNat) (g:=fun _=>some ((if Ax4 l<115792089237316195423570985008687907853269984665640564039457584007913129639936 then (At (Ax4 l),(0:Int),()) else ([(0:Int),0,0,0],(4:Int),())),(),())) ?_
  ⟨0,by omega,by rw[ag1,Bd8,Bfu];rfl⟩ (by rw[Au];simp only;omega)
 rintro x aa ⟨i,hi,rfl⟩ hag
 simp only at hag ⊢
 unfold Agz
 rw[Az7]
 simp only[Am,Ad,Ao,An]
 by_cases h1:(i:Int)<(l.length:Int)
 ·have bx:i<l.length:=by omega
  obtain⟨d1,d2⟩:=Bba (ha.at i)
  have hb:=By3 (l:=l) (M:=115792089237316195423570985008687907853269984665640564039457584007913129639935) (fun j=>Nat.le_of_lt_succ (Bba (ha.at j)).2) i (by omega)
  have jr:Ax4 (l.take i)≤115792089237316195423570985008687907853269984665640564039457584007913129639935*64:=af2 hb (ae8 _ (by omega))
  rw[show 115792089237316195423570985008687907853269984665640564039457584007913129639935*64=7410693711188236507108543040556026102609279018600996098525285376506440296955840 from by decide] at jr
  clear hb
  rw[aa0 h1,aa0 (by omega),aa3,d1,Cd d2]
  have ci:=Bq5 bx
  have ld:=Og.2 d2
  simp only[Aa]
  have h17:(dg (Ax4 (l.take i))).length≤17:=Du.2 (af0 (by rw[show (65536:Nat) ^ 17=7588550360256754183279148073529370729071901715047420004889892225542594864082845696 from by decide];omega))
  rw[Cy (by omega) (by omega)]
  simp only[Aa]
  rw[← ci,Ar (by omega) (by omega)]
  exact hag _ ⟨i+1,by omega,by rw[ab0];rfl⟩ (by simp only;omega)
 ·have wb:i=l.length:=by omega
  subst wb
  rw[aa1 h1,ah8,Zj]
  rfl
def Q7:List Aq→Int→Nat
 | [],_=>0
 | p::l,a=>if p.1<a then Q7 l a+1 else 0
theorem Brt(p:Aq)(l:List Aq)(a:Int):Q7 (p::l) a=if p.1<a then Q7 l a+1 else 0:=rfl
theorem Bf6(a:Int):∀ l:List Aq,Q7 l a≤l.length
 | []=>by simp[Q7]
 | p::l=>by
  have:=Bf6 a l
  unfold Q7
  split
  ·simp;omega
  ·simp
def pins(l:List Aq)(a:Int):List Aq:=l.take (Q7 l a)++(Bld a::l.drop (Q7 l a))
def Cm4(l:List Aq)(a:Int):List Aq×(Int×Unit) :=
 if I9 l=true then (if a=0 then ([],(2:Int),()) else if Abj l a≥0 then ([],(9:Int),()) else if l.length=64 then ([],(7:Int),()) else (pins l a,(0:Int),())) else ([],(2:Int),())
theorem roomyP{n:Nat}(h:n≤1000000):A8 n (.pair (.int .u64) (.pair (.arr 4 (.int .u64)) (.pair (.arr 4 (.int .u64)) (.pair (.arr 4 (.int .u64)) (.pair (.arr 4 (.int .u64)) (.pair (.int .u64) .unit))))))=true:=by
 rw[Aeu,ac4]
 exact⟨by decide,by simp only[Ty.size];omega⟩
theorem Bqe{l:List Aq}(h:l.length≤1000000):Ej (l,())=some ((l,()),(),()):=by
 unfold Ej Ms
 simp only[Am]
 rw[roomyP (by omega),Ap,Ad]
 split
 ·rename_i h0
  have:l=[]:=aq7.1 h0
  subst this
  exact Bm0 rfl rfl
 ·rfl
theorem Agu{a b:Nat}(ha:Al a)(hb:Al b)(h:Al (a+b)):Fu (At a,At b,())=some ((At (a+b),(0:Int),()),(),(),()):=by
 have h':=h
 unfold Al at h'
 rw[Bkp ha hb,aa0 h']
theorem Acb{a b:Nat}(ha:Al a)(hb:Al b)(h:¬ Al (a+b)):Fu (At a,At b,())=some (([(0:Int),0,0,0],(4:Int),()),(),(),()):=by
 have h':=h
 unfold Al at h'
 rw[Bkp ha hb,aa1 h']
inductive Bw0(l:List Aq)(a:Int)(az aj:Nat)(since:Int):List Aq×(Int×Unit)→Prop
 | invalid (h:I9 l=false∨since=0):Bw0 l a az aj since ([],(2:Int),())
 | absent (h1:I9 l=true) (h2:since≠0) (h:Abj l a = -1):Bw0 l a az aj since ([],(8:Int),())
 | over (h1:I9 l=true) (h2:since≠0) (k:Nat) (hk:k<l.length) (h:Abj l a=(k:Int)) (d c r pd:Nat) (s:Int) (hp:l.getD k Aw=((l.getD k Aw).1,At d,At c,At r,At pd,s,())) (hd:Al d) (hc:Al c) (hr:Al r)
   (nh:¬ Al (d+(az+aj))∨¬ Al (c+az)∨¬ Al (r+aj)):Bw0 l a az aj since ([],(4:Int),())
 | done (h1:I9 l=true) (h2:since≠0) (k:Nat) (hk:k<l.length) (h:Abj l a=(k:Int)) (d c r pd:Nat) (s:Int) (hp:l.getD k Aw=((l.getD k Aw).1,At d,At c,At r,At pd,s,())) (hd:Al d) (hc:Al c) (hr:Al r) (gh:Al pd)
   (h3:Al (d+(az+aj))) (h4:Al (c+az)) (h5:Al (r+aj)) :
   Bw0 l a az aj since (List.set l k ((l.getD k Aw).1,At (d+(az+aj)),At (c+az),At (r+aj),At pd,(if d=0∧az+aj≠0 then since else s),()),(0:Int),())
theorem Bkd{l:List Aq}{a:Int}{az aj:Nat}{since:Int}(ha:Aco l)(hl:l.length≤100000)(j8:Al az)(ek:Al aj) :
  ∃ y,Bw0 l a az aj since y∧Asc (l,a,At az,At aj,since,())=some (y,(),(),(),(),(),()):=by
 unfold Asc Axb
 simp only
 rw[Bbz (by omega),Ao8 ha (by omega),Aa,Aa]
 simp only[An,Ad]
 cases hv:I9 l with
 | false=>rw[Bn];exact⟨_,.invalid (.inl hv),rfl⟩
 | true =>
  rw[Ap]
  by_cases hs:since=0
  ·rw[aa0 hs];exact⟨_,.invalid (.inr hs),rfl⟩
  rw[aa1 hs]
  rcases Av9 l a with⟨h1,h2⟩ | ⟨k,hk,h1,h2⟩
  ·rw[h1,aa0 (by decide)]
   exact⟨_,.absent hv hs h1,rfl⟩
  rw[h1,aa1 (by omega),Ao,aa0 (by omega),aa3,Bqe (by omega),Az7]
  have hp:=ha.at k
  generalize ph:l.getD k Aw=p at hp ⊢
  obtain⟨g1,hd,hc,hr,gh,g2⟩:=hp
  rename_i ad d c r pd s
  simp only
  have over:(¬ Al (d+(az+aj))∨¬ Al (c+az)∨¬ Al (r+aj))→∃ y,Bw0 l a az aj since y∧(some ((([]:List Aq),(4:Int),()),(),(),(),(),(),()):Option ((List Aq×Int×Unit)×Unit×Unit×Unit×Unit×Unit×Unit))=some (y,(),(),(),(),(),()):=fun h =>
   ⟨_,.over hv hs k hk h1 d c r pd s (by rw[ph]) hd hc hr h,rfl⟩
  by_cases c1:Al (az+aj)
  case neg =>
   rw[Acb j8 ek c1,Aa]
   have h0:Al (d+0):=by rw[af6];exact hd
   rw[show ([(0:Int),0,0,0]:List Int)=At 0 from rfl,Agu hd (by unfold Al;omega) h0,Aa]
   have nh:¬ Al (d+(az+aj)):=by unfold Al at *;omega
   by_cases q1:Al (c+az)<;>by_cases q2:Al (r+aj)
   all_goals first
    | rw[Agu hc j8 q1,Aa]|rw[Acb hc j8 q1,Aa]
   all_goals first
    | rw[Agu hr ek q2,Aa]|rw[Acb hr ek q2,Aa]
   all_goals
    rw[aa1 (by decide)]
    exact over (.inl nh)
  rw[Agu j8 ek c1,Aa]
  by_cases c2:Al (d+(az+aj))
  case neg =>
   rw[Acb hd c1 c2,Aa]
   by_cases q1:Al (c+az)<;>by_cases q2:Al (r+aj)
   all_goals first
    | rw[Agu hc j8 q1,Aa]|rw[Acb hc j8 q1,Aa]
   all_goals first
    | rw[Agu hr ek q2,Aa]|rw[Acb hr ek q2,Aa]
   all_goals
    rw[aa0 rfl,aa1 (by decide)]
    exact over (.inl c2)
  rw[Agu hd c1 c2,Aa]
  by_cases c3:Al (c+az)
  case neg =>
   rw[Acb hc j8 c3,Aa]
   by_cases q2:Al (r+aj)
   all_goals first
    | rw[Agu hr ek q2,Aa]|rw[Acb hr ek q2,Aa]
   all_goals
    rw[aa0 rfl,aa0 rfl,aa1 (by decide)]
    exact over (.inr (.inl c3))
  rw[Agu hc j8 c3,Aa]
  by_cases c4:Al (r+aj)
  case neg =>
   rw[Acb hr ek c4,Aa,aa0 rfl,aa0 rfl,aa0 rfl,aa1 (by decide)]
   exact over (.inr (.inr c4))
  rw[Agu hr ek c4,Aa,aa0 rfl,aa0 rfl,aa0 rfl,aa0 rfl,Acs,Aa]
  have cg:=Bw0.done (l:=l) (a:=a) hv hs k hk h1 d c r pd s (by rw[ph]) hd hc hr gh c2 c3 c4
  rw[ph] at cg
  refine⟨_,cg,?_⟩
  have ik:(0:Int)≤(k:Int)∧(k:Int)<(l.length:Int):=by omega
  simp only[Ao,aa0 ik]
  rw[Ad]
  by_cases d0:d=0
  ·rw[aa0 d0,Acs,Aa,Ad]
   by_cases e0:d+(az+aj)=0
   ·rw[aa0 e0,aa1 (by omega),Aa,aa0 ik]
   ·rw[aa1 e0,aa0 (by omega),Aa,aa0 ik]
  ·rw[aa1 d0,aa1 (by omega),Aa,aa0 ik]
inductive Bwi(l:List Aq)(a:Int)(n:Nat):List Aq×(Int×Unit)→Prop
 | invalid (h:I9 l=false):Bwi l a n ([],(2:Int),())
 | absent (h1:I9 l=true) (h:Abj l a = -1):Bwi l a n ([],(8:Int),())
 | funds (h1:I9 l=true) (k:Nat) (hk:k<l.length) (h:Abj l a=(k:Int)) (d c r pd:Nat) (s:Int) (hp:l.getD k Aw=((l.getD k Aw).1,At d,At c,At r,At pd,s,())) (hd:Al d) (hf:d<n):Bwi l a n ([],(10:Int),())
 | over (h1:I9 l=true) (k:Nat) (hk:k<l.length) (h:Abj l a=(k:Int)) (d c r pd:Nat) (s:Int) (hp:l.getD k Aw=((l.getD k Aw).1,At d,At c,At r,At pd,s,())) (hd:Al d) (gh:Al pd) (hf:n≤d) (ho:¬ Al (pd+n)):Bwi l a n ([],(4:Int),())
 | done (h1:I9 l=true) (k:Nat) (hk:k<l.length) (h:Abj l a=(k:Int)) (d c r pd:Nat) (s:Int) (hp:l.getD k Aw=((l.getD k Aw).1,At d,At c,At r,At pd,s,())) (hd:Al d) (hc:Al c) (hr:Al r) (gh:Al pd) (hf:n≤d) (ho:Al (pd+n)) :
   Bwi l a n (List.set l k ((l.getD k Aw).1,At (d-n),At c,At r,At (pd+n),(if d-n=0 then 0 else s),()),(0:Int),())
theorem Bjl{l:List Aq}{a:Int}{n:Nat}(ha:Aco l)(hl:l.length≤100000)(hn:Al n) :
  ∃ y,Bwi l a n y∧Aq9 (l,a,At n,())=some (y,(),(),(),()):=by
 unfold Aq9 Axd
 simp only
 rw[Bbz (by omega),Ao8 ha (by omega),Aa,Aa]
 simp only[An,Ad]
 cases hv:I9 l with
 | false=>rw[Bn];exact⟨_,.invalid hv,rfl⟩
 | true =>
  rw[Ap]
  rcases Av9 l a with⟨h1,h2⟩ | ⟨k,hk,h1,h2⟩
  ·rw[h1,aa0 (by decide)]
   exact⟨_,.absent hv h1,rfl⟩
  rw[h1,aa1 (by omega),Ao,aa0 (by omega),aa3,Bqe (by omega),Az7]
  have hp:=ha.at k
  generalize ph:l.getD k Aw=p at hp ⊢
  obtain⟨g1,hd,hc,hr,gh,g2⟩:=hp
  rename_i ad d c r pd s
  simp only
  by_cases c1:n≤d
  case neg =>
   rw[Chh (by omega) hn,Aa,aa1 (by decide)]
   exact⟨_,.funds hv k hk h1 d c r pd s (by rw[ph]) hd (by omega),rfl⟩
  rw[Ck1 hd c1,Aa,aa0 rfl]
  by_cases c2:Al (pd+n)
  case neg =>
   rw[Acb gh hn c2,Aa,aa1 (by decide)]
   exact⟨_,.over hv k hk h1 d c r pd s (by rw[ph]) hd gh c1 c2,rfl⟩
  rw[Agu gh hn c2,Aa,aa0 rfl,Acs,Aa]
  have cg:=Bwi.done (l:=l) (a:=a) hv k hk h1 d c r pd s (by rw[ph]) hd hc hr gh c1 c2
  rw[ph] at cg
  refine⟨_,cg,?_⟩
  have ik:(0:Int)≤(k:Int)∧(k:Int)<(l.length:Int):=by omega
  simp only[Ao,aa0 ik]
  rw[Ad]
  by_cases d0:d-n=0
  ·rw[aa0 d0,aa0 d0,Aa,aa0 ik]
  ·rw[aa1 d0,aa1 d0,Aa,aa0 ik]
end Go.Pon
