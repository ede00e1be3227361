/-
  Part of a proof: general lemmas, merged by a program of this work.
-/
import Derived.Laws.Externs
import Derived.Shelf.Slices.Delete
import Derived.Shelf.Spec.SlicesInsertGrow
import Derived.Test.YtjbkeldlldpddaaGreatF2
set_option autoImplicit false
set_option linter.unusedVariables false
set_option linter.unusedSimpArgs false
noncomputable section
namespace Go.Pon
open Go
abbrev Caa:Ez:=.ro true (.int .u64)
theorem Bub{w:World}{ok:Bool→Nat→Prop}{base:Nat}{v:Value}{x:Int}{bs:List Nat}(ha:C7 v=(Caa).ty.agg)(h:MR w ok base Caa v.cells.toList x bs) :
  v=.int .u64 x∧(0≤x∧x≤18446744073709551615)∧bs=[]:=by
 obtain⟨h1,h2⟩:=h
 have ha:C7 v=false:=ha
 rw[Bq ha] at h2
 obtain⟨h3,h4⟩:=h2
 refine⟨by simpa using h3,?_,h1⟩
 simpa [inK,IntKind.min,IntKind.max,IntKind.signed,IntKind.bits] using h4
theorem Cjc{w:World}{ok:Bool→Nat→Prop}{base:Nat}{x:Int}(h:0≤x∧x≤18446744073709551615):MR w ok base Caa (Value.int .u64 x).cells.toList x [] :=
 ⟨rfl,rfl,by simpa [inK,IntKind.min,IntKind.max,IntKind.signed,IntKind.bits] using h⟩
abbrev Amk:Ce:=⟨[Caa,Caa,Caa],[Caa,Caa]⟩
theorem Ciu{P:Program}{f:FuncId}{fn:Func}{e:Array Value→Sem Value}(hf:P.funcs[f]?=some fn)(hname:(fn.name == "runtime.NumGoroutine")=false)
  (hb:fn.body.isNone=true) (hn:Extern.findNext fn=none) (he:Extern.find fn=some e) {F:O7 Amk.ins→Option Amk.outDen}
  (hF:∀ (x y c:Int) (r:Amk.outDen) (w:World),(0≤x∧x≤18446744073709551615)→(0≤y∧y≤18446744073709551615)→(0≤c∧c≤18446744073709551615)→F (x,y,c,())=some r →
   (e #[.int .u64 x,.int .u64 y,.int .u64 c]).run P w=.ok (.tuple #[.int .u64 r.1.1,.int .u64 r.1.2.1]) w∧(0≤r.1.1∧r.1.1≤18446744073709551615)∧(0≤r.1.2.1∧r.1.2.1≤18446744073709551615)):A6 P f Amk F:=by
 intro w B vals x bs y hy hB hnd hnB hr
 obtain⟨v1,r1,b1,c1,rfl,a1,m1,hr,rfl⟩:=hr
 obtain⟨v2,r2,b2,c2,rfl,a2,m2,hr,rfl⟩:=hr
 obtain⟨v3,r3,b3,c3,rfl,a3,m3,hr,rfl⟩:=hr
 obtain⟨rfl,rfl⟩:=hr
 obtain⟨x1,x2,x3,xu⟩:=x
 obtain⟨e1,k1,rfl⟩:=Bub a1 m1
 obtain⟨e2,k2,rfl⟩:=Bub a2 m2
 obtain⟨e3,k3,rfl⟩:=Bub a3 m3
 subst e1 e2 e3
 obtain⟨g1,g2,g3⟩:=hF x1 x2 x3 y w k1 k2 k3 hy
 refine .inr ⟨_,w,?_,[.int .u64 y.1.1,.int .u64 y.1.2.1],[],[],rfl,?_,?_,by simp,by simp,?_,fun h=>by cases h⟩
 ·rw[run_callFunc_extern hf hname hb hn he]
  show ((e #[.int .u64 x1,.int .u64 x2,.int .u64 x3]).run P w).andThen _=_
  rw[g1]
  rfl
 ·exact⟨_,_,[],[],rfl,rfl,Cjc g2,⟨_,_,[],[],rfl,rfl,Cjc g3,⟨rfl,rfl⟩,rfl⟩,rfl⟩
 ·exact⟨_,_,[],[],rfl,rfl,⟨rfl,rfl⟩,⟨_,_,[],[],rfl,rfl,⟨rfl,rfl⟩,⟨_,_,[],[],rfl,rfl,⟨rfl,rfl⟩,⟨rfl,rfl⟩,rfl⟩,rfl⟩,rfl⟩
 ·exact⟨rfl,rfl,rfl,Nat.le_refl _,fun _ _ _=>rfl⟩
def Ckx(x:O7 Amk.ins):Option Amk.outDen :=
 if x.2.2.1≤1 then some (((x.1+x.2.1+x.2.2.1) % 18446744073709551616,(x.1+x.2.1+x.2.2.1) / 18446744073709551616,()),(),(),(),()) else none
def Cpz(x:O7 Amk.ins):Option Amk.outDen :=
 if x.2.2.1≤1 then some (((x.1-x.2.1-x.2.2.1) % 18446744073709551616,(if x.1<x.2.1+x.2.2.1 then 1 else 0),()),(),(),(),()) else none
def Civ(which:String)(g:Nat→Nat→Nat→Nat×Nat):Array Value→Sem Value:=fun args=>do
 let (x,y,c) ← Extern.MathBitsCarry.three which args
 pure (Extern.MathBitsCarry.pair (g x y c).1 (g x y c).2)
theorem Cbk{P:Program}{which:String}{g:Nat→Nat→Nat→Nat×Nat}(x y c:Nat)(hc:c≤1)(w:World) :
  (Civ which g #[.int .u64 x,.int .u64 y,.int .u64 c]).run P w=.ok (.tuple #[.int .u64 ((g x y c).1:Nat),.int .u64 ((g x y c).2:Nat)]) w:=by
 have:c=0∨c=1:=by omega
 rcases this with rfl|rfl<;>rfl
abbrev Cs9(x y c:Nat):Nat×Nat:=((x+y+c) % Extern.MathBitsCarry.m64,(x+y+c) / Extern.MathBitsCarry.m64)
theorem Cjx{P:Program}{f:FuncId}{fn:Func}(hf:P.funcs[f]?=some fn)(hname:(fn.name == "runtime.NumGoroutine")=false)
  (hb:fn.body.isNone=true) (hn:Extern.findNext fn=none) (he:Extern.find fn=some (Civ "Add64" Cs9)):A6 P f Amk Ckx :=
 Ciu hf hname hb hn he fun x y c r w hx hy hc h=>by
  unfold Ckx at h
  simp only at h
  split at h
  ·rename_i hc1
   cases h
   obtain⟨a,rfl⟩:=Int.eq_ofNat_of_zero_le hx.1
   obtain⟨b,rfl⟩:=Int.eq_ofNat_of_zero_le hy.1
   obtain⟨d,rfl⟩:=Int.eq_ofNat_of_zero_le hc.1
   have hm:Extern.MathBitsCarry.m64=18446744073709551616:=rfl
   have hc1:(d:Int)≤1:=hc1
   rw[Cbk a b d (by omega)]
   have q1:0≤((a:Int)+b+d) % 18446744073709551616∧((a:Int)+b+d) % 18446744073709551616≤18446744073709551615:=by omega
   have q2:0≤((a:Int)+b+d) / 18446744073709551616∧((a:Int)+b+d) / 18446744073709551616≤18446744073709551615:=by omega
   refine⟨?_,q1,q2⟩
   simp only[hm]
   congr 5
  ·cases h
end Go.Pon
namespace Go.Pon
open Go Go.Proofs Go.Shelf Go.RowKit Go.Lib
abbrev Cnf(t:Ty):Ce:=⟨[.own false t,.ro true (.int .i64),.own false t],[.own false t]⟩
def Cxt(t:Ty)(x:O7 (Cnf t).ins):Option (Cnf t).outDen :=
 if 0≤x.2.1∧x.2.1≤(List.length x.1:Int)∧0<List.length x.2.2.1∧A9 (List.length x.1+List.length x.2.2.1) t=true then
  some ((List.append (List.take x.2.1.toNat x.1) (List.append x.2.2.1 (List.drop x.2.1.toNat x.1)),()),(),(),(),()) else none
end Go.Pon
namespace Go.Pon
open Go Go.Proofs Go.Shelf Go.RowKit Go.Lib
abbrev Cmz(t:Ty):Ce:=⟨[.own false t,.ro true (.int .i64),.ro true (.int .i64)],[.own false t]⟩
def Cvt(t:Ty)(x:O7 (Cmz t).ins):Option (Cmz t).outDen :=
 if 0≤x.2.1∧x.2.1<x.2.2.1∧x.2.2.1≤(List.length x.1:Int)∧A9 (List.length x.1) t=true then
  some ((List.append (List.take x.2.1.toNat x.1) (List.drop x.2.2.1.toNat x.1),()),(),(),(),()) else none
end Go.Pon
