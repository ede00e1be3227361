/-
  Part of a proof: general lemmas, merged by a program of this work.
-/
import Derived.Calls
import Derived.ChangeKeysEq
import Derived.Laws.AppendOwn
import Derived.Laws.BytesString
import Derived.Laws.StructEq
import Derived.Orders
set_option autoImplicit false
set_option linter.unusedVariables false
set_option linter.unusedSimpArgs false
noncomputable section
namespace Go.Pon
open Go
inductive Ty where
 | unit
 | pair (a b:Ty)
 | int (k:IntKind)
 | bool
 | str
 | arr (n:Nat) (t:Ty)
 | slice (t:Ty)
 | ptr
 deriving DecidableEq
@[reducible] def Ty.den:Ty→Type
 | .unit=>Unit
 | .pair a b=>a.den×b.den
 | .int _=>Int
 | .bool=>Bool
 | .str=>List Int
 | .arr _ t=>List t.den
 | .slice t=>List t.den
 | .ptr=>Unit
def Ty.zero:(t:Ty)→t.den
 | .unit=>()
 | .pair a b=>(a.zero,b.zero)
 | .int _=>(0:Int)
 | .bool=>false
 | .str=>([]:List Int)
 | .arr n t=>List.replicate n t.zero
 | .slice t=>([]:List t.den)
 | .ptr=>()
def Ty.size:Ty→Nat
 | .unit=>0
 | .pair a b=>a.size+b.size
 | .arr n t=>n*t.size
 | _=>1
def Ty.flat:Ty→Bool
 | .pair a b=>a.flat&&b.flat
 | .arr _ t=>t.flat
 | .slice _=>false
 | _=>true
def Ty.agg:Ty→Bool
 | .unit | .pair _ _ | .arr _ _=>true
 | _=>false
def kEq:IntKind→IntKind→Bool
 | .i8,.i8 | .i16,.i16 | .i32,.i32 | .i64,.i64 | .u8,.u8 | .u16,.u16 | .u32,.u32 | .u64,.u64=>true
 | _,_=>false
def Ty.beq:Ty→Ty→Bool
 | .unit,.unit | .bool,.bool | .str,.str | .ptr,.ptr=>true
 | .pair a b,.pair c d=>Ty.beq a c&&Ty.beq b d
 | .int k,.int l=>kEq k l
 | .arr n t,.arr m u=>Nat.beq n m&&Ty.beq t u
 | .slice t,.slice u=>Ty.beq t u
 | _,_=>false
def Bac:Option Ty→Bool
 | some (.slice (.int .u8))=>true
 | _=>false
def Xh{a:Ty}(x:a.den)(b:Ty):Option b.den:=if h:a=b then some (h▸x) else none
def eqL{α:Type}(e:α→α→Bool):List α→List α→Bool
 | [],[]=>true
 | a::l,b::m=>e a b&&eqL e l m
 | _,_=>false
def eqD:(t:Ty)→t.den→t.den→Bool
 | .unit,_,_=>true
 | .pair a b,x,y=>eqD a x.1 y.1&&eqD b x.2 y.2
 | .int _,x,y=>decide ((x:Int)=y)
 | .bool,x,y=>(x:Bool) == y
 | .str,x,y=>decide ((x:List Int)=y)
 | .arr _ t,x,y=>eqL (eqD t) x y
 | .slice t,x,y=>eqL (eqD t) x y
 | .ptr,_,_=>true
abbrev Id:=Nat×Nat×Nat
def idE:Id→Id→Bool
 | (a,b,c),(d,e,f)=>Nat.beq c f&&(Nat.beq b e&&Nat.beq a d)
def Id.nxt:Id→Id
 | (a,b,c)=>(a,b,Nat.succ c)
inductive AV where
 | any
 | un
 | d (fr:Bool) (t:Ty) (x:t.den)
 | nilp
 | nils
 | own (id:Id) (ver:Nat)
 | view (id:Id) (ver lo hi:Nat) (cp:Bool)
 | mview (id:Id) (path:List Nat) (lo hi:Nat)
 | mapp (id:Id)
 | ptr (id:Id) (path:List Nat)
 | eptr (id:Id) (ver i:Nat) (path:List Nat)
 | rptr (fr:Bool) (t:Ty) (x:t.den)
 | pair (a b:AV)
 | tup (a:AV)
 | fn (f:FuncId) (caps:AV)
 | ub (e r:Bool)
inductive Ez where
 | ro (fr:Bool) (t:Ty)
 | own (fr:Bool) (t:Ty)
 | ptr (m:Ez)
 | optr (m:Ez)
 | pair (a b:Ez)
 | fn (f:FuncId) (m:Ez)
 | nilm (t:Ty)
 | rp (t:Ty)
 | full (t:Ty)
 | bor (t:Ty)
 | mapm (k:IntKind) (t:Ty)
 | orp (t:Ty)
 | ign
 deriving DecidableEq
@[reducible] def Ez.den:Ez→Type
 | .ro _ t=>t.den
 | .own _ t=>List t.den
 | .ptr m=>m.den
 | .optr m=>Option m.den
 | .pair a b=>a.den×b.den
 | .fn _ m=>m.den
 | .nilm _=>Unit
 | .rp t=>t.den
 | .full t=>List t.den
 | .bor t=>List t.den
 | .mapm _ t=>List (Int×t.den)
 | .orp t=>Option t.den
 | .ign=>Unit
@[reducible] def O7:List Ez→Type
 | []=>Unit
 | m::ms=>m.den×O7 ms
def Ez.ty:Ez→Ty
 | .ro _ t=>t
 | .own _ t=>.slice t
 | .ptr _=>.ptr
 | .optr _=>.ptr
 | .pair a b=>.pair a.ty b.ty
 | .fn _ _=>.ptr
 | .nilm t=>.slice t
 | .rp _=>.ptr
 | .full t=>.slice t
 | .bor t=>.slice t
 | .mapm _ _=>.ptr
 | .orp _=>.ptr
 | .ign=>.ptr
def Ez.upd:Ez→Ez
 | .ptr m=>.ptr m
 | .optr m=>.optr m
 | _=>.ro true .unit
def Bgo:List Ez→List Ez
 | []=>[]
 | m::ms=>m.upd::Bgo ms
structure Ce where
 ins:List Ez
 outs:List Ez
 deriving DecidableEq
def Bb1(s:Ce):Bool :=
 match s.ins,s.outs with
 | [.bor _],[.ro false (.slice _)]=>true
 | _,_=>false
def Bw3:(ms:List Ez)→O7 ms→Nat
 | .ro _ (.slice _)::_,x=>List.length x.1
 | _,_=>0
@[reducible] def Ce.outDen (s:Ce):Type:=O7 s.outs×O7 (Bgo s.ins)
inductive Obj where
 | sli (ver:Nat) (fr:Bool) (t:Ty) (rows:List t.den)
 | frz (ver:Nat) (fr:Bool) (t:Ty) (rows:List t.den)
 | mem (fr:Bool) (t:Ty) (c:AV)
 | mfz (fr:Bool) (t:Ty) (c:AV)
 | mpo (k:IntKind) (t:Ty) (l:List (Int×t.den))
def Rn{α:Type}(d:α):List (Int×α)→Int→α
 | [],_=>d
 | p::l,x=>bif decide (p.1=x) then p.2 else Rn d l x
def K4{α:Type}:List (Int×α)→Int→α→List (Int×α)
 | [],x,y=>[(x,y)]
 | p::l,x,y=>bif decide (p.1=x) then (x,y)::l else p::K4 l x y
abbrev Rc:=List (Id×Option Obj)
inductive OpT(α:Type) where
 | fail
 | done (a:α)
 | br (c:Bool) (t e:OpT α)
 | get (id:Id) (k:Obj→OpT α)
 | call (f:FuncId) (s:Ce) (x:O7 s.ins) (k:s.outDen→OpT α)
 | opt (m:Ez) (o:Option m.den) (kn:OpT α) (ks:m.den→OpT α)
abbrev OpV:=OpT (AV×Rc)
def OpT.chk{α:Type}(c:Bool)(k:OpT α):OpT α:=.br c k .fail
def Bfd{ω δ:Type}(round:(δ→Option ω)→δ→Option ω)(n:Nat):δ→Option ω :=
 Nat.rec (motive:=fun _=>δ→Option ω) (fun _=>none) (fun _ ih=>round ih) n
abbrev Ae:=(ω δ:Type)→((δ→Option ω)→δ→Option ω)→δ→Option ω
theorem Bcq{ω δ:Type}(round:(δ→Option ω)→δ→Option ω)(n:Nat)(x:δ):Bfd round (n+1) x=round (Bfd round n) x:=rfl
def Ctw{α:Type}(c:Bool)(t e:Option α):Option α :=
 match c with
 | true=>t
 | false=>e
def Cst{α:Type}(c:Bool)(t e:Option α):Option α:=Ctw c t e
def Ctn{α:Type}(c:Bool)(t e:Option α):Option α:=Cst c t e
def Ah{α:Type}(c:Bool)(t e:Option α):Option α:=Ctn c t e
theorem Au{α:Type}(t e:Option α):Ah true t e=t:=rfl
theorem Bp{α:Type}(t e:Option α):Ah false t e=e:=rfl
def Cqw{α β:Type}(v:α)(k:α→β):β:=k v
def Cpl{α β:Type}(v:α)(k:α→β):β:=Cqw v k
def Cqh{α β:Type}(v:α)(k:α→β):β:=Cpl v k
def Cqf{α β:Type}(v:α)(k:α→β):β:=Cqh v k
def Cp0{α β:Type}(v:α)(k:α→β):β:=Cqf v k
def Cpq{α β:Type}(v:α)(k:α→β):β:=Cp0 v k
def Cp7{α β:Type}(v:α)(k:α→β):β:=Cpq v k
def A2{α β:Type}(v:α)(k:α→β):β:=Cp7 v k
theorem Am{α β:Type}(v:α)(k:α→β):A2 v k=k v:=rfl
def Bj6{α:Type}(a b:Option α):Option α:=@ite (Option α) (a=b) (Classical.propDecidable _) a none
theorem Ccf{α:Type}{a b:Option α}{r:α}(h:Bj6 a b=some r):a=some r∧b=some r:=by
 unfold Bj6 at h
 by_cases e:a=b
 ·rw[@if_pos _ (Classical.propDecidable _) e] at h
  exact⟨h,e▸h⟩
 ·rw[@if_neg _ (Classical.propDecidable _) e] at h
  cases h
theorem Bnp{α:Type}{a b:Option α}{r:Option α}(h1:a=r)(h2:b=r):Bj6 a b=r:=by
 subst h1;subst h2
 unfold Bj6
 exact @if_pos _ (Classical.propDecidable _) rfl _ _ _
def Ce1{α β:Type}(o:Option α)(n:Option β)(s:α→Option β):Option β :=
 match o with
 | none=>n
 | some a=>s a
end Go.Pon
namespace Go.Pon
open Go
def Tu{α β:Type}(f:α→β):List α→List β
 | []=>[]
 | a::l=>f a::Tu f l
def Asz{α:Type}:Nat→List α→List (Nat×α)
 | _,[]=>[]
 | n,a::l=>(n,a)::Asz (Nat.succ n) l
def Fg{α:Type}:List α→List α→List α
 | [],m=>m
 | a::l,m=>a::Fg l m
def To{α:Type}(f:α→Bool):List α→Bool
 | []=>true
 | a::l=>f a&&To f l
def Bvr{α:Type}:List α→Nat→Option α
 | [],_=>none
 | a::_,0=>some a
 | _::l,n+1=>Bvr l n
structure Ali where
 s:Nat
 q:Nat
 t:Ty
 i:Nat
structure Ctx where
 ali:FuncId→Nat→List Ali
 ty:TypeId→Option Ty
 sig:FuncId→Option Ce
 hint:FuncId→Nat→List (Nat×Ez)
 cut:Bool
 func:FuncId→Option Func
 mapT:TypeId→Option (IntKind×Ty):=fun _=>none
def Bre(fr:Bool):(t:Ty)→t.den→List Nat→Option AV
 | t,x,[]=>some (.d fr t x)
 | .pair a b,x,i::p=>match i with
  | 0=>Bre fr a x.1 p
  | n+1=>Bre fr b x.2 (n::p)
 | .arr _ t,x,i::p=>Bre fr t (List.getD x i t.zero) p
 | _,_,_=>none
def K9:Ty→List Nat→Option Ty
 | t,[]=>some t
 | .pair a b,i::p=>match i with
  | 0=>K9 a p
  | n+1=>K9 b (n::p)
 | .arr _ t,_::p=>K9 t p
 | _,_=>none
def By:Ty→List Nat→Nat
 | _,[]=>0
 | .pair a b,i::p=>match i with
  | 0=>By a p
  | n+1=>a.size+By b (n::p)
 | .arr _ t,i::p=>i*t.size+By t p
 | _,_=>0
def Bmj:(t:Ty)→t.den→List Nat→(u:Ty)→u.den→Option t.den
 | t,_,[],_,y=>Xh y t
 | .pair a b,x,i::p,u,y=>match i with
  | 0=>(Bmj a x.1 p u y).map fun z=>(z,x.2)
  | n+1=>(Bmj b x.2 (n::p) u y).map fun z=>(x.1,z)
 | .arr _ t,x,i::p,u,y=>(Bmj t (List.getD x i t.zero) p u y).map fun z=>List.set x i z
 | _,_,_,_,_=>none
def Axo:AV→List Nat→Option AV
 | v,[]=>some v
 | .pair a b,i::p=>match i with
  | 0=>Axo a p
  | n+1=>Axo b (n::p)
 | .d fr t x,p=>Bre fr t x p
 | _,_=>none
def Bq4(fr:Bool):(t:Ty)→t.den→List Nat→AV→Option AV
 | _,_,[],v=>some v
 | .pair a b,x,i::p,v=>match i with
  | 0=>(Bq4 fr a x.1 p v).map fun z=>.pair z (.d fr b x.2)
  | n+1=>(Bq4 fr b x.2 (n::p) v).map fun z=>.pair (.d fr a x.1) z
 | _,_,_,_=>none
def Bot:AV→List Nat→AV→Option AV
 | _,[],v=>some v
 | .pair a b,i::p,v=>match i with
  | 0=>(Bot a p v).map fun a'=>.pair a' b
  | n+1=>(Bot b (n::p) v).map fun b'=>.pair a b'
 | .d fr t x,p,.d fr' u y=>(Bmj t x p u y).map fun z=>.d (fr&&fr') t z
 | .d fr t x,p,v=>Bq4 fr t x p v
 | _,_,_=>none
@[simp] def Cri:AV→Bool
 | .any=>true
 | .un=>true
 | .tup _=>true
 | _=>false
def Bh:Ty→AV→Bool
 | t,.d _ u _=>Ty.beq u t
 | t,.pair a b=>match t with
  | .pair t u=>Bh t a&&Bh u b
  | _=>false
 | t,v=>!Cri v&&!t.agg
def asD:AV→(t:Ty)→Option (Bool×t.den)
 | .d fr _ x,t=>(Xh x t).map fun y=>(fr,y)
 | .pair a b,.pair t u=>match asD a t,asD b u with
  | some (f,x),some (g,y)=>some (f&&g,x,y)
  | _,_=>none
 | .nils,.slice _=>some (true,[])
 | .nilp,.ptr=>some (true,())
 | _,_=>none
def asInt:AV→Option (IntKind×Int)
 | .d _ (.int k) x=>some (k,x)
 | _=>none
def asBool:AV→Option Bool
 | .d _ .bool x=>some x
 | _=>none
def mkD(fr:Bool)(t:Ty)(x:t.den):AV:=.d (fr||t.flat) t x
def Tf(k:IntKind)(x:Int):AV:=.d true (.int k) x
def Bg8(b:Bool):AV:=.d true .bool b
def Ty.bare:Ty→Bool
 | .pair a b=>a.bare&&b.bare
 | .arr _ t=>t.bare
 | .slice _=>false
 | .ptr=>false
 | _=>true
def Axt:Ty→AV
 | .slice _=>.nils
 | .ptr=>.nilp
 | .pair a b=>bif a.bare&&b.bare then .d true (.pair a b) (a.zero,b.zero) else .pair (Axt a) (Axt b)
 | t=>.d true t t.zero
def Chr:Fn→List Value→List Value→AV
 | .func f,[],[]=>.fn f (.d true .unit ())
 | _,_,_=>.any
def Ciz:Value→AV
 | .bool b=>Bg8 b
 | .int k n=>Tf k n
 | .string s=>.d true .str (s.data.toList.map fun b=>(b.toNat:Int))
 | .pointer none=>.nilp
 | .slice none 0 0=>.nils
 | .func fn first caps=>Chr fn first.toList caps.toList
 | _=>.any
section
variable {α:Type}
structure Cl where
 ups:Rc
 br:List Id
def Bba:List Id→Id→Bool
 | [],_=>false
 | a::l,n=>idE a n||Bba l n
def Al3:Rc→Id→Bool
 | [],_=>false
 | p::r,id=>idE p.1 id||Al3 r id
def Arz:Rc→Id→Bool
 | [],_=>false
 | (i,none)::r,id=>idE i id||Arz r id
 | (_,some _)::r,id=>Arz r id
def Cl.lend(c:Cl)(frz:Bool)(id:Id)(o:Obj):Cl :=
 bif frz then ⟨(id,some o)::c.ups,c.br⟩ else ⟨c.ups,id::c.br⟩
def Vl(v:AV)(t:Ty)(c:Cl)(frz:Bool)(k:Bool→List t.den→Cl→OpT α):OpT α :=
 match v with
 | .d fr u x=>match Xh (b:=.slice t) x with
  | some y=>k fr y c
  | none=>.fail
 | .nils=>k true [] c
 | .own id ver=>bif Arz c.ups id then .fail else .get id fun
  | .sli ver' fr u rows=>match Nat.beq ver' ver,Xh (a:=.slice u) rows (.slice t) with
   | true,some y=>k fr y (c.lend frz id (.frz ver fr u rows))
   | _,_=>.fail
  | .frz ver' fr u rows=>match Nat.beq ver' ver,Xh (a:=.slice u) rows (.slice t) with
   | true,some y=>k fr y c
   | _,_=>.fail
  | _=>.fail
 | .view id ver lo hi _=>bif Arz c.ups id then .fail else .get id fun
  | .sli ver' fr u rows=>match Nat.beq ver' ver,Xh (a:=.slice u) rows (.slice t) with
   | true,some y=>k fr ((List.drop lo y).take (hi-lo)) (c.lend frz id (.frz ver fr u rows))
   | _,_=>.fail
  | .frz ver' fr u rows=>match Nat.beq ver' ver,Xh (a:=.slice u) rows (.slice t) with
   | true,some y=>k fr ((List.drop lo y).take (hi-lo)) c
   | _,_=>.fail
  | _=>.fail
 | .mview id path lo hi=>bif Arz c.ups id then .fail else .get id fun
  | .mem fm tm m=>match Axo m path with
   | some (.d fr (.arr _ u) x)=>match Xh (a:=.slice u) x (.slice t) with
    | some y=>k (fr&&fm) ((List.drop lo y).take (hi-lo)) (c.lend frz id (.mfz fm tm m))
    | none=>.fail
   | _=>.fail
  | .mfz fm _ m=>match Axo m path with
   | some (.d fr (.arr _ u) x)=>match Xh (a:=.slice u) x (.slice t) with
    | some y=>k (fr&&fm) ((List.drop lo y).take (hi-lo)) c
    | none=>.fail
   | _=>.fail
  | _=>.fail
 | _=>.fail
def roK(frz:Bool):AV→(t:Ty)→Cl→(Bool→t.den→Cl→OpT α)→OpT α
 | .d fr _ x,t,c,k=>match Xh x t with
  | some y=>k fr y c
  | none=>.fail
 | .pair a b,.pair t u,c,k=>roK frz a t c fun f x c=>roK frz b u c fun g y c=>k ((f||t.flat)&&(g||u.flat)) (x,y) c
 | v,.slice t,c,k=>Vl v t c frz k
 | .nilp,.ptr,c,k=>k true () c
 | _,_,_,_=>.fail
def Dg(frz:Bool):(m:Ez)→AV→Cl→(m.den→Cl→OpT α)→OpT α
 | .ro fr t,v,c,k=>roK frz v t c fun fr' x c=>bif !fr||fr'||t.flat then k x c else .fail
 | .own fr t,.own id ver,c,k=>bif Al3 c.ups id||Bba c.br id then .fail else .get id fun
  | .sli ver' fr' u rows=>match Nat.beq ver' ver&&(!fr||fr'),Xh (a:=.slice u) rows (.slice t) with
   | true,some y=>k y ⟨(id,none)::c.ups,c.br⟩
   | _,_=>.fail
  | _=>.fail
 | .own _ _,.nils,c,k=>k [] c
 | .ptr m,.ptr id [],c,k=>bif Al3 c.ups id||Bba c.br id then .fail else .get id fun
  | .mem _ u x=>bif Ty.beq u m.ty then Dg frz m x ⟨(id,none)::c.ups,c.br⟩ k else .fail
  | _=>.fail
 | .optr _,.nilp,c,k=>k none c
 | .optr m,.ptr id [],c,k=>bif Al3 c.ups id||Bba c.br id then .fail else .get id fun
  | .mem _ u x=>bif Ty.beq u m.ty then Dg frz m x ⟨(id,none)::c.ups,c.br⟩ fun y c=>k (some y) c else .fail
  | _=>.fail
 | .pair a b,.pair v w,c,k=>Dg frz a v c fun x c=>Dg frz b w c fun y c=>k (x,y) c
 | .pair a b,.d fr (.pair t u) x,c,k=>Dg frz a (.d fr t x.1) c fun z c=>Dg frz b (.d fr u x.2) c fun y c=>k (z,y) c
 | .fn f m,.fn g x,c,k=>bif Nat.beq f g then Dg frz m x c k else .fail
 | .nilm _,.nils,c,k=>k () c
 | .full t,.view id ver lo hi cp,c,k=>bif !(cp&&Nat.beq lo 0&&t.flat)||(Al3 c.ups id||Bba c.br id) then .fail else .get id fun
  | .sli ver' _ u rows=>match Nat.beq ver' ver,Xh (a:=.slice u) rows (.slice t) with
   | true,some y=>.chk (decide (0<hi)&&decide (hi=List.length y)) (k y ⟨(id,none)::c.ups,c.br⟩)
   | _,_=>.fail
  | _=>.fail
 | .full t,.nils,c,k=>bif t.flat then k [] c else .fail
 | .bor t,.own id ver,c,k=>bif Arz c.ups id then .fail else .get id fun
  | .sli ver' fr u rows=>match Nat.beq ver' ver,Xh (a:=.slice u) rows (.slice t) with
   | true,some y=>k y (c.lend frz id (.frz ver fr u rows))
   | _,_=>.fail
  | .frz ver' fr u rows=>match Nat.beq ver' ver,Xh (a:=.slice u) rows (.slice t) with
   | true,some y=>k y c
   | _,_=>.fail
  | _=>.fail
 | .mapm kk t,.mapp id,c,k=>bif Al3 c.ups id||Bba c.br id then .fail else .get id fun
  | .mpo kk' u l=>match kEq kk' kk,Xh (a:=.slice (.pair (.int kk) u)) l (.slice (.pair (.int kk) t)) with
   | true,some y=>k y ⟨(id,none)::c.ups,c.br⟩
   | _,_=>.fail
  | _=>.fail
 | .rp t,.rptr _ u x,c,k=>match Xh x t with
  | some y=>k y c
  | none=>.fail
 | .rp t,.ptr id [],c,k=>bif Arz c.ups id then .fail else .get id fun
  | .mem fm u x=>bif Ty.beq u t then roK frz x t (c.lend frz id (.mfz fm u x)) fun _ y c=>k y c else .fail
  | .mfz _ u x=>bif Ty.beq u t then roK frz x t c fun _ y c=>k y c else .fail
  | _=>.fail
 | .orp _,.nilp,c,k=>k none c
 | .orp t,.rptr _ u x,c,k=>match Xh x t with
  | some y=>k (some y) c
  | none=>.fail
 | .ign,.fn _ _,c,k=>k () c
 | _,_,_,_=>.fail
def Any(frz:Bool):(ms:List Ez)→List AV→Cl→(O7 ms→Cl→OpT α)→OpT α
 | [],[],c,k=>k () c
 | m::ms,v::vs,c,k=>Dg frz m v c fun x c=>Any frz ms vs c fun y c=>k (x,y) c
 | _,_,_,_=>.fail
def Ax4:(m:Ez)→m.den→Id→Rc→(AV→Id→Rc→OpT α)→OpT α
 | .ro fr t,x,n,u,k=>k (mkD fr t x) n u
 | .own fr t,x,n,u,k=>k (.own n 0) (n.nxt) ((n,some (.sli 0 fr t x))::u)
 | .ptr m,x,n,u,k=>Ax4 m x (n.nxt) u fun a n' u'=>k (.ptr n []) n' ((n,some (.mem false m.ty a))::u')
 | .optr m,x,n,u,k=>.opt m x (k .nilp n u) fun y=>Ax4 m y (n.nxt) u fun a n' u'=>k (.ptr n []) n' ((n,some (.mem false m.ty a))::u')
 | .pair a b,x,n,u,k=>Ax4 a x.1 n u fun v n' u'=>Ax4 b x.2 n' u' fun w n'' u''=>k (.pair v w) n'' u''
 | .fn f m,x,n,u,k=>Ax4 m x n u fun c n' u'=>k (.fn f c) n' u'
 | .nilm _,_,n,u,k=>k .nils n u
 | .rp t,x,n,u,k=>k (.rptr false t x) n u
 | .full t,x,n,u,k=>k (.view n 0 0 (List.length x) true) (n.nxt) ((n,some (.sli 0 false t x))::u)
 | .bor t,x,n,u,k=>k (.own n 0) (n.nxt) ((n,some (.frz 0 false t x))::u)
 | .mapm kk t,x,n,u,k=>k (.mapp n) (n.nxt) ((n,some (.mpo kk t x))::u)
 | .orp t,x,n,u,k=>.opt (.rp t) x (k .nilp n u) fun y=>k (.rptr false t y) n u
 | .ign,_,_,_,_=>.fail
def Cnd:(m:Ez)→m.den→Id→Rc→(AV→Id→Rc→OpT α)→OpT α
 | .ign,_,n,u,k=>k .any n u
 | m,x,n,u,k=>Ax4 m x n u k
def Bbu:(ms:List Ez)→O7 ms→Id→Rc→(List AV→Id→Rc→OpT α)→OpT α
 | [],_,n,u,k=>k [] n u
 | m::ms,x,n,u,k=>Cnd m x.1 n u fun v n' u'=>Bbu ms x.2 n' u' fun vs n'' u''=>k (v::vs) n'' u''
def But:(m:Ez)→AV→(m.upd).den→Id→Rc→(Id→Rc→OpT α)→OpT α
 | .ptr m,.ptr id [],x,n,u,k=>Ax4 m x n u fun a n' u'=>k n' ((id,some (.mem false m.ty a))::u')
 | .optr m,.ptr id [],x,n,u,k=>.opt m x .fail fun y=>Ax4 m y n u fun a n' u'=>k n' ((id,some (.mem false m.ty a))::u')
 | .optr m,.nilp,x,n,u,k=>.opt m x (k n u) fun _=>.fail
 | .ro _ _,_,_,n,u,k=>k n u
 | .own _ _,_,_,n,u,k=>k n u
 | .pair _ _,_,_,n,u,k=>k n u
 | .fn _ _,_,_,n,u,k=>k n u
 | .nilm _,_,_,n,u,k=>k n u
 | .rp _,_,_,n,u,k=>k n u
 | .full _,_,_,n,u,k=>k n u
 | .bor _,_,_,n,u,k=>k n u
 | .mapm _ _,_,_,n,u,k=>k n u
 | .orp _,_,_,n,u,k=>k n u
 | .ign,_,_,n,u,k=>k n u
 | _,_,_,_,_,_=>.fail
def Bgk:(ms:List Ez)→List AV→O7 (Bgo ms)→Id→Rc→(Id→Rc→OpT α)→OpT α
 | [],[],_,n,u,k=>k n u
 | m::ms,v::vs,x,n,u,k=>But m v x.1 n u fun n' u'=>Bgk ms vs x.2 n' u' k
 | _,_,_,_,_,_=>.fail
end
def Ez.alias:Ez→Bool
 | .ro fr t=>!fr&&!t.flat
 | .own fr t=>!fr&&!t.flat
 | .ptr m | .optr m=>m.alias
 | .pair a b=>a.alias||b.alias
 | .fn _ m=>m.alias
 | .nilm _=>false
 | .rp _=>true
 | .full _=>false
 | .bor _=>true
 | .mapm _ _=>true
 | .orp _=>true
 | .ign=>true
def Ce.alias(s:Ce):Bool:=!To (fun m=>!m.alias) s.outs||!To (fun m=>!m.upd.alias) s.ins
def Aya:List AV→AV
 | []=>.d true .unit ()
 | v::vs=>.pair v (Aya vs)
def Bid:AV→Bool
 | .any=>false
 | .un=>false
 | .tup _=>false
 | .pair _ _=>false
 | .d _ t _=>!t.agg
 | _=>true
def Aem:AV→Option (List AV)
 | .d _ .unit _=>some []
 | .pair v w=>bif Bid v then (Aem w).map (v::·) else none
 | _=>none
def Cc9:List AV→AV
 | [v]=>v
 | vs=>.tup (Aya vs)
def Bw1(f:FuncId)(s:Ce)(args:List AV):OpV :=
 match args with
 | [.own id ver]=>Any false s.ins args ⟨[],[]⟩ fun x c=>.call f s x fun y=>.done (.view id ver 0 (Bw3 s.outs y.1) false,c.ups)
 | _=>.fail
def Cek(f:FuncId)(s:Ce)(args:List AV)(base:Id):OpV :=
 bif Bb1 s then Bw1 f s args else Any s.alias s.ins args ⟨[],[]⟩ fun x c =>
  .call f s x fun y =>
   Bgk s.ins args y.2 base c.ups fun n u =>
    Bbu s.outs y.1 n u fun vs _ u'=>.done (Cc9 vs,u')
def Cjw(op:BinOp)(k:IntKind)(x y:Int):OpV :=
 let r (n:Int):OpV:=.done (Tf k n,[])
 let b (c:Bool):OpV:=.done (Bg8 c,[])
 match op with
 | .add=>r (k.wrap (x+y))
 | .sub=>r (k.wrap (x-y))
 | .mul=>r (k.wrap (x*y))
 | .quo=>.chk (decide (y≠0)) (r (k.wrap (x.tdiv y)))
 | .rem=>.chk (decide (y≠0)) (r (x.tmod y))
 | .and=>r (k.wrap (BitVec.ofInt k.bits x &&& BitVec.ofInt k.bits y).toNat)
 | .or=>r (k.wrap (BitVec.ofInt k.bits x ||| BitVec.ofInt k.bits y).toNat)
 | .xor=>r (k.wrap (BitVec.ofInt k.bits x ^^^ BitVec.ofInt k.bits y).toNat)
 | .andNot=>r (k.wrap (BitVec.ofInt k.bits x &&& ~~~(BitVec.ofInt k.bits y)).toNat)
 | .eql=>b (decide (x=y))
 | .neq=>b (!decide (x=y))
 | .lss=>b (decide (x<y))
 | .leq=>b (decide (x≤y))
 | .gtr=>b (decide (x>y))
 | .geq=>b (decide (x≥y))
 | _=>.fail
def Cc8(op:BinOp)(k:IntKind)(x y:Int):OpV :=
 match op with
 | .shl=>.chk (decide (0≤y)) (.done (Tf k (k.wrap (x*2 ^ (min y.toNat k.bits))),[]))
 | .shr=>.chk (decide (0≤y)) (.done (Tf k (x.fdiv (2 ^ (min y.toNat k.bits))),[]))
 | _=>.fail
def Bao:BinOp→Bool
 | .shl | .shr=>true
 | _=>false
def Ty.dep:Ty→Nat
 | .pair a b=>max (Nat.succ a.dep) b.dep
 | .arr _ t=>Nat.succ t.dep
 | _=>1
def Bje:Option Ty→Ty→Bool
 | some u,t=>Ty.beq u t
 | none,_=>false
def Cda(id:Id)(k:OpV):OpV :=
 .get id fun
  | .mem _ _ _=>k
  | .mfz _ _ _=>k
  | _=>.fail
def eqK(ty:Option Ty)(v w:AV)(k:Bool→OpV):OpV :=
 match v,w with
 | .nilp,.nilp=>bif Bje ty .ptr then k true else .fail
 | .ptr id _,.nilp=>bif Bje ty .ptr then Cda id (k false) else .fail
 | .nilp,.ptr id _=>bif Bje ty .ptr then Cda id (k false) else .fail
 | .rptr _ _ _,.nilp=>bif Bje ty .ptr then k false else .fail
 | .nilp,.rptr _ _ _=>bif Bje ty .ptr then k false else .fail
 | .d _ t x,w=>match bif t.flat&&Bje ty t&&Nat.ble t.dep 50 then asD w t else none with
  | some (_,y)=>k (eqD t x y)
  | none=>.fail
 | _,_=>.fail
def slA:AV→Bool
 | .d _ (.slice _) _=>true
 | .nils=>true
 | _=>false
def Cjq:AV→Bool
 | .nils=>true
 | _=>false
def Ckb:Option Ty→Bool
 | some (.slice _)=>true
 | _=>false
def Bt7:AV→Bool
 | .d _ (.slice _) x=>decide (List.length x=0)
 | _=>true
def Bur(v w:AV):Bool :=
 match v with
 | .nils=>Bt7 w
 | _=>Bt7 v
def Bi3(ty:Option Ty)(v w:AV):Bool:=Ckb ty&&slA v&&slA w&&(Cjq v||Cjq w)
def Cpi(v w:AV):OpV :=
 match v,w with
 | .d _ .str x,.d _ .str y=>.chk (decide (List.length x+List.length y≤9223372036854775807)) (.done (.d true .str (List.append x y),[]))
 | _,_=>.fail
def Bob(v:AV):OpV :=
 match v with
 | .own id ver=>.get id fun
  | .sli ver' fr u rows=>bif Nat.beq ver' ver&&Ty.beq u (.int .u8) then .chk (decide (0<List.length rows)) (.done (.own id ver,[(id,some (.frz ver fr u rows))])) else .fail
  | _=>.fail
 | _=>.fail
def Cn6(op:BinOp)(ty:Option Ty)(v w:AV):OpV :=
 match asInt v,asInt w with
 | some (k,x),some (k',y)=>bif Bao op then Cc8 op k x y else bif kEq k k' then Cjw op k x y else .fail
 | _,_=>match op with
  | .eql=>bif Bi3 ty v w then .done (.ub (Bur v w) false,[]) else eqK ty v w fun b=>.done (Bg8 b,[])
  | .neq=>bif Bi3 ty v w then .done (.ub (Bur v w) true,[]) else eqK ty v w fun b=>.done (Bg8 (!b),[])
  | .add=>Cpi v w
  | _=>.fail
def unK(op:UnOp)(v:AV):OpV :=
 match op,v with
 | .neg,.d _ (.int k) x=>.done (Tf k (k.wrap (0-x)),[])
 | .xor,.d _ (.int k) x=>.done (Tf k (k.wrap (BitVec.ofInt k.bits (if k.signed then -1 else k.max) ^^^ BitVec.ofInt k.bits x).toNat),[])
 | .not,.d _ .bool x=>.done (Bg8 (!x),[])
 | _,_=>.fail
def Cj4(v:AV)(m:Option (IntKind×Ty))(k:Id→(t:Ty)→IntKind→List (Int×t.den)→OpV):OpV :=
 match v,m with
 | .mapp id,some (kk,t)=>.get id fun
  | .mpo kk' u l=>match kEq kk' kk&&t.flat,Xh (a:=.slice (.pair (.int kk) u)) l (.slice (.pair (.int kk) t)) with
   | true,some y=>k id t kk y
   | _,_=>.fail
  | _=>.fail
 | _,_=>.fail
def Bvk(v:AV)(m:Option (IntKind×Ty))(x:AV):OpV :=
 Cj4 v m fun _ t kk l=>match asInt x with
  | some (kk',n)=>bif kEq kk' kk then .done (.d true t (Rn t.zero l n),[]) else .fail
  | none=>.fail
def Bom(v:AV)(m:Option (IntKind×Ty))(x y:AV):OpV :=
 Cj4 v m fun id t kk l=>match asInt x,y with
  | some (kk',n),.d _ u z=>match Xh z t with
   | some z'=>bif kEq kk' kk then .done (.any,[(id,some (.mpo kk t (K4 l n z')))]) else .fail
   | none=>.fail
  | _,_=>.fail
def Cbh(v:AV)(m:Option (IntKind×Ty)):OpV :=
 Cj4 v m fun _ _ _ l=>.chk (decide (List.length l≤9223372036854775807)) (.done (Tf .i64 (List.length l),[]))
def Coq(v:AV)(t:Option Ty)(k:Nat→OpV):OpV :=
 match v,t with
 | .d _ (.slice _) x,some (.slice _)=>k (List.length x)
 | .d _ .str x,some .str=>k (List.length x)
 | .nils,some (.slice _)=>k 0
 | .own id ver,some (.slice _)=>.get id fun
  | .sli ver' _ _ rows=>bif Nat.beq ver' ver then k rows.length else .fail
  | .frz ver' _ _ rows=>bif Nat.beq ver' ver then k rows.length else .fail
  | _=>.fail
 | .view id ver lo hi _,some (.slice _)=>.get id fun
  | .sli ver' _ _ rows=>bif Nat.beq ver' ver then k (hi-lo) else .fail
  | .frz ver' _ _ rows=>bif Nat.beq ver' ver then k (hi-lo) else .fail
  | _=>.fail
 | .mview id _ lo hi,some (.slice _)=>.get id fun
  | .mem _ _ _=>k (hi-lo)
  | .mfz _ _ _=>k (hi-lo)
  | _=>.fail
 | _,_=>.fail
def Clr(fr:Bool):(t:Ty)→t.den→Nat→Option AV
 | .pair a _,x,0=>some (.rptr fr a x.1)
 | .pair _ b,x,n+1=>Clr fr b x.2 n
 | _,_,_=>none
def Ckt:AV→Nat→Option AV
 | .pair a _,0=>some a
 | .pair _ b,n+1=>Ckt b n
 | _,_=>none
def B0(i:Int)(n:Nat):Bool:=decide (0≤i)&&decide (i<n)
def Nw:Ty→Nat→Bool
 | .pair _ _,0=>true
 | .pair _ b,n+1=>Nw b n
 | _,_=>false
def Cd2(id:Id)(path:List Nat)(t:Ty)(k:OpV):OpV :=
 .get id fun
  | .mem _ u _=>match K9 u path with
   | some w=>bif Ty.beq w t then k else .fail
   | none=>.fail
  | .mfz _ u _=>match K9 u path with
   | some w=>bif Ty.beq w t then k else .fail
   | none=>.fail
  | _=>.fail
def Cb3(id:Id)(ver:Nat)(path:List Nat)(t:Ty)(k:OpV):OpV :=
 .get id fun
  | .sli ver' _ u _=>match Nat.beq ver' ver,K9 u path with
   | true,some w=>bif Ty.beq w t then k else .fail
   | _,_=>.fail
  | .frz ver' _ u _=>match Nat.beq ver' ver,K9 u path with
   | true,some w=>bif Ty.beq w t then k else .fail
   | _,_=>.fail
  | _=>.fail
def Bdl(v:AV)(t:Option Ty)(i:Int):OpV :=
 match v,t with
 | .d fr (.slice u) x,some (.slice u')=>bif Ty.beq u u'&&Nat.blt 0 u.size then .chk (B0 i (List.length x)) (.done (.rptr fr u (List.getD x i.toNat u.zero),[])) else .fail
 | .own id ver,some (.slice u')=>.get id fun
  | .sli ver' _ u rows=>bif Nat.beq ver' ver&&Ty.beq u u' then .chk (B0 i rows.length) (.done (.eptr id ver i.toNat [],[])) else .fail
  | .frz ver' _ u rows=>bif Nat.beq ver' ver&&Ty.beq u u' then .chk (B0 i rows.length) (.done (.eptr id ver i.toNat [],[])) else .fail
  | _=>.fail
 | .view id ver lo hi _,some (.slice u')=>.get id fun
  | .sli ver' _ u _=>bif Nat.beq ver' ver&&Ty.beq u u' then .chk (B0 i (hi-lo)) (.done (.eptr id ver (lo+i.toNat) [],[])) else .fail
  | .frz ver' _ u _=>bif Nat.beq ver' ver&&Ty.beq u u' then .chk (B0 i (hi-lo)) (.done (.eptr id ver (lo+i.toNat) [],[])) else .fail
  | _=>.fail
 | .ptr id path,some (.arr n u)=>Cd2 id path (.arr n u) (.chk (B0 i n) (.done (.ptr id (Fg path [i.toNat]),[])))
 | .eptr id ver j path,some (.arr n u)=>Cb3 id ver path (.arr n u) (.chk (B0 i n) (.done (.eptr id ver j (Fg path [i.toNat]),[])))
 | .rptr fr (.arr n u) x,some (.arr m u')=>bif Nat.beq n m&&Ty.beq u u' then .chk (B0 i n) (.done (.rptr fr u (List.getD x i.toNat u.zero),[])) else .fail
 | _,_=>.fail
def Bdx(v:AV)(t:Option Ty)(f:Nat):OpV :=
 match v,t with
 | .ptr id path,some t=>bif Nw t f then Cd2 id path t (.done (.ptr id (Fg path [f]),[])) else .fail
 | .eptr id ver j path,some t=>bif Nw t f then Cb3 id ver path t (.done (.eptr id ver j (Fg path [f]),[])) else .fail
 | .rptr fr u x,some t=>bif Ty.beq u t then (match Clr fr u x f with
  | some a=>.done (a,[])
  | none=>.fail) else .fail
 | _,_=>.fail
def Cei(o:Option AV):OpV :=
 match o with
 | some a=>.done (a,[])
 | none=>.fail
def Cha(v:AV)(t:Ty)(k:AV→OpV):OpV :=
 match v with
 | .ptr id path=>.get id fun
  | .mem _ u c=>match K9 u path,Axo c path with
   | some w,some a=>bif Ty.beq w t&&Bh t a then k a else .fail
   | _,_=>.fail
  | .mfz _ u c=>match K9 u path,Axo c path with
   | some w,some a=>bif Ty.beq w t&&Bh t a then k a else .fail
   | _,_=>.fail
  | _=>.fail
 | .eptr id ver i path=>.get id fun
  | .sli ver' fr u rows=>match Nat.beq ver' ver,Bre fr u (rows.getD i u.zero) path with
   | true,some a=>bif Bh t a then k a else .fail
   | _,_=>.fail
  | .frz ver' fr u rows=>match Nat.beq ver' ver,Bre fr u (rows.getD i u.zero) path with
   | true,some a=>bif Bh t a then k a else .fail
   | _,_=>.fail
  | _=>.fail
 | .rptr fr u x=>bif Ty.beq u t then k (.d fr u x) else .fail
 | _=>.fail
def Ccv(p v:AV)(t:Ty):OpV :=
 match p with
 | .ptr id path=>.get id fun
  | .mem fm u c=>match K9 u path,Bot c path v with
   | some w,some c'=>bif Ty.beq w t&&Bh t v then .done (.any,[(id,some (.mem fm u c'))]) else .fail
   | _,_=>.fail
  | _=>.fail
 | .eptr id ver i path=>.get id fun
  | .sli ver' fr u rows=>match Nat.beq ver' ver,v with
   | true,.d fr' u' y=>match Bmj u (rows.getD i u.zero) path u' y with
    | some z=>bif Ty.beq u' t then .done (.any,[(id,some (.sli ver (fr&&(fr'||u'.flat)) u (rows.set i z)))]) else .fail
    | none=>.fail
   | _,_=>.fail
  | _=>.fail
 | _=>.fail
def A9(n:Nat)(t:Ty):Bool:=Nat.blt 0 t.size&&decide (n*(24*t.size)≤140737488355328)
def Blz(s x:AV)(t:Ty)(base:Id):OpV :=
 match s with
 | .own id ver=>.get id fun
  | .sli ver' fr u rows=>match Nat.beq ver' ver,Xh (a:=.slice u) rows (.slice t) with
   | true,some old=>Vl x t ⟨[],[]⟩ false fun frx new _ =>
    .chk (A9 (List.length old+List.length new) t) (.done (.own id (Nat.succ ver),[(id,some (.sli (Nat.succ ver) (fr&&(frx||t.flat)) t (List.append old new)))]))
   | _,_=>.fail
  | _=>.fail
 | .nils=>Vl x t ⟨[],[]⟩ false fun frx new _=>.chk (A9 (List.length new) t) (.done (.own base 0,[(base,some (.sli 0 (frx||t.flat) t new))]))
 | .view id ver lo hi cp=>bif cp then
   Vl (.view id ver lo hi cp) t ⟨[],[]⟩ true fun frs old c=>Vl x t ⟨[],[]⟩ false fun frx new _ =>
    .chk (A9 (List.length old+List.length new) t) (.done (.d (frs&&(frx||t.flat)) (.slice t) (List.append old new),c.ups))
   else .fail
 | _=>.fail
def Bwx(s x:AV)(t:Ty)(base:Id):OpV :=
 match s with
 | .view id ver lo hi true =>
  Vl (.view id ver lo hi true) t ⟨[],[]⟩ false fun frs old _=>Vl x t ⟨[],[]⟩ false fun frx new _ =>
   .chk (decide (0<List.length new)&&A9 (List.length old+List.length new) t) (.done (.own base 0,[(base,some (.sli 0 ((frs&&frx)||t.flat) t (List.append old new)))]))
 | _=>Blz s x t base
def Bw6(s:AV)(n:Int)(t:Ty)(base:Id):OpV :=
 match s with
 | .own id ver=>.get id fun
  | .sli ver' fr u rows=>match Nat.beq ver' ver,Xh (a:=.slice u) rows (.slice t) with
   | true,some old=>.chk (decide (0≤n)&&A9 (List.length old+n.toNat) t&&t.bare)
    (.done (.own id (Nat.succ ver),[(id,some (.sli (Nat.succ ver) fr t (List.append old (List.replicate n.toNat t.zero))))]))
   | _,_=>.fail
  | _=>.fail
 | .nils=>.chk (decide (0≤n)&&A9 n.toNat t&&t.bare) (.done (.own base 0,[(base,some (.sli 0 true t (List.replicate n.toNat t.zero)))]))
 | _=>.fail
def Bjf(n:Nat)(lo hi:Option Int)(k:Nat→Nat→OpV):OpV :=
 match lo,hi with
 | none,none=>k 0 n
 | some l,none=>.chk (decide (0≤l)&&decide (l≤n)) (k l.toNat n)
 | none,some h=>.chk (decide (0≤h)&&decide (h≤n)) (k 0 h.toNat)
 | some l,some h=>.chk (decide (0≤l)&&decide (l≤h)&&decide (h≤n)) (k l.toNat h.toNat)
def Bu8(v:AV)(t:Option Ty)(lo hi:Option Int)(cp:Bool):OpV :=
 match v,t with
 | .d fr (.slice u) x,some (.slice u')=>bif Ty.beq u u' then Bjf (List.length x) lo hi fun a b=>.done (.d fr (.slice u) ((List.drop a x).take (b-a)),[]) else .fail
 | .d _ .str x,some .str=>Bjf (List.length x) lo hi fun a b=>.done (.d true .str ((List.drop a x).take (b-a)),[])
 | .own id ver,some (.slice u')=>.get id fun
  | .sli ver' _ u rows=>bif Nat.beq ver' ver&&Ty.beq u u' then Bjf rows.length lo hi fun a b=>.done (.view id ver a b cp,[]) else .fail
  | .frz ver' _ u rows=>bif Nat.beq ver' ver&&Ty.beq u u' then Bjf rows.length lo hi fun a b=>.done (.view id ver a b cp,[]) else .fail
  | _=>.fail
 | .ptr id path,some (.arr n u)=>bif Nat.ble n 9223372036854775807 then Cd2 id path (.arr n u) (Bjf n lo hi fun a b=>.done (.mview id path a b,[])) else .fail
 | .view id ver x y _,some (.slice u')=>.get id fun
  | .sli ver' _ u _=>bif Nat.beq ver' ver&&Ty.beq u u' then Bjf (y-x) lo hi fun a b=>.done (.view id ver (x+a) (x+b) cp,[]) else .fail
  | .frz ver' _ u _=>bif Nat.beq ver' ver&&Ty.beq u u' then Bjf (y-x) lo hi fun a b=>.done (.view id ver (x+a) (x+b) cp,[]) else .fail
  | _=>.fail
 | .nils,some (.slice _)=>Bjf 0 lo hi fun _ _=>.done (.nils,[])
 | .rptr fr (.arr n u) x,some (.arr m u')=>bif (Nat.beq n m&&Ty.beq u u')&&Nat.ble n 9223372036854775807 then Bjf n lo hi fun a b=>.done (.d fr (.slice u) ((List.drop a x).take (b-a)),[]) else .fail
 | _,_=>.fail
def Bew(v:AV)(t:Option Ty)(lo hi mx:Option Int):OpV :=
 match mx with
 | none=>Bu8 v t lo hi false
 | some m=>match hi,t with
  | some h,some (.slice u)=>.chk (decide (h=m)) (Bu8 v (some (.slice u)) lo hi true)
  | _,_=>.fail
def Cc6(v:AV)(t:Option Ty)(lo hi mx:Option Int):OpV :=
 match v,t,lo,hi,mx with
 | .own id ver,some (.slice u'),none,some h,none=>.get id fun
  | .sli ver' fr u rows=>bif Nat.beq ver' ver&&Ty.beq u u' then
    .chk (decide (0≤h)&&decide (h≤(List.length rows:Int))) (.done (.own id (Nat.succ ver),[(id,some (.sli (Nat.succ ver) fr u (List.take h.toNat rows)))])) else .fail
  | _=>.fail
 | _,_,_,_,_=>Bew v t lo hi mx
def Ayk(parts:List (Nat×AV))(acc:AV):Option AV :=
 match parts with
 | []=>some acc
 | (i,v)::rest=>match Bot acc [i] v with
  | some acc'=>Ayk rest acc'
  | none=>none
def Ah3:AV→AV
 | .d fr (.pair a b) x=>.pair (.d fr a x.1) (splitD fr b x.2)
 | .pair a b=>.pair a (Ah3 b)
 | v=>v
where
 splitD (fr:Bool):(t:Ty)→t.den→AV
  | .pair a b,x=>.pair (.d fr a x.1) (splitD fr b x.2)
  | t,x=>.d fr t x
def isD:AV→Bool
 | .d _ _ _=>true
 | _=>false
def Btt:Ty→Nat→Bool
 | .arr m _,i=>Nat.blt i m
 | .pair _ b,n+1=>Btt b n
 | _,_=>true
def Ax9(t:Ty):List (Nat×AV)→Bool
 | []=>true
 | (i,v)::rest=>(match K9 t [i] with
  | some u=>Bh u v
  | none=>false)&&Btt t i&&Ax9 t rest
def Bvb(t:Ty)(parts:List (Nat×AV)):Option AV :=
 bif t.agg&&Ax9 t parts then
  bif t.bare&&To (fun p=>isD p.2) parts then Ayk parts (.d true t t.zero) else Ayk parts (Ah3 (Axt t))
 else none
def Ahn(t:Ty):List (Nat×AV)→List t.den→Bool→Cl→(List t.den→Bool→Cl→OpV)→OpV
 | [],acc,fr,c,k=>k acc fr c
 | (i,v)::rest,acc,fr,c,k=>roK true v t c fun f x c=>Ahn t rest (acc.set i x) (fr&&(f||t.flat)) c k
def Jo(v:Option AV):Option (Option Int) :=
 match v with
 | none=>some none
 | some a=>match asInt a with
  | some (_,x)=>some (some x)
  | none=>none
def Bpk:Option Ty→Option Ty
 | some (.slice t)=>some t
 | _=>none
def Chq(src dst:Option Ty)(v:AV)(base:Id):OpV :=
 match dst,v with
 | some (.int k),.d _ (.int _) x=>match src with
  | some (.int _)=>.done (Tf k (k.wrap x),[])
  | _=>.fail
 | some .str,v=>bif Bac src then Vl v (.int .u8) ⟨[],[]⟩ false fun _ x _=>.done (.d true .str x,[]) else .fail
 | _,_=>.fail
def Cic(G:Ctx)(f:FuncId)(args:List AV)(base:Id):OpV :=
 match G.sig f with
 | some s=>Cek f s args base
 | none=>.fail
def Ahz(G:Ctx)(o:Oper)(ρ:Operand→AV)(base:Id):OpV :=
 match o.op with
 | .move x=>.done (ρ x,[])
 | .assign x=>.done (ρ x,[])
 | .pick c a b=>match asBool (ρ c) with
  | some q=>.br q (.done (ρ a,[])) (.done (ρ b,[]))
  | none=>.fail
 | .alloc e=>match G.ty e with
  | some t=>.done (.ptr base [],[(base,some (.mem true t (Axt t)))])
  | none=>.fail
 | .box e x=>match G.ty e with
  | some t=>bif Bh t (ρ x) then .done (.ptr base [],[(base,some (.mem true t (ρ x)))]) else .fail
  | none=>.fail
 | .build t ps=>match G.ty t with
  | some t=>match t with
   | .arr n u=>bif u.bare then Cei (Bvb t (Tu (fun p=>(p.1,ρ p.2)) ps.toList)) else
    bif To (fun p=>Nat.blt p.1 n) ps.toList then
     Ahn u (Tu (fun p=>(p.1,ρ p.2)) ps.toList) (List.replicate n u.zero) true ⟨[],[]⟩ fun rows fr c=>.done (.d fr (.arr n u) rows,c.ups) else .fail
   | _=>Cei (Bvb t (Tu (fun p=>(p.1,ρ p.2)) ps.toList))
  | none=>.fail
 | .buildSlice t n ps=>match Bpk (G.ty t) with
  | some u=>bif Nat.ble (n*u.size) 16777216&&Nat.blt 0 u.size then
    Ahn u (Tu (fun p=>(p.1,ρ p.2)) ps.toList) (List.replicate n u.zero) true ⟨[],[]⟩ fun rows fr c =>
     .done (.own base 0,(base,some (.sli 0 fr u rows))::c.ups) else .fail
  | none=>.fail
 | .load e a=>match G.ty e with
  | some t=>Cha (ρ a) t fun v=>.done (v,[])
  | none=>.fail
 | .store e a x=>match G.ty e with
  | some t=>Ccv (ρ a) (ρ x) t
  | none=>.fail
 | .nilCheck x=>match ρ x with
  | .ptr i p=>Cda i (.done (.ptr i p,[]))
  | .eptr i v j p=>.get i fun
   | .sli v' _ _ _=>bif Nat.beq v' v then .done (.eptr i v j p,[]) else .fail
   | .frz v' _ _ _=>bif Nat.beq v' v then .done (.eptr i v j p,[]) else .fail
   | _=>.fail
  | .rptr f t x=>.done (.rptr f t x,[])
  | _=>.fail
 | .binOp op T x y _=>Cn6 op (G.ty T) (ρ x) (ρ y)
 | .unOp op _ x=>unK op (ρ x)
 | .convert s d x=>bif Nat.beq s d&&Bac (G.ty s) then Bob (ρ x) else Chq (G.ty s) (G.ty d) (ρ x) base
 | .slice t x lo hi mx=>match Jo (lo.map ρ),Jo (hi.map ρ),Jo (mx.map ρ) with
  | some l,some h,some m=>bif G.cut then Cc6 (ρ x) (G.ty t) l h m else Bew (ρ x) (G.ty t) l h m
  | _,_,_=>.fail
 | .fieldAddr t x f=>Bdx (ρ x) (G.ty t) f
 | .field t x f=>match G.ty t,Axo (ρ x) [f] with
  | some t,some a=>bif Bh t (ρ x)&&Nw t f then .done (a,[]) else .fail
  | _,_=>.fail
 | .indexAddr t x i=>match asInt (ρ i) with
  | some (_,n)=>Bdl (ρ x) (G.ty t) n
  | none=>.fail
 | .index t x i=>match asInt (ρ i),ρ x,G.ty t with
  | some (_,n),.d fr (.arr len u) xs,some (.arr len' u')=>bif Nat.beq len len'&&Ty.beq u u' then .chk (B0 n len) (.done (.d fr u (List.getD xs n.toNat u.zero),[])) else .fail
  | some (_,n),.d _ .str xs,some .str=>.chk (B0 n (List.length xs)) (.done (Tf .u8 (List.getD xs n.toNat 0),[]))
  | _,_,_=>.fail
 | .extract x i=>match ρ x with
  | .tup a=>Cei (Ckt a i)
  | _=>.fail
 | .makeFunc fn first caps=>match fn,first.toList with
  | .func f,[]=>bif To Bid (Tu ρ caps.toList) then .done (.fn f (Aya (Tu ρ caps.toList)),[]) else .fail
  | _,_=>.fail
 | .makeMap t r=>match r,G.mapT t with
  | none,some (kk,u)=>bif u.flat then .done (.mapp base,[(base,some (.mpo kk u []))]) else .fail
  | _,_=>.fail
 | .lookup t m x ok=>bif ok then .fail else Bvk (ρ m) (G.mapT t) (ρ x)
 | .mapUpdate t m x y=>Bom (ρ m) (G.mapT t) (ρ x) (ρ y)
 | .makeSlice t l c=>match Bpk (G.ty t),asInt (ρ l),asInt (ρ c) with
  | some u,some (_,l),some (_,c)=>bif G.cut then .chk (decide (0≤l)&&decide (l=c)&&A9 c.toNat u&&u.bare) (.done (.view base 0 0 l.toNat true,[(base,some (.sli 0 true u (List.replicate l.toNat u.zero)))]))
   else .chk (decide (0≤l)&&decide (l≤c)&&A9 c.toNat u&&u.bare) (.done (.own base 0,[(base,some (.sli 0 true u (List.replicate l.toNat u.zero)))]))
  | _,_,_=>.fail
 | .call c=>match c.callee with
  | .builtin b=>match b,Tu ρ c.args.toList with
   | .len,[v]=>match c.argTypes.toList with
    | [t]=>match G.mapT t with
     | some m=>Cbh v (some m)
     | none=>Coq v (G.ty t) fun n=>.done (Tf .i64 n,[])
    | _=>.fail
   | .cap,[v]=>match c.argTypes.toList with
    | [t]=>match v,G.ty t with
     | .nils,some (.slice _)=>.done (Tf .i64 0,[])
     | _,_=>.fail
    | _=>.fail
   | .append,[s,x]=>match c.argTypes.toList with
    | [t,t']=>match Bpk (G.ty t) with
     | some u=>match Nat.beq t t' with
      | true=>bif G.cut then Bwx s x u base else Blz s x u base
      | false=>match G.ty t',asInt x with
       | some (.int _),some (_,n)=>Bw6 s n u base
       | _,_=>.fail
     | none=>.fail
    | _=>.fail
   | .min,[v,w]=>match asInt v,asInt w with
    | some (k,x),some (k',y)=>bif kEq k k' then .br (decide (y<x)) (.done (Tf k y,[])) (.done (Tf k x,[])) else .fail
    | _,_=>.fail
   | .max,[v,w]=>match asInt v,asInt w with
    | some (k,x),some (k',y)=>bif kEq k k' then .br (decide (x<y)) (.done (Tf k y,[])) (.done (Tf k x,[])) else .fail
    | _,_=>.fail
   | _,_=>.fail
  | .value x=>match ρ x with
   | .fn f c'=>match Aem c' with
    | some cs=>Cic G f (Fg (Tu ρ c.args.toList) cs) base
    | none=>.fail
   | _=>.fail
  | _=>.fail
 | _=>.fail
structure St where
 env:List (Nat×AV)
 objs:Rc
 next:Nat
def Ia:List (Nat×AV)→Nat→AV
 | [],_=>.any
 | (i,v)::r,t=>match Nat.beq i t with
  | true=>v
  | false=>Ia r t
def An:Rc→Id→Option Obj
 | [],_=>none
 | (i,v)::r,t=>match idE i t with
  | true=>v
  | false=>An r t
def St.eval(S:St):Operand→AV
 | .tmp t=>Ia S.env t
 | .const v=>Ciz v
 | .func f=>.fn f (.d true .unit ())
 | .global _=>.any
abbrev Ap:=(f:FuncId)→(s:Ce)→O7 s.ins→Option s.outDen
structure Row where
 at_:Nat
 reads:List Id
 writes:List Id
def X6:Rc→List Id
 | []=>[]
 | p::r=>p.1::X6 r
def Ap1:List Id→Id→Bool
 | [],_=>false
 | a::l,n=>idE a n||Ap1 l n
def Aor:List Id→List Id→Bool
 | [],_=>true
 | a::l,m=>!Ap1 m a&&Aor l m
def Bjv(acc:List Nat):List Edge→Nat→Nat
 | [],m=>m
 | e::r,m=>Bjv acc r (bif Region.binds .any e then Nat.lor m (Nat.lor (Nat.shiftLeft 1 e.on) (acc.getD e.on 0)) else m)
def Ug:List Oper→List Nat→List Nat
 | [],acc=>acc
 | o::r,acc=>Ug r (Fg acc [Bjv acc o.after.toList 0])
def Cdx:Option Oper→Option Tmp
 | none=>none
 | some o=>o.dst
def Bhx(ops:Array Oper)(i j:Nat):Bool :=
 match Bvr ops.toList i,Bvr ops.toList j with
 | some x,some y=>Oper.apart ops x y
 | _,_=>false
def Azf(ops:Array Oper)(bs:List Nat):List Row→Bool
 | []=>true
 | r::rest=>To (fun q=>Nat.testBit (bs.getD r.at_ 0) q.at_ ||
   (Bhx ops q.at_ r.at_&&Aor q.writes r.reads&&Aor q.writes r.writes&&Aor r.writes q.reads)) rest&&Azf ops bs rest
def Adl(env:List (Nat×AV))(dst:Option Tmp)(v:AV):List (Nat×AV) :=
 match dst with
 | some d=>(d,v)::env
 | none=>env
def Br7:Nat:=18446744073709551616
theorem Bn3:∃ L:Ae,L=fun _ _ round=>Bfd round Br7:=⟨_,rfl⟩
def Fz{ω δ:Type}(f:δ→Option ω)(x:δ):Option ω:=f x
def Ac:Ae:=Classical.choose Bn3
theorem Aqk:Ac=fun _ _ round=>Bfd round Br7:=Classical.choose_spec Bn3
theorem Cej:∃ n:Nat,n=Br7:=⟨_,rfl⟩
def Bks:Nat:=Classical.choose Cej
theorem Bma:Bks=18446744073709551616:=Classical.choose_spec Cej
def Blv(S:St):List (Nat×Ez)→List AV
 | []=>[]
 | (i,_)::r=>Ia S.env i::Blv S r
def Pl:List (Nat×Ez)→List Ez
 | []=>[]
 | (_,m)::r=>m::Pl r
def Age:List (Nat×Ez)→List AV→List (Nat×AV)
 | (i,_)::r,v::vs=>(i,v)::Age r vs
 | _,_=>[]
def Cde(S:St)(x:Ali):Option (Id×Nat) :=
 match Ia S.env x.q with
 | .ptr id []=>match An S.objs id with
  | some (.mem _ u c)=>match K9 x.t [x.i] with
   | some (.slice _)=>bif Ty.beq u x.t&&Btt x.t x.i then (match Axo c [x.i] with
    | some (.own j v)=>some (j,v)
    | _=>none) else none
   | _=>none
  | _=>none
 | _=>none
def slB:Option Obj→Nat→Bool
 | some (.sli v _ _ _),w=>Nat.beq v w
 | some (.frz v _ _ _),w=>Nat.beq v w
 | _,_=>false
def Bnn(S:St)(x:Ali):Bool :=
 match Cde S x,Ia S.env x.s with
 | some (j,v),.own j' v'=>idE j j'&&(Nat.beq v v'&&slB (An S.objs j) v)
 | _,_=>false
def Boj(S:St):List Ali→List (Nat×AV)
 | []=>S.env
 | x::r=>match Cde S x with
  | some (j,v)=>(x.s,.own j v)::Boj S r
  | none=>Boj S r
def Ai2(S:St):Nat→List Ez→List AV
 | _,[]=>[]
 | n,_::ms=>Ia S.env n::Ai2 S (Nat.succ n) ms
def Agd:List Ez→List AV→List AV
 | m::ms,v::vs=>(match m with | .ptr _ | .optr _=>v|_=>.d true .unit ())::Agd ms vs
 | _,_=>[]
section
variable {ω:Type} (C:Ap)
def T8{α:Type}(objs:Rc):OpT α→List Id→(α→List Id→Option ω)→Option ω
 | .fail,_,_=>none
 | .done a,l,k=>k a l
 | .br c t e,l,k=>Ah c (T8 objs t l k) (T8 objs e l k)
 | .get id f,l,k=>match An objs id with
  | some o=>T8 objs (f o) (id::l) k
  | none=>none
 | .call f s x g,l,k=>(C f s x).bind fun y=>T8 objs (g y) l k
 | .opt _ o n s,l,k=>Ce1 o (T8 objs n l k) fun y=>T8 objs (s y) l k
def Ait(G:Ctx)(ops:Array Oper)(draw:Bool):List (Nat×Oper)→St→List Row→(St→Option ω)→Option ω
 | [],S,rows,k=>Ah (!draw||Azf ops (Ug ops.toList []) rows) (k { S with next:=Nat.succ S.next }) none
 | (i,o)::rest,S,rows,k =>
  let run (S:St):Option ω :=
   T8 C S.objs (Ahz G o S.eval (S.next,i,0)) [] fun a l =>
    Ait G ops draw rest { S with env:=Adl S.env o.dst a.1,objs:=Fg a.2 S.objs } (⟨i,l,X6 a.2⟩::rows) k
  let skip (S:St):Option ω:=Ait G ops draw rest { S with env:=Adl S.env o.dst .un } (⟨i,[],[]⟩::rows) k
  match o.guard with
  | none=>run S
  | some (j,want)=>match Cdx (Bvr ops.toList j) with
   | none=>none
   | some d=>match Ia S.env d with
    | .d fr .bool b =>
     let St (q:Bool):St:={ S with env:=(d,.d fr .bool q)::S.env }
     match want with
     | true=>Ah b (run (St true)) (skip (St false))
     | false=>Ah b (skip (St true)) (run (St false))
    | .un=>skip S
    | _=>none
def Ccc(al:List Ali)(ms:List Ez)(hs:List (Nat×Ez))(x:O7 ms)(k:St→Option ω):Option ω :=
 T8 C [] (Bbu ms x (0,0,0) [] fun vs _ u=>.done (vs,u)) [] fun a _=>k { env:=Boj { env:=Age hs a.1,objs:=a.2,next:=1 } al,objs:=a.2,next:=1 }
def Avw(al:List Ali)(ms:List Ez)(hs:List (Nat×Ez))(S:St)(k:O7 ms→Option ω):Option ω :=
 bif To (Bnn S) al then T8 C S.objs (Any true ms (Blv S hs) ⟨[],[]⟩ fun x _=>.done x) [] fun x _=>k x else none
def Oc(L:Ae)(G:Ctx)(f:FuncId):Code→Nat→(St→Option ω)→(Nat→St→Option ω)→(St→Option ω)→St→Option ω
 | .skip,_,kn,_,_,S=>kn S
 | .region i ops draw,_,kn,_,_,S=>match G.hint f (Nat.add 1000000 i) with
  | []=>Ait C G ops draw (Asz 0 ops.toList) S [] kn
  | _::_=>Avw C (G.ali f (Nat.add 1000000 i)) (Pl (G.hint f (Nat.add 1000000 i))) (G.hint f (Nat.add 1000000 i)) S
   (Fz fun x=>Ccc C (G.ali f (Nat.add 1000000 i)) (Pl (G.hint f (Nat.add 1000000 i))) (G.hint f (Nat.add 1000000 i)) x fun S=>Ait C G ops draw (Asz 0 ops.toList) S [] kn)
 | .seq a b,id,kn,ke,kr,S=>Oc L G f a id (Oc L G f b id kn ke kr) ke kr S
 | .cond c a b,id,kn,ke,kr,S=>match S.eval c with
  | .d _ .bool q=>Ah q (Oc L G f a id kn ke kr S) (Oc L G f b id kn ke kr S)
  | .ub e r=>Ah e (Bj6 (Oc L G f a id kn ke kr S) (Oc L G f b id kn ke kr S)) (Ah r (Oc L G f a id kn ke kr S) (Oc L G f b id kn ke kr S))
  | _=>none
 | .block id c,_,kn,ke,kr,S=>Oc L G f c id kn (fun i S=>match Nat.beq i id with|true=>kn S|false=>ke i S) kr S
 | .loop c,id,_,ke,kr,S =>
  Avw C (G.ali f id) (Pl (G.hint f id)) (G.hint f id) S (L _ _ (fun again x=>Ccc C (G.ali f id) (Pl (G.hint f id)) (G.hint f id) x
   (Oc L G f c id (fun S=>Avw C (G.ali f id) (Pl (G.hint f id)) (G.hint f id) S again) ke kr)))
 | .exit i,_,_,ke,_,S=>ke i S
 | .label _,_,kn,_,_,S=>kn S
 | .ret,_,_,_,kr,S=>kr S
 | _,_,_,_,_,_=>none
def Afp{α:Type}(G:Ctx)(S:St):List ResultVar→(List AV→OpT α)→OpT α
 | [],k=>k []
 | .tmp t::r,k=>Afp G S r fun vs=>k (Ia S.env t::vs)
 | .cell a e::r,k=>match G.ty e,Ia S.env a with
  | some t,.ptr id path=>.get id fun
   | .mem _ u c=>match K9 u path,Axo c path with
    | some w,some v=>bif Ty.beq w t&&Bh t v then Afp G S r fun vs=>k (v::vs) else .fail
    | _,_=>.fail
   | .mfz _ u c=>match K9 u path,Axo c path with
    | some w,some v=>bif Ty.beq w t&&Bh t v then Afp G S r fun vs=>k (v::vs) else .fail
    | _,_=>.fail
   | _=>.fail
  | _,_=>.fail
end
def Ck0{α:Type}(s:Ce)(rs:List AV)(v:AV)(k:OpT α):OpT α :=
 bif Bb1 s then match rs,v with
  | [.view id ver lo _ _],.own id' ver'=>bif idE id id'&&(Nat.beq ver ver'&&Nat.beq lo 0) then .get id fun
   | .frz ver'' _ _ _=>bif Nat.beq ver'' ver then k else .fail
   | _=>.fail
   else .fail
  | _,_=>.fail
 else k
def Ag(L:Ae)(C:Ap)(G:Ctx)(f:FuncId)(fn:Func)(c:Code)(s:Ce)(x:O7 s.ins):Option s.outDen :=
 T8 C [] (Bbu s.ins x (0,0,0) [] fun vs _ u=>.done (vs,u)) [] fun (a:List AV×Rc) _ =>
  let fin (S:St):Option s.outDen :=
   T8 C S.objs (Afp G S fn.results.toList fun rs=>Ck0 s rs (Ia S.env 0) (Any true s.outs rs ⟨[],[]⟩ fun y c =>
    Any true (Bgo s.ins) (Agd s.ins (Ai2 S 0 s.ins)) c fun z _=>.done (y,z))) [] fun y _=>some y
  Oc C L G f c 0 fin (fun _ _=>none) fin { env:=Asz 0 a.1,objs:=a.2,next:=1 }
end Go.Pon
namespace Go.Pon
open Go
def B5{α:Type}(R:List Value→α→Prop)(n:Nat):List Value→List α→Prop
 | cs,[]=>cs=[]
 | cs,x::xs=>n≤cs.length∧R (cs.take n) x∧B5 R n (cs.drop n) xs
def inK(k:IntKind)(x:Int):Prop:=k.min≤x∧x≤k.max
def DR(w:World)(ok:Nat→Prop):(t:Ty)→List Value→t.den→Prop
 | .unit,cs,_=>cs=[]
 | .pair a b,cs,x=>DR w ok a (cs.take a.size) x.1∧DR w ok b (cs.drop a.size) x.2
 | .int k,cs,x=>cs=[.int k x]∧inK k x
 | .bool,cs,x=>cs=[.bool x]
 | .str,cs,x=>∃ s:ByteArray,cs=[.string s]∧x=s.data.toList.map (fun b=>(b.toNat:Int))∧s.size≤maxLen
 | .arr n t,cs,x=>List.length x=n∧B5 (DR w ok t) t.size cs x
 | .slice t,cs,x=>∃ a cap,cs=[.slice a (List.length x) cap]∧List.length x≤cap∧cap≤maxLen ∧
   (a=none→cap=0) ∧
   ∃ rows,B5 (DR w ok t) t.size rows x∧(rows≠[]→∃ ad,a=some ad∧ok ad.block∧∀ j v,rows[j]?=some v→w.cell? (ad.add j)=some v)
 | .ptr,cs,_=>cs=[.pointer none]
section rows
variable {α:Type} {R R':List Value→α→Prop} {n:Nat}
theorem B5.mono(h:∀ c x,R c x→R' c x):∀ {cs:List Value} {xs:List α},B5 R n cs xs→B5 R' n cs xs
 | _,[],hr=>hr
 | _,_::_,⟨h1,h2,h3⟩=>⟨h1,h _ _ h2,B5.mono h h3⟩
theorem B5.length:∀ {cs:List Value} {xs:List α},B5 R n cs xs→cs.length=xs.length*n
 | _,[],hr=>by simp[show _=([]:List Value) from hr]
 | cs,x::xs,⟨h1,_,h3⟩=>by
  have:=B5.length h3
  simp only[List.length_drop] at this
  simp only[List.length_cons,Nat.add_mul,Nat.one_mul]
  omega
theorem B5.get:∀ {cs:List Value} {xs:List α} (h:B5 R n cs xs) (i:Nat) (hi:i<xs.length),R ((cs.drop (i*n)).take n) xs[i]
 | _,_::_,⟨_,h2,_⟩,0,_=>by simpa using h2
 | cs,x::xs,⟨_,_,h3⟩,i+1,hi=>by
  have:=B5.get h3 i (by simpa using hi)
  simp only[List.drop_drop] at this
  simpa [Nat.add_mul,Nat.add_comm] using this
theorem B5.append:∀ {cs ds:List Value} {xs ys:List α},B5 R n cs xs→B5 R n ds ys→B5 R n (cs++ds) (xs++ys)
 | cs,ds,[],ys,h,h'=>by rw[show cs=[] from h];exact h'
 | cs,ds,x::xs,ys,⟨h1,h2,h3⟩,h'=>by
  refine⟨by simp;omega,?_,?_⟩
  ·rw[List.take_append_of_le_length h1];exact h2
  ·rw[List.drop_append_of_le_length h1];exact B5.append h3 h'
theorem B5.drop:∀ {cs:List Value} {xs:List α} (h:B5 R n cs xs) (i:Nat),B5 R n (cs.drop (i*n)) (xs.drop i)
 | cs,xs,h,0=>by simpa using h
 | cs,[],h,i+1=>by rw[show cs=[] from h];simp[B5]
 | cs,x::xs,⟨_,_,h3⟩,i+1=>by
  have:=B5.drop h3 i
  simp only[List.drop_drop] at this
  simpa [Nat.add_mul,Nat.add_comm] using this
theorem B5.take:∀ {cs:List Value} {xs:List α} (h:B5 R n cs xs) (i:Nat),B5 R n (cs.take (i*n)) (xs.take i)
 | cs,xs,h,0=>by simp[B5]
 | cs,[],h,i+1=>by rw[show cs=[] from h];simp[B5]
 | cs,x::xs,⟨h1,h2,h3⟩,i+1=>by
  have:=B5.take h3 i
  refine⟨by simp[Nat.add_mul];omega,?_,?_⟩
  ·rw[List.take_take];simpa [Nat.add_mul] using h2
  ·rw[List.drop_take]
   have e:(i+1)*n-n=i*n:=by simp[Nat.add_mul]
   rw[e];exact this
theorem B5.set:∀ {cs:List Value} {xs:List α} (h:B5 R n cs xs) (i:Nat) (hi:i<xs.length) (d:List Value) (y:α),d.length=n→R d y →
  B5 R n (cs.take (i*n)++d++cs.drop (i*n+n)) (xs.set i y)
 | cs,x::xs,⟨h1,h2,h3⟩,0,_,d,y,hd,hy=>by
  refine⟨by simp[hd],?_,?_⟩
  ·rw[show (List.take (0*n) cs++d++List.drop (0*n+n) cs)=d++List.drop n cs from by simp,List.take_append_of_le_length (by omega),List.take_of_length_le (by omega)]
   exact hy
  ·rw[show (List.take (0*n) cs++d++List.drop (0*n+n) cs)=d++List.drop n cs from by simp,List.drop_append_of_le_length (by omega),List.drop_eq_nil_of_le (by omega)]
   exact h3
 | cs,x::xs,⟨h1,h2,h3⟩,i+1,hi,d,y,hd,hy=>by
  have:=B5.set h3 i (by simpa using hi) d y hd hy
  have e1:(i+1)*n=n+i*n:=by simp[Nat.add_mul,Nat.add_comm]
  refine⟨by simp;omega,?_,?_⟩
  ·rw[e1,List.append_assoc,List.take_append_of_le_length (by simp;omega),List.take_take]
   rw[Nat.min_eq_left (by omega)];exact h2
  ·rw[e1,List.append_assoc,List.drop_append_of_le_length (by simp;omega),List.drop_take,← List.append_assoc]
   rw[show n+i*n-n=i*n by omega,show n+i*n+n=n+(i*n+n) by omega,← List.drop_drop]
   exact this
theorem B5.nil:B5 R n [] ([]:List α):=rfl
theorem B5.single{c:List Value}{x:α}(hl:c.length=n)(h:R c x):B5 R n c [x] :=
 ⟨by omega,by rwa [List.take_of_length_le (by omega)],by rw[List.drop_eq_nil_of_le (by omega)];rfl⟩
theorem B5.replicate{z:List Value}{x:α}(hl:z.length=n)(h:R z x):∀ k,B5 R n (List.replicate k z).flatten (List.replicate k x)
 | 0=>by simp[B5]
 | k+1=>by
  simp only[List.replicate_succ,List.flatten_cons]
  exact B5.append (xs:=[x]) (B5.single hl h) (B5.replicate hl h k)
end rows
section
variable {w w':World} {ok ok':Nat→Prop}
theorem DR.mono:∀ {t:Ty} {cs:List Value} {x:t.den} (h:∀ b,ok b→ok' b),DR w ok t cs x→DR w ok' t cs x
 | .unit,_,_,_,hr=>hr
 | .pair _ _,_,_,h,⟨h1,h2⟩=>⟨DR.mono h h1,DR.mono h h2⟩
 | .int _,_,_,_,hr=>hr
 | .bool,_,_,_,hr=>hr
 | .str,_,_,_,hr=>hr
 | .arr _ _,_,_,h,⟨h1,h2⟩=>⟨h1,h2.mono fun _ _=>DR.mono h⟩
 | .slice _,_,_,h,⟨a,cap,h1,h2,h3,h4,rows,h5,h6⟩ =>
  ⟨a,cap,h1,h2,h3,h4,rows,h5.mono fun _ _=>DR.mono h,fun hne=>let ⟨ad,e,ho,hc⟩:=h6 hne;⟨ad,e,h _ ho,hc⟩⟩
 | .ptr,_,_,_,hr=>hr
theorem DR.world(hw:∀ b,ok b→w'.heap[b]?=w.heap[b]?):∀ {t:Ty} {cs:List Value} {x:t.den},DR w ok t cs x→DR w' ok t cs x
 | .unit,_,_,hr=>hr
 | .pair _ _,_,_,⟨h1,h2⟩=>⟨DR.world hw h1,DR.world hw h2⟩
 | .int _,_,_,hr=>hr
 | .bool,_,_,hr=>hr
 | .str,_,_,hr=>hr
 | .arr _ _,_,_,⟨h1,h2⟩=>⟨h1,h2.mono fun _ _=>DR.world hw⟩
 | .slice _,_,_,⟨a,cap,h1,h2,h3,h4,rows,h5,h6⟩ =>
  ⟨a,cap,h1,h2,h3,h4,rows,h5.mono fun _ _=>DR.world hw,fun hne=>let ⟨ad,e,ho,hc⟩:=h6 hne;
   ⟨ad,e,ho,fun j v hv=>by
    have hb:(ad.add j).block=ad.block:=by unfold Addr.add;split<;>rfl
    rw[World.cell?_of_block (w:=w) (by rw[hb];exact hw _ ho)];exact hc j v hv⟩⟩
 | .ptr,_,_,hr=>hr
theorem DR.move(hw:∀ b,b<w.heap.size→ok b→ok' b∧w'.heap[b]?=w.heap[b]?):∀ {t:Ty} {cs:List Value} {x:t.den},DR w ok t cs x→DR w' ok' t cs x
 | .unit,_,_,hr=>hr
 | .pair _ _,_,_,⟨h1,h2⟩=>⟨DR.move hw h1,DR.move hw h2⟩
 | .int _,_,_,hr=>hr
 | .bool,_,_,hr=>hr
 | .str,_,_,hr=>hr
 | .arr _ _,_,_,⟨h1,h2⟩=>⟨h1,h2.mono fun _ _=>DR.move hw⟩
 | .slice _,_,_,⟨a,cap,h1,h2,h3,h4,rows,h5,h6⟩ =>
  ⟨a,cap,h1,h2,h3,h4,rows,h5.mono fun _ _=>DR.move hw,fun hne=>by
   obtain⟨ad,e,ho,hc⟩:=h6 hne
   obtain⟨v0,hv0⟩:∃ v,rows[0]?=some v:=by
    cases rows with
    | nil=>exact absurd rfl hne
    | cons v r=>exact⟨v,rfl⟩
   have hadd:∀ j,(ad.add j).block=ad.block:=fun j=>by unfold Addr.add;split<;>rfl
   have hlt:ad.block<w.heap.size:=by
    have:=World.block_lt_of_cell? w _ (hc 0 v0 hv0)
    rwa [hadd] at this
   obtain⟨h1,h2⟩:=hw _ hlt ho
   exact⟨ad,e,h1,fun j v hv=>by rw[World.cell?_of_block (w:=w) (by rw[hadd];exact h2)];exact hc j v hv⟩⟩
 | .ptr,_,_,hr=>hr
theorem DR.len:∀ {t:Ty} {cs:List Value} {x:t.den},DR w ok t cs x→cs.length=t.size
 | .unit,_,_,hr=>by rw[show _=([]:List Value) from hr];rfl
 | .pair a b,cs,_,⟨h1,h2⟩=>by
  have h1:=DR.len h1;have h2:=DR.len h2
  simp only[List.length_take,List.length_drop,Ty.size] at *
  omega
 | .int _,_,_,hr=>by rw[hr.1];rfl
 | .bool,_,_,hr=>by rw[show _=[_] from hr];rfl
 | .str,_,_,⟨_,h,_⟩=>by rw[h];rfl
 | .arr n t,_,x,⟨h1,h2⟩=>by rw[B5.length h2,h1];rfl
 | .slice _,_,_,⟨_,_,h,_⟩=>by rw[h];rfl
 | .ptr,_,_,hr=>by rw[show _=[_] from hr];rfl
theorem DR.flat:∀ {t:Ty} {cs:List Value} {x:t.den},t.flat=true→DR w ok t cs x→DR w' ok' t cs x
 | .unit,_,_,_,hr=>hr
 | .pair a b,_,_,h,⟨h1,h2⟩=>by
  simp only[Ty.flat,Bool.and_eq_true] at h
  exact⟨DR.flat h.1 h1,DR.flat h.2 h2⟩
 | .int _,_,_,_,hr=>hr
 | .bool,_,_,_,hr=>hr
 | .str,_,_,_,hr=>hr
 | .arr _ t,_,_,h,⟨h1,h2⟩=>⟨h1,h2.mono fun _ _=>DR.flat (t:=t) h⟩
 | .ptr,_,_,_,hr=>hr
theorem DR.one:∀ {t:Ty} {cs:List Value} {x:t.den},DR w ok t cs x→∀ v∈cs,v.oneCell'=true
 | .unit,_,_,hr=>by rw[show _=([]:List Value) from hr];simp
 | .pair a b,cs,_,⟨h1,h2⟩=>by
  intro v hv
  rw[← List.take_append_drop a.size cs] at hv
  rcases List.mem_append.1 hv with h|h
  ·exact DR.one h1 v h
  ·exact DR.one h2 v h
 | .int _,_,_,hr=>by rw[hr.1];simp[Value.oneCell']
 | .bool,_,_,hr=>by rw[show _=[_] from hr];simp[Value.oneCell']
 | .str,_,_,⟨_,h,_⟩=>by rw[h];simp[Value.oneCell']
 | .arr n t,cs,x,⟨h1,h2⟩=>by
  intro v hv
  have key:∀ (xs:List t.den) (cs:List Value),B5 (DR w ok t) t.size cs xs→∀ v∈cs,v.oneCell'=true:=by
   intro xs
   induction xs with
   | nil=>intro cs h v hv;rw[show cs=[] from h] at hv;simp at hv
   | cons x xs ih =>
    intro cs ⟨_,h2,h3⟩ v hv
    rw[← List.take_append_drop t.size cs] at hv
    rcases List.mem_append.1 hv with h|h
    ·exact DR.one h2 v h
    ·exact ih _ h3 v h
  exact key x cs h2 v hv
 | .slice _,_,_,⟨_,_,h,_⟩=>by rw[h];simp[Value.oneCell']
 | .ptr,_,_,hr=>by rw[show _=[_] from hr];simp[Value.oneCell']
end
def O9:Ty→List Value
 | .unit=>[]
 | .pair a b=>O9 a++O9 b
 | .int k=>[.int k 0]
 | .bool=>[.bool false]
 | .str=>[.string ⟨#[]⟩]
 | .arr n t=>(List.replicate n (O9 t)).flatten
 | .slice _=>[.slice none 0 0]
 | .ptr=>[.pointer none]
theorem Fa:∀ t:Ty,(O9 t).length=t.size
 | .unit=>rfl
 | .pair a b=>by simp[O9,Ty.size,Fa a,Fa b]
 | .int _=>rfl
 | .bool=>rfl
 | .str=>rfl
 | .arr n t=>by simp[O9,Ty.size,Fa t]
 | .slice _=>rfl
 | .ptr=>rfl
theorem Bfp(k:IntKind):inK k 0:=by cases k<;>simp[inK,IntKind.min,IntKind.max,IntKind.signed,IntKind.bits]
theorem DR.zero{w:World}{ok:Nat→Prop}:∀ t:Ty,DR w ok t (O9 t) t.zero
 | .unit=>rfl
 | .pair a b=>by
  refine⟨?_,?_⟩
  ·rw[show O9 (.pair a b)=O9 a++O9 b from rfl,List.take_append_of_le_length (by rw[Fa];exact Nat.le_refl _),List.take_of_length_le (by rw[Fa];exact Nat.le_refl _)]
   exact DR.zero a
  ·rw[show O9 (.pair a b)=O9 a++O9 b from rfl,List.drop_append_of_le_length (by rw[Fa];exact Nat.le_refl _),List.drop_eq_nil_of_le (by rw[Fa];exact Nat.le_refl _)]
   exact DR.zero b
 | .int k=>⟨rfl,Bfp k⟩
 | .bool=>rfl
 | .str=>⟨⟨#[]⟩,rfl,rfl,by simp[ByteArray.size]⟩
 | .arr n t=>⟨by simp[Ty.zero],B5.replicate (Fa t) (DR.zero t) n⟩
 | .slice t=>⟨none,0,rfl,Nat.le_refl _,by simp[maxLen],fun _=>rfl,[],rfl,fun h=>absurd rfl h⟩
 | .ptr=>rfl
theorem Avm{α:Type}{l:List α}{i:Nat}{d:α}(h:i<l.length):l.getD i d=l[i]:=by simp[List.getD,List.getElem?_eq_getElem h]
def inT:Ty→List Nat→Prop
 | _,[]=>True
 | .pair a b,i::p=>match i with
  | 0=>inT a p
  | n+1=>inT b (n::p)
 | .arr m t,i::p=>i<m∧inT t p
 | _,_=>False
theorem Ahe{w:World}{ok:Nat→Prop}(fr:Bool):∀ (t:Ty) (x:t.den) (p:List Nat) (u:Ty) (cs:List Value),K9 t p=some u→inT t p→DR w ok t cs x →
  ∃ y,Bre fr t x p=some (.d fr u y)∧DR w ok u ((cs.drop (By t p)).take u.size) y∧By t p+u.size≤t.size
 | t,x,[],u,cs,ht,_,h=>by
  have e:u=t:=by cases t<;>simpa [K9] using ht.symm
  subst e
  have h0:By u []=0:=by cases u<;>rfl
  have hn:Bre fr u x []=some (.d fr u x):=by cases u<;>rfl
  refine⟨x,hn,?_,by omega⟩
  rw[h0,List.drop_zero,List.take_of_length_le (by rw[DR.len h];exact Nat.le_refl _)]
  exact h
 | .pair a b,x,0::p,u,cs,ht,hi,h=>by
  obtain⟨y,h1,h2,h3⟩:=Ahe fr a x.1 p u _ ht hi h.1
  refine⟨y,h1,?_,by simp only[By,Ty.size];omega⟩
  simp only[By]
  rw[List.drop_take,List.take_take,Nat.min_eq_left (by omega)] at h2
  exact h2
 | .pair a b,x,(n+1)::p,u,cs,ht,hi,h=>by
  obtain⟨y,h1,h2,h3⟩:=Ahe fr b x.2 (n::p) u _ ht hi h.2
  refine⟨y,h1,?_,by simp only[By,Ty.size];omega⟩
  simp only[By]
  rw[List.drop_drop] at h2
  exact h2
 | .arr m t,x,i::p,u,cs,ht,⟨hi,hp⟩,⟨hl,hr⟩=>by
  have hlt:i<List.length x:=by omega
  have hg:=hr.get i hlt
  obtain⟨y,h1,h2,h3⟩:=Ahe fr t (List.getD x i t.zero) p u _ ht hp (by rw[Avm hlt];exact hg)
  refine⟨y,h1,?_,?_⟩
  ·simp only[By]
   rw[List.drop_take,List.take_take,Nat.min_eq_left (by omega),List.drop_drop] at h2
   exact h2
  ·simp only[By,Ty.size]
   have:i*t.size+t.size≤m*t.size:=by
    rw[← Nat.succ_mul];exact Nat.mul_le_mul_right _ hi
   omega
theorem Cs{a b:Ty}{x:a.den}{y:b.den}(h:Xh x b=some y):∃ e:a=b,e▸x=y:=by
 unfold Xh at h
 split at h
 ·rename_i e
  exact⟨e,by simpa using h⟩
 ·cases h
theorem Anc{w:World}{ok:Nat→Prop}:∀ (t:Ty) (x:t.den) (p:List Nat) (u:Ty) (y:u.den) (z:t.den) (cs ds:List Value),Bmj t x p u y=some z→inT t p→DR w ok t cs x→DR w ok u ds y →
  K9 t p=some u∧DR w ok t (cs.take (By t p)++ds++cs.drop (By t p+u.size)) z
 | t,x,[],u,y,z,cs,ds,hs,_,h,hd=>by
  have hs':Xh y t=some z:=by cases t<;>simpa [Bmj] using hs
  obtain⟨e,rfl⟩:=Cs hs'
  subst e
  have h0:By u []=0:=by cases u<;>rfl
  have ht:K9 u []=some u:=by cases u<;>rfl
  refine⟨ht,?_⟩
  rw[h0,List.take_zero,List.nil_append,Nat.zero_add,List.drop_eq_nil_of_le (by rw[DR.len h];exact Nat.le_refl _),List.append_nil]
  exact hd
 | .pair a b,x,0::p,u,y,z,cs,ds,hs,hi,h,hd=>by
  simp only[Bmj,Option.map_eq_some_iff] at hs
  obtain⟨z',hz,rfl⟩:=hs
  obtain⟨ht,hr⟩:=Anc a x.1 p u y z' _ ds hz hi h.1 hd
  obtain⟨_,_,_,h3⟩:=Ahe true a x.1 p u _ ht hi h.1
  have hl:=DR.len hr
  have hld:=DR.len hd
  have hlc:cs.length=a.size+b.size:=DR.len (t:=.pair a b) (x:=x) h
  refine⟨ht,?_,?_⟩
  ·simp only[By]
   rw[List.take_take,Nat.min_eq_left (by omega),List.drop_take] at hr
   rw[show (List.take (By a p) cs++ds++List.drop (By a p+u.size) cs)=(List.take (By a p) cs++ds++List.take (a.size-(By a p+u.size)) (List.drop (By a p+u.size) cs))++List.drop a.size cs from by
    rw[List.append_assoc _ _ (List.drop a.size cs)]
    congr 1
    conv=>lhs;rw[← List.take_append_drop (a.size-(By a p+u.size)) (List.drop (By a p+u.size) cs)]
    rw[List.drop_drop,show By a p+u.size+(a.size-(By a p+u.size))=a.size by omega]]
   rw[List.take_append_of_le_length (by simp;omega),List.take_of_length_le (by simp;omega)]
   exact hr
  ·simp only[By]
   rw[show (List.take (By a p) cs++ds++List.drop (By a p+u.size) cs)=(List.take (By a p) cs++ds++List.take (a.size-(By a p+u.size)) (List.drop (By a p+u.size) cs))++List.drop a.size cs from by
    rw[List.append_assoc _ _ (List.drop a.size cs)]
    congr 1
    conv=>lhs;rw[← List.take_append_drop (a.size-(By a p+u.size)) (List.drop (By a p+u.size) cs)]
    rw[List.drop_drop,show By a p+u.size+(a.size-(By a p+u.size))=a.size by omega]]
   rw[List.drop_append_of_le_length (by simp;omega),List.drop_eq_nil_of_le (by simp;omega),List.nil_append]
   exact h.2
 | .pair a b,x,(n+1)::p,u,y,z,cs,ds,hs,hi,h,hd=>by
  simp only[Bmj,Option.map_eq_some_iff] at hs
  obtain⟨z',hz,rfl⟩:=hs
  obtain⟨ht,hr⟩:=Anc b x.2 (n::p) u y z' _ ds hz hi h.2 hd
  have hlc:cs.length=a.size+b.size:=DR.len (t:=.pair a b) (x:=x) h
  refine⟨ht,?_,?_⟩
  ·simp only[By]
   rw[List.append_assoc,List.take_append_of_le_length (by simp;omega),List.take_take,Nat.min_eq_left (by omega)]
   exact h.1
  ·simp only[By]
   rw[List.append_assoc,List.drop_append_of_le_length (by simp;omega),List.drop_take,show a.size+By b (n::p)-a.size=By b (n::p) by omega,← List.append_assoc,
    show a.size+By b (n::p)+u.size=a.size+(By b (n::p)+u.size) by omega,← List.drop_drop]
   exact hr
 | .arr m t,x,i::p,u,y,z,cs,ds,hs,⟨hi,hp⟩,⟨hl,hr⟩,hd=>by
  simp only[Bmj,Option.map_eq_some_iff] at hs
  obtain⟨z',hz,rfl⟩:=hs
  have hlt:i<List.length x:=by omega
  have hg:DR w ok t ((cs.drop (i*t.size)).take t.size) (List.getD x i t.zero):=by rw[Avm hlt];exact hr.get i hlt
  obtain⟨ht,hr'⟩:=Anc t (List.getD x i t.zero) p u y z' _ ds hz hp hg hd
  obtain⟨_,_,_,h3⟩:=Ahe true t (List.getD x i t.zero) p u _ ht hp hg
  have hlen:=hr.length
  have hld:=DR.len hd
  have hmul:i*t.size+t.size≤m*t.size:=by rw[← Nat.succ_mul];exact Nat.mul_le_mul_right _ hi
  refine⟨ht,by simpa using hl,?_⟩
  have key:=B5.set hr i hlt _ z' (DR.len hr') hr'
  simp only[By]
  rw[List.take_take,Nat.min_eq_left (by omega),List.drop_take,List.drop_drop] at key
  have e1:cs.take (i*t.size)++(List.take (By t p) (List.drop (i*t.size) cs)++ds++List.take (t.size-(By t p+u.size)) (List.drop (i*t.size+(By t p+u.size)) cs))++cs.drop (i*t.size+t.size)
    = cs.take (i*t.size+By t p)++ds++cs.drop (i*t.size+By t p+u.size):=by
   have e2:cs.take (i*t.size+By t p)=cs.take (i*t.size)++List.take (By t p) (List.drop (i*t.size) cs):=by rw[List.take_add]
   have e3:cs.drop (i*t.size+By t p+u.size)=List.take (t.size-(By t p+u.size)) (List.drop (i*t.size+(By t p+u.size)) cs)++cs.drop (i*t.size+t.size):=by
    rw[show i*t.size+By t p+u.size=i*t.size+(By t p+u.size) by omega]
    conv=>lhs;rw[← List.take_append_drop (t.size-(By t p+u.size)) (List.drop (i*t.size+(By t p+u.size)) cs)]
    rw[List.drop_drop,show i*t.size+(By t p+u.size)+(t.size-(By t p+u.size))=i*t.size+t.size by omega]
   rw[e2,e3]
   simp only[List.append_assoc]
  rw[e1] at key
  exact key
end Go.Pon
namespace Go.Pon
open Go
structure Vv where
 w:World
 o:Id→Option Obj
 γ:Id→Value
 used:Id→Nat→Prop
 ok:Bool→Nat→Prop
def Agt(o:Option Obj)(ver:Nat)(t:Ty)(n:Nat):Prop :=
 ∃ fr rows,List.length rows=n∧(o=some (.sli ver fr t rows)∨o=some (.frz ver fr t rows))
def Au6(o:Option Obj)(t:Ty):Prop:=∃ fr c,o=some (.mem fr t c)∨o=some (.mfz fr t c)
def Br9(o:Option Obj)(k:IntKind)(t:Ty):Prop:=∃ l,o=some (.mpo k t l)
def Bkz(cs:List Value)(p:Value→Prop):Prop:=∃ v,cs=[v]∧v.oneCell'=true∧p v
def ARc(E:Vv):AV→List Value→Prop
 | .any,_=>True
 | .un,_=>False
 | .d fr t x,cs=>DR E.w (E.ok fr) t cs x
 | .nilp,cs=>cs=[.pointer none]
 | .nils,cs=>cs=[.slice none 0 0]
 | .own id ver,cs=>E.used id ver∧Bkz cs fun v=>∀ t n,Agt (E.o id) ver t n→v=E.γ id
 | .view id ver lo hi cp,cs=>E.used id ver∧Bkz cs fun v=>∀ t n,Agt (E.o id) ver t n →
   lo≤hi∧hi≤n∧∃ a c,v=.slice a (hi-lo) c∧hi-lo≤c∧c≤maxLen∧(a=none→c=0) ∧
    (lo<hi→∃ g m cp,E.γ id=.slice (some ⟨g,0,none⟩) m cp∧a=some ⟨g,lo*t.size,none⟩)∧(cp=true→c=hi-lo)
 | .mview id path lo hi,cs=>E.used id 0∧Bkz cs fun v=>∀ t,Au6 (E.o id) t →
   ∃ g n u,E.γ id=.pointer (some ⟨g,0,none⟩)∧K9 t path=some (.arr n u)∧inT t path∧lo≤hi∧hi≤n ∧
    ∃ a c,v=.slice (some a) (hi-lo) c∧hi-lo≤c∧c≤maxLen∧(lo<hi→a=⟨g,By t path+lo*u.size,none⟩)
 | .mapp id,cs=>E.used id 0∧Bkz cs fun v=>∀ k t,Br9 (E.o id) k t→v=E.γ id
 | .ptr id path,cs=>E.used id 0∧Bkz cs fun v=>∀ t,Au6 (E.o id) t →
   ∃ g u,E.γ id=.pointer (some ⟨g,0,none⟩)∧K9 t path=some u∧inT t path∧v=.pointer (some ⟨g,By t path,none⟩)
 | .eptr id ver i path,cs=>E.used id ver∧Bkz cs fun v=>∀ t n,Agt (E.o id) ver t n →
   i<n∧∃ g m cp u,E.γ id=.slice (some ⟨g,0,none⟩) m cp∧K9 t path=some u∧inT t path∧v=.pointer (some ⟨g,i*t.size+By t path,none⟩)
 | .rptr fr t x,cs=>Bkz cs fun v=>∃ a vs,v=.pointer (some a)∧a.spot=none∧(0<t.size→E.ok fr a.block) ∧
   (∀ j y,vs[j]?=some y→E.w.cell? (a.add j)=some y)∧DR E.w (E.ok fr) t vs x
 | .pair a b,cs=>∃ c1 c2,cs=c1++c2∧ARc E a c1∧ARc E b c2
 | .tup _,_=>False
 | .fn f caps,cs=>∃ vs:Array Value,cs=[.func (.func f) #[] vs]∧ARc E caps vs.toList
 | .ub e r,cs=>∃ b,cs=[.bool b]∧(e=false→b=r)
def Amy:AV→Bool
 | .d _ t _=>t.agg
 | .pair _ _=>true
 | _=>false
def C7:Value→Bool
 | .agg _=>true
 | _=>false
def G7(E:Vv)(a:AV)(v:Value):Prop:=ARc E a v.cells.toList∧Amy a=C7 v
def ARt(E:Vv):AV→List Value→Prop
 | .pair a b,v::vs=>G7 E a v∧ARt E b vs
 | .d _ .unit _,[]=>True
 | _,_=>False
def E7(E:Vv):AV→Value→Prop
 | .any,_=>True
 | .un,v=>v=undef
 | .tup a,v=>∃ vs:Array Value,v=.tuple vs∧ARt E a vs.toList
 | a,v=>G7 E a v
structure Wy(E E':Vv):Prop where
 size:E.w.heap.size≤E'.w.heap.size
 ok:∀ fr b,b<E.w.heap.size→E.ok fr b→E'.ok fr b∧E'.w.heap[b]?=E.w.heap[b]?
 used:∀ id ver,E.used id ver→E'.used id ver
 sl:∀ id ver,E.used id ver→∀ t n,Agt (E'.o id) ver t n→Agt (E.o id) ver t n∧E'.γ id=E.γ id
 mm:∀ id,E.used id 0→∀ t,Au6 (E'.o id) t→Au6 (E.o id) t∧E'.γ id=E.γ id
 mp:∀ id,E.used id 0→∀ k t,Br9 (E'.o id) k t→Br9 (E.o id) k t∧E'.γ id=E.γ id
theorem Wy.refl(E:Vv):Wy E E :=
 ⟨Nat.le_refl _,fun _ _ _ h=>⟨h,rfl⟩,fun _ _ h=>h,fun _ _ _ _ _ h=>⟨h,rfl⟩,fun _ _ _ h=>⟨h,rfl⟩,fun _ _ _ _ h=>⟨h,rfl⟩⟩
theorem Wy.trans{E E' E'':Vv}(h:Wy E E')(k:Wy E' E''):Wy E E'' where
 size:=Nat.le_trans h.size k.size
 ok:=fun fr b hb ho=>by
  obtain⟨h1,h2⟩:=h.ok fr b hb ho
  obtain⟨k1,k2⟩:=k.ok fr b (Nat.lt_of_lt_of_le hb h.size) h1
  exact⟨k1,k2.trans h2⟩
 used:=fun id ver hu=>k.used id ver (h.used id ver hu)
 sl:=fun id ver hu t n hs=>by
  obtain⟨k1,k2⟩:=k.sl id ver (h.used id ver hu) t n hs
  obtain⟨h1,h2⟩:=h.sl id ver hu t n k1
  exact⟨h1,k2.trans h2⟩
 mm:=fun id hu t hs=>by
  obtain⟨k1,k2⟩:=k.mm id (h.used id 0 hu) t hs
  obtain⟨h1,h2⟩:=h.mm id hu t k1
  exact⟨h1,k2.trans h2⟩
 mp:=fun id hu kk t hs=>by
  obtain⟨k1,k2⟩:=k.mp id (h.used id 0 hu) kk t hs
  obtain⟨h1,h2⟩:=h.mp id hu kk t k1
  exact⟨h1,k2.trans h2⟩
theorem Bkz.mono{cs:List Value}{p q:Value→Prop}(h:Bkz cs p)(hpq:∀ v,p v→q v):Bkz cs q :=
 let ⟨v,h1,h2,h3⟩:=h;⟨v,h1,h2,hpq v h3⟩
theorem Am6(a:Addr)(j:Nat):(a.add j).block=a.block:=by unfold Addr.add;split<;>rfl
theorem ARc.step{E E':Vv}(h:Wy E E'):∀ {a:AV} {cs:List Value},ARc E a cs→ARc E' a cs
 | .any,_,_=>trivial
 | .d fr t x,cs,hr=>DR.move (fun b hb ho=>h.ok fr b hb ho) hr
 | .nilp,_,hr=>hr
 | .nils,_,hr=>hr
 | .own id ver,cs,⟨hu,hr⟩=>⟨h.used id ver hu,hr.mono fun v hv t n hs=>by
   obtain⟨h1,h2⟩:=h.sl id ver hu t n hs
   rw[h2];exact hv t n h1⟩
 | .view id ver lo hi cp,cs,⟨hu,hr⟩=>⟨h.used id ver hu,hr.mono fun v hv t n hs=>by
   obtain⟨h1,h2⟩:=h.sl id ver hu t n hs
   rw[h2];exact hv t n h1⟩
 | .mview id path lo hi,cs,⟨hu,hr⟩=>⟨h.used id 0 hu,hr.mono fun v hv t hs=>by
   obtain⟨h1,h2⟩:=h.mm id hu t hs
   rw[h2];exact hv t h1⟩
 | .mapp id,cs,⟨hu,hr⟩=>⟨h.used id 0 hu,hr.mono fun v hv k t hs=>by
   obtain⟨h1,h2⟩:=h.mp id hu k t hs
   rw[h2];exact hv k t h1⟩
 | .ptr id path,cs,⟨hu,hr⟩=>⟨h.used id 0 hu,hr.mono fun v hv t hs=>by
   obtain⟨h1,h2⟩:=h.mm id hu t hs
   rw[h2];exact hv t h1⟩
 | .eptr id ver i path,cs,⟨hu,hr⟩=>⟨h.used id ver hu,hr.mono fun v hv t n hs=>by
   obtain⟨h1,h2⟩:=h.sl id ver hu t n hs
   rw[h2];exact hv t n h1⟩
 | .rptr fr t x,cs,hr=>hr.mono fun v ⟨a,vs,h1,h2,h3,h4,h5⟩=>by
   have hb:∀ y j,vs[j]?=some y→a.block<E.w.heap.size:=fun y j hj=>by
    have:=World.block_lt_of_cell? E.w _ (h4 j y hj)
    rwa [Am6] at this
   have hl:=DR.len h5
   refine⟨a,vs,h1,h2,fun hp=>?_,fun j y hj=>?_,DR.move (fun b hb ho=>h.ok fr b hb ho) h5⟩
   ·have h0:0<vs.length:=by omega
    exact (h.ok fr _ (hb vs[0] 0 (List.getElem?_eq_getElem h0)) (h3 hp)).1
   ·have hp:0<t.size:=by
     have:j<vs.length:=(List.getElem?_eq_some_iff.1 hj).1
     omega
    rw[World.cell?_of_block (w:=E.w) (by rw[Am6];exact (h.ok fr _ (hb y j hj) (h3 hp)).2)]
    exact h4 j y hj
 | .pair a b,cs,⟨c1,c2,h1,h2,h3⟩=>⟨c1,c2,h1,ARc.step h h2,ARc.step h h3⟩
 | .fn f caps,cs,⟨vs,h1,h2⟩=>⟨vs,h1,ARc.step h h2⟩
 | .ub _ _,_,hr=>hr
theorem G7.step{E E':Vv}(h:Wy E E'){a:AV}{v:Value}(hv:G7 E a v):G7 E' a v:=⟨hv.1.step h,hv.2⟩
theorem ARt.step{E E':Vv}(h:Wy E E'):∀ {a:AV} {vs:List Value},ARt E a vs→ARt E' a vs
 | .pair _ _,_::_,⟨h1,h2⟩=>⟨h1.step h,ARt.step h h2⟩
 | .d _ .unit _,[],_=>trivial
theorem E7.step{E E':Vv}(h:Wy E E'){a:AV}{v:Value}(hv:E7 E a v):E7 E' a v:=by
 cases a with
 | any=>trivial
 | un=>exact hv
 | tup a=>exact let ⟨vs,h1,h2⟩:=hv;⟨vs,h1,h2.step h⟩
 | _=>exact G7.step h hv
theorem Amq{k l:IntKind}:kEq k l=true↔k=l:=by cases k<;>cases l<;>simp[kEq]
theorem Ty.beq_iff:∀ {t u:Ty},Ty.beq t u=true↔t=u:=by
 intro t
 induction t with
 | unit=>intro u;cases u<;>simp[Ty.beq]
 | pair a b iha ihb=>intro u;cases u<;>simp[Ty.beq,iha,ihb]
 | int k=>intro u;cases u<;>simp[Ty.beq,Amq]
 | bool=>intro u;cases u<;>simp[Ty.beq]
 | str=>intro u;cases u<;>simp[Ty.beq]
 | arr n t ih=>intro u;cases u<;>simp[Ty.beq,ih]
 | slice t ih=>intro u;cases u<;>simp[Ty.beq,ih]
 | ptr=>intro u;cases u<;>simp[Ty.beq]
theorem Aaa:∀ {a b:Id},idE a b=true↔a=b
 | (a,b,c),(d,e,f)=>by
  simp only[idE,Bool.and_eq_true,Nat.beq_eq,Prod.mk.injEq]
  constructor
  ·rintro⟨h1,h2,h3⟩;exact⟨h3,h2,h1⟩
  ·rintro⟨h1,h2,h3⟩;exact⟨h3,h2,h1⟩
theorem Np{t:Ty}(h:t.agg=false):t.size=1:=by cases t<;>simp_all [Ty.agg,Ty.size]
theorem Kh{E:Vv}:∀ {t:Ty} {a:AV} {cs:List Value},Bh t a=true→ARc E a cs→cs.length=t.size
 | t,.d _ u _,cs,h,hr=>by
  have:Ty.beq u t=true:=by simpa [Bh] using h
  rw[← Ty.beq_iff.1 this];exact DR.len hr
 | t,.pair a b,cs,h,⟨c1,c2,h1,h2,h3⟩=>by
  cases t<;>simp only[Bh,Bool.and_eq_true,Bool.false_eq_true] at h
  rename_i t u
  rw[h1,List.length_append,Kh h.1 h2,Kh h.2 h3];rfl
 | t,.nilp,cs,h,hr=>by rw[Np (by cases t<;>simp_all [Bh]),show cs=_ from hr];rfl
 | t,.nils,cs,h,hr=>by rw[Np (by cases t<;>simp_all [Bh]),show cs=_ from hr];rfl
 | t,.own _ _,cs,h,⟨_,v,hr,_⟩=>by rw[Np (by cases t<;>simp_all [Bh]),hr];rfl
 | t,.view _ _ _ _ _,cs,h,⟨_,v,hr,_⟩=>by rw[Np (by cases t<;>simp_all [Bh]),hr];rfl
 | t,.mview _ _ _ _,cs,h,⟨_,v,hr,_⟩=>by rw[Np (by cases t<;>simp_all [Bh]),hr];rfl
 | t,.mapp _,cs,h,⟨_,v,hr,_⟩=>by rw[Np (by cases t<;>simp_all [Bh]),hr];rfl
 | t,.ptr _ _,cs,h,⟨_,v,hr,_⟩=>by rw[Np (by cases t<;>simp_all [Bh]),hr];rfl
 | t,.eptr _ _ _ _,cs,h,⟨_,v,hr,_⟩=>by rw[Np (by cases t<;>simp_all [Bh]),hr];rfl
 | t,.rptr _ _ _,cs,h,⟨v,hr,_⟩=>by rw[Np (by cases t<;>simp_all [Bh]),hr];rfl
 | t,.fn _ _,cs,h,⟨_,hr,_⟩=>by rw[Np (by cases t<;>simp_all [Bh]),hr];rfl
 | t,.ub _ _,cs,h,⟨_,hr,_⟩=>by rw[Np (by cases t<;>simp_all [Bh]),hr];rfl
 | t,.any,_,h,_=>by cases t<;>simp[Bh] at h
 | t,.un,_,h,_=>by cases t<;>simp[Bh] at h
 | t,.tup _,_,h,_=>by cases t<;>simp[Bh] at h
theorem Ay0{E:Vv}:∀ {t:Ty} {a:AV} {cs:List Value},Bh t a=true→ARc E a cs→∀ v∈cs,v.oneCell'=true
 | t,.d _ u _,cs,h,hr=>DR.one hr
 | t,.pair a b,cs,h,⟨c1,c2,h1,h2,h3⟩=>by
  cases t<;>simp only[Bh,Bool.and_eq_true,Bool.false_eq_true] at h
  intro v hv
  rw[h1] at hv
  rcases List.mem_append.1 hv with hv|hv
  ·exact Ay0 h.1 h2 v hv
  ·exact Ay0 h.2 h3 v hv
 | t,.nilp,cs,h,hr=>by rw[show cs=_ from hr];simp[Value.oneCell']
 | t,.nils,cs,h,hr=>by rw[show cs=_ from hr];simp[Value.oneCell']
 | t,.own _ _,cs,h,⟨_,v,hr,h1,_⟩=>by rw[hr];simpa using h1
 | t,.view _ _ _ _ _,cs,h,⟨_,v,hr,h1,_⟩=>by rw[hr];simpa using h1
 | t,.mview _ _ _ _,cs,h,⟨_,v,hr,h1,_⟩=>by rw[hr];simpa using h1
 | t,.mapp _,cs,h,⟨_,v,hr,h1,_⟩=>by rw[hr];simpa using h1
 | t,.ptr _ _,cs,h,⟨_,v,hr,h1,_⟩=>by rw[hr];simpa using h1
 | t,.eptr _ _ _ _,cs,h,⟨_,v,hr,h1,_⟩=>by rw[hr];simpa using h1
 | t,.rptr _ _ _,cs,h,⟨v,hr,h1,_⟩=>by rw[hr];simpa using h1
 | t,.fn _ _,cs,h,⟨_,hr,_⟩=>by rw[hr];simp[Value.oneCell']
 | t,.ub _ _,cs,h,⟨_,hr,_⟩=>by rw[hr];simp[Value.oneCell']
 | t,.any,_,h,_=>by cases t<;>simp[Bh] at h
 | t,.un,_,h,_=>by cases t<;>simp[Bh] at h
 | t,.tup _,_,h,_=>by cases t<;>simp[Bh] at h
theorem Bpt:∀ {t:Ty} {a:AV},Bh t a=true→Amy a=t.agg
 | t,.d _ u _,h=>by rw[← Ty.beq_iff.1 (show Ty.beq u t=true by simpa [Bh] using h)];rfl
 | t,.pair a b,h=>by cases t<;>simp[Bh] at h;rfl
 | t,.nilp,h=>by cases t<;>simp_all [Bh,Amy]
 | t,.nils,h=>by cases t<;>simp_all [Bh,Amy]
 | t,.own _ _,h=>by cases t<;>simp_all [Bh,Amy]
 | t,.view _ _ _ _ _,h=>by cases t<;>simp_all [Bh,Amy]
 | t,.mview _ _ _ _,h=>by cases t<;>simp_all [Bh,Amy]
 | t,.mapp _,h=>by cases t<;>simp_all [Bh,Amy]
 | t,.ptr _ _,h=>by cases t<;>simp_all [Bh,Amy]
 | t,.eptr _ _ _ _,h=>by cases t<;>simp_all [Bh,Amy]
 | t,.rptr _ _ _,h=>by cases t<;>simp_all [Bh,Amy]
 | t,.fn _ _,h=>by cases t<;>simp_all [Bh,Amy]
 | t,.ub _ _,h=>by cases t<;>simp_all [Bh,Amy]
 | t,.any,h=>by cases t<;>simp[Bh] at h
 | t,.un,h=>by cases t<;>simp[Bh] at h
 | t,.tup _,h=>by cases t<;>simp[Bh] at h
theorem Adv{E:Vv}:∀ (c:AV) (t:Ty) (p:List Nat) (u:Ty) (cs:List Value),Bh t c=true→K9 t p=some u→inT t p→ARc E c cs→∀ a,Axo c p=some a →
  Bh u a=true∧ARc E a ((cs.drop (By t p)).take u.size)∧By t p+u.size≤t.size
 | c,t,[],u,cs,hf,ht,_,h,a,ha=>by
  have e:u=t:=by cases t<;>simpa [K9] using ht.symm
  subst e
  have h0:By u []=0:=by cases u<;>rfl
  have hn:a=c:=by cases c<;>simpa [Axo] using ha.symm
  subst hn
  refine⟨hf,?_,by omega⟩
  rw[h0,List.drop_zero,List.take_of_length_le (by rw[Kh hf h];exact Nat.le_refl _)]
  exact h
 | .pair x y,t,i::p,u,cs,hf,ht,hi,⟨c1,c2,h1,h2,h3⟩,a,ha=>by
  cases t<;>simp only[Bh,Bool.and_eq_true,Bool.false_eq_true] at hf
  rename_i ta tb
  have l1:=Kh hf.1 h2
  have l2:=Kh hf.2 h3
  cases i with
  | zero =>
   obtain⟨k1,k2,k3⟩:=Adv x ta p u c1 hf.1 ht hi h2 a ha
   refine⟨k1,?_,by simp only[By,Ty.size];omega⟩
   simp only[By]
   rw[h1,List.drop_append_of_le_length (by omega),List.take_append_of_le_length (by simp;omega)]
   exact k2
  | succ n =>
   obtain⟨k1,k2,k3⟩:=Adv y tb (n::p) u c2 hf.2 ht hi h3 a ha
   refine⟨k1,?_,by simp only[By,Ty.size];omega⟩
   simp only[By]
   rw[h1,← List.drop_drop,← l1,List.drop_left]
   exact k2
 | .d fr s x,t,i::p,u,cs,hf,ht,hi,h,a,ha=>by
  have e:=Ty.beq_iff.1 (show Ty.beq s t=true by simpa [Bh] using hf)
  subst e
  obtain⟨y,k1,k2,k3⟩:=Ahe fr s x (i::p) u cs ht hi h
  have:a=.d fr u y:=by
   have hn:Axo (.d fr s x) (i::p)=Bre fr s x (i::p):=rfl
   rw[hn,k1] at ha;exact (Option.some.inj ha).symm
  subst this
  exact⟨by simp[Bh,Ty.beq_iff],k2,k3⟩
 | .any,_,_::_,_,_,hf,_,_,_,_,ha=>by cases ha
 | .un,_,_::_,_,_,hf,_,_,_,_,ha=>by cases ha
 | .nilp,_,_::_,_,_,hf,_,_,_,_,ha=>by cases ha
 | .nils,_,_::_,_,_,hf,_,_,_,_,ha=>by cases ha
 | .own _ _,_,_::_,_,_,hf,_,_,_,_,ha=>by cases ha
 | .view _ _ _ _ _,_,_::_,_,_,hf,_,_,_,_,ha=>by cases ha
 | .mview _ _ _ _,_,_::_,_,_,hf,_,_,_,_,ha=>by cases ha
 | .mapp _,_,_::_,_,_,hf,_,_,_,_,ha=>by cases ha
 | .ptr _ _,_,_::_,_,_,hf,_,_,_,_,ha=>by cases ha
 | .eptr _ _ _ _,_,_::_,_,_,hf,_,_,_,_,ha=>by cases ha
 | .rptr _ _ _,_,_::_,_,_,hf,_,_,_,_,ha=>by cases ha
 | .fn _ _,_,_::_,_,_,hf,_,_,_,_,ha=>by cases ha
 | .ub _ _,_,_::_,_,_,hf,_,_,_,_,ha=>by cases ha
 | .tup _,_,_::_,_,_,hf,_,_,_,_,ha=>by cases ha
end Go.Pon
namespace Go.Pon
open Go
structure Dq where
 P:Program
 G:Ctx
 C:Ap
 w0:World
 own:List Nat
 B:Nat→Prop
 nt:Nat
 args:List (Option Value)
def Dq.base(K:Dq):Nat:=K.w0.heap.size
def Dq.dok(K:Dq)(d:Nat):Prop:=(∀ v,K.args[d]?≠some (some v))∧d<K.nt
def Bg:Option Obj→Value→Option Nat
 | some (.sli _ _ _ _),.slice (some a) _ _=>some a.block
 | some (.mem _ _ _),.pointer (some a)=>some a.block
 | some (.mpo _ _ _),.map (some r)=>some r
 | _,_=>none
def Ah9(K:Dq)(o:Id→Option Obj)(γ:Id→Value)(fr:Bool)(b:Nat):Prop :=
 (∀ id,Bg (o id) (γ id)≠some b)∧¬ K.B b∧(fr=true→K.base≤b)
def Bi(K:Dq)(objs:Rc)(used:Id→Nat→Prop)(γ:Id→Value)(w:World):Vv :=
 ⟨w,An objs,γ,used,Ah9 K (An objs) γ⟩
def Ccp(E:Vv)(fr:Bool)(t:Ty)(rows:List t.den)(base:Nat)(h:Value):Prop :=
 (h=.slice none 0 0∧rows=[])∨∃ g cap cur e,h=.slice (some ⟨g,0,none⟩) (List.length rows) cap∧E.w.heap[g]?=some (.cells cur e (0,0)) ∧
  List.length rows≤cap∧cap≤maxLen∧cur.size=cap*t.size∧B5 (DR E.w (E.ok fr) t) t.size (cur.toList.take (List.length rows*t.size)) rows∧(fr=true→base≤g)
def Cpe(E:Vv)(fr:Bool)(t:Ty)(c:AV)(base:Nat)(h:Value):Prop :=
 ∃ g e cur,h=.pointer (some ⟨g,0,none⟩)∧E.w.heap[g]?=some (.cells cur e (0,0))∧Bh t c=true∧ARc E c cur.toList∧(fr=true→base≤g)
def At3(w:World)(k:IntKind)(t:Ty):List MapEntry→List (Int×t.den)→Prop
 | [],[]=>True
 | e::es,p::l=>e.key=.int k p.1∧inK k p.1∧DR w (fun _=>False) t e.val.cells.toList p.2∧C7 e.val=t.agg∧At3 w k t es l
 | _,_=>False
theorem At3.world{w w':World}{k:IntKind}{t:Ty}:∀ {es:List MapEntry} {l:List (Int×t.den)},t.flat=true→At3 w k t es l→At3 w' k t es l
 | [],[],_,_=>trivial
 | _::_,_::_,hf,⟨h1,h2,h3,h4,h5⟩=>⟨h1,h2,DR.flat hf h3,h4,At3.world hf h5⟩
def Ctm(E:Vv)(k:IntKind)(t:Ty)(l:List (Int×t.den))(h:Value):Prop :=
 t.flat=true∧∃ g es clock,h=.map (some g)∧E.w.heap[g]?=some (.map es clock)∧At3 E.w k t es.toList l
def OR(K:Dq)(E:Vv)(id:Id):Obj→Prop
 | .sli _ fr t rows=>Ccp E fr t rows K.base (E.γ id)
 | .frz _ fr t rows=>DR E.w (E.ok fr) (.slice t) [E.γ id] rows∧∀ a n c,E.γ id=.slice (some a) n c→a.off=0∧a.spot=none
 | .mem fr t c=>Cpe E fr t c K.base (E.γ id)
 | .mpo k t l=>Ctm E k t l (E.γ id)
 | .mfz fr t c=>Cpe E fr t c K.base (E.γ id)∧∀ a,E.γ id=.pointer (some a)→E.ok fr a.block
structure Aos(w0 w:World)(own:List Nat):Prop where
 os:w.os=w0.os
 tape:w.tape=w0.tape
 output:w.output=w0.output
 size:w0.heap.size≤w.heap.size
 block:∀ b,b<w0.heap.size→b ∉ own→w.heap[b]?=w0.heap[b]?
structure Hi(K:Dq)(S:St)(used:Id→Nat→Prop)(γ:Id→Value)(a:Act)(w:World):Prop where
 size:a.tmps.size=K.nt
 defers:a.defers=[]
 kept:∀ (i:Nat) (v:Value),K.args[i]?=some (some v)→a.tmps.getD i undef=v
 env:∀ t,E7 (Bi K S.objs used γ w) (Ia S.env t) (a.tmps.getD t undef)
 objs:∀ id o,An S.objs id=some o→OR K (Bi K S.objs used γ w) id o
 ou:∀ id o,An S.objs id=some o→∃ v,used id v
 vers:∀ id ver fr t rows v,An S.objs id=some (.sli ver fr t rows)→used id v→v≤ver
 sep:∀ i j g,Bg (An S.objs i) (γ i)=some g→Bg (An S.objs j) (γ j)=some g→i=j
 mod:∀ i g,Bg (An S.objs i) (γ i)=some g→(K.base≤g∨g∈K.own)∧¬ K.B g
 frame:Aos K.w0 w K.own
theorem L6(i:Id)(x:Option Obj)(r:Rc)(j:Id):An ((i,x)::r) j=if i=j then x else An r j:=by
 simp only[An]
 by_cases h:i=j
 ·rw[if_pos h,Aaa.2 h]
 ·rw[if_neg h]
  have:idE i j=false:=by rw[Bool.eq_false_iff];exact fun e=>h (Aaa.1 e)
  rw[this]
theorem Rt(i:Nat)(x:AV)(r:List (Nat×AV))(j:Nat):Ia ((i,x)::r) j=if i=j then x else Ia r j:=by
 simp only[Ia]
 by_cases h:i=j
 ·subst h;simp
 ·rw[if_neg h]
  have:Nat.beq i j=false:=by rw[Bool.eq_false_iff];exact fun e=>h (Nat.eq_of_beq_eq_true e)
  rw[this]
theorem Ady:∀ (u:Rc) (r:Rc) (j:Id),An (Fg u r) j=if Ap1 (X6 u) j=true then An u j else An r j
 | [],r,j=>by simp[Fg,X6,Ap1]
 | (i,x)::u,r,j=>by
  show An ((i,x)::Fg u r) j=_
  rw[L6,L6,Ady u r j]
  simp only[X6,Ap1]
  by_cases h:i=j
  ·simp[h,Aaa.2 rfl]
  ·have:idE i j=false:=by rw[Bool.eq_false_iff];exact fun e=>h (Aaa.1 e)
   simp[h,this]
section
variable {K:Dq} {S:St} {used:Id→Nat→Prop} {γ:Id→Value} {a:Act} {w:World}
theorem OR.step{E E':Vv}{id:Id}{o:Obj}(h:Wy E E')(hγ:E'.γ id=E.γ id)
  (hb:∀ g,Bg (some o) (E.γ id)=some g→E'.w.heap[g]?=E.w.heap[g]?) (ho:OR K E id o):OR K E' id o:=by
 cases o with
 | sli ver fr t rows =>
  rcases ho with⟨h1,h2⟩ | ⟨g,cap,cur,e,h1,h2,h3,h4,h5,h6,h7⟩
  ·exact .inl ⟨hγ.trans h1,h2⟩
  ·refine .inr ⟨g,cap,cur,e,hγ.trans h1,?_,h3,h4,h5,h6.mono fun _ _=>DR.move fun b hb ho=>h.ok fr b hb ho,h7⟩
   rw[hb g (by rw[h1];rfl)];exact h2
 | frz ver fr t rows =>
  refine⟨?_,?_⟩
  ·rw[hγ];exact DR.move (fun b hb ho=>h.ok fr b hb ho) ho.1
  ·rw[hγ];exact ho.2
 | mem fr t c =>
  obtain⟨g,e,cur,h1,h2,h3,h4,h5⟩:=ho
  refine⟨g,e,cur,hγ.trans h1,?_,h3,h4.step h,h5⟩
  rw[hb g (by rw[h1];rfl)];exact h2
 | mpo k t l =>
  obtain⟨h0,g,es,clock,h1,h2,h3⟩:=ho
  refine⟨h0,g,es,clock,hγ.trans h1,?_,h3.world h0⟩
  rw[hb g (by rw[h1];rfl)];exact h2
 | mfz fr t c =>
  obtain⟨⟨g,e,cur,h1,h2,h3,h4,h5⟩,h6⟩:=ho
  have hlt:g<E.w.heap.size:=(Array.getElem?_eq_some_iff.1 h2).1
  have hok:=h.ok fr g hlt (h6 _ h1)
  refine⟨⟨g,e,cur,hγ.trans h1,hok.2.trans h2,h3,h4.step h,h5⟩,fun ad had=>?_⟩
  rw[hγ,h1] at had
  cases had
  exact hok.1
theorem Hi.move(h:Hi K S used γ a w){objs':Rc}{used':Id→Nat→Prop}{γ':Id→Value}{w':World}
  (hs:Wy (Bi K S.objs used γ w) (Bi K objs' used' γ' w'))
  (ho:∀ id o,An objs' id=some o→OR K (Bi K objs' used' γ' w') id o)
  (hou:∀ id o,An objs' id=some o→∃ v,used' id v)
  (hv:∀ id ver fr t rows v,An objs' id=some (.sli ver fr t rows)→used' id v→v≤ver)
  (hsep:∀ i j g,Bg (An objs' i) (γ' i)=some g→Bg (An objs' j) (γ' j)=some g→i=j)
  (hmod:∀ i g,Bg (An objs' i) (γ' i)=some g→(K.base≤g∨g∈K.own)∧¬ K.B g)
  (hf:Aos K.w0 w' K.own):Hi K { S with objs:=objs' } used' γ' a w' where
 size:=h.size
 defers:=h.defers
 kept:=h.kept
 env:=fun t=>(h.env t).step hs
 objs:=ho
 ou:=hou
 vers:=hv
 sep:=hsep
 mod:=hmod
 frame:=hf
theorem Caq{t d:Nat}{arr:Array Value}{v:Value}(h:d<arr.size):(arr.setIfInBounds d v).getD t undef=if d=t then v else arr.getD t undef:=by
 by_cases hd:d=t
 ·subst hd;simp[Array.getD,h]
 ·by_cases ht:t<arr.size
  ·simp[Array.getD,hd,ht,Array.getElem_setIfInBounds_ne]
  ·simp[Array.getD,hd,ht]
theorem Hi.put(h:Hi K S used γ a w){v:AV}{val:Value}(hv:E7 (Bi K S.objs used γ w) v val)(dst:Option Tmp)(hd:∀ d,dst=some d→K.dok d) :
  Hi K { S with env:=Adl S.env dst v } used γ (a.put dst val) w:=by
 cases dst with
 | none=>exact h
 | some d =>
  refine⟨by simp[Act.put,h.size],h.defers,fun i v hi=>?_,fun t=>?_,h.objs,h.ou,h.vers,h.sep,h.mod,h.frame⟩
  ·simp only[Act.put]
   rw[Caq (by rw[h.size];exact (hd d rfl).2),if_neg,h.kept i v hi]
   rintro rfl
   exact (hd d rfl).1 v hi
  simp only[Adl,Rt,Act.put]
  rw[Caq (by rw[h.size];exact (hd d rfl).2)]
  by_cases hd:d=t
  ·simpa [hd] using hv
  ·simpa [hd] using h.env t
theorem Aak(h:Hi K S used γ a w){i:Id}{g:Nat}(hl:Bg (An S.objs i) (γ i)=some g):g<w.heap.size:=by
 cases ho:An S.objs i with
 | none=>rw[ho] at hl;simp[Bg] at hl
 | some o =>
  have hor:=h.objs i o ho
  rw[ho] at hl
  cases o with
  | sli ver fr t rows =>
   rcases hor with⟨h1,_⟩ | ⟨g',cap,cur,e,h1,h2,_⟩
   ·rw[show γ i=_ from h1] at hl;simp[Bg] at hl
   ·rw[show γ i=_ from h1] at hl
    simp[Bg] at hl
    subst hl
    exact (Array.getElem?_eq_some_iff.1 h2).1
  | mem fr t c =>
   obtain⟨g',e,cur,h1,h2,_⟩:=hor
   rw[show γ i=_ from h1] at hl
   simp[Bg] at hl
   subst hl
   exact (Array.getElem?_eq_some_iff.1 h2).1
  | mpo k t l =>
   obtain⟨_,g',es,clock,h1,h2,_⟩:=hor
   rw[show γ i=_ from h1] at hl
   simp[Bg] at hl
   subst hl
   exact (Array.getElem?_eq_some_iff.1 h2).1
  | frz _ _ _ _=>simp[Bg] at hl
  | mfz _ _ _=>simp[Bg] at hl
def upd{β:Type}(f:Id→β)(i:Id)(v:β):Id→β:=fun j=>if i=j then v else f j
def Bpn(used:Id→Nat→Prop)(i:Id)(n:Nat):Id→Nat→Prop:=fun j v=>used j v∨(j=i∧v=n)
theorem Aq6(w:World)(o:Go.Obj)(i:Nat)(h:i<w.heap.size):(w.alloc o).heap[i]?=w.heap[i]?:=by
 first
 | exact heap_alloc_old w o i h
 | exact heap_alloc_old w o h
theorem Aos.alloc{w0 w:World}{own:List Nat}(h:Aos w0 w own)(o:Go.Obj):Aos w0 (w.alloc o) own where
 os:=h.os
 tape:=h.tape
 output:=h.output
 size:=by have:=h.size;simp;omega
 block:=fun b hb hn=>by
  rw[Aq6 w o b (Nat.lt_of_lt_of_le hb h.size)];exact h.block b hb hn
theorem Aos.setRow{w0 w:World}{own:List Nat}(h:Aos w0 w own)(g:Nat)(cs:Array Value)(hg:w0.heap.size≤g∨g∈own):Aos w0 (w.setRow g cs) own where
 os:=h.os
 tape:=h.tape
 output:=h.output
 size:=by have:=h.size;simpa [World.setRow] using this
 block:=fun b hb hn=>by
  rw[setRow_other w g b cs (fun e=>by
   subst e
   rcases hg with hg|hg
   ·omega
   ·exact hn hg)]
  exact h.block b hb hn
theorem Hi.new(h:Hi K S used γ a w){w':World}{id:Id}{o:Obj}{hv:Value}(hid:∀ v,¬ used id v)
  (hlive:∀ g,Bg (some o) hv=some g→g=w.heap.size∧¬ K.B g)
  (hsize:w.heap.size≤w'.heap.size) (hold:∀ b,b<w.heap.size→w'.heap[b]?=w.heap[b]?) (hf:Aos K.w0 w' K.own)
  (ho:∀ E',Wy (Bi K S.objs used γ w) E'→E'=Bi K ((id,some o)::S.objs) (Bpn used id 0) (upd γ id hv) w'→OR K E' id o) :
  Hi K { S with objs:=(id,some o)::S.objs } (Bpn used id 0) (upd γ id hv) a w':=by
 have hne:∀ j v,used j v→id≠j:=fun j v hj e=>hid v (e▸hj)
 have hbase:K.base≤w.heap.size:=h.frame.size
 have hlook:∀ j,An ((id,some o)::S.objs) j=if id=j then some o else An S.objs j:=fun j=>L6 ..
 have hlv:∀ j g,Bg (An ((id,some o)::S.objs) j) (upd γ id hv j)=some g→(j=id∧g=w.heap.size∧¬ K.B g)∨(j≠id∧Bg (An S.objs j) (γ j)=some g):=by
  intro j g hg
  rw[hlook] at hg
  unfold upd at hg
  by_cases e:id=j
  ·rw[if_pos e,if_pos e] at hg
   exact .inl ⟨e.symm,hlive g hg⟩
  ·rw[if_neg e,if_neg e] at hg
   exact .inr ⟨fun e'=>e e'.symm,hg⟩
 have hs:Wy (Bi K S.objs used γ w) (Bi K ((id,some o)::S.objs) (Bpn used id 0) (upd γ id hv) w'):=by
  refine⟨hsize,fun fr b hb hok=>⟨⟨fun j hj=>?_,hok.2⟩,hold b hb⟩,fun j v hj=>.inl hj,fun j v hj t n hsl=>?_,fun j hj t hmm=>?_,fun j hj kk t hmm=>?_⟩
  ·rcases hlv j b hj with⟨_,e,_⟩ | ⟨_,e⟩
   ·have:b<w.heap.size:=hb
    omega
   ·exact hok.1 j e
  ·have e:=hne j v hj
   have h1:(Bi K ((id,some o)::S.objs) (Bpn used id 0) (upd γ id hv) w').o j=An S.objs j:=by
    show An ((id,some o)::S.objs) j=_
    rw[hlook,if_neg e]
   rw[h1] at hsl
   exact⟨hsl,if_neg e⟩
  ·have e:=hne j 0 hj
   have h1:(Bi K ((id,some o)::S.objs) (Bpn used id 0) (upd γ id hv) w').o j=An S.objs j:=by
    show An ((id,some o)::S.objs) j=_
    rw[hlook,if_neg e]
   rw[h1] at hmm
   exact⟨hmm,if_neg e⟩
  ·have e:=hne j 0 hj
   have h1:(Bi K ((id,some o)::S.objs) (Bpn used id 0) (upd γ id hv) w').o j=An S.objs j:=by
    show An ((id,some o)::S.objs) j=_
    rw[hlook,if_neg e]
   rw[h1] at hmm
   exact⟨hmm,if_neg e⟩
 refine h.move hs (fun j oj hj=>?_) (fun j oj hj=>?_) (fun j ver fr t rows v hj hu=>?_) (fun i j g hi hj=>?_) (fun i g hi=>?_) hf
 ·rw[hlook] at hj
  by_cases e:id=j
  ·rw[if_pos e] at hj
   cases hj
   subst e
   exact ho _ hs rfl
  ·rw[if_neg e] at hj
   refine OR.step hs (if_neg e) (fun g hg=>hold g ?_) (h.objs j oj hj)
   exact Aak h (i:=j) (by rw[hj];exact hg)
 ·rw[hlook] at hj
  by_cases e:id=j
  ·exact⟨0,.inr ⟨e.symm,rfl⟩⟩
  ·rw[if_neg e] at hj
   obtain⟨v,hv⟩:=h.ou j oj hj
   exact⟨v,.inl hv⟩
 ·rw[hlook] at hj
  by_cases e:id=j
  ·rcases hu with hu | ⟨_,hu⟩
   ·exact absurd hu (by subst e;exact hid v)
   ·omega
  ·rw[if_neg e] at hj
   rcases hu with hu | ⟨e',_⟩
   ·exact h.vers j ver fr t rows v hj hu
   ·exact absurd e'.symm e
 ·rcases hlv i g hi with⟨e1,e2,_⟩ | ⟨e1,e2⟩<;>rcases hlv j g hj with⟨f1,f2,_⟩ | ⟨f1,f2⟩
  ·rw[e1,f1]
  ·have:=Aak h f2;omega
  ·have:=Aak h e2;omega
  ·exact h.sep i j g e2 f2
 ·rcases hlv i g hi with⟨_,e2,e3⟩ | ⟨_,e2⟩
  ·exact⟨.inl (by omega),e3⟩
  ·exact h.mod i g e2
end
end Go.Pon
namespace Go.Pon
open Go
def v1B:Value→Value→Bool
 | .int k n,.int l m=>kEq k l&&decide (n=m)
 | .bool a,.bool b=>a == b
 | .string a,.string b=>Nat.beq a.size 0&&Nat.beq b.size 0
 | .slice none 0 0,.slice none 0 0=>true
 | .pointer none,.pointer none=>true
 | _,_=>false
def vsB:List Value→List Value→Bool
 | [],[]=>true
 | a::l,b::m=>v1B a b&&vsB l m
 | _,_=>false
theorem Cb2{a b:ByteArray}(ha:a.size=0)(hb:b.size=0):a=b:=by
 cases a with|mk a=>cases b with|mk b =>
 have h1:a.size=0:=ha
 have h2:b.size=0:=hb
 rw[Array.eq_empty_of_size_eq_zero h1,Array.eq_empty_of_size_eq_zero h2]
theorem Cny{a b:Value}(h:v1B a b=true):a=b:=by
 unfold v1B at h
 split at h
 ·simp only[Bool.and_eq_true,decide_eq_true_eq] at h
  rw[Amq.1 h.1,h.2]
 ·rw[eq_of_beq h]
 ·simp only[Bool.and_eq_true,Nat.beq_eq] at h
  rw[Cb2 h.1 h.2]
 ·rfl
 ·rfl
 ·cases h
theorem Ch3:∀ {l m:List Value},vsB l m=true→l=m
 | [],[],_=>rfl
 | a::l,b::m,h=>by
  simp only[vsB,Bool.and_eq_true] at h
  rw[Cny h.1,Ch3 h.2]
def Bpj(P:Program)(t:Ty)(T:TypeId):Bool :=
 match P.info? T with
 | some i=>Nat.beq i.size t.size&&Nat.ble i.bytes (24*t.size)&&(match i.zero with
  | some z=>vsB z.cells.toList (O9 t)&&(C7 z == t.agg)
  | none=>false)
 | none=>false
def tyC(P:Program):Ty→(TypeId→Bool)×(Nat→List Field→Bool)
 | .unit =>
  let ff (off:Nat) (fs:List Field):Bool:=match fs with
   | []=>true
   | _=>false
  (fun T=>Bpj P .unit T&&(match P.underlying T with
   | some (.struct fs)=>ff 0 fs.toList&&!P.stoodInHeld T
   | _=>false),ff)
 | .pair a b =>
  let ff (off:Nat) (fs:List Field):Bool:=match fs with
   | f::r=>Nat.beq f.offset off&&(tyC P a).1 f.type&&Nat.blt 0 a.size&&(f.name != "_")&&(tyC P b).2 (off+a.size) r
   | []=>false
  (fun T=>Bpj P (.pair a b) T&&(match P.underlying T with
   | some (.struct fs)=>ff 0 fs.toList&&!P.stoodInHeld T
   | _=>false),ff)
 | .int k=>(fun T=>Bpj P (.int k) T&&(match P.underlying T with
   | some (.int l)=>kEq k l
   | _=>false),fun _ _=>false)
 | .bool=>(fun T=>Bpj P .bool T&&(match P.underlying T with
   | some .bool=>true
   | _=>false),fun _ _=>false)
 | .str=>(fun T=>Bpj P .str T&&(match P.underlying T with
   | some .string=>true
   | _=>false),fun _ _=>false)
 | .arr n t=>(fun T=>Bpj P (.arr n t) T&&(match P.underlying T with
   | some (.array m e)=>Nat.beq n m&&(tyC P t).1 e
   | _=>false),fun _ _=>false)
 | .slice t=>(fun T=>Bpj P (.slice t) T&&(match P.underlying T with
   | some (.slice e)=>(tyC P t).1 e
   | _=>false),fun _ _=>false)
 | .ptr=>(fun T=>Bpj P .ptr T&&(match P.underlying T with
   | some (.pointer _)=>true
   | _=>false),fun _ _=>false)
def T1(P:Program)(t:Ty)(T:TypeId):Bool:=(tyC P t).1 T
def Ef(P:Program)(t:Ty)(off:Nat)(fs:List Field):Bool:=(tyC P t).2 off fs
theorem Tn{P:Program}{t:Ty}{T:TypeId}(h:T1 P t T=true):Bpj P t T=true:=by
 cases t<;>simp only[T1,tyC,Bool.and_eq_true] at h<;>exact h.1
theorem Kz{P:Program}{t:Ty}{T:TypeId}(h:Bpj P t T=true) :
  ∃ i z,P.info? T=some i∧i.size=t.size∧i.bytes≤24*t.size∧i.zero=some z∧z.cells.toList=O9 t∧C7 z=t.agg:=by
 unfold Bpj at h
 split at h
 ·rename_i i hi
  simp only[Bool.and_eq_true,Nat.beq_eq,Nat.ble_eq] at h
  obtain⟨⟨h1,h2⟩,h3⟩:=h
  split at h3
  ·rename_i z hz
   simp only[Bool.and_eq_true,beq_iff_eq] at h3
   exact⟨i,z,hi,h1,h2,hz,Ch3 h3.1,h3.2⟩
  ·cases h3
 ·cases h
section
variable {P:Program} {T:TypeId}
theorem Ael{k:IntKind}(h:T1 P (.int k) T=true):P.underlying T=some (.int k):=by
 simp only[T1,tyC,Bool.and_eq_true] at h
 have h2:=h.2
 split at h2
 ·rename_i l hl;rw[Amq.1 h2];exact hl
 ·cases h2
theorem Ax8(h:T1 P .bool T=true):P.underlying T=some .bool:=by
 simp only[T1,tyC,Bool.and_eq_true] at h
 have h2:=h.2
 split at h2
 ·rename_i hl;exact hl
 ·cases h2
theorem Ai9(h:T1 P .str T=true):P.underlying T=some .string:=by
 simp only[T1,tyC,Bool.and_eq_true] at h
 have h2:=h.2
 split at h2
 ·rename_i hl;exact hl
 ·cases h2
theorem Aez{n:Nat}{t:Ty}(h:T1 P (.arr n t) T=true):∃ e,P.underlying T=some (.array n e)∧T1 P t e=true:=by
 simp only[T1,tyC,Bool.and_eq_true] at h
 have h2:=h.2
 split at h2
 ·rename_i m e hl
  simp only[Bool.and_eq_true,Nat.beq_eq] at h2
  rw[h2.1];exact⟨e,hl,h2.2⟩
 ·cases h2
theorem Hy{t:Ty}(h:T1 P (.slice t) T=true):∃ e,P.underlying T=some (.slice e)∧T1 P t e=true:=by
 simp only[T1,tyC,Bool.and_eq_true] at h
 have h2:=h.2
 split at h2
 ·rename_i e hl;exact⟨e,hl,h2⟩
 ·cases h2
theorem Ap2(h:T1 P .ptr T=true):∃ e,P.underlying T=some (.pointer e):=by
 simp only[T1,tyC,Bool.and_eq_true] at h
 have h2:=h.2
 split at h2
 ·rename_i e hl;exact⟨e,hl⟩
 ·cases h2
theorem Atz(h:T1 P .unit T=true):∃ fs,P.underlying T=some (.struct fs)∧Ef P .unit 0 fs.toList=true∧P.stoodInHeld T=false:=by
 simp only[T1,tyC,Bool.and_eq_true] at h
 have h2:=h.2
 split at h2
 ·rename_i fs hl
  simp only[Bool.and_eq_true,Bool.not_eq_true'] at h2
  exact⟨fs,hl,h2.1,h2.2⟩
 ·cases h2
theorem An7{a b:Ty}(h:T1 P (.pair a b) T=true):∃ fs,P.underlying T=some (.struct fs)∧Ef P (.pair a b) 0 fs.toList=true∧P.stoodInHeld T=false:=by
 simp only[T1,tyC,Bool.and_eq_true] at h
 have h2:=h.2
 split at h2
 ·rename_i fs hl
  simp only[Bool.and_eq_true,Bool.not_eq_true'] at h2
  exact⟨fs,hl,h2.1,h2.2⟩
 ·cases h2
theorem Z0{a b:Ty}{off:Nat}{fs:List Field}(h:Ef P (.pair a b) off fs=true) :
  ∃ f r,fs=f::r∧f.offset=off∧T1 P a f.type=true∧0<a.size∧f.name≠"_"∧Ef P b (off+a.size) r=true:=by
 simp only[Ef,tyC] at h
 split at h
 ·rename_i f r
  simp only[Bool.and_eq_true,Nat.beq_eq,bne_iff_ne,ne_eq,Nat.blt_eq] at h
  exact⟨f,r,rfl,h.1.1.1.1,h.1.1.1.2,h.1.1.2,h.1.2,h.2⟩
 ·cases h
theorem Ae2{off:Nat}{fs:List Field}(h:Ef P .unit off fs=true):fs=[]:=by
 simp only[Ef,tyC] at h
 split at h
 ·rfl
 ·cases h
theorem Cld{t:Ty}(h:T1 P t T=true):∃ d,P.underlying T=some d∧(match d with | .struct _ | .array _ _=>true|_=>false)=t.agg:=by
 cases t with
 | unit=>obtain⟨fs,h,_⟩:=Atz h;exact⟨_,h,rfl⟩
 | pair a b=>obtain⟨fs,h,_⟩:=An7 h;exact⟨_,h,rfl⟩
 | int k=>exact⟨_,Ael h,rfl⟩
 | bool=>exact⟨_,Ax8 h,rfl⟩
 | str=>exact⟨_,Ai9 h,rfl⟩
 | arr n t=>obtain⟨e,h,_⟩:=Aez h;exact⟨_,h,rfl⟩
 | slice t=>obtain⟨e,h,_⟩:=Hy h;exact⟨_,h,rfl⟩
 | ptr=>obtain⟨e,h⟩:=Ap2 h;exact⟨_,h,rfl⟩
variable (w:World)
theorem Bcr{t:Ty}(h:T1 P t T=true):(isAgg T).run P w=.ok t.agg w:=by
 obtain⟨d,h1,h2⟩:=Cld h
 simp only[isAgg,run_underlying h1,Sem.run_bind,Result.andThen_ok]
 rw[← h2]
 cases d<;>rfl
theorem Lu{t:Ty}(h:T1 P t T=true):(sizeOf T).run P w=.ok t.size w:=by
 obtain⟨i,z,h1,h2,_⟩:=Kz (Tn h)
 simp[sizeOf,typeInfo,h1,h2]
theorem Azg{t:Ty}(h:T1 P t T=true):∃ z,(zeroValue T).run P w=.ok z w∧z.cells.toList=O9 t∧C7 z=t.agg:=by
 obtain⟨i,z,h1,h2,_,h3,h4,h5⟩:=Kz (Tn h)
 exact⟨z,by simp[zeroValue,typeInfo,h1,h3],h4,h5⟩
theorem Bvj{t:Ty}(h:T1 P t T=true)(ad:Addr)(hs:ad.spot=none)(vs:List Value)(hl:vs.length=t.size)(hc:∀ j v,vs[j]?=some v→w.cell? (ad.add j)=some v) :
  (loadVar T ad).run P w=.ok (if t.agg then .agg vs.toArray else vs.headD undef) w:=by
 simp only[loadVar,Sem.run_bind,Bcr w h,Result.andThen_ok]
 cases hg:t.agg with
 | true =>
  simp only[if_true,Sem.run_bind,Lu w h,Result.andThen_ok,← hl,run_loadCells_list w ad vs hc,Sem.run_pure]
 | false =>
  have h1:vs.length=1:=by rw[hl,Np hg]
  obtain⟨v,rfl⟩:∃ v,vs=[v]:=by
   cases vs with
   | nil=>simp at h1
   | cons v r=>cases r with
    | nil=>exact⟨v,rfl⟩
    | cons _ _=>simp at h1
  have:=hc 0 v rfl
  simp only[Addr.add,if_true] at this
  simp[load,Sem.run,this]
end
end Go.Pon
namespace Go.Pon
open Go
def Ba{α:Type}(C:Ap)(objs:Rc):OpT α→List Id→α→List Id→Prop
 | .fail,_,_,_=>False
 | .done a,l,r,l'=>a=r∧l=l'
 | .br c t e,l,r,l'=>(c=true∧Ba C objs t l r l')∨(c=false∧Ba C objs e l r l')
 | .get id f,l,r,l'=>∃ o,An objs id=some o∧Ba C objs (f o) (id::l) r l'
 | .call f s x g,l,r,l'=>∃ y,C f s x=some y∧Ba C objs (g y) l r l'
 | .opt _ o n s,l,r,l'=>(o=none∧Ba C objs n l r l')∨∃ y,o=some y∧Ba C objs (s y) l r l'
theorem Hc{α ω:Type}{C:Ap}{objs:Rc}:∀ {t:OpT α} {l:List Id} {k:α→List Id→Option ω} {r:ω},T8 C objs t l k=some r →
  ∃ a l',Ba C objs t l a l'∧k a l'=some r
 | .fail,_,_,_,h=>by cases h
 | .done a,l,_,_,h=>⟨a,l,⟨rfl,rfl⟩,h⟩
 | .br c t e,l,k,r,h=>by
  cases c with
  | true=>obtain⟨a,l',h1,h2⟩:=Hc (t:=t) (l:=l) (k:=k) (r:=r) h;exact⟨a,l',.inl ⟨rfl,h1⟩,h2⟩
  | false=>obtain⟨a,l',h1,h2⟩:=Hc (t:=e) (l:=l) (k:=k) (r:=r) h;exact⟨a,l',.inr ⟨rfl,h1⟩,h2⟩
 | .get id f,l,k,r,h=>by
  simp only[T8] at h
  split at h
  ·rename_i o ho
   obtain⟨a,l',h1,h2⟩:=Hc h
   exact⟨a,l',⟨o,ho,h1⟩,h2⟩
  ·cases h
 | .call f s x g,l,k,r,h=>by
  simp only[T8] at h
  cases hc:C f s x with
  | none=>rw[hc] at h;cases h
  | some y =>
   rw[hc] at h
   obtain⟨a,l',h1,h2⟩:=Hc (t:=g y) (l:=l) (k:=k) (r:=r) h
   exact⟨a,l',⟨y,hc,h1⟩,h2⟩
 | .opt m o n s,l,k,r,h=>by
  cases o with
  | none=>obtain⟨a,l',h1,h2⟩:=Hc (t:=n) (l:=l) (k:=k) (r:=r) h;exact⟨a,l',.inl ⟨rfl,h1⟩,h2⟩
  | some y=>obtain⟨a,l',h1,h2⟩:=Hc (t:=s y) (l:=l) (k:=k) (r:=r) h;exact⟨a,l',.inr ⟨y,rfl,h1⟩,h2⟩
theorem C3{α:Type}{C:Ap}{objs:Rc}{c:Bool}{t:OpT α}{l:List Id}{r:α}{l':List Id}(h:Ba C objs (.chk c t) l r l'):c=true∧Ba C objs t l r l':=by
 rcases h with h | ⟨_,h⟩
 ·exact h
 ·exact h.elim
def Bck(used used':Id→Nat→Prop)(base:Id):Prop:=∀ id v,used' id v→(∃ v',used id v')∨(id.1=base.1∧id.2.1=base.2.1)
theorem Bck.refl(used:Id→Nat→Prop)(base:Id):Bck used used base:=fun _ v h=>.inl ⟨v,h⟩
def Pt(K:Dq)(S:St)(used:Id→Nat→Prop)(γ:Id→Value)(a:Act)(w:World)(o:Oper)(v:AV)(u:Rc)(base:Id):Prop :=
 ∃ r val w' used' γ',(execOp a.eval o).run K.P w=.ok r w'∧(r=.value val∨(r=.skip∧val=undef)) ∧
  E7 (Bi K (Fg u S.objs) used' γ' w') v val∧Hi K { S with objs:=Fg u S.objs } used' γ' a w'∧Bck used used' base
theorem Pt.wp{K:Dq}{S:St}{used:Id→Nat→Prop}{γ:Id→Value}{a:Act}{w:World}{o:Oper}{v:AV}{u:Rc}{base:Id}(h:Pt K S used γ a w o v u base)
  (hd:∀ d,o.dst=some d→K.dok d) {Q:Exit→Act→World→Prop} {k:Act→World→Prop}
  (hk:∀ used' γ' a' w',Bck used used' base→Hi K { S with env:=Adl S.env o.dst v,objs:=Fg u S.objs } used' γ' a' w'→k a' w'):o.wp K.P a w k Q:=by
 obtain⟨r,val,w',used',γ',h1,h2,h3,h4,h5⟩:=h
 unfold Oper.wp
 rw[h1]
 have:=h4.put h3 o.dst hd
 rcases h2 with rfl | ⟨rfl,rfl⟩
 ·exact hk used' γ' _ w' h5 this
 ·exact hk used' γ' _ w' h5 this
theorem Pt.pure{K:Dq}{S:St}{used:Id→Nat→Prop}{γ:Id→Value}{a:Act}{w:World}{o:Oper}{v:AV}{base:Id}(h:Hi K S used γ a w){val:Value}
  (hr:(execOp a.eval o).run K.P w=.ok (.value val) w) (hv:E7 (Bi K S.objs used γ w) v val):Pt K S used γ a w o v [] base :=
 ⟨_,val,w,used,γ,hr,.inl rfl,hv,h,Bck.refl _ _⟩
def A0:Operand→Bool
 | .const (.int k n)=>decide (k.min≤n)&&decide (n≤k.max)
 | .const (.string s)=>decide (s.size≤maxLen)
 | _=>true
theorem Bq{v:Value}(h:C7 v=false):v.cells.toList=[v]:=by cases v<;>simp_all [Value.cells,C7]
theorem Dh{E:Vv}{a:AV}{v:Value}(h:ARc E a [v])(ha:Amy a=false)(hv:C7 v=false):G7 E a v:=⟨by rw[Bq hv];exact h,by rw[ha,hv]⟩
theorem Ce6(E:Vv)(v:Value)(h:A0 (.const v)=true):E7 E (Ciz v) v:=by
 cases v with
 | bool b=>exact Dh (a:=.d true .bool b) rfl rfl rfl
 | int k n =>
  simp only[A0,Bool.and_eq_true,decide_eq_true_eq] at h
  exact Dh (a:=.d true (.int k) n) ⟨rfl,h⟩ rfl rfl
 | string s =>
  simp only[A0,decide_eq_true_eq] at h
  exact Dh (a:=.d true .str _) ⟨s,rfl,rfl,h⟩ rfl rfl
 | pointer p =>
  cases p with
  | none=>exact Dh (a:=.nilp) rfl rfl rfl
  | some _=>trivial
 | slice p n c =>
  cases p with
  | some _=>trivial
  | none =>
   cases n with
   | succ _=>trivial
   | zero=>cases c with
    | succ _=>trivial
    | zero=>exact Dh (a:=.nils) rfl rfl rfl
 | func fn first caps =>
  show E7 E (Chr fn first.toList caps.toList) _
  unfold Chr
  split
  ·rename_i f h1 h2
   have h1:first=#[]:=by cases first;simp_all
   have h2:caps=#[]:=by cases caps;simp_all
   subst h1 h2
   exact Dh (a:=.fn f (.d true .unit ())) ⟨#[],rfl,rfl⟩ rfl rfl
  ·trivial
 | _=>trivial
section
variable {K:Dq} {S:St} {used:Id→Nat→Prop} {γ:Id→Value} {a:Act} {w:World}
theorem Bo(h:Hi K S used γ a w)(x:Operand)(hx:A0 x=true):E7 (Bi K S.objs used γ w) (S.eval x) (a.eval x):=by
 cases x with
 | tmp t=>exact h.env t
 | const v=>exact Ce6 _ v hx
 | global g=>trivial
 | func f=>exact Dh (a:=.fn f (.d true .unit ())) ⟨#[],rfl,rfl⟩ rfl rfl
theorem Bbx{E:Vv}{fr:Bool}{t:Ty}{x:t.den}{v:Value}(ht:t.agg=false)(h:E7 E (.d fr t x) v):DR E.w (E.ok fr) t [v] x:=by
 obtain⟨h1,h2⟩:=h
 have:C7 v=false:=by rw[← h2];exact ht
 rw[Bq this] at h1
 exact h1
theorem Bl6{E:Vv}{fr:Bool}{k:IntKind}{x:Int}{v:Value}(h:E7 E (.d fr (.int k) x) v):v=.int k x∧inK k x:=by
 have:=Bbx rfl h
 exact⟨by simpa using this.1,this.2⟩
theorem Bos{E:Vv}{fr:Bool}{x:Bool}{v:Value}(h:E7 E (.d fr .bool x) v):v=.bool x:=by
 have:[v]=[Value.bool x]:=Bbx rfl h
 simpa using this
theorem Gf{E:Vv}{v:AV}{k:IntKind}{x:Int}{val:Value}(h:asInt v=some (k,x))(hv:E7 E v val):val=.int k x∧inK k x:=by
 unfold asInt at h
 split at h
 ·cases h;exact Bl6 hv
 ·cases h
theorem Bjz{E:Vv}{v:AV}{x:Bool}{val:Value}(h:asBool v=some x)(hv:E7 E v val):val=.bool x:=by
 unfold asBool at h
 split at h
 ·cases h;exact Bos hv
 ·cases h
theorem Gq(E:Vv){k:IntKind}{x:Int}(h:inK k x):E7 E (Tf k x) (.int k x):=Dh (a:=.d true (.int k) x) ⟨rfl,h⟩ rfl rfl
theorem Tz(E:Vv)(b:Bool):E7 E (Bg8 b) (.bool b):=Dh (a:=.d true .bool b) rfl rfl rfl
theorem Acp(k:IntKind)(n:Int):inK k (k.wrap n):=by
 cases k<;>simp only[inK,IntKind.wrap,IntKind.min,IntKind.max,IntKind.signed,IntKind.bits]<;>simp<;>(try split)<;>omega
theorem Bwb{x y:Int}(h:0≤x)(hy:y≠0):x % y≤x:=by
 rcases Int.lt_or_le x y.natAbs with h1|h1
 ·have:=Int.emod_nonneg x hy
  rcases Int.lt_or_le 0 y with h2|h2
  ·rw[Int.emod_eq_of_lt h (by omega)];exact Int.le_refl _
  ·rw[← Int.emod_neg,Int.emod_eq_of_lt h (by omega)];exact Int.le_refl _
 ·have:=Int.emod_lt x hy
  omega
theorem Cmp{k:IntKind}{x y:Int}(hx:inK k x)(hy:y≠0):inK k (x.tmod y):=by
 have h0:k.min≤0∧0≤k.max:=Bfp k
 unfold inK at *
 have key:∀ z:Int,0≤z→0≤z.tmod y∧z.tmod y≤z:=fun z hz=>by
  rw[Int.tmod_eq_emod_of_nonneg hz]
  exact⟨Int.emod_nonneg z hy,Bwb hz hy⟩
 rcases Int.le_total 0 x with h|h
 ·have:=key x h
  omega
 ·have e:=Int.neg_tmod x y
  have:=key (-x) (by omega)
  omega
end
end Go.Pon
namespace Go.Pon
open Go
section
variable {K:Dq} {S:St} {used:Id→Nat→Prop} {γ:Id→Value} {a:Act} {w:World} {o:Oper} {base:Id} {v:AV} {u:Rc} {l:List Id} {C:Ap} {objs:Rc} {P:Program}
def Cma(E:Vv)(v:AV)(u:Rc)(s:Sem Value)(P:Program)(w:World):Prop:=u=[]∧∃ val,s.run P w=.ok val w∧E7 E v val
theorem Bl3(x y:Int):(x == y)=decide (x=y):=by rw[Bool.eq_iff_iff];simp
theorem Cbu(E:Vv){op:BinOp}{k:IntKind}{x y:Int}(T:TypeId)(hx:inK k x)(hy:inK k y)(hs:Bao op=false)(h:Ba C objs (Cjw op k x y) [] (v,u) l) :
  Cma E v u (binOp op T (.int k x) (.int k y)) P w:=by
 cases op<;>simp only[Cjw,Bao] at h hs
 case add=>cases h.1;exact⟨rfl,_,by simp[binOp,Op.intArith],Gq E (Acp k _)⟩
 case sub=>cases h.1;exact⟨rfl,_,by simp[binOp,Op.intArith],Gq E (Acp k _)⟩
 case mul=>cases h.1;exact⟨rfl,_,by simp[binOp,Op.intArith],Gq E (Acp k _)⟩
 case quo =>
  obtain⟨h1,h2⟩:=C3 h
  have hy0:y≠0:=by simpa using h1
  cases h2.1
  exact⟨rfl,_,by simp[binOp,Op.intDiv,hy0],Gq E (Acp k _)⟩
 case rem =>
  obtain⟨h1,h2⟩:=C3 h
  have hy0:y≠0:=by simpa using h1
  cases h2.1
  exact⟨rfl,_,by simp[binOp,Op.intDiv,hy0],Gq E (Cmp hx hy0)⟩
 case and=>cases h.1;exact⟨rfl,_,by simp[binOp,Op.intBits],Gq E (Acp k _)⟩
 case or=>cases h.1;exact⟨rfl,_,by simp[binOp,Op.intBits],Gq E (Acp k _)⟩
 case xor=>cases h.1;exact⟨rfl,_,by simp[binOp,Op.intBits],Gq E (Acp k _)⟩
 case andNot=>cases h.1;exact⟨rfl,_,by simp[binOp,Op.intBits],Gq E (Acp k _)⟩
 case shl=>cases hs
 case shr=>cases hs
 case eql=>cases h.1;exact⟨rfl,.bool (decide (x=y)),by simp[binOp,Op.intCmp,Bl3],Tz E _⟩
 case neq=>cases h.1;exact⟨rfl,.bool (!decide (x=y)),by simp[binOp,Op.intCmp,bne,Bl3],Tz E _⟩
 case lss=>cases h.1;exact⟨rfl,_,by simp[binOp,Op.intCmp],Tz E _⟩
 case leq=>cases h.1;exact⟨rfl,_,by simp[binOp,Op.intCmp],Tz E _⟩
 case gtr=>cases h.1;exact⟨rfl,_,by simp[binOp,Op.intCmp],Tz E _⟩
 case geq=>cases h.1;exact⟨rfl,_,by simp[binOp,Op.intCmp],Tz E _⟩
theorem Cmd{k:IntKind}{x:Int}(hx:inK k x)(n:Nat):inK k (x.fdiv (2 ^ n)):=by
 have h0:k.min≤0∧0≤k.max:=Bfp k
 unfold inK at *
 have hp:(0:Int)<2 ^ n:=Int.pow_pos (by decide)
 rw[Int.fdiv_eq_ediv_of_nonneg _ (Int.le_of_lt hp)]
 rcases Int.le_total 0 x with h|h
 ·have h1:=Int.ediv_nonneg h (Int.le_of_lt hp)
  have h2:=Int.ediv_le_self (a:=x) (2 ^ n) h
  omega
 ·have h1:x≤x / 2 ^ n:=by
   rw[Int.le_ediv_iff_mul_le hp]
   have h3:(-x)*1≤(-x)*2 ^ n:=Int.mul_le_mul_of_nonneg_left (by omega) (by omega)
   simp only[Int.neg_mul,Int.mul_one] at h3
   omega
  have h2:x / 2 ^ n≤0:=by
   have:=Int.ediv_le_ediv hp h
   simpa using this
  omega
theorem Bw4(E:Vv){op:BinOp}{k k':IntKind}{x y:Int}(T:TypeId)(hx:inK k x)(hs:Bao op=true)(h:Ba C objs (Cc8 op k x y) [] (v,u) l) :
  Cma E v u (binOp op T (.int k x) (.int k' y)) P w:=by
 cases op<;>simp only[Bao,Bool.false_eq_true] at hs
 case shl =>
  obtain⟨h1,h2⟩:=C3 h
  have hy:¬ y<0:=by
   have:0≤y:=by simpa using h1
   omega
  cases h2.1
  exact⟨rfl,_,by simp[binOp,Op.shift,hy],Gq E (Acp k _)⟩
 case shr =>
  obtain⟨h1,h2⟩:=C3 h
  have hy:¬ y<0:=by
   have:0≤y:=by simpa using h1
   omega
  cases h2.1
  exact⟨rfl,_,by simp[binOp,Op.shift,hy],Gq E (Cmd hx _)⟩
theorem Cjo(E:Vv){op:UnOp}{x:AV}{val:Value}(hx:E7 E x val)(h:Ba C objs (unK op x) [] (v,u) l) :
  Cma E v u (Op.unary op val) P w:=by
 unfold unK at h
 split at h
 ·obtain⟨rfl,hk⟩:=Bl6 hx
  cases h.1
  exact⟨rfl,_,by simp[Op.unary,Op.intArith],Gq E (Acp _ _)⟩
 ·obtain⟨rfl,hk⟩:=Bl6 hx
  cases h.1
  exact⟨rfl,_,by simp[Op.unary,Op.intBits],Gq E (Acp _ _)⟩
 ·obtain rfl:=Bos hx
  cases h.1
  exact⟨rfl,_,by simp[Op.unary],Tz E _⟩
 ·exact h.elim
theorem Bjm(P:Program)(w:World)(op:BinOp)(T:TypeId)(x y:Operand)(k k':IntKind)(m n:Int) :
  (eqGuard op T x y (.int k m) (.int k' n)).run P w=.ok () w:=by
 cases op<;>simp[eqGuard]
end
end Go.Pon
namespace Go.Pon
open Go
section
variable {K:Dq} {S:St} {used:Id→Nat→Prop} {γ:Id→Value} {a:Act} {w:World} {o:Oper} {base:Id} {v:AV} {u:Rc} {l:List Id}
theorem Cen(h:Hi K S used γ a w)(hB:∀ b,K.B b→b<K.base){id:Id}(hid:∀ v,¬ used id v){t:Ty}{c:AV}{cur:Array Value}(e:TypeId)
  (hf:Bh t c=true) (hc:ARc (Bi K S.objs used γ w) c cur.toList) :
  let γ':=upd γ id (.pointer (some ⟨w.heap.size,0,none⟩))
  let w':=w.alloc (.cells cur e)
  Hi K { S with objs:=(id,some (.mem true t c))::S.objs } (Bpn used id 0) γ' a w' ∧
  E7 (Bi K ((id,some (.mem true t c))::S.objs) (Bpn used id 0) γ' w') (.ptr id []) (.pointer (some ⟨w.heap.size,0,none⟩)):=by
 have hbase:K.base≤w.heap.size:=h.frame.size
 refine⟨h.new hid (fun g hg=>?_) (by simp) (fun b hb=>Aq6 w _ b hb) (h.frame.alloc _) (fun E' hs hE=>?_),Dh (a:=.ptr id []) ⟨.inr ⟨rfl,rfl⟩,_,rfl,rfl,fun t' ht'=>?_⟩ rfl rfl⟩
 ·simp[Bg] at hg
  exact⟨hg.symm,fun hb=>by have:=hB _ hb;omega⟩
 ·subst hE
  exact⟨w.heap.size,e,cur,if_pos rfl,heap_alloc_new w _,hf,hc.step hs,fun _=>hbase⟩
 ·obtain⟨fr,c',hm⟩:=ht'
  have hl:An ((id,some (.mem true t c))::S.objs) id=some (.mem true t c):=by rw[L6,if_pos rfl]
  have:t'=t:=by
   rcases hm with hm|hm
   ·have:=hl.symm.trans hm;injection this with this;injection this with _ h2 _;exact h2.symm
   ·have:=hl.symm.trans hm;injection this with this;cases this
  subst this
  exact⟨_,t',if_pos rfl,by cases t'<;>rfl,by cases t'<;>trivial,by cases t'<;>rfl⟩
theorem Awi(E:Vv):∀ t:Ty,Bh t (Axt t)=true∧ARc E (Axt t) (O9 t)
 | .unit=>⟨rfl,rfl⟩
 | .pair a b=>by
  obtain⟨a1,a2⟩:=Awi E a
  obtain⟨b1,b2⟩:=Awi E b
  unfold Axt
  cases a.bare&&b.bare with
  | true=>exact⟨by simp[Bh,Ty.beq_iff],DR.zero (.pair a b)⟩
  | false=>exact⟨by simp[Bh,a1,b1],O9 a,O9 b,rfl,a2,b2⟩
 | .int k=>⟨by simp[Axt,Bh,Ty.beq_iff],DR.zero (.int k)⟩
 | .bool=>⟨rfl,rfl⟩
 | .str=>⟨rfl,DR.zero .str⟩
 | .arr n t=>⟨by simp[Axt,Bh,Ty.beq_iff],DR.zero (.arr n t)⟩
 | .slice t=>⟨rfl,rfl⟩
 | .ptr=>⟨rfl,rfl⟩
theorem Cgz(h:Hi K S used γ a w)(hB:∀ b,K.B b→b<K.base)(hid:∀ v,¬ used base v){e:TypeId}{t:Ty}(ho:o.op=.alloc e)(ht:T1 K.P t e=true) :
  Pt K S used γ a w o (.ptr base []) [(base,some (.mem true t (Axt t)))] base:=by
 obtain⟨z,hz1,hz2,hz3⟩:=Azg (P:=K.P) w ht
 obtain⟨f1,f2⟩:=Awi (Bi K S.objs used γ w) t
 obtain⟨r1,r2⟩:=Cen h hB hid (cur:=z.cells) e f1 (by rw[hz2];exact f2)
 refine⟨_,_,_,_,_,?_,.inl rfl,r2,r1,?_⟩
 ·simp[execOp,ho,Instr.alloc,hz1,newVar,newRow]
 ·rintro id v (hv | ⟨rfl,rfl⟩)
  ·exact .inl ⟨v,hv⟩
  ·exact .inr ⟨rfl,rfl⟩
theorem Ahu{E:Vv}{t:Ty}{x:AV}{val:Value}(hf:Bh t x=true)(hv:E7 E x val):ARc E x val.cells.toList∧C7 val=t.agg:=by
 have h1:G7 E x val:=by
  cases x with
  | any=>cases t<;>simp[Bh] at hf
  | un=>cases t<;>simp[Bh] at hf
  | tup a=>cases t<;>simp[Bh] at hf
  | _=>exact hv
 exact⟨h1.1,by rw[← h1.2,Bpt hf]⟩
theorem Am8{E:Vv}{t:Ty}{x:AV}{val:Value}(hf:Bh t x=true)(h1:ARc E x val.cells.toList)(h2:C7 val=t.agg):E7 E x val:=by
 have h3:G7 E x val:=⟨h1,by rw[Bpt hf,h2]⟩
 cases x with
 | any=>cases t<;>simp[Bh] at hf
 | un=>cases t<;>simp[Bh] at hf
 | tup a=>cases t<;>simp[Bh] at hf
 | _=>exact h3
theorem Cmb(h:Hi K S used γ a w)(hB:∀ b,K.B b→b<K.base)(hid:∀ v,¬ used base v){e:TypeId}{t:Ty}{x:Operand}(ho:o.op=.box e x)(hx:A0 x=true)
  (hf:Bh t (S.eval x)=true) :
  Pt K S used γ a w o (.ptr base []) [(base,some (.mem true t (S.eval x)))] base:=by
 have hv:=Bo h x hx
 obtain⟨f1,f2⟩:=Ahu hf hv
 obtain⟨r1,r2⟩:=Cen h hB hid (cur:=(a.eval x).cells) e hf f1
 refine⟨_,_,_,_,_,?_,.inl rfl,r2,r1,?_⟩
 ·simp[execOp,ho,Instr.box,newVar,newRow]
 ·rintro id v (hv | ⟨rfl,rfl⟩)
  ·exact .inl ⟨v,hv⟩
  ·exact .inr ⟨rfl,rfl⟩
theorem Bp3{P:Program}{t:Ty}{T:TypeId}(hT:T1 P t T=true){E:Vv}{x:AV}(hf:Bh t x=true){ad:Addr}(hs:ad.spot=none){vs:List Value}
  (hc:∀ j y,vs[j]?=some y→E.w.cell? (ad.add j)=some y) (hr:ARc E x vs):∃ val,(loadVar T ad).run P E.w=.ok val E.w∧E7 E x val:=by
 have hl:=Kh hf hr
 refine⟨_,Bvj E.w hT ad hs vs hl hc,?_⟩
 cases hg:t.agg with
 | true=>exact Am8 hf (by simpa [Value.cells] using hr) (by simp[C7,hg])
 | false =>
  have h1:vs.length=1:=by rw[hl,Np hg]
  obtain⟨v,rfl⟩:∃ v,vs=[v]:=by
   cases vs with
   | nil=>simp at h1
   | cons v r=>cases r with
    | nil=>exact⟨v,rfl⟩
    | cons _ _=>simp at h1
  have h1:=Ay0 hf hr v (by simp)
  have hna:C7 v=false:=by cases v<;>simp_all [Value.oneCell',C7]
  exact Am8 hf (by simpa [Bq hna] using hr) (by simp[hna,hg])
theorem Ch(g off j:Nat):(⟨g,off,none⟩:Addr).add j=⟨g,off+j,none⟩:=by
 unfold Addr.add
 split<;>simp_all
theorem Abx{w:World}{g:Nat}{cur:Array Value}{e:TypeId}{fz:Nat×Nat}(hg:w.heap[g]?=some (.cells cur e fz))(off n:Nat) :
  ∀ j y,((cur.toList.drop off).take n)[j]?=some y→w.cell? ((⟨g,off,none⟩:Addr).add j)=some y:=by
 intro j y hj
 rw[Ch,cell_of_row w g (off+j) cur e fz hg]
 rw[List.getElem?_take] at hj
 split at hj
 ·simpa [List.getElem?_drop] using hj
 ·cases hj
end
end Go.Pon
namespace Go.Pon
open Go
section
variable {K:Dq} {S:St} {used:Id→Nat→Prop} {γ:Id→Value} {a:Act} {w:World} {o:Oper} {base:Id} {v:AV} {u:Rc} {l:List Id}
theorem Ayw(h:Hi K S used γ a w){id:Id}{ver:Nat}{fr:Bool}{t:Ty}{rows:List t.den}
  (ho:An S.objs id=some (.sli ver fr t rows)∨An S.objs id=some (.frz ver fr t rows)) (hn:rows≠[]) :
  ∃ g cp cs,γ id=.slice (some ⟨g,0,none⟩) rows.length cp∧rows.length≤cp∧cp≤maxLen∧B5 (DR w (Ah9 K (An S.objs) γ fr) t) t.size cs rows ∧
   ∀ j y,cs[j]?=some y→w.cell? ⟨g,j,none⟩=some y:=by
 rcases ho with ho|ho
 ·rcases h.objs id _ ho with⟨_,h2⟩ | ⟨g,cap,cur,e,h1,h2,h3,h4,h5,h6,h7⟩
  ·exact absurd h2 hn
  ·refine⟨g,cap,_,h1,h3,h4,h6,fun j y hj=>?_⟩
   have:=Abx h2 0 (List.length rows*t.size) j y (by simpa using hj)
   rw[Ch,Nat.zero_add] at this
   exact this
 ·obtain⟨⟨ad,cap,h1,h2,h3,h4,cs,h5,h6⟩,h7⟩:=h.objs id _ ho
  have h1:γ id=.slice ad rows.length cap:=by have:[γ id]=_:=h1;simpa using this
  have hcs:rows=[]∨t.size=0∨cs≠[]:=by
   by_cases hc:cs=[]
   ·have:=h5.length
    rw[hc] at this
    rcases Nat.mul_eq_zero.1 this.symm with h|h
    ·exact .inl (List.eq_nil_of_length_eq_zero h)
    ·exact .inr (.inl h)
   ·exact .inr (.inr hc)
  have hpos:0<rows.length:=List.length_pos_iff.2 hn
  cases ad with
  | none=>have:=h4 rfl;omega
  | some ad =>
   obtain⟨k1,k2⟩:=h7 ad _ _ h1
   obtain⟨b,off,spot⟩:=ad
   simp only at k1 k2
   subst k1 k2
   refine⟨b,cap,cs,h1,h2,h3,h5,fun j y hj=>?_⟩
   have hne:cs≠[]:=by rintro rfl;simp at hj
   obtain⟨ad',e1,_,hc⟩:=h6 hne
   cases e1
   have:=hc j y hj
   rw[Ch,Nat.zero_add] at this
   exact this
theorem Bf1(h:Hi K S used γ a w){id:Id}{fr:Bool}{t:Ty}{c:AV}
  (ho:An S.objs id=some (.mem fr t c)∨An S.objs id=some (.mfz fr t c)) :
  ∃ g e cur,γ id=.pointer (some ⟨g,0,none⟩)∧w.heap[g]?=some (.cells cur e (0,0))∧Bh t c=true∧ARc (Bi K S.objs used γ w) c cur.toList:=by
 rcases ho with ho|ho
 ·obtain⟨g,e,cur,h1,h2,h3,h4,_⟩:=h.objs id _ ho
  exact⟨g,e,cur,h1,h2,h3,h4⟩
 ·obtain⟨⟨g,e,cur,h1,h2,h3,h4,_⟩,_⟩:=h.objs id _ ho
  exact⟨g,e,cur,h1,h2,h3,h4⟩
theorem Rw{E:Vv}{x:AV}{val:Value}(hx:Amy x=false)(ht:∀ y,x≠.tup y)(hn:x≠.any)(hu:x≠.un)(hv:E7 E x val):ARc E x [val]∧C7 val=false:=by
 have h1:G7 E x val:=by
  cases x with
  | any=>exact absurd rfl hn
  | un=>exact absurd rfl hu
  | tup y=>exact absurd rfl (ht y)
  | _=>exact hv
 have h2:C7 val=false:=by rw[← h1.2,hx]
 exact⟨by have:=h1.1;rwa [Bq h2] at this,h2⟩
theorem Aij{E:Vv}{id:Id}{path:List Nat}{val:Value}(hv:E7 E (.ptr id path) val) :
  E.used id 0∧∀ t,Au6 (E.o id) t→∃ g u,E.γ id=.pointer (some ⟨g,0,none⟩)∧K9 t path=some u∧inT t path∧val=.pointer (some ⟨g,By t path,none⟩):=by
 obtain⟨⟨h1,v,h2,h3,h4⟩,_⟩:=Rw (x:=.ptr id path) rfl (by simp) (by simp) (by simp) hv
 have:val=v:=by simpa using h2
 subst this
 exact⟨h1,h4⟩
theorem Be7{E:Vv}{id:Id}{ver i:Nat}{path:List Nat}{val:Value}(hv:E7 E (.eptr id ver i path) val) :
  E.used id ver∧∀ t n,Agt (E.o id) ver t n→i<n∧∃ g m cp u,E.γ id=.slice (some ⟨g,0,none⟩) m cp∧K9 t path=some u∧inT t path∧val=.pointer (some ⟨g,i*t.size+By t path,none⟩):=by
 obtain⟨⟨h1,v,h2,h3,h4⟩,_⟩:=Rw (x:=.eptr id ver i path) rfl (by simp) (by simp) (by simp) hv
 have:val=v:=by simpa using h2
 subst this
 exact⟨h1,h4⟩
theorem Arc{E:Vv}{id:Id}{ver:Nat}{val:Value}(hv:E7 E (.own id ver) val) :
  E.used id ver∧C7 val=false∧∀ t n,Agt (E.o id) ver t n→val=E.γ id:=by
 obtain⟨⟨h1,v,h2,h3,h4⟩,h5⟩:=Rw (x:=.own id ver) rfl (by simp) (by simp) (by simp) hv
 have:val=v:=by simpa using h2
 subst this
 exact⟨h1,h5,h4⟩
theorem Bm2{E:Vv}{id:Id}{ver lo hi:Nat}{cp:Bool}{val:Value}(hv:E7 E (.view id ver lo hi cp) val) :
  E.used id ver∧∀ t n,Agt (E.o id) ver t n→lo≤hi∧hi≤n∧∃ a c,val=.slice a (hi-lo) c∧hi-lo≤c∧c≤maxLen∧(a=none→c=0) ∧
    (lo<hi→∃ g m cp,E.γ id=.slice (some ⟨g,0,none⟩) m cp∧a=some ⟨g,lo*t.size,none⟩)∧(cp=true→c=hi-lo):=by
 obtain⟨⟨h1,v,h2,h3,h4⟩,_⟩:=Rw (x:=.view id ver lo hi cp) rfl (by simp) (by simp) (by simp) hv
 have:val=v:=by simpa using h2
 subst this
 exact⟨h1,h4⟩
theorem Cev{E:Vv}{id:Id}{path:List Nat}{lo hi:Nat}{val:Value}(hv:E7 E (.mview id path lo hi) val) :
  E.used id 0∧∀ t,Au6 (E.o id) t→∃ g n u,E.γ id=.pointer (some ⟨g,0,none⟩)∧K9 t path=some (.arr n u)∧inT t path∧lo≤hi∧hi≤n ∧
    ∃ a c,val=.slice (some a) (hi-lo) c∧hi-lo≤c∧c≤maxLen∧(lo<hi→a=⟨g,By t path+lo*u.size,none⟩):=by
 obtain⟨⟨h1,v,h2,h3,h4⟩,_⟩:=Rw (x:=.mview id path lo hi) rfl (by simp) (by simp) (by simp) hv
 have:val=v:=by simpa using h2
 subst this
 exact⟨h1,h4⟩
theorem As3{E:Vv}{fr:Bool}{t:Ty}{x:t.den}{val:Value}(hv:E7 E (.rptr fr t x) val) :
  ∃ a vs,val=.pointer (some a)∧a.spot=none∧(0<t.size→E.ok fr a.block)∧(∀ j y,vs[j]?=some y→E.w.cell? (a.add j)=some y)∧DR E.w (E.ok fr) t vs x:=by
 obtain⟨⟨v,h2,h3,h4⟩,_⟩:=Rw (x:=.rptr fr t x) rfl (by simp) (by simp) (by simp) hv
 have:val=v:=by simpa using h2
 subst this
 exact h4
theorem Ai7(o:Option Obj)(fr:Bool)(t:Ty)(c:AV)(h:o=some (.mem fr t c)∨o=some (.mfz fr t c)):Au6 o t:=⟨fr,c,h⟩
theorem Ft(o:Option Obj)(ver:Nat)(fr:Bool)(t:Ty)(rows:List t.den)(h:o=some (.sli ver fr t rows)∨o=some (.frz ver fr t rows)):Agt o ver t rows.length:=⟨fr,rows,rfl,h⟩
theorem Bqi(h:Hi K S used γ a w){id:Id}{path:List Nat}{fr:Bool}{t uT:Ty}{c x:AV}{T:TypeId}{val:Value}
  (ho:An S.objs id=some (.mem fr t c)∨An S.objs id=some (.mfz fr t c)) (hT:T1 K.P uT T=true)
  (hv:E7 (Bi K S.objs used γ w) (.ptr id path) val) (ht:K9 t path=some uT) (hn:Axo c path=some x) :
  ∃ r,(Instr.loadAt T val).run K.P w=.ok r w∧E7 (Bi K S.objs used γ w) x r:=by
 obtain⟨g,e,cur,h1,h2,h3,h4⟩:=Bf1 h ho
 obtain⟨_,hp⟩:=Aij hv
 obtain⟨g',u',p1,p2,p3,p4⟩:=hp t (Ai7 _ fr t c ho)
 have p1:γ id=.pointer (some ⟨g',0,none⟩):=p1
 rw[h1] at p1
 obtain rfl:g=g':=by cases p1;rfl
 obtain⟨n1,n2,n3⟩:=Adv c t path uT cur.toList h3 ht p3 h4 x hn
 subst p4
 obtain⟨r,r1,r2⟩:=Bp3 (P:=K.P) (E:=Bi K S.objs used γ w) hT n1 (ad:=⟨g,By t path,none⟩) rfl (Abx h2 _ _) n2
 exact⟨r,by simp only[Instr.loadAt,Instr.sureAddr,Sem.run_bind,Sem.run_pure,Result.andThen_ok];exact r1,r2⟩
theorem Bsp(h:Hi K S used γ a w){id:Id}{path:List Nat}{ver i:Nat}{fr:Bool}{t uT:Ty}{rows:List t.den}{x:AV}{T:TypeId}{val:Value}
  (ho:An S.objs id=some (.sli ver fr t rows)∨An S.objs id=some (.frz ver fr t rows)) (hT:T1 K.P uT T=true)
  (hv:E7 (Bi K S.objs used γ w) (.eptr id ver i path) val) (hn:Bre fr t (rows.getD i t.zero) path=some x) (hf:Bh uT x=true) :
  ∃ r,(Instr.loadAt T val).run K.P w=.ok r w∧E7 (Bi K S.objs used γ w) x r:=by
 obtain⟨_,hp⟩:=Be7 hv
 obtain⟨p0,g',m,cp',u',p1,p2,p3,p4⟩:=hp t _ (Ft _ ver fr t rows ho)
 have hne:rows≠[]:=by rintro rfl;simp at p0
 obtain⟨g,cp,cs,h1,_,_,h5,h6⟩:=Ayw h ho hne
 have p1:γ id=.slice (some ⟨g',0,none⟩) m cp':=p1
 rw[h1] at p1
 obtain rfl:g=g':=by cases p1;rfl
 have hrow:=h5.get i p0
 rw[Avm p0] at hn
 obtain⟨y,n1,n2,n3⟩:=Ahe fr t rows[i] path u' _ p2 p3 hrow
 rw[n1] at hn
 cases hn
 have hu:u'=uT:=Ty.beq_iff.1 (by simpa [Bh] using hf)
 subst hu
 subst p4
 obtain⟨r,r1,r2⟩:=Bp3 (P:=K.P) (E:=Bi K S.objs used γ w) (x:=.d fr u' y) hT (by simp[Bh,Ty.beq_iff]) (ad:=⟨g,i*t.size+By t path,none⟩) rfl
  (fun j z hj=>by
   rw[Ch]
   refine h6 _ z ?_
   rw[List.getElem?_take] at hj
   split at hj
   ·rw[List.getElem?_drop,List.getElem?_take] at hj
    split at hj
    ·rw[List.getElem?_drop] at hj
     rw[← hj]
     congr 1
     omega
    ·cases hj
   ·cases hj) n2
 exact⟨r,by simp only[Instr.loadAt,Instr.sureAddr,Sem.run_bind,Sem.run_pure,Result.andThen_ok];exact r1,r2⟩
theorem Cf8(h:Hi K S used γ a w){t:Ty}{T:TypeId}{x:Operand}(ho:o.op=.load T x)(hx:A0 x=true)(hT:T1 K.P t T=true)
  (hl:Ba K.C S.objs (Cha (S.eval x) t fun v=>.done (v,[])) [] (v,u) l):Pt K S used γ a w o v u base:=by
 have hv:=Bo h x hx
 have fin:∀ y,(∃ r,(Instr.loadAt T (a.eval x)).run K.P w=.ok r w∧E7 (Bi K S.objs used γ w) y r)→(y,[])=(v,u)→Pt K S used γ a w o v u base:=by
  rintro y ⟨r,r1,r2⟩ e
  cases e
  exact Pt.pure h (by simp[execOp,ho,r1]) r2
 unfold Cha at hl
 split at hl
 ·rename_i id path heq
  rw[heq] at hv
  obtain⟨ob,hob,hl⟩:=hl
  dsimp only at hl
  split at hl
  ·rename_i fr tt c
   split at hl
   ·rename_i ww y h1 h2
    cases hc:(Ty.beq ww t&&Bh t y) with
    | false=>rw[hc] at hl;exact hl.elim
    | true =>
     rw[hc] at hl
     simp only[Bool.and_eq_true] at hc
     rw[Ty.beq_iff.1 hc.1] at h1
     exact fin y (Bqi h (.inl hob) hT hv h1 h2) hl.1
   ·exact hl.elim
  ·rename_i fr tt c
   split at hl
   ·rename_i ww y h1 h2
    cases hc:(Ty.beq ww t&&Bh t y) with
    | false=>rw[hc] at hl;exact hl.elim
    | true =>
     rw[hc] at hl
     simp only[Bool.and_eq_true] at hc
     rw[Ty.beq_iff.1 hc.1] at h1
     exact fin y (Bqi h (.inr hob) hT hv h1 h2) hl.1
   ·exact hl.elim
  ·exact hl.elim
 ·rename_i id ver i path heq
  rw[heq] at hv
  obtain⟨ob,hob,hl⟩:=hl
  dsimp only at hl
  split at hl
  ·rename_i ver' fr tt rows
   split at hl
   ·rename_i y h1 h2
    have h1:=Nat.eq_of_beq_eq_true h1
    subst h1
    cases hc:Bh t y with
    | false=>rw[hc] at hl;exact hl.elim
    | true =>
     rw[hc] at hl
     exact fin y (Bsp h (.inl hob) hT hv h2 hc) hl.1
   ·exact hl.elim
  ·rename_i ver' fr tt rows
   split at hl
   ·rename_i y h1 h2
    have h1:=Nat.eq_of_beq_eq_true h1
    subst h1
    cases hc:Bh t y with
    | false=>rw[hc] at hl;exact hl.elim
    | true =>
     rw[hc] at hl
     exact fin y (Bsp h (.inr hob) hT hv h2 hc) hl.1
   ·exact hl.elim
  ·exact hl.elim
 ·rename_i fr tt x' heq
  rw[heq] at hv
  cases hc:Ty.beq tt t with
  | false=>rw[hc] at hl;exact hl.elim
  | true =>
   rw[hc] at hl
   have e:=Ty.beq_iff.1 hc
   subst e
   obtain⟨ad,vs,h1,h2,h3,h4,h5⟩:=As3 hv
   obtain⟨r,r1,r2⟩:=Bp3 (P:=K.P) (E:=Bi K S.objs used γ w) (x:=.d fr tt x') hT (by simp[Bh,Ty.beq_iff]) h2 h4 h5
   refine fin _ ⟨r,?_,r2⟩ hl.1
   rw[h1]
   simp only[Instr.loadAt,Instr.sureAddr,Sem.run_bind,Sem.run_pure,Result.andThen_ok]
   exact r1
 ·exact hl.elim
end
end Go.Pon
namespace Go.Pon
open Go
theorem Amb{α:Type}:∀ (l m:List α),Fg l m=l++m
 | [],_=>rfl
 | a::l,m=>by simp[Fg,Amb l m]
theorem Aow(t:Ty):K9 t []=some t:=by cases t<;>rfl
theorem As7(t:Ty):By t []=0:=by cases t<;>rfl
theorem Bfu(t:Ty):inT t []:=by cases t<;>trivial
theorem Aua:∀ (t:Ty) (p:List Nat) (u:Ty) (q:List Nat),K9 t p=some u→inT t p →
  K9 t (p++q)=K9 u q∧By t (p++q)=By t p+By u q∧(inT t (p++q)↔inT u q)
 | t,[],u,q,ht,_=>by
  have e:u=t:=by rw[Aow] at ht;exact (Option.some.inj ht).symm
  subst e
  simp[As7]
 | .pair a b,0::p,u,q,ht,hi=>Aua a p u q ht hi
 | .pair a b,(n+1)::p,u,q,ht,hi=>by
  obtain⟨h1,h2,h3⟩:=Aua b (n::p) u q ht hi
  refine⟨h1,?_,h3⟩
  show a.size+By b (n::p++q)=a.size+By b (n::p)+By u q
  rw[h2];omega
 | .arr m t,i::p,u,q,ht,⟨hi,hp⟩=>by
  obtain⟨h1,h2,h3⟩:=Aua t p u q ht hp
  refine⟨h1,?_,?_⟩
  ·show i*t.size+By t (p++q)=i*t.size+By t p+By u q
   rw[h2];omega
  ·show (i<m∧inT t (p++q))↔_
   rw[h3];simp[hi]
section
variable {P:Program}
theorem Apb:∀ (t:Ty) (off:Nat) (fs:List Field) (n:Nat),Ef P t off fs=true→Nw t n=true →
  ∃ f u,fs[n]?=some f∧f.offset=off+By t [n]∧K9 t [n]=some u∧T1 P u f.type=true∧0<u.size∧inT t [n]
 | .pair a b,off,fs,0,h,_=>by
  obtain⟨f,r,rfl,h1,h2,h3,_,_⟩:=Z0 h
  exact⟨f,a,rfl,by simp[By,As7,h1],by simp[K9,Aow],h2,h3,by simp[inT,Bfu]⟩
 | .pair a b,off,fs,n+1,h,hf=>by
  obtain⟨f,r,rfl,h1,h2,h3,_,h4⟩:=Z0 h
  obtain⟨f',u,k1,k2,k3,k4,k5,k6⟩:=Apb b (off+a.size) r n h4 hf
  exact⟨f',u,by simpa using k1,by simp only[By];omega,k3,k4,k5,k6⟩
theorem Az6{t:Ty}{T:TypeId}{n:Nat}(h:T1 P t T=true)(hf:Nw t n=true) :
  ∃ fs,P.underlying T=some (.struct fs)∧Ef P t 0 fs.toList=true:=by
 cases t<;>first | (simp[Nw] at hf;done)|skip
 obtain⟨fs,h1,h2,_⟩:=An7 h
 exact⟨fs,h1,h2⟩
theorem Azm{t:Ty}{T:TypeId}{n:Nat}(h:T1 P t T=true)(hf:Nw t n=true)(w:World)(ad:Addr) :
  (Instr.fieldAt T (.pointer (some ad)) n).run P w=.ok (.pointer (some (ad.add (By t [n])))) w:=by
 obtain⟨fs,h1,h2⟩:=Az6 h hf
 obtain⟨f,u,k1,k2,k3,k4,k5,k6⟩:=Apb t 0 fs.toList n h2 hf
 have k1:fs[n]?=some f:=by simpa using k1
 have hs:=Lu w k4
 have h0:u.size≠0:=by omega
 simp[Instr.fieldAt,run_underlying h1,k1,Instr.sureAddr,fieldPlace,hs,h0,k2]
theorem Akn{i:Int}{n:Nat}(h:B0 i n=true):0≤i∧i<n∧i.toNat<n:=by
 simp only[B0,Bool.and_eq_true,decide_eq_true_eq] at h
 omega
end
section
variable {K:Dq} {S:St} {used:Id→Nat→Prop} {γ:Id→Value} {a:Act} {w:World} {o:Oper} {base:Id} {v:AV} {u:Rc} {l:List Id}
theorem Bni(h:Hi K S used γ a w){id:Id}{path q:List Nat}{uT:Ty}{val:Value}(hv:E7 (Bi K S.objs used γ w) (.ptr id path) val)
  {k:OpV} {l0:List Id} (hl:Ba K.C S.objs (Cd2 id path uT k) l0 (v,u) l) (hq:inT uT q) (hq':∃ w,K9 uT q=some w) :
  ∃ g off l1,val=.pointer (some ⟨g,off,none⟩)∧Ba K.C S.objs k l1 (v,u) l ∧
   E7 (Bi K S.objs used γ w) (.ptr id (path++q)) (.pointer (some ⟨g,off+By uT q,none⟩)):=by
 obtain⟨hu,hp⟩:=Aij hv
 obtain⟨ob,hob,hl⟩:=hl
 obtain⟨w',hw'⟩:=hq'
 have key:∀ fr t c,(ob=.mem fr t c∨ob=.mfz fr t c)→K9 t path=some uT→Ba K.C S.objs k (id::l0) (v,u) l →
  ∃ g off l1,val=.pointer (some ⟨g,off,none⟩)∧Ba K.C S.objs k l1 (v,u) l ∧
   E7 (Bi K S.objs used γ w) (.ptr id (path++q)) (.pointer (some ⟨g,off+By uT q,none⟩)):=by
  intro fr t c ho ht hk
  have hm:Au6 (An S.objs id) t:=Ai7 _ fr t c (by rcases ho with rfl|rfl<;>simp[hob])
  obtain⟨g,u',p1,p2,p3,p4⟩:=hp t hm
  refine⟨g,By t path,_,p4,hk,Dh (a:=.ptr id (path++q)) ⟨hu,_,rfl,rfl,fun t' ht'=>?_⟩ rfl rfl⟩
  obtain⟨g',u'',q1,q2,q3,q4⟩:=hp t' ht'
  have p1:γ id=_:=p1
  have q1:γ id=_:=q1
  have hg:g=g':=by rw[p1] at q1;cases q1;rfl
  subst hg
  have htt:t'=t:=by
   obtain⟨fr1,c1,h1⟩:=hm
   obtain⟨fr2,c2,h2⟩:=ht'
   have h2:An S.objs id=some (.mem fr2 t' c2)∨An S.objs id=some (.mfz fr2 t' c2):=h2
   rcases h1 with h1|h1<;>rcases h2 with h2|h2<;>rw[h1] at h2<;>cases h2<;>rfl
  subst htt
  obtain⟨s1,s2,s3⟩:=Aua t' path uT q ht p3
  exact⟨g,w',p1,by rw[s1];exact hw',s3.2 hq,by rw[s2]⟩
 dsimp only at hl
 split at hl
 ·rename_i fr t c
  split at hl
  ·rename_i ww hww
   cases hc:Ty.beq ww uT with
   | false=>rw[hc] at hl;exact hl.elim
   | true =>
    rw[hc] at hl
    rw[Ty.beq_iff.1 hc] at hww
    exact key fr t c (.inl rfl) hww hl
  ·exact hl.elim
 ·rename_i fr t c
  split at hl
  ·rename_i ww hww
   cases hc:Ty.beq ww uT with
   | false=>rw[hc] at hl;exact hl.elim
   | true =>
    rw[hc] at hl
    rw[Ty.beq_iff.1 hc] at hww
    exact key fr t c (.inr rfl) hww hl
  ·exact hl.elim
 ·exact hl.elim
theorem Beh{o:Option Obj}{ver:Nat}{t t':Ty}{n n':Nat}(h:Agt o ver t n)(h':Agt o ver t' n'):t=t'∧n=n':=by
 obtain⟨fr,rows,h1,h2⟩:=h
 obtain⟨fr',rows',h1',h2'⟩:=h'
 rcases h2 with h2|h2<;>rcases h2' with h2'|h2'<;>rw[h2] at h2'<;>cases h2'<;>exact⟨rfl,h1.symm.trans h1'⟩
theorem Bsj(h:Hi K S used γ a w){id:Id}{ver i:Nat}{path q:List Nat}{uT:Ty}{val:Value}(hv:E7 (Bi K S.objs used γ w) (.eptr id ver i path) val)
  {k:OpV} {l0:List Id} (hl:Ba K.C S.objs (Cb3 id ver path uT k) l0 (v,u) l) (hq:inT uT q) (hq':∃ w,K9 uT q=some w) :
  ∃ g off l1,val=.pointer (some ⟨g,off,none⟩)∧Ba K.C S.objs k l1 (v,u) l ∧
   E7 (Bi K S.objs used γ w) (.eptr id ver i (path++q)) (.pointer (some ⟨g,off+By uT q,none⟩)):=by
 obtain⟨hu,hp⟩:=Be7 hv
 obtain⟨ob,hob,hl⟩:=hl
 obtain⟨w',hw'⟩:=hq'
 have key:∀ fr t rows,(ob=.sli ver fr t rows∨ob=.frz ver fr t rows)→K9 t path=some uT→Ba K.C S.objs k (id::l0) (v,u) l →
  ∃ g off l1,val=.pointer (some ⟨g,off,none⟩)∧Ba K.C S.objs k l1 (v,u) l ∧
   E7 (Bi K S.objs used γ w) (.eptr id ver i (path++q)) (.pointer (some ⟨g,off+By uT q,none⟩)):=by
  intro fr t rows ho ht hk
  have hm:Agt (An S.objs id) ver t rows.length:=Ft _ ver fr t rows (by rcases ho with rfl|rfl<;>simp[hob])
  obtain⟨p0,g,m,cp,u',p1,p2,p3,p4⟩:=hp t _ hm
  refine⟨g,i*t.size+By t path,_,p4,hk,Dh (a:=.eptr id ver i (path++q)) ⟨hu,_,rfl,rfl,fun t' n' ht'=>?_⟩ rfl rfl⟩
  obtain⟨q0,g',m',cp',u'',q1,q2,q3,q4⟩:=hp t' n' ht'
  have p1:γ id=_:=p1
  have q1:γ id=_:=q1
  have hg:g=g':=by rw[p1] at q1;cases q1;rfl
  subst hg
  obtain⟨htt,_⟩:=Beh hm ht'
  subst htt
  obtain⟨s1,s2,s3⟩:=Aua t path uT q ht p3
  exact⟨q0,g,m,cp,w',p1,by rw[s1];exact hw',s3.2 hq,by rw[s2];simp only[Nat.add_assoc]⟩
 dsimp only at hl
 split at hl
 ·rename_i ver' fr t rows
  split at hl
  ·rename_i ww h1 hww
   have h1:=Nat.eq_of_beq_eq_true h1
   subst h1
   cases hc:Ty.beq ww uT with
   | false=>rw[hc] at hl;exact hl.elim
   | true =>
    rw[hc] at hl
    rw[Ty.beq_iff.1 hc] at hww
    exact key fr t rows (.inl rfl) hww hl
  ·exact hl.elim
 ·rename_i ver' fr t rows
  split at hl
  ·rename_i ww h1 hww
   have h1:=Nat.eq_of_beq_eq_true h1
   subst h1
   cases hc:Ty.beq ww uT with
   | false=>rw[hc] at hl;exact hl.elim
   | true =>
    rw[hc] at hl
    rw[Ty.beq_iff.1 hc] at hww
    exact key fr t rows (.inr rfl) hww hl
  ·exact hl.elim
 ·exact hl.elim
theorem Bs6{E:Vv}(fr:Bool):∀ (t:Ty) (x:t.den) (n:Nat) (y:AV),Clr fr t x n=some y→∃ u z,y=.rptr fr u z∧K9 t [n]=some u ∧
  ∀ cs,DR E.w (E.ok fr) t cs x→DR E.w (E.ok fr) u ((cs.drop (By t [n])).take u.size) z∧By t [n]+u.size≤t.size
 | .pair a b,x,0,y,h=>by
  cases h
  refine⟨a,x.1,rfl,by simp[K9,Aow],fun cs hd=>⟨?_,by simp[By,As7,Ty.size]⟩⟩
  simpa [By,As7] using hd.1
 | .pair a b,x,n+1,y,h=>by
  obtain⟨u,z,h1,h2,h3⟩:=Bs6 (E:=E) fr b x.2 n y h
  refine⟨u,z,h1,h2,fun cs hd=>?_⟩
  obtain⟨k1,k2⟩:=h3 _ hd.2
  rw[List.drop_drop] at k1
  exact⟨k1,by simp only[By,Ty.size];omega⟩
theorem Bsz{E:Vv}{fr:Bool}{t:Ty}{x:t.den}{val:Value}(hv:E7 E (.rptr fr t x) val){off:Nat}{u:Ty}{z:u.den}
  (hz:∀ cs,DR E.w (E.ok fr) t cs x→DR E.w (E.ok fr) u ((cs.drop off).take u.size) z∧off+u.size≤t.size) :
  ∃ ad,val=.pointer (some ad)∧E7 E (.rptr fr u z) (.pointer (some (ad.add off))):=by
 obtain⟨ad,vs,h1,h2,h3,h4,h5⟩:=As3 hv
 obtain⟨k1,k2⟩:=hz vs h5
 refine⟨ad,h1,Dh (a:=.rptr fr u z) ⟨_,rfl,rfl,ad.add off,_,rfl,?_,fun hp=>?_,fun j y hj=>?_,k1⟩ rfl rfl⟩
 ·obtain⟨b,f,s⟩:=ad
  simp only at h2
  subst h2
  rw[Ch]
 ·rw[Am6];exact h3 (by omega)
 ·obtain⟨b,f,s⟩:=ad
  simp only at h2
  subst h2
  have e:((⟨b,f,none⟩:Addr).add off).add j=(⟨b,f,none⟩:Addr).add (off+j):=by simp only[Ch,Nat.add_assoc]
  rw[e]
  refine h4 _ y ?_
  rw[List.getElem?_take] at hj
  split at hj
  ·rwa [List.getElem?_drop] at hj
  ·cases hj
theorem Bqb(h:Hi K S used γ a w){T:TypeId}{x:Operand}{n:Nat}(ho:o.op=.fieldAddr T x n)(hx:A0 x=true)(hT:∀ T t,K.G.ty T=some t→T1 K.P t T=true)
  (hl:Ba K.C S.objs (Bdx (S.eval x) (K.G.ty T) n) [] (v,u) l):Pt K S used γ a w o v u base:=by
 have hv:=Bo h x hx
 unfold Bdx at hl
 split at hl
 ·rename_i id path t heq ht
  rw[heq] at hv
  cases hf:Nw t n with
  | false=>rw[hf] at hl;exact hl.elim
  | true =>
   rw[hf] at hl
   obtain⟨fs,f1,f2⟩:=Az6 (hT T t ht) hf
   obtain⟨f,u',k1,k2,k3,k4,k5,k6⟩:=Apb t 0 fs.toList n f2 hf
   obtain⟨g,off,l1,e1,e2,e3⟩:=Bni h hv (q:=[n]) hl k6 ⟨u',k3⟩
   obtain⟨e4,e5⟩:=e2
   simp only[Prod.mk.injEq] at e4
   obtain⟨rfl,rfl⟩:=e4
   rw[Amb]
   refine Pt.pure h ?_ e3
   simp only[execOp,ho,e1,Sem.run_bind,Azm (hT T t ht) hf,Result.andThen_ok,Sem.run_pure,Ch]
 ·rename_i id ver j path t heq ht
  rw[heq] at hv
  cases hf:Nw t n with
  | false=>rw[hf] at hl;exact hl.elim
  | true =>
   rw[hf] at hl
   obtain⟨fs,f1,f2⟩:=Az6 (hT T t ht) hf
   obtain⟨f,u',k1,k2,k3,k4,k5,k6⟩:=Apb t 0 fs.toList n f2 hf
   obtain⟨g,off,l1,e1,e2,e3⟩:=Bsj h hv (q:=[n]) hl k6 ⟨u',k3⟩
   obtain⟨e4,e5⟩:=e2
   simp only[Prod.mk.injEq] at e4
   obtain⟨rfl,rfl⟩:=e4
   rw[Amb]
   refine Pt.pure h ?_ e3
   simp only[execOp,ho,e1,Sem.run_bind,Azm (hT T t ht) hf,Result.andThen_ok,Sem.run_pure,Ch]
 ·rename_i fr t' x' t heq ht
  rw[heq] at hv
  cases hc:Ty.beq t' t with
  | false=>rw[hc] at hl;exact hl.elim
  | true =>
   rw[hc] at hl
   have e:=Ty.beq_iff.1 hc
   subst e
   simp only[cond_true] at hl
   split at hl
   ·rename_i y hy
    obtain⟨u',z,y1,y2,y3⟩:=Bs6 (E:=Bi K S.objs used γ w) fr t' x' n y hy
    have hf:Nw t' n=true:=by
     have key:∀ (t:Ty) (x:t.den) (n:Nat) (y:AV),Clr fr t x n=some y→Nw t n=true:=by
      intro t
      induction t with
      | pair a b iha ihb=>intro x n y h;cases n with
       | zero=>rfl
       | succ n=>exact ihb x.2 n y h
      | _=>intro x n y h;cases n<;>cases h
     exact key _ _ _ _ hy
    obtain⟨ad,a1,a2⟩:=Bsz hv y3
    obtain⟨e4,e5⟩:=hl
    simp only[Prod.mk.injEq] at e4
    obtain⟨rfl,rfl⟩:=e4
    rw[y1]
    refine Pt.pure h ?_ a2
    simp only[execOp,ho,a1,Sem.run_bind,Azm (hT T t' ht) hf,Result.andThen_ok,Sem.run_pure]
   ·exact hl.elim
 ·exact hl.elim
end
end Go.Pon
namespace Go.Pon
open Go
section
variable {P:Program} (w:World)
theorem Adg{T:TypeId}{t:Ty}(h:T1 P (.slice t) T=true)(ad:Addr)(len cap:Nat)(k:IntKind)(i:Int)(h0:0≤i)(h1:i<len) :
  (Instr.indexAt T (.slice (some ad) len cap) (.int k i)).run P w=.ok (.pointer (some (ad.add (i.toNat*t.size)))) w:=by
 obtain⟨e,h2,h3⟩:=Hy h
 have hs:=Lu w h3
 simp[Instr.indexAt,run_underlying h2,asIntOf,h0,h1,hs]
theorem Adf{T:TypeId}{n:Nat}{t:Ty}(h:T1 P (.arr n t) T=true)(ad:Addr)(k:IntKind)(i:Int)(h0:0≤i)(h1:i<n) :
  (Instr.indexAt T (.pointer (some ad)) (.int k i)).run P w=.ok (.pointer (some (ad.add (i.toNat*t.size)))) w:=by
 obtain⟨e,h2,h3⟩:=Aez h
 have hs:=Lu w h3
 simp[Instr.indexAt,run_underlying h2,asIntOf,h0,h1,hs,Instr.sureAddr]
end
section
variable {K:Dq} {S:St} {used:Id→Nat→Prop} {γ:Id→Value} {a:Act} {w:World} {o:Oper} {base:Id} {v:AV} {u:Rc} {l:List Id}
theorem Byd(n:Nat)(t:Ty)(i:Nat):By (.arr n t) [i]=i*t.size:=by simp[By,As7]
theorem Ca3(h:Hi K S used γ a w){id:Id}{ver:Nat}{fr:Bool}{t:Ty}{rows:List t.den}
  (ho:An S.objs id=some (.sli ver fr t rows)∨An S.objs id=some (.frz ver fr t rows)) (hu:used id ver) {i:Nat} (hi:i<rows.length) {g m cp:Nat}
  (hg:γ id=.slice (some ⟨g,0,none⟩) m cp) :
  E7 (Bi K S.objs used γ w) (.eptr id ver i []) (.pointer (some ⟨g,i*t.size,none⟩)):=by
 refine Dh (a:=.eptr id ver i []) ⟨hu,_,rfl,rfl,fun t' n' hs=>?_⟩ rfl rfl
 obtain⟨rfl,rfl⟩:=Beh (Ft _ ver fr t rows ho) hs
 exact⟨hi,g,m,cp,t,hg,Aow t,Bfu t,by rw[As7,Nat.add_zero]⟩
theorem Bnz(h:Hi K S used γ a w){T:TypeId}{x y:Operand}{n:Int}{k:IntKind}(ho:o.op=.indexAddr T x y)(hx:A0 x=true)(hT:∀ T t,K.G.ty T=some t→T1 K.P t T=true)
  (hy:a.eval y=.int k n)
  (hl:Ba K.C S.objs (Bdl (S.eval x) (K.G.ty T) n) [] (v,u) l):Pt K S used γ a w o v u base:=by
 have hv:=Bo h x hx
 have fin:∀ val r y,a.eval x=val→(Instr.indexAt T val (.int k n)).run K.P w=.ok r w→E7 (Bi K S.objs used γ w) y r→(y,[])=(v,u)→Pt K S used γ a w o v u base:=by
  rintro val r y e1 e2 e3 e4
  cases e4
  exact Pt.pure h (by simp[execOp,ho,hy,e1,e2]) e3
 unfold Bdl at hl
 split at hl
 ·-- data
  rename_i fr t x' t' heq hG
  rw[heq] at hv
  cases hc:(Ty.beq t t'&&Nat.blt 0 t.size) with
  | false=>rw[hc] at hl;exact hl.elim
  | true =>
   rw[hc] at hl
   simp only[Bool.and_eq_true,Nat.blt_eq] at hc
   have e:=Ty.beq_iff.1 hc.1
   subst e
   obtain⟨h1,h2⟩:=C3 hl
   obtain⟨i0,i1,i2⟩:=Akn h1
   obtain⟨ad,cap,d1,d2,d3,d4,rows,d5,d6⟩:=Bbx (t:=.slice t) rfl hv
   have d1:a.eval x=.slice ad (List.length x') cap:=by simpa using d1
   have hlen:=d5.length
   have hpos:0<rows.length:=by rw[hlen];exact Nat.mul_pos (by omega) hc.2
   obtain⟨ad',e1,e2,e3⟩:=d6 (List.length_pos_iff.1 hpos)
   subst e1
   have hsp:ad'.spot=none:=by
    have:=e3 0 rows[0] (List.getElem?_eq_getElem hpos)
    have e0:ad'.add 0=ad':=rfl
    rw[e0] at this
    unfold World.cell? at this
    split at this
    ·cases hs:ad'.spot with
     | none=>rfl
     | some _=>rw[hs] at this;simp at this
    ·cases this
   obtain⟨g,off,sp⟩:=ad'
   simp only at hsp
   subst hsp
   refine fin _ _ _ d1 (Adg w (hT _ _ hG) _ _ cap k n i0 i1) ?_ h2.1
   have hrow:=d5.get n.toNat i2
   rw[Avm i2]
   refine Dh (a:=.rptr fr t _) ⟨_,rfl,rfl,_,(rows.drop (n.toNat*t.size)).take t.size,rfl,by rw[Ch],fun hp=>by rw[Am6];exact e2,fun j z hj=>?_,hrow⟩ rfl rfl
   rw[Ch,Ch,Nat.add_assoc]
   have:=e3 (n.toNat*t.size+j) z (by
    rw[List.getElem?_take] at hj
    split at hj
    ·rwa [List.getElem?_drop] at hj
    ·cases hj)
   rwa [Ch] at this
 ·-- an own slice
  rename_i id ver t' heq hG
  rw[heq] at hv
  obtain⟨hu,hna,hval⟩:=Arc hv
  obtain⟨ob,hob,hl⟩:=hl
  have key:∀ fr t rows,(ob=.sli ver fr t rows∨ob=.frz ver fr t rows)→t=t'→Ba K.C S.objs (.chk (B0 n (List.length rows)) (.done (.eptr id ver n.toNat [],[]))) [id] (v,u) l→Pt K S used γ a w o v u base:=by
   intro fr t rows hcase ht hk
   subst ht
   have ho':An S.objs id=some (.sli ver fr t rows)∨An S.objs id=some (.frz ver fr t rows):=by rcases hcase with rfl|rfl<;>simp[hob]
   obtain⟨h1,h2⟩:=C3 hk
   obtain⟨i0,i1,i2⟩:=Akn h1
   have hne:rows≠[]:=by rintro rfl;simp at i2
   obtain⟨g,cp,cs,c1,_,_,c5,c6⟩:=Ayw h ho' hne
   have e:a.eval x=γ id:=hval t _ (Ft _ ver fr t rows ho')
   refine fin _ _ _ (e.trans c1) (Adg w (hT _ _ hG) _ _ cp k n i0 i1) ?_ h2.1
   rw[Ch,Nat.zero_add]
   exact Ca3 h ho' hu i2 c1
  dsimp only at hl
  split at hl
  ·rename_i ver' fr t rows
   cases hc:(Nat.beq ver' ver&&Ty.beq t t') with
   | false=>rw[hc] at hl;exact hl.elim
   | true =>
    rw[hc] at hl
    simp only[Bool.and_eq_true,Nat.beq_eq] at hc
    obtain⟨rfl,h2⟩:=hc
    exact key fr t rows (.inl rfl) (Ty.beq_iff.1 h2) hl
  ·rename_i ver' fr t rows
   cases hc:(Nat.beq ver' ver&&Ty.beq t t') with
   | false=>rw[hc] at hl;exact hl.elim
   | true =>
    rw[hc] at hl
    simp only[Bool.and_eq_true,Nat.beq_eq] at hc
    obtain⟨rfl,h2⟩:=hc
    exact key fr t rows (.inr rfl) (Ty.beq_iff.1 h2) hl
  ·exact hl.elim
 ·-- a part of an own slice
  rename_i id ver lo hi _ t' heq hG
  rw[heq] at hv
  obtain⟨hu,hval⟩:=Bm2 hv
  obtain⟨ob,hob,hl⟩:=hl
  have key:∀ fr t rows,(ob=.sli ver fr t rows∨ob=.frz ver fr t rows)→t=t'→Ba K.C S.objs (.chk (B0 n (hi-lo)) (.done (.eptr id ver (lo+n.toNat) [],[]))) [id] (v,u) l→Pt K S used γ a w o v u base:=by
   intro fr t rows hcase ht hk
   subst ht
   have ho':An S.objs id=some (.sli ver fr t rows)∨An S.objs id=some (.frz ver fr t rows):=by rcases hcase with rfl|rfl<;>simp[hob]
   obtain⟨h1,h2⟩:=C3 hk
   obtain⟨i0,i1,i2⟩:=Akn h1
   obtain⟨v1,v2,ad,c,v3,v4,v5,v6,v7,_⟩:=hval t _ (Ft _ ver fr t rows ho')
   obtain⟨g,m,cp,v8,v9⟩:=v7 (by omega)
   subst v9
   refine fin _ _ _ v3 (Adg w (hT _ _ hG) _ _ c k n i0 i1) ?_ h2.1
   rw[Ch,← Nat.add_mul]
   exact Ca3 h ho' hu (by omega) v8
  dsimp only at hl
  split at hl
  ·rename_i ver' fr t rows
   cases hc:(Nat.beq ver' ver&&Ty.beq t t') with
   | false=>rw[hc] at hl;exact hl.elim
   | true =>
    rw[hc] at hl
    simp only[Bool.and_eq_true,Nat.beq_eq] at hc
    obtain⟨rfl,h2⟩:=hc
    exact key fr t rows (.inl rfl) (Ty.beq_iff.1 h2) hl
  ·rename_i ver' fr t rows
   cases hc:(Nat.beq ver' ver&&Ty.beq t t') with
   | false=>rw[hc] at hl;exact hl.elim
   | true =>
    rw[hc] at hl
    simp only[Bool.and_eq_true,Nat.beq_eq] at hc
    obtain⟨rfl,h2⟩:=hc
    exact key fr t rows (.inr rfl) (Ty.beq_iff.1 h2) hl
  ·exact hl.elim
 ·-- an array of one's own
  rename_i id path m t heq hG
  rw[heq] at hv
  by_cases hin:B0 n m=true
  ·obtain⟨i0,i1,i2⟩:=Akn hin
   obtain⟨g,off,l1,e1,e2,e3⟩:=Bni h hv (q:=[n.toNat]) hl ⟨i2,Bfu t⟩ ⟨t,by simp[K9,Aow]⟩
   obtain⟨_,e4,e5⟩:=C3 e2
   refine fin _ _ _ e1 (Adf w (hT _ _ hG) _ k n i0 i1) ?_ e4
   rw[Amb,Ch,← Byd m t]
   exact e3
  ·exfalso
   obtain⟨ob,hob,hl⟩:=hl
   dsimp only at hl
   split at hl
   all_goals try exact hl.elim
   all_goals
    split at hl
    all_goals try exact hl.elim
    rename_i ww _
    cases hc:Ty.beq ww (.arr m t)<;>rw[hc] at hl
    ·exact hl.elim
    ·exact hin (C3 hl).1
 ·-- an array in an element
  rename_i id ver j path m t heq hG
  rw[heq] at hv
  by_cases hin:B0 n m=true
  ·obtain⟨i0,i1,i2⟩:=Akn hin
   obtain⟨g,off,l1,e1,e2,e3⟩:=Bsj h hv (q:=[n.toNat]) hl ⟨i2,Bfu t⟩ ⟨t,by simp[K9,Aow]⟩
   obtain⟨_,e4,e5⟩:=C3 e2
   refine fin _ _ _ e1 (Adf w (hT _ _ hG) _ k n i0 i1) ?_ e4
   rw[Amb,Ch,← Byd m t]
   exact e3
  ·exfalso
   obtain⟨ob,hob,hl⟩:=hl
   dsimp only at hl
   split at hl
   all_goals try exact hl.elim
   all_goals
    split at hl
    all_goals try exact hl.elim
    rename_i ww _ _
    cases hc:Ty.beq ww (.arr m t)<;>rw[hc] at hl
    ·exact hl.elim
    ·exact hin (C3 hl).1
 ·-- an array that is read only
  rename_i fr m t x' m' t' heq hG
  rw[heq] at hv
  cases hc:(Nat.beq m m'&&Ty.beq t t') with
  | false=>rw[hc] at hl;exact hl.elim
  | true =>
   rw[hc] at hl
   simp only[Bool.and_eq_true,Nat.beq_eq] at hc
   obtain⟨rfl,h2⟩:=hc
   have e:=Ty.beq_iff.1 h2
   subst e
   obtain⟨h1,h2⟩:=C3 hl
   obtain⟨i0,i1,i2⟩:=Akn h1
   obtain⟨ad,a1,a2⟩:=Bsz (u:=t) (z:=List.getD x' n.toNat t.zero) (off:=n.toNat*t.size) hv (fun cs hd=>by
    have hlt:n.toNat<List.length x':=by rw[hd.1];exact i2
    refine⟨by rw[Avm hlt];exact hd.2.get n.toNat hlt,?_⟩
    show _≤m*t.size
    rw[← Nat.succ_mul];exact Nat.mul_le_mul_right _ i2)
   exact fin _ _ _ a1 (Adf w (hT _ _ hG) ad k n i0 i1) a2 h2.1
 ·exact hl.elim
theorem Cc0{n:Nat}(h:n≤maxLen):inK .i64 (n:Int):=by
 simp only[maxLen] at h
 simp only[inK,IntKind.min,IntKind.max,IntKind.signed,IntKind.bits]
 omega
theorem Bad(h:Hi K S used γ a w){T:TypeId}{x:Operand}{n:Nat}(ho:o.op=.call { callee:=.builtin .len,args:=#[x],argTypes:=#[T] })
  (hlen:(Builtin.len_ #[T] o.type #[a.eval x]).run K.P w=.ok (goInt n) w) (hn:n≤maxLen):Pt K S used γ a w o (Tf .i64 n) [] base:=by
 refine Pt.pure h ?_ (Gq _ (Cc0 hn))
 simp only[execOp,ho,resolve,invoke,builtin,Sem.run_bind,Sem.run_pure,Result.andThen_ok,List.map_toArray,List.map_cons,List.map_nil,hlen]
 rfl
theorem X1{P:Program}{T:TypeId}{t:Ty}(h:T1 P (.slice t) T=true)(ty:TypeId)(ad:Option Addr)(n c:Nat):(Builtin.len_ #[T] ty #[.slice ad n c]).run P w=.ok (goInt n) w:=by
 obtain⟨e,h2,h3⟩:=Hy h
 simp[Builtin.len_,run_underlying h2]
theorem Buu{P:Program}{T:TypeId}(h:T1 P .str T=true)(ty:TypeId)(s:ByteArray):(Builtin.len_ #[T] ty #[.string s]).run P w=.ok (goInt s.size) w:=by
 simp[Builtin.len_,run_underlying (Ai9 h)]
theorem Bay(h:Hi K S used γ a w){id:Id}{ver:Nat}{fr:Bool}{t:Ty}{rows:List t.den}
  (ho:An S.objs id=some (.sli ver fr t rows)∨An S.objs id=some (.frz ver fr t rows)) :
  ∃ ad cap,γ id=.slice ad rows.length cap∧rows.length≤cap∧cap≤maxLen∧(ad=none→cap=0):=by
 rcases ho with ho|ho
 ·rcases h.objs id _ ho with⟨h1,h2⟩ | ⟨g,cap,cur,e,h1,h2,h3,h4,_⟩
  ·exact⟨none,0,by rw[h2];exact h1,Nat.le_of_eq (by rw[h2];rfl),Nat.zero_le _,fun _=>rfl⟩
  ·exact⟨_,cap,h1,h3,h4,fun e=>by cases e⟩
 ·obtain⟨⟨ad,cap,h1,h2,h3,h4,_⟩,_⟩:=h.objs id _ ho
  exact⟨ad,cap,by have:[γ id]=_:=h1;simpa using this,h2,h3,h4⟩
theorem Chk(h:Hi K S used γ a w){T:TypeId}{x:Operand}(ho:o.op=.call { callee:=.builtin .len,args:=#[x],argTypes:=#[T] })(hx:A0 x=true)
  (hT:∀ T t,K.G.ty T=some t→T1 K.P t T=true)
  (hl:Ba K.C S.objs (Coq (S.eval x) (K.G.ty T) fun n=>.done (Tf .i64 n,[])) [] (v,u) l):Pt K S used γ a w o v u base:=by
 have hv:=Bo h x hx
 unfold Coq at hl
 split at hl
 ·rename_i fr t x' t' heq hG
  rw[heq] at hv
  obtain⟨ad,cap,d1,d2,d3,_⟩:=Bbx (t:=.slice t) rfl hv
  have d1:a.eval x=.slice ad (List.length x') cap:=by simpa using d1
  cases hl.1
  exact Bad h ho (by rw[d1];exact X1 (hT _ _ hG) _ _ _ _) (by omega)
 ·rename_i fr x' heq hG
  rw[heq] at hv
  obtain⟨s,d1,d2,d3⟩:=Bbx (t:=.str) rfl hv
  have d1:a.eval x=.string s:=by simpa using d1
  cases hl.1
  have hlen:List.length x'=s.size:=by rw[d2,List.length_map];rfl
  exact Bad h ho (by rw[d1,hlen];exact Buu (hT _ _ hG) _ _) (by rw[hlen];exact d3)
 ·rename_i t' heq hG
  rw[heq] at hv
  obtain⟨d1,_⟩:=Rw (x:=.nils) rfl (by simp) (by simp) (by simp) hv
  have d1:a.eval x=.slice none 0 0:=by have:[a.eval x]=_:=d1;simpa using this
  cases hl.1
  exact Bad h ho (n:=0) (by rw[d1];exact X1 (hT _ _ hG) _ _ _ _) (Nat.zero_le _)
 ·rename_i id ver t' heq hG
  rw[heq] at hv
  obtain⟨hu,hna,hval⟩:=Arc hv
  obtain⟨ob,hob,hl⟩:=hl
  have key:∀ fr t rows,(ob=.sli ver fr t rows∨ob=.frz ver fr t rows)→(Tf .i64 (List.length rows),[])=(v,u)→Pt K S used γ a w o v u base:=by
   intro fr t rows hcase e
   cases e
   have ho':An S.objs id=some (.sli ver fr t rows)∨An S.objs id=some (.frz ver fr t rows):=by rcases hcase with rfl|rfl<;>simp[hob]
   obtain⟨ad,cap,c1,c2,c3,_⟩:=Bay h ho'
   have e:a.eval x=γ id:=hval t _ (Ft _ ver fr t rows ho')
   exact Bad h ho (by rw[e,c1];exact X1 (hT _ _ hG) _ _ _ _) (by omega)
  dsimp only at hl
  split at hl
  ·rename_i ver' fr t rows
   cases hc:Nat.beq ver' ver with
   | false=>rw[hc] at hl;exact hl.elim
   | true =>
    rw[hc] at hl
    have hc:=Nat.eq_of_beq_eq_true hc
    subst hc
    exact key fr t rows (.inl rfl) hl.1
  ·rename_i ver' fr t rows
   cases hc:Nat.beq ver' ver with
   | false=>rw[hc] at hl;exact hl.elim
   | true =>
    rw[hc] at hl
    have hc:=Nat.eq_of_beq_eq_true hc
    subst hc
    exact key fr t rows (.inr rfl) hl.1
  ·exact hl.elim
 ·rename_i id ver lo hi _ t' heq hG
  rw[heq] at hv
  obtain⟨hu,hval⟩:=Bm2 hv
  obtain⟨ob,hob,hl⟩:=hl
  have key:∀ fr t rows,(ob=.sli ver fr t rows∨ob=.frz ver fr t rows)→(Tf .i64 ((hi-lo:Nat):Int),[])=(v,u)→Pt K S used γ a w o v u base:=by
   intro fr t rows hcase e
   cases e
   have ho':An S.objs id=some (.sli ver fr t rows)∨An S.objs id=some (.frz ver fr t rows):=by rcases hcase with rfl|rfl<;>simp[hob]
   obtain⟨v1,v2,ad,c,v3,v4,v5,_⟩:=hval t _ (Ft _ ver fr t rows ho')
   exact Bad h ho (by rw[v3];exact X1 (hT _ _ hG) _ _ _ _) (by omega)
  dsimp only at hl
  split at hl
  ·rename_i ver' fr t rows
   cases hc:Nat.beq ver' ver with
   | false=>rw[hc] at hl;exact hl.elim
   | true =>
    rw[hc] at hl
    have hc:=Nat.eq_of_beq_eq_true hc
    subst hc
    exact key fr t rows (.inl rfl) hl.1
  ·rename_i ver' fr t rows
   cases hc:Nat.beq ver' ver with
   | false=>rw[hc] at hl;exact hl.elim
   | true =>
    rw[hc] at hl
    have hc:=Nat.eq_of_beq_eq_true hc
    subst hc
    exact key fr t rows (.inr rfl) hl.1
  ·exact hl.elim
 ·rename_i id path lo hi t' heq hG
  rw[heq] at hv
  obtain⟨hu,hval⟩:=Cev hv
  obtain⟨ob,hob,hl⟩:=hl
  have key:∀ fr t c,(ob=.mem fr t c∨ob=.mfz fr t c)→(Tf .i64 ((hi-lo:Nat):Int),[])=(v,u)→Pt K S used γ a w o v u base:=by
   intro fr t c hcase e
   cases e
   have ho':An S.objs id=some (.mem fr t c)∨An S.objs id=some (.mfz fr t c):=by rcases hcase with rfl|rfl<;>simp[hob]
   obtain⟨g,n,uu,v1,v2,v3,v4,v5,ad,c',v6,v7,v8,_⟩:=hval t (Ai7 _ fr t c ho')
   exact Bad h ho (by rw[v6];exact X1 (hT _ _ hG) _ _ _ _) (by omega)
  dsimp only at hl
  split at hl
  ·exact key _ _ _ (.inl rfl) hl.1
  ·exact key _ _ _ (.inr rfl) hl.1
  ·exact hl.elim
 ·exact hl.elim
end
end Go.Pon
namespace Go.Pon
open Go
def bnd(v:Option Value)(none_:Nat)(n:Nat):Prop:=(v=none∧n=none_)∨∃ k,v=some (.int k n)
def Cot(m h:Option Value)(cap hi M:Nat):Prop:=(m=none∧M=cap)∨((∃ k,m=some (.int k hi))∧(∃ k,h=some (.int k hi))∧M=hi)
theorem Bx6{P:Program}(w:World)(isS:Bool){len cap lo hi M:Nat}{l h m:Option Value}(hl:bnd l 0 lo)(hh:bnd h len hi)(h1:lo≤hi)(h2:hi≤cap)(hm:Cot m h cap hi M) :
  (Instr.sliceBounds isS len cap l h m).run P w=.ok (lo,hi,M) w:=by
 have c1:(lo:Int)≤hi:=by omega
 have c2:(hi:Int)≤cap:=by omega
 rcases hm with⟨rfl,rfl⟩ | ⟨⟨k3,rfl⟩,⟨k4,rfl⟩,rfl⟩
 ·rcases hl with⟨rfl,rfl⟩ | ⟨k,rfl⟩<;>rcases hh with⟨rfl,rfl⟩ | ⟨k',rfl⟩ <;>
   simp[Instr.sliceBounds,Instr.sliceBound,asIntOf,h1,h2]<;>omega
 ·rcases hl with⟨rfl,rfl⟩ | ⟨k,rfl⟩ <;>
   simp[Instr.sliceBounds,Instr.sliceBound,asIntOf,h1,h2]<;>omega
theorem Av3{P:Program}(w:World)(isS:Bool){len cap lo hi:Nat}{l h:Option Value}(hl:bnd l 0 lo)(hh:bnd h len hi)(h1:lo≤hi)(h2:hi≤cap) :
  (Instr.sliceBounds isS len cap l h none).run P w=.ok (lo,hi,cap) w:=by
 have c1:(lo:Int)≤hi:=by omega
 have c2:(hi:Int)≤cap:=by omega
 rcases hl with⟨rfl,rfl⟩ | ⟨k,rfl⟩<;>rcases hh with⟨rfl,rfl⟩ | ⟨k',rfl⟩ <;>
  simp[Instr.sliceBounds,Instr.sliceBound,asIntOf,h1,h2]<;>omega
theorem Anf{C:Ap}{objs:Rc}{n:Nat}{lo hi:Option Int}{k:Nat→Nat→OpV}{l0 l:List Id}{r:AV×Rc}(h:Ba C objs (Bjf n lo hi k) l0 r l) :
  ∃ a b:Nat,a≤b∧b≤n∧((lo=none∧a=0)∨lo=some (a:Int))∧((hi=none∧b=n)∨hi=some (b:Int))∧Ba C objs (k a b) l0 r l:=by
 unfold Bjf at h
 split at h
 ·exact⟨0,n,Nat.zero_le _,Nat.le_refl _,.inl ⟨rfl,rfl⟩,.inl ⟨rfl,rfl⟩,h⟩
 ·rename_i i
  obtain⟨h1,h2⟩:=C3 h
  simp only[Bool.and_eq_true,decide_eq_true_eq] at h1
  exact⟨i.toNat,n,by omega,Nat.le_refl _,.inr (by congr 1;omega),.inl ⟨rfl,rfl⟩,h2⟩
 ·rename_i i
  obtain⟨h1,h2⟩:=C3 h
  simp only[Bool.and_eq_true,decide_eq_true_eq] at h1
  exact⟨0,i.toNat,Nat.zero_le _,by omega,.inl ⟨rfl,rfl⟩,.inr (by congr 1;omega),h2⟩
 ·rename_i i j
  obtain⟨h1,h2⟩:=C3 h
  simp only[Bool.and_eq_true,decide_eq_true_eq] at h1
  exact⟨i.toNat,j.toNat,by omega,by omega,.inr (by congr 1;omega),.inr (by congr 1;omega),h2⟩
theorem Be2{w:World}{ad:Addr}{v:Value}(h:w.cell? ad=some v):ad.spot=none:=by
 unfold World.cell? at h
 split at h
 ·cases hs:ad.spot with
  | none=>rfl
  | some _=>rw[hs] at h;simp at h
 ·cases h
theorem Bn1{ad:Addr}(h:ad.spot=none)(i j:Nat):(ad.add i).add j=ad.add (i+j):=by
 obtain⟨g,off,s⟩:=ad
 simp only at h
 subst h
 simp only[Ch,Nat.add_assoc]
theorem DR.cut{w:World}{ok:Nat→Prop}{t:Ty}{ad:Option Addr}{cap lo hi M:Nat}{x:List t.den}(h:DR w ok (.slice t) [.slice ad x.length cap] x)(h1:lo≤hi)(h2:hi≤x.length)(hM1:hi≤M)(hM2:M≤cap) :
  DR w ok (.slice t) [.slice (if M=lo then ad else ad.map (·.add (lo*t.size))) (hi-lo) (M-lo)] ((x.drop lo).take (hi-lo)):=by
 obtain⟨ad',cap',d1,d2,d3,d4,rows,d5,d6⟩:=h
 have e1:ad'=ad∧cap'=cap:=by
  have:Value.slice ad x.length cap=.slice ad' x.length cap':=by simpa using d1
  cases this
  exact⟨rfl,rfl⟩
 obtain⟨rfl,rfl⟩:=e1
 have hl:((x.drop lo).take (hi-lo)).length=hi-lo:=by simp;omega
 refine⟨_,M-lo,by rw[hl],by rw[hl];omega,by omega,fun hn=>?_,(rows.drop (lo*t.size)).take ((hi-lo)*t.size),(d5.drop lo).take (hi-lo),fun hne=>?_⟩
 ·by_cases hc:M=lo
  ·omega
  ·rw[if_neg hc] at hn
   cases ad' with
   | none=>have:=d4 rfl;omega
   | some _=>cases hn
 ·have hr:rows≠[]:=by rintro rfl;simp at hne
  obtain⟨adr,e1,e2,e3⟩:=d6 hr
  subst e1
  have hlt:lo<hi:=by
   rcases Nat.lt_or_ge lo hi with h|h
   ·exact h
   ·rw[show hi-lo=0 by omega] at hne;simp at hne
  have hc:M≠lo:=by omega
  have hsp:adr.spot=none:=by
   have hp:0<rows.length:=List.length_pos_iff.2 hr
   exact Be2 (e3 0 rows[0] (List.getElem?_eq_getElem hp))
  refine⟨adr.add (lo*t.size),by rw[if_neg hc];rfl,by rw[Am6];exact e2,fun j v hj=>?_⟩
  rw[Bn1 hsp]
  refine e3 _ v ?_
  rw[List.getElem?_take] at hj
  split at hj
  ·rwa [List.getElem?_drop] at hj
  ·cases hj
section
variable {K:Dq} {S:St} {used:Id→Nat→Prop} {γ:Id→Value} {a:Act} {w:World} {o:Oper} {base:Id} {v:AV} {u:Rc} {l:List Id}
theorem Gc(h:Hi K S used γ a w){lo:Option Operand}{i:Option Int}{n d:Nat}(hc:∀ x,lo=some x→A0 x=true)(hr:Jo (lo.map S.eval)=some i)
  (hi:(i=none∧n=d)∨i=some (n:Int)):bnd (lo.map a.eval) d n:=by
 cases lo with
 | none =>
  simp only[Option.map_none,Jo,Option.some.injEq] at hr
  subst hr
  rcases hi with⟨_,rfl⟩|hi
  ·exact .inl ⟨rfl,rfl⟩
  ·cases hi
 | some x =>
  simp only[Option.map_some,Jo] at hr
  split at hr
  ·rename_i k n' hk
   cases hr
   rcases hi with⟨hi,_⟩|hi
   ·cases hi
   ·cases hi
    obtain⟨e,_⟩:=Gf hk (Bo h x (hc x rfl))
    exact .inr ⟨k,by simp[e]⟩
  ·cases hr
theorem Bm6(h:Hi K S used γ a w){T:TypeId}{x:Operand}{lo hi:Option Operand}{mx:Option Operand}{i j m:Option Int}(ho:o.op=.slice T x lo hi mx)(hx:A0 x=true)
  (hlo:∀ x,lo=some x→A0 x=true) (hhi:∀ x,hi=some x→A0 x=true) (hri:Jo (lo.map S.eval)=some i) (hrj:Jo (hi.map S.eval)=some j)
  (hmx:∀ x,mx=some x→A0 x=true) (hrm:Jo (mx.map S.eval)=some m) (hm3:m=none∨(m=j∧∃ t,K.G.ty T=some (.slice t)))
  (hT:∀ T t,K.G.ty T=some t→T1 K.P t T=true) {cp:Bool} (hcp:cp=true→m≠none)
  (hl:Ba K.C S.objs (Bu8 (S.eval x) (K.G.ty T) i j cp) [] (v,u) l):Pt K S used γ a w o v u base:=by
 have hv:=Bo h x hx
 have fin:∀ val r y,a.eval x=val→(Instr.sliceAt T val (lo.map a.eval) (hi.map a.eval) (mx.map a.eval)).run K.P w=.ok r w→E7 (Bi K S.objs used γ w) y r→(y,[])=(v,u)→Pt K S used γ a w o v u base:=by
  rintro val r y e1 e2 e3 e4
  cases e4
  exact Pt.pure h (by simp[execOp,ho,e1,e2]) e3
 have bnd_m:∀ (d q cap:Nat),((j=none∧q=d)∨j=some (q:Int))→(∃ M,Cot (mx.map a.eval) (hi.map a.eval) cap q M∧(M=cap∨M=q)∧(cp=true→M=q)):=by
  intro d q cap hj
  rcases hm3 with hm | ⟨rfl,_⟩
  ·subst hm
   cases mx with
   | none=>exact⟨cap,.inl ⟨rfl,rfl⟩,.inl rfl,fun hc=>absurd rfl (hcp hc)⟩
   | some z =>
    simp only[Option.map_some,Jo] at hrm
    split at hrm<;>cases hrm
  ·cases mx with
   | none=>exact⟨cap,.inl ⟨rfl,rfl⟩,.inl rfl,fun hc=>absurd (by simpa [Jo] using hrm.symm) (hcp hc)⟩
   | some z =>
    simp only[Option.map_some,Jo] at hrm
    split at hrm
    ·rename_i k3 n3 e3
     cases hrm
     rcases hj with⟨hj,_⟩|hj
     ·cases hj
     ·cases hj
      obtain⟨e,_⟩:=Gf e3 (Bo h z (hmx z rfl))
      rcases Gc h hhi hrj (d:=d) (n:=q) (.inr rfl) with⟨hn,_⟩|hb
      ·cases hi with
       | none=>simp only[Option.map_none,Jo] at hrj;cases hrj
       | some _=>cases hn
      ·exact⟨q,.inr ⟨⟨k3,by simp[e]⟩,hb,rfl⟩,.inr rfl,fun _=>rfl⟩
    ·cases hrm
 have none_m:(∀ t,K.G.ty T≠some (.slice t))→mx=none:=by
  intro hn
  rcases hm3 with hm | ⟨_,t,ht⟩
  ·subst hm
   cases mx with
   | none=>rfl
   | some z =>
    simp only[Option.map_some,Jo] at hrm
    split at hrm<;>cases hrm
  ·exact absurd ht (hn t)
 have run_s:∀ (t:Ty) (ad:Option Addr) (len cap p q M:Nat),T1 K.P (.slice t) T=true→bnd (lo.map a.eval) 0 p→bnd (hi.map a.eval) len q→Cot (mx.map a.eval) (hi.map a.eval) cap q M→p≤q→q≤cap →
   (Instr.sliceAt T (.slice ad len cap) (lo.map a.eval) (hi.map a.eval) (mx.map a.eval)).run K.P w=.ok (.slice (if M=p then ad else ad.map (·.add (p*t.size))) (q-p) (M-p)) w:=by
  intro t ad len cap p q M ht b1 b2 b3 h1 h2
  obtain⟨e,k1,k2⟩:=Hy ht
  have hs:=Lu w k2
  have hb:=Bx6 (P:=K.P) w true b1 b2 h1 h2 b3
  simp[Instr.sliceAt,run_underlying k1,Instr.slice,hb,hs]
 unfold Bu8 at hl
 split at hl
 ·rename_i fr t x' t' heq hG
  rw[heq] at hv
  cases hc:Ty.beq t t' with
  | false=>rw[hc] at hl;exact hl.elim
  | true =>
   rw[hc] at hl
   have e:=Ty.beq_iff.1 hc
   subst e
   simp only[cond_true] at hl
   obtain⟨p,q,c1,c2,c3,c4,c5⟩:=Anf hl
   have hd:=Bbx (t:=.slice t) rfl hv
   obtain⟨ad,cap,d1,d2,d3,d4,rows,d5,d6⟩:=hd
   have d1:a.eval x=.slice ad (List.length x') cap:=by simpa using d1
   have hd:DR _ _ (.slice t) [a.eval x] x':=Bbx (t:=.slice t) rfl hv
   rw[d1] at hd
   obtain⟨M,m1,m2,m3⟩:=bnd_m _ q cap c4
   refine fin _ _ _ d1 (run_s t ad _ cap p q M (hT _ _ hG) (Gc h hlo hri c3) (Gc h hhi hrj c4) m1 c1 (by omega)) ?_ c5.1
   exact Dh (a:=.d fr (.slice t) _) (DR.cut hd c1 c2 (by omega) (by omega)) rfl rfl
 ·rename_i fr x' heq hG
  rw[heq] at hv
  obtain⟨p,q,c1,c2,c3,c4,c5⟩:=Anf hl
  obtain rfl:=none_m fun t ht=>by rw[hG] at ht;cases ht
  obtain⟨s,d1,d2,d3⟩:=Bbx (t:=.str) rfl hv
  have d1:a.eval x=.string s:=by simpa using d1
  have hlen:List.length x'=s.size:=by rw[d2,List.length_map];rfl
  have hb:=Av3 (P:=K.P) w false (len:=s.size) (cap:=s.size) (Gc h hlo hri c3) (Gc h hhi hrj (by rw[← hlen];exact c4)) c1 (by omega)
  refine fin _ (.string (s.extract p q)) _ d1 ?_ ?_ c5.1
  ·simp[Instr.sliceAt,run_underlying (Ai9 (hT _ _ hG)),Instr.slice,hb]
  ·refine Dh (a:=.d true .str _) ⟨s.extract p q,rfl,?_,?_⟩ rfl rfl
   ·rw[d2,ByteArray.data_extract,Array.toList_extract,List.extract_eq_take_drop,List.map_take,List.map_drop]
   ·have:(s.extract p q).size≤s.size:=by
     show (s.extract p q).data.size≤s.data.size
     rw[ByteArray.data_extract,Array.size_extract];omega
    omega
 ·rename_i id ver t' heq hG
  rw[heq] at hv
  obtain⟨hu,hna,hval⟩:=Arc hv
  obtain⟨ob,hob,hl⟩:=hl
  have key:∀ fr t rows,(ob=.sli ver fr t rows∨ob=.frz ver fr t rows)→t=t'→Ba K.C S.objs (Bjf (List.length rows) i j fun a b=>.done (.view id ver a b cp,[])) [id] (v,u) l→Pt K S used γ a w o v u base:=by
   intro fr t rows hcase ht hk
   subst ht
   have ho':An S.objs id=some (.sli ver fr t rows)∨An S.objs id=some (.frz ver fr t rows):=by rcases hcase with rfl|rfl<;>simp[hob]
   obtain⟨p,q,c1,c2,c3,c4,c5⟩:=Anf hk
   obtain⟨ad,cap,k1,k2,k3,k4⟩:=Bay h ho'
   have e:a.eval x=γ id:=hval t _ (Ft _ ver fr t rows ho')
   obtain⟨M,m1,m2,m3⟩:=bnd_m _ q cap c4
   refine fin _ _ _ (e.trans k1) (run_s t ad _ cap p q M (hT _ _ hG) (Gc h hlo hri c3) (Gc h hhi hrj c4) m1 c1 (by omega)) ?_ c5.1
   refine Dh (a:=.view id ver p q cp) ⟨hu,_,rfl,rfl,fun t' n' hs=>?_⟩ rfl rfl
   obtain⟨rfl,rfl⟩:=Beh (Ft _ ver fr t rows ho') hs
   refine⟨c1,c2,_,_,rfl,by omega,by omega,fun hn=>?_,fun hlt=>?_,fun hc=>by have:=m3 hc;omega⟩
   ·by_cases hc:M=p
    ·omega
    ·rw[if_neg hc] at hn
     cases ad with
     | none=>have:=k4 rfl;omega
     | some _=>cases hn
   ·have hne:rows≠[]:=by rintro rfl;simp at c2;omega
    obtain⟨g,cp,cs,s1,_⟩:=Ayw h ho' hne
    refine⟨g,_,cp,s1,?_⟩
    rw[k1] at s1
    cases s1
    rw[if_neg (by omega)]
    simp[Ch]
  dsimp only at hl
  split at hl
  ·rename_i ver' fr t rows
   cases hc:(Nat.beq ver' ver&&Ty.beq t t') with
   | false=>rw[hc] at hl;exact hl.elim
   | true =>
    rw[hc] at hl
    simp only[Bool.and_eq_true,Nat.beq_eq] at hc
    obtain⟨rfl,h2⟩:=hc
    exact key fr t rows (.inl rfl) (Ty.beq_iff.1 h2) hl
  ·rename_i ver' fr t rows
   cases hc:(Nat.beq ver' ver&&Ty.beq t t') with
   | false=>rw[hc] at hl;exact hl.elim
   | true =>
    rw[hc] at hl
    simp only[Bool.and_eq_true,Nat.beq_eq] at hc
    obtain⟨rfl,h2⟩:=hc
    exact key fr t rows (.inr rfl) (Ty.beq_iff.1 h2) hl
  ·exact hl.elim
 ·rename_i id path n t heq hG
  rw[heq] at hv
  cases hc:Nat.ble n 9223372036854775807 with
  | false=>rw[hc] at hl;exact hl.elim
  | true =>
   rw[hc] at hl
   have hnm:n≤maxLen:=by have:=Nat.le_of_ble_eq_true hc;simp only[maxLen];omega
   obtain⟨g,off,l1,e1,e2,e3⟩:=Bni h hv (q:=[]) hl (Bfu _) ⟨_,Aow _⟩
   obtain⟨p,q,c1,c2,c3,c4,c5⟩:=Anf e2
   obtain⟨e,k1,k2⟩:=Aez (hT _ _ hG)
   obtain rfl:=none_m fun t ht=>by rw[hG] at ht;cases ht
   have hs:=Lu w k2
   have hb:=Av3 (P:=K.P) w false (Gc h hlo hri c3) (Gc h hhi hrj c4) c1 c2
   refine fin _ (.slice (some (if n=p then ⟨g,off,none⟩ else (⟨g,off,none⟩:Addr).add (p*t.size))) (q-p) (n-p)) _ e1 ?_ ?_ c5.1
   ·simp[Instr.sliceAt,run_underlying k1,Instr.sureAddr,hb,hs]
   ·obtain⟨hu,hp⟩:=Aij hv
    obtain⟨hu',hp'⟩:=Aij e3
    refine Dh (a:=.mview id path p q) ⟨hu,_,rfl,rfl,fun t' ht'=>?_⟩ rfl rfl
    obtain⟨g',u',q1,q2,q3,q4⟩:=hp t' ht'
    rw[e1] at q4
    obtain⟨rfl,rfl⟩:g=g'∧off=By t' path:=by cases q4;exact⟨rfl,rfl⟩
    have hu2:u'=.arr n t:=by
     obtain⟨ob,hob,hl⟩:=hl
     obtain⟨fr2,c2,h2⟩:=ht'
     have h2:An S.objs id=some (.mem fr2 t' c2)∨An S.objs id=some (.mfz fr2 t' c2):=h2
     dsimp only at hl
     rcases h2 with h2|h2
     all_goals
      rw[h2] at hob
      cases hob
      dsimp only at hl
      rw[q2] at hl
      dsimp only at hl
      cases hb2:Ty.beq u' (.arr n t) with
      | false=>rw[hb2] at hl;exact hl.elim
      | true=>exact Ty.beq_iff.1 hb2
    subst hu2
    refine⟨g,n,t,q1,q2,q3,c1,c2,_,_,rfl,by omega,by omega,fun hlt=>?_⟩
    rw[if_neg (by omega),Ch]
 ·rename_i id ver x0 y0 _ t' heq hG
  rw[heq] at hv
  obtain⟨hu,hp⟩:=Bm2 hv
  obtain⟨ob,hob,hl⟩:=hl
  have key:∀ fr t rows,(ob=.sli ver fr t rows∨ob=.frz ver fr t rows)→t=t'→Ba K.C S.objs (Bjf (y0-x0) i j fun a b=>.done (.view id ver (x0+a) (x0+b) cp,[])) [id] (v,u) l→Pt K S used γ a w o v u base:=by
   intro fr t rows hcase ht hk
   subst ht
   have ho':An S.objs id=some (.sli ver fr t rows)∨An S.objs id=some (.frz ver fr t rows):=by rcases hcase with rfl|rfl<;>simp[hob]
   obtain⟨p,q,c1,c2,c3,c4,c5⟩:=Anf hk
   obtain⟨v1,v2,ad,cap,v3,v4,v5,v6,v7,_⟩:=hp t _ (Ft _ ver fr t rows ho')
   obtain⟨M,m1,m2,m3⟩:=bnd_m _ q cap c4
   refine fin _ _ _ v3 (run_s t ad _ cap p q M (hT _ _ hG) (Gc h hlo hri c3) (Gc h hhi hrj c4) m1 c1 (by omega)) ?_ c5.1
   refine Dh (a:=.view id ver (x0+p) (x0+q) cp) ⟨hu,_,rfl,rfl,fun t' n' hs=>?_⟩ rfl rfl
   obtain⟨rfl,rfl⟩:=Beh (Ft _ ver fr t rows ho') hs
   refine⟨by omega,by omega,_,_,by rw[show x0+q-(x0+p)=q-p by omega],by omega,by omega,fun hn=>?_,fun hlt=>?_,fun hc=>by have:=m3 hc;omega⟩
   ·by_cases hc:M=p
    ·omega
    ·rw[if_neg hc] at hn
     cases ad with
     | none=>have:=v6 rfl;omega
     | some _=>cases hn
   ·obtain⟨g,m',cp,s1,s2⟩:=v7 (by omega)
    refine⟨g,m',cp,s1,?_⟩
    subst s2
    rw[if_neg (by omega)]
    simp only[Option.map_some,Ch,Nat.add_mul]
  dsimp only at hl
  split at hl
  ·rename_i ver' fr t rows
   cases hc:(Nat.beq ver' ver&&Ty.beq t t') with
   | false=>rw[hc] at hl;exact hl.elim
   | true =>
    rw[hc] at hl
    simp only[Bool.and_eq_true,Nat.beq_eq] at hc
    obtain⟨rfl,h2⟩:=hc
    exact key fr t rows (.inl rfl) (Ty.beq_iff.1 h2) hl
  ·rename_i ver' fr t rows
   cases hc:(Nat.beq ver' ver&&Ty.beq t t') with
   | false=>rw[hc] at hl;exact hl.elim
   | true =>
    rw[hc] at hl
    simp only[Bool.and_eq_true,Nat.beq_eq] at hc
    obtain⟨rfl,h2⟩:=hc
    exact key fr t rows (.inr rfl) (Ty.beq_iff.1 h2) hl
  ·exact hl.elim
 ·rename_i t' heq hG
  rw[heq] at hv
  have hval:a.eval x=.slice none 0 0:=by
   obtain⟨k1,k2⟩:=(show G7 _ .nils _ from hv)
   rw[Bq k2.symm] at k1
   simpa [ARc] using k1
  obtain⟨p,q,c1,c2,c3,c4,c5⟩:=Anf hl
  obtain⟨M,m1,m2,m3⟩:=bnd_m _ q 0 c4
  obtain rfl:q=0:=by omega
  obtain rfl:p=0:=by omega
  obtain rfl:M=0:=by omega
  have hr:=run_s t' none 0 0 0 0 0 (hT _ _ hG) (Gc h hlo hri c3) (Gc h hhi hrj c4) m1 (Nat.le_refl _) (Nat.le_refl _)
  refine fin _ _ _ hval hr ?_ c5.1
  exact Dh (a:=.nils) rfl rfl rfl
 ·rename_i fr n t x' m t' heq hG
  rw[heq] at hv
  cases hc:((Nat.beq n m&&Ty.beq t t')&&Nat.ble n 9223372036854775807) with
  | false=>rw[hc] at hl;exact hl.elim
  | true =>
   rw[hc] at hl
   simp only[Bool.and_eq_true,Nat.beq_eq] at hc
   obtain⟨⟨rfl,ht⟩,hnm⟩:=hc
   obtain rfl:=Ty.beq_iff.1 ht
   have hnm:n≤maxLen:=by have:=Nat.le_of_ble_eq_true hnm;simp only[maxLen];omega
   simp only[cond_true] at hl
   obtain⟨p,q,c1,c2,c3,c4,c5⟩:=Anf hl
   obtain⟨ad,vs,d1,d2,d3,d4,d5,d6⟩:=As3 hv
   obtain⟨e,k1,k2⟩:=Aez (hT _ _ hG)
   obtain rfl:=none_m fun t ht=>by rw[hG] at ht;cases ht
   have hs:=Lu w k2
   have hb:=Av3 (P:=K.P) w false (Gc h hlo hri c3) (Gc h hhi hrj c4) c1 c2
   have hd:DR (Bi K S.objs used γ w).w ((Bi K S.objs used γ w).ok fr) (.slice t) [.slice (some ad) (List.length x') n] x':=by
    refine⟨some ad,n,rfl,by omega,hnm,(by intro hn;cases hn),vs,d6,fun hne=>⟨ad,rfl,d3 ?_,d4⟩⟩
    have hl2:=B5.length d6
    rw[d5] at hl2
    have:vs.length≠0:=by simpa using hne
    simp only[Ty.size]
    omega
   refine fin _ (.slice (if n=p then some ad else (some ad).map (·.add (p*t.size))) (q-p) (n-p)) _ d1 ?_ ?_ c5.1
   ·by_cases hnp:n=p
    ·simp[Instr.sliceAt,run_underlying k1,Instr.sureAddr,hb,hs]
     rw[if_pos hnp,if_pos hnp]
    ·simp[Instr.sliceAt,run_underlying k1,Instr.sureAddr,hb,hs]
     rw[if_neg hnp,if_neg hnp]
   ·exact Dh (a:=.d fr (.slice t) _) (DR.cut hd c1 (by omega) (by omega) (by omega)) rfl rfl
 ·exact hl.elim
end
end Go.Pon
namespace Go.Pon
open Go
theorem Bwg{α:Type}{e:α→α→Bool}:∀ {l m:List α},(∀ a∈l,∀ b,e a b=true↔a=b)→(eqL e l m=true↔l=m)
 | [],[],_=>by simp[eqL]
 | [],_::_,_=>by simp[eqL]
 | _::_,[],_=>by simp[eqL]
 | a::l,b::m,h=>by
  simp only[eqL,Bool.and_eq_true,List.cons.injEq]
  rw[h a (by simp),Bwg fun a ha=>h a (by simp[ha])]
theorem Aco:∀ {t:Ty} {x y:t.den},eqD t x y=true↔x=y
 | .unit,x,y=>by simp[eqD]
 | .pair a b,x,y=>by
  simp only[eqD,Bool.and_eq_true,Aco (t:=a),Aco (t:=b)]
  exact Prod.ext_iff.symm
 | .int _,x,y=>by simp[eqD]
 | .bool,x,y=>by simp[eqD]
 | .str,x,y=>by simp[eqD]
 | .arr _ t,x,y=>Bwg fun a _ b=>Aco (t:=t)
 | .slice t,x,y=>Bwg fun a _ b=>Aco (t:=t)
 | .ptr,x,y=>by simp[eqD]
section
variable {P:Program} {w:World}
theorem Ana{T:TypeId}{t:Ty}(h:T1 P t T=true){xs:Array Value}{off:Nat}{c:List Value}(hc:(xs.toList.drop off).take t.size=c)(hl:c.length=t.size)(h1:t.agg=false→∀ v∈c,C7 v=false) :
  ∃ v,(part T xs off).run P w=.ok v w∧v.cells.toList=c∧C7 v=t.agg:=by
 cases hg:t.agg with
 | true =>
  refine⟨.agg (xs.extract off (off+t.size)),?_,?_,rfl⟩
  ·simp[part,Bcr w h,hg,Lu w h]
  ·show (xs.extract off (off+t.size)).toList=c
   rw[Array.toList_extract,List.extract_eq_take_drop,← hc]
   congr 1;omega
 | false =>
  rw[Np hg] at hc hl
  obtain⟨v,rfl⟩:∃ v,c=[v]:=by
   cases c with
   | nil=>simp at hl
   | cons v r=>cases r with
    | nil=>exact⟨v,rfl⟩
    | cons _ _=>simp at hl
  have hv:xs[off]?=some v:=by
   have h2:((xs.toList.drop off).take 1)[0]?=some v:=by rw[hc];rfl
   rw[List.getElem?_take] at h2
   simpa using h2
  have hna:=h1 hg v (by simp)
  exact⟨v,by simp[part,Bcr w h,hg,hv],Bq hna,hna⟩
theorem Yt{v:Value}(h:v.oneCell'=true):C7 v=false:=by cases v<;>simp_all [Value.oneCell',C7]
theorem Ck2{s s':ByteArray}:(s.data.toList.map (fun b=>(b.toNat:Int)))=s'.data.toList.map (fun b=>(b.toNat:Int))↔s=s':=by
 constructor
 ·intro h
  have:s.data.toList=s'.data.toList:=by
   refine List.map_inj_right (fun a b hab=>?_) |>.1 h
   have:a.toNat=b.toNat:=by omega
   exact UInt8.toNat_inj.1 this
  cases s with|mk s=>cases s' with|mk s' =>
  congr 1
  exact Array.toList_inj.1 this
 ·rintro rfl;rfl
def VD(w:World)(ok:Nat→Prop)(t:Ty)(v:Value)(x:t.den):Prop:=DR w ok t v.cells.toList x∧C7 v=t.agg
theorem Bl9{ok:Nat→Prop}:∀ (t:Ty),t.flat=true →
  (∀ (T:TypeId) (d:Nat) (vx vy:Value) (x y:t.den),T1 P t T=true→t.dep≤d→VD w ok t vx x→VD w ok t vy y→(Op.equalIn (d+1) T vx vy).run P w=.ok (eqD t x y) w) ∧
  (∀ (fs:List Field) (off d:Nat) (xs ys:Array Value) (x y:t.den),Ef P t off fs=true→t.dep≤d+1→DR w ok t (xs.toList.drop off) x→DR w ok t (ys.toList.drop off) y →
   (Op.eqFields (d+1) xs ys fs).run P w=.ok (eqD t x y) w)
 | .unit,_=>by
  have hf:∀ (fs:List Field) (off d:Nat) (xs ys:Array Value) (x y:Unit),Ef P .unit off fs=true→(Op.eqFields (d+1) xs ys fs).run P w=.ok true w:=by
   intro fs off d xs ys x y h
   rw[Ae2 h];rfl
  refine⟨fun T d vx vy x y h hd hx hy=>?_,fun fs off d xs ys x y h _ _ _=>hf fs off d xs ys x y h⟩
  obtain⟨fs,h1,h2,h3⟩:=Atz h
  have hfo:P.fieldsOf T=fs:=by simp[Program.fieldsOf,h1]
  have hxa:=hx.2
  have hya:=hy.2
  cases vx<;>simp[C7,Ty.agg] at hxa
  cases vy<;>simp[C7,Ty.agg] at hya
  rename_i xs ys
  rw[run_equalIn_struct w d T xs ys (by rw[hfo];exact h1) h3,hfo,Ae2 h2]
  rfl
 | .pair a b,hfl=>by
  simp only[Ty.flat,Bool.and_eq_true] at hfl
  obtain⟨ia1,ia2⟩:=Bl9 (ok:=ok) a hfl.1
  obtain⟨ib1,ib2⟩:=Bl9 (ok:=ok) b hfl.2
  have hf:∀ (fs:List Field) (off d:Nat) (xs ys:Array Value) (x y:(Ty.pair a b).den),Ef P (.pair a b) off fs=true→(Ty.pair a b).dep≤d+1→DR w ok (.pair a b) (xs.toList.drop off) x→DR w ok (.pair a b) (ys.toList.drop off) y →
   (Op.eqFields (d+1) xs ys fs).run P w=.ok (eqD (.pair a b) x y) w:=by
   intro fs off d xs ys x y h hd hx hy
   obtain⟨f,r,rfl,h1,h2,h3,h4,h5⟩:=Z0 h
   simp only[Ty.dep] at hd
   obtain⟨vx,p1,p2,p3⟩:=Ana (w:=w) h2 (xs:=xs) (off:=off) rfl (DR.len hx.1) (fun hg v hv=>Yt (DR.one hx.1 v hv))
   obtain⟨vy,q1,q2,q3⟩:=Ana (w:=w) h2 (xs:=ys) (off:=off) rfl (DR.len hy.1) (fun hg v hv=>Yt (DR.one hy.1 v hv))
   have e:=ia1 f.type d vx vy x.1 y.1 h2 (by omega) ⟨by rw[p2];exact hx.1,p3⟩ ⟨by rw[q2];exact hy.1,q3⟩
   have hx2:=hx.2
   have hy2:=hy.2
   rw[List.drop_drop] at hx2 hy2
   have e2:=ib2 r (off+a.size) d xs ys x.2 y.2 h5 (by omega) hx2 hy2
   simp only[Op.eqFields,h4,ne_eq,not_false_eq_true,if_true,Sem.run_bind,h1,p1,q1,e,Result.andThen_ok,Sem.run_ite]
   cases hq:eqD a x.1 y.1
   ·simp[eqD,hq]
   ·simp[eqD,hq,e2]
  refine⟨fun T d vx vy x y h hd hx hy=>?_,hf⟩
  obtain⟨fs,h1,h2,h3⟩:=An7 h
  have hfo:P.fieldsOf T=fs:=by simp[Program.fieldsOf,h1]
  cases vx<;>simp[VD,C7,Ty.agg] at hx
  cases vy<;>simp[VD,C7,Ty.agg] at hy
  rename_i xs ys
  rw[run_equalIn_struct w d T xs ys (by rw[hfo];exact h1) h3,hfo]
  have hd1:1≤d:=by simp only[Ty.dep] at hd;omega
  obtain⟨d',rfl⟩:∃ d',d=d'+1:=⟨d-1,by omega⟩
  exact hf fs.toList 0 d' xs ys x y h2 hd (by simpa [Value.cells] using hx) (by simpa [Value.cells] using hy)
 | .int k,_=>⟨fun T d vx vy x y h hd hx hy=>by
   have ex:vx=.int k x:=by have:=hx.1;rw[Bq hx.2] at this;simpa using this.1
   have ey:vy=.int k y:=by have:=hy.1;rw[Bq hy.2] at this;simpa using this.1
   rw[ex,ey,run_equalIn_int w d T k k x y (Ael h)]
   simp[eqD,Bl3],fun fs off d xs ys x y h=>by simp[Ef,tyC] at h⟩
 | .bool,_=>⟨fun T d vx vy x y h hd hx hy=>by
   have ex:vx=.bool x:=by have:=hx.1;rw[Bq hx.2] at this;simpa using (show [vx]=[_] from this)
   have ey:vy=.bool y:=by have:=hy.1;rw[Bq hy.2] at this;simpa using (show [vy]=[_] from this)
   rw[ex,ey,run_equalIn_bool' w d T x y (Ax8 h)]
   rfl,fun fs off d xs ys x y h=>by simp[Ef,tyC] at h⟩
 | .str,_=>⟨fun T d vx vy x y h hd hx hy=>by
   have h1:=hx.1;rw[Bq hx.2] at h1
   have h2:=hy.1;rw[Bq hy.2] at h2
   obtain⟨s,e1,e2,_⟩:=h1
   obtain⟨s',f1,f2,_⟩:=h2
   have e1:vx=.string s:=by simpa using e1
   have f1:vy=.string s':=by simpa using f1
   rw[e1,f1]
   rw[run_equalIn_string w d T s s' (Ai9 h)]
   congr 1
   rw[Bool.eq_iff_iff,Aco,beq_iff_eq,e2,f2,Ck2,ByteArray.toList_eq,ByteArray.toList_eq]
   constructor
   ·intro h
    cases s with|mk s=>cases s' with|mk s' =>
    congr 1
    exact Array.toList_inj.1 h
   ·rintro rfl;rfl,fun fs off d xs ys x y h=>by simp[Ef,tyC] at h⟩
 | .arr n t,hfl=>⟨fun T d vx vy x y h hd hx hy=>by
   obtain⟨e,h1,h2⟩:=Aez h
   obtain⟨it,_⟩:=Bl9 (ok:=ok) t hfl
   obtain⟨i,z,i1,i2,_⟩:=Kz (Tn h2)
   simp only[Ty.dep] at hd
   obtain⟨d',rfl⟩:∃ d',d=d'+1:=⟨d-1,by omega⟩
   obtain⟨hxd,hxa⟩:=hx
   obtain⟨hyd,hya⟩:=hy
   cases vx<;>simp[C7,Ty.agg] at hxa
   cases vy<;>simp[C7,Ty.agg] at hya
   rename_i xs ys
   have hco:P.cellsOf e=t.size:=by simp[Program.cellsOf,i1,i2]
   rw[run_equalIn_array w (d'+1) xs ys h1 i1,hco]
   obtain⟨lx,rx⟩:=hxd
   obtain⟨ly,ry⟩:=hyd
   have key:∀ (m:Nat) (x y:List t.den) (k:Nat),List.length x=m→List.length y=m→B5 (DR w ok t) t.size (xs.toList.drop (k*t.size)) x→B5 (DR w ok t) t.size (ys.toList.drop (k*t.size)) y →
     (Op.eqItems (d'+1) e t.size xs ys (List.range' k m)).run P w=.ok (eqL (eqD t) x y) w:=by
    intro m
    induction m with
    | zero=>intro x y k hx hy _ _;rw[List.eq_nil_of_length_eq_zero hx,List.eq_nil_of_length_eq_zero hy];simp[Op.eqItems,eqL]
    | succ m ih =>
     intro x y k hx hy rx ry
     cases x with
     | nil=>simp at hx
     | cons x0 x =>
      cases y with
      | nil=>simp at hy
      | cons y0 y =>
       obtain⟨a1,a2,a3⟩:=rx
       obtain⟨b1,b2,b3⟩:=ry
       obtain⟨vx,p1,p2,p3⟩:=Ana (w:=w) h2 (xs:=xs) (off:=k*t.size) rfl (DR.len a2) (fun hg v hv=>Yt (DR.one a2 v hv))
       obtain⟨vy,q1,q2,q3⟩:=Ana (w:=w) h2 (xs:=ys) (off:=k*t.size) rfl (DR.len b2) (fun hg v hv=>Yt (DR.one b2 v hv))
       have e1:=it e d' vx vy x0 y0 h2 (by omega) ⟨by rw[p2];exact a2,p3⟩ ⟨by rw[q2];exact b2,q3⟩
       rw[List.drop_drop,show k*t.size+t.size=(k+1)*t.size by simp[Nat.add_mul]] at a3 b3
       have e2:=ih x y (k+1) (by simpa using hx) (by simpa using hy) a3 b3
       simp only[List.range'_succ,Op.eqItems,Sem.run_bind,p1,q1,e1,Result.andThen_ok,Sem.run_ite]
       cases hq:eqD t x0 y0
       ·simp[eqL,hq]
       ·simp[eqL,hq,e2]
   rw[List.range_eq_range']
   exact key n x y 0 lx ly (by simpa [Value.cells] using rx) (by simpa [Value.cells] using ry),fun fs off d xs ys x y h=>by simp[Ef,tyC] at h⟩
 | .ptr,_=>⟨fun T d vx vy x y h hd hx hy=>by
   obtain⟨e,h1⟩:=Ap2 h
   have ex:vx=.pointer none:=by have:=hx.1;rw[Bq hx.2] at this;simpa using (show [vx]=[_] from this)
   have ey:vy=.pointer none:=by have:=hy.1;rw[Bq hy.2] at this;simpa using (show [vy]=[_] from this)
   rw[ex,ey]
   simp[Op.equalIn,run_underlying h1,eqD],fun fs off d xs ys x y h=>by simp[Ef,tyC] at h⟩
end
end Go.Pon
namespace Go.Pon
open Go
section
variable {P:Program} {w:World}
theorem Ap4:∀ (t:Ty),(∀ (T:TypeId) (d:Nat),T1 P t T=true→t.dep≤d→P.eqGuardType d T=false) ∧
  (∀ (fs:List Field) (off d:Nat),Ef P t off fs=true→t.dep≤d+1→(fs.any fun f=>f.name != "_"&&P.eqGuardType d f.type)=false)
 | .unit=>⟨fun T d h hd=>by
   obtain⟨fs,h1,h2,_⟩:=Atz h
   obtain⟨d',rfl⟩:∃ d',d=d'+1:=⟨d-1,by simp only[Ty.dep] at hd;omega⟩
   have:=Ae2 h2
   have e:fs=#[]:=by cases fs;simp_all
   simp[Program.eqGuardType,h1,e],fun fs off d h _=>by rw[Ae2 h];rfl⟩
 | .pair a b=>by
  obtain⟨ia,_⟩:=Ap4 a
  obtain⟨_,ib⟩:=Ap4 b
  have hf:∀ (fs:List Field) (off d:Nat),Ef P (.pair a b) off fs=true→(Ty.pair a b).dep≤d+1→(fs.any fun f=>f.name != "_"&&P.eqGuardType d f.type)=false:=by
   intro fs off d h hd
   obtain⟨f,r,rfl,h1,h2,h3,h4,h5⟩:=Z0 h
   simp only[Ty.dep] at hd
   rw[List.any_cons,ia f.type d h2 (by omega),ib r _ d h5 (by omega)]
   simp
  refine⟨fun T d h hd=>?_,hf⟩
  obtain⟨fs,h1,h2,_⟩:=An7 h
  obtain⟨d',rfl⟩:∃ d',d=d'+1:=⟨d-1,by simp only[Ty.dep] at hd;omega⟩
  have:=hf fs.toList 0 d' h2 hd
  simp only[Program.eqGuardType,h1]
  rw[← Array.any_toList]
  exact this
 | .int k=>⟨fun T d h hd=>by
   obtain⟨d',rfl⟩:∃ d',d=d'+1:=⟨d-1,by simp only[Ty.dep] at hd;omega⟩
   simp[Program.eqGuardType,Ael h],fun fs off d h=>by simp[Ef,tyC] at h⟩
 | .bool=>⟨fun T d h hd=>by
   obtain⟨d',rfl⟩:∃ d',d=d'+1:=⟨d-1,by simp only[Ty.dep] at hd;omega⟩
   simp[Program.eqGuardType,Ax8 h],fun fs off d h=>by simp[Ef,tyC] at h⟩
 | .str=>⟨fun T d h hd=>by
   obtain⟨d',rfl⟩:∃ d',d=d'+1:=⟨d-1,by simp only[Ty.dep] at hd;omega⟩
   simp[Program.eqGuardType,Ai9 h],fun fs off d h=>by simp[Ef,tyC] at h⟩
 | .arr n t=>⟨fun T d h hd=>by
   obtain⟨it,_⟩:=Ap4 t
   obtain⟨e,h1,h2⟩:=Aez h
   obtain⟨d',rfl⟩:∃ d',d=d'+1:=⟨d-1,by simp only[Ty.dep] at hd;omega⟩
   simp only[Program.eqGuardType,h1]
   exact it e d' h2 (by simp only[Ty.dep] at hd;omega),fun fs off d h=>by simp[Ef,tyC] at h⟩
 | .slice t=>⟨fun T d h hd=>by
   obtain⟨e,h1,h2⟩:=Hy h
   obtain⟨d',rfl⟩:∃ d',d=d'+1:=⟨d-1,by simp only[Ty.dep] at hd;omega⟩
   simp[Program.eqGuardType,h1],fun fs off d h=>by simp[Ef,tyC] at h⟩
 | .ptr=>⟨fun T d h hd=>by
   obtain⟨e,h1⟩:=Ap2 h
   obtain⟨d',rfl⟩:∃ d',d=d'+1:=⟨d-1,by simp only[Ty.dep] at hd;omega⟩
   simp[Program.eqGuardType,h1],fun fs off d h=>by simp[Ef,tyC] at h⟩
theorem Con{ok:Nat→Prop}{t:Ty}{T:TypeId}(hT:T1 P t T=true)(hf:t.flat=true)(hd:t.dep≤50)(hP:64≤P.depth){vx vy:Value}{x y:t.den}(hx:VD w ok t vx x)(hy:VD w ok t vy y)
  (o1 o2:Operand) :
  ((do eqGuard .eql T o1 o2 vx vy;binOp .eql T vx vy:Sem Value).run P w=.ok (.bool (eqD t x y)) w) ∧
  ((do eqGuard .neq T o1 o2 vx vy;binOp .neq T vx vy:Sem Value).run P w=.ok (.bool (!eqD t x y)) w):=by
 have hg:=(Ap4 (P:=P) t).1 T P.depth hT (by omega)
 have he:=(Bl9 (P:=P) (w:=w) (ok:=ok) t hf).1 T 9999 vx vy x y hT (by omega) hx hy
 have hq:(Op.equal T vx vy).run P w=.ok (eqD t x y) w:=he
 have agg:∀ xs ys,vx=.agg xs→vy=.agg ys →
   ((do eqGuard .eql T o1 o2 vx vy;binOp .eql T vx vy:Sem Value).run P w=.ok (.bool (eqD t x y)) w) ∧
   ((do eqGuard .neq T o1 o2 vx vy;binOp .neq T vx vy:Sem Value).run P w=.ok (.bool (!eqD t x y)) w):=by
  rintro xs ys rfl rfl
  refine⟨?_,?_⟩
  ·rw[Sem.run_bind,run_eqGuard_agg w _ T o1 o2 xs ys hg,Result.andThen_ok,run_eql_struct,he];rfl
  ·rw[Sem.run_bind,run_eqGuard_agg w _ T o1 o2 xs ys hg,Result.andThen_ok,run_neq_struct,he];rfl
 cases t with
 | unit =>
  have h1:=hx.2;have h2:=hy.2
  cases vx<;>simp[C7,Ty.agg] at h1
  cases vy<;>simp[C7,Ty.agg] at h2
  exact agg _ _ rfl rfl
 | pair a b =>
  have h1:=hx.2;have h2:=hy.2
  cases vx<;>simp[C7,Ty.agg] at h1
  cases vy<;>simp[C7,Ty.agg] at h2
  exact agg _ _ rfl rfl
 | arr n t =>
  have h1:=hx.2;have h2:=hy.2
  cases vx<;>simp[C7,Ty.agg] at h1
  cases vy<;>simp[C7,Ty.agg] at h2
  exact agg _ _ rfl rfl
 | int k =>
  have ex:vx=.int k x:=by have:=hx.1;rw[Bq hx.2] at this;simpa using this.1
  have ey:vy=.int k y:=by have:=hy.1;rw[Bq hy.2] at this;simpa using this.1
  subst ex ey
  refine⟨?_,?_⟩<;>simp[eqGuard,binOp,Op.intCmp,eqD,bne,Bl3]
 | bool =>
  have ex:vx=.bool x:=by have:=hx.1;rw[Bq hx.2] at this;simpa using (show [vx]=[_] from this)
  have ey:vy=.bool y:=by have:=hy.1;rw[Bq hy.2] at this;simpa using (show [vy]=[_] from this)
  subst ex ey
  refine⟨?_,?_⟩<;>simp[eqGuard,binOp,hq]
 | str =>
  have h1:=hx.1;rw[Bq hx.2] at h1
  have h2:=hy.1;rw[Bq hy.2] at h2
  obtain⟨s,e1,e2,_⟩:=h1
  obtain⟨s',f1,f2,_⟩:=h2
  have e1:vx=.string s:=by simpa using e1
  have f1:vy=.string s':=by simpa using f1
  subst e1 f1
  have hs:(s.toList == s'.toList)=eqD .str x y:=by
   rw[run_equalIn_string w 9999 T s s' (Ai9 hT)] at he
   injection he
  refine⟨?_,?_⟩<;>simp[eqGuard,binOp,Op.stringOp,hs]
 | slice t=>simp[Ty.flat] at hf
 | ptr =>
  have ex:vx=.pointer none:=by have:=hx.1;rw[Bq hx.2] at this;simpa using (show [vx]=[_] from this)
  have ey:vy=.pointer none:=by have:=hy.1;rw[Bq hy.2] at this;simpa using (show [vy]=[_] from this)
  subst ex ey
  refine⟨?_,?_⟩<;>simp[eqGuard,binOp,hq]
end
section
variable {K:Dq} {S:St} {used:Id→Nat→Prop} {γ:Id→Value} {a:Act} {w:World} {o:Oper} {base:Id} {v:AV} {u:Rc} {l:List Id}
theorem Bl4{o:Id→Option Obj}{f g:Bool}(h:g=true→f=true)(b:Nat)(hb:Ah9 K o γ f b):Ah9 K o γ g b:=⟨hb.1,hb.2.1,fun hg=>hb.2.2 (h hg)⟩
theorem Bnb:∀ (x:AV) (t:Ty) (f:Bool) (y:t.den) (cs:List Value),asD x t=some (f,y)→ARc (Bi K S.objs used γ w) x cs→DR w (Ah9 K (An S.objs) γ f) t cs y
 | .d fr u x,t,f,y,cs,h,hr=>by
  simp only[asD,Option.map_eq_some_iff,Prod.mk.injEq] at h
  obtain⟨z,h1,rfl,rfl⟩:=h
  obtain⟨e,rfl⟩:=Cs h1
  subst e
  exact hr
 | .pair p q,t,f,y,cs,h,⟨c1,c2,h1,h2,h3⟩=>by
  cases t<;>simp only[asD,reduceCtorEq] at h
  rename_i t u
  split at h
  ·rename_i f1 x1 f2 x2 e1 e2
   cases h
   have k1:=(Bnb p t f1 x1 c1 e1 h2).mono (ok':=Ah9 K (An S.objs) γ (f1&&f2)) (fun b hb=>Bl4 (by simp;intro h _;exact h) b hb)
   have k2:=(Bnb q u f2 x2 c2 e2 h3).mono (ok':=Ah9 K (An S.objs) γ (f1&&f2)) (fun b hb=>Bl4 (by simp) b hb)
   have l1:=DR.len k1
   subst h1
   refine⟨?_,?_⟩
   ·rw[List.take_append_of_le_length (by omega),List.take_of_length_le (by omega)];exact k1
   ·rw[List.drop_append_of_le_length (by omega),List.drop_eq_nil_of_le (by omega)];exact k2
  ·cases h
 | .nils,t,f,y,cs,h,hr=>by
  cases t<;>simp only[asD,reduceCtorEq] at h
  cases h
  exact⟨none,0,hr,Nat.le_refl _,Nat.zero_le _,fun _=>rfl,[],rfl,fun h=>absurd rfl h⟩
 | .nilp,t,f,y,cs,h,hr=>by
  cases t<;>simp only[asD,reduceCtorEq] at h
  cases h
  exact hr
theorem Clx:∀ (x:AV) (t:Ty) (f:Bool) (y:t.den),asD x t=some (f,y)→Amy x=t.agg
 | .d fr u x,t,f,y,h=>by
  simp only[asD,Option.map_eq_some_iff,Prod.mk.injEq] at h
  obtain⟨z,h1,rfl,rfl⟩:=h
  obtain⟨e,rfl⟩:=Cs h1
  subst e
  rfl
 | .pair p q,t,f,y,h=>by cases t<;>simp only[asD,reduceCtorEq] at h;rfl
 | .nils,t,f,y,h=>by cases t<;>simp only[asD,reduceCtorEq] at h;rfl
 | .nilp,t,f,y,h=>by cases t<;>simp only[asD,reduceCtorEq] at h;rfl
theorem Am7{G:Ctx}{T:TypeId}{t:Ty}(h:Bje (G.ty T) t=true):G.ty T=some t:=by
 cases hg:G.ty T with
 | none=>rw[hg] at h;cases h
 | some u=>rw[hg] at h;rw[Ty.beq_iff.1 h]
theorem Ch6{E:Vv}{x:AV}{val:Value}(hn:x≠.any)(hu:x≠.un)(ht:∀ y,x≠.tup y)(hv:E7 E x val):G7 E x val:=by
 cases x with
 | any=>exact absurd rfl hn
 | un=>exact absurd rfl hu
 | tup y=>exact absurd rfl (ht y)
 | _=>exact hv
theorem Aww{P:Program}{w:World}{T e:TypeId}(he:P.underlying T=some (.pointer e))(d:Nat)(p:Option Addr) :
  (Op.equalIn (d+1) T (.pointer none) (.pointer p)).run P w=.ok p.isNone w∧(Op.equalIn (d+1) T (.pointer p) (.pointer none)).run P w=.ok p.isNone w:=by
 cases p<;>simp[Op.equalIn,run_underlying he]
theorem Qt{P:Program}{w:World}{T e:TypeId}(he:P.underlying T=some (.pointer e))(p:Option Addr)(o1 o2:Operand) :
  (((do eqGuard .eql T o1 o2 (.pointer none) (.pointer p);binOp .eql T (.pointer none) (.pointer p):Sem Value).run P w=.ok (.bool p.isNone) w) ∧
  ((do eqGuard .neq T o1 o2 (.pointer none) (.pointer p);binOp .neq T (.pointer none) (.pointer p):Sem Value).run P w=.ok (.bool (!p.isNone)) w)) ∧
  (((do eqGuard .eql T o1 o2 (.pointer p) (.pointer none);binOp .eql T (.pointer p) (.pointer none):Sem Value).run P w=.ok (.bool p.isNone) w) ∧
  ((do eqGuard .neq T o1 o2 (.pointer p) (.pointer none);binOp .neq T (.pointer p) (.pointer none):Sem Value).run P w=.ok (.bool (!p.isNone)) w)):=by
 have h1:(Op.equal T (.pointer none) (.pointer p)).run P w=.ok p.isNone w:=(Aww he 9999 p).1
 have h2:(Op.equal T (.pointer p) (.pointer none)).run P w=.ok p.isNone w:=(Aww he 9999 p).2
 refine⟨⟨?_,?_⟩,?_,?_⟩<;>simp[eqGuard,binOp,h1,h2]
theorem Cep(h:Hi K S used γ a w){T:TypeId}{x y:AV}{vx vy:Value}(hT:∀ T t,K.G.ty T=some t→T1 K.P t T=true)(hP:64≤K.P.depth)
  (hx:E7 (Bi K S.objs used γ w) x vx) (hy:E7 (Bi K S.objs used γ w) y vy) {k:Bool→OpV} {l0:List Id}
  (hl:Ba K.C S.objs (eqK (K.G.ty T) x y k) l0 (v,u) l) (o1 o2:Operand) (hc1:∀ z,o1=.const z→True) (hc:(o1 matches .const _)=true∨(o2 matches .const _)=true∨True) :
  ∃ b l1,Ba K.C S.objs (k b) l1 (v,u) l ∧
   ((do eqGuard .eql T o1 o2 vx vy;binOp .eql T vx vy:Sem Value).run K.P w=.ok (.bool b) w) ∧
   ((do eqGuard .neq T o1 o2 vx vy;binOp .neq T vx vy:Sem Value).run K.P w=.ok (.bool (!b)) w):=by
 unfold eqK at hl
 split at hl
 ·cases hc:Bje (K.G.ty T) .ptr with
  | false=>rw[hc] at hl;exact hl.elim
  | true =>
   rw[hc] at hl
   obtain⟨e,he⟩:=Ap2 (hT T _ (Am7 hc))
   have ex:vx=.pointer none:=by have:=(Rw (x:=.nilp) rfl (by simp) (by simp) (by simp) hx).1;simpa using (show [vx]=[_] from this)
   have ey:vy=.pointer none:=by have:=(Rw (x:=.nilp) rfl (by simp) (by simp) (by simp) hy).1;simpa using (show [vy]=[_] from this)
   subst ex ey
   exact⟨true,_,hl,(Qt he none o1 o2).1.1,(Qt he none o1 o2).1.2⟩
 ·rename_i id p
  cases hc:Bje (K.G.ty T) .ptr with
  | false=>rw[hc] at hl;exact hl.elim
  | true =>
   rw[hc] at hl
   obtain⟨e,he⟩:=Ap2 (hT T _ (Am7 hc))
   obtain⟨_,hp⟩:=Aij hx
   have ey:vy=.pointer none:=by have:=(Rw (x:=.nilp) rfl (by simp) (by simp) (by simp) hy).1;simpa using (show [vy]=[_] from this)
   obtain⟨ob,hob,hl⟩:=hl
   have hm:∃ t,Au6 (An S.objs id) t∧Ba K.C S.objs (k false) (id::l0) (v,u) l:=by
    dsimp only at hl
    split at hl
    ·exact⟨_,⟨_,_,.inl hob⟩,hl⟩
    ·exact⟨_,⟨_,_,.inr hob⟩,hl⟩
    ·exact hl.elim
   obtain⟨t,hm,hl⟩:=hm
   obtain⟨g,u',_,_,_,ex⟩:=hp t hm
   subst ex ey
   exact⟨false,_,hl,(Qt he (some _) o1 o2).2.1,(Qt he (some _) o1 o2).2.2⟩
 ·rename_i id p
  cases hc:Bje (K.G.ty T) .ptr with
  | false=>rw[hc] at hl;exact hl.elim
  | true =>
   rw[hc] at hl
   obtain⟨e,he⟩:=Ap2 (hT T _ (Am7 hc))
   obtain⟨_,hp⟩:=Aij hy
   have ex:vx=.pointer none:=by have:=(Rw (x:=.nilp) rfl (by simp) (by simp) (by simp) hx).1;simpa using (show [vx]=[_] from this)
   obtain⟨ob,hob,hl⟩:=hl
   have hm:∃ t,Au6 (An S.objs id) t∧Ba K.C S.objs (k false) (id::l0) (v,u) l:=by
    dsimp only at hl
    split at hl
    ·exact⟨_,⟨_,_,.inl hob⟩,hl⟩
    ·exact⟨_,⟨_,_,.inr hob⟩,hl⟩
    ·exact hl.elim
   obtain⟨t,hm,hl⟩:=hm
   obtain⟨g,u',_,_,_,ey⟩:=hp t hm
   subst ex ey
   exact⟨false,_,hl,(Qt he (some _) o1 o2).1.1,(Qt he (some _) o1 o2).1.2⟩
 ·cases hc:Bje (K.G.ty T) .ptr with
  | false=>rw[hc] at hl;exact hl.elim
  | true =>
   rw[hc] at hl
   obtain⟨e,he⟩:=Ap2 (hT T _ (Am7 hc))
   obtain⟨_,_,ex,_⟩:=As3 hx
   have ey:vy=.pointer none:=by have:=(Rw (x:=.nilp) rfl (by simp) (by simp) (by simp) hy).1;simpa using (show [vy]=[_] from this)
   subst ex ey
   exact⟨false,_,hl,(Qt he (some _) o1 o2).2.1,(Qt he (some _) o1 o2).2.2⟩
 ·cases hc:Bje (K.G.ty T) .ptr with
  | false=>rw[hc] at hl;exact hl.elim
  | true =>
   rw[hc] at hl
   obtain⟨e,he⟩:=Ap2 (hT T _ (Am7 hc))
   obtain⟨_,_,ey,_⟩:=As3 hy
   have ex:vx=.pointer none:=by have:=(Rw (x:=.nilp) rfl (by simp) (by simp) (by simp) hx).1;simpa using (show [vx]=[_] from this)
   subst ex ey
   exact⟨false,_,hl,(Qt he (some _) o1 o2).1.1,(Qt he (some _) o1 o2).1.2⟩
 ·rename_i fr t x'
  split at hl
  ·rename_i f z hz
   cases hc:(t.flat&&Bje (K.G.ty T) t&&Nat.ble t.dep 50) with
   | false=>rw[hc] at hz;cases hz
   | true =>
    rw[hc] at hz
    simp only[Bool.and_eq_true] at hc
    obtain⟨⟨hf,ht⟩,hd⟩:=hc
    have hx1:G7 (Bi K S.objs used γ w) (.d fr t x') vx:=hx
    have hy1:G7 (Bi K S.objs used γ w) y vy:=by
     refine Ch6 ?_ ?_ ?_ hy
     ·rintro rfl;simp[asD] at hz
     ·rintro rfl;simp[asD] at hz
     ·rintro q rfl;simp[asD] at hz
    have vx':VD w (fun _=>True) t vx x':=⟨DR.flat hf hx1.1,hx1.2.symm⟩
    have vy':VD w (fun _=>True) t vy z:=⟨DR.flat hf (Bnb y t f z _ hz hy1.1),by rw[← hy1.2];exact Clx y t f z hz⟩
    obtain⟨r1,r2⟩:=Con (P:=K.P) (w:=w) (hT T _ (Am7 ht)) hf (Nat.le_of_ble_eq_true hd) hP vx' vy' o1 o2
    exact⟨_,_,hl,r1,r2⟩
  ·exact hl.elim
 ·exact hl.elim
theorem Bx9{E:Vv}{x:AV}{val:Value}(hs:slA x=true)(hv:E7 E x val):∃ a l c,val=.slice a l c∧(Cjq x=true→val=.slice none 0 0)∧(Bt7 x=false→a.isNone=false):=by
 cases x with
 | d fr t y =>
  cases t with
  | slice t =>
   obtain⟨ad,cap,d1,d2,d3,d4,_⟩:=Bbx (t:=.slice t) rfl hv
   refine⟨ad,_,cap,by simpa using d1,(fun h=>by cases h),fun h=>?_⟩
   cases ad with
   | some _=>rfl
   | none =>
    have:=d4 rfl
    simp only[Bt7,decide_eq_false_iff_not] at h
    omega
  | _=>cases hs
 | nils =>
  obtain⟨k1,k2⟩:=(show G7 E .nils val from hv)
  rw[Bq k2.symm] at k1
  have:val=.slice none 0 0:=by simpa [ARc] using k1
  exact⟨none,0,0,this,fun _=>this,fun h=>by cases h⟩
 | _=>cases hs
theorem Ato{P:Program}{w:World}{T e:TypeId}(he:P.underlying T=some (.slice e))(d:Nat)(a:Option Addr)(l c:Nat) :
  (Op.equalIn (d+1) T (.slice none 0 0) (.slice a l c)).run P w=.ok a.isNone w∧(Op.equalIn (d+1) T (.slice a l c) (.slice none 0 0)).run P w=.ok a.isNone w:=by
 cases a<;>simp[Op.equalIn,run_underlying he]
theorem Bjx{P:Program}{w:World}{T e:TypeId}(he:P.underlying T=some (.slice e))(a:Option Addr)(l c:Nat)(o1 o2:Operand) :
  (((do eqGuard .eql T o1 o2 (.slice none 0 0) (.slice a l c);binOp .eql T (.slice none 0 0) (.slice a l c):Sem Value).run P w=.ok (.bool a.isNone) w) ∧
  ((do eqGuard .neq T o1 o2 (.slice none 0 0) (.slice a l c);binOp .neq T (.slice none 0 0) (.slice a l c):Sem Value).run P w=.ok (.bool (!a.isNone)) w)) ∧
  (((do eqGuard .eql T o1 o2 (.slice a l c) (.slice none 0 0);binOp .eql T (.slice a l c) (.slice none 0 0):Sem Value).run P w=.ok (.bool a.isNone) w) ∧
  ((do eqGuard .neq T o1 o2 (.slice a l c) (.slice none 0 0);binOp .neq T (.slice a l c) (.slice none 0 0):Sem Value).run P w=.ok (.bool (!a.isNone)) w)):=by
 have h1:(Op.equal T (.slice none 0 0) (.slice a l c)).run P w=.ok a.isNone w:=(Ato he 9999 a l c).1
 have h2:(Op.equal T (.slice a l c) (.slice none 0 0)).run P w=.ok a.isNone w:=(Ato he 9999 a l c).2
 refine⟨⟨?_,?_⟩,?_,?_⟩<;>simp[eqGuard,binOp,h1,h2]
theorem Bpd(h:Hi K S used γ a w){T:TypeId}{x y:AV}{vx vy:Value}(hT:∀ T t,K.G.ty T=some t→T1 K.P t T=true)(hc:Bi3 (K.G.ty T) x y=true)
  (hx:E7 (Bi K S.objs used γ w) x vx) (hy:E7 (Bi K S.objs used γ w) y vy) (o1 o2:Operand) :
  ∃ b,(Bur x y=false→b=false)∧((do eqGuard .eql T o1 o2 vx vy;binOp .eql T vx vy:Sem Value).run K.P w=.ok (.bool b) w)∧((do eqGuard .neq T o1 o2 vx vy;binOp .neq T vx vy:Sem Value).run K.P w=.ok (.bool (!b)) w):=by
 simp only[Bi3,Bool.and_eq_true,Bool.or_eq_true] at hc
 obtain⟨⟨⟨h1,h2⟩,h3⟩,h4⟩:=hc
 have ht:∃ e,K.P.underlying T=some (.slice e):=by
  unfold Ckb at h1
  split at h1
  ·rename_i t hg
   obtain⟨e,he,_⟩:=Hy (hT T _ hg)
   exact⟨e,he⟩
  ·cases h1
 obtain⟨e,he⟩:=ht
 obtain⟨a1,l1,c1,e1,n1,m1⟩:=Bx9 h2 hx
 obtain⟨a2,l2,c2,e2,n2,m2⟩:=Bx9 h3 hy
 rcases h4 with h4|h4
 ·rw[n1 h4,e2]
  refine⟨_,fun he=>m2 ?_,(Bjx he a2 l2 c2 o1 o2).1⟩
  cases x<;>first|exact he|cases h4
 ·rw[n2 h4,e1]
  refine⟨_,fun he=>m1 ?_,(Bjx he a1 l1 c1 o1 o2).2⟩
  cases y with
  | nils=>cases x<;>first|exact he|cases he
  | _=>cases h4
theorem Cit(E:Vv){e r:Bool}(b:Bool)(h:e=false→b=r):E7 E (.ub e r) (.bool b):=Dh (a:=.ub e r) ⟨b,rfl,h⟩ rfl rfl
theorem Cjl{E:Vv}{P:Program}{w:World}{fx fy:Bool}{x y:List Int}{vx vy:Value}(hx:G7 E (.d fx .str x) vx)(hy:G7 E (.d fy .str y) vy)(hl:List.length x+List.length y≤9223372036854775807)(T:TypeId)(o1 o2:Operand) :
  ∃ val,(do eqGuard .add T o1 o2 vx vy;binOp .add T vx vy:Sem Value).run P w=.ok val w∧E7 E (.d true .str (List.append x y)) val:=by
 obtain⟨x1,x2⟩:=hx
 obtain⟨y1,y2⟩:=hy
 rw[Bq x2.symm] at x1
 rw[Bq y2.symm] at y1
 obtain⟨s,sx,ex,lx⟩:=x1
 obtain⟨r,ry,ey,ly⟩:=y1
 have sx:vx=.string s:=by simpa using sx
 have ry:vy=.string r:=by simpa using ry
 subst sx ry
 have e1:s.size=List.length x:=by rw[ex,List.length_map,Array.length_toList];rfl
 have e2:r.size=List.length y:=by rw[ey,List.length_map,Array.length_toList];rfl
 have hmax:¬ (((s.size+r.size:Nat):Int)>IntKind.i64.max):=by
  simp only[IntKind.max,IntKind.signed,IntKind.bits];simp;omega
 refine⟨.string (s++r),?_,Dh (a:=.d true .str (List.append x y)) ⟨s++r,rfl,?_,?_⟩ rfl rfl⟩
 ·simp[eqGuard,binOp,Op.stringOp]
  omega
 ·rw[ex,ey,ByteArray.data_append]
  simp
 ·have:(s++r).size=s.size+r.size:=ByteArray.size_append
  have hm:maxLen=9223372036854775807:=by decide
  rw[this,e1,e2,hm];omega
theorem Cib(h:Hi K S used γ a w){op:BinOp}{T T':TypeId}{x y:Operand}(ho:o.op=.binOp op T x y T')(hx:A0 x=true)(hy:A0 y=true)
  (hT:∀ T t,K.G.ty T=some t→T1 K.P t T=true) (hP:64≤K.P.depth)
  (hl:Ba K.C S.objs (Cn6 op (K.G.ty T) (S.eval x) (S.eval y)) [] (v,u) l):Pt K S used γ a w o v u base:=by
 have hvx:=Bo h x hx
 have hvy:=Bo h y hy
 have fin:Cma (Bi K S.objs used γ w) v u (do eqGuard op T x y (a.eval x) (a.eval y);binOp op T (a.eval x) (a.eval y)) K.P w→Pt K S used γ a w o v u base:=by
  rintro⟨rfl,val,h1,h2⟩
  exact Pt.pure h (by simp only[execOp,ho,Sem.run_bind] at *;rw[h1];rfl) h2
 unfold Cn6 at hl
 split at hl
 ·rename_i k n k' n' e1 e2
  obtain⟨f1,g1⟩:=Gf e1 hvx
  obtain⟨f2,g2⟩:=Gf e2 hvy
  rw[f1,f2] at fin
  cases hs:Bao op with
  | true =>
   rw[hs] at hl
   obtain⟨u0,val,p1,p2⟩:=Bw4 (Bi K S.objs used γ w) (k':=k') T g1 hs hl (P:=K.P) (w:=w)
   exact fin ⟨u0,val,by rw[Sem.run_bind,Bjm];exact p1,p2⟩
  | false =>
   rw[hs] at hl
   cases hk:kEq k k' with
   | false=>rw[hk] at hl;exact hl.elim
   | true =>
    rw[hk] at hl
    have:=Amq.1 hk
    subst this
    obtain⟨u0,val,p1,p2⟩:=Cbu (Bi K S.objs used γ w) T g1 g2 hs hl (P:=K.P) (w:=w)
    exact fin ⟨u0,val,by rw[Sem.run_bind,Bjm];exact p1,p2⟩
 ·split at hl
  ·cases hc:Bi3 (K.G.ty T) (S.eval x) (S.eval y) with
   | true =>
    rw[hc] at hl
    obtain⟨e,_⟩:=hl
    cases e
    obtain⟨b,h1,h2,h3⟩:=Bpd h hT hc hvx hvy x y
    exact fin ⟨rfl,_,h2,Cit _ _ h1⟩
   | false =>
    rw[hc] at hl
    simp only[cond_false] at hl
    obtain⟨b,l1,h1,h2,h3⟩:=Cep h hT hP hvx hvy hl x y (fun _ _=>trivial) (.inr (.inr trivial))
    obtain⟨e,_⟩:=h1
    cases e
    exact fin ⟨rfl,_,h2,Tz _ b⟩
  ·cases hc:Bi3 (K.G.ty T) (S.eval x) (S.eval y) with
   | true =>
    rw[hc] at hl
    obtain⟨e,_⟩:=hl
    cases e
    obtain⟨b,h1,h2,h3⟩:=Bpd h hT hc hvx hvy x y
    exact fin ⟨rfl,_,h3,Cit _ _ fun he=>by rw[h1 he];rfl⟩
   | false =>
    rw[hc] at hl
    simp only[cond_false] at hl
    obtain⟨b,l1,h1,h2,h3⟩:=Cep h hT hP hvx hvy hl x y (fun _ _=>trivial) (.inr (.inr trivial))
    obtain⟨e,_⟩:=h1
    cases e
    exact fin ⟨rfl,_,h3,Tz _ (!b)⟩
  ·unfold Cpi at hl
   split at hl
   ·rename_i fx x' fy y' e1 e2
    obtain⟨hle,hl⟩:=C3 hl
    obtain⟨e,_⟩:=hl
    cases e
    rw[e1] at hvx
    rw[e2] at hvy
    obtain⟨val,q1,q2⟩:=Cjl (P:=K.P) (w:=w) hvx hvy (of_decide_eq_true hle) T x y
    exact fin ⟨rfl,val,q1,q2⟩
   ·exact hl.elim
  ·exact hl.elim
end
end Go.Pon
namespace Go.Pon
open Go
section
variable {K:Dq} {S:St} {used:Id→Nat→Prop} {γ:Id→Value} {a:Act} {w:World} {o:Oper} {base:Id} {v:AV} {u:Rc} {l:List Id}
theorem Bx1(h:Hi K S used γ a w){x:Operand}(ho:o.op=.move x∨o.op=.assign x)(hx:A0 x=true):Pt K S used γ a w o (S.eval x) [] base :=
 Pt.pure h (by rcases ho with ho|ho<;>simp[execOp,ho]) (Bo h x hx)
theorem Cjn(h:Hi K S used γ a w){c x y:Operand}{q:Bool}(ho:o.op=.pick c x y)(hc:A0 c=true)(hx:A0 x=true)(hy:A0 y=true)(hq:asBool (S.eval c)=some q)
  (hl:Ba K.C S.objs (.br q (.done (S.eval x,[])) (.done (S.eval y,[]))) [] (v,u) l):Pt K S used γ a w o v u base:=by
 have e:=Bjz hq (Bo h c hc)
 rcases hl with⟨rfl,e1,_⟩ | ⟨rfl,e1,_⟩
 ·cases e1
  exact Pt.pure h (by simp[execOp,ho,e,Go.asBool]) (Bo h x hx)
 ·cases e1
  exact Pt.pure h (by simp[execOp,ho,e,Go.asBool]) (Bo h y hy)
theorem Ci7(h:Hi K S used γ a w){op:UnOp}{T:TypeId}{x:Operand}(ho:o.op=.unOp op T x)(hx:A0 x=true)
  (hl:Ba K.C S.objs (unK op (S.eval x)) [] (v,u) l):Pt K S used γ a w o v u base:=by
 obtain⟨rfl,val,h1,h2⟩:=Cjo (P:=K.P) (w:=w) (Bi K S.objs used γ w) (Bo h x hx) hl
 exact Pt.pure h (by simp only[execOp,ho,Sem.run_bind,h1,Result.andThen_ok,Sem.run_pure]) h2
theorem Chm(h:Hi K S used γ a w){id:Id}{k:OpV}{l0:List Id}(hl:Ba K.C S.objs (Cda id k) l0 (v,u) l):∃ t,Au6 (An S.objs id) t∧Ba K.C S.objs k (id::l0) (v,u) l:=by
 obtain⟨ob,hob,hl⟩:=hl
 dsimp only at hl
 split at hl
 ·exact⟨_,⟨_,_,.inl hob⟩,hl⟩
 ·exact⟨_,⟨_,_,.inr hob⟩,hl⟩
 ·exact hl.elim
theorem Aul(h:Hi K S used γ a w){x:Operand}(ho:o.op=.nilCheck x)(hx:A0 x=true){ad:Addr}(hp:a.eval x=.pointer (some ad)):Pt K S used γ a w o (S.eval x) [] base :=
 Pt.pure h (by simp[execOp,ho,hp]) (Bo h x hx)
theorem Byn(h:Hi K S used γ a w){x:Operand}{n:Nat}{t y:AV}(ho:o.op=.extract x n)(hx:A0 x=true)(ht:S.eval x=.tup t)(hy:Ckt t n=some y):Pt K S used γ a w o y [] base:=by
 have hv:=Bo h x hx
 rw[ht] at hv
 obtain⟨vs,h1,h2⟩:=hv
 have key:∀ (t:AV) (n:Nat) (vs:List Value),Ckt t n=some y→ARt (Bi K S.objs used γ w) t vs→∃ v,vs[n]?=some v∧G7 (Bi K S.objs used γ w) y v:=by
  intro t
  induction t with
  | pair p q ihp ihq =>
   intro n vs hn hr
   cases vs with
   | nil=>exact hr.elim
   | cons v0 vs =>
    cases n with
    | zero=>cases hn;exact⟨v0,rfl,hr.1⟩
    | succ n=>obtain⟨v,k1,k2⟩:=ihq n vs hn hr.2;exact⟨v,by simpa using k1,k2⟩
  | _=>intro n vs hn;cases n<;>cases hn
 obtain⟨v,k1,k2⟩:=key t n vs.toList hy h2
 refine Pt.pure h (val:=v) ?_ ?_
 ·have:vs[n]?=some v:=by simpa using k1
  simp[execOp,ho,h1,Instr.extract,this]
 ·cases y with
  | any=>trivial
  | un=>exact k2.1.elim
  | tup z=>exact k2.1.elim
  | _=>exact k2
theorem Cgd(h:Hi K S used γ a w){T:TypeId}{x:Operand}{n:Nat}{t:Ty}{y:AV}(ho:o.op=.field T x n)(hx:A0 x=true)(hT:T1 K.P t T=true)
  (hy:Axo (S.eval x) [n]=some y) (hf:Bh t (S.eval x)=true) (hn:Nw t n=true):Pt K S used γ a w o y [] base:=by
 obtain⟨f1,f2⟩:=Ahu hf (Bo h x hx)
 obtain⟨fs,k1,k2⟩:=Az6 hT hn
 obtain⟨f,uT,q1,q2,q3,q4,q5,q6⟩:=Apb t 0 fs.toList n k2 hn
 obtain⟨n1,n2,n3⟩:=Adv (S.eval x) t [n] uT _ hf q3 q6 f1 y hy
 have hagg:t.agg=true:=by cases t<;>first|rfl | (cases n<;>simp[Nw] at hn)
 rw[hagg] at f2
 obtain⟨cs,hcs⟩:∃ cs,a.eval x=.agg cs:=by cases hv:a.eval x<;>simp[hv,C7] at f2;exact⟨_,rfl⟩
 have q1:fs[n]?=some f:=by simpa using q1
 have q2:f.offset=By t [n]:=by omega
 rw[hcs] at n2
 have n2':ARc (Bi K S.objs used γ w) y (List.take uT.size (List.drop (By t [n]) cs.toList)):=n2
 obtain⟨val,p1,p2,p3⟩:=Ana (w:=w) q4 (xs:=cs) (off:=f.offset) (c:=List.take uT.size (List.drop (By t [n]) cs.toList)) (by rw[q2]) (Kh n1 n2')
  (fun hg v hv=>Yt (Ay0 n1 n2' v hv))
 exact Pt.pure h (by simp[execOp,ho,hcs,Instr.field,run_underlying k1,q1,asAgg,p1]) (Am8 n1 (by rw[p2];exact n2') p3)
theorem Bq3(h:Hi K S used γ a w){T:TypeId}{x y:Operand}{n:Int}{k:IntKind}{fr:Bool}{m:Nat}{t:Ty}{xs:List t.den}(ho:o.op=.index T x y)(hx:A0 x=true)
  (hT:T1 K.P (.arr m t) T=true) (hy:a.eval y=.int k n) (he:S.eval x=.d fr (.arr m t) xs) (hi:B0 n m=true):Pt K S used γ a w o (.d fr t (List.getD xs n.toNat t.zero)) [] base:=by
 have hv:=Bo h x hx
 rw[he] at hv
 obtain⟨⟨l1,r1⟩,h2⟩:=(show G7 _ (.d fr (.arr m t) xs) _ from hv)
 obtain⟨i0,i1,i2⟩:=Akn hi
 obtain⟨e,k1,k2⟩:=Aez hT
 obtain⟨cs,hcs⟩:∃ cs,a.eval x=.agg cs:=by cases hv:a.eval x<;>simp[hv,C7,Amy,Ty.agg] at h2;exact⟨_,rfl⟩
 rw[hcs] at r1
 have hlt:n.toNat<List.length xs:=by omega
 have hrow:=r1.get n.toNat hlt
 have hs:=Lu w k2
 rw[Avm hlt]
 obtain⟨val,p1,p2,p3⟩:=Ana (w:=w) k2 (xs:=cs) (off:=n.toNat*t.size) rfl (DR.len hrow) (fun hg v hv=>Yt (DR.one hrow v hv))
 exact Pt.pure h (by simp[execOp,ho,hcs,hy,Instr.index,asIntOf,run_underlying k1,i0,i1,hs,p1]) ⟨by rw[p2];exact hrow,p3.symm⟩
theorem Brz(h:Hi K S used γ a w){T:TypeId}{x y:Operand}{n:Int}{k:IntKind}{fr:Bool}{xs:List Int}(ho:o.op=.index T x y)(hx:A0 x=true)
  (hT:T1 K.P .str T=true) (hy:a.eval y=.int k n) (he:S.eval x=.d fr .str xs) (hi:B0 n (List.length xs)=true):Pt K S used γ a w o (Tf .u8 (List.getD xs n.toNat 0)) [] base:=by
 have hv:=Bo h x hx
 rw[he] at hv
 obtain⟨s,d1,d2,d3⟩:=Bbx (t:=.str) rfl hv
 have d1:a.eval x=.string s:=by simpa using d1
 obtain⟨i0,i1,i2⟩:=Akn hi
 have hlt:n.toNat<s.size:=by
  rw[d2,List.length_map] at i2
  exact i2
 have hb:s[n.toNat]?=some s[n.toNat]:=by simp[hlt]
 have hg:List.getD xs n.toNat 0=(s[n.toNat].toNat:Int):=by
  rw[d2,List.getD,List.getElem?_map]
  have:s.data.toList[n.toNat]?=some s[n.toNat]:=by
   rw[Array.getElem?_toList,Array.getElem?_eq_getElem (by exact hlt)]
   rfl
  rw[this];rfl
 refine Pt.pure h (val:=.int .u8 (s[n.toNat].toNat:Int)) (by simp[execOp,ho,d1,hy,Instr.index,asIntOf,run_underlying (Ai9 hT),i0,hb]) ?_
 rw[hg]
 exact Gq _ (by
  have:=s[n.toNat].toNat_lt
  simp only[inK,IntKind.min,IntKind.max,IntKind.signed,IntKind.bits]
  simp
  omega)
theorem Bxf(h:Hi K S used γ a w){T T':TypeId}{x:Operand}{k k':IntKind}{n:Int}{fr:Bool}(ho:o.op=.convert T T' x)(hx:A0 x=true){k0:IntKind}(h1:T1 K.P (.int k0) T=true)(h2:T1 K.P (.int k) T'=true)
  (he:S.eval x=.d fr (.int k') n):Pt K S used γ a w o (Tf k (k.wrap n)) [] base:=by
 have hv:=Bo h x hx
 rw[he] at hv
 obtain⟨e,_⟩:=Bl6 hv
 exact Pt.pure h (by simp[execOp,ho,e,convert,run_underlying (Ael h1),run_underlying (Ael h2),Conv.intToInt]) (Gq _ (Acp _ _))
end
end Go.Pon
namespace Go.Pon
open Go
theorem Cj7{l:List Id}{id:Id}:Bba l id=true↔id∈l:=by
 induction l with
 | nil=>simp[Bba]
 | cons a l ih=>simp only[Bba,Bool.or_eq_true,Aaa,ih,List.mem_cons];exact or_congr_left eq_comm
def lent(c:Cl)(id:Id):Prop:=id∈c.br∨∃ o,(id,some o)∈c.ups
def Dn:Rc→List Id
 | []=>[]
 | (i,none)::r=>i::Dn r
 | (_,some _)::r=>Dn r
theorem Td{u:Rc}{id:Id}:id∈Dn u↔(id,none)∈u:=by
 induction u with
 | nil=>simp[Dn]
 | cons p u ih =>
  obtain⟨i,o⟩:=p
  cases o with
  | none=>simp[Dn,ih]
  | some o=>simp[Dn,ih]
theorem Cgo{u:Rc}{id:Id}:Al3 u id=true↔∃ o,(id,o)∈u:=by
 induction u with
 | nil=>simp[Al3]
 | cons p u ih =>
  simp only[Al3,Bool.or_eq_true,Aaa,ih,List.mem_cons]
  constructor
  ·rintro (rfl | ⟨o,h⟩)
   ·exact⟨p.2,.inl rfl⟩
   ·exact⟨o,.inr h⟩
  ·rintro⟨o,rfl|h⟩
   ·exact .inl rfl
   ·exact .inr ⟨o,h⟩
theorem Anj:∀ {u:Rc} {id:Id},Arz u id=true↔(id,none)∈u
 | [],id=>by simp[Arz]
 | (i,none)::r,id=>by
  simp only[Arz,Bool.or_eq_true,Aaa,Anj (u:=r),List.mem_cons,Prod.mk.injEq,and_true]
  exact or_congr_left eq_comm
 | (i,some o)::r,id=>by
  simp[Arz,Anj (u:=r)]
structure Ext(c c':Cl):Prop where
 ups:∃ d,c'.ups=d++c.ups
 br:∃ d,c'.br=d++c.br
theorem Ext.refl(c:Cl):Ext c c:=⟨⟨[],rfl⟩,⟨[],rfl⟩⟩
theorem Ext.trans{a b c:Cl}(h:Ext a b)(k:Ext b c):Ext a c:=by
 obtain⟨⟨d,h1⟩,⟨e,h2⟩⟩:=h
 obtain⟨⟨d',k1⟩,⟨e',k2⟩⟩:=k
 exact⟨⟨d'++d,by rw[k1,h1,List.append_assoc]⟩,⟨e'++e,by rw[k2,h2,List.append_assoc]⟩⟩
theorem Ext.lent{c c':Cl}(h:Ext c c'){id:Id}(hl:lent c id):lent c' id:=by
 obtain⟨⟨d,h1⟩,⟨e,h2⟩⟩:=h
 rcases hl with hl | ⟨o,hl⟩
 ·exact .inl (by rw[h2];exact List.mem_append_right _ hl)
 ·exact .inr ⟨o,by rw[h1];exact List.mem_append_right _ hl⟩
section
variable {K:Dq} {S:St} {used:Id→Nat→Prop} {γ:Id→Value} {a:Act} {w:World}
def okL(K:Dq)(S:St)(γ:Id→Value)(c:Cl)(fr:Bool)(b:Nat):Prop :=
 (∀ id,Bg (An S.objs id) (γ id)=some b→lent c id)∧¬ K.B b∧(fr=true→K.base≤b)
theorem X0{c c':Cl}{f g:Bool}(h:Ext c c')(hf:g=true→f=true)(b:Nat)(hb:okL K S γ c f b):okL K S γ c' g b :=
 ⟨fun id hid=>h.lent (hb.1 id hid),hb.2.1,fun hg=>hb.2.2 (hf hg)⟩
theorem Agm{c:Cl}{f g:Bool}(hf:g=true→f=true)(b:Nat)(hb:Ah9 K (An S.objs) γ f b):okL K S γ c g b :=
 ⟨fun id hid=>absurd hid (hb.1 id),hb.2.1,fun hg=>hb.2.2 (hf hg)⟩
structure Ab8(S:St)(frz:Bool)(c:Cl):Prop where
 moved:∀ id,(id,none)∈c.ups→∃ o,An S.objs id=some o
 apart:∀ id,(id,none)∈c.ups→¬ lent c id
 nodup:(Dn c.ups).Nodup
 frozen:∀ id o,(id,some o)∈c.ups→frz=true∧((∃ ver fr t rows,An S.objs id=some (.sli ver fr t rows)∧o=.frz ver fr t rows)∨∃ fr t m,An S.objs id=some (.mem fr t m)∧o=.mfz fr t m)
 borrow:frz=true→c.br=[]
theorem Ab8.start(S:St)(frz:Bool):Ab8 S frz ⟨[],[]⟩ :=
 ⟨fun _ h=>by simp at h,fun _ h=>by simp at h,List.nodup_nil,fun _ _ h=>by simp at h,fun _=>rfl⟩
theorem Ab8.lend{frz:Bool}{c:Cl}(h:Ab8 S frz c){id:Id}{o:Obj}(hg:¬ (id,none)∈c.ups)
  (ho:(∃ ver fr t rows,An S.objs id=some (.sli ver fr t rows)∧o=.frz ver fr t rows)∨∃ fr t m,An S.objs id=some (.mem fr t m)∧o=.mfz fr t m) :
  Ab8 S frz (c.lend frz id o)∧Ext c (c.lend frz id o)∧Dn (c.lend frz id o).ups=Dn c.ups∧lent (c.lend frz id o) id:=by
 cases frz with
 | true =>
  have hb:=h.borrow rfl
  have e:c.lend true id o=⟨(id,some o)::c.ups,c.br⟩:=rfl
  rw[e]
  refine⟨⟨fun i hi=>?_,fun i hi hl=>?_,h.nodup,fun i o' hi=>?_,fun _=>hb⟩,⟨⟨[(id,some o)],rfl⟩,⟨[],rfl⟩⟩,rfl,.inr ⟨o,by simp⟩⟩
  ·simp at hi;exact h.moved i hi
  ·simp at hi
   rcases hl with hl | ⟨o',hl⟩
   ·rw[hb] at hl;simp at hl
   ·simp only[List.mem_cons,Prod.mk.injEq,Option.some.injEq] at hl
    rcases hl with⟨rfl,_⟩|hl
    ·exact hg hi
    ·exact h.apart i hi (.inr ⟨o',hl⟩)
  ·simp only[List.mem_cons,Prod.mk.injEq,Option.some.injEq] at hi
   rcases hi with⟨rfl,rfl⟩|hi
   ·exact⟨rfl,ho⟩
   ·exact h.frozen i o' hi
 | false =>
  have e:c.lend false id o=⟨c.ups,id::c.br⟩:=rfl
  rw[e]
  refine⟨⟨h.moved,fun i hi hl=>?_,h.nodup,h.frozen,fun h=>by cases h⟩,⟨⟨[],rfl⟩,⟨[id],rfl⟩⟩,rfl,.inl (by simp)⟩
  rcases hl with hl | ⟨o',hl⟩
  ·simp only[List.mem_cons] at hl
   rcases hl with rfl|hl
   ·exact hg hi
   ·exact h.apart i hi (.inl hl)
  ·exact h.apart i hi (.inr ⟨o',hl⟩)
theorem Ab8.move{frz:Bool}{c:Cl}(h:Ab8 S frz c){id:Id}(ht:Al3 c.ups id=false)(hb:Bba c.br id=false)
  (ho:∃ o,An S.objs id=some o) :
  Ab8 S frz ⟨(id,none)::c.ups,c.br⟩∧Ext c ⟨(id,none)::c.ups,c.br⟩∧Dn ((id,none)::c.ups)=id::Dn c.ups:=by
 have ht':∀ o,(id,o) ∉ c.ups:=fun o ho=>by
  have:Al3 c.ups id=true:=Cgo.2 ⟨o,ho⟩
  rw[ht] at this;cases this
 have hb':id ∉ c.br:=fun hm=>by
  have:Bba c.br id=true:=Cj7.2 hm
  rw[hb] at this;cases this
 refine⟨⟨fun i hi=>?_,fun i hi hl=>?_,?_,fun i o hi=>?_,h.borrow⟩,⟨⟨[(id,none)],rfl⟩,⟨[],rfl⟩⟩,rfl⟩
 ·simp only[List.mem_cons,Prod.mk.injEq,and_true] at hi
  rcases hi with rfl|hi
  ·exact ho
  ·exact h.moved i hi
 ·simp only[List.mem_cons,Prod.mk.injEq,and_true] at hi
  have hl':lent c i:=by
   rcases hl with hl | ⟨o,hl⟩
   ·exact .inl hl
   ·simp at hl;exact .inr ⟨o,hl⟩
  rcases hi with rfl|hi
  ·rcases hl' with hl | ⟨o,hl⟩
   ·exact hb' hl
   ·exact ht' _ hl
  ·exact h.apart i hi hl'
 ·show (id::Dn c.ups).Nodup
  exact List.nodup_cons.2 ⟨fun hm=>ht' _ (Td.1 hm),h.nodup⟩
 ·simp at hi;exact h.frozen i o hi
theorem Bz3(h:Hi K S used γ a w){id:Id}{ver:Nat}{fr:Bool}{t:Ty}{rows:List t.den}
  (ho:An S.objs id=some (.sli ver fr t rows)∨An S.objs id=some (.frz ver fr t rows)) {c:Cl}
  (hc:(∃ ver fr t rows,An S.objs id=some (.sli ver fr t rows))→lent c id):DR w (okL K S γ c fr) (.slice t) [γ id] rows:=by
 rcases ho with ho|ho
 ·rcases h.objs id _ ho with⟨h1,h2⟩ | ⟨g,cap,cur,e,h1,h2,h3,h4,h5,h6,h7⟩
  ·have h1:γ id=_:=h1
   rw[h1,h2]
   exact⟨none,0,rfl,Nat.le_refl _,Nat.zero_le _,fun _=>rfl,[],rfl,fun h=>absurd rfl h⟩
  ·have h1:γ id=_:=h1
   have hl:Bg (An S.objs id) (γ id)=some g:=by rw[ho,h1];rfl
   rw[h1]
   refine⟨_,cap,rfl,h3,h4,(fun e=>by cases e),_,h6.mono fun _ _=>DR.mono fun b hb=>Agm (fun h=>h) b hb,fun _=>⟨_,rfl,⟨fun id' hid'=>?_,(h.mod id g hl).2,h7⟩,fun j y hj=>?_⟩⟩
   ·rw[h.sep id' id g hid' hl];exact hc ⟨_,_,_,_,ho⟩
   ·exact Abx h2 0 _ j y (by simpa using hj)
 ·exact (h.objs id _ ho).1.mono fun b hb=>Agm (fun h=>h) b hb
theorem Clb{ok:Nat→Prop}{t:Ty}{g lo hi cp:Nat}{rows:List t.den}{c:Nat}{ad:Option Addr}(h:DR w ok (.slice t) [.slice (some ⟨g,0,none⟩) rows.length cp] rows)(h1:lo<hi)(h2:hi≤rows.length)
  (h3:hi-lo≤c) (h4:c≤maxLen) (had:ad=some ⟨g,lo*t.size,none⟩):DR w ok (.slice t) [.slice ad (hi-lo) c] ((rows.drop lo).take (hi-lo)):=by
 obtain⟨ad',cap',d1,d2,d3,d4,cs,d5,d6⟩:=h
 have hl:((rows.drop lo).take (hi-lo)).length=hi-lo:=by simp;omega
 refine⟨ad,c,by rw[hl],by rw[hl];exact h3,h4,(fun hn=>by rw[had] at hn;cases hn),_,(d5.drop lo).take (hi-lo),fun hne=>?_⟩
 have hr:cs≠[]:=by rintro rfl;simp at hne
 obtain⟨adr,e1,e2,e3⟩:=d6 hr
 have e0:adr=⟨g,0,none⟩:=by
  have:Value.slice (some ⟨g,0,none⟩) rows.length cp=.slice ad' rows.length cap':=by simpa using d1
  rw[e1] at this
  cases this
  rfl
 subst e0
 refine⟨_,had,e2,fun j v hj=>?_⟩
 have:=e3 (lo*t.size+j) v (by
  rw[List.getElem?_take] at hj
  split at hj
  ·rwa [List.getElem?_drop] at hj
  ·cases hj)
 rw[Ch] at this ⊢
 rwa [Nat.zero_add] at this
theorem Bpc{ok:Nat→Prop}{t:Ty}{c:Nat}{ad:Option Addr}{n:Nat}{x:List t.den}(hx:x=[])(hn:n=0)(hc:c≤maxLen)(h0:ad=none→c=0):DR w ok (.slice t) [.slice ad n c] x:=by
 subst hx hn
 exact⟨ad,c,rfl,Nat.zero_le _,hc,h0,[],rfl,fun h=>absurd rfl h⟩
theorem Hp{α:Type}{C:Ap}(h:Hi K S used γ a w){frz:Bool}{v:AV}{t:Ty}{c:Cl}(hc:Ab8 S frz c){k:Bool→List t.den→Cl→OpT α}{l0 l:List Id}{r:α}
  (hl:Ba C S.objs (Vl v t c frz k) l0 r l) :
  ∃ fr x c' l1,Ba C S.objs (k fr x c') l1 r l∧Ab8 S frz c'∧Ext c c'∧Dn c'.ups=Dn c.ups∧Amy v=false ∧
   ∀ cs,ARc (Bi K S.objs used γ w) v cs→DR w (okL K S γ c' fr) (.slice t) cs x:=by
 unfold Vl at hl
 split at hl
 ·rename_i fr u' x
  split at hl
  ·rename_i y hy
   obtain⟨e,rfl⟩:=Cs hy
   subst e
   exact⟨fr,_,c,l0,hl,hc,Ext.refl c,rfl,rfl,fun cs hr=>DR.mono (fun b hb=>Agm (fun h=>h) b hb) hr⟩
  ·exact hl.elim
 ·exact⟨true,[],c,l0,hl,hc,Ext.refl c,rfl,rfl,fun cs hr=>by rw[show cs=_ from hr];exact Bpc rfl rfl (Nat.zero_le _) (fun _=>rfl)⟩
 ·rename_i id ver
  cases hg:Arz c.ups id with
  | true=>rw[hg] at hl;exact hl.elim
  | false =>
   rw[hg] at hl
   have hg':¬ (id,none)∈c.ups:=fun hm=>by rw[Anj.2 hm] at hg;cases hg
   obtain⟨ob,hob,hl⟩:=hl
   dsimp only at hl
   split at hl
   ·rename_i ver' fr u' rows
    split at hl
    ·rename_i y h1 hy
     obtain rfl:=Nat.eq_of_beq_eq_true h1
     obtain⟨e,rfl⟩:=Cs hy
     cases e
     obtain⟨i1,i2,i3,i4⟩:=hc.lend (id:=id) (o:=.frz ver' fr t rows) hg' (.inl ⟨_,_,_,_,hob,rfl⟩)
     refine⟨fr,_,_,_,hl,i1,i2,i3,rfl,fun cs hr=>?_⟩
     obtain⟨_,v0,rfl,_,hv0⟩:=hr
     rw[hv0 t _ (Ft _ ver' fr t rows (.inl hob))]
     exact Bz3 h (.inl hob) (fun _=>i4)
    ·exact hl.elim
   ·rename_i ver' fr u' rows
    split at hl
    ·rename_i y h1 hy
     obtain rfl:=Nat.eq_of_beq_eq_true h1
     obtain⟨e,rfl⟩:=Cs hy
     cases e
     refine⟨fr,_,_,_,hl,hc,Ext.refl c,rfl,rfl,fun cs hr=>?_⟩
     obtain⟨_,v0,rfl,_,hv0⟩:=hr
     rw[hv0 t _ (Ft _ ver' fr t rows (.inr hob))]
     exact Bz3 h (.inr hob) (fun⟨_,_,_,_,h⟩=>by rw[hob] at h;cases h)
    ·exact hl.elim
   ·exact hl.elim
 ·rename_i id ver lo hi cp0
  cases hg:Arz c.ups id with
  | true=>rw[hg] at hl;exact hl.elim
  | false =>
   rw[hg] at hl
   have hg':¬ (id,none)∈c.ups:=fun hm=>by rw[Anj.2 hm] at hg;cases hg
   have key:∀ (ver:Nat) (fr:Bool) (t:Ty) (rows:List t.den) (c':Cl),(An S.objs id=some (.sli ver fr t rows)∨An S.objs id=some (.frz ver fr t rows)) →
     ((∃ ver fr t rows,An S.objs id=some (.sli ver fr t rows))→lent c' id)→∀ cs,ARc (Bi K S.objs used γ w) (.view id ver lo hi cp0) cs→DR w (okL K S γ c' fr) (.slice t) cs ((rows.drop lo).take (hi-lo)):=by
    intro ver fr t rows c' ho' hlen cs hr
    obtain⟨_,v0,rfl,_,hv0⟩:=hr
    obtain⟨v1,v2,ad,cc,v3,v4,v5,v6,v7,_⟩:=hv0 t _ (Ft _ ver fr t rows ho')
    subst v3
    rcases Nat.lt_or_ge lo hi with hlt|hge
    ·obtain⟨g,m,cp,v8,v9⟩:=v7 hlt
     have hd:=Bz3 h ho' hlen
     have v8:γ id=_:=v8
     have hm:m=rows.length:=by
      obtain⟨ad2,cap2,k1,_⟩:=Bay h ho'
      rw[v8] at k1;cases k1;rfl
     rw[v8,hm] at hd
     exact Clb hd hlt v2 v4 v5 v9
    ·exact Bpc (by rw[show hi-lo=0 by omega,List.take_zero]) (by omega) v5 v6
   obtain⟨ob,hob,hl⟩:=hl
   dsimp only at hl
   split at hl
   ·rename_i ver' fr u' rows
    split at hl
    ·rename_i y h1 hy
     obtain rfl:=Nat.eq_of_beq_eq_true h1
     obtain⟨e,rfl⟩:=Cs hy
     cases e
     obtain⟨i1,i2,i3,i4⟩:=hc.lend (id:=id) (o:=.frz ver' fr t rows) hg' (.inl ⟨_,_,_,_,hob,rfl⟩)
     exact⟨fr,_,_,_,hl,i1,i2,i3,rfl,key ver' fr t rows _ (.inl hob) (fun _=>i4)⟩
    ·exact hl.elim
   ·rename_i ver' fr u' rows
    split at hl
    ·rename_i y h1 hy
     obtain rfl:=Nat.eq_of_beq_eq_true h1
     obtain⟨e,rfl⟩:=Cs hy
     cases e
     exact⟨fr,_,_,_,hl,hc,Ext.refl c,rfl,rfl,key ver' fr t rows _ (.inr hob) (fun⟨_,_,_,_,h⟩=>by rw[hob] at h;cases h)⟩
    ·exact hl.elim
   ·exact hl.elim
 ·rename_i id path lo hi
  cases hg:Arz c.ups id with
  | true=>rw[hg] at hl;exact hl.elim
  | false =>
   rw[hg] at hl
   have hg':¬ (id,none)∈c.ups:=fun hm=>by rw[Anj.2 hm] at hg;cases hg
   have key:∀ (fm fr:Bool) (tm u':Ty) (m:AV) (n:Nat) (x:List u'.den) (c':Cl),(An S.objs id=some (.mem fm tm m)∨An S.objs id=some (.mfz fm tm m))→Axo m path=some (.d fr (.arr n u') x) →
     ((∃ fr t m,An S.objs id=some (.mem fr t m))→lent c' id)→∀ cs,ARc (Bi K S.objs used γ w) (.mview id path lo hi) cs→DR w (okL K S γ c' (fr&&fm)) (.slice u') cs ((x.drop lo).take (hi-lo)):=by
    intro fm fr tm u' m n x c' ho' hnav hlen cs hr
    obtain⟨_,v0,rfl,_,hv0⟩:=hr
    obtain⟨g,n',uu,q1,q2,q3,q4,q5,ad,cc,q6,q7,q8,q9⟩:=hv0 tm (Ai7 _ fm tm m ho')
    subst q6
    obtain⟨g',e',cur,m1,m2,m3,m4⟩:=Bf1 h ho'
    have q1:γ id=_:=q1
    rw[q1] at m1
    cases m1
    obtain⟨n1,n2,n3⟩:=Adv m tm path _ _ m3 q2 q3 m4 _ hnav
    have eu:Ty.arr n u'=.arr n' uu:=Ty.beq_iff.1 (by simpa [Bh] using n1)
    cases eu
    obtain⟨nl,nr⟩:=n2
    have hgo:okL K S γ c' (fr&&fm) g:=by
     have hfr:(fr&&fm)=true→fm=true:=by simp
     rcases ho' with ho'|ho'
     ·have hlv:Bg (An S.objs id) (γ id)=some g:=by rw[ho',q1];rfl
      obtain⟨g2,e2,cur2,o1,_,_,_,o5⟩:=h.objs id _ ho'
      have o1:γ id=_:=o1
      rw[q1] at o1;cases o1
      exact⟨fun id' hid'=>by rw[h.sep id' id g hid' hlv];exact hlen ⟨_,_,_,ho'⟩,(h.mod id g hlv).2,fun hf=>o5 (hfr hf)⟩
     ·obtain⟨_,o6⟩:=h.objs id _ ho'
      exact Agm hfr g (o6 _ q1)
    rcases Nat.lt_or_ge lo hi with hlt|hge
    ·have hl2:((x.drop lo).take (hi-lo)).length=hi-lo:=by simp;omega
     refine⟨some ad,cc,by rw[hl2],by rw[hl2];exact q7,q8,(fun e=>by cases e),_,((nr.mono fun _ _=>DR.mono fun b hb=>Agm (fun h=>(Bool.and_eq_true _ _▸h:fr=true∧fm=true).1) b hb).drop lo).take (hi-lo),fun hne=>⟨ad,rfl,?_,fun j v hj=>?_⟩⟩
     ·rw[q9 hlt];exact hgo
     ·rw[q9 hlt,Ch]
      have:=Abx m2 (By tm path) (Ty.size (.arr n u')) (lo*u'.size+j) v (by
       rw[List.getElem?_take] at hj
       split at hj
       ·rwa [List.getElem?_drop] at hj
       ·cases hj)
      rw[Ch] at this
      rwa [Nat.add_assoc]
    ·exact Bpc (by rw[show hi-lo=0 by omega,List.take_zero]) (by omega) q8 (fun e=>by cases e)
   obtain⟨ob,hob,hl⟩:=hl
   dsimp only at hl
   split at hl
   ·rename_i fm tm m
    split at hl
    ·rename_i fr n u' x hnav
     split at hl
     ·rename_i y hy
      obtain⟨e,rfl⟩:=Cs hy
      cases e
      obtain⟨i1,i2,i3,i4⟩:=hc.lend (id:=id) (o:=.mfz fm tm m) hg' (.inr ⟨_,_,_,hob,rfl⟩)
      exact⟨_,_,_,_,hl,i1,i2,i3,rfl,key fm fr tm t m n x _ (.inl hob) hnav (fun _=>i4)⟩
     ·exact hl.elim
    ·exact hl.elim
   ·rename_i fm tm m
    split at hl
    ·rename_i fr n u' x hnav
     split at hl
     ·rename_i y hy
      obtain⟨e,rfl⟩:=Cs hy
      cases e
      exact⟨_,_,_,_,hl,hc,Ext.refl c,rfl,rfl,key fm fr tm t m n x _ (.inr hob) hnav (fun⟨_,_,_,h⟩=>by rw[hob] at h;cases h)⟩
     ·exact hl.elim
    ·exact hl.elim
   ·exact hl.elim
 ·exact hl.elim
end
end Go.Pon
namespace Go.Pon
open Go
def MR(w:World)(ok:Bool→Nat→Prop)(base:Nat):(m:Ez)→List Value→m.den→List Nat→Prop
 | .ro fr t,cs,x,bs=>bs=[]∧DR w (ok fr) t cs x
 | .own fr t,cs,x,bs=>∃ v,cs=[v]∧((v=.slice none 0 0∧x=([]:List t.den)∧bs=[]) ∨
   ∃ g cap cur e,v=.slice (some ⟨g,0,none⟩) (List.length x) cap∧w.heap[g]?=some (.cells cur e (0,0)) ∧
    List.length x≤cap∧cap≤maxLen∧cur.size=cap*t.size∧B5 (DR w (ok fr) t) t.size (cur.toList.take (List.length x*t.size)) x∧(fr=true→base≤g)∧bs=[g])
 | .ptr m,cs,x,bs=>∃ g e cur bs',cs=[.pointer (some ⟨g,0,none⟩)]∧w.heap[g]?=some (.cells cur e (0,0))∧MR w ok base m cur.toList x bs'∧bs=g::bs'
 | .optr m,cs,x,bs=>match x with
  | none=>cs=[.pointer none]∧bs=[]
  | some y=>∃ g e cur bs',cs=[.pointer (some ⟨g,0,none⟩)]∧w.heap[g]?=some (.cells cur e (0,0))∧MR w ok base m cur.toList y bs'∧bs=g::bs'
 | .pair a b,cs,x,bs=>∃ c1 c2 b1 b2,cs=c1++c2∧MR w ok base a c1 x.1 b1∧MR w ok base b c2 x.2 b2∧bs=b1++b2
 | .fn f m,cs,x,bs=>∃ vs:Array Value,cs=[.func (.func f) #[] vs]∧MR w ok base m vs.toList x bs
 | .nilm _,cs,_,bs=>cs=[.slice none 0 0]∧bs=[]
 | .full t,cs,x,bs=>t.flat=true∧((cs=[.slice none 0 0]∧x=([]:List t.den)∧bs=[])∨∃ g cap cur e,cs=[.slice (some ⟨g,0,none⟩) (List.length x) (List.length x)]∧w.heap[g]?=some (.cells cur e (0,0)) ∧
   List.length x≤cap∧cap≤maxLen∧cur.size=cap*t.size∧B5 (DR w (ok false) t) t.size (cur.toList.take (List.length x*t.size)) x∧bs=[g])
 | .bor t,cs,x,bs=>bs=[]∧∃ v,cs=[v]∧DR w (ok false) (.slice t) [v] x∧∀ a n c,v=.slice (some a) n c→a.off=0∧a.spot=none
 | .mapm k t,cs,x,bs=>t.flat=true∧∃ g es clock,cs=[.map (some g)]∧w.heap[g]?=some (.map es clock)∧At3 w k t es.toList x∧bs=[g]
 | .rp t,cs,x,bs=>bs=[]∧Bkz cs fun v=>∃ a vs,v=.pointer (some a)∧a.spot=none∧(0<t.size→ok false a.block)∧(∀ j y,vs[j]?=some y→w.cell? (a.add j)=some y)∧DR w (ok false) t vs x
 | .ign,_,_,bs=>bs=[]
 | .orp t,cs,x,bs=>match x with
  | none=>cs=[.pointer none]∧bs=[]
  | some x=>bs=[]∧Bkz cs fun v=>∃ a vs,v=.pointer (some a)∧a.spot=none∧(0<t.size→ok false a.block)∧(∀ j y,vs[j]?=some y→w.cell? (a.add j)=some y)∧DR w (ok false) t vs x
theorem MR.mono{w:World}{ok ok':Bool→Nat→Prop}{base:Nat}(h:∀ f b,ok f b→ok' f b):∀ {m:Ez} {cs:List Value} {x:m.den} {bs:List Nat},MR w ok base m cs x bs→MR w ok' base m cs x bs
 | .ro _ _,_,_,_,⟨h1,h2⟩=>⟨h1,h2.mono (h _)⟩
 | .own _ _,_,_,_,⟨v,h0,hr⟩=>⟨v,h0,hr.imp id fun⟨g,cap,cur,e,h1,h2,h3,h4,h5,h6,h7⟩=>⟨g,cap,cur,e,h1,h2,h3,h4,h5,h6.mono fun _ _=>DR.mono (h _),h7⟩⟩
 | .ptr m,_,_,_,⟨g,e,cur,bs',h1,h2,h3,h4⟩=>⟨g,e,cur,bs',h1,h2,MR.mono h h3,h4⟩
 | .optr m,_,none,_,hr=>hr
 | .optr m,_,some _,_,⟨g,e,cur,bs',h1,h2,h3,h4⟩=>⟨g,e,cur,bs',h1,h2,MR.mono h h3,h4⟩
 | .pair _ _,_,_,_,⟨c1,c2,b1,b2,h1,h2,h3,h4⟩=>⟨c1,c2,b1,b2,h1,MR.mono h h2,MR.mono h h3,h4⟩
 | .fn _ _,_,_,_,⟨vs,h1,h2⟩=>⟨vs,h1,MR.mono h h2⟩
 | .nilm _,_,_,_,hr=>hr
 | .full _,_,_,_,⟨h0,hr⟩=>⟨h0,hr.imp id fun⟨g,cap,cur,e,h1,h2,h3,h4,h5,h6,h7⟩=>⟨g,cap,cur,e,h1,h2,h3,h4,h5,h6.mono fun _ _=>DR.mono (h _),h7⟩⟩
 | .mapm _ _,_,_,_,hr=>hr
 | .bor t,_,_,_,⟨h0,v,h1,h2,h3⟩=>⟨h0,v,h1,DR.mono (t:=.slice t) (h _) h2,h3⟩
 | .rp _,_,_,_,⟨h0,v,h1,h2,a,vs,h3,h4,h5,h6,h7⟩=>⟨h0,v,h1,h2,a,vs,h3,h4,fun hp=>h _ _ (h5 hp),h6,h7.mono (h _)⟩
 | .ign,_,_,_,hr=>hr
 | .orp _,_,none,_,hr=>hr
 | .orp _,_,some _,_,⟨h0,v,h1,h2,a,vs,h3,h4,h5,h6,h7⟩=>⟨h0,v,h1,h2,a,vs,h3,h4,fun hp=>h _ _ (h5 hp),h6,h7.mono (h _)⟩
def MRL(w:World)(ok:Bool→Nat→Prop)(base:Nat):(ms:List Ez)→List Value→O7 ms→List Nat→Prop
 | [],vs,_,bs=>vs=[]∧bs=[]
 | m::ms,vs,x,bs=>∃ v r b1 b2,vs=v::r∧C7 v=m.ty.agg∧MR w ok base m v.cells.toList x.1 b1∧MRL w ok base ms r x.2 b2∧bs=b1++b2
theorem MRL.mono{w:World}{ok ok':Bool→Nat→Prop}{base:Nat}(h:∀ f b,ok f b→ok' f b):∀ {ms:List Ez} {vs:List Value} {x:O7 ms} {bs:List Nat},MRL w ok base ms vs x bs→MRL w ok' base ms vs x bs
 | [],_,_,_,hr=>hr
 | _::_,_,_,_,⟨v,r,b1,b2,h1,h2,h3,h4,h5⟩=>⟨v,r,b1,b2,h1,h2,h3.mono h,MRL.mono h h4,h5⟩
section
variable {K:Dq} {S:St} {used:Id→Nat→Prop} {γ:Id→Value} {a:Act} {w:World}
def Hh(S:St)(γ:Id→Value)(l:List Id):List Nat:=l.filterMap fun id=>Bg (An S.objs id) (γ id)
theorem Bgn{α:Type}{C:Ap}(h:Hi K S used γ a w){frz:Bool}:∀ (v:AV) (t:Ty) {c:Cl} (hc:Ab8 S frz c) {k:Bool→t.den→Cl→OpT α} {l0 l:List Id} {r:α}
  (hl:Ba C S.objs (roK frz v t c k) l0 r l),
  ∃ fr x c' l1,Ba C S.objs (k fr x c') l1 r l∧Ab8 S frz c'∧Ext c c'∧Dn c'.ups=Dn c.ups∧Amy v=t.agg ∧
   ∀ cs,ARc (Bi K S.objs used γ w) v cs→DR w (okL K S γ c' fr) t cs x:=by
 intro v
 induction v with
 | d fr u y =>
  intro t c hc k l0 l r hl
  simp only[roK] at hl
  split at hl
  ·rename_i z hz
   obtain⟨e,rfl⟩:=Cs hz
   subst e
   exact⟨fr,_,c,l0,hl,hc,Ext.refl c,rfl,rfl,fun cs hr=>DR.mono (fun b hb=>Agm (fun h=>h) b hb) hr⟩
  ·exact hl.elim
 | pair v1 v2 ih1 ih2 =>
  intro t c hc k l0 l r hl
  cases t with
  | pair t u =>
   obtain⟨f1,x1,c1,l1,a1,a2,a3,a4,a5,a6⟩:=ih1 t hc hl
   obtain⟨f2,x2,c2,l2,b1,b2,b3,b4,b5,b6⟩:=ih2 u a2 a1
   refine⟨(f1||t.flat)&&(f2||u.flat),(x1,x2),c2,l2,b1,b2,a3.trans b3,b4.trans a4,rfl,fun cs ⟨d1,d2,e1,e2,e3⟩=>?_⟩
   have k1:=a6 d1 e2
   have k2:=b6 d2 e3
   have hn:=DR.len k1
   refine⟨?_,?_⟩
   ·rw[e1,List.take_append_of_le_length (by omega),List.take_of_length_le (by omega)]
    cases hft:t.flat with
    | true=>exact DR.flat hft k1
    | false=>exact k1.mono (X0 b3 (by simp;intro h _;exact h))
   ·rw[e1,List.drop_append_of_le_length (by omega),List.drop_eq_nil_of_le (by omega)]
    cases hfu:u.flat with
    | true=>exact DR.flat hfu k2
    | false=>exact k2.mono (X0 (Ext.refl _) (by simp))
  | slice t=>obtain⟨f,x,c',l1,a1,a2,a3,a4,a5,a6⟩:=Hp h hc (v:=.pair v1 v2) (k:=k) hl;exact⟨f,x,c',l1,a1,a2,a3,a4,a5,a6⟩
  | _=>exact hl.elim
 | nilp =>
  intro t c hc k l0 l r hl
  cases t with
  | ptr=>exact⟨true,(),c,l0,hl,hc,Ext.refl c,rfl,rfl,fun cs hr=>hr⟩
  | slice t=>obtain⟨f,x,c',l1,a1,a2,a3,a4,a5,a6⟩:=Hp h hc (v:=.nilp) (k:=k) hl;exact⟨f,x,c',l1,a1,a2,a3,a4,a5,a6⟩
  | _=>exact hl.elim
 | any=>intro t c hc k l0 l r hl;cases t with
  | slice t=>obtain⟨f,x,c',l1,a1,a2,a3,a4,a5,a6⟩:=Hp h hc (v:=.any) (k:=k) hl;exact⟨f,x,c',l1,a1,a2,a3,a4,a5,a6⟩
  | _=>exact hl.elim
 | un=>intro t c hc k l0 l r hl;cases t with
  | slice t=>obtain⟨f,x,c',l1,a1,a2,a3,a4,a5,a6⟩:=Hp h hc (v:=.un) (k:=k) hl;exact⟨f,x,c',l1,a1,a2,a3,a4,a5,a6⟩
  | _=>exact hl.elim
 | nils=>intro t c hc k l0 l r hl;cases t with
  | slice t=>obtain⟨f,x,c',l1,a1,a2,a3,a4,a5,a6⟩:=Hp h hc (v:=.nils) (k:=k) hl;exact⟨f,x,c',l1,a1,a2,a3,a4,a5,a6⟩
  | _=>exact hl.elim
 | own i n=>intro t c hc k l0 l r hl;cases t with
  | slice t=>obtain⟨f,x,c',l1,a1,a2,a3,a4,a5,a6⟩:=Hp h hc (v:=.own i n) (k:=k) hl;exact⟨f,x,c',l1,a1,a2,a3,a4,a5,a6⟩
  | _=>exact hl.elim
 | view i n p q cp=>intro t c hc k l0 l r hl;cases t with
  | slice t=>obtain⟨f,x,c',l1,a1,a2,a3,a4,a5,a6⟩:=Hp h hc (v:=.view i n p q cp) (k:=k) hl;exact⟨f,x,c',l1,a1,a2,a3,a4,a5,a6⟩
  | _=>exact hl.elim
 | mapp i=>intro t c hc k l0 l r hl;cases t<;>simp only[roK,Vl,Ba] at hl
 | mview i n p q=>intro t c hc k l0 l r hl;cases t with
  | slice t=>obtain⟨f,x,c',l1,a1,a2,a3,a4,a5,a6⟩:=Hp h hc (v:=.mview i n p q) (k:=k) hl;exact⟨f,x,c',l1,a1,a2,a3,a4,a5,a6⟩
  | _=>exact hl.elim
 | ptr i n=>intro t c hc k l0 l r hl;cases t with
  | slice t=>obtain⟨f,x,c',l1,a1,a2,a3,a4,a5,a6⟩:=Hp h hc (v:=.ptr i n) (k:=k) hl;exact⟨f,x,c',l1,a1,a2,a3,a4,a5,a6⟩
  | _=>exact hl.elim
 | eptr i n p q=>intro t c hc k l0 l r hl;cases t with
  | slice t=>obtain⟨f,x,c',l1,a1,a2,a3,a4,a5,a6⟩:=Hp h hc (v:=.eptr i n p q) (k:=k) hl;exact⟨f,x,c',l1,a1,a2,a3,a4,a5,a6⟩
  | _=>exact hl.elim
 | rptr i n p=>intro t c hc k l0 l r hl;cases t with
  | slice t=>obtain⟨f,x,c',l1,a1,a2,a3,a4,a5,a6⟩:=Hp h hc (v:=.rptr i n p) (k:=k) hl;exact⟨f,x,c',l1,a1,a2,a3,a4,a5,a6⟩
  | _=>exact hl.elim
 | tup v ih=>intro t c hc k l0 l r hl;cases t with
  | slice t=>obtain⟨f,x,c',l1,a1,a2,a3,a4,a5,a6⟩:=Hp h hc (v:=.tup v) (k:=k) hl;exact⟨f,x,c',l1,a1,a2,a3,a4,a5,a6⟩
  | _=>exact hl.elim
 | ub e r0=>intro t c hc k l0 l r hl;cases t with
  | slice t=>obtain⟨f,x,c',l1,a1,a2,a3,a4,a5,a6⟩:=Hp h hc (v:=.ub e r0) (k:=k) hl;exact⟨f,x,c',l1,a1,a2,a3,a4,a5,a6⟩
  | _=>exact hl.elim
 | fn g v ih=>intro t c hc k l0 l r hl;cases t with
  | slice t=>obtain⟨f,x,c',l1,a1,a2,a3,a4,a5,a6⟩:=Hp h hc (v:=.fn g v) (k:=k) hl;exact⟨f,x,c',l1,a1,a2,a3,a4,a5,a6⟩
  | _=>exact hl.elim
end
end Go.Pon
namespace Go.Pon
open Go
section
variable {K:Dq} {S:St} {used:Id→Nat→Prop} {γ:Id→Value} {a:Act} {w:World}
theorem Oj(t:Ty):K9 t []=some t∧inT t []∧By t []=0:=by cases t<;>exact⟨rfl,trivial,rfl⟩
def Bbv(S:St)(new:List Id)(m:Ez):AV→Prop
 | .ptr id p=>p=[]∧id∈new∧∃ fr c,An S.objs id=some (.mem fr m.ty c)
 | _=>False
def Cby(S:St)(new:List Id):Ez→AV→Prop
 | .ptr m,v=>Bbv S new m v
 | .optr m,v=>v=.nilp∨Bbv S new m v
 | _,_=>True
theorem Bbv.mono{new new':List Id}(h:∀ i,i∈new→i∈new'){m:Ez}{v:AV}(hb:Bbv S new m v):Bbv S new' m v:=by
 cases v<;>first|exact hb.elim|exact⟨hb.1,h _ hb.2.1,hb.2.2⟩
theorem Cby.mono{new new':List Id}(h:∀ i,i∈new→i∈new'){m:Ez}{v:AV}(hb:Cby S new m v):Cby S new' m v:=by
 cases m<;>first|trivial|exact Bbv.mono h hb|exact hb.imp id (Bbv.mono h)
theorem Bto(S:St)(γ:Id→Value)(l m:List Id):Hh S γ (l++m)=Hh S γ l++Hh S γ m:=by simp[Hh]
theorem Bsu(h:Hi K S used γ a w){id:Id}{fr:Bool}{u:Ty}{x:AV}(hob:An S.objs id=some (.mem fr u x)){m:Ez}(hu:u=m.ty)
  {ok:Bool→Nat→Prop} {y:m.den} {new:List Id} (hm:∀ cs,ARc (Bi K S.objs used γ w) x cs→MR w ok K.base m cs y (Hh S γ new)) {cs:List Value}
  (hr:ARc (Bi K S.objs used γ w) (.ptr id []) cs) :
  ∃ g e cur bs',cs=[.pointer (some ⟨g,0,none⟩)]∧w.heap[g]?=some (.cells cur e (0,0))∧MR w ok K.base m cur.toList y bs'∧Hh S γ (id::new)=g::bs':=by
 obtain⟨_,v0,rfl,_,hv0⟩:=hr
 obtain⟨g,u',h1,h2,h3,h4⟩:=hv0 u (Ai7 _ fr u x (.inl hob))
 have h1:γ id=_:=h1
 obtain⟨g',e,cur,o1,o2,o3,o4,o5⟩:=h.objs id _ hob
 have o1:γ id=_:=o1
 rw[h1] at o1
 cases o1
 have h0:By u []=0:=by cases u<;>rfl
 refine⟨g,e,cur,Hh S γ new,by rw[h4,h0],o2,hm _ o4,?_⟩
 simp[Hh,hob,h1,Bg]
theorem Bxp{α:Type}{C:Ap}(h:Hi K S used γ a w){frz:Bool}:∀ (m:Ez) (v:AV) {c:Cl} (hc:Ab8 S frz c) {k:m.den→Cl→OpT α} {l0 l:List Id} {r:α}
  (hl:Ba C S.objs (Dg frz m v c k) l0 r l),
  ∃ x c' l1 new,Ba C S.objs (k x c') l1 r l∧Ab8 S frz c'∧Ext c c'∧(Dn c'.ups).Perm (new++Dn c.ups)∧Amy v=m.ty.agg∧Cby S new m v ∧
   ∀ cs,ARc (Bi K S.objs used γ w) v cs→MR w (okL K S γ c') K.base m cs x (Hh S γ new):=by
 intro m
 induction m with
 | ro fr t =>
  intro v c hc k l0 l r hl
  simp only[Dg] at hl
  obtain⟨f,x,c',l1,a1,a2,a3,a4,a5,a6⟩:=Bgn h v t hc hl
  cases hb:(!fr||f||t.flat) with
  | false=>rw[hb] at a1;exact a1.elim
  | true =>
   rw[hb] at a1
   refine⟨x,c',l1,[],a1,a2,a3,by rw[a4];exact List.Perm.refl _,a5,trivial,fun cs hr=>⟨rfl,?_⟩⟩
   have hd:=a6 cs hr
   simp only[Bool.or_eq_true,Bool.not_eq_true'] at hb
   rcases hb with (rfl|rfl)|hb
   ·exact hd.mono (X0 (Ext.refl _) (by simp))
   ·exact hd.mono (X0 (Ext.refl _) (by simp))
   ·exact DR.flat hb hd
 | own fr t =>
  intro v c hc k l0 l r hl
  cases v
  case own id ver =>
   simp only[Dg] at hl
   cases hb:(Al3 c.ups id||Bba c.br id) with
   | true=>rw[hb] at hl;exact hl.elim
   | false =>
    rw[hb] at hl
    rw[Bool.or_eq_false_iff] at hb
    obtain⟨ob,hob,hl⟩:=hl
    dsimp only at hl
    split at hl
    ·rename_i ver' fr' u rows
     split at hl
     ·rename_i y h1 hy
      obtain⟨e,rfl⟩:=Cs hy
      cases e
      simp only[Bool.and_eq_true,Bool.or_eq_true,Bool.not_eq_true'] at h1
      obtain⟨h1,h2⟩:=h1
      obtain rfl:=Nat.eq_of_beq_eq_true h1
      obtain⟨i1,i2,i3⟩:=hc.move hb.1 hb.2 ⟨_,hob⟩
      refine⟨_,_,_,[id],hl,i1,i2,by rw[i3];exact List.Perm.refl _,rfl,trivial,fun cs hr=>?_⟩
      obtain⟨_,v0,rfl,_,hv0⟩:=hr
      have hv0:v0=γ id:=hv0 _ _ (Ft _ ver' fr' _ rows (.inl hob))
      have hfr:fr=true→fr'=true:=fun hf=>by
       rcases h2 with h2|h2
       ·rw[h2] at hf;cases hf
       ·exact h2
      refine⟨v0,rfl,?_⟩
      rcases h.objs id _ hob with⟨h1,h2⟩ | ⟨g,cap,cur,e,h1,h2,h3,h4,h5,h6,h7⟩
      ·exact .inl ⟨hv0.trans h1,h2,by have h1:γ id=_:=h1;simp[Hh,hob,h1,Bg]⟩
      ·exact .inr ⟨g,cap,cur,e,hv0.trans h1,h2,h3,h4,h5,h6.mono fun _ _=>DR.mono fun b hb=>Agm hfr b hb,fun hf=>h7 (hfr hf),by have h1:γ id=_:=h1;simp[Hh,hob,h1,Bg]⟩
     ·exact hl.elim
    ·exact hl.elim
  case nils =>
   simp only[Dg] at hl
   exact⟨_,c,l0,[],hl,hc,Ext.refl c,List.Perm.refl _,rfl,trivial,fun cs hr=>⟨_,hr,.inl ⟨rfl,rfl,rfl⟩⟩⟩
  all_goals (simp only[Dg,Ba] at hl)
 | ptr m ih =>
  intro v c hc k l0 l r hl
  cases v
  case ptr id p =>
   cases p with
   | cons _ _=>simp only[Dg,Ba] at hl
   | nil =>
    simp only[Dg] at hl
    cases hb:(Al3 c.ups id||Bba c.br id) with
    | true=>rw[hb] at hl;exact hl.elim
    | false =>
     rw[hb] at hl
     rw[Bool.or_eq_false_iff] at hb
     obtain⟨ob,hob,hl⟩:=hl
     dsimp only at hl
     split at hl
     ·rename_i fr u x
      cases hu:Ty.beq u m.ty with
      | false=>rw[hu] at hl;exact hl.elim
      | true =>
       rw[hu] at hl
       have hu:=Ty.beq_iff.1 hu
       obtain⟨i1,i2,i3⟩:=hc.move hb.1 hb.2 ⟨_,hob⟩
       obtain⟨y,c',l1,new,a1,a2,a3,a4,a5,a6,a7⟩:=ih x i1 hl
       refine⟨y,c',l1,id::new,a1,a2,i2.trans a3,?_,rfl,⟨rfl,by simp,fr,x,by rw[hob,hu]⟩,fun cs hr=>?_⟩
       ·rw[i3] at a4
        exact a4.trans List.perm_middle
       ·exact Bsu h hob hu a7 hr
     ·exact hl.elim
  all_goals (simp only[Dg,Ba] at hl)
 | optr m ih =>
  intro v c hc k l0 l r hl
  cases v
  case ptr id p =>
   cases p with
   | cons _ _=>simp only[Dg,Ba] at hl
   | nil =>
    simp only[Dg] at hl
    cases hb:(Al3 c.ups id||Bba c.br id) with
    | true=>rw[hb] at hl;exact hl.elim
    | false =>
     rw[hb] at hl
     rw[Bool.or_eq_false_iff] at hb
     obtain⟨ob,hob,hl⟩:=hl
     dsimp only at hl
     split at hl
     ·rename_i fr u x
      cases hu:Ty.beq u m.ty with
      | false=>rw[hu] at hl;exact hl.elim
      | true =>
       rw[hu] at hl
       have hu:=Ty.beq_iff.1 hu
       obtain⟨i1,i2,i3⟩:=hc.move hb.1 hb.2 ⟨_,hob⟩
       obtain⟨y,c',l1,new,a1,a2,a3,a4,a5,a6,a7⟩:=ih x i1 hl
       refine⟨some y,c',l1,id::new,a1,a2,i2.trans a3,?_,rfl,.inr ⟨rfl,by simp,fr,x,by rw[hob,hu]⟩,fun cs hr=>?_⟩
       ·rw[i3] at a4
        exact a4.trans List.perm_middle
       ·exact Bsu h hob hu a7 hr
     ·exact hl.elim
  case nilp =>
   simp only[Dg] at hl
   exact⟨none,c,l0,[],hl,hc,Ext.refl c,List.Perm.refl _,rfl,.inl rfl,fun cs hr=>⟨hr,rfl⟩⟩
  all_goals (simp only[Dg,Ba] at hl)
 | pair p q ih1 ih2 =>
  intro v c hc k l0 l r hl
  have key:∀ v1 v2,Ba C S.objs (Dg frz p v1 c fun x c=>Dg frz q v2 c fun y c=>k (x,y) c) l0 r l→∃ x c' l1 new,Ba C S.objs (k x c') l1 r l∧Ab8 S frz c'∧Ext c c'∧(Dn c'.ups).Perm (new++Dn c.ups) ∧
    ∀ c1 c2,ARc (Bi K S.objs used γ w) v1 c1→ARc (Bi K S.objs used γ w) v2 c2→MR w (okL K S γ c') K.base (.pair p q) (c1++c2) x (Hh S γ new):=by
   intro v1 v2 hl
   obtain⟨x1,c1,l1,n1,a1,a2,a3,a4,a5,a6,a7⟩:=ih1 v1 hc hl
   obtain⟨x2,c2,l2,n2,b1,b2,b3,b4,b5,b6,b7⟩:=ih2 v2 a2 a1
   refine⟨(x1,x2),c2,l2,n1++n2,b1,b2,a3.trans b3,?_,fun d1 d2 e1 e2=>⟨d1,d2,_,_,rfl,(a7 d1 e1).mono fun f=>X0 b3 id,b7 d2 e2,Bto ..⟩⟩
   exact (b4.trans ((List.Perm.append_left n2 a4))).trans (by rw[← List.append_assoc];exact List.Perm.append_right _ List.perm_append_comm)
  cases v
  case pair v1 v2 =>
   simp only[Dg] at hl
   obtain⟨x,c',l1,new,a1,a2,a3,a4,a5⟩:=key v1 v2 hl
   exact⟨x,c',l1,new,a1,a2,a3,a4,rfl,trivial,fun cs ⟨d1,d2,e1,e2,e3⟩=>by rw[e1];exact a5 d1 d2 e2 e3⟩
  case d fr t z =>
   cases t
   case pair t u =>
    simp only[Dg] at hl
    obtain⟨x,c',l1,new,a1,a2,a3,a4,a5⟩:=key (.d fr t z.1) (.d fr u z.2) hl
    refine⟨x,c',l1,new,a1,a2,a3,a4,rfl,trivial,fun cs hr=>?_⟩
    rw[← List.take_append_drop t.size cs]
    exact a5 _ _ hr.1 hr.2
   all_goals (simp only[Dg,Ba] at hl)
  all_goals (simp only[Dg,Ba] at hl)
 | full t =>
  intro v c hc k l0 l r hl
  cases v
  case view id ver lo hi cp =>
   simp only[Dg] at hl
   cases hb:(!(cp&&Nat.beq lo 0&&t.flat)||(Al3 c.ups id||Bba c.br id)) with
   | true=>rw[hb] at hl;exact hl.elim
   | false =>
    rw[hb] at hl
    simp only[Bool.or_eq_false_iff,Bool.not_eq_false',Bool.and_eq_true] at hb
    obtain⟨⟨⟨hcp,hlo⟩,hfl⟩,hb1,hb2⟩:=hb
    obtain rfl:=Nat.eq_of_beq_eq_true hlo
    subst hcp
    obtain⟨ob,hob,hl⟩:=hl
    dsimp only at hl
    split at hl
    ·rename_i ver' fr' u rows
     split at hl
     ·rename_i y h1 hy
      obtain⟨e,rfl⟩:=Cs hy
      cases e
      obtain rfl:=Nat.eq_of_beq_eq_true h1
      obtain⟨hq,hl⟩:=C3 hl
      simp only[Bool.and_eq_true,decide_eq_true_eq] at hq
      obtain⟨hq1,hq2⟩:=hq
      obtain⟨i1,i2,i3⟩:=hc.move hb1 hb2 ⟨_,hob⟩
      refine⟨_,_,_,[id],hl,i1,i2,by rw[i3];exact List.Perm.refl _,rfl,trivial,fun cs hr=>?_⟩
      obtain⟨_,v0,rfl,_,hv0⟩:=hr
      obtain⟨v1,v2,ad,cc,v3,v4,v5,v6,v7,v8⟩:=hv0 _ _ (Ft _ ver' fr' _ rows (.inl hob))
      obtain⟨g,m,cp',k1,k2⟩:=v7 hq1
      have k1:γ id=_:=k1
      rcases h.objs id _ hob with⟨h1,h2⟩ | ⟨g',cap,cur,e,h1,h2,h3,h4,h5,h6,h7⟩
      ·have h1:γ id=_:=h1
       rw[k1] at h1;cases h1
      ·have h1:γ id=_:=h1
       have hg:g=g':=by rw[k1] at h1;cases h1;rfl
       subst hg
       refine⟨hfl,.inr ⟨g,cap,cur,e,?_,h2,h3,h4,h5,h6.mono fun _ _=>DR.flat hfl,by simp[Hh,hob,h1,Bg]⟩⟩
       rw[v3,k2,v8 rfl,Nat.zero_mul,Nat.sub_zero,hq2]
     ·exact hl.elim
    ·exact hl.elim
  case nils =>
   simp only[Dg] at hl
   cases hf:t.flat with
   | false=>rw[hf] at hl;exact hl.elim
   | true =>
    rw[hf] at hl
    exact⟨_,c,l0,[],hl,hc,Ext.refl c,List.Perm.refl _,rfl,trivial,fun cs hr=>⟨hf,.inl ⟨hr,rfl,rfl⟩⟩⟩
  all_goals (simp only[Dg,Ba] at hl)
 | bor t =>
  intro v c hc k l0 l r hl
  cases v
  case own id ver =>
   simp only[Dg] at hl
   cases hg:Arz c.ups id with
   | true=>rw[hg] at hl;exact hl.elim
   | false =>
    rw[hg] at hl
    have hg':¬ (id,none)∈c.ups:=fun hm=>by rw[Anj.2 hm] at hg;cases hg
    have key:∀ (ver':Nat) (fr:Bool) (rows:List t.den) (c':Cl),ver'=ver→(An S.objs id=some (.sli ver' fr t rows)∨An S.objs id=some (.frz ver' fr t rows)) →
      ((∃ ver fr t rows,An S.objs id=some (.sli ver fr t rows))→lent c' id) →
      ∀ cs,ARc (Bi K S.objs used γ w) (.own id ver) cs→MR w (okL K S γ c') K.base (.bor t) cs rows (Hh S γ []):=by
     intro ver' fr rows c' hver ho' hlen cs hr
     subst hver
     obtain⟨_,v0,rfl,_,hv0⟩:=hr
     have hv0:v0=γ id:=hv0 _ _ (Ft _ ver' fr _ rows ho')
     refine⟨rfl,v0,rfl,?_,fun a n c e=>?_⟩
     ·rw[hv0]
      exact DR.mono (t:=.slice t) (X0 (Ext.refl _) (by simp)) (Bz3 h ho' hlen)
     ·rw[hv0] at e
      rcases ho' with ho'|ho'
      ·rcases h.objs id _ ho' with⟨h1,_⟩ | ⟨g,cap,cur,e',h1,_⟩
       ·have h1:γ id=_:=h1
        rw[h1] at e;cases e
       ·have h1:γ id=_:=h1
        rw[h1] at e;cases e;exact⟨rfl,rfl⟩
      ·exact (h.objs id _ ho').2 a n c e
    obtain⟨ob,hob,hl⟩:=hl
    dsimp only at hl
    split at hl
    ·rename_i ver' fr u rows
     split at hl
     ·rename_i y h1 hy
      obtain⟨e,rfl⟩:=Cs hy
      cases e
      obtain rfl:=Nat.eq_of_beq_eq_true h1
      obtain⟨i1,i2,i3,i4⟩:=hc.lend (id:=id) (o:=.frz ver' fr t rows) hg' (.inl ⟨_,_,_,_,hob,rfl⟩)
      exact⟨_,_,_,[],hl,i1,i2,by rw[i3];exact List.Perm.refl _,rfl,trivial,key ver' fr rows _ rfl (.inl hob) fun _=>i4⟩
     ·exact hl.elim
    ·rename_i ver' fr u rows
     split at hl
     ·rename_i y h1 hy
      obtain⟨e,rfl⟩:=Cs hy
      cases e
      obtain rfl:=Nat.eq_of_beq_eq_true h1
      exact⟨_,c,_,[],hl,hc,Ext.refl c,List.Perm.refl _,rfl,trivial,key ver' fr rows c rfl (.inr hob) fun⟨_,_,_,_,h⟩=>by rw[hob] at h;cases h⟩
     ·exact hl.elim
    ·exact hl.elim
  all_goals (simp only[Dg,Ba] at hl)
 | mapm kk t =>
  intro v c hc k l0 l r hl
  cases v
  case mapp id =>
   simp only[Dg] at hl
   cases hb:(Al3 c.ups id||Bba c.br id) with
   | true=>rw[hb] at hl;exact hl.elim
   | false =>
    rw[hb] at hl
    rw[Bool.or_eq_false_iff] at hb
    obtain⟨ob,hob,hl⟩:=hl
    dsimp only at hl
    split at hl
    ·rename_i kk' u rows
     split at hl
     ·rename_i y h1 hy
      obtain⟨e,rfl⟩:=Cs hy
      cases e
      obtain rfl:=Amq.1 h1
      obtain⟨i1,i2,i3⟩:=hc.move hb.1 hb.2 ⟨_,hob⟩
      refine⟨_,_,_,[id],hl,i1,i2,by rw[i3];exact List.Perm.refl _,rfl,trivial,fun cs hr=>?_⟩
      obtain⟨_,v0,rfl,_,hv0⟩:=hr
      have hv0:v0=γ id:=hv0 _ _ ⟨rows,hob⟩
      obtain⟨h0,g,es,clock,h1,h2,h3⟩:=h.objs id _ hob
      have h1:γ id=_:=h1
      exact⟨h0,g,es,clock,by rw[hv0,h1],h2,h3,by simp[Hh,hob,h1,Bg]⟩
     ·exact hl.elim
    ·exact hl.elim
  all_goals (simp only[Dg,Ba] at hl)
 | rp t =>
  intro v c hc k l0 l r hl
  cases v
  case rptr f u x =>
   simp only[Dg] at hl
   split at hl
   ·rename_i y hy
    obtain⟨e,rfl⟩:=Cs hy
    subst e
    refine⟨_,c,l0,[],hl,hc,Ext.refl c,List.Perm.refl _,rfl,trivial,fun cs hr=>⟨rfl,?_⟩⟩
    obtain⟨v,h1,h2,a,vs,h3,h4,h5,h6,h7⟩:=hr
    exact⟨v,h1,h2,a,vs,h3,h4,fun hp=>Agm (by simp) _ (h5 hp),h6,h7.mono fun b hb=>Agm (by simp) b hb⟩
   ·exact hl.elim
  case ptr id p =>
   cases p with
   | cons _ _=>simp only[Dg,Ba] at hl
   | nil =>
    simp only[Dg] at hl
    cases hg:Arz c.ups id with
    | true=>rw[hg] at hl;exact hl.elim
    | false =>
     rw[hg] at hl
     have hg':¬ (id,none)∈c.ups:=fun hm=>by rw[Anj.2 hm] at hg;cases hg
     have key:∀ (fm:Bool) (m:AV) (x:t.den) (f:Bool) (c':Cl),(An S.objs id=some (.mem fm t m)∨An S.objs id=some (.mfz fm t m))→((∃ fr t m,An S.objs id=some (.mem fr t m))→lent c' id) →
       (∀ cs,ARc (Bi K S.objs used γ w) m cs→DR w (okL K S γ c' f) t cs x)→∀ cs,ARc (Bi K S.objs used γ w) (.ptr id []) cs→MR w (okL K S γ c') K.base (.rp t) cs x (Hh S γ []):=by
      intro fm m x f c' ho' hlen hx cs hr
      obtain⟨_,v0,rfl,hone,hv0⟩:=hr
      obtain⟨g,u',q1,q2,q3,q4⟩:=hv0 t (Ai7 _ fm t m ho')
      obtain⟨g',e',cur,m1,m2,m3,m4⟩:=Bf1 h ho'
      have q1:γ id=_:=q1
      rw[q1] at m1
      cases m1
      have hgo:okL K S γ c' false g:=by
       rcases ho' with ho'|ho'
       ·have hlv:Bg (An S.objs id) (γ id)=some g:=by rw[ho',q1];rfl
        exact⟨fun id' hid'=>by rw[h.sep id' id g hid' hlv];exact hlen ⟨_,_,_,ho'⟩,(h.mod id g hlv).2,fun hf=>by cases hf⟩
       ·obtain⟨_,o6⟩:=h.objs id _ ho'
        exact Agm (by simp) g (o6 _ q1)
      refine⟨rfl,v0,rfl,hone,⟨g,0,none⟩,cur.toList,by rw[q4,(Oj t).2.2],rfl,fun _=>hgo,fun j y hj=>?_,(hx _ m4).mono (X0 (Ext.refl _) (by simp))⟩
      have:=Abx m2 0 cur.size j y (by
       rw[List.drop_zero,List.take_of_length_le (by simp)]
       exact hj)
      simpa using this
     obtain⟨ob,hob,hl⟩:=hl
     dsimp only at hl
     split at hl
     ·rename_i fm u m
      cases hu:Ty.beq u t with
      | false=>rw[hu] at hl;exact hl.elim
      | true =>
       rw[hu] at hl
       obtain rfl:=Ty.beq_iff.1 hu
       obtain⟨i1,i2,i3,i4⟩:=hc.lend (id:=id) (o:=.mfz fm u m) hg' (.inr ⟨_,_,_,hob,rfl⟩)
       obtain⟨f,x,c',l1,a1,a2,a3,a4,a5,a6⟩:=Bgn h m u i1 hl
       exact⟨x,c',l1,[],a1,a2,i2.trans a3,by rw[a4,i3];exact List.Perm.refl _,rfl,trivial,key fm m x f c' (.inl hob) (fun _=>a3.lent i4) a6⟩
     ·rename_i fm u m
      cases hu:Ty.beq u t with
      | false=>rw[hu] at hl;exact hl.elim
      | true =>
       rw[hu] at hl
       obtain rfl:=Ty.beq_iff.1 hu
       obtain⟨f,x,c',l1,a1,a2,a3,a4,a5,a6⟩:=Bgn h m u hc hl
       exact⟨x,c',l1,[],a1,a2,a3,by rw[a4];exact List.Perm.refl _,rfl,trivial,key fm m x f c' (.inr hob) (fun⟨_,_,_,h⟩=>by rw[hob] at h;cases h) a6⟩
     ·exact hl.elim
  all_goals (simp only[Dg,Ba] at hl)
 | ign =>
  intro v c hc k l0 l r hl
  cases v
  case fn f x =>
   simp only[Dg] at hl
   exact⟨(),c,l0,[],hl,hc,Ext.refl c,List.Perm.refl _,rfl,trivial,fun cs hr=>rfl⟩
  all_goals (simp only[Dg,Ba] at hl)
 | orp t =>
  intro v c hc k l0 l r hl
  cases v
  case nilp =>
   simp only[Dg] at hl
   exact⟨none,c,l0,[],hl,hc,Ext.refl c,List.Perm.refl _,rfl,trivial,fun cs hr=>⟨hr,rfl⟩⟩
  case rptr f u x =>
   simp only[Dg] at hl
   split at hl
   ·rename_i y hy
    obtain⟨e,rfl⟩:=Cs hy
    subst e
    refine⟨_,c,l0,[],hl,hc,Ext.refl c,List.Perm.refl _,rfl,trivial,fun cs hr=>⟨rfl,?_⟩⟩
    obtain⟨v,h1,h2,a,vs,h3,h4,h5,h6,h7⟩:=hr
    exact⟨v,h1,h2,a,vs,h3,h4,fun hp=>Agm (by simp) _ (h5 hp),h6,h7.mono fun b hb=>Agm (by simp) b hb⟩
   ·exact hl.elim
  all_goals (simp only[Dg,Ba] at hl)
 | nilm t =>
  intro v c hc k l0 l r hl
  cases v
  case nils =>
   simp only[Dg] at hl
   exact⟨(),c,l0,[],hl,hc,Ext.refl c,List.Perm.refl _,rfl,trivial,fun cs hr=>⟨hr,rfl⟩⟩
  all_goals (simp only[Dg,Ba] at hl)
 | fn f m ih =>
  intro v c hc k l0 l r hl
  cases v
  case fn g x =>
   simp only[Dg] at hl
   cases hg:Nat.beq f g with
   | false=>rw[hg] at hl;exact hl.elim
   | true =>
    rw[hg] at hl
    obtain rfl:=Nat.eq_of_beq_eq_true hg
    obtain⟨y,c',l1,new,a1,a2,a3,a4,a5,a6,a7⟩:=ih x hc hl
    exact⟨y,c',l1,new,a1,a2,a3,a4,rfl,trivial,fun cs ⟨vs,e1,e2⟩=>⟨vs,e1,a7 _ e2⟩⟩
  all_goals (simp only[Dg,Ba] at hl)
def Bfy:AV→Bool
 | .any=>false
 | .un=>false
 | .tup _=>false
 | _=>true
theorem Zh{E:Vv}{v:AV}{val:Value}(hs:Bfy v=true)(h:E7 E v val):G7 E v val:=by
 cases v<;>first|exact h|cases hs
theorem Bwr{α:Type}{C:Ap}{frz:Bool}{m:Ez}{v:AV}{c:Cl}{k:m.den→Cl→OpT α}{l0 l:List Id}{r:α}(hl:Ba C S.objs (Dg frz m v c k) l0 r l):Bfy v=true:=by
 cases v
 case any=>cases m with
  | ro fr t=>cases t<;>simp only[Dg,roK,Vl,Ba] at hl
  | _=>simp only[Dg,Ba] at hl
 case un=>cases m with
  | ro fr t=>cases t<;>simp only[Dg,roK,Vl,Ba] at hl
  | _=>simp only[Dg,Ba] at hl
 case tup _=>cases m with
  | ro fr t=>cases t<;>simp only[Dg,roK,Vl,Ba] at hl
  | _=>simp only[Dg,Ba] at hl
 all_goals rfl
theorem Aka{α:Type}{C:Ap}(h:Hi K S used γ a w){frz:Bool}:∀ (ms:List Ez) (vs:List AV) {c:Cl} (hc:Ab8 S frz c) {k:O7 ms→Cl→OpT α} {l0 l:List Id} {r:α}
  (hl:Ba C S.objs (Any frz ms vs c k) l0 r l),
  ∃ x c' l1 new,Ba C S.objs (k x c') l1 r l∧Ab8 S frz c'∧Ext c c'∧(Dn c'.ups).Perm (new++Dn c.ups)∧(∀ (i:Nat) (m:Ez) (v:AV),ms[i]?=some m→vs[i]?=some v→Cby S new m v) ∧
   ∀ vals:List Value,vals.length=vs.length→(∀ (i:Nat) (v:AV) (val:Value),vs[i]?=some v→vals[i]?=some val→E7 (Bi K S.objs used γ w) v val)→MRL w (okL K S γ c') K.base ms vals x (Hh S γ new):=by
 intro ms
 induction ms with
 | nil =>
  intro vs c hc k l0 l r hl
  cases vs with
  | nil=>exact⟨(),c,l0,[],hl,hc,Ext.refl c,List.Perm.refl _,by simp,fun vals hv _=>⟨by simpa using hv,rfl⟩⟩
  | cons _ _=>exact hl.elim
 | cons m ms ih =>
  intro vs c hc k l0 l r hl
  cases vs with
  | nil=>exact hl.elim
  | cons v vs =>
   obtain⟨x1,c1,l1,n1,a1,a2,a3,a4,a5,a6,a7⟩:=Bxp h m v hc hl
   obtain⟨x2,c2,l2,n2,b1,b2,b3,b4,b5,b6⟩:=ih vs a2 a1
   refine⟨(x1,x2),c2,l2,n1++n2,b1,b2,a3.trans b3,?_,fun i m' v' h1 h2=>?_,fun vals hv hr=>?_⟩
   ·exact (b4.trans ((List.Perm.append_left n2 a4))).trans (by rw[← List.append_assoc];exact List.Perm.append_right _ List.perm_append_comm)
   ·cases i with
    | zero =>
     simp at h1 h2
     subst h1 h2
     exact a6.mono (fun _ h=>List.mem_append_left _ h)
    | succ i=>exact (b5 i m' v' (by simpa using h1) (by simpa using h2)).mono (fun _ h=>List.mem_append_right _ h)
   ·cases vals with
    | nil=>simp at hv
    | cons val vals =>
     have hv0:=hr 0 v val rfl rfl
     have h1:=b6 vals (by simpa using hv) (fun i v' val' e1 e2=>hr (i+1) v' val' (by simpa using e1) (by simpa using e2))
     obtain⟨k1,k2⟩:=Zh (Bwr hl) hv0
     exact⟨val,vals,_,_,rfl,by rw[← k2,a5],(a7 _ k1).mono fun f=>X0 b3 id,h1,Bto ..⟩
end
end Go.Pon
namespace Go.Pon
open Go
abbrev I6:=List (Id×Obj×Value)
def I6.ups(N:I6):Rc:=N.map fun p=>(p.1,some p.2.1)
def I6.blk(N:I6):List Nat:=N.filterMap fun p=>Bg (some p.2.1) p.2.2
def Obj.isNew:Obj→Prop
 | .sli 0 _ _ _=>True
 | .mem _ _ _=>True
 | .frz 0 _ _ _=>True
 | .mpo _ _ _=>True
 | _=>False
structure Agr(n n':Id)(N:I6):Prop where
 fst:n'.1=n.1
 snd:n'.2.1=n.2.1
 le:n.2.2≤n'.2.2
 ids:∀ p∈N,p.1.1=n.1∧p.1.2.1=n.2.1∧n.2.2≤p.1.2.2∧p.1.2.2<n'.2.2
 nodup:(N.map (·.1)).Nodup
 fresh:∀ p∈N,p.2.1.isNew
theorem Agr.nil(n:Id):Agr n n []:=⟨rfl,rfl,Nat.le_refl _,by simp,by simp,by simp⟩
theorem Agr.app{n n' n'':Id}{N M:I6}(h:Agr n n' N)(k:Agr n' n'' M):Agr n n'' (M++N) where
 fst:=k.fst.trans h.fst
 snd:=k.snd.trans h.snd
 le:=Nat.le_trans h.le k.le
 ids:=fun p hp=>by
  rcases List.mem_append.1 hp with hp|hp
  ·obtain⟨h1,h2,h3,h4⟩:=k.ids p hp
   exact⟨h1.trans h.fst,h2.trans h.snd,Nat.le_trans h.le h3,h4⟩
  ·obtain⟨h1,h2,h3,h4⟩:=h.ids p hp
   exact⟨h1,h2,h3,Nat.lt_of_lt_of_le h4 k.le⟩
 nodup:=by
  rw[List.map_append,List.nodup_append]
  refine⟨k.nodup,h.nodup,fun i hi j hj e=>?_⟩
  obtain⟨p,hp,rfl⟩:=List.mem_map.1 hi
  obtain⟨q,hq,rfl⟩:=List.mem_map.1 hj
  have h1:=k.ids p hp
  have h2:=h.ids q hq
  rw[e] at h1
  omega
 fresh:=fun p hp=>by
  rcases List.mem_append.1 hp with hp|hp
  ·exact k.fresh p hp
  ·exact h.fresh p hp
theorem Agr.cons{n n':Id}{N:I6}(h:Agr n.nxt n' N){o:Obj}(ho:o.isNew)(v:Value):Agr n n' ((n,o,v)::N):=by
 obtain⟨n1,n2,n3⟩:=n
 obtain⟨h1,h2,h3,h4,h5,h6⟩:=h
 simp only[Id.nxt] at *
 refine⟨h1,h2,by show n3≤_;omega,fun p hp=>?_,?_,fun p hp=>?_⟩
 ·simp only[List.mem_cons] at hp
  rcases hp with rfl|hp
  ·exact⟨rfl,rfl,Nat.le_refl _,by show n3<_;omega⟩
  ·obtain⟨k1,k2,k3,k4⟩:=h4 p hp
   exact⟨k1,k2,by show n3≤_;omega,k4⟩
 ·simp only[List.map_cons,List.nodup_cons]
  refine⟨fun hm=>?_,h5⟩
  obtain⟨p,hp,e⟩:=List.mem_map.1 hm
  have:=(h4 p hp).2.2.1
  rw[e] at this
  simp at this
  omega
 ·simp only[List.mem_cons] at hp
  rcases hp with rfl|hp
  ·exact ho
  ·exact h6 p hp
theorem I6.blk_app(N M:I6):I6.blk (N++M)=I6.blk N++I6.blk M:=by simp[I6.blk]
theorem I6.ups_app(N M:I6):I6.ups (N++M)=I6.ups N++I6.ups M:=by simp[I6.ups]
structure Yz(w:World)(ok:Bool→Nat→Prop)(base:Nat)(N:I6)(K:Dq)(E:Vv):Prop where
 base:K.base=base
 w:E.w=w
 ok:∀ f b,ok f b→E.ok f b
 at_:∀ p∈N,E.o p.1=some p.2.1∧E.γ p.1=p.2.2∧E.used p.1 0
theorem Yz.sub{w:World}{ok:Bool→Nat→Prop}{base:Nat}{N M:I6}{K:Dq}{E:Vv}(h:Yz w ok base N K E)(hs:∀ p∈M,p∈N):Yz w ok base M K E :=
 ⟨h.base,h.w,h.ok,fun p hp=>h.at_ p (hs p hp)⟩
section
variable {α:Type} {C:Ap} {objs:Rc} {w:World} {ok:Bool→Nat→Prop} {base:Nat}
theorem Bnv{N:I6}{n:Id}{v:AV}{m:Ez}{g e}{cur:Array Value}{K:Dq}{E:Vv}(hg:w.heap[g]?=some (.cells cur e (0,0)))(hf:Bh m.ty v=true)
  (hv:∀ (K:Dq) (E:Vv),Yz w ok base N K E→ARc E v cur.toList∧∀ p∈N,OR K E p.1 p.2.1)
  (hp:Yz w ok base ((n,.mem false m.ty v,.pointer (some ⟨g,0,none⟩))::N) K E) :
  ARc E (.ptr n []) [.pointer (some ⟨g,0,none⟩)]∧∀ p∈((n,Obj.mem false m.ty v,Value.pointer (some ⟨g,0,none⟩))::N:I6),OR K E p.1 p.2.1:=by
 obtain⟨h1,h2⟩:=hv K E (hp.sub fun p hp=>List.mem_cons_of_mem _ hp)
 obtain⟨p1,p2,p3⟩:=hp.at_ _ (List.mem_cons_self ..)
 refine⟨⟨p3,_,rfl,rfl,fun t ht=>⟨g,t,p2,(Oj t).1,(Oj t).2.1,by rw[(Oj t).2.2]⟩⟩,fun p hm=>?_⟩
 rcases List.mem_cons.1 hm with rfl|hm
 ·exact⟨g,e,cur,p2,by rw[hp.w];exact hg,hf,h1,fun h=>by cases h⟩
 ·exact h2 p hm
theorem Bo4:∀ (m:Ez) {cs:List Value} {x:m.den} {bs:List Nat} (hm:MR w ok base m cs x bs) {n:Id} {u:Rc} {k:AV→Id→Rc→OpT α} {l0 l:List Id} {r:α}
  (hl:Ba C objs (Ax4 m x n u k) l0 r l),
  ∃ v n' N,Ba C objs (k v n' (I6.ups N++u)) l0 r l∧Agr n n' N∧Bh m.ty v=true∧Bfy v=true∧(I6.blk N).Perm bs ∧
   ∀ (K:Dq) (E:Vv),Yz w ok base N K E→ARc E v cs∧∀ p∈N,OR K E p.1 p.2.1:=by
 intro m
 induction m with
 | ro fr t =>
  rintro cs x bs ⟨rfl,hd⟩ n u k l0 l r hl
  refine⟨_,n,[],hl,Agr.nil n,by simp[mkD,Bh,Ez.ty,Ty.beq_iff],rfl,List.Perm.refl _,fun K E hp=>⟨?_,by simp⟩⟩
  show DR E.w (E.ok (fr||t.flat)) t cs x
  rw[hp.w]
  cases ht:t.flat with
  | true=>exact DR.flat ht hd
  | false=>rw[Bool.or_false];exact hd.mono (hp.ok fr)
 | own fr t =>
  rintro cs x bs ⟨v,rfl,hd⟩ n u k l0 l r hl
  have hv:C7 v=false∧v.oneCell'=true:=by
   rcases hd with⟨rfl,_⟩ | ⟨_,_,_,_,rfl,_⟩<;>exact⟨rfl,rfl⟩
  refine⟨.own n 0,n.nxt,[(n,.sli 0 fr t x,v)],hl,(Agr.nil n.nxt).cons (o:=.sli 0 fr t x) trivial v,by simp[Bh,Ez.ty,Ty.agg],rfl,?_,fun K E hp=>?_⟩
  ·rcases hd with⟨rfl,_,rfl⟩ | ⟨g,_,_,_,rfl,_,_,_,_,_,_,rfl⟩
   ·exact List.Perm.refl _
   ·exact List.Perm.refl _
  ·obtain⟨p1,p2,p3⟩:=hp.at_ _ (List.mem_cons_self ..)
   refine⟨⟨p3,v,rfl,hv.2,fun t n _=>p2.symm⟩,fun p hm=>?_⟩
   obtain rfl:=List.mem_singleton.1 hm
   show Ccp E fr t x K.base _
   rw[p2]
   rcases hd with⟨rfl,h2,_⟩ | ⟨g,cap,cur,e,rfl,h2,h3,h4,h5,h6,h7,_⟩
   ·exact .inl ⟨rfl,h2⟩
   ·exact .inr ⟨g,cap,cur,e,rfl,by rw[hp.w];exact h2,h3,h4,h5,by rw[hp.w];exact h6.mono fun _ _=>DR.mono (hp.ok fr),by rw[hp.base];exact h7⟩
 | ptr m ih =>
  rintro cs x bs ⟨g,e,cur,bs',rfl,h2,h3,rfl⟩ n u k l0 l r hl
  obtain⟨v,n',N,a1,a2,a3,a4,a5,a6⟩:=ih h3 hl
  exact⟨.ptr n [],n',(n,.mem false m.ty v,.pointer (some ⟨g,0,none⟩))::N,a1,a2.cons (o:=.mem false m.ty v) trivial _,rfl,rfl,by
   show (g::I6.blk N).Perm _
   exact List.Perm.cons g a5,fun K E hp=>Bnv h2 a3 a6 hp⟩
 | optr m ih =>
  intro cs x bs hm n u k l0 l r hl
  cases x with
  | none =>
   obtain⟨rfl,rfl⟩:=hm
   rcases hl with⟨_,hl⟩ | ⟨y,hy,_⟩
   ·exact⟨.nilp,n,[],hl,Agr.nil n,rfl,rfl,List.Perm.refl _,fun K E hp=>⟨rfl,by simp⟩⟩
   ·cases hy
  | some x =>
   obtain⟨g,e,cur,bs',rfl,h2,h3,rfl⟩:=hm
   rcases hl with⟨hy,_⟩ | ⟨y,hy,hl⟩
   ·cases hy
   ·cases hy
    obtain⟨v,n',N,a1,a2,a3,a4,a5,a6⟩:=ih h3 hl
    exact⟨.ptr n [],n',(n,.mem false m.ty v,.pointer (some ⟨g,0,none⟩))::N,a1,a2.cons (o:=.mem false m.ty v) trivial _,rfl,rfl,by
     show (g::I6.blk N).Perm _
     exact List.Perm.cons g a5,fun K E hp=>Bnv h2 a3 a6 hp⟩
 | pair p q ih1 ih2 =>
  rintro cs x bs ⟨c1,c2,b1,b2,rfl,h2,h3,rfl⟩ n u k l0 l r hl
  obtain⟨v1,n1,N1,a1,a2,a3,a4,a5,a6⟩:=ih1 h2 hl
  obtain⟨v2,n2,N2,d1,d2,d3,d4,d5,d6⟩:=ih2 h3 a1
  refine⟨.pair v1 v2,n2,N2++N1,by rw[I6.ups_app,List.append_assoc];exact d1,a2.app d2,by simp[Bh,Ez.ty,a3,d3],rfl,?_,fun K E hp=>?_⟩
  ·rw[I6.blk_app]
   exact List.perm_append_comm.trans (List.Perm.append a5 d5)
  ·obtain⟨e1,e2⟩:=a6 K E (hp.sub fun p h=>List.mem_append_right _ h)
   obtain⟨e3,e4⟩:=d6 K E (hp.sub fun p h=>List.mem_append_left _ h)
   refine⟨⟨c1,c2,rfl,e1,e3⟩,fun p h=>?_⟩
   rcases List.mem_append.1 h with h|h
   ·exact e4 p h
   ·exact e2 p h
 | full t =>
  rintro cs x bs ⟨h0,hd⟩ n u k l0 l r hl
  rcases hd with⟨rfl,rfl,rfl⟩ | ⟨g,cap,cur,e,rfl,h2,h3,h4,h5,h6,rfl⟩
  ·refine⟨.view n 0 0 0 true,n.nxt,[(n,.sli 0 false t [],.slice none 0 0)],hl,(Agr.nil n.nxt).cons (o:=.sli 0 false t []) trivial _,by simp[Bh,Ez.ty,Ty.agg],rfl,List.Perm.refl _,fun K E hp=>?_⟩
   obtain⟨p1,p2,p3⟩:=hp.at_ _ (List.mem_cons_self ..)
   refine⟨⟨p3,_,rfl,rfl,fun t' n' hsl=>⟨Nat.zero_le _,Nat.zero_le _,none,0,rfl,Nat.le_refl _,Nat.zero_le _,fun _=>rfl,fun h=>absurd h (Nat.lt_irrefl _),fun _=>rfl⟩⟩,fun p hm=>?_⟩
   obtain rfl:=List.mem_singleton.1 hm
   exact .inl ⟨p2,rfl⟩
  ·refine⟨.view n 0 0 (List.length x) true,n.nxt,[(n,.sli 0 false t x,.slice (some ⟨g,0,none⟩) (List.length x) cap)],hl,(Agr.nil n.nxt).cons (o:=.sli 0 false t x) trivial _,by simp[Bh,Ez.ty,Ty.agg],rfl,List.Perm.refl _,fun K E hp=>?_⟩
   obtain⟨p1,p2,p3⟩:=hp.at_ _ (List.mem_cons_self ..)
   refine⟨⟨p3,_,rfl,rfl,fun t' n' hsl=>?_⟩,fun p hm=>?_⟩
   ·have hsl:Agt (E.o n) 0 t' n':=hsl
    have p1:E.o n=_:=p1
    rw[p1] at hsl
    obtain⟨f2,r2,k1,k2⟩:=hsl
    rcases k2 with k2|k2
    ·cases k2
     refine⟨Nat.zero_le _,by omega,_,_,rfl,Nat.le_refl _,by omega,(fun h=>by cases h),fun _=>⟨g,_,cap,p2,by rw[Nat.zero_mul]⟩,fun _=>rfl⟩
    ·cases k2
   ·obtain rfl:=List.mem_singleton.1 hm
    show Ccp E false t x K.base _
    rw[p2]
    exact .inr ⟨g,cap,cur,e,rfl,by rw[hp.w];exact h2,h3,h4,h5,by rw[hp.w];exact h6.mono fun _ _=>DR.mono (hp.ok false),(fun h=>by cases h)⟩
 | bor t =>
  rintro cs x bs ⟨rfl,v,rfl,hd,ha⟩ n u k l0 l r hl
  have hv:v.oneCell'=true∧Bg (some (.frz 0 false t x)) v=none:=by
   obtain⟨a,cap,e,_⟩:=hd
   cases e
   exact⟨rfl,rfl⟩
  refine⟨.own n 0,n.nxt,[(n,.frz 0 false t x,v)],hl,(Agr.nil n.nxt).cons (o:=.frz 0 false t x) trivial v,by simp[Bh,Ez.ty,Ty.agg],rfl,?_,fun K E hp=>?_⟩
  ·simp[I6.blk,hv.2]
  ·obtain⟨p1,p2,p3⟩:=hp.at_ _ (List.mem_cons_self ..)
   refine⟨⟨p3,v,rfl,hv.1,fun t n _=>p2.symm⟩,fun p hm=>?_⟩
   obtain rfl:=List.mem_singleton.1 hm
   have p2:E.γ n=v:=p2
   show DR E.w (E.ok false) (.slice t) [E.γ n] x∧∀ a n' c,E.γ n=.slice (some a) n' c→_
   rw[p2,hp.w]
   exact⟨DR.mono (t:=.slice t) (hp.ok false) hd,ha⟩
 | mapm kk t =>
  rintro cs x bs ⟨h0,g,es,clock,rfl,h2,h3,rfl⟩ n u k l0 l r hl
  refine⟨.mapp n,n.nxt,[(n,.mpo kk t x,.map (some g))],hl,(Agr.nil n.nxt).cons (o:=.mpo kk t x) trivial _,rfl,rfl,List.Perm.refl _,fun K E hp=>?_⟩
  obtain⟨p1,p2,p3⟩:=hp.at_ _ (List.mem_cons_self ..)
  refine⟨⟨p3,_,rfl,rfl,fun _ _ _=>p2.symm⟩,fun p hm=>?_⟩
  obtain rfl:=List.mem_singleton.1 hm
  exact⟨h0,g,es,clock,p2,by rw[hp.w];exact h2,by rw[hp.w];exact h3⟩
 | rp t =>
  rintro cs x bs ⟨rfl,hd⟩ n u k l0 l r hl
  refine⟨_,n,[],hl,Agr.nil n,rfl,rfl,List.Perm.refl _,fun K E hp=>⟨?_,by simp⟩⟩
  obtain⟨v,h1,h2,a,vs,h3,h4,h5,h6,h7⟩:=hd
  refine⟨v,h1,h2,a,vs,h3,h4,fun h=>hp.ok _ _ (h5 h),?_,?_⟩
  ·rw[hp.w];exact h6
  ·rw[hp.w];exact h7.mono (hp.ok false)
 | ign =>
  intro cs x bs hm n u k l0 l r hl
  exact hl.elim
 | orp t =>
  intro cs x bs hm n u k l0 l r hl
  cases x with
  | none =>
   obtain⟨rfl,rfl⟩:=hm
   rcases hl with⟨_,hl⟩ | ⟨y,hy,_⟩
   ·exact⟨.nilp,n,[],hl,Agr.nil n,rfl,rfl,List.Perm.refl _,fun K E hp=>⟨rfl,by simp⟩⟩
   ·cases hy
  | some x =>
   obtain⟨rfl,hd⟩:=hm
   rcases hl with⟨hy,_⟩ | ⟨y,hy,hl⟩
   ·cases hy
   ·cases hy
    refine⟨_,n,[],hl,Agr.nil n,rfl,rfl,List.Perm.refl _,fun K E hp=>⟨?_,by simp⟩⟩
    obtain⟨v,h1,h2,a,vs,h3,h4,h5,h6,h7⟩:=hd
    refine⟨v,h1,h2,a,vs,h3,h4,fun h=>hp.ok _ _ (h5 h),?_,?_⟩
    ·rw[hp.w];exact h6
    ·rw[hp.w];exact h7.mono (hp.ok false)
 | nilm t =>
  rintro cs x bs ⟨rfl,rfl⟩ n u k l0 l r hl
  exact⟨.nils,n,[],hl,Agr.nil n,rfl,rfl,List.Perm.refl _,fun K E hp=>⟨rfl,by simp⟩⟩
 | fn f m ih =>
  rintro cs x bs ⟨vs,rfl,h2⟩ n u k l0 l r hl
  obtain⟨v,n',N,a1,a2,a3,a4,a5,a6⟩:=ih h2 hl
  refine⟨.fn f v,n',N,a1,a2,rfl,rfl,a5,fun K E hp=>?_⟩
  obtain⟨e1,e2⟩:=a6 K E hp
  exact⟨⟨vs,rfl,e1⟩,e2⟩
def Bcm:AV→Bool
 | .un=>false
 | .tup _=>false
 | _=>true
theorem Bs5{v:AV}(h:Bfy v=true):Bcm v=true:=by
 cases v<;>first|rfl|cases h
theorem Bnh{E:Vv}{v:AV}{val:Value}(hs:Bcm v=true)(h:G7 E v val):E7 E v val:=by
 cases v<;>first|exact h|exact True.intro|cases hs
theorem Cbv(m:Ez){val:Value}{x:m.den}{bs:List Nat}(hag:C7 val=m.ty.agg)(hm:MR w ok base m val.cells.toList x bs){n:Id}{u:Rc}{k:AV→Id→Rc→OpT α}{l0 l:List Id}{r:α}
  (hl:Ba C objs (Cnd m x n u k) l0 r l) :
  ∃ v n' N,Ba C objs (k v n' (I6.ups N++u)) l0 r l∧Agr n n' N∧Bcm v=true∧(I6.blk N).Perm bs ∧
   ∀ (K:Dq) (E:Vv),Yz w ok base N K E→G7 E v val∧∀ p∈N,OR K E p.1 p.2.1:=by
 have key:∀ (hl:Ba C objs (Ax4 m x n u k) l0 r l),∃ v n' N,Ba C objs (k v n' (I6.ups N++u)) l0 r l∧Agr n n' N∧Bcm v=true∧(I6.blk N).Perm bs ∧
   ∀ (K:Dq) (E:Vv),Yz w ok base N K E→G7 E v val∧∀ p∈N,OR K E p.1 p.2.1:=fun hl=>by
  obtain⟨v1,n1,N1,a1,a2,a3,a4,a5,a6⟩:=Bo4 m hm hl
  exact⟨v1,n1,N1,a1,a2,Bs5 a4,a5,fun K E hp=>⟨⟨(a6 K E hp).1,by rw[hag];exact Bpt a3⟩,(a6 K E hp).2⟩⟩
 cases m with
 | ign =>
  have hm:bs=[]:=hm
  subst hm
  exact⟨.any,n,[],hl,Agr.nil n,rfl,List.Perm.refl _,fun K E hp=>⟨⟨trivial,hag.symm⟩,by simp⟩⟩
 | _=>exact key hl
theorem Bn6:∀ (ms:List Ez) {vals:List Value} {x:O7 ms} {bs:List Nat} (hm:MRL w ok base ms vals x bs) {n:Id} {u:Rc} {k:List AV→Id→Rc→OpT α} {l0 l:List Id} {r:α}
  (hl:Ba C objs (Bbu ms x n u k) l0 r l),
  ∃ vs n' N,Ba C objs (k vs n' (I6.ups N++u)) l0 r l∧Agr n n' N∧(I6.blk N).Perm bs∧vs.length=vals.length∧(∀ v∈vs,Bcm v=true) ∧
   ∀ (K:Dq) (E:Vv),Yz w ok base N K E→(∀ (i:Nat) (v:AV) (val:Value),vs[i]?=some v→vals[i]?=some val→G7 E v val)∧∀ p∈N,OR K E p.1 p.2.1:=by
 intro ms
 induction ms with
 | nil =>
  rintro vals x bs ⟨rfl,rfl⟩ n u k l0 l r hl
  exact⟨[],n,[],hl,Agr.nil n,List.Perm.refl _,rfl,by simp,fun K E hp=>⟨by simp,by simp⟩⟩
 | cons m ms ih =>
  rintro vals x bs ⟨v0,rest,b1,b2,rfl,hag,h2,h3,rfl⟩ n u k l0 l r hl
  obtain⟨v1,n1,N1,a1,a2,a4,a5,a6⟩:=Cbv m hag h2 hl
  obtain⟨v2,n2,N2,d1,d2,d3,d4,d5,d6⟩:=ih h3 a1
  refine⟨v1::v2,n2,N2++N1,by rw[I6.ups_app,List.append_assoc];exact d1,a2.app d2,?_,by simp[d4],fun v hv=>?_,fun K E hp=>?_⟩
  ·rw[I6.blk_app]
   exact List.perm_append_comm.trans (List.Perm.append a5 d3)
  ·rcases List.mem_cons.1 hv with rfl|hv
   ·exact a4
   ·exact d5 v hv
  ·obtain⟨e1,e2⟩:=a6 K E (hp.sub fun p h=>List.mem_append_right _ h)
   obtain⟨e3,e4⟩:=d6 K E (hp.sub fun p h=>List.mem_append_left _ h)
   refine⟨fun i v val hi hv=>?_,fun p h=>?_⟩
   ·cases i with
    | zero =>
     simp at hi hv
     subst hi hv
     exact e1
    | succ i=>exact e3 i v val (by simpa using hi) (by simpa using hv)
   ·rcases List.mem_append.1 h with h|h
    ·exact e4 p h
    ·exact e2 p h
end
end Go.Pon
namespace Go.Pon
open Go
theorem Aom{l:List Id}{id:Id}:Ap1 l id=true↔id∈l:=by
 induction l with
 | nil=>simp[Ap1]
 | cons a l ih=>simp only[Ap1,Bool.or_eq_true,Aaa,ih,List.mem_cons];exact or_congr_left eq_comm
theorem Bgg:∀ u:Rc,X6 u=u.map (·.1)
 | []=>rfl
 | p::r=>by simp[X6,Bgg r]
theorem Bap:∀ {u:Rc} {id:Id},Ap1 (X6 u) id=true→(id,An u id)∈u
 | [],id,h=>by simp[X6,Ap1] at h
 | (i,x)::r,id,h=>by
  rw[L6]
  by_cases e:i=id
  ·subst e;simp
  ·rw[if_neg e]
   have:Ap1 (X6 r) id=true:=by
    rw[Aom,Bgg] at h ⊢
    rcases List.mem_cons.1 h with h|h
    ·exact absurd h.symm e
    ·exact h
   exact List.mem_cons_of_mem _ (Bap this)
theorem Aq9{M:I6}{r:Rc}(hn:(M.map (·.1)).Nodup){p:Id×Obj×Value}(hp:p∈M):An (Fg (I6.ups M) r) p.1=some p.2.1:=by
 induction M with
 | nil=>simp at hp
 | cons q M ih =>
  show An ((q.1,some q.2.1)::Fg (I6.ups M) r) p.1=_
  rw[L6]
  simp only[List.map_cons,List.nodup_cons] at hn
  rcases List.mem_cons.1 hp with rfl|hp
  ·simp
  ·rw[if_neg (fun e=>hn.1 (List.mem_map.2 ⟨p,hp,e.symm⟩))]
   exact ih hn.2 hp
theorem Are{M:I6}{r:Rc}{j:Id}(hj:∀ p∈M,p.1≠j):An (Fg (I6.ups M) r) j=An r j:=by
 induction M with
 | nil=>rfl
 | cons q M ih =>
  show An ((q.1,some q.2.1)::Fg (I6.ups M) r) j=_
  rw[L6,if_neg (hj q (List.mem_cons_self ..))]
  exact ih fun p hp=>hj p (List.mem_cons_of_mem _ hp)
theorem Ajb{M:I6}{p:Id×Obj×Value}(hp:p∈M){g:Nat}(hg:Bg (some p.2.1) p.2.2=some g):g∈I6.blk M:=List.mem_filterMap.2 ⟨p,hp,hg⟩
theorem Cdn{M:I6}(hn:(I6.blk M).Nodup){p q:Id×Obj×Value}(hp:p∈M)(hq:q∈M){g:Nat}(hg:Bg (some p.2.1) p.2.2=some g)(hg':Bg (some q.2.1) q.2.2=some g):p=q:=by
 induction M with
 | nil=>simp at hp
 | cons x M ih =>
  have key:∀ y∈M,Bg (some x.2.1) x.2.2=some g→Bg (some y.2.1) y.2.2=some g→False:=by
   intro y hy h1 h2
   have:I6.blk (x::M)=g::I6.blk M:=by simp[I6.blk,h1]
   rw[this] at hn
   exact (List.nodup_cons.1 hn).1 (Ajb hy h2)
  have hn':(I6.blk M).Nodup:=by
   cases hx:Bg (some x.2.1) x.2.2 with
   | none=>simpa [I6.blk,hx] using hn
   | some y =>
    have:I6.blk (x::M)=y::I6.blk M:=by simp[I6.blk,hx]
    rw[this] at hn
    exact (List.nodup_cons.1 hn).2
  rcases List.mem_cons.1 hp with hp'|hp'<;>rcases List.mem_cons.1 hq with hq'|hq'
  ·rw[hp',hq']
  ·exact (key q hq' (hp'▸hg) hg').elim
  ·exact (key p hp' (hq'▸hg') hg).elim
  ·exact ih hn' hp' hq'
section
variable {K:Dq} {S:St} {used:Id→Nat→Prop} {γ:Id→Value} {a:Act} {w:World}
inductive Bxc(S:St)(frz:Bool)(c:Cl)(j:Id):Option Obj→Prop
 | moved (h:j∈Dn c.ups):Bxc S frz c j none
 | sli (hf:frz=true) (hm:j ∉ Dn c.ups) (ver:Nat) (fr:Bool) (t:Ty) (rows:List t.den) (h:An S.objs j=some (.sli ver fr t rows)) (hl:lent c j):Bxc S frz c j (some (.frz ver fr t rows))
 | mem (hf:frz=true) (hm:j ∉ Dn c.ups) (fr:Bool) (t:Ty) (x:AV) (h:An S.objs j=some (.mem fr t x)) (hl:lent c j):Bxc S frz c j (some (.mfz fr t x))
 | same (hm:j ∉ Dn c.ups) (o:Option Obj) (ho:o=An S.objs j):Bxc S frz c j o
theorem Ab8.left{frz:Bool}{c:Cl}(hc:Ab8 S frz c)(j:Id):Bxc S frz c j (An (Fg c.ups S.objs) j):=by
 rw[Ady]
 split
 ·rename_i hm
  have hin:=Bap hm
  cases ho:An c.ups j with
  | none =>
   rw[ho] at hin
   exact .moved (Td.2 hin)
  | some o =>
   rw[ho] at hin
   have hnm:j ∉ Dn c.ups:=fun h=>hc.apart j (Td.1 h) (.inr ⟨o,hin⟩)
   obtain⟨hf,⟨ver,fr,t,rows,h1,rfl⟩ | ⟨fr,t,m,h1,rfl⟩⟩:=hc.frozen j o hin
   ·exact .sli hf hnm ver fr t rows h1 (.inr ⟨_,hin⟩)
   ·exact .mem hf hnm fr t m h1 (.inr ⟨_,hin⟩)
 ·rename_i hm
  refine .same (fun h=>hm ?_) _ rfl
  rw[Aom,Bgg]
  exact List.mem_map.2 ⟨_,Td.1 h,rfl⟩
theorem Z5{frz:Bool}{c:Cl}{j:Id}{o:Option Obj}(h:Bxc S frz c j o){v:Value}{g:Nat}(hl:Bg o v=some g):Bg (An S.objs j) v=some g∧j ∉ Dn c.ups∧o=An S.objs j:=by
 cases h with
 | moved _=>cases hl
 | sli=>cases hl
 | mem=>cases hl
 | same hm _ ho=>subst ho;exact⟨hl,hm,rfl⟩
theorem Cc7{frz:Bool}{c:Cl}{j:Id}{o:Option Obj}(h:Bxc S frz c j o){ver:Nat}{t:Ty}{n:Nat}(hs:Agt o ver t n):Agt (An S.objs j) ver t n:=by
 obtain⟨fr,rows,h1,h2⟩:=hs
 cases h with
 | moved _=>rcases h2 with h2|h2<;>cases h2
 | sli hf hm ver' fr' t' rows' h hl =>
  rcases h2 with h2|h2
  ·cases h2
  ·cases h2;exact⟨_,_,h1,.inl h⟩
 | mem=>rcases h2 with h2|h2<;>cases h2
 | same hm _ ho=>subst ho;exact⟨fr,rows,h1,h2⟩
theorem Cli{frz:Bool}{c:Cl}{j:Id}{o:Option Obj}(h:Bxc S frz c j o){t:Ty}(hs:Au6 o t):Au6 (An S.objs j) t:=by
 obtain⟨fr,x,h2⟩:=hs
 cases h with
 | moved _=>rcases h2 with h2|h2<;>cases h2
 | sli=>rcases h2 with h2|h2<;>cases h2
 | mem hf hm fr' t' x' h hl =>
  rcases h2 with h2|h2
  ·cases h2
  ·cases h2;exact⟨_,_,.inl h⟩
 | same hm _ ho=>subst ho;exact⟨fr,x,h2⟩
theorem Cmw{frz:Bool}{c:Cl}{j:Id}{o:Option Obj}(h:Bxc S frz c j o){k:IntKind}{t:Ty}(hs:Br9 o k t):Br9 (An S.objs j) k t:=by
 obtain⟨x,h2⟩:=hs
 cases h with
 | moved _=>cases h2
 | sli=>cases h2
 | mem=>cases h2
 | same hm _ ho=>subst ho;exact⟨x,h2⟩
theorem Gn{l:List Id}{g:Nat}:g∈Hh S γ l↔∃ id∈l,Bg (An S.objs id) (γ id)=some g:=by simp[Hh,List.mem_filterMap]
def Cpp(S:St)(used:Id→Nat→Prop)(γ:Id→Value)(mv:List Id)(p:Id×Obj×Value):Prop :=
 (∀ v,¬ used p.1 v)∨(p.2.2=γ p.1∧used p.1 0∧p.1∈mv∧∃ fr t c c',An S.objs p.1=some (.mem fr t c)∧p.2.1=.mem false t c')
def Wg(M:I6)(γ:Id→Value)(j:Id):Value:=(M.find? fun p=>idE p.1 j).elim (γ j) fun p=>p.2.2
theorem Atg{M:I6}{γ:Id→Value}(hn:(M.map (·.1)).Nodup){p:Id×Obj×Value}(hp:p∈M):Wg M γ p.1=p.2.2:=by
 induction M with
 | nil=>simp at hp
 | cons q M ih =>
  simp only[List.map_cons,List.nodup_cons] at hn
  rcases List.mem_cons.1 hp with rfl|hp
  ·simp[Wg,Aaa.2 rfl]
  ·have:idE q.1 p.1=false:=by
    rw[Bool.eq_false_iff]
    exact fun e=>hn.1 (List.mem_map.2 ⟨p,hp,(Aaa.1 e).symm⟩)
   have:=ih hn.2 hp
   simpa [Wg,List.find?_cons, *] using this
theorem Bok{M:I6}{γ:Id→Value}{j:Id}(hj:∀ p∈M,p.1≠j):Wg M γ j=γ j:=by
 have:M.find? (fun p=>idE p.1 j)=none:=by
  rw[List.find?_eq_none]
  exact fun p hp e=>hj p hp (Aaa.1 e)
 simp[Wg,this]
theorem Hi.after(h:Hi K S used γ a w)(hB:∀ b,K.B b→b<K.base){frz:Bool}{c:Cl}(hc:Ab8 S frz c){w':World}{M:I6}
  (hsize:w.heap.size≤w'.heap.size) (hkeep:∀ b,b<w.heap.size→b ∉ Hh S γ (Dn c.ups)→w'.heap[b]?=w.heap[b]?)
  (hos:w'.os=w.os∧w'.tape=w.tape∧w'.output=w.output)
  (hM:∀ p∈M,Cpp S used γ (Dn c.ups) p) (hnew:∀ p∈M,p.2.1.isNew) (hnd:(M.map (·.1)).Nodup) (hblk:(I6.blk M).Nodup)
  (hin:∀ g∈I6.blk M,g∈Hh S γ (Dn c.ups)∨w.heap.size≤g) {ok:Bool→Nat→Prop}
  (hok:∀ f b,ok f b→b ∉ I6.blk M∧¬ K.B b∧(f=true→K.base≤b)∧∀ id,Bg (An (Fg c.ups S.objs) id) (γ id)≠some b)
  (hor:∀ (K':Dq) (E:Vv),Yz w' ok K.base M K' E→∀ p∈M,OR K' E p.1 p.2.1) :
  ∃ used' γ',Hi K { S with objs:=Fg (I6.ups M) (Fg c.ups S.objs) } used' γ' a w'∧Yz w' ok K.base M K (Bi K (Fg (I6.ups M) (Fg c.ups S.objs)) used' γ' w') ∧
   (∀ id v,used' id v→used id v∨∃ p∈M,p.1=id)∧∀ id v,used id v→used' id v∧γ' id=γ id:=by
 have hbase:K.base≤w.heap.size:=h.frame.size
 let used':Id→Nat→Prop:=fun j v=>used j v∨(v=0∧∃ p∈M,p.1=j)
 have hγ:∀ j v,used j v→Wg M γ j=γ j:=by
  intro j v hu
  by_cases hj:∃ p∈M,p.1=j
  ·obtain⟨p,hp,rfl⟩:=hj
   rw[Atg hnd hp]
   rcases hM p hp with hf | ⟨hv,_⟩
   ·exact absurd hu (hf v)
   ·exact hv
  ·exact Bok fun p hp e=>hj ⟨p,hp,e⟩
 have hlive:∀ j g,Bg (An (Fg (I6.ups M) (Fg c.ups S.objs)) j) (Wg M γ j)=some g →
   (∃ p∈M,p.1=j∧Bg (some p.2.1) p.2.2=some g)∨((∀ p∈M,p.1≠j)∧Bg (An S.objs j) (γ j)=some g∧j ∉ Dn c.ups∧An (Fg c.ups S.objs) j=An S.objs j):=by
  intro j g hg
  by_cases hj:∃ p∈M,p.1=j
  ·obtain⟨p,hp,rfl⟩:=hj
   rw[Atg hnd hp,Aq9 hnd hp] at hg
   exact .inl ⟨p,hp,rfl,hg⟩
  ·have hj':∀ p∈M,p.1≠j:=fun p hp e=>hj ⟨p,hp,e⟩
   rw[Bok hj',Are hj'] at hg
   exact .inr ⟨hj',Z5 (hc.left j) hg⟩
 -- a block that is live in the end,and old
 have hold:∀ j g,Bg (An (Fg (I6.ups M) (Fg c.ups S.objs)) j) (Wg M γ j)=some g→g<w.heap.size →
   ∃ i,Bg (An S.objs i) (γ i)=some g∧(i∈Dn c.ups∨(i=j∧(∀ p∈M,p.1≠j)∧i ∉ Dn c.ups∧An (Fg c.ups S.objs) j=An S.objs j)):=by
  intro j g hg hlt
  rcases hlive j g hg with⟨p,hp,e,hp2⟩ | ⟨h1,h2,h3,h4⟩
  ·rcases hin g (Ajb hp hp2) with hb|hb
   ·obtain⟨i,hi,hi2⟩:=Gn.1 hb
    exact⟨i,hi2,.inl hi⟩
   ·omega
  ·exact⟨j,h2,.inr ⟨rfl,h1,h3,h4⟩⟩
 have hs:Wy (Bi K S.objs used γ w) (Bi K (Fg (I6.ups M) (Fg c.ups S.objs)) used' (Wg M γ) w'):=by
  refine⟨hsize,fun fr b hb hbo=>⟨⟨fun j hj=>?_,hbo.2⟩,hkeep b hb fun hm=>?_⟩,fun j v hj=>.inl hj,fun j v hj t n hsl=>⟨?_,hγ j v hj⟩,fun j hj t hmm=>⟨?_,hγ j 0 hj⟩,fun j hj kk t hmm=>⟨?_,hγ j 0 hj⟩⟩
  ·obtain⟨i,hi,_⟩:=hold j b hj hb
   exact hbo.1 i hi
  ·obtain⟨i,_,hi⟩:=Gn.1 hm
   exact hbo.1 i hi
  ·have hsl:Agt (An (Fg (I6.ups M) (Fg c.ups S.objs)) j) v t n:=hsl
   by_cases hjm:∃ p∈M,p.1=j
   ·obtain⟨p,hp,rfl⟩:=hjm
    rw[Aq9 hnd hp] at hsl
    rcases hM p hp with hf | ⟨_,_,_,fr,t',x,x',_,e⟩
    ·exact absurd hj (hf v)
    ·rw[e] at hsl
     obtain⟨_,_,_,h2⟩:=hsl
     rcases h2 with h2|h2<;>cases h2
   ·rw[Are fun p hp e=>hjm ⟨p,hp,e⟩] at hsl
    exact Cc7 (hc.left j) hsl
  ·have hmm:Au6 (An (Fg (I6.ups M) (Fg c.ups S.objs)) j) t:=hmm
   by_cases hjm:∃ p∈M,p.1=j
   ·obtain⟨p,hp,rfl⟩:=hjm
    rw[Aq9 hnd hp] at hmm
    rcases hM p hp with hf | ⟨_,_,_,fr,t',x,x',e0,e⟩
    ·exact absurd hj (hf 0)
    ·rw[e] at hmm
     obtain⟨_,_,h2⟩:=hmm
     rcases h2 with h2|h2
     ·cases h2;exact⟨fr,x,.inl e0⟩
     ·cases h2
   ·rw[Are fun p hp e=>hjm ⟨p,hp,e⟩] at hmm
    exact Cli (hc.left j) hmm
  ·have hmm:Br9 (An (Fg (I6.ups M) (Fg c.ups S.objs)) j) kk t:=hmm
   by_cases hjm:∃ p∈M,p.1=j
   ·obtain⟨p,hp,rfl⟩:=hjm
    rw[Aq9 hnd hp] at hmm
    rcases hM p hp with hf | ⟨_,_,_,fr,t',x,x',e0,e⟩
    ·exact absurd hj (hf 0)
    ·rw[e] at hmm
     obtain⟨_,h2⟩:=hmm
     cases h2
   ·rw[Are fun p hp e=>hjm ⟨p,hp,e⟩] at hmm
    exact Cmw (hc.left j) hmm
 have hpl:Yz w' ok K.base M K (Bi K (Fg (I6.ups M) (Fg c.ups S.objs)) used' (Wg M γ) w'):=by
  refine⟨rfl,rfl,fun f b hb=>?_,fun p hp=>⟨Aq9 hnd hp,Atg hnd hp,.inr ⟨rfl,p,hp,rfl⟩⟩⟩
  obtain⟨h1,h2,h3,h4⟩:=hok f b hb
  refine⟨fun j hj=>?_,h2,h3⟩
  rcases hlive j b hj with⟨p,hp,e,hp2⟩ | ⟨k1,k2,k3,k4⟩
  ·exact h1 (Ajb hp hp2)
  ·exact h4 j (by rw[k4];exact k2)
 have hkeep':∀ j g,Bg (An S.objs j) (γ j)=some g→j ∉ Dn c.ups→w'.heap[g]?=w.heap[g]?:=fun j g hg hj =>
  hkeep g (Aak h hg) fun hm=>by
   obtain⟨i,hi,hi2⟩:=Gn.1 hm
   rw[h.sep j i g hg hi2] at hj
   exact hj hi
 refine⟨used',Wg M γ,h.move hs (fun j o hj=>?_) (fun j o hj=>?_) (fun j ver fr t rows v hj hu=>?_) (fun i j g hi hj=>?_) (fun i g hi=>?_) ?_,hpl,fun id v hv=>hv.imp (fun h=>h) fun h=>h.2,fun id v hv=>⟨.inl hv,hγ id v hv⟩⟩
 ·by_cases hjm:∃ p∈M,p.1=j
  ·obtain⟨p,hp,rfl⟩:=hjm
   rw[Aq9 hnd hp] at hj
   cases hj
   exact hor K _ hpl p hp
  ·have hj':∀ p∈M,p.1≠j:=fun p hp e=>hjm ⟨p,hp,e⟩
   rw[Are hj'] at hj
   have hl:=hc.left j
   rw[hj] at hl
   cases hl with
   | sli hf hm ver fr t rows h0 hlen =>
    obtain⟨v0,hu0⟩:=h.ou j _ h0
    have hd:=Bz3 h (.inl h0) (c:=c) fun _=>hlen
    have hγj:(Bi K (Fg (I6.ups M) (Fg c.ups S.objs)) used' (Wg M γ) w').γ j=γ j:=hγ j v0 hu0
    unfold OR
    rw[hγj]
    have hok2:∀ b,b<w.heap.size→okL K S γ c fr b→(Bi K (Fg (I6.ups M) (Fg c.ups S.objs)) used' (Wg M γ) w').ok fr b∧w'.heap[b]?=w.heap[b]?:=by
     intro b hb hbo
     refine⟨⟨fun i hi=>?_,hbo.2⟩,hkeep b hb fun hbm=>?_⟩
     ·obtain⟨i',hi',hi2⟩:=hold i b hi hb
      have hle:=hbo.1 i' hi'
      rcases hi2 with hi2 | ⟨rfl,k1,k2,k3⟩
      ·exact hc.apart i' (Td.1 hi2) hle
      ·have hlv:=hc.left i'
       rw[k3] at hlv
       rcases hle with hle | ⟨o,ho⟩
       ·rw[hc.borrow hf] at hle;simp at hle
       ·have hmem:Ap1 (X6 c.ups) i'=true:=by
         rw[Aom,Bgg];exact List.mem_map.2 ⟨_,ho,rfl⟩
        have h5:=Bap hmem
        have h6:An (Fg c.ups S.objs) i'=An c.ups i':=by rw[Ady,if_pos hmem]
        rw[k3] at h6
        cases h7:An c.ups i' with
        | none=>rw[h7] at h5;exact k2 (Td.2 h5)
        | some o' =>
         rw[h7] at h5 h6
         obtain⟨_,⟨_,_,_,_,h8,rfl⟩ | ⟨_,_,_,h8,rfl⟩⟩:=hc.frozen i' _ h5
         ·rw[h6] at h8;cases h8
         ·rw[h6] at h8;cases h8
     ·obtain⟨i,hi,hi2⟩:=Gn.1 hbm
      exact hc.apart i (Td.1 hi) (hbo.1 i hi2)
    refine⟨DR.move hok2 hd,?_⟩
    ·intro ad n cp hE
     rcases h.objs j _ h0 with⟨h1,_⟩ | ⟨g,cap,cur,e,h1,_⟩
     ·have h1:γ j=_:=h1
      rw[h1] at hE;cases hE
     ·have h1:γ j=_:=h1
      rw[h1] at hE;cases hE;exact⟨rfl,rfl⟩
   | mem hf hm fr t x h0 hlen =>
    obtain⟨v0,hu0⟩:=h.ou j _ h0
    obtain⟨g,e,cur,h1,h2,h3,h4,h5⟩:=h.objs j _ h0
    have h1:γ j=_:=h1
    have hlv:Bg (An S.objs j) (γ j)=some g:=by rw[h0,h1];rfl
    have hg:=hγ j v0 hu0
    refine⟨⟨g,e,cur,hg.trans h1,?_,h3,h4.step hs,h5⟩,fun ad had=>?_⟩
    ·exact (hkeep' j g hlv hm).trans h2
    ·have had:Wg M γ j=_:=had
     rw[hg,h1] at had
     cases had
     refine⟨fun i hi=>?_,(h.mod j g hlv).2,h5⟩
     obtain⟨i',hi',hi2⟩:=hold i g hi (Aak h hlv)
     have e:=h.sep i' j g hi' hlv
     subst e
     rcases hi2 with hi2 | ⟨rfl,k1,k2,k3⟩
     ·exact hm hi2
     ·rw[hj,h0] at k3;cases k3
   | same hm _ ho =>
    have hj:=ho.symm
    obtain⟨v0,hu0⟩:=h.ou j o hj
    exact OR.step hs (hγ j v0 hu0) (fun g hg=>hkeep' j g (by rw[hj];exact hg) hm) (h.objs j o hj)
 ·by_cases hjm:∃ p∈M,p.1=j
  ·exact⟨0,.inr ⟨rfl,hjm⟩⟩
  ·rw[Are fun p hp e=>hjm ⟨p,hp,e⟩] at hj
   have hl:=hc.left j
   rw[hj] at hl
   cases hl with
   | sli _ _ _ _ _ _ h0 _=>exact (h.ou j _ h0).imp fun v hv=>.inl hv
   | mem _ _ _ _ _ h0 _=>exact (h.ou j _ h0).imp fun v hv=>.inl hv
   | same _ _ ho=>exact (h.ou j _ ho.symm).imp fun v hv=>.inl hv
 ·by_cases hjm:∃ p∈M,p.1=j
  ·obtain⟨p,hp,rfl⟩:=hjm
   rw[Aq9 hnd hp] at hj
   have hn:=hnew p hp
   have hj:=Option.some.inj hj
   rw[hj] at hn
   rcases hM p hp with hf | ⟨_,_,_,_,_,_,_,_,e⟩
   ·rcases hu with hu | ⟨hu,_⟩
    ·exact absurd hu (hf v)
    ·omega
   ·rw[e] at hj;cases hj
  ·rw[Are fun p hp e=>hjm ⟨p,hp,e⟩] at hj
   have hl:=hc.left j
   rw[hj] at hl
   rcases hu with hu | ⟨_,hu⟩
   ·cases hl with
    | same _ _ ho=>exact h.vers j ver fr t rows v ho.symm hu
   ·exact absurd hu hjm
 ·rcases hlive i g hi with⟨p,hp,e1,e2⟩ | ⟨e1,e2,e3,e4⟩<;>rcases hlive j g hj with⟨q,hq,f1,f2⟩ | ⟨f1,f2,f3,f4⟩
  ·rw[← e1,← f1,Cdn hblk hp hq e2 f2]
  ·rcases hin g (Ajb hp e2) with hb|hb
   ·obtain⟨i',hi',hi2⟩:=Gn.1 hb
    rw[h.sep i' j g hi2 f2] at hi'
    exact absurd hi' f3
   ·have:=Aak h f2;omega
  ·rcases hin g (Ajb hq f2) with hb|hb
   ·obtain⟨i',hi',hi2⟩:=Gn.1 hb
    rw[h.sep i' i g hi2 e2] at hi'
    exact absurd hi' e3
   ·have:=Aak h e2;omega
  ·exact h.sep i j g e2 f2
 ·rcases hlive i g hi with⟨p,hp,e1,e2⟩ | ⟨e1,e2,e3,e4⟩
  ·rcases hin g (Ajb hp e2) with hb|hb
   ·obtain⟨i',hi',hi2⟩:=Gn.1 hb
    exact h.mod i' g hi2
   ·exact⟨.inl (by omega),fun hb'=>by have:=hB g hb';omega⟩
  ·exact h.mod i g e2
 ·refine⟨hos.1.trans h.frame.os,hos.2.1.trans h.frame.tape,hos.2.2.trans h.frame.output,Nat.le_trans h.frame.size hsize,fun b hb hbo=>?_⟩
  rw[hkeep b (Nat.lt_of_lt_of_le hb hbase) fun hm=>?_]
  ·exact h.frame.block b hb hbo
  ·obtain⟨i,_,hi⟩:=Gn.1 hm
   rcases (h.mod i b hi).1 with h1|h1
   ·have:K.base=K.w0.heap.size:=rfl
    omega
   ·exact hbo h1
end
end Go.Pon
