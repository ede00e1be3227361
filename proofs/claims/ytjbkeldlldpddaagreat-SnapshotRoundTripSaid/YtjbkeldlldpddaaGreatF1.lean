/-
  Part of a proof: general lemmas, merged by a program of this work.
-/
import Derived.Calls
import Derived.ChangeKeysEq
import Derived.Laws.AppendOwn
import Derived.Laws.BytesString
import Derived.Laws.StructEq
import Derived.Orders
set_option autoImplicit false
set_option linter.unusedVariables false
set_option linter.unusedSimpArgs false
noncomputable section
namespace Go.Pon
theorem aa0:type_of% @if_pos:=@if_pos
theorem aa1:type_of% @if_neg:=@if_neg
theorem aa4:type_of% @List.length_append:=@List.length_append
theorem aa5:type_of% @Bool.and_eq_true:=@Bool.and_eq_true
theorem aa6:type_of% @List.getElem?_eq_getElem:=@List.getElem?_eq_getElem
theorem aa8:type_of% @List.take_of_length_le:=@List.take_of_length_le
theorem aa9:type_of% @List.mem_cons:=@List.mem_cons
theorem ab1:type_of% @Nat.eq_of_beq_eq_true:=@Nat.eq_of_beq_eq_true
theorem ab2:type_of% @List.length_take:=@List.length_take
theorem ab4:type_of% @Nat.le_refl:=@Nat.le_refl
theorem ab6:type_of% @List.append_assoc:=@List.append_assoc
theorem ab7:type_of% @Go.Result.andThen_ok:=@Go.Result.andThen_ok
theorem ab8:type_of% @List.mem_cons_of_mem:=@List.mem_cons_of_mem
theorem ab9:type_of% @Go.run_underlying:=@Go.run_underlying
theorem ac0:type_of% @List.length_drop:=@List.length_drop
theorem ac1:type_of% @List.mem_cons_self:=@List.mem_cons_self
theorem ac2:type_of% @Nat.zero_le:=@Nat.zero_le
theorem ac3:type_of% @List.mem_singleton:=@List.mem_singleton
theorem ac4:type_of% @decide_eq_true_eq:=@decide_eq_true_eq
theorem ac5:type_of% @List.length_cons:=@List.length_cons
theorem ac6:type_of% @Nat.mul_le_mul_right:=@Nat.mul_le_mul_right
theorem ac7:type_of% @Go.Sem.run_bind:=@Go.Sem.run_bind
theorem ac9:type_of% @Array.length_toList:=@Array.length_toList
theorem ad3:type_of% @Nat.lt_or_ge:=@Nat.lt_or_ge
theorem ad4:type_of% @List.take_append_of_le_length:=@List.take_append_of_le_length
theorem ad5:type_of% @List.Perm.refl:=@List.Perm.refl
theorem ad7:type_of% @List.take_append_drop:=@List.take_append_drop
theorem ad8:type_of% @Nat.min_eq_left:=@Nat.min_eq_left
theorem ad9:type_of% @List.mem_append:=@List.mem_append
theorem ae0:type_of% @Option.map_eq_some_iff:=@Option.map_eq_some_iff
theorem ae3:type_of% @Nat.lt_of_lt_of_le:=@Nat.lt_of_lt_of_le
theorem ae4:type_of% @Nat.add_mul:=@Nat.add_mul
theorem ae5:type_of% @List.map_cons:=@List.map_cons
theorem ae7:type_of% @List.drop_append_of_le_length:=@List.drop_append_of_le_length
theorem ae9:type_of% @List.getElem?_eq_some_iff:=@List.getElem?_eq_some_iff
theorem af1:type_of% @Nat.zero_add:=@Nat.zero_add
theorem af2:type_of% @Nat.le_trans:=@Nat.le_trans
theorem af3:type_of% @Go.Sem.run_pure:=@Go.Sem.run_pure
theorem af4:type_of% @List.getElem?_take:=@List.getElem?_take
theorem af6:type_of% @Nat.add_zero:=@Nat.add_zero
theorem af7:type_of% @List.eq_nil_of_length_eq_zero:=@List.eq_nil_of_length_eq_zero
theorem af8:type_of% @List.nil_append:=@List.nil_append
theorem ag0:type_of% @List.drop_zero:=@List.drop_zero
theorem ag1:type_of% @List.take_zero:=@List.take_zero
theorem ag3:type_of% @List.getElem?_map:=@List.getElem?_map
theorem ag5:type_of% @List.drop_eq_nil_of_le:=@List.drop_eq_nil_of_le
theorem ag7:type_of% @List.length_map:=@List.length_map
theorem ag8:type_of% @List.mem_map:=@List.mem_map
theorem ah4:type_of% @List.drop_drop:=@List.drop_drop
theorem ah9:type_of% @List.append_nil:=@List.append_nil
theorem ai0:type_of% @Array.getElem?_eq_some_iff:=@Array.getElem?_eq_some_iff
theorem ai1:type_of% @Int.fdiv_eq_ediv_of_nonneg:=@Int.fdiv_eq_ediv_of_nonneg
theorem ai2:type_of% @List.getElem?_drop:=@List.getElem?_drop
theorem ai7:type_of% @Array.getElem?_toList:=@Array.getElem?_toList
theorem ai8:type_of% @List.nodup_cons:=@List.nodup_cons
theorem ai9:type_of% @Prod.mk.injEq:=@Prod.mk.injEq
theorem aj3:type_of% @Nat.add_assoc:=@Nat.add_assoc
theorem aj6:type_of% @List.mem_append_right:=@List.mem_append_right
theorem aj7:type_of% @List.perm_append_comm:=@List.perm_append_comm
theorem aj9:type_of% @Nat.beq_eq:=@Nat.beq_eq
theorem ak0:type_of% @List.map_nil:=@List.map_nil
theorem ak1:type_of% @Nat.sub_zero:=@Nat.sub_zero
theorem ak5:type_of% @Option.some.injEq:=@Option.some.injEq
theorem ak8:type_of% @Bool.or_eq_true:=@Bool.or_eq_true
theorem al0:type_of% @Bool.false_eq_true:=@Bool.false_eq_true
theorem al1:type_of% @Bool.or_eq_false_iff:=@Bool.or_eq_false_iff
theorem al2:type_of% @List.mem_append_left:=@List.mem_append_left
theorem al9:type_of% @Nat.zero_mul:=@Nat.zero_mul
theorem am2:type_of% @Option.map_some:=@Option.map_some
theorem am7:type_of% @Array.eq_empty_of_size_eq_zero:=@Array.eq_empty_of_size_eq_zero
theorem an3:type_of% @Bool.eq_false_iff:=@Bool.eq_false_iff
theorem an4:type_of% @Bool.not_eq_true':=@Bool.not_eq_true'
theorem an5:type_of% @List.nodup_append:=@List.nodup_append
theorem an7:type_of% @Bool.eq_iff_iff:=@Bool.eq_iff_iff
theorem an8:type_of% @cond_false:=@cond_false
theorem ao2:type_of% @List.map_toArray:=@List.map_toArray
theorem ao3:type_of% @List.take_take:=@List.take_take
theorem ao4:type_of% @Nat.le_of_ble_eq_true:=@Nat.le_of_ble_eq_true
theorem ao8:type_of% @cond_true:=@cond_true
theorem ao9:type_of% @List.cons.injEq:=@List.cons.injEq
theorem ap4:type_of% @Nat.one_mul:=@Nat.one_mul
theorem ap5:type_of% @Int.le_refl:=@Int.le_refl
theorem aq0:type_of% @List.replicate_succ:=@List.replicate_succ
theorem aq2:type_of% @List.drop_take:=@List.drop_take
theorem aq3:type_of% @Go.heap_alloc_new:=@Go.heap_alloc_new
theorem aq4:type_of% @and_true:=@and_true
theorem ar0:type_of% @Int.emod_nonneg:=@Int.emod_nonneg
theorem ar2:type_of% @List.Perm.append_left:=@List.Perm.append_left
theorem ar3:type_of% @if_true:=@if_true
theorem ar4:type_of% @of_decide_eq_true:=@of_decide_eq_true
theorem as0:type_of% @Array.toList_inj:=@Array.toList_inj
theorem as1:type_of% @List.Perm.append:=@List.Perm.append
theorem at0:type_of% @Bool.or_false:=@Bool.or_false
theorem at1:type_of% @Option.some.inj:=@Option.some.inj
theorem at2:type_of% @List.map_append:=@List.map_append
theorem at5:type_of% @Nat.blt_eq:=@Nat.blt_eq
theorem au1:type_of% @List.nodup_nil:=@List.nodup_nil
end Go.Pon
namespace Go.Pon
open Go
inductive Ty where
 | unit
 | pair (a b:Ty)
 | int (k:IntKind)
 | bool
 | str
 | arr (n:Nat) (t:Ty)
 | slice (t:Ty)
 | ptr
 deriving DecidableEq
@[reducible] def Ty.den:Ty→Type
 | .unit=>Unit
 | .pair a b=>a.den×b.den
 | .int _=>Int
 | .bool=>Bool
 | .str=>List Int
 | .arr _ t=>List t.den
 | .slice t=>List t.den
 | .ptr=>Unit
def Ty.zero:(t:Ty)→t.den
 | .unit=>()
 | .pair a b=>(a.zero,b.zero)
 | .int _=>(0:Int)
 | .bool=>false
 | .str=>([]:List Int)
 | .arr n t=>List.replicate n t.zero
 | .slice t=>([]:List t.den)
 | .ptr=>()
def Ty.size:Ty→Nat
 | .unit=>0
 | .pair a b=>a.size+b.size
 | .arr n t=>n*t.size
 | _=>1
def Ty.flat:Ty→Bool
 | .pair a b=>a.flat&&b.flat
 | .arr _ t=>t.flat
 | .slice _=>false
 | _=>true
def Ty.agg:Ty→Bool
 | .unit | .pair _ _ | .arr _ _=>true
 | _=>false
def kEq:IntKind→IntKind→Bool
 | .i8,.i8 | .i16,.i16 | .i32,.i32 | .i64,.i64 | .u8,.u8 | .u16,.u16 | .u32,.u32 | .u64,.u64=>true
 | _,_=>false
def Ty.beq:Ty→Ty→Bool
 | .unit,.unit | .bool,.bool | .str,.str | .ptr,.ptr=>true
 | .pair a b,.pair c d=>Ty.beq a c&&Ty.beq b d
 | .int k,.int l=>kEq k l
 | .arr n t,.arr m u=>Nat.beq n m&&Ty.beq t u
 | .slice t,.slice u=>Ty.beq t u
 | _,_=>false
def Bbd:Option Ty→Bool
 | some (.slice (.int .u8))=>true
 | _=>false
def Yo{a:Ty}(x:a.den)(b:Ty):Option b.den:=if h:a=b then some (h▸x) else none
def eqL{α:Type}(e:α→α→Bool):List α→List α→Bool
 | [],[]=>true
 | a::l,b::m=>e a b&&eqL e l m
 | _,_=>false
def Yu:(t:Ty)→t.den→t.den→Bool
 | .unit,_,_=>true
 | .pair a b,x,y=>Yu a x.1 y.1&&Yu b x.2 y.2
 | .int _,x,y=>decide ((x:Int)=y)
 | .bool,x,y=>(x:Bool) == y
 | .str,x,y=>decide ((x:List Int)=y)
 | .arr _ t,x,y=>eqL (Yu t) x y
 | .slice t,x,y=>eqL (Yu t) x y
 | .ptr,_,_=>true
abbrev Id:=Nat×Nat×Nat
def idE:Id→Id→Bool
 | (a,b,c),(d,e,f)=>Nat.beq c f&&(Nat.beq b e&&Nat.beq a d)
def Id.nxt:Id→Id
 | (a,b,c)=>(a,b,Nat.succ c)
inductive AV where
 | any
 | un
 | d (fr:Bool) (t:Ty) (x:t.den)
 | nilp
 | nils
 | own (id:Id) (ab:Nat)
 | view (id:Id) (ab lo hi:Nat) (cp:Bool)
 | mview (id:Id) (ai:List Nat) (lo hi:Nat)
 | mapp (id:Id)
 | ptr (id:Id) (ai:List Nat)
 | eptr (id:Id) (ab i:Nat) (ai:List Nat)
 | rptr (fr:Bool) (t:Ty) (x:t.den)
 | pair (a b:AV)
 | tup (a:AV)
 | fn (f:FuncId) (caps:AV)
 | ub (e r:Bool)
inductive Dz where
 | ro (fr:Bool) (t:Ty)
 | own (fr:Bool) (t:Ty)
 | ptr (m:Dz)
 | optr (m:Dz)
 | pair (a b:Dz)
 | fn (f:FuncId) (m:Dz)
 | nilm (t:Ty)
 | rp (t:Ty)
 | full (t:Ty)
 | bor (t:Ty)
 | mapm (k:IntKind) (t:Ty)
 | orp (t:Ty)
 | ign
 deriving DecidableEq
@[reducible] def Dz.den:Dz→Type
 | .ro _ t=>t.den
 | .own _ t=>List t.den
 | .ptr m=>m.den
 | .optr m=>Option m.den
 | .pair a b=>a.den×b.den
 | .fn _ m=>m.den
 | .nilm _=>Unit
 | .rp t=>t.den
 | .full t=>List t.den
 | .bor t=>List t.den
 | .mapm _ t=>List (Int×t.den)
 | .orp t=>Option t.den
 | .ign=>Unit
@[reducible] def Iu:List Dz→Type
 | []=>Unit
 | m::ms=>m.den×Iu ms
def Dz.ty:Dz→Ty
 | .ro _ t=>t
 | .own _ t=>.slice t
 | .ptr _=>.ptr
 | .optr _=>.ptr
 | .pair a b=>.pair a.ty b.ty
 | .fn _ _=>.ptr
 | .nilm t=>.slice t
 | .rp _=>.ptr
 | .full t=>.slice t
 | .bor t=>.slice t
 | .mapm _ _=>.ptr
 | .orp _=>.ptr
 | .ign=>.ptr
def Dz.upd:Dz→Dz
 | .ptr m=>.ptr m
 | .optr m=>.optr m
 | _=>.ro true .unit
def Aym:List Dz→List Dz
 | []=>[]
 | m::ms=>m.upd::Aym ms
structure B4 where
 ins:List Dz
 outs:List Dz
 deriving DecidableEq
def Ayx(s:B4):Bool :=
 match s.ins,s.outs with
 | [.bor _],[.ro false (.slice _)]=>true
 | _,_=>false
def Bur:(ms:List Dz)→Iu ms→Nat
 | .ro _ (.slice _)::_,x=>List.length x.1
 | _,_=>0
@[reducible] def B4.outDen (s:B4):Type:=Iu s.outs×Iu (Aym s.ins)
inductive Obj where
 | sli (ab:Nat) (fr:Bool) (t:Ty) (rows:List t.den)
 | frz (ab:Nat) (fr:Bool) (t:Ty) (rows:List t.den)
 | mem (fr:Bool) (t:Ty) (c:AV)
 | mfz (fr:Bool) (t:Ty) (c:AV)
 | mpo (k:IntKind) (t:Ty) (l:List (Int×t.den))
def Ug{α:Type}(d:α):List (Int×α)→Int→α
 | [],_=>d
 | p::l,x=>bif decide (p.1=x) then p.2 else Ug d l x
def Kr{α:Type}:List (Int×α)→Int→α→List (Int×α)
 | [],x,y=>[(x,y)]
 | p::l,x,y=>bif decide (p.1=x) then (x,y)::l else p::Kr l x y
abbrev Pm:=List (Id×Option Obj)
inductive OpT(α:Type) where
 | fail
 | done (a:α)
 | br (c:Bool) (t e:OpT α)
 | get (id:Id) (k:Obj→OpT α)
 | call (f:FuncId) (s:B4) (x:Iu s.ins) (k:s.outDen→OpT α)
 | opt (m:Dz) (o:Option m.den) (kn:OpT α) (ks:m.den→OpT α)
abbrev OpV:=OpT (AV×Pm)
def OpT.chk{α:Type}(c:Bool)(k:OpT α):OpT α:=.br c k .fail
def Bb8{ω δ:Type}(round:(δ→Option ω)→δ→Option ω)(n:Nat):δ→Option ω :=
 Nat.rec (motive:=fun _=>δ→Option ω) (fun _=>none) (fun _ ih=>round ih) n
abbrev Af:=(ω δ:Type)→((δ→Option ω)→δ→Option ω)→δ→Option ω
theorem Axa{ω δ:Type}(round:(δ→Option ω)→δ→Option ω)(n:Nat)(x:δ):Bb8 round (n+1) x=round (Bb8 round n) x:=rfl
def Cso{α:Type}(c:Bool)(t e:Option α):Option α :=
 match c with
 | true=>t
 | false=>e
def Cr2{α:Type}(c:Bool)(t e:Option α):Option α:=Cso c t e
def Crw{α:Type}(c:Bool)(t e:Option α):Option α:=Cr2 c t e
def Ag{α:Type}(c:Bool)(t e:Option α):Option α:=Crw c t e
theorem Ap{α:Type}(t e:Option α):Ag true t e=t:=rfl
theorem Bn{α:Type}(t e:Option α):Ag false t e=e:=rfl
def Co1{α β:Type}(v:α)(k:α→β):β:=k v
def Cnw{α β:Type}(v:α)(k:α→β):β:=Co1 v k
def Cp6{α β:Type}(v:α)(k:α→β):β:=Cnw v k
def Cpp{α β:Type}(v:α)(k:α→β):β:=Cp6 v k
def Co8{α β:Type}(v:α)(k:α→β):β:=Cpp v k
def Co0{α β:Type}(v:α)(k:α→β):β:=Co8 v k
def Cps{α β:Type}(v:α)(k:α→β):β:=Co0 v k
def A4{α β:Type}(v:α)(k:α→β):β:=Cps v k
theorem Am{α β:Type}(v:α)(k:α→β):A4 v k=k v:=rfl
def Biq{α:Type}(a b:Option α):Option α:=@ite (Option α) (a=b) (Classical.propDecidable _) a none
theorem By4{α:Type}{a b:Option α}{r:α}(h:Biq a b=some r):a=some r∧b=some r:=by
 unfold Biq at h
 by_cases e:a=b
 ·rw[@aa0 _ (Classical.propDecidable _) e] at h
  exact⟨h,e▸h⟩
 ·rw[@aa1 _ (Classical.propDecidable _) e] at h
  cases h
theorem Bm0{α:Type}{a b:Option α}{r:Option α}(h1:a=r)(h2:b=r):Biq a b=r:=by
 subst h1;subst h2
 unfold Biq
 exact @aa0 _ (Classical.propDecidable _) rfl _ _ _
def Cc0{α β:Type}(o:Option α)(n:Option β)(s:α→Option β):Option β :=
 match o with
 | none=>n
 | some a=>s a
end Go.Pon
namespace Go.Pon
open Go
def Vj{α β:Type}(f:α→β):List α→List β
 | []=>[]
 | a::l=>f a::Vj f l
def Ae6{α:Type}:Nat→List α→List (Nat×α)
 | _,[]=>[]
 | n,a::l=>(n,a)::Ae6 (Nat.succ n) l
def Da{α:Type}:List α→List α→List α
 | [],m=>m
 | a::l,m=>a::Da l m
def Sc{α:Type}(f:α→Bool):List α→Bool
 | []=>true
 | a::l=>f a&&Sc f l
def Bhh{α:Type}:List α→Nat→Option α
 | [],_=>none
 | a::_,0=>some a
 | _::l,n+1=>Bhh l n
structure Ali where
 s:Nat
 q:Nat
 t:Ty
 i:Nat
structure Lay where
 f:FuncId
 wrap:Option FuncId
 j:Nat
structure Ctx where
 ali:FuncId→Nat→List Ali
 ty:TypeId→Option Ty
 sig:FuncId→Option B4
 hint:FuncId→Nat→List (Nat×Dz)
 cut:Bool
 func:FuncId→Option Func
 mapT:TypeId→Option (IntKind×Ty):=fun _=>none
 vfor:FuncId→Option FuncId→Option (Nat×B4×Lay):=fun _ _=>none
 lay:FuncId→Option (Lay×List Dz):=fun _=>none
 unr:FuncId→Nat→Nat:=fun _ _=>0
def Bpa(fr:Bool):(t:Ty)→t.den→List Nat→Option AV
 | t,x,[]=>some (.d fr t x)
 | .pair a b,x,i::p=>match i with
  | 0=>Bpa fr a x.1 p
  | n+1=>Bpa fr b x.2 (n::p)
 | .arr _ t,x,i::p=>Bpa fr t (List.getD x i t.zero) p
 | _,_,_=>none
def La:Ty→List Nat→Option Ty
 | t,[]=>some t
 | .pair a b,i::p=>match i with
  | 0=>La a p
  | n+1=>La b (n::p)
 | .arr _ t,_::p=>La t p
 | _,_=>none
def Bz:Ty→List Nat→Nat
 | _,[]=>0
 | .pair a b,i::p=>match i with
  | 0=>Bz a p
  | n+1=>a.size+Bz b (n::p)
 | .arr _ t,i::p=>i*t.size+Bz t p
 | _,_=>0
def Bob:(t:Ty)→t.den→List Nat→(u:Ty)→u.den→Option t.den
 | t,_,[],_,y=>Yo y t
 | .pair a b,x,i::p,u,y=>match i with
  | 0=>(Bob a x.1 p u y).map fun z=>(z,x.2)
  | n+1=>(Bob b x.2 (n::p) u y).map fun z=>(x.1,z)
 | .arr _ t,x,i::p,u,y=>(Bob t (List.getD x i t.zero) p u y).map fun z=>List.set x i z
 | _,_,_,_,_=>none
def Ax9:AV→List Nat→Option AV
 | v,[]=>some v
 | .pair a b,i::p=>match i with
  | 0=>Ax9 a p
  | n+1=>Ax9 b (n::p)
 | .d fr t x,p=>Bpa fr t x p
 | _,_=>none
def Bpy(fr:Bool):(t:Ty)→t.den→List Nat→AV→Option AV
 | _,_,[],v=>some v
 | .pair a b,x,i::p,v=>match i with
  | 0=>(Bpy fr a x.1 p v).map fun z=>.pair z (.d fr b x.2)
  | n+1=>(Bpy fr b x.2 (n::p) v).map fun z=>.pair (.d fr a x.1) z
 | _,_,_,_=>none
def Blr:AV→List Nat→AV→Option AV
 | _,[],v=>some v
 | .pair a b,i::p,v=>match i with
  | 0=>(Blr a p v).map fun a'=>.pair a' b
  | n+1=>(Blr b (n::p) v).map fun b'=>.pair a b'
 | .d fr t x,p,.d fr' u y=>(Bob t x p u y).map fun z=>.d (fr&&fr') t z
 | .d fr t x,p,v=>Bpy fr t x p v
 | _,_,_=>none
@[simp] def Cn3:AV→Bool
 | .any=>true
 | .un=>true
 | .tup _=>true
 | _=>false
def Bg:Ty→AV→Bool
 | t,.d _ u _=>Ty.beq u t
 | t,.pair a b=>match t with
  | .pair t u=>Bg t a&&Bg u b
  | _=>false
 | t,v=>!Cn3 v&&!t.agg
def asD:AV→(t:Ty)→Option (Bool×t.den)
 | .d fr _ x,t=>(Yo x t).map fun y=>(fr,y)
 | .pair a b,.pair t u=>match asD a t,asD b u with
  | some (f,x),some (g,y)=>some (f&&g,x,y)
  | _,_=>none
 | .nils,.slice _=>some (true,[])
 | .nilp,.ptr=>some (true,())
 | _,_=>none
def asInt:AV→Option (IntKind×Int)
 | .d _ (.int k) x=>some (k,x)
 | _=>none
def asBool:AV→Option Bool
 | .d _ .bool x=>some x
 | _=>none
def mkD(fr:Bool)(t:Ty)(x:t.den):AV:=.d (fr||t.flat) t x
def Ur(k:IntKind)(x:Int):AV:=.d true (.int k) x
def Bib(b:Bool):AV:=.d true .bool b
def Ty.bare:Ty→Bool
 | .pair a b=>a.bare&&b.bare
 | .arr _ t=>t.bare
 | .slice _=>false
 | .ptr=>false
 | _=>true
def Ayw:Ty→AV
 | .slice _=>.nils
 | .ptr=>.nilp
 | .pair a b=>bif a.bare&&b.bare then .d true (.pair a b) (a.zero,b.zero) else .pair (Ayw a) (Ayw b)
 | t=>.d true t t.zero
def Cfr:Fn→List Value→List Value→AV
 | .func f,[],[]=>.fn f (.d true .unit ())
 | _,_,_=>.any
def Cht:Value→AV
 | .bool b=>Bib b
 | .int k n=>Ur k n
 | .string s=>.d true .str (s.data.toList.map fun b=>(b.toNat:Int))
 | .pointer none=>.nilp
 | .slice none 0 0=>.nils
 | .func fn first caps=>Cfr fn first.toList caps.toList
 | _=>.any
section
variable {α:Type}
structure Cl where
 ups:Pm
 br:List Id
def Bbq:List Id→Id→Bool
 | [],_=>false
 | a::l,n=>idE a n||Bbq l n
def Am4:Pm→Id→Bool
 | [],_=>false
 | p::r,id=>idE p.1 id||Am4 r id
def Anf:Pm→Id→Bool
 | [],_=>false
 | (i,none)::r,id=>idE i id||Anf r id
 | (_,some _)::r,id=>Anf r id
def Cl.lend(c:Cl)(frz:Bool)(id:Id)(o:Obj):Cl :=
 bif frz then ⟨(id,some o)::c.ups,c.br⟩ else ⟨c.ups,id::c.br⟩
def Wk(v:AV)(t:Ty)(c:Cl)(frz:Bool)(k:Bool→List t.den→Cl→OpT α):OpT α :=
 match v with
 | .d fr u x=>match Yo (b:=.slice t) x with
  | some y=>k fr y c
  | none=>.fail
 | .nils=>k true [] c
 | .own id ab=>bif Anf c.ups id then .fail else .get id fun
  | .sli af fr u rows=>match Nat.beq af ab,Yo (a:=.slice u) rows (.slice t) with
   | true,some y=>k fr y (c.lend frz id (.frz ab fr u rows))
   | _,_=>.fail
  | .frz af fr u rows=>match Nat.beq af ab,Yo (a:=.slice u) rows (.slice t) with
   | true,some y=>k fr y c
   | _,_=>.fail
  | _=>.fail
 | .view id ab lo hi _=>bif Anf c.ups id then .fail else .get id fun
  | .sli af fr u rows=>match Nat.beq af ab,Yo (a:=.slice u) rows (.slice t) with
   | true,some y=>k fr ((List.drop lo y).take (hi-lo)) (c.lend frz id (.frz ab fr u rows))
   | _,_=>.fail
  | .frz af fr u rows=>match Nat.beq af ab,Yo (a:=.slice u) rows (.slice t) with
   | true,some y=>k fr ((List.drop lo y).take (hi-lo)) c
   | _,_=>.fail
  | _=>.fail
 | .mview id ai lo hi=>bif Anf c.ups id then .fail else .get id fun
  | .mem fm tm m=>match Ax9 m ai with
   | some (.d fr (.arr _ u) x)=>match Yo (a:=.slice u) x (.slice t) with
    | some y=>k (fr&&fm) ((List.drop lo y).take (hi-lo)) (c.lend frz id (.mfz fm tm m))
    | none=>.fail
   | _=>.fail
  | .mfz fm _ m=>match Ax9 m ai with
   | some (.d fr (.arr _ u) x)=>match Yo (a:=.slice u) x (.slice t) with
    | some y=>k (fr&&fm) ((List.drop lo y).take (hi-lo)) c
    | none=>.fail
   | _=>.fail
  | _=>.fail
 | _=>.fail
def roK(frz:Bool):AV→(t:Ty)→Cl→(Bool→t.den→Cl→OpT α)→OpT α
 | .d fr _ x,t,c,k=>match Yo x t with
  | some y=>k fr y c
  | none=>.fail
 | .pair a b,.pair t u,c,k=>roK frz a t c fun f x c=>roK frz b u c fun g y c=>k ((f||t.flat)&&(g||u.flat)) (x,y) c
 | v,.slice t,c,k=>Wk v t c frz k
 | .nilp,.ptr,c,k=>k true () c
 | _,_,_,_=>.fail
def De(frz:Bool):(m:Dz)→AV→Cl→(m.den→Cl→OpT α)→OpT α
 | .ro fr t,v,c,k=>roK frz v t c fun fr' x c=>bif !fr||fr'||t.flat then k x c else .fail
 | .own fr t,.own id ab,c,k=>bif Am4 c.ups id||Bbq c.br id then .fail else .get id fun
  | .sli af fr' u rows=>match Nat.beq af ab&&(!fr||fr'),Yo (a:=.slice u) rows (.slice t) with
   | true,some y=>k y ⟨(id,none)::c.ups,c.br⟩
   | _,_=>.fail
  | _=>.fail
 | .own _ _,.nils,c,k=>k [] c
 | .ptr m,.ptr id [],c,k=>bif Am4 c.ups id||Bbq c.br id then .fail else .get id fun
  | .mem _ u x=>bif Ty.beq u m.ty then De frz m x ⟨(id,none)::c.ups,c.br⟩ k else .fail
  | _=>.fail
 | .optr _,.nilp,c,k=>k none c
 | .optr m,.ptr id [],c,k=>bif Am4 c.ups id||Bbq c.br id then .fail else .get id fun
  | .mem _ u x=>bif Ty.beq u m.ty then De frz m x ⟨(id,none)::c.ups,c.br⟩ fun y c=>k (some y) c else .fail
  | _=>.fail
 | .pair a b,.pair v w,c,k=>De frz a v c fun x c=>De frz b w c fun y c=>k (x,y) c
 | .pair a b,.d fr (.pair t u) x,c,k=>De frz a (.d fr t x.1) c fun z c=>De frz b (.d fr u x.2) c fun y c=>k (z,y) c
 | .fn f m,.fn g x,c,k=>bif Nat.beq f g then De frz m x c k else .fail
 | .nilm _,.nils,c,k=>k () c
 | .full t,.view id ab lo hi cp,c,k=>bif !(cp&&Nat.beq lo 0&&t.flat)||(Am4 c.ups id||Bbq c.br id) then .fail else .get id fun
  | .sli af _ u rows=>match Nat.beq af ab,Yo (a:=.slice u) rows (.slice t) with
   | true,some y=>.chk (decide (0<hi)&&decide (hi=List.length y)) (k y ⟨(id,none)::c.ups,c.br⟩)
   | _,_=>.fail
  | _=>.fail
 | .full t,.nils,c,k=>bif t.flat then k [] c else .fail
 | .bor t,.own id ab,c,k=>bif Anf c.ups id then .fail else .get id fun
  | .sli af fr u rows=>match Nat.beq af ab,Yo (a:=.slice u) rows (.slice t) with
   | true,some y=>k y (c.lend frz id (.frz ab fr u rows))
   | _,_=>.fail
  | .frz af fr u rows=>match Nat.beq af ab,Yo (a:=.slice u) rows (.slice t) with
   | true,some y=>k y c
   | _,_=>.fail
  | _=>.fail
 | .mapm kk t,.mapp id,c,k=>bif Am4 c.ups id||Bbq c.br id then .fail else .get id fun
  | .mpo rq u l=>match kEq rq kk,Yo (a:=.slice (.pair (.int kk) u)) l (.slice (.pair (.int kk) t)) with
   | true,some y=>k y ⟨(id,none)::c.ups,c.br⟩
   | _,_=>.fail
  | _=>.fail
 | .rp t,.rptr _ u x,c,k=>match Yo x t with
  | some y=>k y c
  | none=>.fail
 | .rp t,.ptr id [],c,k=>bif Anf c.ups id then .fail else .get id fun
  | .mem fm u x=>bif Ty.beq u t then roK frz x t (c.lend frz id (.mfz fm u x)) fun _ y c=>k y c else .fail
  | .mfz _ u x=>bif Ty.beq u t then roK frz x t c fun _ y c=>k y c else .fail
  | _=>.fail
 | .orp _,.nilp,c,k=>k none c
 | .orp t,.rptr _ u x,c,k=>match Yo x t with
  | some y=>k (some y) c
  | none=>.fail
 | .ign,.fn _ _,c,k=>k () c
 | _,_,_,_=>.fail
def Xc(frz:Bool):(ms:List Dz)→List AV→Cl→(Iu ms→Cl→OpT α)→OpT α
 | [],[],c,k=>k () c
 | m::ms,v::vs,c,k=>De frz m v c fun x c=>Xc frz ms vs c fun y c=>k (x,y) c
 | _,_,_,_=>.fail
def Ay5:(m:Dz)→m.den→Id→Pm→(AV→Id→Pm→OpT α)→OpT α
 | .ro fr t,x,n,u,k=>k (mkD fr t x) n u
 | .own fr t,x,n,u,k=>k (.own n 0) (n.nxt) ((n,some (.sli 0 fr t x))::u)
 | .ptr m,x,n,u,k=>Ay5 m x (n.nxt) u fun a n' u'=>k (.ptr n []) n' ((n,some (.mem false m.ty a))::u')
 | .optr m,x,n,u,k=>.opt m x (k .nilp n u) fun y=>Ay5 m y (n.nxt) u fun a n' u'=>k (.ptr n []) n' ((n,some (.mem false m.ty a))::u')
 | .pair a b,x,n,u,k=>Ay5 a x.1 n u fun v n' u'=>Ay5 b x.2 n' u' fun w qy wm=>k (.pair v w) qy wm
 | .fn f m,x,n,u,k=>Ay5 m x n u fun c n' u'=>k (.fn f c) n' u'
 | .nilm _,_,n,u,k=>k .nils n u
 | .rp t,x,n,u,k=>k (.rptr false t x) n u
 | .full t,x,n,u,k=>k (.view n 0 0 (List.length x) true) (n.nxt) ((n,some (.sli 0 false t x))::u)
 | .bor t,x,n,u,k=>k (.own n 0) (n.nxt) ((n,some (.frz 0 false t x))::u)
 | .mapm kk t,x,n,u,k=>k (.mapp n) (n.nxt) ((n,some (.mpo kk t x))::u)
 | .orp t,x,n,u,k=>.opt (.rp t) x (k .nilp n u) fun y=>k (.rptr false t y) n u
 | .ign,_,_,_,_=>.fail
def Ck7:(m:Dz)→m.den→Id→Pm→(AV→Id→Pm→OpT α)→OpT α
 | .ign,_,n,u,k=>k .any n u
 | m,x,n,u,k=>Ay5 m x n u k
def Af4:(ms:List Dz)→Iu ms→Id→Pm→(List AV→Id→Pm→OpT α)→OpT α
 | [],_,n,u,k=>k [] n u
 | m::ms,x,n,u,k=>Ck7 m x.1 n u fun v n' u'=>Af4 ms x.2 n' u' fun vs qy wm=>k (v::vs) qy wm
def Br7:(m:Dz)→AV→(m.upd).den→Id→Pm→(Id→Pm→OpT α)→OpT α
 | .ptr m,.ptr id [],x,n,u,k=>Ay5 m x n u fun a n' u'=>k n' ((id,some (.mem false m.ty a))::u')
 | .optr m,.ptr id [],x,n,u,k=>.opt m x .fail fun y=>Ay5 m y n u fun a n' u'=>k n' ((id,some (.mem false m.ty a))::u')
 | .optr m,.nilp,x,n,u,k=>.opt m x (k n u) fun _=>.fail
 | .ro _ _,_,_,n,u,k=>k n u
 | .own _ _,_,_,n,u,k=>k n u
 | .pair _ _,_,_,n,u,k=>k n u
 | .fn _ _,_,_,n,u,k=>k n u
 | .nilm _,_,_,n,u,k=>k n u
 | .rp _,_,_,n,u,k=>k n u
 | .full _,_,_,n,u,k=>k n u
 | .bor _,_,_,n,u,k=>k n u
 | .mapm _ _,_,_,n,u,k=>k n u
 | .orp _,_,_,n,u,k=>k n u
 | .ign,_,_,n,u,k=>k n u
 | _,_,_,_,_,_=>.fail
def Ark:(ms:List Dz)→List AV→Iu (Aym ms)→Id→Pm→(Id→Pm→OpT α)→OpT α
 | [],[],_,n,u,k=>k n u
 | m::ms,v::vs,x,n,u,k=>Br7 m v x.1 n u fun n' u'=>Ark ms vs x.2 n' u' k
 | _,_,_,_,_,_=>.fail
end
def Dz.alias:Dz→Bool
 | .ro fr t=>!fr&&!t.flat
 | .own fr t=>!fr&&!t.flat
 | .ptr m | .optr m=>m.alias
 | .pair a b=>a.alias||b.alias
 | .fn _ m=>m.alias
 | .nilm _=>false
 | .rp _=>true
 | .full _=>false
 | .bor _=>true
 | .mapm _ _=>true
 | .orp _=>true
 | .ign=>true
def B4.alias(s:B4):Bool:=!Sc (fun m=>!m.alias) s.outs||!Sc (fun m=>!m.upd.alias) s.ins
def Atm:List AV→AV
 | []=>.d true .unit ()
 | v::vs=>.pair v (Atm vs)
def Bhe:AV→Bool
 | .any=>false
 | .un=>false
 | .tup _=>false
 | .pair _ _=>false
 | .d _ t _=>!t.agg
 | _=>true
def Z1:AV→Option (List AV)
 | .d _ .unit _=>some []
 | .pair v w=>bif Bhe v then (Z1 w).map (v::·) else none
 | _=>none
def Blz:List AV→AV
 | [v]=>v
 | vs=>.tup (Atm vs)
def Bt6(f:FuncId)(s:B4)(args:List AV):OpV :=
 match args with
 | [.own id ab]=>Xc false s.ins args ⟨[],[]⟩ fun x c=>.call f s x fun y=>.done (.view id ab 0 (Bur s.outs y.1) false,c.ups)
 | _=>.fail
def Cb5(f:FuncId)(s:B4)(args:List AV)(base:Id):OpV :=
 bif Ayx s then Bt6 f s args else Xc s.alias s.ins args ⟨[],[]⟩ fun x c =>
  .call f s x fun y =>
   Ark s.ins args y.2 base c.ups fun n u =>
    Af4 s.outs y.1 n u fun vs _ u'=>.done (Blz vs,u')
def Cgu(op:BinOp)(k:IntKind)(x y:Int):OpV :=
 let r (n:Int):OpV:=.done (Ur k n,[])
 let b (c:Bool):OpV:=.done (Bib c,[])
 match op with
 | .add=>r (k.wrap (x+y))
 | .sub=>r (k.wrap (x-y))
 | .mul=>r (k.wrap (x*y))
 | .quo=>.chk (decide (y≠0)) (r (k.wrap (x.tdiv y)))
 | .rem=>.chk (decide (y≠0)) (r (x.tmod y))
 | .and=>r (k.wrap (BitVec.ofInt k.bits x &&& BitVec.ofInt k.bits y).toNat)
 | .or=>r (k.wrap (BitVec.ofInt k.bits x ||| BitVec.ofInt k.bits y).toNat)
 | .xor=>r (k.wrap (BitVec.ofInt k.bits x ^^^ BitVec.ofInt k.bits y).toNat)
 | .andNot=>r (k.wrap (BitVec.ofInt k.bits x &&& ~~~(BitVec.ofInt k.bits y)).toNat)
 | .eql=>b (decide (x=y))
 | .neq=>b (!decide (x=y))
 | .lss=>b (decide (x<y))
 | .leq=>b (decide (x≤y))
 | .gtr=>b (decide (x>y))
 | .geq=>b (decide (x≥y))
 | _=>.fail
def Cbe(op:BinOp)(k:IntKind)(x y:Int):OpV :=
 match op with
 | .shl=>.chk (decide (0≤y)) (.done (Ur k (k.wrap (x*2 ^ (min y.toNat k.bits))),[]))
 | .shr=>.chk (decide (0≤y)) (.done (Ur k (x.fdiv (2 ^ (min y.toNat k.bits))),[]))
 | _=>.fail
def Baz:BinOp→Bool
 | .shl | .shr=>true
 | _=>false
def Ty.dep:Ty→Nat
 | .pair a b=>max (Nat.succ a.dep) b.dep
 | .arr _ t=>Nat.succ t.dep
 | _=>1
def Bhm:Option Ty→Ty→Bool
 | some u,t=>Ty.beq u t
 | none,_=>false
def Cao(id:Id)(k:OpV):OpV :=
 .get id fun
  | .mem _ _ _=>k
  | .mfz _ _ _=>k
  | _=>.fail
def eqK(ty:Option Ty)(v w:AV)(k:Bool→OpV):OpV :=
 match v,w with
 | .nilp,.nilp=>bif Bhm ty .ptr then k true else .fail
 | .ptr id _,.nilp=>bif Bhm ty .ptr then Cao id (k false) else .fail
 | .nilp,.ptr id _=>bif Bhm ty .ptr then Cao id (k false) else .fail
 | .rptr _ _ _,.nilp=>bif Bhm ty .ptr then k false else .fail
 | .nilp,.rptr _ _ _=>bif Bhm ty .ptr then k false else .fail
 | .d _ t x,w=>match bif t.flat&&Bhm ty t&&Nat.ble t.dep 50 then asD w t else none with
  | some (_,y)=>k (Yu t x y)
  | none=>.fail
 | _,_=>.fail
def slA:AV→Bool
 | .d _ (.slice _) _=>true
 | .nils=>true
 | _=>false
def Cha:AV→Bool
 | .nils=>true
 | _=>false
def Cf0:Option Ty→Bool
 | some (.slice _)=>true
 | _=>false
def Btp:AV→Bool
 | .d _ (.slice _) x=>decide (List.length x=0)
 | _=>true
def Bum(v w:AV):Bool :=
 match v with
 | .nils=>Btp w
 | _=>Btp v
def Bgc(ty:Option Ty)(v w:AV):Bool:=Cf0 ty&&slA v&&slA w&&(Cha v||Cha w)
def Cpi(v w:AV):OpV :=
 match v,w with
 | .d _ .str x,.d _ .str y=>.chk (decide (List.length x+List.length y≤9223372036854775807)) (.done (.d true .str (List.append x y),[]))
 | _,_=>.fail
def Bm5(v:AV):OpV :=
 match v with
 | .own id ab=>.get id fun
  | .sli af fr u rows=>bif Nat.beq af ab&&Ty.beq u (.int .u8) then .chk (decide (0<List.length rows)) (.done (.own id ab,[(id,some (.frz ab fr u rows))])) else .fail
  | _=>.fail
 | _=>.fail
def Cmb(op:BinOp)(ty:Option Ty)(v w:AV):OpV :=
 match asInt v,asInt w with
 | some (k,x),some (k',y)=>bif Baz op then Cbe op k x y else bif kEq k k' then Cgu op k x y else .fail
 | _,_=>match op with
  | .eql=>bif Bgc ty v w then .done (.ub (Bum v w) false,[]) else eqK ty v w fun b=>.done (Bib b,[])
  | .neq=>bif Bgc ty v w then .done (.ub (Bum v w) true,[]) else eqK ty v w fun b=>.done (Bib (!b),[])
  | .add=>Cpi v w
  | _=>.fail
def unK(op:UnOp)(v:AV):OpV :=
 match op,v with
 | .neg,.d _ (.int k) x=>.done (Ur k (k.wrap (0-x)),[])
 | .xor,.d _ (.int k) x=>.done (Ur k (k.wrap (BitVec.ofInt k.bits (if k.signed then -1 else k.max) ^^^ BitVec.ofInt k.bits x).toNat),[])
 | .not,.d _ .bool x=>.done (Bib (!x),[])
 | _,_=>.fail
def Cg7(v:AV)(m:Option (IntKind×Ty))(k:Id→(t:Ty)→IntKind→List (Int×t.den)→OpV):OpV :=
 match v,m with
 | .mapp id,some (kk,t)=>.get id fun
  | .mpo rq u l=>match kEq rq kk&&t.flat,Yo (a:=.slice (.pair (.int kk) u)) l (.slice (.pair (.int kk) t)) with
   | true,some y=>k id t kk y
   | _,_=>.fail
  | _=>.fail
 | _,_=>.fail
def Buh(v:AV)(m:Option (IntKind×Ty))(x:AV):OpV :=
 Cg7 v m fun _ t kk l=>match asInt x with
  | some (rq,n)=>bif kEq rq kk then .done (.d true t (Ug t.zero l n),[]) else .fail
  | none=>.fail
def Bl2(v:AV)(m:Option (IntKind×Ty))(x y:AV):OpV :=
 Cg7 v m fun id t kk l=>match asInt x,y with
  | some (rq,n),.d _ u z=>match Yo z t with
   | some z'=>bif kEq rq kk then .done (.any,[(id,some (.mpo kk t (Kr l n z')))]) else .fail
   | none=>.fail
  | _,_=>.fail
def Bzg(v:AV)(m:Option (IntKind×Ty)):OpV :=
 Cg7 v m fun _ _ _ l=>.chk (decide (List.length l≤9223372036854775807)) (.done (Ur .i64 (List.length l),[]))
def Cmi(v:AV)(t:Option Ty)(k:Nat→OpV):OpV :=
 match v,t with
 | .d _ (.slice _) x,some (.slice _)=>k (List.length x)
 | .d _ .str x,some .str=>k (List.length x)
 | .nils,some (.slice _)=>k 0
 | .own id ab,some (.slice _)=>.get id fun
  | .sli af _ _ rows=>bif Nat.beq af ab then k rows.length else .fail
  | .frz af _ _ rows=>bif Nat.beq af ab then k rows.length else .fail
  | _=>.fail
 | .view id ab lo hi _,some (.slice _)=>.get id fun
  | .sli af _ _ rows=>bif Nat.beq af ab then k (hi-lo) else .fail
  | .frz af _ _ rows=>bif Nat.beq af ab then k (hi-lo) else .fail
  | _=>.fail
 | .mview id _ lo hi,some (.slice _)=>.get id fun
  | .mem _ _ _=>k (hi-lo)
  | .mfz _ _ _=>k (hi-lo)
  | _=>.fail
 | _,_=>.fail
def Ckx(fr:Bool):(t:Ty)→t.den→Nat→Option AV
 | .pair a _,x,0=>some (.rptr fr a x.1)
 | .pair _ b,x,n+1=>Ckx fr b x.2 n
 | _,_,_=>none
def Cj6:AV→Nat→Option AV
 | .pair a _,0=>some a
 | .pair _ b,n+1=>Cj6 b n
 | _,_=>none
def Cj(i:Int)(n:Nat):Bool:=decide (0≤i)&&decide (i<n)
def N5:Ty→Nat→Bool
 | .pair _ _,0=>true
 | .pair _ b,n+1=>N5 b n
 | _,_=>false
def Cbw(id:Id)(ai:List Nat)(t:Ty)(k:OpV):OpV :=
 .get id fun
  | .mem _ u _=>match La u ai with
   | some w=>bif Ty.beq w t then k else .fail
   | none=>.fail
  | .mfz _ u _=>match La u ai with
   | some w=>bif Ty.beq w t then k else .fail
   | none=>.fail
  | _=>.fail
def Bzr(id:Id)(ab:Nat)(ai:List Nat)(t:Ty)(k:OpV):OpV :=
 .get id fun
  | .sli af _ u _=>match Nat.beq af ab,La u ai with
   | true,some w=>bif Ty.beq w t then k else .fail
   | _,_=>.fail
  | .frz af _ u _=>match Nat.beq af ab,La u ai with
   | true,some w=>bif Ty.beq w t then k else .fail
   | _,_=>.fail
  | _=>.fail
def Bdz(v:AV)(t:Option Ty)(i:Int):OpV :=
 match v,t with
 | .d fr (.slice u) x,some (.slice u')=>bif Ty.beq u u'&&Nat.blt 0 u.size then .chk (Cj i (List.length x)) (.done (.rptr fr u (List.getD x i.toNat u.zero),[])) else .fail
 | .own id ab,some (.slice u')=>.get id fun
  | .sli af _ u rows=>bif Nat.beq af ab&&Ty.beq u u' then .chk (Cj i rows.length) (.done (.eptr id ab i.toNat [],[])) else .fail
  | .frz af _ u rows=>bif Nat.beq af ab&&Ty.beq u u' then .chk (Cj i rows.length) (.done (.eptr id ab i.toNat [],[])) else .fail
  | _=>.fail
 | .view id ab lo hi _,some (.slice u')=>.get id fun
  | .sli af _ u _=>bif Nat.beq af ab&&Ty.beq u u' then .chk (Cj i (hi-lo)) (.done (.eptr id ab (lo+i.toNat) [],[])) else .fail
  | .frz af _ u _=>bif Nat.beq af ab&&Ty.beq u u' then .chk (Cj i (hi-lo)) (.done (.eptr id ab (lo+i.toNat) [],[])) else .fail
  | _=>.fail
 | .ptr id ai,some (.arr n u)=>Cbw id ai (.arr n u) (.chk (Cj i n) (.done (.ptr id (Da ai [i.toNat]),[])))
 | .eptr id ab j ai,some (.arr n u)=>Bzr id ab ai (.arr n u) (.chk (Cj i n) (.done (.eptr id ab j (Da ai [i.toNat]),[])))
 | .rptr fr (.arr n u) x,some (.arr m u')=>bif Nat.beq n m&&Ty.beq u u' then .chk (Cj i n) (.done (.rptr fr u (List.getD x i.toNat u.zero),[])) else .fail
 | _,_=>.fail
def Bc1(v:AV)(t:Option Ty)(f:Nat):OpV :=
 match v,t with
 | .ptr id ai,some t=>bif N5 t f then Cbw id ai t (.done (.ptr id (Da ai [f]),[])) else .fail
 | .eptr id ab j ai,some t=>bif N5 t f then Bzr id ab ai t (.done (.eptr id ab j (Da ai [f]),[])) else .fail
 | .rptr fr u x,some t=>bif Ty.beq u t then (match Ckx fr u x f with
  | some a=>.done (a,[])
  | none=>.fail) else .fail
 | _,_=>.fail
def Caz(o:Option AV):OpV :=
 match o with
 | some a=>.done (a,[])
 | none=>.fail
def Che(v:AV)(t:Ty)(k:AV→OpV):OpV :=
 match v with
 | .ptr id ai=>.get id fun
  | .mem _ u c=>match La u ai,Ax9 c ai with
   | some w,some a=>bif Ty.beq w t&&Bg t a then k a else .fail
   | _,_=>.fail
  | .mfz _ u c=>match La u ai,Ax9 c ai with
   | some w,some a=>bif Ty.beq w t&&Bg t a then k a else .fail
   | _,_=>.fail
  | _=>.fail
 | .eptr id ab i ai=>.get id fun
  | .sli af fr u rows=>match Nat.beq af ab,Bpa fr u (rows.getD i u.zero) ai with
   | true,some a=>bif Bg t a then k a else .fail
   | _,_=>.fail
  | .frz af fr u rows=>match Nat.beq af ab,Bpa fr u (rows.getD i u.zero) ai with
   | true,some a=>bif Bg t a then k a else .fail
   | _,_=>.fail
  | _=>.fail
 | .rptr fr u x=>bif Ty.beq u t then k (.d fr u x) else .fail
 | _=>.fail
def Bz3(p v:AV)(t:Ty):OpV :=
 match p with
 | .ptr id ai=>.get id fun
  | .mem fm u c=>match La u ai,Blr c ai v with
   | some w,some c'=>bif Ty.beq w t&&Bg t v then .done (.any,[(id,some (.mem fm u c'))]) else .fail
   | _,_=>.fail
  | _=>.fail
 | .eptr id ab i ai=>.get id fun
  | .sli af fr u rows=>match Nat.beq af ab,v with
   | true,.d fr' u' y=>match Bob u (rows.getD i u.zero) ai u' y with
    | some z=>bif Ty.beq u' t then .done (.any,[(id,some (.sli ab (fr&&(fr'||u'.flat)) u (rows.set i z)))]) else .fail
    | none=>.fail
   | _,_=>.fail
  | _=>.fail
 | _=>.fail
def A8(n:Nat)(t:Ty):Bool:=Nat.blt 0 t.size&&decide (n*(24*t.size)≤140737488355328)
def Bku(s x:AV)(t:Ty)(base:Id):OpV :=
 match s with
 | .own id ab=>.get id fun
  | .sli af fr u rows=>match Nat.beq af ab,Yo (a:=.slice u) rows (.slice t) with
   | true,some old=>Wk x t ⟨[],[]⟩ false fun fa new _ =>
    .chk (A8 (List.length old+List.length new) t) (.done (.own id (Nat.succ ab),[(id,some (.sli (Nat.succ ab) (fr&&(fa||t.flat)) t (List.append old new)))]))
   | _,_=>.fail
  | _=>.fail
 | .nils=>Wk x t ⟨[],[]⟩ false fun fa new _=>.chk (A8 (List.length new) t) (.done (.own base 0,[(base,some (.sli 0 (fa||t.flat) t new))]))
 | .view id ab lo hi cp=>bif cp then
   Wk (.view id ab lo hi cp) t ⟨[],[]⟩ true fun mh old c=>Wk x t ⟨[],[]⟩ false fun fa new _ =>
    .chk (A8 (List.length old+List.length new) t) (.done (.d (mh&&(fa||t.flat)) (.slice t) (List.append old new),c.ups))
   else .fail
 | _=>.fail
def Btb(s x:AV)(t:Ty)(base:Id):OpV :=
 match s with
 | .view id ab lo hi true =>
  Wk (.view id ab lo hi true) t ⟨[],[]⟩ false fun mh old _=>Wk x t ⟨[],[]⟩ false fun fa new _ =>
   .chk (decide (0<List.length new)&&A8 (List.length old+List.length new) t) (.done (.own base 0,[(base,some (.sli 0 ((mh&&fa)||t.flat) t (List.append old new)))]))
 | _=>Bku s x t base
def Bsc(s:AV)(n:Int)(t:Ty)(base:Id):OpV :=
 match s with
 | .own id ab=>.get id fun
  | .sli af fr u rows=>match Nat.beq af ab,Yo (a:=.slice u) rows (.slice t) with
   | true,some old=>.chk (decide (0≤n)&&A8 (List.length old+n.toNat) t&&t.bare)
    (.done (.own id (Nat.succ ab),[(id,some (.sli (Nat.succ ab) fr t (List.append old (List.replicate n.toNat t.zero))))]))
   | _,_=>.fail
  | _=>.fail
 | .nils=>.chk (decide (0≤n)&&A8 n.toNat t&&t.bare) (.done (.own base 0,[(base,some (.sli 0 true t (List.replicate n.toNat t.zero)))]))
 | _=>.fail
def Bii(n:Nat)(lo hi:Option Int)(k:Nat→Nat→OpV):OpV :=
 match lo,hi with
 | none,none=>k 0 n
 | some l,none=>.chk (decide (0≤l)&&decide (l≤n)) (k l.toNat n)
 | none,some h=>.chk (decide (0≤h)&&decide (h≤n)) (k 0 h.toNat)
 | some l,some h=>.chk (decide (0≤l)&&decide (l≤h)&&decide (h≤n)) (k l.toNat h.toNat)
def Bs8(v:AV)(t:Option Ty)(lo hi:Option Int)(cp:Bool):OpV :=
 match v,t with
 | .d fr (.slice u) x,some (.slice u')=>bif Ty.beq u u' then Bii (List.length x) lo hi fun a b=>.done (.d fr (.slice u) ((List.drop a x).take (b-a)),[]) else .fail
 | .d _ .str x,some .str=>Bii (List.length x) lo hi fun a b=>.done (.d true .str ((List.drop a x).take (b-a)),[])
 | .own id ab,some (.slice u')=>.get id fun
  | .sli af _ u rows=>bif Nat.beq af ab&&Ty.beq u u' then Bii rows.length lo hi fun a b=>.done (.view id ab a b cp,[]) else .fail
  | .frz af _ u rows=>bif Nat.beq af ab&&Ty.beq u u' then Bii rows.length lo hi fun a b=>.done (.view id ab a b cp,[]) else .fail
  | _=>.fail
 | .ptr id ai,some (.arr n u)=>bif Nat.ble n 9223372036854775807 then Cbw id ai (.arr n u) (Bii n lo hi fun a b=>.done (.mview id ai a b,[])) else .fail
 | .view id ab x y _,some (.slice u')=>.get id fun
  | .sli af _ u _=>bif Nat.beq af ab&&Ty.beq u u' then Bii (y-x) lo hi fun a b=>.done (.view id ab (x+a) (x+b) cp,[]) else .fail
  | .frz af _ u _=>bif Nat.beq af ab&&Ty.beq u u' then Bii (y-x) lo hi fun a b=>.done (.view id ab (x+a) (x+b) cp,[]) else .fail
  | _=>.fail
 | .nils,some (.slice _)=>Bii 0 lo hi fun _ _=>.done (.nils,[])
 | .rptr fr (.arr n u) x,some (.arr m u')=>bif (Nat.beq n m&&Ty.beq u u')&&Nat.ble n 9223372036854775807 then Bii n lo hi fun a b=>.done (.d fr (.slice u) ((List.drop a x).take (b-a)),[]) else .fail
 | _,_=>.fail
def Be4(v:AV)(t:Option Ty)(lo hi mx:Option Int):OpV :=
 match mx with
 | none=>Bs8 v t lo hi false
 | some m=>match hi,t with
  | some h,some (.slice u)=>.chk (decide (h=m)) (Bs8 v (some (.slice u)) lo hi true)
  | _,_=>.fail
def Byp(v:AV)(t:Option Ty)(lo hi mx:Option Int):OpV :=
 match v,t,lo,hi,mx with
 | .own id ab,some (.slice u'),none,some h,none=>.get id fun
  | .sli af fr u rows=>bif Nat.beq af ab&&Ty.beq u u' then
    .chk (decide (0≤h)&&decide (h≤(List.length rows:Int))) (.done (.own id (Nat.succ ab),[(id,some (.sli (Nat.succ ab) fr u (List.take h.toNat rows)))])) else .fail
  | _=>.fail
 | _,_,_,_,_=>Be4 v t lo hi mx
def Bah(parts:List (Nat×AV))(ce:AV):Option AV :=
 match parts with
 | []=>some ce
 | (i,v)::au=>match Blr ce [i] v with
  | some jp=>Bah au jp
  | none=>none
def Aix:AV→AV
 | .d fr (.pair a b) x=>.pair (.d fr a x.1) (splitD fr b x.2)
 | .pair a b=>.pair a (Aix b)
 | v=>v
where
 splitD (fr:Bool):(t:Ty)→t.den→AV
  | .pair a b,x=>.pair (.d fr a x.1) (splitD fr b x.2)
  | t,x=>.d fr t x
def isD:AV→Bool
 | .d _ _ _=>true
 | _=>false
def Bre:Ty→Nat→Bool
 | .arr m _,i=>Nat.blt i m
 | .pair _ b,n+1=>Bre b n
 | _,_=>true
def Bai(t:Ty):List (Nat×AV)→Bool
 | []=>true
 | (i,v)::au=>(match La t [i] with
  | some u=>Bg u v
  | none=>false)&&Bre t i&&Bai t au
def Bsy(t:Ty)(parts:List (Nat×AV)):Option AV :=
 bif t.agg&&Bai t parts then
  bif t.bare&&Sc (fun p=>isD p.2) parts then Bah parts (.d true t t.zero) else Bah parts (Aix (Ayw t))
 else none
def Ai3(t:Ty):List (Nat×AV)→List t.den→Bool→Cl→(List t.den→Bool→Cl→OpV)→OpV
 | [],ce,fr,c,k=>k ce fr c
 | (i,v)::au,ce,fr,c,k=>roK true v t c fun f x c=>Ai3 t au (ce.set i x) (fr&&(f||t.flat)) c k
def Jh(v:Option AV):Option (Option Int) :=
 match v with
 | none=>some none
 | some a=>match asInt a with
  | some (_,x)=>some (some x)
  | none=>none
def Bno:Option Ty→Option Ty
 | some (.slice t)=>some t
 | _=>none
def Cfd(src dst:Option Ty)(v:AV)(base:Id):OpV :=
 match dst,v with
 | some (.int k),.d _ (.int _) x=>match src with
  | some (.int _)=>.done (Ur k (k.wrap x),[])
  | _=>.fail
 | some .str,v=>bif Bbd src then Wk v (.int .u8) ⟨[],[]⟩ false fun _ x _=>.done (.d true .str x,[]) else .fail
 | _,_=>.fail
def Ii{α:Type}:Nat→List α→List α
 | _,[]=>[]
 | 0,_::l=>l
 | n+1,a::l=>a::Ii n l
def At7{α:Type}(x:α):Nat→List α→List α
 | 0,l=>x::l
 | n+1,a::l=>a::At7 x n l
 | _+1,[]=>[x]
def Bin:AV→Option Id
 | .ptr b p=>match p with
  | []=>some b
  | _::_=>none
 | _=>none
def Cq9:AV→Option FuncId
 | .fn g _=>some g
 | _=>none
def Cn1:List AV→Option FuncId
 | []=>none
 | _::l=>match l with
  | []=>none
  | v::r=>match r with
   | []=>Cq9 v
   | _::_=>none
def Cp8(g:FuncId)(h:AV):AV→Option (Option AV×List AV)
 | .fn g' c=>bif Nat.beq g g' then (match Z1 c with
  | some cs=>some (some h,cs)
  | none=>none) else none
 | _=>none
def unA(y:Lay)(args:List AV):Option (Option AV×List AV) :=
 match y.wrap with
 | none=>some (none,args)
 | some g=>match args with
  | []=>none
  | h::l=>match l with
   | []=>none
   | v::r=>match r with
    | []=>Cp8 g h v
    | _::_=>none
def Bxm:Obj→Option (Id×Option Obj)
 | .mem fm t c=>match Bin c with
  | some r=>bif Ty.beq t .ptr then some (r,some (.mfz fm t (.ptr r []))) else none
  | none=>none
 | .mfz _ t c=>match Bin c with
  | some r=>bif Ty.beq t .ptr then some (r,none) else none
  | none=>none
 | _=>none
def Bgx:Option AV→Id→Bool
 | none,_=>true
 | some v,r=>match Bin v with
  | some i=>idE i r
  | none=>false
def Bkm:List Dz→Bool
 | .ptr _::_=>true
 | _=>false
def Brc(c:Cl)(frz:Bool)(b:Id):Option Obj→Cl
 | some o=>c.lend frz b o
 | none=>c
def Ce9(v:Nat)(s:B4)(y:Lay)(args:List AV)(base:Id):OpV :=
 match unA y args with
 | some (h,cs)=>match Bhh cs y.j with
  | some vb=>match Bin vb with
   | some b=>.get b fun ob=>match Bxm ob with
    | some (r,fz)=>bif Bkm s.ins&&Bgx h r then
      Xc s.alias s.ins (.ptr r []::Ii y.j cs) ⟨[],[]⟩ fun x c =>
       bif Anf c.ups b then .fail else .call v s x fun z =>
        Ark s.ins (.ptr r []::Ii y.j cs) z.2 base (Brc c s.alias b fz).ups fun n u =>
         Af4 s.outs z.1 n u fun vs _ u'=>.done (Blz vs,u')
     else .fail
    | none=>.fail
   | none=>.fail
  | none=>.fail
 | none=>.fail
def Cic(G:Ctx)(f:FuncId)(args:List AV)(base:Id):OpV :=
 match G.vfor f (Cn1 args) with
 | some (v,s,y)=>bif Nat.beq y.f f then Ce9 v s y args base else .fail
 | none=>match G.sig f with
  | some s=>Cb5 f s args base
  | none=>.fail
def Ah8(G:Ctx)(o:Oper)(ρ:Operand→AV)(base:Id):OpV :=
 match o.op with
 | .move x=>.done (ρ x,[])
 | .assign x=>.done (ρ x,[])
 | .pick c a b=>match asBool (ρ c) with
  | some q=>.br q (.done (ρ a,[])) (.done (ρ b,[]))
  | none=>.fail
 | .alloc e=>match G.ty e with
  | some t=>.done (.ptr base [],[(base,some (.mem true t (Ayw t)))])
  | none=>.fail
 | .box e x=>match G.ty e with
  | some t=>bif Bg t (ρ x) then .done (.ptr base [],[(base,some (.mem true t (ρ x)))]) else .fail
  | none=>.fail
 | .build t ps=>match G.ty t with
  | some t=>match t with
   | .arr n u=>bif u.bare then Caz (Bsy t (Vj (fun p=>(p.1,ρ p.2)) ps.toList)) else
    bif Sc (fun p=>Nat.blt p.1 n) ps.toList then
     Ai3 u (Vj (fun p=>(p.1,ρ p.2)) ps.toList) (List.replicate n u.zero) true ⟨[],[]⟩ fun rows fr c=>.done (.d fr (.arr n u) rows,c.ups) else .fail
   | _=>Caz (Bsy t (Vj (fun p=>(p.1,ρ p.2)) ps.toList))
  | none=>.fail
 | .buildSlice t n ps=>match Bno (G.ty t) with
  | some u=>bif Nat.ble (n*u.size) 16777216&&Nat.blt 0 u.size then
    Ai3 u (Vj (fun p=>(p.1,ρ p.2)) ps.toList) (List.replicate n u.zero) true ⟨[],[]⟩ fun rows fr c =>
     .done (.own base 0,(base,some (.sli 0 fr u rows))::c.ups) else .fail
  | none=>.fail
 | .load e a=>match G.ty e with
  | some t=>Che (ρ a) t fun v=>.done (v,[])
  | none=>.fail
 | .store e a x=>match G.ty e with
  | some t=>Bz3 (ρ a) (ρ x) t
  | none=>.fail
 | .nilCheck x=>match ρ x with
  | .ptr i p=>Cao i (.done (.ptr i p,[]))
  | .eptr i v j p=>.get i fun
   | .sli v' _ _ _=>bif Nat.beq v' v then .done (.eptr i v j p,[]) else .fail
   | .frz v' _ _ _=>bif Nat.beq v' v then .done (.eptr i v j p,[]) else .fail
   | _=>.fail
  | .rptr f t x=>.done (.rptr f t x,[])
  | _=>.fail
 | .binOp op T x y _=>Cmb op (G.ty T) (ρ x) (ρ y)
 | .unOp op _ x=>unK op (ρ x)
 | .convert s d x=>bif Nat.beq s d&&Bbd (G.ty s) then Bm5 (ρ x) else Cfd (G.ty s) (G.ty d) (ρ x) base
 | .slice t x lo hi mx=>match Jh (lo.map ρ),Jh (hi.map ρ),Jh (mx.map ρ) with
  | some l,some h,some m=>bif G.cut then Byp (ρ x) (G.ty t) l h m else Be4 (ρ x) (G.ty t) l h m
  | _,_,_=>.fail
 | .fieldAddr t x f=>Bc1 (ρ x) (G.ty t) f
 | .field t x f=>match G.ty t,Ax9 (ρ x) [f] with
  | some t,some a=>bif Bg t (ρ x)&&N5 t f then .done (a,[]) else .fail
  | _,_=>.fail
 | .indexAddr t x i=>match asInt (ρ i) with
  | some (_,n)=>Bdz (ρ x) (G.ty t) n
  | none=>.fail
 | .index t x i=>match asInt (ρ i),ρ x,G.ty t with
  | some (_,n),.d fr (.arr len u) xs,some (.arr av3 u')=>bif Nat.beq len av3&&Ty.beq u u' then .chk (Cj n len) (.done (.d fr u (List.getD xs n.toNat u.zero),[])) else .fail
  | some (_,n),.d _ .str xs,some .str=>.chk (Cj n (List.length xs)) (.done (Ur .u8 (List.getD xs n.toNat 0),[]))
  | _,_,_=>.fail
 | .extract x i=>match ρ x with
  | .tup a=>Caz (Cj6 a i)
  | _=>.fail
 | .makeFunc fn first caps=>match fn,first.toList with
  | .func f,[]=>bif Sc Bhe (Vj ρ caps.toList) then .done (.fn f (Atm (Vj ρ caps.toList)),[]) else .fail
  | _,_=>.fail
 | .makeMap t r=>match r,G.mapT t with
  | none,some (kk,u)=>bif u.flat then .done (.mapp base,[(base,some (.mpo kk u []))]) else .fail
  | _,_=>.fail
 | .lookup t m x ok=>bif ok then .fail else Buh (ρ m) (G.mapT t) (ρ x)
 | .mapUpdate t m x y=>Bl2 (ρ m) (G.mapT t) (ρ x) (ρ y)
 | .makeSlice t l c=>match Bno (G.ty t),asInt (ρ l),asInt (ρ c) with
  | some u,some (_,l),some (_,c)=>bif G.cut then .chk (decide (0≤l)&&decide (l=c)&&A8 c.toNat u&&u.bare) (.done (.view base 0 0 l.toNat true,[(base,some (.sli 0 true u (List.replicate l.toNat u.zero)))]))
   else .chk (decide (0≤l)&&decide (l≤c)&&A8 c.toNat u&&u.bare) (.done (.own base 0,[(base,some (.sli 0 true u (List.replicate l.toNat u.zero)))]))
  | _,_,_=>.fail
 | .call c=>match c.callee with
  | .builtin b=>match b,Vj ρ c.args.toList with
   | .len,[v]=>match c.argTypes.toList with
    | [t]=>match G.mapT t with
     | some m=>Bzg v (some m)
     | none=>Cmi v (G.ty t) fun n=>.done (Ur .i64 n,[])
    | _=>.fail
   | .cap,[v]=>match c.argTypes.toList with
    | [t]=>match v,G.ty t with
     | .nils,some (.slice _)=>.done (Ur .i64 0,[])
     | _,_=>.fail
    | _=>.fail
   | .append,[s,x]=>match c.argTypes.toList with
    | [t,t']=>match Bno (G.ty t) with
     | some u=>match Nat.beq t t' with
      | true=>bif G.cut then Btb s x u base else Bku s x u base
      | false=>match G.ty t',asInt x with
       | some (.int _),some (_,n)=>Bsc s n u base
       | _,_=>.fail
     | none=>.fail
    | _=>.fail
   | .min,[v,w]=>match asInt v,asInt w with
    | some (k,x),some (k',y)=>bif kEq k k' then .br (decide (y<x)) (.done (Ur k y,[])) (.done (Ur k x,[])) else .fail
    | _,_=>.fail
   | .max,[v,w]=>match asInt v,asInt w with
    | some (k,x),some (k',y)=>bif kEq k k' then .br (decide (x<y)) (.done (Ur k y,[])) (.done (Ur k x,[])) else .fail
    | _,_=>.fail
   | _,_=>.fail
  | .value x=>match ρ x with
   | .fn f c'=>match Z1 c' with
    | some cs=>Cic G f (Da (Vj ρ c.args.toList) cs) base
    | none=>.fail
   | _=>.fail
  | _=>.fail
 | _=>.fail
structure St where
 env:List (Nat×AV)
 objs:Pm
 next:Nat
def Gk:List (Nat×AV)→Nat→AV
 | [],_=>.any
 | (i,v)::r,t=>match Nat.beq i t with
  | true=>v
  | false=>Gk r t
def Ak:Pm→Id→Option Obj
 | [],_=>none
 | (i,v)::r,t=>match idE i t with
  | true=>v
  | false=>Ak r t
def St.eval(S:St):Operand→AV
 | .tmp t=>Gk S.env t
 | .const v=>Cht v
 | .func f=>.fn f (.d true .unit ())
 | .global _=>.any
abbrev Gi:=(f:FuncId)→(s:B4)→Iu s.ins→Option s.outDen
structure Row where
 at_:Nat
 reads:List Id
 writes:List Id
def Zh:Pm→List Id
 | []=>[]
 | p::r=>p.1::Zh r
def Aqn:List Id→Id→Bool
 | [],_=>false
 | a::l,n=>idE a n||Aqn l n
def Aqa:List Id→List Id→Bool
 | [],_=>true
 | a::l,m=>!Aqn m a&&Aqa l m
def Bi2(ce:List Nat):List Edge→Nat→Nat
 | [],m=>m
 | e::r,m=>Bi2 ce r (bif Region.binds .any e then Nat.lor m (Nat.lor (Nat.shiftLeft 1 e.on) (ce.getD e.on 0)) else m)
def Vo:List Oper→List Nat→List Nat
 | [],ce=>ce
 | o::r,ce=>Vo r (Da ce [Bi2 ce o.after.toList 0])
def Cbr:Option Oper→Option Tmp
 | none=>none
 | some o=>o.dst
def Bgq(ao:Array Oper)(i j:Nat):Bool :=
 match Bhh ao.toList i,Bhh ao.toList j with
 | some x,some y=>Oper.apart ao x y
 | _,_=>false
def Bal(ao:Array Oper)(bs:List Nat):List Row→Bool
 | []=>true
 | r::au=>Sc (fun q=>Nat.testBit (bs.getD r.at_ 0) q.at_ ||
   (Bgq ao q.at_ r.at_&&Aqa q.writes r.reads&&Aqa q.writes r.writes&&Aqa r.writes q.reads)) au&&Bal ao bs au
def Ad5(env:List (Nat×AV))(dst:Option Tmp)(v:AV):List (Nat×AV) :=
 match dst with
 | some d=>(d,v)::env
 | none=>env
def Bo4:Nat:=18446744073709551616
theorem Bn3:∃ L:Af,L=fun _ _ round=>Bb8 round Bo4:=⟨_,rfl⟩
def Fv{ω δ:Type}(f:δ→Option ω)(x:δ):Option ω:=f x
def Ac:Af:=Classical.choose Bn3
theorem Arw:Ac=fun _ _ round=>Bb8 round Bo4:=Classical.choose_spec Bn3
theorem Cbn:∃ n:Nat,n=Bo4:=⟨_,rfl⟩
def Bkh:Nat:=Classical.choose Cbn
theorem Bkn:Bkh=18446744073709551616:=Classical.choose_spec Cbn
def Bew(S:St):List (Nat×Dz)→List AV
 | []=>[]
 | (i,_)::r=>Gk S.env i::Bew S r
def Ha:List (Nat×Dz)→List Dz
 | []=>[]
 | (_,m)::r=>m::Ha r
def Qi:List (Nat×Dz)→List AV→List (Nat×AV)
 | (i,_)::r,v::vs=>(i,v)::Qi r vs
 | _,_=>[]
def Cbk(S:St)(x:Ali):Option (Id×Nat) :=
 match Gk S.env x.q with
 | .ptr id []=>match Ak S.objs id with
  | some (.mem _ u c)=>match La x.t [x.i] with
   | some (.slice _)=>bif Ty.beq u x.t&&Bre x.t x.i then (match Ax9 c [x.i] with
    | some (.own j v)=>some (j,v)
    | _=>none) else none
   | _=>none
  | _=>none
 | _=>none
def slB:Option Obj→Nat→Bool
 | some (.sli v _ _ _),w=>Nat.beq v w
 | some (.frz v _ _ _),w=>Nat.beq v w
 | _,_=>false
def Bn2(S:St)(x:Ali):Bool :=
 match Cbk S x,Gk S.env x.s with
 | some (j,v),.own j' v'=>idE j j'&&(Nat.beq v v'&&slB (Ak S.objs j) v)
 | _,_=>false
def Bm9(S:St):List Ali→List (Nat×AV)
 | []=>S.env
 | x::r=>match Cbk S x with
  | some (j,v)=>(x.s,.own j v)::Bm9 S r
  | none=>Bm9 S r
def Aka(S:St):Nat→List Dz→List AV
 | _,[]=>[]
 | n,_::ms=>Gk S.env n::Aka S (Nat.succ n) ms
def Zc:List Dz→List AV→List AV
 | m::ms,v::vs=>(match m with | .ptr _ | .optr _=>v|_=>.d true .unit ())::Zc ms vs
 | _,_=>[]
def Azy(S:St):Nat→Nat→List AV
 | _,0=>[]
 | i,n+1=>Gk S.env i::Azy S (Nat.succ i) n
def Bts(y:Lay)(ins:List Dz):Nat :=
 match y.wrap with
 | none=>List.length ins
 | some _=>2
def Bxs(y:Lay)(n:Nat)(S:St):Option (List AV) :=
 match unA y (Azy S 0 n) with
 | some (h,cs)=>match Bhh cs y.j with
  | some vb=>match Bin vb with
   | some b=>match Ak S.objs b with
    | some ob=>match Bxm ob with
     | some (r,fz)=>match fz with
      | none=>bif Bgx h r then some (.ptr r []::Ii y.j cs) else none
      | some _=>none
     | none=>none
    | none=>none
   | none=>none
  | none=>none
 | none=>none
def Ah6:Id:=(0,1,0)
def Adx(y:Lay):List AV→List AV
 | h::t=>match y.wrap with
  | none=>At7 (.ptr Ah6 []) y.j t
  | some g=>[h,.fn g (Atm (At7 (.ptr Ah6 []) y.j t))]
 | []=>[]
def Bzd:List AV→Pm
 | []=>[]
 | v::_=>match Bin v with
  | some r=>[(Ah6,some (.mfz false .ptr (.ptr r [])))]
  | none=>[]
def Bb6:List AV→Bool
 | []=>false
 | v::_=>match Bin v with
  | some _=>true
  | none=>false
def Bca{α:Type}:Nat→List α→List α
 | 0,_=>[]
 | _+1,[]=>[]
 | n+1,a::l=>a::Bca n l
def Bbx{α:Type}:Nat→List α→List α
 | 0,l=>l
 | _+1,[]=>[]
 | n+1,_::l=>Bbx n l
section
variable {ω:Type} (C:Gi)
def Lv{α:Type}(objs:Pm):OpT α→List Id→(α→List Id→Option ω)→Option ω
 | .fail,_,_=>none
 | .done a,l,k=>k a l
 | .br c t e,l,k=>Ag c (Lv objs t l k) (Lv objs e l k)
 | .get id f,l,k=>match Ak objs id with
  | some o=>Lv objs (f o) (id::l) k
  | none=>none
 | .call f s x g,l,k=>(C f s x).bind fun y=>Lv objs (g y) l k
 | .opt _ o n s,l,k=>Cc0 o (Lv objs n l k) fun y=>Lv objs (s y) l k
def Akq(G:Ctx)(ao:Array Oper)(dq:Bool):List (Nat×Oper)→St→List Row→(St→Option ω)→Option ω
 | [],S,rows,k=>Ag (!dq||Bal ao (Vo ao.toList []) rows) (k { S with next:=Nat.succ S.next }) none
 | (i,o)::au,S,rows,k =>
  let run (S:St):Option ω :=
   Lv C S.objs (Ah8 G o S.eval (S.next,i,0)) [] fun a l =>
    Akq G ao dq au { S with env:=Ad5 S.env o.dst a.1,objs:=Da a.2 S.objs } (⟨i,l,Zh a.2⟩::rows) k
  let skip (S:St):Option ω:=Akq G ao dq au { S with env:=Ad5 S.env o.dst .un } (⟨i,[],[]⟩::rows) k
  match o.guard with
  | none=>run S
  | some (j,fj)=>match Cbr (Bhh ao.toList j) with
   | none=>none
   | some d=>match Gk S.env d with
    | .d fr .bool b =>
     let St (q:Bool):St:={ S with env:=(d,.d fr .bool q)::S.env }
     match fj with
     | true=>Ag b (run (St true)) (skip (St false))
     | false=>Ag b (skip (St true)) (run (St false))
    | .un=>skip S
    | _=>none
def Bzp(al:List Ali)(ms:List Dz)(hs:List (Nat×Dz))(x:Iu ms)(k:St→Option ω):Option ω :=
 Lv C [] (Af4 ms x (0,0,0) [] fun vs _ u=>.done (vs,u)) [] fun a _=>k { env:=Bm9 { env:=Qi hs a.1,objs:=a.2,next:=1 } al,objs:=a.2,next:=1 }
def Aw7(al:List Ali)(ms:List Dz)(hs:List (Nat×Dz))(S:St)(k:Iu ms→Option ω):Option ω :=
 bif Sc (Bn2 S) al then Lv C S.objs (Xc true ms (Bew S hs) ⟨[],[]⟩ fun x _=>.done x) [] fun x _=>k x else none
def Clx(y:Lay)(ins:List Dz)(hs:List (Nat×Dz))(x:Iu (Da ins (Ha hs)))(k:St→Option ω):Option ω :=
 Lv C [] (Af4 (Da ins (Ha hs)) x (0,0,0) [] fun vs _ u=>.done (vs,u)) [] fun a _ =>
  bif Bb6 a.1 then k { env:=Da (Ae6 0 (Adx y (Bca (List.length ins) a.1))) (Qi hs (Bbx (List.length ins) a.1)),objs:=Da (Bzd a.1) a.2,next:=1 } else none
def Bnl(y:Lay)(ins:List Dz)(hs:List (Nat×Dz))(S:St)(k:Iu (Da ins (Ha hs))→Option ω):Option ω :=
 match Bxs y (Bts y ins) S with
 | some vs=>Lv C S.objs (Xc true (Da ins (Ha hs)) (Da vs (Bew S hs)) ⟨[],[]⟩ fun x _=>.done x) [] fun x _=>k x
 | none=>none
def Cbo(step:(St→Option ω)→St→Option ω)(n:Nat):St→Option ω :=
 Nat.rec (motive:=fun _=>St→Option ω) (fun _=>none) (fun _ ih=>step ih) n
def Ij(L:Af)(G:Ctx)(f:FuncId):Code→Nat→(St→Option ω)→(Nat→St→Option ω)→(St→Option ω)→St→Option ω
 | .skip,_,kn,_,_,S=>kn S
 | .region i ao dq,_,kn,_,_,S=>match G.hint f (Nat.add 1000000 i) with
  | []=>Akq C G ao dq (Ae6 0 ao.toList) S [] kn
  | _::_=>Aw7 C (G.ali f (Nat.add 1000000 i)) (Ha (G.hint f (Nat.add 1000000 i))) (G.hint f (Nat.add 1000000 i)) S
   (Fv fun x=>Bzp C (G.ali f (Nat.add 1000000 i)) (Ha (G.hint f (Nat.add 1000000 i))) (G.hint f (Nat.add 1000000 i)) x fun S=>Akq C G ao dq (Ae6 0 ao.toList) S [] kn)
 | .seq a b,id,kn,ke,kr,S=>Ij L G f a id (Ij L G f b id kn ke kr) ke kr S
 | .cond c a b,id,kn,ke,kr,S=>match S.eval c with
  | .d _ .bool q=>Ag q (Ij L G f a id kn ke kr S) (Ij L G f b id kn ke kr S)
  | .ub e r=>Ag e (Biq (Ij L G f a id kn ke kr S) (Ij L G f b id kn ke kr S)) (Ag r (Ij L G f a id kn ke kr S) (Ij L G f b id kn ke kr S))
  | _=>none
 | .block id c,_,kn,ke,kr,S=>Ij L G f c id kn (fun i S=>match Nat.beq i id with|true=>kn S|false=>ke i S) kr S
 | .loop c,id,_,ke,kr,S=>match G.lay f with
  | some y=>Bnl C y.1 y.2 (G.hint f id) S (L _ _ (fun aa x=>Clx C y.1 y.2 (G.hint f id) x
   (Ij L G f c id (fun S=>Bnl C y.1 y.2 (G.hint f id) S aa) ke kr)))
  | none=>match G.unr f id with
   | n+1=>Cbo (fun aa S=>Ij L G f c id aa ke kr S) (n+1) S
   | 0=>Aw7 C (G.ali f id) (Ha (G.hint f id)) (G.hint f id) S (L _ _ (fun aa x=>Bzp C (G.ali f id) (Ha (G.hint f id)) (G.hint f id) x
   (Ij L G f c id (fun S=>Aw7 C (G.ali f id) (Ha (G.hint f id)) (G.hint f id) S aa) ke kr)))
 | .exit i,_,_,ke,_,S=>ke i S
 | .label _,_,kn,_,_,S=>kn S
 | .ret,_,_,_,kr,S=>kr S
 | _,_,_,_,_,_=>none
def Aaa{α:Type}(G:Ctx)(S:St):List ResultVar→(List AV→OpT α)→OpT α
 | [],k=>k []
 | .tmp t::r,k=>Aaa G S r fun vs=>k (Gk S.env t::vs)
 | .cell a e::r,k=>match G.ty e,Gk S.env a with
  | some t,.ptr id ai=>.get id fun
   | .mem _ u c=>match La u ai,Ax9 c ai with
    | some w,some v=>bif Ty.beq w t&&Bg t v then Aaa G S r fun vs=>k (v::vs) else .fail
    | _,_=>.fail
   | .mfz _ u c=>match La u ai,Ax9 c ai with
    | some w,some v=>bif Ty.beq w t&&Bg t v then Aaa G S r fun vs=>k (v::vs) else .fail
    | _,_=>.fail
   | _=>.fail
  | _,_=>.fail
end
def Ci1{α:Type}(s:B4)(rs:List AV)(v:AV)(k:OpT α):OpT α :=
 bif Ayx s then match rs,v with
  | [.view id ab lo _ _],.own j7 af=>bif idE id j7&&(Nat.beq ab af&&Nat.beq lo 0) then .get id fun
   | .frz i6 _ _ _=>bif Nat.beq i6 ab then k else .fail
   | _=>.fail
   else .fail
  | _,_=>.fail
 else k
def Afk(L:Af)(C:Gi)(G:Ctx)(f:FuncId)(fn:Func)(c:Code)(s:B4)(x:Iu s.ins):Option s.outDen :=
 Lv C [] (Af4 s.ins x (0,0,0) [] fun vs _ u=>.done (vs,u)) [] fun (a:List AV×Pm) _ =>
  let cg (S:St):Option s.outDen :=
   Lv C S.objs (Aaa G S fn.results.toList fun rs=>Ci1 s rs (Gk S.env 0) (Xc true s.outs rs ⟨[],[]⟩ fun y c =>
    Xc true (Aym s.ins) (Zc s.ins (Aka S 0 s.ins)) c fun z _=>.done (y,z))) [] fun y _=>some y
  Ij C L G f c 0 cg (fun _ _=>none) cg { env:=Ae6 0 a.1,objs:=a.2,next:=1 }
def T0(L:Af)(C:Gi)(G:Ctx)(v:Nat)(fn:Func)(c:Code)(s:B4)(y:Lay)(x:Iu s.ins):Option s.outDen :=
 Lv C [] (Af4 s.ins x (0,0,0) [] fun vs _ u=>.done (vs,u)) [] fun (a:List AV×Pm) _ =>
  bif Bb6 a.1 then
   let cg (S:St):Option s.outDen :=
    match Bxs y (Bts y s.ins) S with
    | some vs=>Lv C S.objs (Aaa G S fn.results.toList fun rs=>Xc true s.outs rs ⟨[],[]⟩ fun y c =>
      Xc true (Aym s.ins) (Zc s.ins vs) c fun z _=>.done (y,z)) [] fun y _=>some y
    | none=>none
   Ij C L G v c 0 cg (fun _ _=>none) cg { env:=Ae6 0 (Adx y a.1),objs:=Da (Bzd a.1) a.2,next:=1 }
  else none
end Go.Pon
namespace Go.Pon
open Go
def B7{α:Type}(R:List Value→α→Prop)(n:Nat):List Value→List α→Prop
 | cs,[]=>cs=[]
 | cs,x::xs=>n≤cs.length∧R (cs.take n) x∧B7 R n (cs.drop n) xs
def inK(k:IntKind)(x:Int):Prop:=k.min≤x∧x≤k.max
def DR(w:World)(ok:Nat→Prop):(t:Ty)→List Value→t.den→Prop
 | .unit,cs,_=>cs=[]
 | .pair a b,cs,x=>DR w ok a (cs.take a.size) x.1∧DR w ok b (cs.drop a.size) x.2
 | .int k,cs,x=>cs=[.int k x]∧inK k x
 | .bool,cs,x=>cs=[.bool x]
 | .str,cs,x=>∃ s:ByteArray,cs=[.string s]∧x=s.data.toList.map (fun b=>(b.toNat:Int))∧s.size≤maxLen
 | .arr n t,cs,x=>List.length x=n∧B7 (DR w ok t) t.size cs x
 | .slice t,cs,x=>∃ a cap,cs=[.slice a (List.length x) cap]∧List.length x≤cap∧cap≤maxLen ∧
   (a=none→cap=0) ∧
   ∃ rows,B7 (DR w ok t) t.size rows x∧(rows≠[]→∃ ad,a=some ad∧ok ad.block∧∀ j v,rows[j]?=some v→w.cell? (ad.add j)=some v)
 | .ptr,cs,_=>cs=[.pointer none]
section rows
variable {α:Type} {R R':List Value→α→Prop} {n:Nat}
theorem B7.mono(h:∀ c x,R c x→R' c x):∀ {cs:List Value} {xs:List α},B7 R n cs xs→B7 R' n cs xs
 | _,[],hr=>hr
 | _,_::_,⟨h1,h2,h3⟩=>⟨h1,h _ _ h2,B7.mono h h3⟩
theorem B7.length:∀ {cs:List Value} {xs:List α},B7 R n cs xs→cs.length=xs.length*n
 | _,[],hr=>by simp[show _=([]:List Value) from hr]
 | cs,x::xs,⟨h1,_,h3⟩=>by
  have:=B7.length h3
  simp only[ac0] at this
  simp only[ac5,ae4,ap4]
  omega
theorem B7.get:∀ {cs:List Value} {xs:List α} (h:B7 R n cs xs) (i:Nat) (hi:i<xs.length),R ((cs.drop (i*n)).take n) xs[i]
 | _,_::_,⟨_,h2,_⟩,0,_=>by simpa using h2
 | cs,x::xs,⟨_,_,h3⟩,i+1,hi=>by
  have:=B7.get h3 i (by simpa using hi)
  simp only[ah4] at this
  simpa [ae4,Nat.add_comm] using this
theorem B7.append:∀ {cs ds:List Value} {xs ys:List α},B7 R n cs xs→B7 R n ds ys→B7 R n (cs++ds) (xs++ys)
 | cs,ds,[],ys,h,h'=>by rw[show cs=[] from h];exact h'
 | cs,ds,x::xs,ys,⟨h1,h2,h3⟩,h'=>by
  refine⟨by simp;omega,?_,?_⟩
  ·rw[ad4 h1];exact h2
  ·rw[ae7 h1];exact B7.append h3 h'
theorem B7.drop:∀ {cs:List Value} {xs:List α} (h:B7 R n cs xs) (i:Nat),B7 R n (cs.drop (i*n)) (xs.drop i)
 | cs,xs,h,0=>by simpa using h
 | cs,[],h,i+1=>by rw[show cs=[] from h];simp[B7]
 | cs,x::xs,⟨_,_,h3⟩,i+1=>by
  have:=B7.drop h3 i
  simp only[ah4] at this
  simpa [ae4,Nat.add_comm] using this
theorem B7.take:∀ {cs:List Value} {xs:List α} (h:B7 R n cs xs) (i:Nat),B7 R n (cs.take (i*n)) (xs.take i)
 | cs,xs,h,0=>by simp[B7]
 | cs,[],h,i+1=>by rw[show cs=[] from h];simp[B7]
 | cs,x::xs,⟨h1,h2,h3⟩,i+1=>by
  have:=B7.take h3 i
  refine⟨by simp[ae4];omega,?_,?_⟩
  ·rw[ao3];simpa [ae4] using h2
  ·rw[aq2]
   have e:(i+1)*n-n=i*n:=by simp[ae4]
   rw[e];exact this
theorem B7.set:∀ {cs:List Value} {xs:List α} (h:B7 R n cs xs) (i:Nat) (hi:i<xs.length) (d:List Value) (y:α),d.length=n→R d y →
  B7 R n (cs.take (i*n)++d++cs.drop (i*n+n)) (xs.set i y)
 | cs,x::xs,⟨h1,h2,h3⟩,0,_,d,y,hd,hy=>by
  refine⟨by simp[hd],?_,?_⟩
  ·rw[show (List.take (0*n) cs++d++List.drop (0*n+n) cs)=d++List.drop n cs from by simp,ad4 (by omega),aa8 (by omega)]
   exact hy
  ·rw[show (List.take (0*n) cs++d++List.drop (0*n+n) cs)=d++List.drop n cs from by simp,ae7 (by omega),ag5 (by omega)]
   exact h3
 | cs,x::xs,⟨h1,h2,h3⟩,i+1,hi,d,y,hd,hy=>by
  have:=B7.set h3 i (by simpa using hi) d y hd hy
  have e1:(i+1)*n=n+i*n:=by simp[ae4,Nat.add_comm]
  refine⟨by simp;omega,?_,?_⟩
  ·rw[e1,ab6,ad4 (by simp;omega),ao3]
   rw[ad8 (by omega)];exact h2
  ·rw[e1,ab6,ae7 (by simp;omega),aq2,← ab6]
   rw[show n+i*n-n=i*n by omega,show n+i*n+n=n+(i*n+n) by omega,← ah4]
   exact this
theorem B7.nil:B7 R n [] ([]:List α):=rfl
theorem B7.single{c:List Value}{x:α}(hl:c.length=n)(h:R c x):B7 R n c [x] :=
 ⟨by omega,by rwa [aa8 (by omega)],by rw[ag5 (by omega)];rfl⟩
theorem B7.replicate{z:List Value}{x:α}(hl:z.length=n)(h:R z x):∀ k,B7 R n (List.replicate k z).flatten (List.replicate k x)
 | 0=>by simp[B7]
 | k+1=>by
  simp only[aq0,List.flatten_cons]
  exact B7.append (xs:=[x]) (B7.single hl h) (B7.replicate hl h k)
end rows
section
variable {w w':World} {ok ok':Nat→Prop}
theorem DR.mono:∀ {t:Ty} {cs:List Value} {x:t.den} (h:∀ b,ok b→ok' b),DR w ok t cs x→DR w ok' t cs x
 | .unit,_,_,_,hr=>hr
 | .pair _ _,_,_,h,⟨h1,h2⟩=>⟨DR.mono h h1,DR.mono h h2⟩
 | .int _,_,_,_,hr=>hr
 | .bool,_,_,_,hr=>hr
 | .str,_,_,_,hr=>hr
 | .arr _ _,_,_,h,⟨h1,h2⟩=>⟨h1,h2.mono fun _ _=>DR.mono h⟩
 | .slice _,_,_,h,⟨a,cap,h1,h2,h3,h4,rows,h5,h6⟩ =>
  ⟨a,cap,h1,h2,h3,h4,rows,h5.mono fun _ _=>DR.mono h,fun bm=>let ⟨ad,e,ho,hc⟩:=h6 bm;⟨ad,e,h _ ho,hc⟩⟩
 | .ptr,_,_,_,hr=>hr
theorem DR.world(hw:∀ b,ok b→w'.heap[b]?=w.heap[b]?):∀ {t:Ty} {cs:List Value} {x:t.den},DR w ok t cs x→DR w' ok t cs x
 | .unit,_,_,hr=>hr
 | .pair _ _,_,_,⟨h1,h2⟩=>⟨DR.world hw h1,DR.world hw h2⟩
 | .int _,_,_,hr=>hr
 | .bool,_,_,hr=>hr
 | .str,_,_,hr=>hr
 | .arr _ _,_,_,⟨h1,h2⟩=>⟨h1,h2.mono fun _ _=>DR.world hw⟩
 | .slice _,_,_,⟨a,cap,h1,h2,h3,h4,rows,h5,h6⟩ =>
  ⟨a,cap,h1,h2,h3,h4,rows,h5.mono fun _ _=>DR.world hw,fun bm=>let ⟨ad,e,ho,hc⟩:=h6 bm;
   ⟨ad,e,ho,fun j v hv=>by
    have hb:(ad.add j).block=ad.block:=by unfold Addr.add;split<;>rfl
    rw[World.cell?_of_block (w:=w) (by rw[hb];exact hw _ ho)];exact hc j v hv⟩⟩
 | .ptr,_,_,hr=>hr
theorem DR.move(hw:∀ b,b<w.heap.size→ok b→ok' b∧w'.heap[b]?=w.heap[b]?):∀ {t:Ty} {cs:List Value} {x:t.den},DR w ok t cs x→DR w' ok' t cs x
 | .unit,_,_,hr=>hr
 | .pair _ _,_,_,⟨h1,h2⟩=>⟨DR.move hw h1,DR.move hw h2⟩
 | .int _,_,_,hr=>hr
 | .bool,_,_,hr=>hr
 | .str,_,_,hr=>hr
 | .arr _ _,_,_,⟨h1,h2⟩=>⟨h1,h2.mono fun _ _=>DR.move hw⟩
 | .slice _,_,_,⟨a,cap,h1,h2,h3,h4,rows,h5,h6⟩ =>
  ⟨a,cap,h1,h2,h3,h4,rows,h5.mono fun _ _=>DR.move hw,fun bm=>by
   obtain⟨ad,e,ho,hc⟩:=h6 bm
   obtain⟨v0,ct⟩:∃ v,rows[0]?=some v:=by
    cases rows with
    | nil=>exact absurd rfl bm
    | cons v r=>exact⟨v,rfl⟩
   have wo:∀ j,(ad.add j).block=ad.block:=fun j=>by unfold Addr.add;split<;>rfl
   have ar:ad.block<w.heap.size:=by
    have:=World.block_lt_of_cell? w _ (hc 0 v0 ct)
    rwa [wo] at this
   obtain⟨h1,h2⟩:=hw _ ar ho
   exact⟨ad,e,h1,fun j v hv=>by rw[World.cell?_of_block (w:=w) (by rw[wo];exact h2)];exact hc j v hv⟩⟩
 | .ptr,_,_,hr=>hr
theorem DR.len:∀ {t:Ty} {cs:List Value} {x:t.den},DR w ok t cs x→cs.length=t.size
 | .unit,_,_,hr=>by rw[show _=([]:List Value) from hr];rfl
 | .pair a b,cs,_,⟨h1,h2⟩=>by
  have h1:=DR.len h1;have h2:=DR.len h2
  simp only[ab2,ac0,Ty.size] at *
  omega
 | .int _,_,_,hr=>by rw[hr.1];rfl
 | .bool,_,_,hr=>by rw[show _=[_] from hr];rfl
 | .str,_,_,⟨_,h,_⟩=>by rw[h];rfl
 | .arr n t,_,x,⟨h1,h2⟩=>by rw[B7.length h2,h1];rfl
 | .slice _,_,_,⟨_,_,h,_⟩=>by rw[h];rfl
 | .ptr,_,_,hr=>by rw[show _=[_] from hr];rfl
theorem DR.flat:∀ {t:Ty} {cs:List Value} {x:t.den},t.flat=true→DR w ok t cs x→DR w' ok' t cs x
 | .unit,_,_,_,hr=>hr
 | .pair a b,_,_,h,⟨h1,h2⟩=>by
  simp only[Ty.flat,aa5] at h
  exact⟨DR.flat h.1 h1,DR.flat h.2 h2⟩
 | .int _,_,_,_,hr=>hr
 | .bool,_,_,_,hr=>hr
 | .str,_,_,_,hr=>hr
 | .arr _ t,_,_,h,⟨h1,h2⟩=>⟨h1,h2.mono fun _ _=>DR.flat (t:=t) h⟩
 | .ptr,_,_,_,hr=>hr
theorem DR.one:∀ {t:Ty} {cs:List Value} {x:t.den},DR w ok t cs x→∀ v∈cs,v.oneCell'=true
 | .unit,_,_,hr=>by rw[show _=([]:List Value) from hr];simp
 | .pair a b,cs,_,⟨h1,h2⟩=>by
  intro v hv
  rw[← ad7 a.size cs] at hv
  rcases ad9.1 hv with h|h
  ·exact DR.one h1 v h
  ·exact DR.one h2 v h
 | .int _,_,_,hr=>by rw[hr.1];simp[Value.oneCell']
 | .bool,_,_,hr=>by rw[show _=[_] from hr];simp[Value.oneCell']
 | .str,_,_,⟨_,h,_⟩=>by rw[h];simp[Value.oneCell']
 | .arr n t,cs,x,⟨h1,h2⟩=>by
  intro v hv
  have key:∀ (xs:List t.den) (cs:List Value),B7 (DR w ok t) t.size cs xs→∀ v∈cs,v.oneCell'=true:=by
   intro xs
   induction xs with
   | nil=>intro cs h v hv;rw[show cs=[] from h] at hv;simp at hv
   | cons x xs ih =>
    intro cs ⟨_,h2,h3⟩ v hv
    rw[← ad7 t.size cs] at hv
    rcases ad9.1 hv with h|h
    ·exact DR.one h2 v h
    ·exact ih _ h3 v h
  exact key x cs h2 v hv
 | .slice _,_,_,⟨_,_,h,_⟩=>by rw[h];simp[Value.oneCell']
 | .ptr,_,_,hr=>by rw[show _=[_] from hr];simp[Value.oneCell']
end
def Po:Ty→List Value
 | .unit=>[]
 | .pair a b=>Po a++Po b
 | .int k=>[.int k 0]
 | .bool=>[.bool false]
 | .str=>[.string ⟨#[]⟩]
 | .arr n t=>(List.replicate n (Po t)).flatten
 | .slice _=>[.slice none 0 0]
 | .ptr=>[.pointer none]
theorem E7:∀ t:Ty,(Po t).length=t.size
 | .unit=>rfl
 | .pair a b=>by simp[Po,Ty.size,E7 a,E7 b]
 | .int _=>rfl
 | .bool=>rfl
 | .str=>rfl
 | .arr n t=>by simp[Po,Ty.size,E7 t]
 | .slice _=>rfl
 | .ptr=>rfl
theorem Bf1(k:IntKind):inK k 0:=by cases k<;>simp[inK,IntKind.min,IntKind.max,IntKind.signed,IntKind.bits]
theorem DR.zero{w:World}{ok:Nat→Prop}:∀ t:Ty,DR w ok t (Po t) t.zero
 | .unit=>rfl
 | .pair a b=>by
  refine⟨?_,?_⟩
  ·rw[show Po (.pair a b)=Po a++Po b from rfl,ad4 (by rw[E7];exact ab4 _),aa8 (by rw[E7];exact ab4 _)]
   exact DR.zero a
  ·rw[show Po (.pair a b)=Po a++Po b from rfl,ae7 (by rw[E7];exact ab4 _),ag5 (by rw[E7];exact ab4 _)]
   exact DR.zero b
 | .int k=>⟨rfl,Bf1 k⟩
 | .bool=>rfl
 | .str=>⟨⟨#[]⟩,rfl,rfl,by simp[ByteArray.size]⟩
 | .arr n t=>⟨by simp[Ty.zero],B7.replicate (E7 t) (DR.zero t) n⟩
 | .slice t=>⟨none,0,rfl,ab4 _,by simp[maxLen],fun _=>rfl,[],rfl,fun h=>absurd rfl h⟩
 | .ptr=>rfl
theorem Awf{α:Type}{l:List α}{i:Nat}{d:α}(h:i<l.length):l.getD i d=l[i]:=by simp[List.getD,aa6 h]
def inT:Ty→List Nat→Prop
 | _,[]=>True
 | .pair a b,i::p=>match i with
  | 0=>inT a p
  | n+1=>inT b (n::p)
 | .arr m t,i::p=>i<m∧inT t p
 | _,_=>False
theorem Aic{w:World}{ok:Nat→Prop}(fr:Bool):∀ (t:Ty) (x:t.den) (p:List Nat) (u:Ty) (cs:List Value),La t p=some u→inT t p→DR w ok t cs x →
  ∃ y,Bpa fr t x p=some (.d fr u y)∧DR w ok u ((cs.drop (Bz t p)).take u.size) y∧Bz t p+u.size≤t.size
 | t,x,[],u,cs,ht,_,h=>by
  have e:u=t:=by cases t<;>simpa [La] using ht.symm
  subst e
  have h0:Bz u []=0:=by cases u<;>rfl
  have hn:Bpa fr u x []=some (.d fr u x):=by cases u<;>rfl
  refine⟨x,hn,?_,by omega⟩
  rw[h0,ag0,aa8 (by rw[DR.len h];exact ab4 _)]
  exact h
 | .pair a b,x,0::p,u,cs,ht,hi,h=>by
  obtain⟨y,h1,h2,h3⟩:=Aic fr a x.1 p u _ ht hi h.1
  refine⟨y,h1,?_,by simp only[Bz,Ty.size];omega⟩
  simp only[Bz]
  rw[aq2,ao3,ad8 (by omega)] at h2
  exact h2
 | .pair a b,x,(n+1)::p,u,cs,ht,hi,h=>by
  obtain⟨y,h1,h2,h3⟩:=Aic fr b x.2 (n::p) u _ ht hi h.2
  refine⟨y,h1,?_,by simp only[Bz,Ty.size];omega⟩
  simp only[Bz]
  rw[ah4] at h2
  exact h2
 | .arr m t,x,i::p,u,cs,ht,⟨hi,hp⟩,⟨hl,hr⟩=>by
  have ar:i<List.length x:=by omega
  have hg:=hr.get i ar
  obtain⟨y,h1,h2,h3⟩:=Aic fr t (List.getD x i t.zero) p u _ ht hp (by rw[Awf ar];exact hg)
  refine⟨y,h1,?_,?_⟩
  ·simp only[Bz]
   rw[aq2,ao3,ad8 (by omega),ah4] at h2
   exact h2
  ·simp only[Bz,Ty.size]
   have:i*t.size+t.size≤m*t.size:=by
    rw[← Nat.succ_mul];exact ac6 _ hi
   omega
theorem Cu{a b:Ty}{x:a.den}{y:b.den}(h:Yo x b=some y):∃ e:a=b,e▸x=y:=by
 unfold Yo at h
 split at h
 ·rename_i e
  exact⟨e,by simpa using h⟩
 ·cases h
theorem Aol{w:World}{ok:Nat→Prop}:∀ (t:Ty) (x:t.den) (p:List Nat) (u:Ty) (y:u.den) (z:t.den) (cs ds:List Value),Bob t x p u y=some z→inT t p→DR w ok t cs x→DR w ok u ds y →
  La t p=some u∧DR w ok t (cs.take (Bz t p)++ds++cs.drop (Bz t p+u.size)) z
 | t,x,[],u,y,z,cs,ds,hs,_,h,hd=>by
  have dl:Yo y t=some z:=by cases t<;>simpa [Bob] using hs
  obtain⟨e,rfl⟩:=Cu dl
  subst e
  have h0:Bz u []=0:=by cases u<;>rfl
  have ht:La u []=some u:=by cases u<;>rfl
  refine⟨ht,?_⟩
  rw[h0,ag1,af8,af1,ag5 (by rw[DR.len h];exact ab4 _),ah9]
  exact hd
 | .pair a b,x,0::p,u,y,z,cs,ds,hs,hi,h,hd=>by
  simp only[Bob,ae0] at hs
  obtain⟨z',hz,rfl⟩:=hs
  obtain⟨ht,hr⟩:=Aol a x.1 p u y z' _ ds hz hi h.1 hd
  obtain⟨_,_,_,h3⟩:=Aic true a x.1 p u _ ht hi h.1
  have hl:=DR.len hr
  have z5:=DR.len hd
  have hlc:cs.length=a.size+b.size:=DR.len (t:=.pair a b) (x:=x) h
  refine⟨ht,?_,?_⟩
  ·simp only[Bz]
   rw[ao3,ad8 (by omega),aq2] at hr
   rw[show (List.take (Bz a p) cs++ds++List.drop (Bz a p+u.size) cs)=(List.take (Bz a p) cs++ds++List.take (a.size-(Bz a p+u.size)) (List.drop (Bz a p+u.size) cs))++List.drop a.size cs from by
    rw[ab6 _ _ (List.drop a.size cs)]
    congr 1
    conv=>lhs;rw[← ad7 (a.size-(Bz a p+u.size)) (List.drop (Bz a p+u.size) cs)]
    rw[ah4,show Bz a p+u.size+(a.size-(Bz a p+u.size))=a.size by omega]]
   rw[ad4 (by simp;omega),aa8 (by simp;omega)]
   exact hr
  ·simp only[Bz]
   rw[show (List.take (Bz a p) cs++ds++List.drop (Bz a p+u.size) cs)=(List.take (Bz a p) cs++ds++List.take (a.size-(Bz a p+u.size)) (List.drop (Bz a p+u.size) cs))++List.drop a.size cs from by
    rw[ab6 _ _ (List.drop a.size cs)]
    congr 1
    conv=>lhs;rw[← ad7 (a.size-(Bz a p+u.size)) (List.drop (Bz a p+u.size) cs)]
    rw[ah4,show Bz a p+u.size+(a.size-(Bz a p+u.size))=a.size by omega]]
   rw[ae7 (by simp;omega),ag5 (by simp;omega),af8]
   exact h.2
 | .pair a b,x,(n+1)::p,u,y,z,cs,ds,hs,hi,h,hd=>by
  simp only[Bob,ae0] at hs
  obtain⟨z',hz,rfl⟩:=hs
  obtain⟨ht,hr⟩:=Aol b x.2 (n::p) u y z' _ ds hz hi h.2 hd
  have hlc:cs.length=a.size+b.size:=DR.len (t:=.pair a b) (x:=x) h
  refine⟨ht,?_,?_⟩
  ·simp only[Bz]
   rw[ab6,ad4 (by simp;omega),ao3,ad8 (by omega)]
   exact h.1
  ·simp only[Bz]
   rw[ab6,ae7 (by simp;omega),aq2,show a.size+Bz b (n::p)-a.size=Bz b (n::p) by omega,← ab6,
    show a.size+Bz b (n::p)+u.size=a.size+(Bz b (n::p)+u.size) by omega,← ah4]
   exact hr
 | .arr m t,x,i::p,u,y,z,cs,ds,hs,⟨hi,hp⟩,⟨hl,hr⟩,hd=>by
  simp only[Bob,ae0] at hs
  obtain⟨z',hz,rfl⟩:=hs
  have ar:i<List.length x:=by omega
  have hg:DR w ok t ((cs.drop (i*t.size)).take t.size) (List.getD x i t.zero):=by rw[Awf ar];exact hr.get i ar
  obtain⟨ht,z6⟩:=Aol t (List.getD x i t.zero) p u y z' _ ds hz hp hg hd
  obtain⟨_,_,_,h3⟩:=Aic true t (List.getD x i t.zero) p u _ ht hp hg
  have ag:=hr.length
  have z5:=DR.len hd
  have az8:i*t.size+t.size≤m*t.size:=by rw[← Nat.succ_mul];exact ac6 _ hi
  refine⟨ht,by simpa using hl,?_⟩
  have key:=B7.set hr i ar _ z' (DR.len z6) z6
  simp only[Bz]
  rw[ao3,ad8 (by omega),aq2,ah4] at key
  have e1:cs.take (i*t.size)++(List.take (Bz t p) (List.drop (i*t.size) cs)++ds++List.take (t.size-(Bz t p+u.size)) (List.drop (i*t.size+(Bz t p+u.size)) cs))++cs.drop (i*t.size+t.size)
    = cs.take (i*t.size+Bz t p)++ds++cs.drop (i*t.size+Bz t p+u.size):=by
   have e2:cs.take (i*t.size+Bz t p)=cs.take (i*t.size)++List.take (Bz t p) (List.drop (i*t.size) cs):=by rw[List.take_add]
   have e3:cs.drop (i*t.size+Bz t p+u.size)=List.take (t.size-(Bz t p+u.size)) (List.drop (i*t.size+(Bz t p+u.size)) cs)++cs.drop (i*t.size+t.size):=by
    rw[show i*t.size+Bz t p+u.size=i*t.size+(Bz t p+u.size) by omega]
    conv=>lhs;rw[← ad7 (t.size-(Bz t p+u.size)) (List.drop (i*t.size+(Bz t p+u.size)) cs)]
    rw[ah4,show i*t.size+(Bz t p+u.size)+(t.size-(Bz t p+u.size))=i*t.size+t.size by omega]
   rw[e2,e3]
   simp only[ab6]
  rw[e1] at key
  exact key
end Go.Pon
namespace Go.Pon
open Go
structure U5 where
 w:World
 o:Id→Option Obj
 γ:Id→Value
 used:Id→Nat→Prop
 ok:Bool→Nat→Prop
def Ahd(o:Option Obj)(ab:Nat)(t:Ty)(n:Nat):Prop :=
 ∃ fr rows,List.length rows=n∧(o=some (.sli ab fr t rows)∨o=some (.frz ab fr t rows))
def Awc(o:Option Obj)(t:Ty):Prop:=∃ fr c,o=some (.mem fr t c)∨o=some (.mfz fr t c)
def Bpi(o:Option Obj)(k:IntKind)(t:Ty):Prop:=∃ l,o=some (.mpo k t l)
def Bjt(cs:List Value)(p:Value→Prop):Prop:=∃ v,cs=[v]∧v.oneCell'=true∧p v
def ARc(E:U5):AV→List Value→Prop
 | .any,_=>True
 | .un,_=>False
 | .d fr t x,cs=>DR E.w (E.ok fr) t cs x
 | .nilp,cs=>cs=[.pointer none]
 | .nils,cs=>cs=[.slice none 0 0]
 | .own id ab,cs=>E.used id ab∧Bjt cs fun v=>∀ t n,Ahd (E.o id) ab t n→v=E.γ id
 | .view id ab lo hi cp,cs=>E.used id ab∧Bjt cs fun v=>∀ t n,Ahd (E.o id) ab t n →
   lo≤hi∧hi≤n∧∃ a c,v=.slice a (hi-lo) c∧hi-lo≤c∧c≤maxLen∧(a=none→c=0) ∧
    (lo<hi→∃ g m cp,E.γ id=.slice (some ⟨g,0,none⟩) m cp∧a=some ⟨g,lo*t.size,none⟩)∧(cp=true→c=hi-lo)
 | .mview id ai lo hi,cs=>E.used id 0∧Bjt cs fun v=>∀ t,Awc (E.o id) t →
   ∃ g n u,E.γ id=.pointer (some ⟨g,0,none⟩)∧La t ai=some (.arr n u)∧inT t ai∧lo≤hi∧hi≤n ∧
    ∃ a c,v=.slice (some a) (hi-lo) c∧hi-lo≤c∧c≤maxLen∧(lo<hi→a=⟨g,Bz t ai+lo*u.size,none⟩)
 | .mapp id,cs=>E.used id 0∧Bjt cs fun v=>∀ k t,Bpi (E.o id) k t→v=E.γ id
 | .ptr id ai,cs=>E.used id 0∧Bjt cs fun v=>∀ t,Awc (E.o id) t →
   ∃ g u,E.γ id=.pointer (some ⟨g,0,none⟩)∧La t ai=some u∧inT t ai∧v=.pointer (some ⟨g,Bz t ai,none⟩)
 | .eptr id ab i ai,cs=>E.used id ab∧Bjt cs fun v=>∀ t n,Ahd (E.o id) ab t n →
   i<n∧∃ g m cp u,E.γ id=.slice (some ⟨g,0,none⟩) m cp∧La t ai=some u∧inT t ai∧v=.pointer (some ⟨g,i*t.size+Bz t ai,none⟩)
 | .rptr fr t x,cs=>Bjt cs fun v=>∃ a vs,v=.pointer (some a)∧a.spot=none∧(0<t.size→E.ok fr a.block) ∧
   (∀ j y,vs[j]?=some y→E.w.cell? (a.add j)=some y)∧DR E.w (E.ok fr) t vs x
 | .pair a b,cs=>∃ c1 c2,cs=c1++c2∧ARc E a c1∧ARc E b c2
 | .tup _,_=>False
 | .fn f caps,cs=>∃ vs:Array Value,cs=[.func (.func f) #[] vs]∧ARc E caps vs.toList
 | .ub e r,cs=>∃ b,cs=[.bool b]∧(e=false→b=r)
def Aoe:AV→Bool
 | .d _ t _=>t.agg
 | .pair _ _=>true
 | _=>false
def Ck:Value→Bool
 | .agg _=>true
 | _=>false
def Ev(E:U5)(a:AV)(v:Value):Prop:=ARc E a v.cells.toList∧Aoe a=Ck v
def ARt(E:U5):AV→List Value→Prop
 | .pair a b,v::vs=>Ev E a v∧ARt E b vs
 | .d _ .unit _,[]=>True
 | _,_=>False
def Dn(E:U5):AV→Value→Prop
 | .any,_=>True
 | .un,v=>v=undef
 | .tup a,v=>∃ vs:Array Value,v=.tuple vs∧ARt E a vs.toList
 | a,v=>Ev E a v
structure Um(E E':U5):Prop where
 size:E.w.heap.size≤E'.w.heap.size
 ok:∀ fr b,b<E.w.heap.size→E.ok fr b→E'.ok fr b∧E'.w.heap[b]?=E.w.heap[b]?
 used:∀ id ab,E.used id ab→E'.used id ab
 sl:∀ id ab,E.used id ab→∀ t n,Ahd (E'.o id) ab t n→Ahd (E.o id) ab t n∧E'.γ id=E.γ id
 mm:∀ id,E.used id 0→∀ t,Awc (E'.o id) t→Awc (E.o id) t∧E'.γ id=E.γ id
 mp:∀ id,E.used id 0→∀ k t,Bpi (E'.o id) k t→Bpi (E.o id) k t∧E'.γ id=E.γ id
theorem Um.refl(E:U5):Um E E :=
 ⟨ab4 _,fun _ _ _ h=>⟨h,rfl⟩,fun _ _ h=>h,fun _ _ _ _ _ h=>⟨h,rfl⟩,fun _ _ _ h=>⟨h,rfl⟩,fun _ _ _ _ h=>⟨h,rfl⟩⟩
theorem Um.trans{E E' E'':U5}(h:Um E E')(k:Um E' E''):Um E E'' where
 size:=af2 h.size k.size
 ok:=fun fr b hb ho=>by
  obtain⟨h1,h2⟩:=h.ok fr b hb ho
  obtain⟨k1,k2⟩:=k.ok fr b (ae3 hb h.size) h1
  exact⟨k1,k2.trans h2⟩
 used:=fun id ab hu=>k.used id ab (h.used id ab hu)
 sl:=fun id ab hu t n hs=>by
  obtain⟨k1,k2⟩:=k.sl id ab (h.used id ab hu) t n hs
  obtain⟨h1,h2⟩:=h.sl id ab hu t n k1
  exact⟨h1,k2.trans h2⟩
 mm:=fun id hu t hs=>by
  obtain⟨k1,k2⟩:=k.mm id (h.used id 0 hu) t hs
  obtain⟨h1,h2⟩:=h.mm id hu t k1
  exact⟨h1,k2.trans h2⟩
 mp:=fun id hu kk t hs=>by
  obtain⟨k1,k2⟩:=k.mp id (h.used id 0 hu) kk t hs
  obtain⟨h1,h2⟩:=h.mp id hu kk t k1
  exact⟨h1,k2.trans h2⟩
theorem Bjt.mono{cs:List Value}{p q:Value→Prop}(h:Bjt cs p)(hpq:∀ v,p v→q v):Bjt cs q :=
 let ⟨v,h1,h2,h3⟩:=h;⟨v,h1,h2,hpq v h3⟩
theorem Aoo(a:Addr)(j:Nat):(a.add j).block=a.block:=by unfold Addr.add;split<;>rfl
theorem ARc.step{E E':U5}(h:Um E E'):∀ {a:AV} {cs:List Value},ARc E a cs→ARc E' a cs
 | .any,_,_=>trivial
 | .d fr t x,cs,hr=>DR.move (fun b hb ho=>h.ok fr b hb ho) hr
 | .nilp,_,hr=>hr
 | .nils,_,hr=>hr
 | .own id ab,cs,⟨hu,hr⟩=>⟨h.used id ab hu,hr.mono fun v hv t n hs=>by
   obtain⟨h1,h2⟩:=h.sl id ab hu t n hs
   rw[h2];exact hv t n h1⟩
 | .view id ab lo hi cp,cs,⟨hu,hr⟩=>⟨h.used id ab hu,hr.mono fun v hv t n hs=>by
   obtain⟨h1,h2⟩:=h.sl id ab hu t n hs
   rw[h2];exact hv t n h1⟩
 | .mview id ai lo hi,cs,⟨hu,hr⟩=>⟨h.used id 0 hu,hr.mono fun v hv t hs=>by
   obtain⟨h1,h2⟩:=h.mm id hu t hs
   rw[h2];exact hv t h1⟩
 | .mapp id,cs,⟨hu,hr⟩=>⟨h.used id 0 hu,hr.mono fun v hv k t hs=>by
   obtain⟨h1,h2⟩:=h.mp id hu k t hs
   rw[h2];exact hv k t h1⟩
 | .ptr id ai,cs,⟨hu,hr⟩=>⟨h.used id 0 hu,hr.mono fun v hv t hs=>by
   obtain⟨h1,h2⟩:=h.mm id hu t hs
   rw[h2];exact hv t h1⟩
 | .eptr id ab i ai,cs,⟨hu,hr⟩=>⟨h.used id ab hu,hr.mono fun v hv t n hs=>by
   obtain⟨h1,h2⟩:=h.sl id ab hu t n hs
   rw[h2];exact hv t n h1⟩
 | .rptr fr t x,cs,hr=>hr.mono fun v ⟨a,vs,h1,h2,h3,h4,h5⟩=>by
   have hb:∀ y j,vs[j]?=some y→a.block<E.w.heap.size:=fun y j hj=>by
    have:=World.block_lt_of_cell? E.w _ (h4 j y hj)
    rwa [Aoo] at this
   have hl:=DR.len h5
   refine⟨a,vs,h1,h2,fun hp=>?_,fun j y hj=>?_,DR.move (fun b hb ho=>h.ok fr b hb ho) h5⟩
   ·have h0:0<vs.length:=by omega
    exact (h.ok fr _ (hb vs[0] 0 (aa6 h0)) (h3 hp)).1
   ·have hp:0<t.size:=by
     have:j<vs.length:=(ae9.1 hj).1
     omega
    rw[World.cell?_of_block (w:=E.w) (by rw[Aoo];exact (h.ok fr _ (hb y j hj) (h3 hp)).2)]
    exact h4 j y hj
 | .pair a b,cs,⟨c1,c2,h1,h2,h3⟩=>⟨c1,c2,h1,ARc.step h h2,ARc.step h h3⟩
 | .fn f caps,cs,⟨vs,h1,h2⟩=>⟨vs,h1,ARc.step h h2⟩
 | .ub _ _,_,hr=>hr
theorem Ev.step{E E':U5}(h:Um E E'){a:AV}{v:Value}(hv:Ev E a v):Ev E' a v:=⟨hv.1.step h,hv.2⟩
theorem ARt.step{E E':U5}(h:Um E E'):∀ {a:AV} {vs:List Value},ARt E a vs→ARt E' a vs
 | .pair _ _,_::_,⟨h1,h2⟩=>⟨h1.step h,ARt.step h h2⟩
 | .d _ .unit _,[],_=>trivial
theorem Dn.step{E E':U5}(h:Um E E'){a:AV}{v:Value}(hv:Dn E a v):Dn E' a v:=by
 cases a with
 | any=>trivial
 | un=>exact hv
 | tup a=>exact let ⟨vs,h1,h2⟩:=hv;⟨vs,h1,h2.step h⟩
 | _=>exact Ev.step h hv
theorem And{k l:IntKind}:kEq k l=true↔k=l:=by cases k<;>cases l<;>simp[kEq]
theorem Ty.beq_iff:∀ {t u:Ty},Ty.beq t u=true↔t=u:=by
 intro t
 induction t with
 | unit=>intro u;cases u<;>simp[Ty.beq]
 | pair a b z7 wq=>intro u;cases u<;>simp[Ty.beq,z7,wq]
 | int k=>intro u;cases u<;>simp[Ty.beq,And]
 | bool=>intro u;cases u<;>simp[Ty.beq]
 | str=>intro u;cases u<;>simp[Ty.beq]
 | arr n t ih=>intro u;cases u<;>simp[Ty.beq,ih]
 | slice t ih=>intro u;cases u<;>simp[Ty.beq,ih]
 | ptr=>intro u;cases u<;>simp[Ty.beq]
theorem Xw:∀ {a b:Id},idE a b=true↔a=b
 | (a,b,c),(d,e,f)=>by
  simp only[idE,aa5,aj9,ai9]
  constructor
  ·rintro⟨h1,h2,h3⟩;exact⟨h3,h2,h1⟩
  ·rintro⟨h1,h2,h3⟩;exact⟨h3,h2,h1⟩
theorem N4{t:Ty}(h:t.agg=false):t.size=1:=by cases t<;>simp_all [Ty.agg,Ty.size]
theorem Ka{E:U5}:∀ {t:Ty} {a:AV} {cs:List Value},Bg t a=true→ARc E a cs→cs.length=t.size
 | t,.d _ u _,cs,h,hr=>by
  have:Ty.beq u t=true:=by simpa [Bg] using h
  rw[← Ty.beq_iff.1 this];exact DR.len hr
 | t,.pair a b,cs,h,⟨c1,c2,h1,h2,h3⟩=>by
  cases t<;>simp only[Bg,aa5,al0] at h
  rename_i t u
  rw[h1,aa4,Ka h.1 h2,Ka h.2 h3];rfl
 | t,.nilp,cs,h,hr=>by rw[N4 (by cases t<;>simp_all [Bg]),show cs=_ from hr];rfl
 | t,.nils,cs,h,hr=>by rw[N4 (by cases t<;>simp_all [Bg]),show cs=_ from hr];rfl
 | t,.own _ _,cs,h,⟨_,v,hr,_⟩=>by rw[N4 (by cases t<;>simp_all [Bg]),hr];rfl
 | t,.view _ _ _ _ _,cs,h,⟨_,v,hr,_⟩=>by rw[N4 (by cases t<;>simp_all [Bg]),hr];rfl
 | t,.mview _ _ _ _,cs,h,⟨_,v,hr,_⟩=>by rw[N4 (by cases t<;>simp_all [Bg]),hr];rfl
 | t,.mapp _,cs,h,⟨_,v,hr,_⟩=>by rw[N4 (by cases t<;>simp_all [Bg]),hr];rfl
 | t,.ptr _ _,cs,h,⟨_,v,hr,_⟩=>by rw[N4 (by cases t<;>simp_all [Bg]),hr];rfl
 | t,.eptr _ _ _ _,cs,h,⟨_,v,hr,_⟩=>by rw[N4 (by cases t<;>simp_all [Bg]),hr];rfl
 | t,.rptr _ _ _,cs,h,⟨v,hr,_⟩=>by rw[N4 (by cases t<;>simp_all [Bg]),hr];rfl
 | t,.fn _ _,cs,h,⟨_,hr,_⟩=>by rw[N4 (by cases t<;>simp_all [Bg]),hr];rfl
 | t,.ub _ _,cs,h,⟨_,hr,_⟩=>by rw[N4 (by cases t<;>simp_all [Bg]),hr];rfl
 | t,.any,_,h,_=>by cases t<;>simp[Bg] at h
 | t,.un,_,h,_=>by cases t<;>simp[Bg] at h
 | t,.tup _,_,h,_=>by cases t<;>simp[Bg] at h
theorem Azg{E:U5}:∀ {t:Ty} {a:AV} {cs:List Value},Bg t a=true→ARc E a cs→∀ v∈cs,v.oneCell'=true
 | t,.d _ u _,cs,h,hr=>DR.one hr
 | t,.pair a b,cs,h,⟨c1,c2,h1,h2,h3⟩=>by
  cases t<;>simp only[Bg,aa5,al0] at h
  intro v hv
  rw[h1] at hv
  rcases ad9.1 hv with hv|hv
  ·exact Azg h.1 h2 v hv
  ·exact Azg h.2 h3 v hv
 | t,.nilp,cs,h,hr=>by rw[show cs=_ from hr];simp[Value.oneCell']
 | t,.nils,cs,h,hr=>by rw[show cs=_ from hr];simp[Value.oneCell']
 | t,.own _ _,cs,h,⟨_,v,hr,h1,_⟩=>by rw[hr];simpa using h1
 | t,.view _ _ _ _ _,cs,h,⟨_,v,hr,h1,_⟩=>by rw[hr];simpa using h1
 | t,.mview _ _ _ _,cs,h,⟨_,v,hr,h1,_⟩=>by rw[hr];simpa using h1
 | t,.mapp _,cs,h,⟨_,v,hr,h1,_⟩=>by rw[hr];simpa using h1
 | t,.ptr _ _,cs,h,⟨_,v,hr,h1,_⟩=>by rw[hr];simpa using h1
 | t,.eptr _ _ _ _,cs,h,⟨_,v,hr,h1,_⟩=>by rw[hr];simpa using h1
 | t,.rptr _ _ _,cs,h,⟨v,hr,h1,_⟩=>by rw[hr];simpa using h1
 | t,.fn _ _,cs,h,⟨_,hr,_⟩=>by rw[hr];simp[Value.oneCell']
 | t,.ub _ _,cs,h,⟨_,hr,_⟩=>by rw[hr];simp[Value.oneCell']
 | t,.any,_,h,_=>by cases t<;>simp[Bg] at h
 | t,.un,_,h,_=>by cases t<;>simp[Bg] at h
 | t,.tup _,_,h,_=>by cases t<;>simp[Bg] at h
theorem Bns:∀ {t:Ty} {a:AV},Bg t a=true→Aoe a=t.agg
 | t,.d _ u _,h=>by rw[← Ty.beq_iff.1 (show Ty.beq u t=true by simpa [Bg] using h)];rfl
 | t,.pair a b,h=>by cases t<;>simp[Bg] at h;rfl
 | t,.nilp,h=>by cases t<;>simp_all [Bg,Aoe]
 | t,.nils,h=>by cases t<;>simp_all [Bg,Aoe]
 | t,.own _ _,h=>by cases t<;>simp_all [Bg,Aoe]
 | t,.view _ _ _ _ _,h=>by cases t<;>simp_all [Bg,Aoe]
 | t,.mview _ _ _ _,h=>by cases t<;>simp_all [Bg,Aoe]
 | t,.mapp _,h=>by cases t<;>simp_all [Bg,Aoe]
 | t,.ptr _ _,h=>by cases t<;>simp_all [Bg,Aoe]
 | t,.eptr _ _ _ _,h=>by cases t<;>simp_all [Bg,Aoe]
 | t,.rptr _ _ _,h=>by cases t<;>simp_all [Bg,Aoe]
 | t,.fn _ _,h=>by cases t<;>simp_all [Bg,Aoe]
 | t,.ub _ _,h=>by cases t<;>simp_all [Bg,Aoe]
 | t,.any,h=>by cases t<;>simp[Bg] at h
 | t,.un,h=>by cases t<;>simp[Bg] at h
 | t,.tup _,h=>by cases t<;>simp[Bg] at h
theorem Ae1{E:U5}:∀ (c:AV) (t:Ty) (p:List Nat) (u:Ty) (cs:List Value),Bg t c=true→La t p=some u→inT t p→ARc E c cs→∀ a,Ax9 c p=some a →
  Bg u a=true∧ARc E a ((cs.drop (Bz t p)).take u.size)∧Bz t p+u.size≤t.size
 | c,t,[],u,cs,hf,ht,_,h,a,ha=>by
  have e:u=t:=by cases t<;>simpa [La] using ht.symm
  subst e
  have h0:Bz u []=0:=by cases u<;>rfl
  have hn:a=c:=by cases c<;>simpa [Ax9] using ha.symm
  subst hn
  refine⟨hf,?_,by omega⟩
  rw[h0,ag0,aa8 (by rw[Ka hf h];exact ab4 _)]
  exact h
 | .pair x y,t,i::p,u,cs,hf,ht,hi,⟨c1,c2,h1,h2,h3⟩,a,ha=>by
  cases t<;>simp only[Bg,aa5,al0] at hf
  rename_i ta tb
  have l1:=Ka hf.1 h2
  have l2:=Ka hf.2 h3
  cases i with
  | zero =>
   obtain⟨k1,k2,k3⟩:=Ae1 x ta p u c1 hf.1 ht hi h2 a ha
   refine⟨k1,?_,by simp only[Bz,Ty.size];omega⟩
   simp only[Bz]
   rw[h1,ae7 (by omega),ad4 (by simp;omega)]
   exact k2
  | succ n =>
   obtain⟨k1,k2,k3⟩:=Ae1 y tb (n::p) u c2 hf.2 ht hi h3 a ha
   refine⟨k1,?_,by simp only[Bz,Ty.size];omega⟩
   simp only[Bz]
   rw[h1,← ah4,← l1,List.drop_left]
   exact k2
 | .d fr s x,t,i::p,u,cs,hf,ht,hi,h,a,ha=>by
  have e:=Ty.beq_iff.1 (show Ty.beq s t=true by simpa [Bg] using hf)
  subst e
  obtain⟨y,k1,k2,k3⟩:=Aic fr s x (i::p) u cs ht hi h
  have:a=.d fr u y:=by
   have hn:Ax9 (.d fr s x) (i::p)=Bpa fr s x (i::p):=rfl
   rw[hn,k1] at ha;exact (at1 ha).symm
  subst this
  exact⟨by simp[Bg,Ty.beq_iff],k2,k3⟩
 | .any,_,_::_,_,_,hf,_,_,_,_,ha=>by cases ha
 | .un,_,_::_,_,_,hf,_,_,_,_,ha=>by cases ha
 | .nilp,_,_::_,_,_,hf,_,_,_,_,ha=>by cases ha
 | .nils,_,_::_,_,_,hf,_,_,_,_,ha=>by cases ha
 | .own _ _,_,_::_,_,_,hf,_,_,_,_,ha=>by cases ha
 | .view _ _ _ _ _,_,_::_,_,_,hf,_,_,_,_,ha=>by cases ha
 | .mview _ _ _ _,_,_::_,_,_,hf,_,_,_,_,ha=>by cases ha
 | .mapp _,_,_::_,_,_,hf,_,_,_,_,ha=>by cases ha
 | .ptr _ _,_,_::_,_,_,hf,_,_,_,_,ha=>by cases ha
 | .eptr _ _ _ _,_,_::_,_,_,hf,_,_,_,_,ha=>by cases ha
 | .rptr _ _ _,_,_::_,_,_,hf,_,_,_,_,ha=>by cases ha
 | .fn _ _,_,_::_,_,_,hf,_,_,_,_,ha=>by cases ha
 | .ub _ _,_,_::_,_,_,hf,_,_,_,_,ha=>by cases ha
 | .tup _,_,_::_,_,_,hf,_,_,_,_,ha=>by cases ha
end Go.Pon
namespace Go.Pon
open Go
structure Dg where
 P:Program
 G:Ctx
 C:Gi
 w0:World
 own:List Nat
 B:Nat→Prop
 nt:Nat
 args:List (Option Value)
def Dg.base(K:Dg):Nat:=K.w0.heap.size
def Dg.dok(K:Dg)(d:Nat):Prop:=(∀ v,K.args[d]?≠some (some v))∧d<K.nt
def Bc:Option Obj→Value→Option Nat
 | some (.sli _ _ _ _),.slice (some a) _ _=>some a.block
 | some (.mem _ _ _),.pointer (some a)=>some a.block
 | some (.mpo _ _ _),.map (some r)=>some r
 | _,_=>none
def Ahh(K:Dg)(o:Id→Option Obj)(γ:Id→Value)(fr:Bool)(b:Nat):Prop :=
 (∀ id,Bc (o id) (γ id)≠some b)∧¬ K.B b∧(fr=true→K.base≤b)
def A3(K:Dg)(objs:Pm)(used:Id→Nat→Prop)(γ:Id→Value)(w:World):U5 :=
 ⟨w,Ak objs,γ,used,Ahh K (Ak objs) γ⟩
def Bzj(E:U5)(fr:Bool)(t:Ty)(rows:List t.den)(base:Nat)(h:Value):Prop :=
 (h=.slice none 0 0∧rows=[])∨∃ g cap cur e,h=.slice (some ⟨g,0,none⟩) (List.length rows) cap∧E.w.heap[g]?=some (.cells cur e (0,0)) ∧
  List.length rows≤cap∧cap≤maxLen∧cur.size=cap*t.size∧B7 (DR E.w (E.ok fr) t) t.size (cur.toList.take (List.length rows*t.size)) rows∧(fr=true→base≤g)
def Cpa(E:U5)(fr:Bool)(t:Ty)(c:AV)(base:Nat)(h:Value):Prop :=
 ∃ g e cur,h=.pointer (some ⟨g,0,none⟩)∧E.w.heap[g]?=some (.cells cur e (0,0))∧Bg t c=true∧ARc E c cur.toList∧(fr=true→base≤g)
def Auv(w:World)(k:IntKind)(t:Ty):List MapEntry→List (Int×t.den)→Prop
 | [],[]=>True
 | e::es,p::l=>e.key=.int k p.1∧inK k p.1∧DR w (fun _=>False) t e.val.cells.toList p.2∧Ck e.val=t.agg∧Auv w k t es l
 | _,_=>False
theorem Auv.world{w w':World}{k:IntKind}{t:Ty}:∀ {es:List MapEntry} {l:List (Int×t.den)},t.flat=true→Auv w k t es l→Auv w' k t es l
 | [],[],_,_=>trivial
 | _::_,_::_,hf,⟨h1,h2,h3,h4,h5⟩=>⟨h1,h2,DR.flat hf h3,h4,Auv.world hf h5⟩
def Csl(E:U5)(k:IntKind)(t:Ty)(l:List (Int×t.den))(h:Value):Prop :=
 t.flat=true∧∃ g es clock,h=.map (some g)∧E.w.heap[g]?=some (.map es clock)∧Auv E.w k t es.toList l
def OR(K:Dg)(E:U5)(id:Id):Obj→Prop
 | .sli _ fr t rows=>Bzj E fr t rows K.base (E.γ id)
 | .frz _ fr t rows=>DR E.w (E.ok fr) (.slice t) [E.γ id] rows∧∀ a n c,E.γ id=.slice (some a) n c→a.off=0∧a.spot=none
 | .mem fr t c=>Cpa E fr t c K.base (E.γ id)
 | .mpo k t l=>Csl E k t l (E.γ id)
 | .mfz fr t c=>Cpa E fr t c K.base (E.γ id)∧∀ a,E.γ id=.pointer (some a)→E.ok fr a.block
structure Aif(w0 w:World)(own:List Nat):Prop where
 os:w.os=w0.os
 tape:w.tape=w0.tape
 output:w.output=w0.output
 size:w0.heap.size≤w.heap.size
 block:∀ b,b<w0.heap.size→b ∉ own→w.heap[b]?=w0.heap[b]?
structure Gd(K:Dg)(S:St)(used:Id→Nat→Prop)(γ:Id→Value)(a:Act)(w:World):Prop where
 size:a.tmps.size=K.nt
 defers:a.defers=[]
 kept:∀ (i:Nat) (v:Value),K.args[i]?=some (some v)→a.tmps.getD i undef=v
 env:∀ t,Dn (A3 K S.objs used γ w) (Gk S.env t) (a.tmps.getD t undef)
 objs:∀ id o,Ak S.objs id=some o→OR K (A3 K S.objs used γ w) id o
 ou:∀ id o,Ak S.objs id=some o→∃ v,used id v
 vers:∀ id ab fr t rows v,Ak S.objs id=some (.sli ab fr t rows)→used id v→v≤ab
 sep:∀ i j g,Bc (Ak S.objs i) (γ i)=some g→Bc (Ak S.objs j) (γ j)=some g→i=j
 mod:∀ i g,Bc (Ak S.objs i) (γ i)=some g→(K.base≤g∨g∈K.own)∧¬ K.B g
 frame:Aif K.w0 w K.own
theorem Mp(i:Id)(x:Option Obj)(r:Pm)(j:Id):Ak ((i,x)::r) j=if i=j then x else Ak r j:=by
 simp only[Ak]
 by_cases h:i=j
 ·rw[aa0 h,Xw.2 h]
 ·rw[aa1 h]
  have:idE i j=false:=by rw[an3];exact fun e=>h (Xw.1 e)
  rw[this]
theorem Py(i:Nat)(x:AV)(r:List (Nat×AV))(j:Nat):Gk ((i,x)::r) j=if i=j then x else Gk r j:=by
 simp only[Gk]
 by_cases h:i=j
 ·subst h;simp
 ·rw[aa1 h]
  have:Nat.beq i j=false:=by rw[an3];exact fun e=>h (ab1 e)
  rw[this]
theorem Aez:∀ (u:Pm) (r:Pm) (j:Id),Ak (Da u r) j=if Aqn (Zh u) j=true then Ak u j else Ak r j
 | [],r,j=>by simp[Da,Zh,Aqn]
 | (i,x)::u,r,j=>by
  show Ak ((i,x)::Da u r) j=_
  rw[Mp,Mp,Aez u r j]
  simp only[Zh,Aqn]
  by_cases h:i=j
  ·simp[h,Xw.2 rfl]
  ·have:idE i j=false:=by rw[an3];exact fun e=>h (Xw.1 e)
   simp[h,this]
section
variable {K:Dg} {S:St} {used:Id→Nat→Prop} {γ:Id→Value} {a:Act} {w:World}
theorem OR.step{E E':U5}{id:Id}{o:Obj}(h:Um E E')(hγ:E'.γ id=E.γ id)
  (hb:∀ g,Bc (some o) (E.γ id)=some g→E'.w.heap[g]?=E.w.heap[g]?) (ho:OR K E id o):OR K E' id o:=by
 cases o with
 | sli ab fr t rows =>
  rcases ho with⟨h1,h2⟩ | ⟨g,cap,cur,e,h1,h2,h3,h4,h5,h6,h7⟩
  ·exact .inl ⟨hγ.trans h1,h2⟩
  ·refine .inr ⟨g,cap,cur,e,hγ.trans h1,?_,h3,h4,h5,h6.mono fun _ _=>DR.move fun b hb ho=>h.ok fr b hb ho,h7⟩
   rw[hb g (by rw[h1];rfl)];exact h2
 | frz ab fr t rows =>
  refine⟨?_,?_⟩
  ·rw[hγ];exact DR.move (fun b hb ho=>h.ok fr b hb ho) ho.1
  ·rw[hγ];exact ho.2
 | mem fr t c =>
  obtain⟨g,e,cur,h1,h2,h3,h4,h5⟩:=ho
  refine⟨g,e,cur,hγ.trans h1,?_,h3,h4.step h,h5⟩
  rw[hb g (by rw[h1];rfl)];exact h2
 | mpo k t l =>
  obtain⟨h0,g,es,clock,h1,h2,h3⟩:=ho
  refine⟨h0,g,es,clock,hγ.trans h1,?_,h3.world h0⟩
  rw[hb g (by rw[h1];rfl)];exact h2
 | mfz fr t c =>
  obtain⟨⟨g,e,cur,h1,h2,h3,h4,h5⟩,h6⟩:=ho
  have ar:g<E.w.heap.size:=(ai0.1 h2).1
  have bj:=h.ok fr g ar (h6 _ h1)
  refine⟨⟨g,e,cur,hγ.trans h1,bj.2.trans h2,h3,h4.step h,h5⟩,fun ad kg=>?_⟩
  rw[hγ,h1] at kg
  cases kg
  exact bj.1
theorem Gd.move(h:Gd K S used γ a w){dm:Pm}{ah:Id→Nat→Prop}{γ':Id→Value}{w':World}
  (hs:Um (A3 K S.objs used γ w) (A3 K dm ah γ' w'))
  (ho:∀ id o,Ak dm id=some o→OR K (A3 K dm ah γ' w') id o)
  (hou:∀ id o,Ak dm id=some o→∃ v,ah id v)
  (hv:∀ id ab fr t rows v,Ak dm id=some (.sli ab fr t rows)→ah id v→v≤ab)
  (av4:∀ i j g,Bc (Ak dm i) (γ' i)=some g→Bc (Ak dm j) (γ' j)=some g→i=j)
  (av5:∀ i g,Bc (Ak dm i) (γ' i)=some g→(K.base≤g∨g∈K.own)∧¬ K.B g)
  (hf:Aif K.w0 w' K.own):Gd K { S with objs:=dm } ah γ' a w' where
 size:=h.size
 defers:=h.defers
 kept:=h.kept
 env:=fun t=>(h.env t).step hs
 objs:=ho
 ou:=hou
 vers:=hv
 sep:=av4
 mod:=av5
 frame:=hf
theorem Bu5{t d:Nat}{arr:Array Value}{v:Value}(h:d<arr.size):(arr.setIfInBounds d v).getD t undef=if d=t then v else arr.getD t undef:=by
 by_cases hd:d=t
 ·subst hd;simp[Array.getD,h]
 ·by_cases ht:t<arr.size
  ·simp[Array.getD,hd,ht,Array.getElem_setIfInBounds_ne]
  ·simp[Array.getD,hd,ht]
theorem Gd.put(h:Gd K S used γ a w){v:AV}{val:Value}(hv:Dn (A3 K S.objs used γ w) v val)(dst:Option Tmp)(hd:∀ d,dst=some d→K.dok d) :
  Gd K { S with env:=Ad5 S.env dst v } used γ (a.put dst val) w:=by
 cases dst with
 | none=>exact h
 | some d =>
  refine⟨by simp[Act.put,h.size],h.defers,fun i v hi=>?_,fun t=>?_,h.objs,h.ou,h.vers,h.sep,h.mod,h.frame⟩
  ·simp only[Act.put]
   rw[Bu5 (by rw[h.size];exact (hd d rfl).2),aa1,h.kept i v hi]
   rintro rfl
   exact (hd d rfl).1 v hi
  simp only[Ad5,Py,Act.put]
  rw[Bu5 (by rw[h.size];exact (hd d rfl).2)]
  by_cases hd:d=t
  ·simpa [hd] using hv
  ·simpa [hd] using h.env t
theorem Aav(h:Gd K S used γ a w){i:Id}{g:Nat}(hl:Bc (Ak S.objs i) (γ i)=some g):g<w.heap.size:=by
 cases ho:Ak S.objs i with
 | none=>rw[ho] at hl;simp[Bc] at hl
 | some o =>
  have nm:=h.objs i o ho
  rw[ho] at hl
  cases o with
  | sli ab fr t rows =>
   rcases nm with⟨h1,_⟩ | ⟨g',cap,cur,e,h1,h2,_⟩
   ·rw[show γ i=_ from h1] at hl;simp[Bc] at hl
   ·rw[show γ i=_ from h1] at hl
    simp[Bc] at hl
    subst hl
    exact (ai0.1 h2).1
  | mem fr t c =>
   obtain⟨g',e,cur,h1,h2,_⟩:=nm
   rw[show γ i=_ from h1] at hl
   simp[Bc] at hl
   subst hl
   exact (ai0.1 h2).1
  | mpo k t l =>
   obtain⟨_,g',es,clock,h1,h2,_⟩:=nm
   rw[show γ i=_ from h1] at hl
   simp[Bc] at hl
   subst hl
   exact (ai0.1 h2).1
  | frz _ _ _ _=>simp[Bc] at hl
  | mfz _ _ _=>simp[Bc] at hl
def upd{β:Type}(f:Id→β)(i:Id)(v:β):Id→β:=fun j=>if i=j then v else f j
def Auc(used:Id→Nat→Prop)(i:Id)(n:Nat):Id→Nat→Prop:=fun j v=>used j v∨(j=i∧v=n)
theorem Aq3(w:World)(o:Go.Obj)(i:Nat)(h:i<w.heap.size):(w.alloc o).heap[i]?=w.heap[i]?:=by
 first
 | exact heap_alloc_old w o i h
 | exact heap_alloc_old w o h
theorem Aif.alloc{w0 w:World}{own:List Nat}(h:Aif w0 w own)(o:Go.Obj):Aif w0 (w.alloc o) own where
 os:=h.os
 tape:=h.tape
 output:=h.output
 size:=by have:=h.size;simp;omega
 block:=fun b hb hn=>by
  rw[Aq3 w o b (ae3 hb h.size)];exact h.block b hb hn
theorem Aif.setRow{w0 w:World}{own:List Nat}(h:Aif w0 w own)(g:Nat)(cs:Array Value)(hg:w0.heap.size≤g∨g∈own):Aif w0 (w.setRow g cs) own where
 os:=h.os
 tape:=h.tape
 output:=h.output
 size:=by have:=h.size;simpa [World.setRow] using this
 block:=fun b hb hn=>by
  rw[setRow_other w g b cs (fun e=>by
   subst e
   rcases hg with hg|hg
   ·omega
   ·exact hn hg)]
  exact h.block b hb hn
theorem Gd.newS(h:Gd K S used γ a w){w':World}{id:Id}{o:Obj}{hv:Value}(bw:∀ v,¬ used id v)
  (bv:∀ g,Bc (some o) hv=some g→g=w.heap.size∧¬ K.B g)
  (bp:w.heap.size≤w'.heap.size) (dx:∀ b,b<w.heap.size→w'.heap[b]?=w.heap[b]?) (hf:Aif K.w0 w' K.own)
  (ho:∀ E',Um (A3 K S.objs used γ w) E'→E'=A3 K ((id,some o)::S.objs) (Auc used id 0) (upd γ id hv) w'→OR K E' id o) :
  Um (A3 K S.objs used γ w) (A3 K ((id,some o)::S.objs) (Auc used id 0) (upd γ id hv) w')∧Gd K { S with objs:=(id,some o)::S.objs } (Auc used id 0) (upd γ id hv) a w':=by
 have bm:∀ j v,used j v→id≠j:=fun j v hj e=>bw v (e▸hj)
 have ba:K.base≤w.heap.size:=h.frame.size
 have ap:∀ j,Ak ((id,some o)::S.objs) j=if id=j then some o else Ak S.objs j:=fun j=>Mp ..
 have da:∀ j g,Bc (Ak ((id,some o)::S.objs) j) (upd γ id hv j)=some g→(j=id∧g=w.heap.size∧¬ K.B g)∨(j≠id∧Bc (Ak S.objs j) (γ j)=some g):=by
  intro j g hg
  rw[ap] at hg
  unfold upd at hg
  by_cases e:id=j
  ·rw[aa0 e,aa0 e] at hg
   exact .inl ⟨e.symm,bv g hg⟩
  ·rw[aa1 e,aa1 e] at hg
   exact .inr ⟨fun e'=>e e'.symm,hg⟩
 have hs:Um (A3 K S.objs used γ w) (A3 K ((id,some o)::S.objs) (Auc used id 0) (upd γ id hv) w'):=by
  refine⟨bp,fun fr b hb bj=>⟨⟨fun j hj=>?_,bj.2⟩,dx b hb⟩,fun j v hj=>.inl hj,fun j v hj t n bo=>?_,fun j hj t bh=>?_,fun j hj kk t bh=>?_⟩
  ·rcases da j b hj with⟨_,e,_⟩ | ⟨_,e⟩
   ·have:b<w.heap.size:=hb
    omega
   ·exact bj.1 j e
  ·have e:=bm j v hj
   have h1:(A3 K ((id,some o)::S.objs) (Auc used id 0) (upd γ id hv) w').o j=Ak S.objs j:=by
    show Ak ((id,some o)::S.objs) j=_
    rw[ap,aa1 e]
   rw[h1] at bo
   exact⟨bo,aa1 e⟩
  ·have e:=bm j 0 hj
   have h1:(A3 K ((id,some o)::S.objs) (Auc used id 0) (upd γ id hv) w').o j=Ak S.objs j:=by
    show Ak ((id,some o)::S.objs) j=_
    rw[ap,aa1 e]
   rw[h1] at bh
   exact⟨bh,aa1 e⟩
  ·have e:=bm j 0 hj
   have h1:(A3 K ((id,some o)::S.objs) (Auc used id 0) (upd γ id hv) w').o j=Ak S.objs j:=by
    show Ak ((id,some o)::S.objs) j=_
    rw[ap,aa1 e]
   rw[h1] at bh
   exact⟨bh,aa1 e⟩
 refine⟨hs,h.move hs (fun j oj hj=>?_) (fun j oj hj=>?_) (fun j ab fr t rows v hj hu=>?_) (fun i j g hi hj=>?_) (fun i g hi=>?_) hf⟩
 ·rw[ap] at hj
  by_cases e:id=j
  ·rw[aa0 e] at hj
   cases hj
   subst e
   exact ho _ hs rfl
  ·rw[aa1 e] at hj
   refine OR.step hs (aa1 e) (fun g hg=>dx g ?_) (h.objs j oj hj)
   exact Aav h (i:=j) (by rw[hj];exact hg)
 ·rw[ap] at hj
  by_cases e:id=j
  ·exact⟨0,.inr ⟨e.symm,rfl⟩⟩
  ·rw[aa1 e] at hj
   obtain⟨v,hv⟩:=h.ou j oj hj
   exact⟨v,.inl hv⟩
 ·rw[ap] at hj
  by_cases e:id=j
  ·rcases hu with hu | ⟨_,hu⟩
   ·exact absurd hu (by subst e;exact bw v)
   ·omega
  ·rw[aa1 e] at hj
   rcases hu with hu | ⟨e',_⟩
   ·exact h.vers j ab fr t rows v hj hu
   ·exact absurd e'.symm e
 ·rcases da i g hi with⟨e1,e2,_⟩ | ⟨e1,e2⟩<;>rcases da j g hj with⟨f1,f2,_⟩ | ⟨f1,f2⟩
  ·rw[e1,f1]
  ·have:=Aav h f2;omega
  ·have:=Aav h e2;omega
  ·exact h.sep i j g e2 f2
 ·rcases da i g hi with⟨_,e2,e3⟩ | ⟨_,e2⟩
  ·exact⟨.inl (by omega),e3⟩
  ·exact h.mod i g e2
theorem Gd.new(h:Gd K S used γ a w){w':World}{id:Id}{o:Obj}{hv:Value}(bw:∀ v,¬ used id v)
  (bv:∀ g,Bc (some o) hv=some g→g=w.heap.size∧¬ K.B g)
  (bp:w.heap.size≤w'.heap.size) (dx:∀ b,b<w.heap.size→w'.heap[b]?=w.heap[b]?) (hf:Aif K.w0 w' K.own)
  (ho:∀ E',Um (A3 K S.objs used γ w) E'→E'=A3 K ((id,some o)::S.objs) (Auc used id 0) (upd γ id hv) w'→OR K E' id o) :
  Gd K { S with objs:=(id,some o)::S.objs } (Auc used id 0) (upd γ id hv) a w':=(h.newS bw bv bp dx hf ho).2
end
end Go.Pon
namespace Go.Pon
open Go
def v1B:Value→Value→Bool
 | .int k n,.int l m=>kEq k l&&decide (n=m)
 | .bool a,.bool b=>a == b
 | .string a,.string b=>Nat.beq a.size 0&&Nat.beq b.size 0
 | .slice none 0 0,.slice none 0 0=>true
 | .pointer none,.pointer none=>true
 | _,_=>false
def vsB:List Value→List Value→Bool
 | [],[]=>true
 | a::l,b::m=>v1B a b&&vsB l m
 | _,_=>false
theorem Bz7{a b:ByteArray}(ha:a.size=0)(hb:b.size=0):a=b:=by
 cases a with|mk a=>cases b with|mk b =>
 have h1:a.size=0:=ha
 have h2:b.size=0:=hb
 rw[am7 h1,am7 h2]
theorem Cm2{a b:Value}(h:v1B a b=true):a=b:=by
 unfold v1B at h
 split at h
 ·simp only[aa5,ac4] at h
  rw[And.1 h.1,h.2]
 ·rw[eq_of_beq h]
 ·simp only[aa5,aj9] at h
  rw[Bz7 h.1 h.2]
 ·rfl
 ·rfl
 ·cases h
theorem Chy:∀ {l m:List Value},vsB l m=true→l=m
 | [],[],_=>rfl
 | a::l,b::m,h=>by
  simp only[vsB,aa5] at h
  rw[Cm2 h.1,Chy h.2]
def Bm7(P:Program)(t:Ty)(T:TypeId):Bool :=
 match P.info? T with
 | some i=>Nat.beq i.size t.size&&Nat.ble i.bytes (24*t.size)&&(match i.zero with
  | some z=>vsB z.cells.toList (Po t)&&(Ck z == t.agg)
  | none=>false)
 | none=>false
def tyC(P:Program):Ty→(TypeId→Bool)×(Nat→List Field→Bool)
 | .unit =>
  let ff (off:Nat) (fs:List Field):Bool:=match fs with
   | []=>true
   | _=>false
  (fun T=>Bm7 P .unit T&&(match P.underlying T with
   | some (.struct fs)=>ff 0 fs.toList&&!P.stoodInHeld T
   | _=>false),ff)
 | .pair a b =>
  let ff (off:Nat) (fs:List Field):Bool:=match fs with
   | f::r=>Nat.beq f.offset off&&(tyC P a).1 f.type&&Nat.blt 0 a.size&&(f.name != "_")&&(tyC P b).2 (off+a.size) r
   | []=>false
  (fun T=>Bm7 P (.pair a b) T&&(match P.underlying T with
   | some (.struct fs)=>ff 0 fs.toList&&!P.stoodInHeld T
   | _=>false),ff)
 | .int k=>(fun T=>Bm7 P (.int k) T&&(match P.underlying T with
   | some (.int l)=>kEq k l
   | _=>false),fun _ _=>false)
 | .bool=>(fun T=>Bm7 P .bool T&&(match P.underlying T with
   | some .bool=>true
   | _=>false),fun _ _=>false)
 | .str=>(fun T=>Bm7 P .str T&&(match P.underlying T with
   | some .string=>true
   | _=>false),fun _ _=>false)
 | .arr n t=>(fun T=>Bm7 P (.arr n t) T&&(match P.underlying T with
   | some (.array m e)=>Nat.beq n m&&(tyC P t).1 e
   | _=>false),fun _ _=>false)
 | .slice t=>(fun T=>Bm7 P (.slice t) T&&(match P.underlying T with
   | some (.slice e)=>(tyC P t).1 e
   | _=>false),fun _ _=>false)
 | .ptr=>(fun T=>Bm7 P .ptr T&&(match P.underlying T with
   | some (.pointer _)=>true
   | _=>false),fun _ _=>false)
def U2(P:Program)(t:Ty)(T:TypeId):Bool:=(tyC P t).1 T
def Ek(P:Program)(t:Ty)(off:Nat)(fs:List Field):Bool:=(tyC P t).2 off fs
theorem Uv{P:Program}{t:Ty}{T:TypeId}(h:U2 P t T=true):Bm7 P t T=true:=by
 cases t<;>simp only[U2,tyC,aa5] at h<;>exact h.1
theorem Ku{P:Program}{t:Ty}{T:TypeId}(h:Bm7 P t T=true) :
  ∃ i z,P.info? T=some i∧i.size=t.size∧i.bytes≤24*t.size∧i.zero=some z∧z.cells.toList=Po t∧Ck z=t.agg:=by
 unfold Bm7 at h
 split at h
 ·rename_i i hi
  simp only[aa5,aj9,Nat.ble_eq] at h
  obtain⟨⟨h1,h2⟩,h3⟩:=h
  split at h3
  ·rename_i z hz
   simp only[aa5,beq_iff_eq] at h3
   exact⟨i,z,hi,h1,h2,hz,Chy h3.1,h3.2⟩
  ·cases h3
 ·cases h
section
variable {P:Program} {T:TypeId}
theorem Afb{k:IntKind}(h:U2 P (.int k) T=true):P.underlying T=some (.int k):=by
 simp only[U2,tyC,aa5] at h
 have h2:=h.2
 split at h2
 ·rename_i l hl;rw[And.1 h2];exact hl
 ·cases h2
theorem Azc(h:U2 P .bool T=true):P.underlying T=some .bool:=by
 simp only[U2,tyC,aa5] at h
 have h2:=h.2
 split at h2
 ·rename_i hl;exact hl
 ·cases h2
theorem Akg(h:U2 P .str T=true):P.underlying T=some .string:=by
 simp only[U2,tyC,aa5] at h
 have h2:=h.2
 split at h2
 ·rename_i hl;exact hl
 ·cases h2
theorem Afg{n:Nat}{t:Ty}(h:U2 P (.arr n t) T=true):∃ e,P.underlying T=some (.array n e)∧U2 P t e=true:=by
 simp only[U2,tyC,aa5] at h
 have h2:=h.2
 split at h2
 ·rename_i m e hl
  simp only[aa5,aj9] at h2
  rw[h2.1];exact⟨e,hl,h2.2⟩
 ·cases h2
theorem H6{t:Ty}(h:U2 P (.slice t) T=true):∃ e,P.underlying T=some (.slice e)∧U2 P t e=true:=by
 simp only[U2,tyC,aa5] at h
 have h2:=h.2
 split at h2
 ·rename_i e hl;exact⟨e,hl,h2⟩
 ·cases h2
theorem Ash(h:U2 P .ptr T=true):∃ e,P.underlying T=some (.pointer e):=by
 simp only[U2,tyC,aa5] at h
 have h2:=h.2
 split at h2
 ·rename_i e hl;exact⟨e,hl⟩
 ·cases h2
theorem Au0(h:U2 P .unit T=true):∃ fs,P.underlying T=some (.struct fs)∧Ek P .unit 0 fs.toList=true∧P.stoodInHeld T=false:=by
 simp only[U2,tyC,aa5] at h
 have h2:=h.2
 split at h2
 ·rename_i fs hl
  simp only[aa5,an4] at h2
  exact⟨fs,hl,h2.1,h2.2⟩
 ·cases h2
theorem Ap3{a b:Ty}(h:U2 P (.pair a b) T=true):∃ fs,P.underlying T=some (.struct fs)∧Ek P (.pair a b) 0 fs.toList=true∧P.stoodInHeld T=false:=by
 simp only[U2,tyC,aa5] at h
 have h2:=h.2
 split at h2
 ·rename_i fs hl
  simp only[aa5,an4] at h2
  exact⟨fs,hl,h2.1,h2.2⟩
 ·cases h2
theorem Aaz{a b:Ty}{off:Nat}{fs:List Field}(h:Ek P (.pair a b) off fs=true) :
  ∃ f r,fs=f::r∧f.offset=off∧U2 P a f.type=true∧0<a.size∧f.name≠"_"∧Ek P b (off+a.size) r=true:=by
 simp only[Ek,tyC] at h
 split at h
 ·rename_i f r
  simp only[aa5,aj9,bne_iff_ne,ne_eq,at5] at h
  exact⟨f,r,rfl,h.1.1.1.1,h.1.1.1.2,h.1.1.2,h.1.2,h.2⟩
 ·cases h
theorem Ag3{off:Nat}{fs:List Field}(h:Ek P .unit off fs=true):fs=[]:=by
 simp only[Ek,tyC] at h
 split at h
 ·rfl
 ·cases h
theorem Ckf{t:Ty}(h:U2 P t T=true):∃ d,P.underlying T=some d∧(match d with | .struct _ | .array _ _=>true|_=>false)=t.agg:=by
 cases t with
 | unit=>obtain⟨fs,h,_⟩:=Au0 h;exact⟨_,h,rfl⟩
 | pair a b=>obtain⟨fs,h,_⟩:=Ap3 h;exact⟨_,h,rfl⟩
 | int k=>exact⟨_,Afb h,rfl⟩
 | bool=>exact⟨_,Azc h,rfl⟩
 | str=>exact⟨_,Akg h,rfl⟩
 | arr n t=>obtain⟨e,h,_⟩:=Afg h;exact⟨_,h,rfl⟩
 | slice t=>obtain⟨e,h,_⟩:=H6 h;exact⟨_,h,rfl⟩
 | ptr=>obtain⟨e,h⟩:=Ash h;exact⟨_,h,rfl⟩
variable (w:World)
theorem Bd5{t:Ty}(h:U2 P t T=true):(isAgg T).run P w=.ok t.agg w:=by
 obtain⟨d,h1,h2⟩:=Ckf h
 simp only[isAgg,ab9 h1,ac7,ab7]
 rw[← h2]
 cases d<;>rfl
theorem Ls{t:Ty}(h:U2 P t T=true):(sizeOf T).run P w=.ok t.size w:=by
 obtain⟨i,z,h1,h2,_⟩:=Ku (Uv h)
 simp[sizeOf,typeInfo,h1,h2]
theorem Azd{t:Ty}(h:U2 P t T=true):∃ z,(zeroValue T).run P w=.ok z w∧z.cells.toList=Po t∧Ck z=t.agg:=by
 obtain⟨i,z,h1,h2,_,h3,h4,h5⟩:=Ku (Uv h)
 exact⟨z,by simp[zeroValue,typeInfo,h1,h3],h4,h5⟩
theorem Bt3{t:Ty}(h:U2 P t T=true)(ad:Addr)(hs:ad.spot=none)(vs:List Value)(hl:vs.length=t.size)(hc:∀ j v,vs[j]?=some v→w.cell? (ad.add j)=some v) :
  (loadVar T ad).run P w=.ok (if t.agg then .agg vs.toArray else vs.headD undef) w:=by
 simp only[loadVar,ac7,Bd5 w h,ab7]
 cases hg:t.agg with
 | true =>
  simp only[ar3,ac7,Ls w h,ab7,← hl,run_loadCells_list w ad vs hc,af3]
 | false =>
  have h1:vs.length=1:=by rw[hl,N4 hg]
  obtain⟨v,rfl⟩:∃ v,vs=[v]:=by
   cases vs with
   | nil=>simp at h1
   | cons v r=>cases r with
    | nil=>exact⟨v,rfl⟩
    | cons _ _=>simp at h1
  have:=hc 0 v rfl
  simp only[Addr.add,ar3] at this
  simp[load,Sem.run,this]
end
end Go.Pon
namespace Go.Pon
open Go
def A6{α:Type}(C:Gi)(objs:Pm):OpT α→List Id→α→List Id→Prop
 | .fail,_,_,_=>False
 | .done a,l,r,l'=>a=r∧l=l'
 | .br c t e,l,r,l'=>(c=true∧A6 C objs t l r l')∨(c=false∧A6 C objs e l r l')
 | .get id f,l,r,l'=>∃ o,Ak objs id=some o∧A6 C objs (f o) (id::l) r l'
 | .call f s x g,l,r,l'=>∃ y,C f s x=some y∧A6 C objs (g y) l r l'
 | .opt _ o n s,l,r,l'=>(o=none∧A6 C objs n l r l')∨∃ y,o=some y∧A6 C objs (s y) l r l'
theorem Ee{α ω:Type}{C:Gi}{objs:Pm}:∀ {t:OpT α} {l:List Id} {k:α→List Id→Option ω} {r:ω},Lv C objs t l k=some r →
  ∃ a l',A6 C objs t l a l'∧k a l'=some r
 | .fail,_,_,_,h=>by cases h
 | .done a,l,_,_,h=>⟨a,l,⟨rfl,rfl⟩,h⟩
 | .br c t e,l,k,r,h=>by
  cases c with
  | true=>obtain⟨a,l',h1,h2⟩:=Ee (t:=t) (l:=l) (k:=k) (r:=r) h;exact⟨a,l',.inl ⟨rfl,h1⟩,h2⟩
  | false=>obtain⟨a,l',h1,h2⟩:=Ee (t:=e) (l:=l) (k:=k) (r:=r) h;exact⟨a,l',.inr ⟨rfl,h1⟩,h2⟩
 | .get id f,l,k,r,h=>by
  simp only[Lv] at h
  split at h
  ·rename_i o ho
   obtain⟨a,l',h1,h2⟩:=Ee h
   exact⟨a,l',⟨o,ho,h1⟩,h2⟩
  ·cases h
 | .call f s x g,l,k,r,h=>by
  simp only[Lv] at h
  cases hc:C f s x with
  | none=>rw[hc] at h;cases h
  | some y =>
   rw[hc] at h
   obtain⟨a,l',h1,h2⟩:=Ee (t:=g y) (l:=l) (k:=k) (r:=r) h
   exact⟨a,l',⟨y,hc,h1⟩,h2⟩
 | .opt m o n s,l,k,r,h=>by
  cases o with
  | none=>obtain⟨a,l',h1,h2⟩:=Ee (t:=n) (l:=l) (k:=k) (r:=r) h;exact⟨a,l',.inl ⟨rfl,h1⟩,h2⟩
  | some y=>obtain⟨a,l',h1,h2⟩:=Ee (t:=s y) (l:=l) (k:=k) (r:=r) h;exact⟨a,l',.inr ⟨y,rfl,h1⟩,h2⟩
theorem C7{α:Type}{C:Gi}{objs:Pm}{c:Bool}{t:OpT α}{l:List Id}{r:α}{l':List Id}(h:A6 C objs (.chk c t) l r l'):c=true∧A6 C objs t l r l':=by
 rcases h with h | ⟨_,h⟩
 ·exact h
 ·exact h.elim
def Axz(used ah:Id→Nat→Prop)(base:Id):Prop:=∀ id v,ah id v→(∃ v',used id v')∨(id.1=base.1∧id.2.1=base.2.1)
theorem Axz.refl(used:Id→Nat→Prop)(base:Id):Axz used used base:=fun _ v h=>.inl ⟨v,h⟩
def Qm(K:Dg)(S:St)(used:Id→Nat→Prop)(γ:Id→Value)(a:Act)(w:World)(o:Oper)(v:AV)(u:Pm)(base:Id):Prop :=
 ∃ r val w' ah γ',(execOp a.eval o).run K.P w=.ok r w'∧(r=.value val∨(r=.skip∧val=undef)) ∧
  Dn (A3 K (Da u S.objs) ah γ' w') v val∧Gd K { S with objs:=Da u S.objs } ah γ' a w'∧Axz used ah base
theorem Qm.wp{K:Dg}{S:St}{used:Id→Nat→Prop}{γ:Id→Value}{a:Act}{w:World}{o:Oper}{v:AV}{u:Pm}{base:Id}(h:Qm K S used γ a w o v u base)
  (hd:∀ d,o.dst=some d→K.dok d) {Q:Exit→Act→World→Prop} {k:Act→World→Prop}
  (hk:∀ ah γ' a' w',Axz used ah base→Gd K { S with env:=Ad5 S.env o.dst v,objs:=Da u S.objs } ah γ' a' w'→k a' w'):o.wp K.P a w k Q:=by
 obtain⟨r,val,w',ah,γ',h1,h2,h3,h4,h5⟩:=h
 unfold Oper.wp
 rw[h1]
 have:=h4.put h3 o.dst hd
 rcases h2 with rfl | ⟨rfl,rfl⟩
 ·exact hk ah γ' _ w' h5 this
 ·exact hk ah γ' _ w' h5 this
theorem Qm.pure{K:Dg}{S:St}{used:Id→Nat→Prop}{γ:Id→Value}{a:Act}{w:World}{o:Oper}{v:AV}{base:Id}(h:Gd K S used γ a w){val:Value}
  (hr:(execOp a.eval o).run K.P w=.ok (.value val) w) (hv:Dn (A3 K S.objs used γ w) v val):Qm K S used γ a w o v [] base :=
 ⟨_,val,w,used,γ,hr,.inl rfl,hv,h,Axz.refl _ _⟩
def A1:Operand→Bool
 | .const (.int k n)=>decide (k.min≤n)&&decide (n≤k.max)
 | .const (.string s)=>decide (s.size≤maxLen)
 | _=>true
theorem Bm{v:Value}(h:Ck v=false):v.cells.toList=[v]:=by cases v<;>simp_all [Value.cells,Ck]
theorem Df{E:U5}{a:AV}{v:Value}(h:ARc E a [v])(ha:Aoe a=false)(hv:Ck v=false):Ev E a v:=⟨by rw[Bm hv];exact h,by rw[ha,hv]⟩
theorem Cd9(E:U5)(v:Value)(h:A1 (.const v)=true):Dn E (Cht v) v:=by
 cases v with
 | bool b=>exact Df (a:=.d true .bool b) rfl rfl rfl
 | int k n =>
  simp only[A1,aa5,ac4] at h
  exact Df (a:=.d true (.int k) n) ⟨rfl,h⟩ rfl rfl
 | string s =>
  simp only[A1,ac4] at h
  exact Df (a:=.d true .str _) ⟨s,rfl,rfl,h⟩ rfl rfl
 | pointer p =>
  cases p with
  | none=>exact Df (a:=.nilp) rfl rfl rfl
  | some _=>trivial
 | slice p n c =>
  cases p with
  | some _=>trivial
  | none =>
   cases n with
   | succ _=>trivial
   | zero=>cases c with
    | succ _=>trivial
    | zero=>exact Df (a:=.nils) rfl rfl rfl
 | func fn first caps =>
  show Dn E (Cfr fn first.toList caps.toList) _
  unfold Cfr
  split
  ·rename_i f h1 h2
   have h1:first=#[]:=by cases first;simp_all
   have h2:caps=#[]:=by cases caps;simp_all
   subst h1 h2
   exact Df (a:=.fn f (.d true .unit ())) ⟨#[],rfl,rfl⟩ rfl rfl
  ·trivial
 | _=>trivial
section
variable {K:Dg} {S:St} {used:Id→Nat→Prop} {γ:Id→Value} {a:Act} {w:World}
theorem Bo(h:Gd K S used γ a w)(x:Operand)(hx:A1 x=true):Dn (A3 K S.objs used γ w) (S.eval x) (a.eval x):=by
 cases x with
 | tmp t=>exact h.env t
 | const v=>exact Cd9 _ v hx
 | global g=>trivial
 | func f=>exact Df (a:=.fn f (.d true .unit ())) ⟨#[],rfl,rfl⟩ rfl rfl
theorem Bcd{E:U5}{fr:Bool}{t:Ty}{x:t.den}{v:Value}(ht:t.agg=false)(h:Dn E (.d fr t x) v):DR E.w (E.ok fr) t [v] x:=by
 obtain⟨h1,h2⟩:=h
 have:Ck v=false:=by rw[← h2];exact ht
 rw[Bm this] at h1
 exact h1
theorem Bkk{E:U5}{fr:Bool}{k:IntKind}{x:Int}{v:Value}(h:Dn E (.d fr (.int k) x) v):v=.int k x∧inK k x:=by
 have:=Bcd rfl h
 exact⟨by simpa using this.1,this.2⟩
theorem Bnh{E:U5}{fr:Bool}{x:Bool}{v:Value}(h:Dn E (.d fr .bool x) v):v=.bool x:=by
 have:[v]=[Value.bool x]:=Bcd rfl h
 simpa using this
theorem Ge{E:U5}{v:AV}{k:IntKind}{x:Int}{val:Value}(h:asInt v=some (k,x))(hv:Dn E v val):val=.int k x∧inK k x:=by
 unfold asInt at h
 split at h
 ·cases h;exact Bkk hv
 ·cases h
theorem Biy{E:U5}{v:AV}{x:Bool}{val:Value}(h:asBool v=some x)(hv:Dn E v val):val=.bool x:=by
 unfold asBool at h
 split at h
 ·cases h;exact Bnh hv
 ·cases h
theorem Gs(E:U5){k:IntKind}{x:Int}(h:inK k x):Dn E (Ur k x) (.int k x):=Df (a:=.d true (.int k) x) ⟨rfl,h⟩ rfl rfl
theorem Vb(E:U5)(b:Bool):Dn E (Bib b) (.bool b):=Df (a:=.d true .bool b) rfl rfl rfl
theorem Ac2(k:IntKind)(n:Int):inK k (k.wrap n):=by
 cases k<;>simp only[inK,IntKind.wrap,IntKind.min,IntKind.max,IntKind.signed,IntKind.bits]<;>simp<;>(try split)<;>omega
theorem Bs7{x y:Int}(h:0≤x)(hy:y≠0):x % y≤x:=by
 rcases Int.lt_or_le x y.natAbs with h1|h1
 ·have:=ar0 x hy
  rcases Int.lt_or_le 0 y with h2|h2
  ·rw[Int.emod_eq_of_lt h (by omega)];exact ap5 _
  ·rw[← Int.emod_neg,Int.emod_eq_of_lt h (by omega)];exact ap5 _
 ·have:=Int.emod_lt x hy
  omega
theorem Cj0{k:IntKind}{x y:Int}(hx:inK k x)(hy:y≠0):inK k (x.tmod y):=by
 have h0:k.min≤0∧0≤k.max:=Bf1 k
 unfold inK at *
 have key:∀ z:Int,0≤z→0≤z.tmod y∧z.tmod y≤z:=fun z hz=>by
  rw[Int.tmod_eq_emod_of_nonneg hz]
  exact⟨ar0 z hy,Bs7 hz hy⟩
 rcases Int.le_total 0 x with h|h
 ·have:=key x h
  omega
 ·have e:=Int.neg_tmod x y
  have:=key (-x) (by omega)
  omega
end
end Go.Pon
namespace Go.Pon
open Go
section
variable {K:Dg} {S:St} {used:Id→Nat→Prop} {γ:Id→Value} {a:Act} {w:World} {o:Oper} {base:Id} {v:AV} {u:Pm} {l:List Id} {C:Gi} {objs:Pm} {P:Program}
def Cjl(E:U5)(v:AV)(u:Pm)(s:Sem Value)(P:Program)(w:World):Prop:=u=[]∧∃ val,s.run P w=.ok val w∧Dn E v val
theorem Bko(x y:Int):(x == y)=decide (x=y):=by rw[an7];simp
theorem Bzi(E:U5){op:BinOp}{k:IntKind}{x y:Int}(T:TypeId)(hx:inK k x)(hy:inK k y)(hs:Baz op=false)(h:A6 C objs (Cgu op k x y) [] (v,u) l) :
  Cjl E v u (binOp op T (.int k x) (.int k y)) P w:=by
 cases op<;>simp only[Cgu,Baz] at h hs
 case add=>cases h.1;exact⟨rfl,_,by simp[binOp,Op.intArith],Gs E (Ac2 k _)⟩
 case sub=>cases h.1;exact⟨rfl,_,by simp[binOp,Op.intArith],Gs E (Ac2 k _)⟩
 case mul=>cases h.1;exact⟨rfl,_,by simp[binOp,Op.intArith],Gs E (Ac2 k _)⟩
 case quo =>
  obtain⟨h1,h2⟩:=C7 h
  have wr:y≠0:=by simpa using h1
  cases h2.1
  exact⟨rfl,_,by simp[binOp,Op.intDiv,wr],Gs E (Ac2 k _)⟩
 case rem =>
  obtain⟨h1,h2⟩:=C7 h
  have wr:y≠0:=by simpa using h1
  cases h2.1
  exact⟨rfl,_,by simp[binOp,Op.intDiv,wr],Gs E (Cj0 hx wr)⟩
 case and=>cases h.1;exact⟨rfl,_,by simp[binOp,Op.intBits],Gs E (Ac2 k _)⟩
 case or=>cases h.1;exact⟨rfl,_,by simp[binOp,Op.intBits],Gs E (Ac2 k _)⟩
 case xor=>cases h.1;exact⟨rfl,_,by simp[binOp,Op.intBits],Gs E (Ac2 k _)⟩
 case andNot=>cases h.1;exact⟨rfl,_,by simp[binOp,Op.intBits],Gs E (Ac2 k _)⟩
 case shl=>cases hs
 case shr=>cases hs
 case eql=>cases h.1;exact⟨rfl,.bool (decide (x=y)),by simp[binOp,Op.intCmp,Bko],Vb E _⟩
 case neq=>cases h.1;exact⟨rfl,.bool (!decide (x=y)),by simp[binOp,Op.intCmp,bne,Bko],Vb E _⟩
 case lss=>cases h.1;exact⟨rfl,_,by simp[binOp,Op.intCmp],Vb E _⟩
 case leq=>cases h.1;exact⟨rfl,_,by simp[binOp,Op.intCmp],Vb E _⟩
 case gtr=>cases h.1;exact⟨rfl,_,by simp[binOp,Op.intCmp],Vb E _⟩
 case geq=>cases h.1;exact⟨rfl,_,by simp[binOp,Op.intCmp],Vb E _⟩
theorem Cir{k:IntKind}{x:Int}(hx:inK k x)(n:Nat):inK k (x.fdiv (2 ^ n)):=by
 have h0:k.min≤0∧0≤k.max:=Bf1 k
 unfold inK at *
 have hp:(0:Int)<2 ^ n:=Int.pow_pos (by decide)
 rw[ai1 _ (Int.le_of_lt hp)]
 rcases Int.le_total 0 x with h|h
 ·have h1:=Int.ediv_nonneg h (Int.le_of_lt hp)
  have h2:=Int.ediv_le_self (a:=x) (2 ^ n) h
  omega
 ·have h1:x≤x / 2 ^ n:=by
   rw[Int.le_ediv_iff_mul_le hp]
   have h3:(-x)*1≤(-x)*2 ^ n:=Int.mul_le_mul_of_nonneg_left (by omega) (by omega)
   simp only[Int.neg_mul,Int.mul_one] at h3
   omega
  have h2:x / 2 ^ n≤0:=by
   have:=Int.ediv_le_ediv hp h
   simpa using this
  omega
theorem Br8(E:U5){op:BinOp}{k k':IntKind}{x y:Int}(T:TypeId)(hx:inK k x)(hs:Baz op=true)(h:A6 C objs (Cbe op k x y) [] (v,u) l) :
  Cjl E v u (binOp op T (.int k x) (.int k' y)) P w:=by
 cases op<;>simp only[Baz,al0] at hs
 case shl =>
  obtain⟨h1,h2⟩:=C7 h
  have hy:¬ y<0:=by
   have:0≤y:=by simpa using h1
   omega
  cases h2.1
  exact⟨rfl,_,by simp[binOp,Op.shift,hy],Gs E (Ac2 k _)⟩
 case shr =>
  obtain⟨h1,h2⟩:=C7 h
  have hy:¬ y<0:=by
   have:0≤y:=by simpa using h1
   omega
  cases h2.1
  exact⟨rfl,_,by simp[binOp,Op.shift,hy],Gs E (Cir hx _)⟩
theorem Cfp(E:U5){op:UnOp}{x:AV}{val:Value}(hx:Dn E x val)(h:A6 C objs (unK op x) [] (v,u) l) :
  Cjl E v u (Op.unary op val) P w:=by
 unfold unK at h
 split at h
 ·obtain⟨rfl,hk⟩:=Bkk hx
  cases h.1
  exact⟨rfl,_,by simp[Op.unary,Op.intArith],Gs E (Ac2 _ _)⟩
 ·obtain⟨rfl,hk⟩:=Bkk hx
  cases h.1
  exact⟨rfl,_,by simp[Op.unary,Op.intBits],Gs E (Ac2 _ _)⟩
 ·obtain rfl:=Bnh hx
  cases h.1
  exact⟨rfl,_,by simp[Op.unary],Vb E _⟩
 ·exact h.elim
theorem Bi0(P:Program)(w:World)(op:BinOp)(T:TypeId)(x y:Operand)(k k':IntKind)(m n:Int) :
  (eqGuard op T x y (.int k m) (.int k' n)).run P w=.ok () w:=by
 cases op<;>simp[eqGuard]
end
end Go.Pon
namespace Go.Pon
open Go
section
variable {K:Dg} {S:St} {used:Id→Nat→Prop} {γ:Id→Value} {a:Act} {w:World} {o:Oper} {base:Id} {v:AV} {u:Pm} {l:List Id}
theorem Caq(h:Gd K S used γ a w)(hB:∀ b,K.B b→b<K.base){id:Id}(bw:∀ v,¬ used id v){t:Ty}{c:AV}{cur:Array Value}(e:TypeId)
  (hf:Bg t c=true) (hc:ARc (A3 K S.objs used γ w) c cur.toList) :
  let γ':=upd γ id (.pointer (some ⟨w.heap.size,0,none⟩))
  let w':=w.alloc (.cells cur e)
  Gd K { S with objs:=(id,some (.mem true t c))::S.objs } (Auc used id 0) γ' a w' ∧
  Dn (A3 K ((id,some (.mem true t c))::S.objs) (Auc used id 0) γ' w') (.ptr id []) (.pointer (some ⟨w.heap.size,0,none⟩)):=by
 have ba:K.base≤w.heap.size:=h.frame.size
 refine⟨h.new bw (fun g hg=>?_) (by simp) (fun b hb=>Aq3 w _ b hb) (h.frame.alloc _) (fun E' hs hE=>?_),Df (a:=.ptr id []) ⟨.inr ⟨rfl,rfl⟩,_,rfl,rfl,fun t' gn=>?_⟩ rfl rfl⟩
 ·simp[Bc] at hg
  exact⟨hg.symm,fun hb=>by have:=hB _ hb;omega⟩
 ·subst hE
  exact⟨w.heap.size,e,cur,aa0 rfl,aq3 w _,hf,hc.step hs,fun _=>ba⟩
 ·obtain⟨fr,c',hm⟩:=gn
  have hl:Ak ((id,some (.mem true t c))::S.objs) id=some (.mem true t c):=by rw[Mp,aa0 rfl]
  have:t'=t:=by
   rcases hm with hm|hm
   ·have:=hl.symm.trans hm;injection this with this;injection this with _ h2 _;exact h2.symm
   ·have:=hl.symm.trans hm;injection this with this;cases this
  subst this
  exact⟨_,t',aa0 rfl,by cases t'<;>rfl,by cases t'<;>trivial,by cases t'<;>rfl⟩
theorem Avi(E:U5):∀ t:Ty,Bg t (Ayw t)=true∧ARc E (Ayw t) (Po t)
 | .unit=>⟨rfl,rfl⟩
 | .pair a b=>by
  obtain⟨a1,a2⟩:=Avi E a
  obtain⟨b1,b2⟩:=Avi E b
  unfold Ayw
  cases a.bare&&b.bare with
  | true=>exact⟨by simp[Bg,Ty.beq_iff],DR.zero (.pair a b)⟩
  | false=>exact⟨by simp[Bg,a1,b1],Po a,Po b,rfl,a2,b2⟩
 | .int k=>⟨by simp[Ayw,Bg,Ty.beq_iff],DR.zero (.int k)⟩
 | .bool=>⟨rfl,rfl⟩
 | .str=>⟨rfl,DR.zero .str⟩
 | .arr n t=>⟨by simp[Ayw,Bg,Ty.beq_iff],DR.zero (.arr n t)⟩
 | .slice t=>⟨rfl,rfl⟩
 | .ptr=>⟨rfl,rfl⟩
theorem Ceh(h:Gd K S used γ a w)(hB:∀ b,K.B b→b<K.base)(bw:∀ v,¬ used base v){e:TypeId}{t:Ty}(ho:o.op=.alloc e)(ht:U2 K.P t e=true) :
  Qm K S used γ a w o (.ptr base []) [(base,some (.mem true t (Ayw t)))] base:=by
 obtain⟨z,hz1,rt,ws⟩:=Azd (P:=K.P) w ht
 obtain⟨f1,f2⟩:=Avi (A3 K S.objs used γ w) t
 obtain⟨r1,r2⟩:=Caq h hB bw (cur:=z.cells) e f1 (by rw[rt];exact f2)
 refine⟨_,_,_,_,_,?_,.inl rfl,r2,r1,?_⟩
 ·simp[execOp,ho,Instr.alloc,hz1,newVar,newRow]
 ·rintro id v (hv | ⟨rfl,rfl⟩)
  ·exact .inl ⟨v,hv⟩
  ·exact .inr ⟨rfl,rfl⟩
theorem Aii{E:U5}{t:Ty}{x:AV}{val:Value}(hf:Bg t x=true)(hv:Dn E x val):ARc E x val.cells.toList∧Ck val=t.agg:=by
 have h1:Ev E x val:=by
  cases x with
  | any=>cases t<;>simp[Bg] at hf
  | un=>cases t<;>simp[Bg] at hf
  | tup a=>cases t<;>simp[Bg] at hf
  | _=>exact hv
 exact⟨h1.1,by rw[← h1.2,Bns hf]⟩
theorem Aop{E:U5}{t:Ty}{x:AV}{val:Value}(hf:Bg t x=true)(h1:ARc E x val.cells.toList)(h2:Ck val=t.agg):Dn E x val:=by
 have h3:Ev E x val:=⟨h1,by rw[Bns hf,h2]⟩
 cases x with
 | any=>cases t<;>simp[Bg] at hf
 | un=>cases t<;>simp[Bg] at hf
 | tup a=>cases t<;>simp[Bg] at hf
 | _=>exact h3
theorem Cim(h:Gd K S used γ a w)(hB:∀ b,K.B b→b<K.base)(bw:∀ v,¬ used base v){e:TypeId}{t:Ty}{x:Operand}(ho:o.op=.box e x)(hx:A1 x=true)
  (hf:Bg t (S.eval x)=true) :
  Qm K S used γ a w o (.ptr base []) [(base,some (.mem true t (S.eval x)))] base:=by
 have hv:=Bo h x hx
 obtain⟨f1,f2⟩:=Aii hf hv
 obtain⟨r1,r2⟩:=Caq h hB bw (cur:=(a.eval x).cells) e hf f1
 refine⟨_,_,_,_,_,?_,.inl rfl,r2,r1,?_⟩
 ·simp[execOp,ho,Instr.box,newVar,newRow]
 ·rintro id v (hv | ⟨rfl,rfl⟩)
  ·exact .inl ⟨v,hv⟩
  ·exact .inr ⟨rfl,rfl⟩
theorem Blg{P:Program}{t:Ty}{T:TypeId}(hT:U2 P t T=true){E:U5}{x:AV}(hf:Bg t x=true){ad:Addr}(hs:ad.spot=none){vs:List Value}
  (hc:∀ j y,vs[j]?=some y→E.w.cell? (ad.add j)=some y) (hr:ARc E x vs):∃ val,(loadVar T ad).run P E.w=.ok val E.w∧Dn E x val:=by
 have hl:=Ka hf hr
 refine⟨_,Bt3 E.w hT ad hs vs hl hc,?_⟩
 cases hg:t.agg with
 | true=>exact Aop hf (by simpa [Value.cells] using hr) (by simp[Ck,hg])
 | false =>
  have h1:vs.length=1:=by rw[hl,N4 hg]
  obtain⟨v,rfl⟩:∃ v,vs=[v]:=by
   cases vs with
   | nil=>simp at h1
   | cons v r=>cases r with
    | nil=>exact⟨v,rfl⟩
    | cons _ _=>simp at h1
  have h1:=Azg hf hr v (by simp)
  have m9:Ck v=false:=by cases v<;>simp_all [Value.oneCell',Ck]
  exact Aop hf (by simpa [Bm m9] using hr) (by simp[m9,hg])
theorem Ch(g off j:Nat):(⟨g,off,none⟩:Addr).add j=⟨g,off+j,none⟩:=by
 unfold Addr.add
 split<;>simp_all
theorem Ab7{w:World}{g:Nat}{cur:Array Value}{e:TypeId}{fz:Nat×Nat}(hg:w.heap[g]?=some (.cells cur e fz))(off n:Nat) :
  ∀ j y,((cur.toList.drop off).take n)[j]?=some y→w.cell? ((⟨g,off,none⟩:Addr).add j)=some y:=by
 intro j y hj
 rw[Ch,cell_of_row w g (off+j) cur e fz hg]
 rw[af4] at hj
 split at hj
 ·simpa [ai2] using hj
 ·cases hj
end
end Go.Pon
namespace Go.Pon
open Go
section
variable {K:Dg} {S:St} {used:Id→Nat→Prop} {γ:Id→Value} {a:Act} {w:World} {o:Oper} {base:Id} {v:AV} {u:Pm} {l:List Id}
theorem Ay7(h:Gd K S used γ a w){id:Id}{ab:Nat}{fr:Bool}{t:Ty}{rows:List t.den}
  (ho:Ak S.objs id=some (.sli ab fr t rows)∨Ak S.objs id=some (.frz ab fr t rows)) (hn:rows≠[]) :
  ∃ g cp cs,γ id=.slice (some ⟨g,0,none⟩) rows.length cp∧rows.length≤cp∧cp≤maxLen∧B7 (DR w (Ahh K (Ak S.objs) γ fr) t) t.size cs rows ∧
   ∀ j y,cs[j]?=some y→w.cell? ⟨g,j,none⟩=some y:=by
 rcases ho with ho|ho
 ·rcases h.objs id _ ho with⟨_,h2⟩ | ⟨g,cap,cur,e,h1,h2,h3,h4,h5,h6,h7⟩
  ·exact absurd h2 hn
  ·refine⟨g,cap,_,h1,h3,h4,h6,fun j y hj=>?_⟩
   have:=Ab7 h2 0 (List.length rows*t.size) j y (by simpa using hj)
   rw[Ch,af1] at this
   exact this
 ·obtain⟨⟨ad,cap,h1,h2,h3,h4,cs,h5,h6⟩,h7⟩:=h.objs id _ ho
  have h1:γ id=.slice ad rows.length cap:=by have:[γ id]=_:=h1;simpa using this
  have er:rows=[]∨t.size=0∨cs≠[]:=by
   by_cases hc:cs=[]
   ·have:=h5.length
    rw[hc] at this
    rcases Nat.mul_eq_zero.1 this.symm with h|h
    ·exact .inl (af7 h)
    ·exact .inr (.inl h)
   ·exact .inr (.inr hc)
  have dr:0<rows.length:=List.length_pos_iff.2 hn
  cases ad with
  | none=>have:=h4 rfl;omega
  | some ad =>
   obtain⟨k1,k2⟩:=h7 ad _ _ h1
   obtain⟨b,off,spot⟩:=ad
   simp only at k1 k2
   subst k1 k2
   refine⟨b,cap,cs,h1,h2,h3,h5,fun j y hj=>?_⟩
   have bm:cs≠[]:=by rintro rfl;simp at hj
   obtain⟨mj,e1,_,hc⟩:=h6 bm
   cases e1
   have:=hc j y hj
   rw[Ch,af1] at this
   exact this
theorem Azb(h:Gd K S used γ a w){id:Id}{fr:Bool}{t:Ty}{c:AV}
  (ho:Ak S.objs id=some (.mem fr t c)∨Ak S.objs id=some (.mfz fr t c)) :
  ∃ g e cur,γ id=.pointer (some ⟨g,0,none⟩)∧w.heap[g]?=some (.cells cur e (0,0))∧Bg t c=true∧ARc (A3 K S.objs used γ w) c cur.toList:=by
 rcases ho with ho|ho
 ·obtain⟨g,e,cur,h1,h2,h3,h4,_⟩:=h.objs id _ ho
  exact⟨g,e,cur,h1,h2,h3,h4⟩
 ·obtain⟨⟨g,e,cur,h1,h2,h3,h4,_⟩,_⟩:=h.objs id _ ho
  exact⟨g,e,cur,h1,h2,h3,h4⟩
theorem Tv{E:U5}{x:AV}{val:Value}(hx:Aoe x=false)(ht:∀ y,x≠.tup y)(hn:x≠.any)(hu:x≠.un)(hv:Dn E x val):ARc E x [val]∧Ck val=false:=by
 have h1:Ev E x val:=by
  cases x with
  | any=>exact absurd rfl hn
  | un=>exact absurd rfl hu
  | tup y=>exact absurd rfl (ht y)
  | _=>exact hv
 have h2:Ck val=false:=by rw[← h1.2,hx]
 exact⟨by have:=h1.1;rwa [Bm h2] at this,h2⟩
theorem Abe{E:U5}{id:Id}{ai:List Nat}{val:Value}(hv:Dn E (.ptr id ai) val) :
  E.used id 0∧∀ t,Awc (E.o id) t→∃ g u,E.γ id=.pointer (some ⟨g,0,none⟩)∧La t ai=some u∧inT t ai∧val=.pointer (some ⟨g,Bz t ai,none⟩):=by
 obtain⟨⟨h1,v,h2,h3,h4⟩,_⟩:=Tv (x:=.ptr id ai) rfl (by simp) (by simp) (by simp) hv
 have:val=v:=by simpa using h2
 subst this
 exact⟨h1,h4⟩
theorem Bfe{E:U5}{id:Id}{ab i:Nat}{ai:List Nat}{val:Value}(hv:Dn E (.eptr id ab i ai) val) :
  E.used id ab∧∀ t n,Ahd (E.o id) ab t n→i<n∧∃ g m cp u,E.γ id=.slice (some ⟨g,0,none⟩) m cp∧La t ai=some u∧inT t ai∧val=.pointer (some ⟨g,i*t.size+Bz t ai,none⟩):=by
 obtain⟨⟨h1,v,h2,h3,h4⟩,_⟩:=Tv (x:=.eptr id ab i ai) rfl (by simp) (by simp) (by simp) hv
 have:val=v:=by simpa using h2
 subst this
 exact⟨h1,h4⟩
theorem Ar5{E:U5}{id:Id}{ab:Nat}{val:Value}(hv:Dn E (.own id ab) val) :
  E.used id ab∧Ck val=false∧∀ t n,Ahd (E.o id) ab t n→val=E.γ id:=by
 obtain⟨⟨h1,v,h2,h3,h4⟩,h5⟩:=Tv (x:=.own id ab) rfl (by simp) (by simp) (by simp) hv
 have:val=v:=by simpa using h2
 subst this
 exact⟨h1,h5,h4⟩
theorem Bnr{E:U5}{id:Id}{ab lo hi:Nat}{cp:Bool}{val:Value}(hv:Dn E (.view id ab lo hi cp) val) :
  E.used id ab∧∀ t n,Ahd (E.o id) ab t n→lo≤hi∧hi≤n∧∃ a c,val=.slice a (hi-lo) c∧hi-lo≤c∧c≤maxLen∧(a=none→c=0) ∧
    (lo<hi→∃ g m cp,E.γ id=.slice (some ⟨g,0,none⟩) m cp∧a=some ⟨g,lo*t.size,none⟩)∧(cp=true→c=hi-lo):=by
 obtain⟨⟨h1,v,h2,h3,h4⟩,_⟩:=Tv (x:=.view id ab lo hi cp) rfl (by simp) (by simp) (by simp) hv
 have:val=v:=by simpa using h2
 subst this
 exact⟨h1,h4⟩
theorem Ccx{E:U5}{id:Id}{ai:List Nat}{lo hi:Nat}{val:Value}(hv:Dn E (.mview id ai lo hi) val) :
  E.used id 0∧∀ t,Awc (E.o id) t→∃ g n u,E.γ id=.pointer (some ⟨g,0,none⟩)∧La t ai=some (.arr n u)∧inT t ai∧lo≤hi∧hi≤n ∧
    ∃ a c,val=.slice (some a) (hi-lo) c∧hi-lo≤c∧c≤maxLen∧(lo<hi→a=⟨g,Bz t ai+lo*u.size,none⟩):=by
 obtain⟨⟨h1,v,h2,h3,h4⟩,_⟩:=Tv (x:=.mview id ai lo hi) rfl (by simp) (by simp) (by simp) hv
 have:val=v:=by simpa using h2
 subst this
 exact⟨h1,h4⟩
theorem At2{E:U5}{fr:Bool}{t:Ty}{x:t.den}{val:Value}(hv:Dn E (.rptr fr t x) val) :
  ∃ a vs,val=.pointer (some a)∧a.spot=none∧(0<t.size→E.ok fr a.block)∧(∀ j y,vs[j]?=some y→E.w.cell? (a.add j)=some y)∧DR E.w (E.ok fr) t vs x:=by
 obtain⟨⟨v,h2,h3,h4⟩,_⟩:=Tv (x:=.rptr fr t x) rfl (by simp) (by simp) (by simp) hv
 have:val=v:=by simpa using h2
 subst this
 exact h4
theorem Aa2(o:Option Obj)(fr:Bool)(t:Ty)(c:AV)(h:o=some (.mem fr t c)∨o=some (.mfz fr t c)):Awc o t:=⟨fr,c,h⟩
theorem Fp(o:Option Obj)(ab:Nat)(fr:Bool)(t:Ty)(rows:List t.den)(h:o=some (.sli ab fr t rows)∨o=some (.frz ab fr t rows)):Ahd o ab t rows.length:=⟨fr,rows,rfl,h⟩
theorem Bmj(h:Gd K S used γ a w){id:Id}{ai:List Nat}{fr:Bool}{t uT:Ty}{c x:AV}{T:TypeId}{val:Value}
  (ho:Ak S.objs id=some (.mem fr t c)∨Ak S.objs id=some (.mfz fr t c)) (hT:U2 K.P uT T=true)
  (hv:Dn (A3 K S.objs used γ w) (.ptr id ai) val) (ht:La t ai=some uT) (hn:Ax9 c ai=some x) :
  ∃ r,(Instr.loadAt T val).run K.P w=.ok r w∧Dn (A3 K S.objs used γ w) x r:=by
 obtain⟨g,e,cur,h1,h2,h3,h4⟩:=Azb h ho
 obtain⟨_,hp⟩:=Abe hv
 obtain⟨g',u',p1,p2,p3,p4⟩:=hp t (Aa2 _ fr t c ho)
 have p1:γ id=.pointer (some ⟨g',0,none⟩):=p1
 rw[h1] at p1
 obtain rfl:g=g':=by cases p1;rfl
 obtain⟨n1,n2,n3⟩:=Ae1 c t ai uT cur.toList h3 ht p3 h4 x hn
 subst p4
 obtain⟨r,r1,r2⟩:=Blg (P:=K.P) (E:=A3 K S.objs used γ w) hT n1 (ad:=⟨g,Bz t ai,none⟩) rfl (Ab7 h2 _ _) n2
 exact⟨r,by simp only[Instr.loadAt,Instr.sureAddr,ac7,af3,ab7];exact r1,r2⟩
theorem Bqn(h:Gd K S used γ a w){id:Id}{ai:List Nat}{ab i:Nat}{fr:Bool}{t uT:Ty}{rows:List t.den}{x:AV}{T:TypeId}{val:Value}
  (ho:Ak S.objs id=some (.sli ab fr t rows)∨Ak S.objs id=some (.frz ab fr t rows)) (hT:U2 K.P uT T=true)
  (hv:Dn (A3 K S.objs used γ w) (.eptr id ab i ai) val) (hn:Bpa fr t (rows.getD i t.zero) ai=some x) (hf:Bg uT x=true) :
  ∃ r,(Instr.loadAt T val).run K.P w=.ok r w∧Dn (A3 K S.objs used γ w) x r:=by
 obtain⟨_,hp⟩:=Bfe hv
 obtain⟨p0,g',m,ru,u',p1,p2,p3,p4⟩:=hp t _ (Fp _ ab fr t rows ho)
 have bm:rows≠[]:=by rintro rfl;simp at p0
 obtain⟨g,cp,cs,h1,_,_,h5,h6⟩:=Ay7 h ho bm
 have p1:γ id=.slice (some ⟨g',0,none⟩) m ru:=p1
 rw[h1] at p1
 obtain rfl:g=g':=by cases p1;rfl
 have fk:=h5.get i p0
 rw[Awf p0] at hn
 obtain⟨y,n1,n2,n3⟩:=Aic fr t rows[i] ai u' _ p2 p3 fk
 rw[n1] at hn
 cases hn
 have hu:u'=uT:=Ty.beq_iff.1 (by simpa [Bg] using hf)
 subst hu
 subst p4
 obtain⟨r,r1,r2⟩:=Blg (P:=K.P) (E:=A3 K S.objs used γ w) (x:=.d fr u' y) hT (by simp[Bg,Ty.beq_iff]) (ad:=⟨g,i*t.size+Bz t ai,none⟩) rfl
  (fun j z hj=>by
   rw[Ch]
   refine h6 _ z ?_
   rw[af4] at hj
   split at hj
   ·rw[ai2,af4] at hj
    split at hj
    ·rw[ai2] at hj
     rw[← hj]
     congr 1
     omega
    ·cases hj
   ·cases hj) n2
 exact⟨r,by simp only[Instr.loadAt,Instr.sureAddr,ac7,af3,ab7];exact r1,r2⟩
theorem Ccj(h:Gd K S used γ a w){t:Ty}{T:TypeId}{x:Operand}(ho:o.op=.load T x)(hx:A1 x=true)(hT:U2 K.P t T=true)
  (hl:A6 K.C S.objs (Che (S.eval x) t fun v=>.done (v,[])) [] (v,u) l):Qm K S used γ a w o v u base:=by
 have hv:=Bo h x hx
 have cg:∀ y,(∃ r,(Instr.loadAt T (a.eval x)).run K.P w=.ok r w∧Dn (A3 K S.objs used γ w) y r)→(y,[])=(v,u)→Qm K S used γ a w o v u base:=by
  rintro y ⟨r,r1,r2⟩ e
  cases e
  exact Qm.pure h (by simp[execOp,ho,r1]) r2
 unfold Che at hl
 split at hl
 ·rename_i id ai heq
  rw[heq] at hv
  obtain⟨ob,ak,hl⟩:=hl
  dsimp only at hl
  split at hl
  ·rename_i fr tt c
   split at hl
   ·rename_i ww y h1 h2
    cases hc:(Ty.beq ww t&&Bg t y) with
    | false=>rw[hc] at hl;exact hl.elim
    | true =>
     rw[hc] at hl
     simp only[aa5] at hc
     rw[Ty.beq_iff.1 hc.1] at h1
     exact cg y (Bmj h (.inl ak) hT hv h1 h2) hl.1
   ·exact hl.elim
  ·rename_i fr tt c
   split at hl
   ·rename_i ww y h1 h2
    cases hc:(Ty.beq ww t&&Bg t y) with
    | false=>rw[hc] at hl;exact hl.elim
    | true =>
     rw[hc] at hl
     simp only[aa5] at hc
     rw[Ty.beq_iff.1 hc.1] at h1
     exact cg y (Bmj h (.inr ak) hT hv h1 h2) hl.1
   ·exact hl.elim
  ·exact hl.elim
 ·rename_i id ab i ai heq
  rw[heq] at hv
  obtain⟨ob,ak,hl⟩:=hl
  dsimp only at hl
  split at hl
  ·rename_i af fr tt rows
   split at hl
   ·rename_i y h1 h2
    have h1:=ab1 h1
    subst h1
    cases hc:Bg t y with
    | false=>rw[hc] at hl;exact hl.elim
    | true =>
     rw[hc] at hl
     exact cg y (Bqn h (.inl ak) hT hv h2 hc) hl.1
   ·exact hl.elim
  ·rename_i af fr tt rows
   split at hl
   ·rename_i y h1 h2
    have h1:=ab1 h1
    subst h1
    cases hc:Bg t y with
    | false=>rw[hc] at hl;exact hl.elim
    | true =>
     rw[hc] at hl
     exact cg y (Bqn h (.inr ak) hT hv h2 hc) hl.1
   ·exact hl.elim
  ·exact hl.elim
 ·rename_i fr tt x' heq
  rw[heq] at hv
  cases hc:Ty.beq tt t with
  | false=>rw[hc] at hl;exact hl.elim
  | true =>
   rw[hc] at hl
   have e:=Ty.beq_iff.1 hc
   subst e
   obtain⟨ad,vs,h1,h2,h3,h4,h5⟩:=At2 hv
   obtain⟨r,r1,r2⟩:=Blg (P:=K.P) (E:=A3 K S.objs used γ w) (x:=.d fr tt x') hT (by simp[Bg,Ty.beq_iff]) h2 h4 h5
   refine cg _ ⟨r,?_,r2⟩ hl.1
   rw[h1]
   simp only[Instr.loadAt,Instr.sureAddr,ac7,af3,ab7]
   exact r1
 ·exact hl.elim
end
end Go.Pon
namespace Go.Pon
open Go
theorem Adu{α:Type}:∀ (l m:List α),Da l m=l++m
 | [],_=>rfl
 | a::l,m=>by simp[Da,Adu l m]
theorem Aoy(t:Ty):La t []=some t:=by cases t<;>rfl
theorem Atz(t:Ty):Bz t []=0:=by cases t<;>rfl
theorem Bfi(t:Ty):inT t []:=by cases t<;>trivial
theorem Au6:∀ (t:Ty) (p:List Nat) (u:Ty) (q:List Nat),La t p=some u→inT t p →
  La t (p++q)=La u q∧Bz t (p++q)=Bz t p+Bz u q∧(inT t (p++q)↔inT u q)
 | t,[],u,q,ht,_=>by
  have e:u=t:=by rw[Aoy] at ht;exact (at1 ht).symm
  subst e
  simp[Atz]
 | .pair a b,0::p,u,q,ht,hi=>Au6 a p u q ht hi
 | .pair a b,(n+1)::p,u,q,ht,hi=>by
  obtain⟨h1,h2,h3⟩:=Au6 b (n::p) u q ht hi
  refine⟨h1,?_,h3⟩
  show a.size+Bz b (n::p++q)=a.size+Bz b (n::p)+Bz u q
  rw[h2];omega
 | .arr m t,i::p,u,q,ht,⟨hi,hp⟩=>by
  obtain⟨h1,h2,h3⟩:=Au6 t p u q ht hp
  refine⟨h1,?_,?_⟩
  ·show i*t.size+Bz t (p++q)=i*t.size+Bz t p+Bz u q
   rw[h2];omega
  ·show (i<m∧inT t (p++q))↔_
   rw[h3];simp[hi]
section
variable {P:Program}
theorem Apx:∀ (t:Ty) (off:Nat) (fs:List Field) (n:Nat),Ek P t off fs=true→N5 t n=true →
  ∃ f u,fs[n]?=some f∧f.offset=off+Bz t [n]∧La t [n]=some u∧U2 P u f.type=true∧0<u.size∧inT t [n]
 | .pair a b,off,fs,0,h,_=>by
  obtain⟨f,r,rfl,h1,h2,h3,_,_⟩:=Aaz h
  exact⟨f,a,rfl,by simp[Bz,Atz,h1],by simp[La,Aoy],h2,h3,by simp[inT,Bfi]⟩
 | .pair a b,off,fs,n+1,h,hf=>by
  obtain⟨f,r,rfl,h1,h2,h3,_,h4⟩:=Aaz h
  obtain⟨f',u,k1,k2,k3,k4,k5,k6⟩:=Apx b (off+a.size) r n h4 hf
  exact⟨f',u,by simpa using k1,by simp only[Bz];omega,k3,k4,k5,k6⟩
theorem Ba1{t:Ty}{T:TypeId}{n:Nat}(h:U2 P t T=true)(hf:N5 t n=true) :
  ∃ fs,P.underlying T=some (.struct fs)∧Ek P t 0 fs.toList=true:=by
 cases t<;>first | (simp[N5] at hf;done)|skip
 obtain⟨fs,h1,h2,_⟩:=Ap3 h
 exact⟨fs,h1,h2⟩
theorem Baq{t:Ty}{T:TypeId}{n:Nat}(h:U2 P t T=true)(hf:N5 t n=true)(w:World)(ad:Addr) :
  (Instr.fieldAt T (.pointer (some ad)) n).run P w=.ok (.pointer (some (ad.add (Bz t [n])))) w:=by
 obtain⟨fs,h1,h2⟩:=Ba1 h hf
 obtain⟨f,u,k1,k2,k3,k4,k5,k6⟩:=Apx t 0 fs.toList n h2 hf
 have k1:fs[n]?=some f:=by simpa using k1
 have hs:=Ls w k4
 have h0:u.size≠0:=by omega
 simp[Instr.fieldAt,ab9 h1,k1,Instr.sureAddr,fieldPlace,hs,h0,k2]
theorem All{i:Int}{n:Nat}(h:Cj i n=true):0≤i∧i<n∧i.toNat<n:=by
 simp only[Cj,aa5,ac4] at h
 omega
end
section
variable {K:Dg} {S:St} {used:Id→Nat→Prop} {γ:Id→Value} {a:Act} {w:World} {o:Oper} {base:Id} {v:AV} {u:Pm} {l:List Id}
theorem Bn4(h:Gd K S used γ a w){id:Id}{ai q:List Nat}{uT:Ty}{val:Value}(hv:Dn (A3 K S.objs used γ w) (.ptr id ai) val)
  {k:OpV} {l0:List Id} (hl:A6 K.C S.objs (Cbw id ai uT k) l0 (v,u) l) (hq:inT uT q) (nq:∃ w,La uT q=some w) :
  ∃ g off l1,val=.pointer (some ⟨g,off,none⟩)∧A6 K.C S.objs k l1 (v,u) l ∧
   Dn (A3 K S.objs used γ w) (.ptr id (ai++q)) (.pointer (some ⟨g,off+Bz uT q,none⟩)):=by
 obtain⟨hu,hp⟩:=Abe hv
 obtain⟨ob,ak,hl⟩:=hl
 obtain⟨w',jq⟩:=nq
 have key:∀ fr t c,(ob=.mem fr t c∨ob=.mfz fr t c)→La t ai=some uT→A6 K.C S.objs k (id::l0) (v,u) l →
  ∃ g off l1,val=.pointer (some ⟨g,off,none⟩)∧A6 K.C S.objs k l1 (v,u) l ∧
   Dn (A3 K S.objs used γ w) (.ptr id (ai++q)) (.pointer (some ⟨g,off+Bz uT q,none⟩)):=by
  intro fr t c ho ht hk
  have hm:Awc (Ak S.objs id) t:=Aa2 _ fr t c (by rcases ho with rfl|rfl<;>simp[ak])
  obtain⟨g,u',p1,p2,p3,p4⟩:=hp t hm
  refine⟨g,Bz t ai,_,p4,hk,Df (a:=.ptr id (ai++q)) ⟨hu,_,rfl,rfl,fun t' gn=>?_⟩ rfl rfl⟩
  obtain⟨g',wm,q1,q2,q3,q4⟩:=hp t' gn
  have p1:γ id=_:=p1
  have q1:γ id=_:=q1
  have hg:g=g':=by rw[p1] at q1;cases q1;rfl
  subst hg
  have wu:t'=t:=by
   obtain⟨fr1,c1,h1⟩:=hm
   obtain⟨wx,c2,h2⟩:=gn
   have h2:Ak S.objs id=some (.mem wx t' c2)∨Ak S.objs id=some (.mfz wx t' c2):=h2
   rcases h1 with h1|h1<;>rcases h2 with h2|h2<;>rw[h1] at h2<;>cases h2<;>rfl
  subst wu
  obtain⟨s1,s2,s3⟩:=Au6 t' ai uT q ht p3
  exact⟨g,w',p1,by rw[s1];exact jq,s3.2 hq,by rw[s2]⟩
 dsimp only at hl
 split at hl
 ·rename_i fr t c
  split at hl
  ·rename_i ww nu
   cases hc:Ty.beq ww uT with
   | false=>rw[hc] at hl;exact hl.elim
   | true =>
    rw[hc] at hl
    rw[Ty.beq_iff.1 hc] at nu
    exact key fr t c (.inl rfl) nu hl
  ·exact hl.elim
 ·rename_i fr t c
  split at hl
  ·rename_i ww nu
   cases hc:Ty.beq ww uT with
   | false=>rw[hc] at hl;exact hl.elim
   | true =>
    rw[hc] at hl
    rw[Ty.beq_iff.1 hc] at nu
    exact key fr t c (.inr rfl) nu hl
  ·exact hl.elim
 ·exact hl.elim
theorem Bfm{o:Option Obj}{ab:Nat}{t t':Ty}{n n':Nat}(h:Ahd o ab t n)(h':Ahd o ab t' n'):t=t'∧n=n':=by
 obtain⟨fr,rows,h1,h2⟩:=h
 obtain⟨fr',rows',go,iq⟩:=h'
 rcases h2 with h2|h2<;>rcases iq with iq|iq<;>rw[h2] at iq<;>cases iq<;>exact⟨rfl,h1.symm.trans go⟩
theorem Brs(h:Gd K S used γ a w){id:Id}{ab i:Nat}{ai q:List Nat}{uT:Ty}{val:Value}(hv:Dn (A3 K S.objs used γ w) (.eptr id ab i ai) val)
  {k:OpV} {l0:List Id} (hl:A6 K.C S.objs (Bzr id ab ai uT k) l0 (v,u) l) (hq:inT uT q) (nq:∃ w,La uT q=some w) :
  ∃ g off l1,val=.pointer (some ⟨g,off,none⟩)∧A6 K.C S.objs k l1 (v,u) l ∧
   Dn (A3 K S.objs used γ w) (.eptr id ab i (ai++q)) (.pointer (some ⟨g,off+Bz uT q,none⟩)):=by
 obtain⟨hu,hp⟩:=Bfe hv
 obtain⟨ob,ak,hl⟩:=hl
 obtain⟨w',jq⟩:=nq
 have key:∀ fr t rows,(ob=.sli ab fr t rows∨ob=.frz ab fr t rows)→La t ai=some uT→A6 K.C S.objs k (id::l0) (v,u) l →
  ∃ g off l1,val=.pointer (some ⟨g,off,none⟩)∧A6 K.C S.objs k l1 (v,u) l ∧
   Dn (A3 K S.objs used γ w) (.eptr id ab i (ai++q)) (.pointer (some ⟨g,off+Bz uT q,none⟩)):=by
  intro fr t rows ho ht hk
  have hm:Ahd (Ak S.objs id) ab t rows.length:=Fp _ ab fr t rows (by rcases ho with rfl|rfl<;>simp[ak])
  obtain⟨p0,g,m,cp,u',p1,p2,p3,p4⟩:=hp t _ hm
  refine⟨g,i*t.size+Bz t ai,_,p4,hk,Df (a:=.eptr id ab i (ai++q)) ⟨hu,_,rfl,rfl,fun t' n' gn=>?_⟩ rfl rfl⟩
  obtain⟨q0,g',m',ru,wm,q1,q2,q3,q4⟩:=hp t' n' gn
  have p1:γ id=_:=p1
  have q1:γ id=_:=q1
  have hg:g=g':=by rw[p1] at q1;cases q1;rfl
  subst hg
  obtain⟨wu,_⟩:=Bfm hm gn
  subst wu
  obtain⟨s1,s2,s3⟩:=Au6 t ai uT q ht p3
  exact⟨q0,g,m,cp,w',p1,by rw[s1];exact jq,s3.2 hq,by rw[s2];simp only[aj3]⟩
 dsimp only at hl
 split at hl
 ·rename_i af fr t rows
  split at hl
  ·rename_i ww h1 nu
   have h1:=ab1 h1
   subst h1
   cases hc:Ty.beq ww uT with
   | false=>rw[hc] at hl;exact hl.elim
   | true =>
    rw[hc] at hl
    rw[Ty.beq_iff.1 hc] at nu
    exact key fr t rows (.inl rfl) nu hl
  ·exact hl.elim
 ·rename_i af fr t rows
  split at hl
  ·rename_i ww h1 nu
   have h1:=ab1 h1
   subst h1
   cases hc:Ty.beq ww uT with
   | false=>rw[hc] at hl;exact hl.elim
   | true =>
    rw[hc] at hl
    rw[Ty.beq_iff.1 hc] at nu
    exact key fr t rows (.inr rfl) nu hl
  ·exact hl.elim
 ·exact hl.elim
theorem Bry{E:U5}(fr:Bool):∀ (t:Ty) (x:t.den) (n:Nat) (y:AV),Ckx fr t x n=some y→∃ u z,y=.rptr fr u z∧La t [n]=some u ∧
  ∀ cs,DR E.w (E.ok fr) t cs x→DR E.w (E.ok fr) u ((cs.drop (Bz t [n])).take u.size) z∧Bz t [n]+u.size≤t.size
 | .pair a b,x,0,y,h=>by
  cases h
  refine⟨a,x.1,rfl,by simp[La,Aoy],fun cs hd=>⟨?_,by simp[Bz,Atz,Ty.size]⟩⟩
  simpa [Bz,Atz] using hd.1
 | .pair a b,x,n+1,y,h=>by
  obtain⟨u,z,h1,h2,h3⟩:=Bry (E:=E) fr b x.2 n y h
  refine⟨u,z,h1,h2,fun cs hd=>?_⟩
  obtain⟨k1,k2⟩:=h3 _ hd.2
  rw[ah4] at k1
  exact⟨k1,by simp only[Bz,Ty.size];omega⟩
theorem Bqr{E:U5}{fr:Bool}{t:Ty}{x:t.den}{val:Value}(hv:Dn E (.rptr fr t x) val){off:Nat}{u:Ty}{z:u.den}
  (hz:∀ cs,DR E.w (E.ok fr) t cs x→DR E.w (E.ok fr) u ((cs.drop off).take u.size) z∧off+u.size≤t.size) :
  ∃ ad,val=.pointer (some ad)∧Dn E (.rptr fr u z) (.pointer (some (ad.add off))):=by
 obtain⟨ad,vs,h1,h2,h3,h4,h5⟩:=At2 hv
 obtain⟨k1,k2⟩:=hz vs h5
 refine⟨ad,h1,Df (a:=.rptr fr u z) ⟨_,rfl,rfl,ad.add off,_,rfl,?_,fun hp=>?_,fun j y hj=>?_,k1⟩ rfl rfl⟩
 ·obtain⟨b,f,s⟩:=ad
  simp only at h2
  subst h2
  rw[Ch]
 ·rw[Aoo];exact h3 (by omega)
 ·obtain⟨b,f,s⟩:=ad
  simp only at h2
  subst h2
  have e:((⟨b,f,none⟩:Addr).add off).add j=(⟨b,f,none⟩:Addr).add (off+j):=by simp only[Ch,aj3]
  rw[e]
  refine h4 _ y ?_
  rw[af4] at hj
  split at hj
  ·rwa [ai2] at hj
  ·cases hj
theorem Bmq(h:Gd K S used γ a w){T:TypeId}{x:Operand}{n:Nat}(ho:o.op=.fieldAddr T x n)(hx:A1 x=true)(hT:∀ T t,K.G.ty T=some t→U2 K.P t T=true)
  (hl:A6 K.C S.objs (Bc1 (S.eval x) (K.G.ty T) n) [] (v,u) l):Qm K S used γ a w o v u base:=by
 have hv:=Bo h x hx
 unfold Bc1 at hl
 split at hl
 ·rename_i id ai t heq ht
  rw[heq] at hv
  cases hf:N5 t n with
  | false=>rw[hf] at hl;exact hl.elim
  | true =>
   rw[hf] at hl
   obtain⟨fs,f1,f2⟩:=Ba1 (hT T t ht) hf
   obtain⟨f,u',k1,k2,k3,k4,k5,k6⟩:=Apx t 0 fs.toList n f2 hf
   obtain⟨g,off,l1,e1,e2,e3⟩:=Bn4 h hv (q:=[n]) hl k6 ⟨u',k3⟩
   obtain⟨e4,e5⟩:=e2
   simp only[ai9] at e4
   obtain⟨rfl,rfl⟩:=e4
   rw[Adu]
   refine Qm.pure h ?_ e3
   simp only[execOp,ho,e1,ac7,Baq (hT T t ht) hf,ab7,af3,Ch]
 ·rename_i id ab j ai t heq ht
  rw[heq] at hv
  cases hf:N5 t n with
  | false=>rw[hf] at hl;exact hl.elim
  | true =>
   rw[hf] at hl
   obtain⟨fs,f1,f2⟩:=Ba1 (hT T t ht) hf
   obtain⟨f,u',k1,k2,k3,k4,k5,k6⟩:=Apx t 0 fs.toList n f2 hf
   obtain⟨g,off,l1,e1,e2,e3⟩:=Brs h hv (q:=[n]) hl k6 ⟨u',k3⟩
   obtain⟨e4,e5⟩:=e2
   simp only[ai9] at e4
   obtain⟨rfl,rfl⟩:=e4
   rw[Adu]
   refine Qm.pure h ?_ e3
   simp only[execOp,ho,e1,ac7,Baq (hT T t ht) hf,ab7,af3,Ch]
 ·rename_i fr t' x' t heq ht
  rw[heq] at hv
  cases hc:Ty.beq t' t with
  | false=>rw[hc] at hl;exact hl.elim
  | true =>
   rw[hc] at hl
   have e:=Ty.beq_iff.1 hc
   subst e
   simp only[ao8] at hl
   split at hl
   ·rename_i y hy
    obtain⟨u',z,y1,y2,y3⟩:=Bry (E:=A3 K S.objs used γ w) fr t' x' n y hy
    have hf:N5 t' n=true:=by
     have key:∀ (t:Ty) (x:t.den) (n:Nat) (y:AV),Ckx fr t x n=some y→N5 t n=true:=by
      intro t
      induction t with
      | pair a b z7 wq=>intro x n y h;cases n with
       | zero=>rfl
       | succ n=>exact wq x.2 n y h
      | _=>intro x n y h;cases n<;>cases h
     exact key _ _ _ _ hy
    obtain⟨ad,a1,a2⟩:=Bqr hv y3
    obtain⟨e4,e5⟩:=hl
    simp only[ai9] at e4
    obtain⟨rfl,rfl⟩:=e4
    rw[y1]
    refine Qm.pure h ?_ a2
    simp only[execOp,ho,a1,ac7,Baq (hT T t' ht) hf,ab7,af3]
   ·exact hl.elim
 ·exact hl.elim
end
end Go.Pon
namespace Go.Pon
open Go
section
variable {P:Program} (w:World)
theorem Ady{T:TypeId}{t:Ty}(h:U2 P (.slice t) T=true)(ad:Addr)(len cap:Nat)(k:IntKind)(i:Int)(h0:0≤i)(h1:i<len) :
  (Instr.indexAt T (.slice (some ad) len cap) (.int k i)).run P w=.ok (.pointer (some (ad.add (i.toNat*t.size)))) w:=by
 obtain⟨e,h2,h3⟩:=H6 h
 have hs:=Ls w h3
 simp[Instr.indexAt,ab9 h2,asIntOf,h0,h1,hs]
theorem Ad2{T:TypeId}{n:Nat}{t:Ty}(h:U2 P (.arr n t) T=true)(ad:Addr)(k:IntKind)(i:Int)(h0:0≤i)(h1:i<n) :
  (Instr.indexAt T (.pointer (some ad)) (.int k i)).run P w=.ok (.pointer (some (ad.add (i.toNat*t.size)))) w:=by
 obtain⟨e,h2,h3⟩:=Afg h
 have hs:=Ls w h3
 simp[Instr.indexAt,ab9 h2,asIntOf,h0,h1,hs,Instr.sureAddr]
end
section
variable {K:Dg} {S:St} {used:Id→Nat→Prop} {γ:Id→Value} {a:Act} {w:World} {o:Oper} {base:Id} {v:AV} {u:Pm} {l:List Id}
theorem Bwp(n:Nat)(t:Ty)(i:Nat):Bz (.arr n t) [i]=i*t.size:=by simp[Bz,Atz]
theorem Bvy(h:Gd K S used γ a w){id:Id}{ab:Nat}{fr:Bool}{t:Ty}{rows:List t.den}
  (ho:Ak S.objs id=some (.sli ab fr t rows)∨Ak S.objs id=some (.frz ab fr t rows)) (hu:used id ab) {i:Nat} (hi:i<rows.length) {g m cp:Nat}
  (hg:γ id=.slice (some ⟨g,0,none⟩) m cp) :
  Dn (A3 K S.objs used γ w) (.eptr id ab i []) (.pointer (some ⟨g,i*t.size,none⟩)):=by
 refine Df (a:=.eptr id ab i []) ⟨hu,_,rfl,rfl,fun t' n' hs=>?_⟩ rfl rfl
 obtain⟨rfl,rfl⟩:=Bfm (Fp _ ab fr t rows ho) hs
 exact⟨hi,g,m,cp,t,hg,Aoy t,Bfi t,by rw[Atz,af6]⟩
theorem Bnd(h:Gd K S used γ a w){T:TypeId}{x y:Operand}{n:Int}{k:IntKind}(ho:o.op=.indexAddr T x y)(hx:A1 x=true)(hT:∀ T t,K.G.ty T=some t→U2 K.P t T=true)
  (hy:a.eval y=.int k n)
  (hl:A6 K.C S.objs (Bdz (S.eval x) (K.G.ty T) n) [] (v,u) l):Qm K S used γ a w o v u base:=by
 have hv:=Bo h x hx
 have cg:∀ val r y,a.eval x=val→(Instr.indexAt T val (.int k n)).run K.P w=.ok r w→Dn (A3 K S.objs used γ w) y r→(y,[])=(v,u)→Qm K S used γ a w o v u base:=by
  rintro val r y e1 e2 e3 e4
  cases e4
  exact Qm.pure h (by simp[execOp,ho,hy,e1,e2]) e3
 unfold Bdz at hl
 split at hl
 ·-- data
  rename_i fr t x' t' heq hG
  rw[heq] at hv
  cases hc:(Ty.beq t t'&&Nat.blt 0 t.size) with
  | false=>rw[hc] at hl;exact hl.elim
  | true =>
   rw[hc] at hl
   simp only[aa5,at5] at hc
   have e:=Ty.beq_iff.1 hc.1
   subst e
   obtain⟨h1,h2⟩:=C7 hl
   obtain⟨i0,i1,i2⟩:=All h1
   obtain⟨ad,cap,d1,d2,d3,d4,rows,d5,d6⟩:=Bcd (t:=.slice t) rfl hv
   have d1:a.eval x=.slice ad (List.length x') cap:=by simpa using d1
   have ag:=d5.length
   have dr:0<rows.length:=by rw[ag];exact Nat.mul_pos (by omega) hc.2
   obtain⟨mj,e1,e2,e3⟩:=d6 (List.length_pos_iff.1 dr)
   subst e1
   have nv:mj.spot=none:=by
    have:=e3 0 rows[0] (aa6 dr)
    have e0:mj.add 0=mj:=rfl
    rw[e0] at this
    unfold World.cell? at this
    split at this
    ·cases hs:mj.spot with
     | none=>rfl
     | some _=>rw[hs] at this;simp at this
    ·cases this
   obtain⟨g,off,sp⟩:=mj
   simp only at nv
   subst nv
   refine cg _ _ _ d1 (Ady w (hT _ _ hG) _ _ cap k n i0 i1) ?_ h2.1
   have fk:=d5.get n.toNat i2
   rw[Awf i2]
   refine Df (a:=.rptr fr t _) ⟨_,rfl,rfl,_,(rows.drop (n.toNat*t.size)).take t.size,rfl,by rw[Ch],fun hp=>by rw[Aoo];exact e2,fun j z hj=>?_,fk⟩ rfl rfl
   rw[Ch,Ch,aj3]
   have:=e3 (n.toNat*t.size+j) z (by
    rw[af4] at hj
    split at hj
    ·rwa [ai2] at hj
    ·cases hj)
   rwa [Ch] at this
 ·-- an own slice
  rename_i id ab t' heq hG
  rw[heq] at hv
  obtain⟨hu,m9,aq⟩:=Ar5 hv
  obtain⟨ob,ak,hl⟩:=hl
  have key:∀ fr t rows,(ob=.sli ab fr t rows∨ob=.frz ab fr t rows)→t=t'→A6 K.C S.objs (.chk (Cj n (List.length rows)) (.done (.eptr id ab n.toNat [],[]))) [id] (v,u) l→Qm K S used γ a w o v u base:=by
   intro fr t rows df ht hk
   subst ht
   have bz:Ak S.objs id=some (.sli ab fr t rows)∨Ak S.objs id=some (.frz ab fr t rows):=by rcases df with rfl|rfl<;>simp[ak]
   obtain⟨h1,h2⟩:=C7 hk
   obtain⟨i0,i1,i2⟩:=All h1
   have bm:rows≠[]:=by rintro rfl;simp at i2
   obtain⟨g,cp,cs,c1,_,_,c5,c6⟩:=Ay7 h bz bm
   have e:a.eval x=γ id:=aq t _ (Fp _ ab fr t rows bz)
   refine cg _ _ _ (e.trans c1) (Ady w (hT _ _ hG) _ _ cp k n i0 i1) ?_ h2.1
   rw[Ch,af1]
   exact Bvy h bz hu i2 c1
  dsimp only at hl
  split at hl
  ·rename_i af fr t rows
   cases hc:(Nat.beq af ab&&Ty.beq t t') with
   | false=>rw[hc] at hl;exact hl.elim
   | true =>
    rw[hc] at hl
    simp only[aa5,aj9] at hc
    obtain⟨rfl,h2⟩:=hc
    exact key fr t rows (.inl rfl) (Ty.beq_iff.1 h2) hl
  ·rename_i af fr t rows
   cases hc:(Nat.beq af ab&&Ty.beq t t') with
   | false=>rw[hc] at hl;exact hl.elim
   | true =>
    rw[hc] at hl
    simp only[aa5,aj9] at hc
    obtain⟨rfl,h2⟩:=hc
    exact key fr t rows (.inr rfl) (Ty.beq_iff.1 h2) hl
  ·exact hl.elim
 ·-- a part of an own slice
  rename_i id ab lo hi _ t' heq hG
  rw[heq] at hv
  obtain⟨hu,aq⟩:=Bnr hv
  obtain⟨ob,ak,hl⟩:=hl
  have key:∀ fr t rows,(ob=.sli ab fr t rows∨ob=.frz ab fr t rows)→t=t'→A6 K.C S.objs (.chk (Cj n (hi-lo)) (.done (.eptr id ab (lo+n.toNat) [],[]))) [id] (v,u) l→Qm K S used γ a w o v u base:=by
   intro fr t rows df ht hk
   subst ht
   have bz:Ak S.objs id=some (.sli ab fr t rows)∨Ak S.objs id=some (.frz ab fr t rows):=by rcases df with rfl|rfl<;>simp[ak]
   obtain⟨h1,h2⟩:=C7 hk
   obtain⟨i0,i1,i2⟩:=All h1
   obtain⟨v1,v2,ad,c,v3,v4,v5,v6,v7,_⟩:=aq t _ (Fp _ ab fr t rows bz)
   obtain⟨g,m,cp,v8,v9⟩:=v7 (by omega)
   subst v9
   refine cg _ _ _ v3 (Ady w (hT _ _ hG) _ _ c k n i0 i1) ?_ h2.1
   rw[Ch,← ae4]
   exact Bvy h bz hu (by omega) v8
  dsimp only at hl
  split at hl
  ·rename_i af fr t rows
   cases hc:(Nat.beq af ab&&Ty.beq t t') with
   | false=>rw[hc] at hl;exact hl.elim
   | true =>
    rw[hc] at hl
    simp only[aa5,aj9] at hc
    obtain⟨rfl,h2⟩:=hc
    exact key fr t rows (.inl rfl) (Ty.beq_iff.1 h2) hl
  ·rename_i af fr t rows
   cases hc:(Nat.beq af ab&&Ty.beq t t') with
   | false=>rw[hc] at hl;exact hl.elim
   | true =>
    rw[hc] at hl
    simp only[aa5,aj9] at hc
    obtain⟨rfl,h2⟩:=hc
    exact key fr t rows (.inr rfl) (Ty.beq_iff.1 h2) hl
  ·exact hl.elim
 ·-- an array of az4 own
  rename_i id ai m t heq hG
  rw[heq] at hv
  by_cases ir:Cj n m=true
  ·obtain⟨i0,i1,i2⟩:=All ir
   obtain⟨g,off,l1,e1,e2,e3⟩:=Bn4 h hv (q:=[n.toNat]) hl ⟨i2,Bfi t⟩ ⟨t,by simp[La,Aoy]⟩
   obtain⟨_,e4,e5⟩:=C7 e2
   refine cg _ _ _ e1 (Ad2 w (hT _ _ hG) _ k n i0 i1) ?_ e4
   rw[Adu,Ch,← Bwp m t]
   exact e3
  ·exfalso
   obtain⟨ob,ak,hl⟩:=hl
   dsimp only at hl
   split at hl
   all_goals try exact hl.elim
   all_goals
    split at hl
    all_goals try exact hl.elim
    rename_i ww _
    cases hc:Ty.beq ww (.arr m t)<;>rw[hc] at hl
    ·exact hl.elim
    ·exact ir (C7 hl).1
 ·-- an array in an z8
  rename_i id ab j ai m t heq hG
  rw[heq] at hv
  by_cases ir:Cj n m=true
  ·obtain⟨i0,i1,i2⟩:=All ir
   obtain⟨g,off,l1,e1,e2,e3⟩:=Brs h hv (q:=[n.toNat]) hl ⟨i2,Bfi t⟩ ⟨t,by simp[La,Aoy]⟩
   obtain⟨_,e4,e5⟩:=C7 e2
   refine cg _ _ _ e1 (Ad2 w (hT _ _ hG) _ k n i0 i1) ?_ e4
   rw[Adu,Ch,← Bwp m t]
   exact e3
  ·exfalso
   obtain⟨ob,ak,hl⟩:=hl
   dsimp only at hl
   split at hl
   all_goals try exact hl.elim
   all_goals
    split at hl
    all_goals try exact hl.elim
    rename_i ww _ _
    cases hc:Ty.beq ww (.arr m t)<;>rw[hc] at hl
    ·exact hl.elim
    ·exact ir (C7 hl).1
 ·-- an array av6 is read only
  rename_i fr m t x' m' t' heq hG
  rw[heq] at hv
  cases hc:(Nat.beq m m'&&Ty.beq t t') with
  | false=>rw[hc] at hl;exact hl.elim
  | true =>
   rw[hc] at hl
   simp only[aa5,aj9] at hc
   obtain⟨rfl,h2⟩:=hc
   have e:=Ty.beq_iff.1 h2
   subst e
   obtain⟨h1,h2⟩:=C7 hl
   obtain⟨i0,i1,i2⟩:=All h1
   obtain⟨ad,a1,a2⟩:=Bqr (u:=t) (z:=List.getD x' n.toNat t.zero) (off:=n.toNat*t.size) hv (fun cs hd=>by
    have ar:n.toNat<List.length x':=by rw[hd.1];exact i2
    refine⟨by rw[Awf ar];exact hd.2.get n.toNat ar,?_⟩
    show _≤m*t.size
    rw[← Nat.succ_mul];exact ac6 _ i2)
   exact cg _ _ _ a1 (Ad2 w (hT _ _ hG) ad k n i0 i1) a2 h2.1
 ·exact hl.elim
theorem Bz0{n:Nat}(h:n≤maxLen):inK .i64 (n:Int):=by
 simp only[maxLen] at h
 simp only[inK,IntKind.min,IntKind.max,IntKind.signed,IntKind.bits]
 omega
theorem Bbb(h:Gd K S used γ a w){T:TypeId}{x:Operand}{n:Nat}(ho:o.op=.call { callee:=.builtin .len,args:=#[x],argTypes:=#[T] })
  (ag:(Builtin.len_ #[T] o.type #[a.eval x]).run K.P w=.ok (goInt n) w) (hn:n≤maxLen):Qm K S used γ a w o (Ur .i64 n) [] base:=by
 refine Qm.pure h ?_ (Gs _ (Bz0 hn))
 simp only[execOp,ho,resolve,invoke,builtin,ac7,af3,ab7,ao2,ae5,ak0,ag]
 rfl
theorem Zs{P:Program}{T:TypeId}{t:Ty}(h:U2 P (.slice t) T=true)(ty:TypeId)(ad:Option Addr)(n c:Nat):(Builtin.len_ #[T] ty #[.slice ad n c]).run P w=.ok (goInt n) w:=by
 obtain⟨e,h2,h3⟩:=H6 h
 simp[Builtin.len_,ab9 h2]
theorem Bud{P:Program}{T:TypeId}(h:U2 P .str T=true)(ty:TypeId)(s:ByteArray):(Builtin.len_ #[T] ty #[.string s]).run P w=.ok (goInt s.size) w:=by
 simp[Builtin.len_,ab9 (Akg h)]
theorem Bax(h:Gd K S used γ a w){id:Id}{ab:Nat}{fr:Bool}{t:Ty}{rows:List t.den}
  (ho:Ak S.objs id=some (.sli ab fr t rows)∨Ak S.objs id=some (.frz ab fr t rows)) :
  ∃ ad cap,γ id=.slice ad rows.length cap∧rows.length≤cap∧cap≤maxLen∧(ad=none→cap=0):=by
 rcases ho with ho|ho
 ·rcases h.objs id _ ho with⟨h1,h2⟩ | ⟨g,cap,cur,e,h1,h2,h3,h4,_⟩
  ·exact⟨none,0,by rw[h2];exact h1,Nat.le_of_eq (by rw[h2];rfl),ac2 _,fun _=>rfl⟩
  ·exact⟨_,cap,h1,h3,h4,fun e=>by cases e⟩
 ·obtain⟨⟨ad,cap,h1,h2,h3,h4,_⟩,_⟩:=h.objs id _ ho
  exact⟨ad,cap,by have:[γ id]=_:=h1;simpa using this,h2,h3,h4⟩
theorem Chn(h:Gd K S used γ a w){T:TypeId}{x:Operand}(ho:o.op=.call { callee:=.builtin .len,args:=#[x],argTypes:=#[T] })(hx:A1 x=true)
  (hT:∀ T t,K.G.ty T=some t→U2 K.P t T=true)
  (hl:A6 K.C S.objs (Cmi (S.eval x) (K.G.ty T) fun n=>.done (Ur .i64 n,[])) [] (v,u) l):Qm K S used γ a w o v u base:=by
 have hv:=Bo h x hx
 unfold Cmi at hl
 split at hl
 ·rename_i fr t x' t' heq hG
  rw[heq] at hv
  obtain⟨ad,cap,d1,d2,d3,_⟩:=Bcd (t:=.slice t) rfl hv
  have d1:a.eval x=.slice ad (List.length x') cap:=by simpa using d1
  cases hl.1
  exact Bbb h ho (by rw[d1];exact Zs (hT _ _ hG) _ _ _ _) (by omega)
 ·rename_i fr x' heq hG
  rw[heq] at hv
  obtain⟨s,d1,d2,d3⟩:=Bcd (t:=.str) rfl hv
  have d1:a.eval x=.string s:=by simpa using d1
  cases hl.1
  have ag:List.length x'=s.size:=by rw[d2,ag7];rfl
  exact Bbb h ho (by rw[d1,ag];exact Bud (hT _ _ hG) _ _) (by rw[ag];exact d3)
 ·rename_i t' heq hG
  rw[heq] at hv
  obtain⟨d1,_⟩:=Tv (x:=.nils) rfl (by simp) (by simp) (by simp) hv
  have d1:a.eval x=.slice none 0 0:=by have:[a.eval x]=_:=d1;simpa using this
  cases hl.1
  exact Bbb h ho (n:=0) (by rw[d1];exact Zs (hT _ _ hG) _ _ _ _) (ac2 _)
 ·rename_i id ab t' heq hG
  rw[heq] at hv
  obtain⟨hu,m9,aq⟩:=Ar5 hv
  obtain⟨ob,ak,hl⟩:=hl
  have key:∀ fr t rows,(ob=.sli ab fr t rows∨ob=.frz ab fr t rows)→(Ur .i64 (List.length rows),[])=(v,u)→Qm K S used γ a w o v u base:=by
   intro fr t rows df e
   cases e
   have bz:Ak S.objs id=some (.sli ab fr t rows)∨Ak S.objs id=some (.frz ab fr t rows):=by rcases df with rfl|rfl<;>simp[ak]
   obtain⟨ad,cap,c1,c2,c3,_⟩:=Bax h bz
   have e:a.eval x=γ id:=aq t _ (Fp _ ab fr t rows bz)
   exact Bbb h ho (by rw[e,c1];exact Zs (hT _ _ hG) _ _ _ _) (by omega)
  dsimp only at hl
  split at hl
  ·rename_i af fr t rows
   cases hc:Nat.beq af ab with
   | false=>rw[hc] at hl;exact hl.elim
   | true =>
    rw[hc] at hl
    have hc:=ab1 hc
    subst hc
    exact key fr t rows (.inl rfl) hl.1
  ·rename_i af fr t rows
   cases hc:Nat.beq af ab with
   | false=>rw[hc] at hl;exact hl.elim
   | true =>
    rw[hc] at hl
    have hc:=ab1 hc
    subst hc
    exact key fr t rows (.inr rfl) hl.1
  ·exact hl.elim
 ·rename_i id ab lo hi _ t' heq hG
  rw[heq] at hv
  obtain⟨hu,aq⟩:=Bnr hv
  obtain⟨ob,ak,hl⟩:=hl
  have key:∀ fr t rows,(ob=.sli ab fr t rows∨ob=.frz ab fr t rows)→(Ur .i64 ((hi-lo:Nat):Int),[])=(v,u)→Qm K S used γ a w o v u base:=by
   intro fr t rows df e
   cases e
   have bz:Ak S.objs id=some (.sli ab fr t rows)∨Ak S.objs id=some (.frz ab fr t rows):=by rcases df with rfl|rfl<;>simp[ak]
   obtain⟨v1,v2,ad,c,v3,v4,v5,_⟩:=aq t _ (Fp _ ab fr t rows bz)
   exact Bbb h ho (by rw[v3];exact Zs (hT _ _ hG) _ _ _ _) (by omega)
  dsimp only at hl
  split at hl
  ·rename_i af fr t rows
   cases hc:Nat.beq af ab with
   | false=>rw[hc] at hl;exact hl.elim
   | true =>
    rw[hc] at hl
    have hc:=ab1 hc
    subst hc
    exact key fr t rows (.inl rfl) hl.1
  ·rename_i af fr t rows
   cases hc:Nat.beq af ab with
   | false=>rw[hc] at hl;exact hl.elim
   | true =>
    rw[hc] at hl
    have hc:=ab1 hc
    subst hc
    exact key fr t rows (.inr rfl) hl.1
  ·exact hl.elim
 ·rename_i id ai lo hi t' heq hG
  rw[heq] at hv
  obtain⟨hu,aq⟩:=Ccx hv
  obtain⟨ob,ak,hl⟩:=hl
  have key:∀ fr t c,(ob=.mem fr t c∨ob=.mfz fr t c)→(Ur .i64 ((hi-lo:Nat):Int),[])=(v,u)→Qm K S used γ a w o v u base:=by
   intro fr t c df e
   cases e
   have bz:Ak S.objs id=some (.mem fr t c)∨Ak S.objs id=some (.mfz fr t c):=by rcases df with rfl|rfl<;>simp[ak]
   obtain⟨g,n,uu,v1,v2,v3,v4,v5,ad,c',v6,v7,v8,_⟩:=aq t (Aa2 _ fr t c bz)
   exact Bbb h ho (by rw[v6];exact Zs (hT _ _ hG) _ _ _ _) (by omega)
  dsimp only at hl
  split at hl
  ·exact key _ _ _ (.inl rfl) hl.1
  ·exact key _ _ _ (.inr rfl) hl.1
  ·exact hl.elim
 ·exact hl.elim
end
end Go.Pon
namespace Go.Pon
open Go
def bnd(v:Option Value)(wy:Nat)(n:Nat):Prop:=(v=none∧n=wy)∨∃ k,v=some (.int k n)
def Cnb(m h:Option Value)(cap hi M:Nat):Prop:=(m=none∧M=cap)∨((∃ k,m=some (.int k hi))∧(∃ k,h=some (.int k hi))∧M=hi)
theorem Bw6{P:Program}(w:World)(isS:Bool){len cap lo hi M:Nat}{l h m:Option Value}(hl:bnd l 0 lo)(hh:bnd h len hi)(h1:lo≤hi)(h2:hi≤cap)(hm:Cnb m h cap hi M) :
  (Instr.sliceBounds isS len cap l h m).run P w=.ok (lo,hi,M) w:=by
 have c1:(lo:Int)≤hi:=by omega
 have c2:(hi:Int)≤cap:=by omega
 rcases hm with⟨rfl,rfl⟩ | ⟨⟨k3,rfl⟩,⟨k4,rfl⟩,rfl⟩
 ·rcases hl with⟨rfl,rfl⟩ | ⟨k,rfl⟩<;>rcases hh with⟨rfl,rfl⟩ | ⟨k',rfl⟩ <;>
   simp[Instr.sliceBounds,Instr.sliceBound,asIntOf,h1,h2]<;>omega
 ·rcases hl with⟨rfl,rfl⟩ | ⟨k,rfl⟩ <;>
   simp[Instr.sliceBounds,Instr.sliceBound,asIntOf,h1,h2]<;>omega
theorem Av7{P:Program}(w:World)(isS:Bool){len cap lo hi:Nat}{l h:Option Value}(hl:bnd l 0 lo)(hh:bnd h len hi)(h1:lo≤hi)(h2:hi≤cap) :
  (Instr.sliceBounds isS len cap l h none).run P w=.ok (lo,hi,cap) w:=by
 have c1:(lo:Int)≤hi:=by omega
 have c2:(hi:Int)≤cap:=by omega
 rcases hl with⟨rfl,rfl⟩ | ⟨k,rfl⟩<;>rcases hh with⟨rfl,rfl⟩ | ⟨k',rfl⟩ <;>
  simp[Instr.sliceBounds,Instr.sliceBound,asIntOf,h1,h2]<;>omega
theorem Ap8{C:Gi}{objs:Pm}{n:Nat}{lo hi:Option Int}{k:Nat→Nat→OpV}{l0 l:List Id}{r:AV×Pm}(h:A6 C objs (Bii n lo hi k) l0 r l) :
  ∃ a b:Nat,a≤b∧b≤n∧((lo=none∧a=0)∨lo=some (a:Int))∧((hi=none∧b=n)∨hi=some (b:Int))∧A6 C objs (k a b) l0 r l:=by
 unfold Bii at h
 split at h
 ·exact⟨0,n,ac2 _,ab4 _,.inl ⟨rfl,rfl⟩,.inl ⟨rfl,rfl⟩,h⟩
 ·rename_i i
  obtain⟨h1,h2⟩:=C7 h
  simp only[aa5,ac4] at h1
  exact⟨i.toNat,n,by omega,ab4 _,.inr (by congr 1;omega),.inl ⟨rfl,rfl⟩,h2⟩
 ·rename_i i
  obtain⟨h1,h2⟩:=C7 h
  simp only[aa5,ac4] at h1
  exact⟨0,i.toNat,ac2 _,by omega,.inl ⟨rfl,rfl⟩,.inr (by congr 1;omega),h2⟩
 ·rename_i i j
  obtain⟨h1,h2⟩:=C7 h
  simp only[aa5,ac4] at h1
  exact⟨i.toNat,j.toNat,by omega,by omega,.inr (by congr 1;omega),.inr (by congr 1;omega),h2⟩
theorem Bee{w:World}{ad:Addr}{v:Value}(h:w.cell? ad=some v):ad.spot=none:=by
 unfold World.cell? at h
 split at h
 ·cases hs:ad.spot with
  | none=>rfl
  | some _=>rw[hs] at h;simp at h
 ·cases h
theorem Bma{ad:Addr}(h:ad.spot=none)(i j:Nat):(ad.add i).add j=ad.add (i+j):=by
 obtain⟨g,off,s⟩:=ad
 simp only at h
 subst h
 simp only[Ch,aj3]
theorem DR.cut{w:World}{ok:Nat→Prop}{t:Ty}{ad:Option Addr}{cap lo hi M:Nat}{x:List t.den}(h:DR w ok (.slice t) [.slice ad x.length cap] x)(h1:lo≤hi)(h2:hi≤x.length)(hM1:hi≤M)(hM2:M≤cap) :
  DR w ok (.slice t) [.slice (if M=lo then ad else ad.map (·.add (lo*t.size))) (hi-lo) (M-lo)] ((x.drop lo).take (hi-lo)):=by
 obtain⟨mj,qz,d1,d2,d3,d4,rows,d5,d6⟩:=h
 have e1:mj=ad∧qz=cap:=by
  have:Value.slice ad x.length cap=.slice mj x.length qz:=by simpa using d1
  cases this
  exact⟨rfl,rfl⟩
 obtain⟨rfl,rfl⟩:=e1
 have hl:((x.drop lo).take (hi-lo)).length=hi-lo:=by simp;omega
 refine⟨_,M-lo,by rw[hl],by rw[hl];omega,by omega,fun hn=>?_,(rows.drop (lo*t.size)).take ((hi-lo)*t.size),(d5.drop lo).take (hi-lo),fun bm=>?_⟩
 ·by_cases hc:M=lo
  ·omega
  ·rw[aa1 hc] at hn
   cases mj with
   | none=>have:=d4 rfl;omega
   | some _=>cases hn
 ·have hr:rows≠[]:=by rintro rfl;simp at bm
  obtain⟨z9,e1,e2,e3⟩:=d6 hr
  subst e1
  have ar:lo<hi:=by
   rcases ad3 lo hi with h|h
   ·exact h
   ·rw[show hi-lo=0 by omega] at bm;simp at bm
  have hc:M≠lo:=by omega
  have nv:z9.spot=none:=by
   have hp:0<rows.length:=List.length_pos_iff.2 hr
   exact Bee (e3 0 rows[0] (aa6 hp))
  refine⟨z9.add (lo*t.size),by rw[aa1 hc];rfl,by rw[Aoo];exact e2,fun j v hj=>?_⟩
  rw[Bma nv]
  refine e3 _ v ?_
  rw[af4] at hj
  split at hj
  ·rwa [ai2] at hj
  ·cases hj
section
variable {K:Dg} {S:St} {used:Id→Nat→Prop} {γ:Id→Value} {a:Act} {w:World} {o:Oper} {base:Id} {v:AV} {u:Pm} {l:List Id}
theorem Gb(h:Gd K S used γ a w){lo:Option Operand}{i:Option Int}{n d:Nat}(hc:∀ x,lo=some x→A1 x=true)(hr:Jh (lo.map S.eval)=some i)
  (hi:(i=none∧n=d)∨i=some (n:Int)):bnd (lo.map a.eval) d n:=by
 cases lo with
 | none =>
  simp only[Option.map_none,Jh,ak5] at hr
  subst hr
  rcases hi with⟨_,rfl⟩|hi
  ·exact .inl ⟨rfl,rfl⟩
  ·cases hi
 | some x =>
  simp only[am2,Jh] at hr
  split at hr
  ·rename_i k n' hk
   cases hr
   rcases hi with⟨hi,_⟩|hi
   ·cases hi
   ·cases hi
    obtain⟨e,_⟩:=Ge hk (Bo h x (hc x rfl))
    exact .inr ⟨k,by simp[e]⟩
  ·cases hr
theorem Blu(h:Gd K S used γ a w){T:TypeId}{x:Operand}{lo hi:Option Operand}{mx:Option Operand}{i j m:Option Int}(ho:o.op=.slice T x lo hi mx)(hx:A1 x=true)
  (fv:∀ x,lo=some x→A1 x=true) (lf:∀ x,hi=some x→A1 x=true) (nw:Jh (lo.map S.eval)=some i) (na:Jh (hi.map S.eval)=some j)
  (vl:∀ x,mx=some x→A1 x=true) (kh:Jh (mx.map S.eval)=some m) (hm3:m=none∨(m=j∧∃ t,K.G.ty T=some (.slice t)))
  (hT:∀ T t,K.G.ty T=some t→U2 K.P t T=true) {cp:Bool} (hcp:cp=true→m≠none)
  (hl:A6 K.C S.objs (Bs8 (S.eval x) (K.G.ty T) i j cp) [] (v,u) l):Qm K S used γ a w o v u base:=by
 have hv:=Bo h x hx
 have cg:∀ val r y,a.eval x=val→(Instr.sliceAt T val (lo.map a.eval) (hi.map a.eval) (mx.map a.eval)).run K.P w=.ok r w→Dn (A3 K S.objs used γ w) y r→(y,[])=(v,u)→Qm K S used γ a w o v u base:=by
  rintro val r y e1 e2 e3 e4
  cases e4
  exact Qm.pure h (by simp[execOp,ho,e1,e2]) e3
 have lg:∀ (d q cap:Nat),((j=none∧q=d)∨j=some (q:Int))→(∃ M,Cnb (mx.map a.eval) (hi.map a.eval) cap q M∧(M=cap∨M=q)∧(cp=true→M=q)):=by
  intro d q cap hj
  rcases hm3 with hm | ⟨rfl,_⟩
  ·subst hm
   cases mx with
   | none=>exact⟨cap,.inl ⟨rfl,rfl⟩,.inl rfl,fun hc=>absurd rfl (hcp hc)⟩
   | some z =>
    simp only[am2,Jh] at kh
    split at kh<;>cases kh
  ·cases mx with
   | none=>exact⟨cap,.inl ⟨rfl,rfl⟩,.inl rfl,fun hc=>absurd (by simpa [Jh] using kh.symm) (hcp hc)⟩
   | some z =>
    simp only[am2,Jh] at kh
    split at kh
    ·rename_i k3 n3 e3
     cases kh
     rcases hj with⟨hj,_⟩|hj
     ·cases hj
     ·cases hj
      obtain⟨e,_⟩:=Ge e3 (Bo h z (vl z rfl))
      rcases Gb h lf na (d:=d) (n:=q) (.inr rfl) with⟨hn,_⟩|hb
      ·cases hi with
       | none=>simp only[Option.map_none,Jh] at na;cases na
       | some _=>cases hn
      ·exact⟨q,.inr ⟨⟨k3,by simp[e]⟩,hb,rfl⟩,.inr rfl,fun _=>rfl⟩
    ·cases kh
 have ki:(∀ t,K.G.ty T≠some (.slice t))→mx=none:=by
  intro hn
  rcases hm3 with hm | ⟨_,t,ht⟩
  ·subst hm
   cases mx with
   | none=>rfl
   | some z =>
    simp only[am2,Jh] at kh
    split at kh<;>cases kh
  ·exact absurd ht (hn t)
 have lh:∀ (t:Ty) (ad:Option Addr) (len cap p q M:Nat),U2 K.P (.slice t) T=true→bnd (lo.map a.eval) 0 p→bnd (hi.map a.eval) len q→Cnb (mx.map a.eval) (hi.map a.eval) cap q M→p≤q→q≤cap →
   (Instr.sliceAt T (.slice ad len cap) (lo.map a.eval) (hi.map a.eval) (mx.map a.eval)).run K.P w=.ok (.slice (if M=p then ad else ad.map (·.add (p*t.size))) (q-p) (M-p)) w:=by
  intro t ad len cap p q M ht b1 b2 b3 h1 h2
  obtain⟨e,k1,k2⟩:=H6 ht
  have hs:=Ls w k2
  have hb:=Bw6 (P:=K.P) w true b1 b2 h1 h2 b3
  simp[Instr.sliceAt,ab9 k1,Instr.slice,hb,hs]
 unfold Bs8 at hl
 split at hl
 ·rename_i fr t x' t' heq hG
  rw[heq] at hv
  cases hc:Ty.beq t t' with
  | false=>rw[hc] at hl;exact hl.elim
  | true =>
   rw[hc] at hl
   have e:=Ty.beq_iff.1 hc
   subst e
   simp only[ao8] at hl
   obtain⟨p,q,c1,c2,c3,c4,c5⟩:=Ap8 hl
   have hd:=Bcd (t:=.slice t) rfl hv
   obtain⟨ad,cap,d1,d2,d3,d4,rows,d5,d6⟩:=hd
   have d1:a.eval x=.slice ad (List.length x') cap:=by simpa using d1
   have hd:DR _ _ (.slice t) [a.eval x] x':=Bcd (t:=.slice t) rfl hv
   rw[d1] at hd
   obtain⟨M,m1,m2,m3⟩:=lg _ q cap c4
   refine cg _ _ _ d1 (lh t ad _ cap p q M (hT _ _ hG) (Gb h fv nw c3) (Gb h lf na c4) m1 c1 (by omega)) ?_ c5.1
   exact Df (a:=.d fr (.slice t) _) (DR.cut hd c1 c2 (by omega) (by omega)) rfl rfl
 ·rename_i fr x' heq hG
  rw[heq] at hv
  obtain⟨p,q,c1,c2,c3,c4,c5⟩:=Ap8 hl
  obtain rfl:=ki fun t ht=>by rw[hG] at ht;cases ht
  obtain⟨s,d1,d2,d3⟩:=Bcd (t:=.str) rfl hv
  have d1:a.eval x=.string s:=by simpa using d1
  have ag:List.length x'=s.size:=by rw[d2,ag7];rfl
  have hb:=Av7 (P:=K.P) w false (len:=s.size) (cap:=s.size) (Gb h fv nw c3) (Gb h lf na (by rw[← ag];exact c4)) c1 (by omega)
  refine cg _ (.string (s.extract p q)) _ d1 ?_ ?_ c5.1
  ·simp[Instr.sliceAt,ab9 (Akg (hT _ _ hG)),Instr.slice,hb]
  ·refine Df (a:=.d true .str _) ⟨s.extract p q,rfl,?_,?_⟩ rfl rfl
   ·rw[d2,ByteArray.data_extract,Array.toList_extract,List.extract_eq_take_drop,List.map_take,List.map_drop]
   ·have:(s.extract p q).size≤s.size:=by
     show (s.extract p q).data.size≤s.data.size
     rw[ByteArray.data_extract,Array.size_extract];omega
    omega
 ·rename_i id ab t' heq hG
  rw[heq] at hv
  obtain⟨hu,m9,aq⟩:=Ar5 hv
  obtain⟨ob,ak,hl⟩:=hl
  have key:∀ fr t rows,(ob=.sli ab fr t rows∨ob=.frz ab fr t rows)→t=t'→A6 K.C S.objs (Bii (List.length rows) i j fun a b=>.done (.view id ab a b cp,[])) [id] (v,u) l→Qm K S used γ a w o v u base:=by
   intro fr t rows df ht hk
   subst ht
   have bz:Ak S.objs id=some (.sli ab fr t rows)∨Ak S.objs id=some (.frz ab fr t rows):=by rcases df with rfl|rfl<;>simp[ak]
   obtain⟨p,q,c1,c2,c3,c4,c5⟩:=Ap8 hk
   obtain⟨ad,cap,k1,k2,k3,k4⟩:=Bax h bz
   have e:a.eval x=γ id:=aq t _ (Fp _ ab fr t rows bz)
   obtain⟨M,m1,m2,m3⟩:=lg _ q cap c4
   refine cg _ _ _ (e.trans k1) (lh t ad _ cap p q M (hT _ _ hG) (Gb h fv nw c3) (Gb h lf na c4) m1 c1 (by omega)) ?_ c5.1
   refine Df (a:=.view id ab p q cp) ⟨hu,_,rfl,rfl,fun t' n' hs=>?_⟩ rfl rfl
   obtain⟨rfl,rfl⟩:=Bfm (Fp _ ab fr t rows bz) hs
   refine⟨c1,c2,_,_,rfl,by omega,by omega,fun hn=>?_,fun ar=>?_,fun hc=>by have:=m3 hc;omega⟩
   ·by_cases hc:M=p
    ·omega
    ·rw[aa1 hc] at hn
     cases ad with
     | none=>have:=k4 rfl;omega
     | some _=>cases hn
   ·have bm:rows≠[]:=by rintro rfl;simp at c2;omega
    obtain⟨g,cp,cs,s1,_⟩:=Ay7 h bz bm
    refine⟨g,_,cp,s1,?_⟩
    rw[k1] at s1
    cases s1
    rw[aa1 (by omega)]
    simp[Ch]
  dsimp only at hl
  split at hl
  ·rename_i af fr t rows
   cases hc:(Nat.beq af ab&&Ty.beq t t') with
   | false=>rw[hc] at hl;exact hl.elim
   | true =>
    rw[hc] at hl
    simp only[aa5,aj9] at hc
    obtain⟨rfl,h2⟩:=hc
    exact key fr t rows (.inl rfl) (Ty.beq_iff.1 h2) hl
  ·rename_i af fr t rows
   cases hc:(Nat.beq af ab&&Ty.beq t t') with
   | false=>rw[hc] at hl;exact hl.elim
   | true =>
    rw[hc] at hl
    simp only[aa5,aj9] at hc
    obtain⟨rfl,h2⟩:=hc
    exact key fr t rows (.inr rfl) (Ty.beq_iff.1 h2) hl
  ·exact hl.elim
 ·rename_i id ai n t heq hG
  rw[heq] at hv
  cases hc:Nat.ble n 9223372036854775807 with
  | false=>rw[hc] at hl;exact hl.elim
  | true =>
   rw[hc] at hl
   have tk:n≤maxLen:=by have:=ao4 hc;simp only[maxLen];omega
   obtain⟨g,off,l1,e1,e2,e3⟩:=Bn4 h hv (q:=[]) hl (Bfi _) ⟨_,Aoy _⟩
   obtain⟨p,q,c1,c2,c3,c4,c5⟩:=Ap8 e2
   obtain⟨e,k1,k2⟩:=Afg (hT _ _ hG)
   obtain rfl:=ki fun t ht=>by rw[hG] at ht;cases ht
   have hs:=Ls w k2
   have hb:=Av7 (P:=K.P) w false (Gb h fv nw c3) (Gb h lf na c4) c1 c2
   refine cg _ (.slice (some (if n=p then ⟨g,off,none⟩ else (⟨g,off,none⟩:Addr).add (p*t.size))) (q-p) (n-p)) _ e1 ?_ ?_ c5.1
   ·simp[Instr.sliceAt,ab9 k1,Instr.sureAddr,hb,hs]
   ·obtain⟨hu,hp⟩:=Abe hv
    obtain⟨hu',qn⟩:=Abe e3
    refine Df (a:=.mview id ai p q) ⟨hu,_,rfl,rfl,fun t' gn=>?_⟩ rfl rfl
    obtain⟨g',u',q1,q2,q3,q4⟩:=hp t' gn
    rw[e1] at q4
    obtain⟨rfl,rfl⟩:g=g'∧off=Bz t' ai:=by cases q4;exact⟨rfl,rfl⟩
    have hu2:u'=.arr n t:=by
     obtain⟨ob,ak,hl⟩:=hl
     obtain⟨wx,c2,h2⟩:=gn
     have h2:Ak S.objs id=some (.mem wx t' c2)∨Ak S.objs id=some (.mfz wx t' c2):=h2
     dsimp only at hl
     rcases h2 with h2|h2
     all_goals
      rw[h2] at ak
      cases ak
      dsimp only at hl
      rw[q2] at hl
      dsimp only at hl
      cases jr:Ty.beq u' (.arr n t) with
      | false=>rw[jr] at hl;exact hl.elim
      | true=>exact Ty.beq_iff.1 jr
    subst hu2
    refine⟨g,n,t,q1,q2,q3,c1,c2,_,_,rfl,by omega,by omega,fun ar=>?_⟩
    rw[aa1 (by omega),Ch]
 ·rename_i id ab x0 y0 _ t' heq hG
  rw[heq] at hv
  obtain⟨hu,hp⟩:=Bnr hv
  obtain⟨ob,ak,hl⟩:=hl
  have key:∀ fr t rows,(ob=.sli ab fr t rows∨ob=.frz ab fr t rows)→t=t'→A6 K.C S.objs (Bii (y0-x0) i j fun a b=>.done (.view id ab (x0+a) (x0+b) cp,[])) [id] (v,u) l→Qm K S used γ a w o v u base:=by
   intro fr t rows df ht hk
   subst ht
   have bz:Ak S.objs id=some (.sli ab fr t rows)∨Ak S.objs id=some (.frz ab fr t rows):=by rcases df with rfl|rfl<;>simp[ak]
   obtain⟨p,q,c1,c2,c3,c4,c5⟩:=Ap8 hk
   obtain⟨v1,v2,ad,cap,v3,v4,v5,v6,v7,_⟩:=hp t _ (Fp _ ab fr t rows bz)
   obtain⟨M,m1,m2,m3⟩:=lg _ q cap c4
   refine cg _ _ _ v3 (lh t ad _ cap p q M (hT _ _ hG) (Gb h fv nw c3) (Gb h lf na c4) m1 c1 (by omega)) ?_ c5.1
   refine Df (a:=.view id ab (x0+p) (x0+q) cp) ⟨hu,_,rfl,rfl,fun t' n' hs=>?_⟩ rfl rfl
   obtain⟨rfl,rfl⟩:=Bfm (Fp _ ab fr t rows bz) hs
   refine⟨by omega,by omega,_,_,by rw[show x0+q-(x0+p)=q-p by omega],by omega,by omega,fun hn=>?_,fun ar=>?_,fun hc=>by have:=m3 hc;omega⟩
   ·by_cases hc:M=p
    ·omega
    ·rw[aa1 hc] at hn
     cases ad with
     | none=>have:=v6 rfl;omega
     | some _=>cases hn
   ·obtain⟨g,m',cp,s1,s2⟩:=v7 (by omega)
    refine⟨g,m',cp,s1,?_⟩
    subst s2
    rw[aa1 (by omega)]
    simp only[am2,Ch,ae4]
  dsimp only at hl
  split at hl
  ·rename_i af fr t rows
   cases hc:(Nat.beq af ab&&Ty.beq t t') with
   | false=>rw[hc] at hl;exact hl.elim
   | true =>
    rw[hc] at hl
    simp only[aa5,aj9] at hc
    obtain⟨rfl,h2⟩:=hc
    exact key fr t rows (.inl rfl) (Ty.beq_iff.1 h2) hl
  ·rename_i af fr t rows
   cases hc:(Nat.beq af ab&&Ty.beq t t') with
   | false=>rw[hc] at hl;exact hl.elim
   | true =>
    rw[hc] at hl
    simp only[aa5,aj9] at hc
    obtain⟨rfl,h2⟩:=hc
    exact key fr t rows (.inr rfl) (Ty.beq_iff.1 h2) hl
  ·exact hl.elim
 ·rename_i t' heq hG
  rw[heq] at hv
  have aq:a.eval x=.slice none 0 0:=by
   obtain⟨k1,k2⟩:=(show Ev _ .nils _ from hv)
   rw[Bm k2.symm] at k1
   simpa [ARc] using k1
  obtain⟨p,q,c1,c2,c3,c4,c5⟩:=Ap8 hl
  obtain⟨M,m1,m2,m3⟩:=lg _ q 0 c4
  obtain rfl:q=0:=by omega
  obtain rfl:p=0:=by omega
  obtain rfl:M=0:=by omega
  have hr:=lh t' none 0 0 0 0 0 (hT _ _ hG) (Gb h fv nw c3) (Gb h lf na c4) m1 (ab4 _) (ab4 _)
  refine cg _ _ _ aq hr ?_ c5.1
  exact Df (a:=.nils) rfl rfl rfl
 ·rename_i fr n t x' m t' heq hG
  rw[heq] at hv
  cases hc:((Nat.beq n m&&Ty.beq t t')&&Nat.ble n 9223372036854775807) with
  | false=>rw[hc] at hl;exact hl.elim
  | true =>
   rw[hc] at hl
   simp only[aa5,aj9] at hc
   obtain⟨⟨rfl,ht⟩,tk⟩:=hc
   obtain rfl:=Ty.beq_iff.1 ht
   have tk:n≤maxLen:=by have:=ao4 tk;simp only[maxLen];omega
   simp only[ao8] at hl
   obtain⟨p,q,c1,c2,c3,c4,c5⟩:=Ap8 hl
   obtain⟨ad,vs,d1,d2,d3,d4,d5,d6⟩:=At2 hv
   obtain⟨e,k1,k2⟩:=Afg (hT _ _ hG)
   obtain rfl:=ki fun t ht=>by rw[hG] at ht;cases ht
   have hs:=Ls w k2
   have hb:=Av7 (P:=K.P) w false (Gb h fv nw c3) (Gb h lf na c4) c1 c2
   have hd:DR (A3 K S.objs used γ w).w ((A3 K S.objs used γ w).ok fr) (.slice t) [.slice (some ad) (List.length x') n] x':=by
    refine⟨some ad,n,rfl,by omega,tk,(by intro hn;cases hn),vs,d6,fun bm=>⟨ad,rfl,d3 ?_,d4⟩⟩
    have db:=B7.length d6
    rw[d5] at db
    have:vs.length≠0:=by simpa using bm
    simp only[Ty.size]
    omega
   refine cg _ (.slice (if n=p then some ad else (some ad).map (·.add (p*t.size))) (q-p) (n-p)) _ d1 ?_ ?_ c5.1
   ·by_cases vm:n=p
    ·simp[Instr.sliceAt,ab9 k1,Instr.sureAddr,hb,hs]
     rw[aa0 vm,aa0 vm]
    ·simp[Instr.sliceAt,ab9 k1,Instr.sureAddr,hb,hs]
     rw[aa1 vm,aa1 vm]
   ·exact Df (a:=.d fr (.slice t) _) (DR.cut hd c1 (by omega) (by omega) (by omega)) rfl rfl
 ·exact hl.elim
end
end Go.Pon
namespace Go.Pon
open Go
theorem Btu{α:Type}{e:α→α→Bool}:∀ {l m:List α},(∀ a∈l,∀ b,e a b=true↔a=b)→(eqL e l m=true↔l=m)
 | [],[],_=>by simp[eqL]
 | [],_::_,_=>by simp[eqL]
 | _::_,[],_=>by simp[eqL]
 | a::l,b::m,h=>by
  simp only[eqL,aa5,ao9]
  rw[h a (by simp),Btu fun a ha=>h a (by simp[ha])]
theorem J6:∀ {t:Ty} {x y:t.den},Yu t x y=true↔x=y
 | .unit,x,y=>by simp[Yu]
 | .pair a b,x,y=>by
  simp only[Yu,aa5,J6 (t:=a),J6 (t:=b)]
  exact Prod.ext_iff.symm
 | .int _,x,y=>by simp[Yu]
 | .bool,x,y=>by simp[Yu]
 | .str,x,y=>by simp[Yu]
 | .arr _ t,x,y=>Btu fun a _ b=>J6 (t:=t)
 | .slice t,x,y=>Btu fun a _ b=>J6 (t:=t)
 | .ptr,x,y=>by simp[Yu]
section
variable {P:Program} {w:World}
theorem Aom{T:TypeId}{t:Ty}(h:U2 P t T=true){xs:Array Value}{off:Nat}{c:List Value}(hc:(xs.toList.drop off).take t.size=c)(hl:c.length=t.size)(h1:t.agg=false→∀ v∈c,Ck v=false) :
  ∃ v,(part T xs off).run P w=.ok v w∧v.cells.toList=c∧Ck v=t.agg:=by
 cases hg:t.agg with
 | true =>
  refine⟨.agg (xs.extract off (off+t.size)),?_,?_,rfl⟩
  ·simp[part,Bd5 w h,hg,Ls w h]
  ·show (xs.extract off (off+t.size)).toList=c
   rw[Array.toList_extract,List.extract_eq_take_drop,← hc]
   congr 1;omega
 | false =>
  rw[N4 hg] at hc hl
  obtain⟨v,rfl⟩:∃ v,c=[v]:=by
   cases c with
   | nil=>simp at hl
   | cons v r=>cases r with
    | nil=>exact⟨v,rfl⟩
    | cons _ _=>simp at hl
  have hv:xs[off]?=some v:=by
   have h2:((xs.toList.drop off).take 1)[0]?=some v:=by rw[hc];rfl
   rw[af4] at h2
   simpa using h2
  have m9:=h1 hg v (by simp)
  exact⟨v,by simp[part,Bd5 w h,hg,hv],Bm m9,m9⟩
theorem Zo{v:Value}(h:v.oneCell'=true):Ck v=false:=by cases v<;>simp_all [Value.oneCell',Ck]
theorem Ckp{s s':ByteArray}:(s.data.toList.map (fun b=>(b.toNat:Int)))=s'.data.toList.map (fun b=>(b.toNat:Int))↔s=s':=by
 constructor
 ·intro h
  have:s.data.toList=s'.data.toList:=by
   refine List.map_inj_right (fun a b vn=>?_) |>.1 h
   have:a.toNat=b.toNat:=by omega
   exact UInt8.toNat_inj.1 this
  cases s with|mk s=>cases s' with|mk s' =>
  congr 1
  exact as0.1 this
 ·rintro rfl;rfl
def VD(w:World)(ok:Nat→Prop)(t:Ty)(v:Value)(x:t.den):Prop:=DR w ok t v.cells.toList x∧Ck v=t.agg
theorem Bks{ok:Nat→Prop}:∀ (t:Ty),t.flat=true →
  (∀ (T:TypeId) (d:Nat) (vx vy:Value) (x y:t.den),U2 P t T=true→t.dep≤d→VD w ok t vx x→VD w ok t vy y→(Op.equalIn (d+1) T vx vy).run P w=.ok (Yu t x y) w) ∧
  (∀ (fs:List Field) (off d:Nat) (xs ys:Array Value) (x y:t.den),Ek P t off fs=true→t.dep≤d+1→DR w ok t (xs.toList.drop off) x→DR w ok t (ys.toList.drop off) y →
   (Op.eqFields (d+1) xs ys fs).run P w=.ok (Yu t x y) w)
 | .unit,_=>by
  have hf:∀ (fs:List Field) (off d:Nat) (xs ys:Array Value) (x y:Unit),Ek P .unit off fs=true→(Op.eqFields (d+1) xs ys fs).run P w=.ok true w:=by
   intro fs off d xs ys x y h
   rw[Ag3 h];rfl
  refine⟨fun T d vx vy x y h hd hx hy=>?_,fun fs off d xs ys x y h _ _ _=>hf fs off d xs ys x y h⟩
  obtain⟨fs,h1,h2,h3⟩:=Au0 h
  have tl:P.fieldsOf T=fs:=by simp[Program.fieldsOf,h1]
  have hxa:=hx.2
  have hya:=hy.2
  cases vx<;>simp[Ck,Ty.agg] at hxa
  cases vy<;>simp[Ck,Ty.agg] at hya
  rename_i xs ys
  rw[run_equalIn_struct w d T xs ys (by rw[tl];exact h1) h3,tl,Ag3 h2]
  rfl
 | .pair a b,qo=>by
  simp only[Ty.flat,aa5] at qo
  obtain⟨ia1,ia2⟩:=Bks (ok:=ok) a qo.1
  obtain⟨ib1,ib2⟩:=Bks (ok:=ok) b qo.2
  have hf:∀ (fs:List Field) (off d:Nat) (xs ys:Array Value) (x y:(Ty.pair a b).den),Ek P (.pair a b) off fs=true→(Ty.pair a b).dep≤d+1→DR w ok (.pair a b) (xs.toList.drop off) x→DR w ok (.pair a b) (ys.toList.drop off) y →
   (Op.eqFields (d+1) xs ys fs).run P w=.ok (Yu (.pair a b) x y) w:=by
   intro fs off d xs ys x y h hd hx hy
   obtain⟨f,r,rfl,h1,h2,h3,h4,h5⟩:=Aaz h
   simp only[Ty.dep] at hd
   obtain⟨vx,p1,p2,p3⟩:=Aom (w:=w) h2 (xs:=xs) (off:=off) rfl (DR.len hx.1) (fun hg v hv=>Zo (DR.one hx.1 v hv))
   obtain⟨vy,q1,q2,q3⟩:=Aom (w:=w) h2 (xs:=ys) (off:=off) rfl (DR.len hy.1) (fun hg v hv=>Zo (DR.one hy.1 v hv))
   have e:=ia1 f.type d vx vy x.1 y.1 h2 (by omega) ⟨by rw[p2];exact hx.1,p3⟩ ⟨by rw[q2];exact hy.1,q3⟩
   have rv:=hx.2
   have hy2:=hy.2
   rw[ah4] at rv hy2
   have e2:=ib2 r (off+a.size) d xs ys x.2 y.2 h5 (by omega) rv hy2
   simp only[Op.eqFields,h4,ne_eq,not_false_eq_true,ar3,ac7,h1,p1,q1,e,ab7,Sem.run_ite]
   cases hq:Yu a x.1 y.1
   ·simp[Yu,hq]
   ·simp[Yu,hq,e2]
  refine⟨fun T d vx vy x y h hd hx hy=>?_,hf⟩
  obtain⟨fs,h1,h2,h3⟩:=Ap3 h
  have tl:P.fieldsOf T=fs:=by simp[Program.fieldsOf,h1]
  cases vx<;>simp[VD,Ck,Ty.agg] at hx
  cases vy<;>simp[VD,Ck,Ty.agg] at hy
  rename_i xs ys
  rw[run_equalIn_struct w d T xs ys (by rw[tl];exact h1) h3,tl]
  have hd1:1≤d:=by simp only[Ty.dep] at hd;omega
  obtain⟨d',rfl⟩:∃ d',d=d'+1:=⟨d-1,by omega⟩
  exact hf fs.toList 0 d' xs ys x y h2 hd (by simpa [Value.cells] using hx) (by simpa [Value.cells] using hy)
 | .int k,_=>⟨fun T d vx vy x y h hd hx hy=>by
   have ex:vx=.int k x:=by have:=hx.1;rw[Bm hx.2] at this;simpa using this.1
   have ey:vy=.int k y:=by have:=hy.1;rw[Bm hy.2] at this;simpa using this.1
   rw[ex,ey,run_equalIn_int w d T k k x y (Afb h)]
   simp[Yu,Bko],fun fs off d xs ys x y h=>by simp[Ek,tyC] at h⟩
 | .bool,_=>⟨fun T d vx vy x y h hd hx hy=>by
   have ex:vx=.bool x:=by have:=hx.1;rw[Bm hx.2] at this;simpa using (show [vx]=[_] from this)
   have ey:vy=.bool y:=by have:=hy.1;rw[Bm hy.2] at this;simpa using (show [vy]=[_] from this)
   rw[ex,ey,run_equalIn_bool' w d T x y (Azc h)]
   rfl,fun fs off d xs ys x y h=>by simp[Ek,tyC] at h⟩
 | .str,_=>⟨fun T d vx vy x y h hd hx hy=>by
   have h1:=hx.1;rw[Bm hx.2] at h1
   have h2:=hy.1;rw[Bm hy.2] at h2
   obtain⟨s,e1,e2,_⟩:=h1
   obtain⟨s',f1,f2,_⟩:=h2
   have e1:vx=.string s:=by simpa using e1
   have f1:vy=.string s':=by simpa using f1
   rw[e1,f1]
   rw[run_equalIn_string w d T s s' (Akg h)]
   congr 1
   rw[an7,J6,beq_iff_eq,e2,f2,Ckp,ByteArray.toList_eq,ByteArray.toList_eq]
   constructor
   ·intro h
    cases s with|mk s=>cases s' with|mk s' =>
    congr 1
    exact as0.1 h
   ·rintro rfl;rfl,fun fs off d xs ys x y h=>by simp[Ek,tyC] at h⟩
 | .arr n t,qo=>⟨fun T d vx vy x y h hd hx hy=>by
   obtain⟨e,h1,h2⟩:=Afg h
   obtain⟨it,_⟩:=Bks (ok:=ok) t qo
   obtain⟨i,z,i1,i2,_⟩:=Ku (Uv h2)
   simp only[Ty.dep] at hd
   obtain⟨d',rfl⟩:∃ d',d=d'+1:=⟨d-1,by omega⟩
   obtain⟨hxd,hxa⟩:=hx
   obtain⟨hyd,hya⟩:=hy
   cases vx<;>simp[Ck,Ty.agg] at hxa
   cases vy<;>simp[Ck,Ty.agg] at hya
   rename_i xs ys
   have j8:P.cellsOf e=t.size:=by simp[Program.cellsOf,i1,i2]
   rw[run_equalIn_array w (d'+1) xs ys h1 i1,j8]
   obtain⟨lx,rx⟩:=hxd
   obtain⟨ly,ry⟩:=hyd
   have key:∀ (m:Nat) (x y:List t.den) (k:Nat),List.length x=m→List.length y=m→B7 (DR w ok t) t.size (xs.toList.drop (k*t.size)) x→B7 (DR w ok t) t.size (ys.toList.drop (k*t.size)) y →
     (Op.eqItems (d'+1) e t.size xs ys (List.range' k m)).run P w=.ok (eqL (Yu t) x y) w:=by
    intro m
    induction m with
    | zero=>intro x y k hx hy _ _;rw[af7 hx,af7 hy];simp[Op.eqItems,eqL]
    | succ m ih =>
     intro x y k hx hy rx ry
     cases x with
     | nil=>simp at hx
     | cons x0 x =>
      cases y with
      | nil=>simp at hy
      | cons y0 y =>
       obtain⟨a1,a2,a3⟩:=rx
       obtain⟨b1,b2,b3⟩:=ry
       obtain⟨vx,p1,p2,p3⟩:=Aom (w:=w) h2 (xs:=xs) (off:=k*t.size) rfl (DR.len a2) (fun hg v hv=>Zo (DR.one a2 v hv))
       obtain⟨vy,q1,q2,q3⟩:=Aom (w:=w) h2 (xs:=ys) (off:=k*t.size) rfl (DR.len b2) (fun hg v hv=>Zo (DR.one b2 v hv))
       have e1:=it e d' vx vy x0 y0 h2 (by omega) ⟨by rw[p2];exact a2,p3⟩ ⟨by rw[q2];exact b2,q3⟩
       rw[ah4,show k*t.size+t.size=(k+1)*t.size by simp[ae4]] at a3 b3
       have e2:=ih x y (k+1) (by simpa using hx) (by simpa using hy) a3 b3
       simp only[List.range'_succ,Op.eqItems,ac7,p1,q1,e1,ab7,Sem.run_ite]
       cases hq:Yu t x0 y0
       ·simp[eqL,hq]
       ·simp[eqL,hq,e2]
   rw[List.range_eq_range']
   exact key n x y 0 lx ly (by simpa [Value.cells] using rx) (by simpa [Value.cells] using ry),fun fs off d xs ys x y h=>by simp[Ek,tyC] at h⟩
 | .ptr,_=>⟨fun T d vx vy x y h hd hx hy=>by
   obtain⟨e,h1⟩:=Ash h
   have ex:vx=.pointer none:=by have:=hx.1;rw[Bm hx.2] at this;simpa using (show [vx]=[_] from this)
   have ey:vy=.pointer none:=by have:=hy.1;rw[Bm hy.2] at this;simpa using (show [vy]=[_] from this)
   rw[ex,ey]
   simp[Op.equalIn,ab9 h1,Yu],fun fs off d xs ys x y h=>by simp[Ek,tyC] at h⟩
end
end Go.Pon
namespace Go.Pon
open Go
section
variable {P:Program} {w:World}
theorem Aro:∀ (t:Ty),(∀ (T:TypeId) (d:Nat),U2 P t T=true→t.dep≤d→P.eqGuardType d T=false) ∧
  (∀ (fs:List Field) (off d:Nat),Ek P t off fs=true→t.dep≤d+1→(fs.any fun f=>f.name != "_"&&P.eqGuardType d f.type)=false)
 | .unit=>⟨fun T d h hd=>by
   obtain⟨fs,h1,h2,_⟩:=Au0 h
   obtain⟨d',rfl⟩:∃ d',d=d'+1:=⟨d-1,by simp only[Ty.dep] at hd;omega⟩
   have:=Ag3 h2
   have e:fs=#[]:=by cases fs;simp_all
   simp[Program.eqGuardType,h1,e],fun fs off d h _=>by rw[Ag3 h];rfl⟩
 | .pair a b=>by
  obtain⟨ia,_⟩:=Aro a
  obtain⟨_,ib⟩:=Aro b
  have hf:∀ (fs:List Field) (off d:Nat),Ek P (.pair a b) off fs=true→(Ty.pair a b).dep≤d+1→(fs.any fun f=>f.name != "_"&&P.eqGuardType d f.type)=false:=by
   intro fs off d h hd
   obtain⟨f,r,rfl,h1,h2,h3,h4,h5⟩:=Aaz h
   simp only[Ty.dep] at hd
   rw[List.any_cons,ia f.type d h2 (by omega),ib r _ d h5 (by omega)]
   simp
  refine⟨fun T d h hd=>?_,hf⟩
  obtain⟨fs,h1,h2,_⟩:=Ap3 h
  obtain⟨d',rfl⟩:∃ d',d=d'+1:=⟨d-1,by simp only[Ty.dep] at hd;omega⟩
  have:=hf fs.toList 0 d' h2 hd
  simp only[Program.eqGuardType,h1]
  rw[← Array.any_toList]
  exact this
 | .int k=>⟨fun T d h hd=>by
   obtain⟨d',rfl⟩:∃ d',d=d'+1:=⟨d-1,by simp only[Ty.dep] at hd;omega⟩
   simp[Program.eqGuardType,Afb h],fun fs off d h=>by simp[Ek,tyC] at h⟩
 | .bool=>⟨fun T d h hd=>by
   obtain⟨d',rfl⟩:∃ d',d=d'+1:=⟨d-1,by simp only[Ty.dep] at hd;omega⟩
   simp[Program.eqGuardType,Azc h],fun fs off d h=>by simp[Ek,tyC] at h⟩
 | .str=>⟨fun T d h hd=>by
   obtain⟨d',rfl⟩:∃ d',d=d'+1:=⟨d-1,by simp only[Ty.dep] at hd;omega⟩
   simp[Program.eqGuardType,Akg h],fun fs off d h=>by simp[Ek,tyC] at h⟩
 | .arr n t=>⟨fun T d h hd=>by
   obtain⟨it,_⟩:=Aro t
   obtain⟨e,h1,h2⟩:=Afg h
   obtain⟨d',rfl⟩:∃ d',d=d'+1:=⟨d-1,by simp only[Ty.dep] at hd;omega⟩
   simp only[Program.eqGuardType,h1]
   exact it e d' h2 (by simp only[Ty.dep] at hd;omega),fun fs off d h=>by simp[Ek,tyC] at h⟩
 | .slice t=>⟨fun T d h hd=>by
   obtain⟨e,h1,h2⟩:=H6 h
   obtain⟨d',rfl⟩:∃ d',d=d'+1:=⟨d-1,by simp only[Ty.dep] at hd;omega⟩
   simp[Program.eqGuardType,h1],fun fs off d h=>by simp[Ek,tyC] at h⟩
 | .ptr=>⟨fun T d h hd=>by
   obtain⟨e,h1⟩:=Ash h
   obtain⟨d',rfl⟩:∃ d',d=d'+1:=⟨d-1,by simp only[Ty.dep] at hd;omega⟩
   simp[Program.eqGuardType,h1],fun fs off d h=>by simp[Ek,tyC] at h⟩
theorem Cmc{ok:Nat→Prop}{t:Ty}{T:TypeId}(hT:U2 P t T=true)(hf:t.flat=true)(hd:t.dep≤50)(hP:64≤P.depth){vx vy:Value}{x y:t.den}(hx:VD w ok t vx x)(hy:VD w ok t vy y)
  (o1 o2:Operand) :
  ((do eqGuard .eql T o1 o2 vx vy;binOp .eql T vx vy:Sem Value).run P w=.ok (.bool (Yu t x y)) w) ∧
  ((do eqGuard .neq T o1 o2 vx vy;binOp .neq T vx vy:Sem Value).run P w=.ok (.bool (!Yu t x y)) w):=by
 have hg:=(Aro (P:=P) t).1 T P.depth hT (by omega)
 have he:=(Bks (P:=P) (w:=w) (ok:=ok) t hf).1 T 9999 vx vy x y hT (by omega) hx hy
 have hq:(Op.equal T vx vy).run P w=.ok (Yu t x y) w:=he
 have agg:∀ xs ys,vx=.agg xs→vy=.agg ys →
   ((do eqGuard .eql T o1 o2 vx vy;binOp .eql T vx vy:Sem Value).run P w=.ok (.bool (Yu t x y)) w) ∧
   ((do eqGuard .neq T o1 o2 vx vy;binOp .neq T vx vy:Sem Value).run P w=.ok (.bool (!Yu t x y)) w):=by
  rintro xs ys rfl rfl
  refine⟨?_,?_⟩
  ·rw[ac7,run_eqGuard_agg w _ T o1 o2 xs ys hg,ab7,run_eql_struct,he];rfl
  ·rw[ac7,run_eqGuard_agg w _ T o1 o2 xs ys hg,ab7,run_neq_struct,he];rfl
 cases t with
 | unit =>
  have h1:=hx.2;have h2:=hy.2
  cases vx<;>simp[Ck,Ty.agg] at h1
  cases vy<;>simp[Ck,Ty.agg] at h2
  exact agg _ _ rfl rfl
 | pair a b =>
  have h1:=hx.2;have h2:=hy.2
  cases vx<;>simp[Ck,Ty.agg] at h1
  cases vy<;>simp[Ck,Ty.agg] at h2
  exact agg _ _ rfl rfl
 | arr n t =>
  have h1:=hx.2;have h2:=hy.2
  cases vx<;>simp[Ck,Ty.agg] at h1
  cases vy<;>simp[Ck,Ty.agg] at h2
  exact agg _ _ rfl rfl
 | int k =>
  have ex:vx=.int k x:=by have:=hx.1;rw[Bm hx.2] at this;simpa using this.1
  have ey:vy=.int k y:=by have:=hy.1;rw[Bm hy.2] at this;simpa using this.1
  subst ex ey
  refine⟨?_,?_⟩<;>simp[eqGuard,binOp,Op.intCmp,Yu,bne,Bko]
 | bool =>
  have ex:vx=.bool x:=by have:=hx.1;rw[Bm hx.2] at this;simpa using (show [vx]=[_] from this)
  have ey:vy=.bool y:=by have:=hy.1;rw[Bm hy.2] at this;simpa using (show [vy]=[_] from this)
  subst ex ey
  refine⟨?_,?_⟩<;>simp[eqGuard,binOp,hq]
 | str =>
  have h1:=hx.1;rw[Bm hx.2] at h1
  have h2:=hy.1;rw[Bm hy.2] at h2
  obtain⟨s,e1,e2,_⟩:=h1
  obtain⟨s',f1,f2,_⟩:=h2
  have e1:vx=.string s:=by simpa using e1
  have f1:vy=.string s':=by simpa using f1
  subst e1 f1
  have hs:(s.toList == s'.toList)=Yu .str x y:=by
   rw[run_equalIn_string w 9999 T s s' (Akg hT)] at he
   injection he
  refine⟨?_,?_⟩<;>simp[eqGuard,binOp,Op.stringOp,hs]
 | slice t=>simp[Ty.flat] at hf
 | ptr =>
  have ex:vx=.pointer none:=by have:=hx.1;rw[Bm hx.2] at this;simpa using (show [vx]=[_] from this)
  have ey:vy=.pointer none:=by have:=hy.1;rw[Bm hy.2] at this;simpa using (show [vy]=[_] from this)
  subst ex ey
  refine⟨?_,?_⟩<;>simp[eqGuard,binOp,hq]
end
section
variable {K:Dg} {S:St} {used:Id→Nat→Prop} {γ:Id→Value} {a:Act} {w:World} {o:Oper} {base:Id} {v:AV} {u:Pm} {l:List Id}
theorem Bkw{o:Id→Option Obj}{f g:Bool}(h:g=true→f=true)(b:Nat)(hb:Ahh K o γ f b):Ahh K o γ g b:=⟨hb.1,hb.2.1,fun hg=>hb.2.2 (h hg)⟩
theorem Bnc:∀ (x:AV) (t:Ty) (f:Bool) (y:t.den) (cs:List Value),asD x t=some (f,y)→ARc (A3 K S.objs used γ w) x cs→DR w (Ahh K (Ak S.objs) γ f) t cs y
 | .d fr u x,t,f,y,cs,h,hr=>by
  simp only[asD,ae0,ai9] at h
  obtain⟨z,h1,rfl,rfl⟩:=h
  obtain⟨e,rfl⟩:=Cu h1
  subst e
  exact hr
 | .pair p q,t,f,y,cs,h,⟨c1,c2,h1,h2,h3⟩=>by
  cases t<;>simp only[asD,reduceCtorEq] at h
  rename_i t u
  split at h
  ·rename_i f1 x1 f2 x2 e1 e2
   cases h
   have k1:=(Bnc p t f1 x1 c1 e1 h2).mono (ok':=Ahh K (Ak S.objs) γ (f1&&f2)) (fun b hb=>Bkw (by simp;intro h _;exact h) b hb)
   have k2:=(Bnc q u f2 x2 c2 e2 h3).mono (ok':=Ahh K (Ak S.objs) γ (f1&&f2)) (fun b hb=>Bkw (by simp) b hb)
   have l1:=DR.len k1
   subst h1
   refine⟨?_,?_⟩
   ·rw[ad4 (by omega),aa8 (by omega)];exact k1
   ·rw[ae7 (by omega),ag5 (by omega)];exact k2
  ·cases h
 | .nils,t,f,y,cs,h,hr=>by
  cases t<;>simp only[asD,reduceCtorEq] at h
  cases h
  exact⟨none,0,hr,ab4 _,ac2 _,fun _=>rfl,[],rfl,fun h=>absurd rfl h⟩
 | .nilp,t,f,y,cs,h,hr=>by
  cases t<;>simp only[asD,reduceCtorEq] at h
  cases h
  exact hr
theorem Ciw:∀ (x:AV) (t:Ty) (f:Bool) (y:t.den),asD x t=some (f,y)→Aoe x=t.agg
 | .d fr u x,t,f,y,h=>by
  simp only[asD,ae0,ai9] at h
  obtain⟨z,h1,rfl,rfl⟩:=h
  obtain⟨e,rfl⟩:=Cu h1
  subst e
  rfl
 | .pair p q,t,f,y,h=>by cases t<;>simp only[asD,reduceCtorEq] at h;rfl
 | .nils,t,f,y,h=>by cases t<;>simp only[asD,reduceCtorEq] at h;rfl
 | .nilp,t,f,y,h=>by cases t<;>simp only[asD,reduceCtorEq] at h;rfl
theorem Aon{G:Ctx}{T:TypeId}{t:Ty}(h:Bhm (G.ty T) t=true):G.ty T=some t:=by
 cases hg:G.ty T with
 | none=>rw[hg] at h;cases h
 | some u=>rw[hg] at h;rw[Ty.beq_iff.1 h]
theorem Ce1{E:U5}{x:AV}{val:Value}(hn:x≠.any)(hu:x≠.un)(ht:∀ y,x≠.tup y)(hv:Dn E x val):Ev E x val:=by
 cases x with
 | any=>exact absurd rfl hn
 | un=>exact absurd rfl hu
 | tup y=>exact absurd rfl (ht y)
 | _=>exact hv
theorem Axn{P:Program}{w:World}{T e:TypeId}(he:P.underlying T=some (.pointer e))(d:Nat)(p:Option Addr) :
  (Op.equalIn (d+1) T (.pointer none) (.pointer p)).run P w=.ok p.isNone w∧(Op.equalIn (d+1) T (.pointer p) (.pointer none)).run P w=.ok p.isNone w:=by
 cases p<;>simp[Op.equalIn,ab9 he]
theorem Rk{P:Program}{w:World}{T e:TypeId}(he:P.underlying T=some (.pointer e))(p:Option Addr)(o1 o2:Operand) :
  (((do eqGuard .eql T o1 o2 (.pointer none) (.pointer p);binOp .eql T (.pointer none) (.pointer p):Sem Value).run P w=.ok (.bool p.isNone) w) ∧
  ((do eqGuard .neq T o1 o2 (.pointer none) (.pointer p);binOp .neq T (.pointer none) (.pointer p):Sem Value).run P w=.ok (.bool (!p.isNone)) w)) ∧
  (((do eqGuard .eql T o1 o2 (.pointer p) (.pointer none);binOp .eql T (.pointer p) (.pointer none):Sem Value).run P w=.ok (.bool p.isNone) w) ∧
  ((do eqGuard .neq T o1 o2 (.pointer p) (.pointer none);binOp .neq T (.pointer p) (.pointer none):Sem Value).run P w=.ok (.bool (!p.isNone)) w)):=by
 have h1:(Op.equal T (.pointer none) (.pointer p)).run P w=.ok p.isNone w:=(Axn he 9999 p).1
 have h2:(Op.equal T (.pointer p) (.pointer none)).run P w=.ok p.isNone w:=(Axn he 9999 p).2
 refine⟨⟨?_,?_⟩,?_,?_⟩<;>simp[eqGuard,binOp,h1,h2]
theorem Cbv(h:Gd K S used γ a w){T:TypeId}{x y:AV}{vx vy:Value}(hT:∀ T t,K.G.ty T=some t→U2 K.P t T=true)(hP:64≤K.P.depth)
  (hx:Dn (A3 K S.objs used γ w) x vx) (hy:Dn (A3 K S.objs used γ w) y vy) {k:Bool→OpV} {l0:List Id}
  (hl:A6 K.C S.objs (eqK (K.G.ty T) x y k) l0 (v,u) l) (o1 o2:Operand) (fw:∀ z,o1=.const z→True) (hc:(o1 matches .const _)=true∨(o2 matches .const _)=true∨True) :
  ∃ b l1,A6 K.C S.objs (k b) l1 (v,u) l ∧
   ((do eqGuard .eql T o1 o2 vx vy;binOp .eql T vx vy:Sem Value).run K.P w=.ok (.bool b) w) ∧
   ((do eqGuard .neq T o1 o2 vx vy;binOp .neq T vx vy:Sem Value).run K.P w=.ok (.bool (!b)) w):=by
 unfold eqK at hl
 split at hl
 ·cases hc:Bhm (K.G.ty T) .ptr with
  | false=>rw[hc] at hl;exact hl.elim
  | true =>
   rw[hc] at hl
   obtain⟨e,he⟩:=Ash (hT T _ (Aon hc))
   have ex:vx=.pointer none:=by have:=(Tv (x:=.nilp) rfl (by simp) (by simp) (by simp) hx).1;simpa using (show [vx]=[_] from this)
   have ey:vy=.pointer none:=by have:=(Tv (x:=.nilp) rfl (by simp) (by simp) (by simp) hy).1;simpa using (show [vy]=[_] from this)
   subst ex ey
   exact⟨true,_,hl,(Rk he none o1 o2).1.1,(Rk he none o1 o2).1.2⟩
 ·rename_i id p
  cases hc:Bhm (K.G.ty T) .ptr with
  | false=>rw[hc] at hl;exact hl.elim
  | true =>
   rw[hc] at hl
   obtain⟨e,he⟩:=Ash (hT T _ (Aon hc))
   obtain⟨_,hp⟩:=Abe hx
   have ey:vy=.pointer none:=by have:=(Tv (x:=.nilp) rfl (by simp) (by simp) (by simp) hy).1;simpa using (show [vy]=[_] from this)
   obtain⟨ob,ak,hl⟩:=hl
   have hm:∃ t,Awc (Ak S.objs id) t∧A6 K.C S.objs (k false) (id::l0) (v,u) l:=by
    dsimp only at hl
    split at hl
    ·exact⟨_,⟨_,_,.inl ak⟩,hl⟩
    ·exact⟨_,⟨_,_,.inr ak⟩,hl⟩
    ·exact hl.elim
   obtain⟨t,hm,hl⟩:=hm
   obtain⟨g,u',_,_,_,ex⟩:=hp t hm
   subst ex ey
   exact⟨false,_,hl,(Rk he (some _) o1 o2).2.1,(Rk he (some _) o1 o2).2.2⟩
 ·rename_i id p
  cases hc:Bhm (K.G.ty T) .ptr with
  | false=>rw[hc] at hl;exact hl.elim
  | true =>
   rw[hc] at hl
   obtain⟨e,he⟩:=Ash (hT T _ (Aon hc))
   obtain⟨_,hp⟩:=Abe hy
   have ex:vx=.pointer none:=by have:=(Tv (x:=.nilp) rfl (by simp) (by simp) (by simp) hx).1;simpa using (show [vx]=[_] from this)
   obtain⟨ob,ak,hl⟩:=hl
   have hm:∃ t,Awc (Ak S.objs id) t∧A6 K.C S.objs (k false) (id::l0) (v,u) l:=by
    dsimp only at hl
    split at hl
    ·exact⟨_,⟨_,_,.inl ak⟩,hl⟩
    ·exact⟨_,⟨_,_,.inr ak⟩,hl⟩
    ·exact hl.elim
   obtain⟨t,hm,hl⟩:=hm
   obtain⟨g,u',_,_,_,ey⟩:=hp t hm
   subst ex ey
   exact⟨false,_,hl,(Rk he (some _) o1 o2).1.1,(Rk he (some _) o1 o2).1.2⟩
 ·cases hc:Bhm (K.G.ty T) .ptr with
  | false=>rw[hc] at hl;exact hl.elim
  | true =>
   rw[hc] at hl
   obtain⟨e,he⟩:=Ash (hT T _ (Aon hc))
   obtain⟨_,_,ex,_⟩:=At2 hx
   have ey:vy=.pointer none:=by have:=(Tv (x:=.nilp) rfl (by simp) (by simp) (by simp) hy).1;simpa using (show [vy]=[_] from this)
   subst ex ey
   exact⟨false,_,hl,(Rk he (some _) o1 o2).2.1,(Rk he (some _) o1 o2).2.2⟩
 ·cases hc:Bhm (K.G.ty T) .ptr with
  | false=>rw[hc] at hl;exact hl.elim
  | true =>
   rw[hc] at hl
   obtain⟨e,he⟩:=Ash (hT T _ (Aon hc))
   obtain⟨_,_,ey,_⟩:=At2 hy
   have ex:vx=.pointer none:=by have:=(Tv (x:=.nilp) rfl (by simp) (by simp) (by simp) hx).1;simpa using (show [vx]=[_] from this)
   subst ex ey
   exact⟨false,_,hl,(Rk he (some _) o1 o2).1.1,(Rk he (some _) o1 o2).1.2⟩
 ·rename_i fr t x'
  split at hl
  ·rename_i f z hz
   cases hc:(t.flat&&Bhm (K.G.ty T) t&&Nat.ble t.dep 50) with
   | false=>rw[hc] at hz;cases hz
   | true =>
    rw[hc] at hz
    simp only[aa5] at hc
    obtain⟨⟨hf,ht⟩,hd⟩:=hc
    have nx:Ev (A3 K S.objs used γ w) (.d fr t x') vx:=hx
    have rd:Ev (A3 K S.objs used γ w) y vy:=by
     refine Ce1 ?_ ?_ ?_ hy
     ·rintro rfl;simp[asD] at hz
     ·rintro rfl;simp[asD] at hz
     ·rintro q rfl;simp[asD] at hz
    have vx':VD w (fun _=>True) t vx x':=⟨DR.flat hf nx.1,nx.2.symm⟩
    have vy':VD w (fun _=>True) t vy z:=⟨DR.flat hf (Bnc y t f z _ hz rd.1),by rw[← rd.2];exact Ciw y t f z hz⟩
    obtain⟨r1,r2⟩:=Cmc (P:=K.P) (w:=w) (hT T _ (Aon ht)) hf (ao4 hd) hP vx' vy' o1 o2
    exact⟨_,_,hl,r1,r2⟩
  ·exact hl.elim
 ·exact hl.elim
theorem Bxt{E:U5}{x:AV}{val:Value}(hs:slA x=true)(hv:Dn E x val):∃ a l c,val=.slice a l c∧(Cha x=true→val=.slice none 0 0)∧(Btp x=false→a.isNone=false):=by
 cases x with
 | d fr t y =>
  cases t with
  | slice t =>
   obtain⟨ad,cap,d1,d2,d3,d4,_⟩:=Bcd (t:=.slice t) rfl hv
   refine⟨ad,_,cap,by simpa using d1,(fun h=>by cases h),fun h=>?_⟩
   cases ad with
   | some _=>rfl
   | none =>
    have:=d4 rfl
    simp only[Btp,decide_eq_false_iff_not] at h
    omega
  | _=>cases hs
 | nils =>
  obtain⟨k1,k2⟩:=(show Ev E .nils val from hv)
  rw[Bm k2.symm] at k1
  have:val=.slice none 0 0:=by simpa [ARc] using k1
  exact⟨none,0,0,this,fun _=>this,fun h=>by cases h⟩
 | _=>cases hs
theorem At6{P:Program}{w:World}{T e:TypeId}(he:P.underlying T=some (.slice e))(d:Nat)(a:Option Addr)(l c:Nat) :
  (Op.equalIn (d+1) T (.slice none 0 0) (.slice a l c)).run P w=.ok a.isNone w∧(Op.equalIn (d+1) T (.slice a l c) (.slice none 0 0)).run P w=.ok a.isNone w:=by
 cases a<;>simp[Op.equalIn,ab9 he]
theorem Bix{P:Program}{w:World}{T e:TypeId}(he:P.underlying T=some (.slice e))(a:Option Addr)(l c:Nat)(o1 o2:Operand) :
  (((do eqGuard .eql T o1 o2 (.slice none 0 0) (.slice a l c);binOp .eql T (.slice none 0 0) (.slice a l c):Sem Value).run P w=.ok (.bool a.isNone) w) ∧
  ((do eqGuard .neq T o1 o2 (.slice none 0 0) (.slice a l c);binOp .neq T (.slice none 0 0) (.slice a l c):Sem Value).run P w=.ok (.bool (!a.isNone)) w)) ∧
  (((do eqGuard .eql T o1 o2 (.slice a l c) (.slice none 0 0);binOp .eql T (.slice a l c) (.slice none 0 0):Sem Value).run P w=.ok (.bool a.isNone) w) ∧
  ((do eqGuard .neq T o1 o2 (.slice a l c) (.slice none 0 0);binOp .neq T (.slice a l c) (.slice none 0 0):Sem Value).run P w=.ok (.bool (!a.isNone)) w)):=by
 have h1:(Op.equal T (.slice none 0 0) (.slice a l c)).run P w=.ok a.isNone w:=(At6 he 9999 a l c).1
 have h2:(Op.equal T (.slice a l c) (.slice none 0 0)).run P w=.ok a.isNone w:=(At6 he 9999 a l c).2
 refine⟨⟨?_,?_⟩,?_,?_⟩<;>simp[eqGuard,binOp,h1,h2]
theorem Bol(h:Gd K S used γ a w){T:TypeId}{x y:AV}{vx vy:Value}(hT:∀ T t,K.G.ty T=some t→U2 K.P t T=true)(hc:Bgc (K.G.ty T) x y=true)
  (hx:Dn (A3 K S.objs used γ w) x vx) (hy:Dn (A3 K S.objs used γ w) y vy) (o1 o2:Operand) :
  ∃ b,(Bum x y=false→b=false)∧((do eqGuard .eql T o1 o2 vx vy;binOp .eql T vx vy:Sem Value).run K.P w=.ok (.bool b) w)∧((do eqGuard .neq T o1 o2 vx vy;binOp .neq T vx vy:Sem Value).run K.P w=.ok (.bool (!b)) w):=by
 simp only[Bgc,aa5,ak8] at hc
 obtain⟨⟨⟨h1,h2⟩,h3⟩,h4⟩:=hc
 have ht:∃ e,K.P.underlying T=some (.slice e):=by
  unfold Cf0 at h1
  split at h1
  ·rename_i t hg
   obtain⟨e,he,_⟩:=H6 (hT T _ hg)
   exact⟨e,he⟩
  ·cases h1
 obtain⟨e,he⟩:=ht
 obtain⟨a1,l1,c1,e1,n1,m1⟩:=Bxt h2 hx
 obtain⟨a2,l2,c2,e2,n2,m2⟩:=Bxt h3 hy
 rcases h4 with h4|h4
 ·rw[n1 h4,e2]
  refine⟨_,fun he=>m2 ?_,(Bix he a2 l2 c2 o1 o2).1⟩
  cases x<;>first|exact he|cases h4
 ·rw[n2 h4,e1]
  refine⟨_,fun he=>m1 ?_,(Bix he a1 l1 c1 o1 o2).2⟩
  cases y with
  | nils=>cases x<;>first|exact he|cases he
  | _=>cases h4
theorem Cgb(E:U5){e r:Bool}(b:Bool)(h:e=false→b=r):Dn E (.ub e r) (.bool b):=Df (a:=.ub e r) ⟨b,rfl,h⟩ rfl rfl
theorem Ch4{E:U5}{P:Program}{w:World}{fx fy:Bool}{x y:List Int}{vx vy:Value}(hx:Ev E (.d fx .str x) vx)(hy:Ev E (.d fy .str y) vy)(hl:List.length x+List.length y≤9223372036854775807)(T:TypeId)(o1 o2:Operand) :
  ∃ val,(do eqGuard .add T o1 o2 vx vy;binOp .add T vx vy:Sem Value).run P w=.ok val w∧Dn E (.d true .str (List.append x y)) val:=by
 obtain⟨x1,x2⟩:=hx
 obtain⟨y1,y2⟩:=hy
 rw[Bm x2.symm] at x1
 rw[Bm y2.symm] at y1
 obtain⟨s,sx,ex,lx⟩:=x1
 obtain⟨r,ry,ey,ly⟩:=y1
 have sx:vx=.string s:=by simpa using sx
 have ry:vy=.string r:=by simpa using ry
 subst sx ry
 have e1:s.size=List.length x:=by rw[ex,ag7,ac9];rfl
 have e2:r.size=List.length y:=by rw[ey,ag7,ac9];rfl
 have az9:¬ (((s.size+r.size:Nat):Int)>IntKind.i64.max):=by
  simp only[IntKind.max,IntKind.signed,IntKind.bits];simp;omega
 refine⟨.string (s++r),?_,Df (a:=.d true .str (List.append x y)) ⟨s++r,rfl,?_,?_⟩ rfl rfl⟩
 ·simp[eqGuard,binOp,Op.stringOp]
  omega
 ·rw[ex,ey,ByteArray.data_append]
  simp
 ·have:(s++r).size=s.size+r.size:=ByteArray.size_append
  have hm:maxLen=9223372036854775807:=by decide
  rw[this,e1,e2,hm];omega
theorem Chr(h:Gd K S used γ a w){op:BinOp}{T T':TypeId}{x y:Operand}(ho:o.op=.binOp op T x y T')(hx:A1 x=true)(hy:A1 y=true)
  (hT:∀ T t,K.G.ty T=some t→U2 K.P t T=true) (hP:64≤K.P.depth)
  (hl:A6 K.C S.objs (Cmb op (K.G.ty T) (S.eval x) (S.eval y)) [] (v,u) l):Qm K S used γ a w o v u base:=by
 have ip:=Bo h x hx
 have ml:=Bo h y hy
 have cg:Cjl (A3 K S.objs used γ w) v u (do eqGuard op T x y (a.eval x) (a.eval y);binOp op T (a.eval x) (a.eval y)) K.P w→Qm K S used γ a w o v u base:=by
  rintro⟨rfl,val,h1,h2⟩
  exact Qm.pure h (by simp only[execOp,ho,ac7] at *;rw[h1];rfl) h2
 unfold Cmb at hl
 split at hl
 ·rename_i k n k' n' e1 e2
  obtain⟨f1,g1⟩:=Ge e1 ip
  obtain⟨f2,g2⟩:=Ge e2 ml
  rw[f1,f2] at cg
  cases hs:Baz op with
  | true =>
   rw[hs] at hl
   obtain⟨u0,val,p1,p2⟩:=Br8 (A3 K S.objs used γ w) (k':=k') T g1 hs hl (P:=K.P) (w:=w)
   exact cg ⟨u0,val,by rw[ac7,Bi0];exact p1,p2⟩
  | false =>
   rw[hs] at hl
   cases hk:kEq k k' with
   | false=>rw[hk] at hl;exact hl.elim
   | true =>
    rw[hk] at hl
    have:=And.1 hk
    subst this
    obtain⟨u0,val,p1,p2⟩:=Bzi (A3 K S.objs used γ w) T g1 g2 hs hl (P:=K.P) (w:=w)
    exact cg ⟨u0,val,by rw[ac7,Bi0];exact p1,p2⟩
 ·split at hl
  ·cases hc:Bgc (K.G.ty T) (S.eval x) (S.eval y) with
   | true =>
    rw[hc] at hl
    obtain⟨e,_⟩:=hl
    cases e
    obtain⟨b,h1,h2,h3⟩:=Bol h hT hc ip ml x y
    exact cg ⟨rfl,_,h2,Cgb _ _ h1⟩
   | false =>
    rw[hc] at hl
    simp only[an8] at hl
    obtain⟨b,l1,h1,h2,h3⟩:=Cbv h hT hP ip ml hl x y (fun _ _=>trivial) (.inr (.inr trivial))
    obtain⟨e,_⟩:=h1
    cases e
    exact cg ⟨rfl,_,h2,Vb _ b⟩
  ·cases hc:Bgc (K.G.ty T) (S.eval x) (S.eval y) with
   | true =>
    rw[hc] at hl
    obtain⟨e,_⟩:=hl
    cases e
    obtain⟨b,h1,h2,h3⟩:=Bol h hT hc ip ml x y
    exact cg ⟨rfl,_,h3,Cgb _ _ fun he=>by rw[h1 he];rfl⟩
   | false =>
    rw[hc] at hl
    simp only[an8] at hl
    obtain⟨b,l1,h1,h2,h3⟩:=Cbv h hT hP ip ml hl x y (fun _ _=>trivial) (.inr (.inr trivial))
    obtain⟨e,_⟩:=h1
    cases e
    exact cg ⟨rfl,_,h3,Vb _ (!b)⟩
  ·unfold Cpi at hl
   split at hl
   ·rename_i fx x' fy y' e1 e2
    obtain⟨cf,hl⟩:=C7 hl
    obtain⟨e,_⟩:=hl
    cases e
    rw[e1] at ip
    rw[e2] at ml
    obtain⟨val,q1,q2⟩:=Ch4 (P:=K.P) (w:=w) ip ml (ar4 cf) T x y
    exact cg ⟨rfl,val,q1,q2⟩
   ·exact hl.elim
  ·exact hl.elim
end
end Go.Pon
namespace Go.Pon
open Go
section
variable {K:Dg} {S:St} {used:Id→Nat→Prop} {γ:Id→Value} {a:Act} {w:World} {o:Oper} {base:Id} {v:AV} {u:Pm} {l:List Id}
theorem Bx7(h:Gd K S used γ a w){x:Operand}(ho:o.op=.move x∨o.op=.assign x)(hx:A1 x=true):Qm K S used γ a w o (S.eval x) [] base :=
 Qm.pure h (by rcases ho with ho|ho<;>simp[execOp,ho]) (Bo h x hx)
theorem Ce6(h:Gd K S used γ a w){c x y:Operand}{q:Bool}(ho:o.op=.pick c x y)(hc:A1 c=true)(hx:A1 x=true)(hy:A1 y=true)(hq:asBool (S.eval c)=some q)
  (hl:A6 K.C S.objs (.br q (.done (S.eval x,[])) (.done (S.eval y,[]))) [] (v,u) l):Qm K S used γ a w o v u base:=by
 have e:=Biy hq (Bo h c hc)
 rcases hl with⟨rfl,e1,_⟩ | ⟨rfl,e1,_⟩
 ·cases e1
  exact Qm.pure h (by simp[execOp,ho,e,Go.asBool]) (Bo h x hx)
 ·cases e1
  exact Qm.pure h (by simp[execOp,ho,e,Go.asBool]) (Bo h y hy)
theorem Ch6(h:Gd K S used γ a w){op:UnOp}{T:TypeId}{x:Operand}(ho:o.op=.unOp op T x)(hx:A1 x=true)
  (hl:A6 K.C S.objs (unK op (S.eval x)) [] (v,u) l):Qm K S used γ a w o v u base:=by
 obtain⟨rfl,val,h1,h2⟩:=Cfp (P:=K.P) (w:=w) (A3 K S.objs used γ w) (Bo h x hx) hl
 exact Qm.pure h (by simp only[execOp,ho,ac7,h1,ab7,af3]) h2
theorem Ce2(h:Gd K S used γ a w){id:Id}{k:OpV}{l0:List Id}(hl:A6 K.C S.objs (Cao id k) l0 (v,u) l):∃ t,Awc (Ak S.objs id) t∧A6 K.C S.objs k (id::l0) (v,u) l:=by
 obtain⟨ob,ak,hl⟩:=hl
 dsimp only at hl
 split at hl
 ·exact⟨_,⟨_,_,.inl ak⟩,hl⟩
 ·exact⟨_,⟨_,_,.inr ak⟩,hl⟩
 ·exact hl.elim
theorem Aw2(h:Gd K S used γ a w){x:Operand}(ho:o.op=.nilCheck x)(hx:A1 x=true){ad:Addr}(hp:a.eval x=.pointer (some ad)):Qm K S used γ a w o (S.eval x) [] base :=
 Qm.pure h (by simp[execOp,ho,hp]) (Bo h x hx)
theorem Bvb(h:Gd K S used γ a w){x:Operand}{n:Nat}{t y:AV}(ho:o.op=.extract x n)(hx:A1 x=true)(ht:S.eval x=.tup t)(hy:Cj6 t n=some y):Qm K S used γ a w o y [] base:=by
 have hv:=Bo h x hx
 rw[ht] at hv
 obtain⟨vs,h1,h2⟩:=hv
 have key:∀ (t:AV) (n:Nat) (vs:List Value),Cj6 t n=some y→ARt (A3 K S.objs used γ w) t vs→∃ v,vs[n]?=some v∧Ev (A3 K S.objs used γ w) y v:=by
  intro t
  induction t with
  | pair p q ihp ihq =>
   intro n vs hn hr
   cases vs with
   | nil=>exact hr.elim
   | cons v0 vs =>
    cases n with
    | zero=>cases hn;exact⟨v0,rfl,hr.1⟩
    | succ n=>obtain⟨v,k1,k2⟩:=ihq n vs hn hr.2;exact⟨v,by simpa using k1,k2⟩
  | _=>intro n vs hn;cases n<;>cases hn
 obtain⟨v,k1,k2⟩:=key t n vs.toList hy h2
 refine Qm.pure h (val:=v) ?_ ?_
 ·have:vs[n]?=some v:=by simpa using k1
  simp[execOp,ho,h1,Instr.extract,this]
 ·cases y with
  | any=>trivial
  | un=>exact k2.1.elim
  | tup z=>exact k2.1.elim
  | _=>exact k2
theorem Cdj(h:Gd K S used γ a w){T:TypeId}{x:Operand}{n:Nat}{t:Ty}{y:AV}(ho:o.op=.field T x n)(hx:A1 x=true)(hT:U2 K.P t T=true)
  (hy:Ax9 (S.eval x) [n]=some y) (hf:Bg t (S.eval x)=true) (hn:N5 t n=true):Qm K S used γ a w o y [] base:=by
 obtain⟨f1,f2⟩:=Aii hf (Bo h x hx)
 obtain⟨fs,k1,k2⟩:=Ba1 hT hn
 obtain⟨f,uT,q1,q2,q3,q4,q5,q6⟩:=Apx t 0 fs.toList n k2 hn
 obtain⟨n1,n2,n3⟩:=Ae1 (S.eval x) t [n] uT _ hf q3 q6 f1 y hy
 have av7:t.agg=true:=by cases t<;>first|rfl | (cases n<;>simp[N5] at hn)
 rw[av7] at f2
 obtain⟨cs,er⟩:∃ cs,a.eval x=.agg cs:=by cases hv:a.eval x<;>simp[hv,Ck] at f2;exact⟨_,rfl⟩
 have q1:fs[n]?=some f:=by simpa using q1
 have q2:f.offset=Bz t [n]:=by omega
 rw[er] at n2
 have n2':ARc (A3 K S.objs used γ w) y (List.take uT.size (List.drop (Bz t [n]) cs.toList)):=n2
 obtain⟨val,p1,p2,p3⟩:=Aom (w:=w) q4 (xs:=cs) (off:=f.offset) (c:=List.take uT.size (List.drop (Bz t [n]) cs.toList)) (by rw[q2]) (Ka n1 n2')
  (fun hg v hv=>Zo (Azg n1 n2' v hv))
 exact Qm.pure h (by simp[execOp,ho,er,Instr.field,ab9 k1,q1,asAgg,p1]) (Aop n1 (by rw[p2];exact n2') p3)
theorem Bpu(h:Gd K S used γ a w){T:TypeId}{x y:Operand}{n:Int}{k:IntKind}{fr:Bool}{m:Nat}{t:Ty}{xs:List t.den}(ho:o.op=.index T x y)(hx:A1 x=true)
  (hT:U2 K.P (.arr m t) T=true) (hy:a.eval y=.int k n) (he:S.eval x=.d fr (.arr m t) xs) (hi:Cj n m=true):Qm K S used γ a w o (.d fr t (List.getD xs n.toNat t.zero)) [] base:=by
 have hv:=Bo h x hx
 rw[he] at hv
 obtain⟨⟨l1,r1⟩,h2⟩:=(show Ev _ (.d fr (.arr m t) xs) _ from hv)
 obtain⟨i0,i1,i2⟩:=All hi
 obtain⟨e,k1,k2⟩:=Afg hT
 obtain⟨cs,er⟩:∃ cs,a.eval x=.agg cs:=by cases hv:a.eval x<;>simp[hv,Ck,Aoe,Ty.agg] at h2;exact⟨_,rfl⟩
 rw[er] at r1
 have ar:n.toNat<List.length xs:=by omega
 have fk:=r1.get n.toNat ar
 have hs:=Ls w k2
 rw[Awf ar]
 obtain⟨val,p1,p2,p3⟩:=Aom (w:=w) k2 (xs:=cs) (off:=n.toNat*t.size) rfl (DR.len fk) (fun hg v hv=>Zo (DR.one fk v hv))
 exact Qm.pure h (by simp[execOp,ho,er,hy,Instr.index,asIntOf,ab9 k1,i0,i1,hs,p1]) ⟨by rw[p2];exact fk,p3.symm⟩
theorem Bo5(h:Gd K S used γ a w){T:TypeId}{x y:Operand}{n:Int}{k:IntKind}{fr:Bool}{xs:List Int}(ho:o.op=.index T x y)(hx:A1 x=true)
  (hT:U2 K.P .str T=true) (hy:a.eval y=.int k n) (he:S.eval x=.d fr .str xs) (hi:Cj n (List.length xs)=true):Qm K S used γ a w o (Ur .u8 (List.getD xs n.toNat 0)) [] base:=by
 have hv:=Bo h x hx
 rw[he] at hv
 obtain⟨s,d1,d2,d3⟩:=Bcd (t:=.str) rfl hv
 have d1:a.eval x=.string s:=by simpa using d1
 obtain⟨i0,i1,i2⟩:=All hi
 have ar:n.toNat<s.size:=by
  rw[d2,ag7] at i2
  exact i2
 have hb:s[n.toNat]?=some s[n.toNat]:=by simp[ar]
 have hg:List.getD xs n.toNat 0=(s[n.toNat].toNat:Int):=by
  rw[d2,List.getD,ag3]
  have:s.data.toList[n.toNat]?=some s[n.toNat]:=by
   rw[ai7,Array.getElem?_eq_getElem (by exact ar)]
   rfl
  rw[this];rfl
 refine Qm.pure h (val:=.int .u8 (s[n.toNat].toNat:Int)) (by simp[execOp,ho,d1,hy,Instr.index,asIntOf,ab9 (Akg hT),i0,hb]) ?_
 rw[hg]
 exact Gs _ (by
  have:=s[n.toNat].toNat_lt
  simp only[inK,IntKind.min,IntKind.max,IntKind.signed,IntKind.bits]
  simp
  omega)
theorem Bth(h:Gd K S used γ a w){T T':TypeId}{x:Operand}{k k':IntKind}{n:Int}{fr:Bool}(ho:o.op=.convert T T' x)(hx:A1 x=true){k0:IntKind}(h1:U2 K.P (.int k0) T=true)(h2:U2 K.P (.int k) T'=true)
  (he:S.eval x=.d fr (.int k') n):Qm K S used γ a w o (Ur k (k.wrap n)) [] base:=by
 have hv:=Bo h x hx
 rw[he] at hv
 obtain⟨e,_⟩:=Bkk hv
 exact Qm.pure h (by simp[execOp,ho,e,convert,ab9 (Afb h1),ab9 (Afb h2),Conv.intToInt]) (Gs _ (Ac2 _ _))
end
end Go.Pon
namespace Go.Pon
open Go
theorem Ch1{l:List Id}{id:Id}:Bbq l id=true↔id∈l:=by
 induction l with
 | nil=>simp[Bbq]
 | cons a l ih=>simp only[Bbq,ak8,Xw,ih,aa9];exact or_congr_left eq_comm
def lent(c:Cl)(id:Id):Prop:=id∈c.br∨∃ o,(id,some o)∈c.ups
def Cx:Pm→List Id
 | []=>[]
 | (i,none)::r=>i::Cx r
 | (_,some _)::r=>Cx r
theorem Nv{u:Pm}{id:Id}:id∈Cx u↔(id,none)∈u:=by
 induction u with
 | nil=>simp[Cx]
 | cons p u ih =>
  obtain⟨i,o⟩:=p
  cases o with
  | none=>simp[Cx,ih]
  | some o=>simp[Cx,ih]
theorem Cea{u:Pm}{id:Id}:Am4 u id=true↔∃ o,(id,o)∈u:=by
 induction u with
 | nil=>simp[Am4]
 | cons p u ih =>
  simp only[Am4,ak8,Xw,ih,aa9]
  constructor
  ·rintro (rfl | ⟨o,h⟩)
   ·exact⟨p.2,.inl rfl⟩
   ·exact⟨o,.inr h⟩
  ·rintro⟨o,rfl|h⟩
   ·exact .inl rfl
   ·exact .inr ⟨o,h⟩
theorem Akx:∀ {u:Pm} {id:Id},Anf u id=true↔(id,none)∈u
 | [],id=>by simp[Anf]
 | (i,none)::r,id=>by
  simp only[Anf,ak8,Xw,Akx (u:=r),aa9,ai9,aq4]
  exact or_congr_left eq_comm
 | (i,some o)::r,id=>by
  simp[Anf,Akx (u:=r)]
structure Ext(c c':Cl):Prop where
 ups:∃ d,c'.ups=d++c.ups
 br:∃ d,c'.br=d++c.br
theorem Ext.refl(c:Cl):Ext c c:=⟨⟨[],rfl⟩,⟨[],rfl⟩⟩
theorem Ext.trans{a b c:Cl}(h:Ext a b)(k:Ext b c):Ext a c:=by
 obtain⟨⟨d,h1⟩,⟨e,h2⟩⟩:=h
 obtain⟨⟨d',k1⟩,⟨e',k2⟩⟩:=k
 exact⟨⟨d'++d,by rw[k1,h1,ab6]⟩,⟨e'++e,by rw[k2,h2,ab6]⟩⟩
theorem Ext.lent{c c':Cl}(h:Ext c c'){id:Id}(hl:lent c id):lent c' id:=by
 obtain⟨⟨d,h1⟩,⟨e,h2⟩⟩:=h
 rcases hl with hl | ⟨o,hl⟩
 ·exact .inl (by rw[h2];exact aj6 _ hl)
 ·exact .inr ⟨o,by rw[h1];exact aj6 _ hl⟩
section
variable {K:Dg} {S:St} {used:Id→Nat→Prop} {γ:Id→Value} {a:Act} {w:World}
def okL(K:Dg)(S:St)(γ:Id→Value)(c:Cl)(fr:Bool)(b:Nat):Prop :=
 (∀ id,Bc (Ak S.objs id) (γ id)=some b→lent c id)∧¬ K.B b∧(fr=true→K.base≤b)
theorem Tc{c c':Cl}{f g:Bool}(h:Ext c c')(hf:g=true→f=true)(b:Nat)(hb:okL K S γ c f b):okL K S γ c' g b :=
 ⟨fun id bw=>h.lent (hb.1 id bw),hb.2.1,fun hg=>hb.2.2 (hf hg)⟩
theorem Agt{c:Cl}{f g:Bool}(hf:g=true→f=true)(b:Nat)(hb:Ahh K (Ak S.objs) γ f b):okL K S γ c g b :=
 ⟨fun id bw=>absurd bw (hb.1 id),hb.2.1,fun hg=>hb.2.2 (hf hg)⟩
structure Xr(S:St)(frz:Bool)(c:Cl):Prop where
 moved:∀ id,(id,none)∈c.ups→∃ o,Ak S.objs id=some o
 apart:∀ id,(id,none)∈c.ups→¬ lent c id
 nodup:(Cx c.ups).Nodup
 frozen:∀ id o,(id,some o)∈c.ups→frz=true∧((∃ ab fr t rows,Ak S.objs id=some (.sli ab fr t rows)∧o=.frz ab fr t rows)∨∃ fr t m,Ak S.objs id=some (.mem fr t m)∧o=.mfz fr t m)
 borrow:frz=true→c.br=[]
theorem Xr.start(S:St)(frz:Bool):Xr S frz ⟨[],[]⟩ :=
 ⟨fun _ h=>by simp at h,fun _ h=>by simp at h,au1,fun _ _ h=>by simp at h,fun _=>rfl⟩
theorem Xr.lend{frz:Bool}{c:Cl}(h:Xr S frz c){id:Id}{o:Obj}(hg:¬ (id,none)∈c.ups)
  (ho:(∃ ab fr t rows,Ak S.objs id=some (.sli ab fr t rows)∧o=.frz ab fr t rows)∨∃ fr t m,Ak S.objs id=some (.mem fr t m)∧o=.mfz fr t m) :
  Xr S frz (c.lend frz id o)∧Ext c (c.lend frz id o)∧Cx (c.lend frz id o).ups=Cx c.ups∧lent (c.lend frz id o) id:=by
 cases frz with
 | true =>
  have hb:=h.borrow rfl
  have e:c.lend true id o=⟨(id,some o)::c.ups,c.br⟩:=rfl
  rw[e]
  refine⟨⟨fun i hi=>?_,fun i hi hl=>?_,h.nodup,fun i o' hi=>?_,fun _=>hb⟩,⟨⟨[(id,some o)],rfl⟩,⟨[],rfl⟩⟩,rfl,.inr ⟨o,by simp⟩⟩
  ·simp at hi;exact h.moved i hi
  ·simp at hi
   rcases hl with hl | ⟨o',hl⟩
   ·rw[hb] at hl;simp at hl
   ·simp only[aa9,ai9,ak5] at hl
    rcases hl with⟨rfl,_⟩|hl
    ·exact hg hi
    ·exact h.apart i hi (.inr ⟨o',hl⟩)
  ·simp only[aa9,ai9,ak5] at hi
   rcases hi with⟨rfl,rfl⟩|hi
   ·exact⟨rfl,ho⟩
   ·exact h.frozen i o' hi
 | false =>
  have e:c.lend false id o=⟨c.ups,id::c.br⟩:=rfl
  rw[e]
  refine⟨⟨h.moved,fun i hi hl=>?_,h.nodup,h.frozen,fun h=>by cases h⟩,⟨⟨[],rfl⟩,⟨[id],rfl⟩⟩,rfl,.inl (by simp)⟩
  rcases hl with hl | ⟨o',hl⟩
  ·simp only[aa9] at hl
   rcases hl with rfl|hl
   ·exact hg hi
   ·exact h.apart i hi (.inl hl)
  ·exact h.apart i hi (.inr ⟨o',hl⟩)
theorem Xr.move{frz:Bool}{c:Cl}(h:Xr S frz c){id:Id}(ht:Am4 c.ups id=false)(hb:Bbq c.br id=false)
  (ho:∃ o,Ak S.objs id=some o) :
  Xr S frz ⟨(id,none)::c.ups,c.br⟩∧Ext c ⟨(id,none)::c.ups,c.br⟩∧Cx ((id,none)::c.ups)=id::Cx c.ups:=by
 have gn:∀ o,(id,o) ∉ c.ups:=fun o ho=>by
  have:Am4 c.ups id=true:=Cea.2 ⟨o,ho⟩
  rw[ht] at this;cases this
 have j9:id ∉ c.br:=fun hm=>by
  have:Bbq c.br id=true:=Ch1.2 hm
  rw[hb] at this;cases this
 refine⟨⟨fun i hi=>?_,fun i hi hl=>?_,?_,fun i o hi=>?_,h.borrow⟩,⟨⟨[(id,none)],rfl⟩,⟨[],rfl⟩⟩,rfl⟩
 ·simp only[aa9,ai9,aq4] at hi
  rcases hi with rfl|hi
  ·exact ho
  ·exact h.moved i hi
 ·simp only[aa9,ai9,aq4] at hi
  have wz:lent c i:=by
   rcases hl with hl | ⟨o,hl⟩
   ·exact .inl hl
   ·simp at hl;exact .inr ⟨o,hl⟩
  rcases hi with rfl|hi
  ·rcases wz with hl | ⟨o,hl⟩
   ·exact j9 hl
   ·exact gn _ hl
  ·exact h.apart i hi wz
 ·show (id::Cx c.ups).Nodup
  exact ai8.2 ⟨fun hm=>gn _ (Nv.1 hm),h.nodup⟩
 ·simp at hi;exact h.frozen i o hi
theorem Bvx(h:Gd K S used γ a w){id:Id}{ab:Nat}{fr:Bool}{t:Ty}{rows:List t.den}
  (ho:Ak S.objs id=some (.sli ab fr t rows)∨Ak S.objs id=some (.frz ab fr t rows)) {c:Cl}
  (hc:(∃ ab fr t rows,Ak S.objs id=some (.sli ab fr t rows))→lent c id):DR w (okL K S γ c fr) (.slice t) [γ id] rows:=by
 rcases ho with ho|ho
 ·rcases h.objs id _ ho with⟨h1,h2⟩ | ⟨g,cap,cur,e,h1,h2,h3,h4,h5,h6,h7⟩
  ·have h1:γ id=_:=h1
   rw[h1,h2]
   exact⟨none,0,rfl,ab4 _,ac2 _,fun _=>rfl,[],rfl,fun h=>absurd rfl h⟩
  ·have h1:γ id=_:=h1
   have hl:Bc (Ak S.objs id) (γ id)=some g:=by rw[ho,h1];rfl
   rw[h1]
   refine⟨_,cap,rfl,h3,h4,(fun e=>by cases e),_,h6.mono fun _ _=>DR.mono fun b hb=>Agt (fun h=>h) b hb,fun _=>⟨_,rfl,⟨fun j7 dj=>?_,(h.mod id g hl).2,h7⟩,fun j y hj=>?_⟩⟩
   ·rw[h.sep j7 id g dj hl];exact hc ⟨_,_,_,_,ho⟩
   ·exact Ab7 h2 0 _ j y (by simpa using hj)
 ·exact (h.objs id _ ho).1.mono fun b hb=>Agt (fun h=>h) b hb
theorem Ciq{ok:Nat→Prop}{t:Ty}{g lo hi cp:Nat}{rows:List t.den}{c:Nat}{ad:Option Addr}(h:DR w ok (.slice t) [.slice (some ⟨g,0,none⟩) rows.length cp] rows)(h1:lo<hi)(h2:hi≤rows.length)
  (h3:hi-lo≤c) (h4:c≤maxLen) (kg:ad=some ⟨g,lo*t.size,none⟩):DR w ok (.slice t) [.slice ad (hi-lo) c] ((rows.drop lo).take (hi-lo)):=by
 obtain⟨mj,qz,d1,d2,d3,d4,cs,d5,d6⟩:=h
 have hl:((rows.drop lo).take (hi-lo)).length=hi-lo:=by simp;omega
 refine⟨ad,c,by rw[hl],by rw[hl];exact h3,h4,(fun hn=>by rw[kg] at hn;cases hn),_,(d5.drop lo).take (hi-lo),fun bm=>?_⟩
 have hr:cs≠[]:=by rintro rfl;simp at bm
 obtain⟨z9,e1,e2,e3⟩:=d6 hr
 have e0:z9=⟨g,0,none⟩:=by
  have:Value.slice (some ⟨g,0,none⟩) rows.length cp=.slice mj rows.length qz:=by simpa using d1
  rw[e1] at this
  cases this
  rfl
 subst e0
 refine⟨_,kg,e2,fun j v hj=>?_⟩
 have:=e3 (lo*t.size+j) v (by
  rw[af4] at hj
  split at hj
  ·rwa [ai2] at hj
  ·cases hj)
 rw[Ch] at this ⊢
 rwa [af1] at this
theorem Bnj{ok:Nat→Prop}{t:Ty}{c:Nat}{ad:Option Addr}{n:Nat}{x:List t.den}(hx:x=[])(hn:n=0)(hc:c≤maxLen)(h0:ad=none→c=0):DR w ok (.slice t) [.slice ad n c] x:=by
 subst hx hn
 exact⟨ad,c,rfl,ac2 _,hc,h0,[],rfl,fun h=>absurd rfl h⟩
theorem Hl{α:Type}{C:Gi}(h:Gd K S used γ a w){frz:Bool}{v:AV}{t:Ty}{c:Cl}(hc:Xr S frz c){k:Bool→List t.den→Cl→OpT α}{l0 l:List Id}{r:α}
  (hl:A6 C S.objs (Wk v t c frz k) l0 r l) :
  ∃ fr x c' l1,A6 C S.objs (k fr x c') l1 r l∧Xr S frz c'∧Ext c c'∧Cx c'.ups=Cx c.ups∧Aoe v=false ∧
   ∀ cs,ARc (A3 K S.objs used γ w) v cs→DR w (okL K S γ c' fr) (.slice t) cs x:=by
 unfold Wk at hl
 split at hl
 ·rename_i fr u' x
  split at hl
  ·rename_i y hy
   obtain⟨e,rfl⟩:=Cu hy
   subst e
   exact⟨fr,_,c,l0,hl,hc,Ext.refl c,rfl,rfl,fun cs hr=>DR.mono (fun b hb=>Agt (fun h=>h) b hb) hr⟩
  ·exact hl.elim
 ·exact⟨true,[],c,l0,hl,hc,Ext.refl c,rfl,rfl,fun cs hr=>by rw[show cs=_ from hr];exact Bnj rfl rfl (ac2 _) (fun _=>rfl)⟩
 ·rename_i id ab
  cases hg:Anf c.ups id with
  | true=>rw[hg] at hl;exact hl.elim
  | false =>
   rw[hg] at hl
   have kj:¬ (id,none)∈c.ups:=fun hm=>by rw[Akx.2 hm] at hg;cases hg
   obtain⟨ob,ak,hl⟩:=hl
   dsimp only at hl
   split at hl
   ·rename_i af fr u' rows
    split at hl
    ·rename_i y h1 hy
     obtain rfl:=ab1 h1
     obtain⟨e,rfl⟩:=Cu hy
     cases e
     obtain⟨i1,i2,i3,i4⟩:=hc.lend (id:=id) (o:=.frz af fr t rows) kj (.inl ⟨_,_,_,_,ak,rfl⟩)
     refine⟨fr,_,_,_,hl,i1,i2,i3,rfl,fun cs hr=>?_⟩
     obtain⟨_,v0,rfl,_,ct⟩:=hr
     rw[ct t _ (Fp _ af fr t rows (.inl ak))]
     exact Bvx h (.inl ak) (fun _=>i4)
    ·exact hl.elim
   ·rename_i af fr u' rows
    split at hl
    ·rename_i y h1 hy
     obtain rfl:=ab1 h1
     obtain⟨e,rfl⟩:=Cu hy
     cases e
     refine⟨fr,_,_,_,hl,hc,Ext.refl c,rfl,rfl,fun cs hr=>?_⟩
     obtain⟨_,v0,rfl,_,ct⟩:=hr
     rw[ct t _ (Fp _ af fr t rows (.inr ak))]
     exact Bvx h (.inr ak) (fun⟨_,_,_,_,h⟩=>by rw[ak] at h;cases h)
    ·exact hl.elim
   ·exact hl.elim
 ·rename_i id ab lo hi cp0
  cases hg:Anf c.ups id with
  | true=>rw[hg] at hl;exact hl.elim
  | false =>
   rw[hg] at hl
   have kj:¬ (id,none)∈c.ups:=fun hm=>by rw[Akx.2 hm] at hg;cases hg
   have key:∀ (ab:Nat) (fr:Bool) (t:Ty) (rows:List t.den) (c':Cl),(Ak S.objs id=some (.sli ab fr t rows)∨Ak S.objs id=some (.frz ab fr t rows)) →
     ((∃ ab fr t rows,Ak S.objs id=some (.sli ab fr t rows))→lent c' id)→∀ cs,ARc (A3 K S.objs used γ w) (.view id ab lo hi cp0) cs→DR w (okL K S γ c' fr) (.slice t) cs ((rows.drop lo).take (hi-lo)):=by
    intro ab fr t rows c' bz ag cs hr
    obtain⟨_,v0,rfl,_,ct⟩:=hr
    obtain⟨v1,v2,ad,cc,v3,v4,v5,v6,v7,_⟩:=ct t _ (Fp _ ab fr t rows bz)
    subst v3
    rcases ad3 lo hi with ar|lk
    ·obtain⟨g,m,cp,v8,v9⟩:=v7 ar
     have hd:=Bvx h bz ag
     have v8:γ id=_:=v8
     have hm:m=rows.length:=by
      obtain⟨ad2,av8,k1,_⟩:=Bax h bz
      rw[v8] at k1;cases k1;rfl
     rw[v8,hm] at hd
     exact Ciq hd ar v2 v4 v5 v9
    ·exact Bnj (by rw[show hi-lo=0 by omega,ag1]) (by omega) v5 v6
   obtain⟨ob,ak,hl⟩:=hl
   dsimp only at hl
   split at hl
   ·rename_i af fr u' rows
    split at hl
    ·rename_i y h1 hy
     obtain rfl:=ab1 h1
     obtain⟨e,rfl⟩:=Cu hy
     cases e
     obtain⟨i1,i2,i3,i4⟩:=hc.lend (id:=id) (o:=.frz af fr t rows) kj (.inl ⟨_,_,_,_,ak,rfl⟩)
     exact⟨fr,_,_,_,hl,i1,i2,i3,rfl,key af fr t rows _ (.inl ak) (fun _=>i4)⟩
    ·exact hl.elim
   ·rename_i af fr u' rows
    split at hl
    ·rename_i y h1 hy
     obtain rfl:=ab1 h1
     obtain⟨e,rfl⟩:=Cu hy
     cases e
     exact⟨fr,_,_,_,hl,hc,Ext.refl c,rfl,rfl,key af fr t rows _ (.inr ak) (fun⟨_,_,_,_,h⟩=>by rw[ak] at h;cases h)⟩
    ·exact hl.elim
   ·exact hl.elim
 ·rename_i id ai lo hi
  cases hg:Anf c.ups id with
  | true=>rw[hg] at hl;exact hl.elim
  | false =>
   rw[hg] at hl
   have kj:¬ (id,none)∈c.ups:=fun hm=>by rw[Akx.2 hm] at hg;cases hg
   have key:∀ (fm fr:Bool) (tm u':Ty) (m:AV) (n:Nat) (x:List u'.den) (c':Cl),(Ak S.objs id=some (.mem fm tm m)∨Ak S.objs id=some (.mfz fm tm m))→Ax9 m ai=some (.d fr (.arr n u') x) →
     ((∃ fr t m,Ak S.objs id=some (.mem fr t m))→lent c' id)→∀ cs,ARc (A3 K S.objs used γ w) (.mview id ai lo hi) cs→DR w (okL K S γ c' (fr&&fm)) (.slice u') cs ((x.drop lo).take (hi-lo)):=by
    intro fm fr tm u' m n x c' bz dy ag cs hr
    obtain⟨_,v0,rfl,_,ct⟩:=hr
    obtain⟨g,n',uu,q1,q2,q3,q4,q5,ad,cc,q6,q7,q8,q9⟩:=ct tm (Aa2 _ fm tm m bz)
    subst q6
    obtain⟨g',e',cur,m1,m2,m3,m4⟩:=Azb h bz
    have q1:γ id=_:=q1
    rw[q1] at m1
    cases m1
    obtain⟨n1,n2,n3⟩:=Ae1 m tm ai _ _ m3 q2 q3 m4 _ dy
    have eu:Ty.arr n u'=.arr n' uu:=Ty.beq_iff.1 (by simpa [Bg] using n1)
    cases eu
    obtain⟨nl,nr⟩:=n2
    have dw:okL K S γ c' (fr&&fm) g:=by
     have rz:(fr&&fm)=true→fm=true:=by simp
     rcases bz with bz|bz
     ·have da:Bc (Ak S.objs id) (γ id)=some g:=by rw[bz,q1];rfl
      obtain⟨g2,e2,av9,o1,_,_,_,o5⟩:=h.objs id _ bz
      have o1:γ id=_:=o1
      rw[q1] at o1;cases o1
      exact⟨fun j7 dj=>by rw[h.sep j7 id g dj da];exact ag ⟨_,_,_,bz⟩,(h.mod id g da).2,fun hf=>o5 (rz hf)⟩
     ·obtain⟨_,o6⟩:=h.objs id _ bz
      exact Agt rz g (o6 _ q1)
    rcases ad3 lo hi with ar|lk
    ·have db:((x.drop lo).take (hi-lo)).length=hi-lo:=by simp;omega
     refine⟨some ad,cc,by rw[db],by rw[db];exact q7,q8,(fun e=>by cases e),_,((nr.mono fun _ _=>DR.mono fun b hb=>Agt (fun h=>(aa5 _ _▸h:fr=true∧fm=true).1) b hb).drop lo).take (hi-lo),fun bm=>⟨ad,rfl,?_,fun j v hj=>?_⟩⟩
     ·rw[q9 ar];exact dw
     ·rw[q9 ar,Ch]
      have:=Ab7 m2 (Bz tm ai) (Ty.size (.arr n u')) (lo*u'.size+j) v (by
       rw[af4] at hj
       split at hj
       ·rwa [ai2] at hj
       ·cases hj)
      rw[Ch] at this
      rwa [aj3]
    ·exact Bnj (by rw[show hi-lo=0 by omega,ag1]) (by omega) q8 (fun e=>by cases e)
   obtain⟨ob,ak,hl⟩:=hl
   dsimp only at hl
   split at hl
   ·rename_i fm tm m
    split at hl
    ·rename_i fr n u' x dy
     split at hl
     ·rename_i y hy
      obtain⟨e,rfl⟩:=Cu hy
      cases e
      obtain⟨i1,i2,i3,i4⟩:=hc.lend (id:=id) (o:=.mfz fm tm m) kj (.inr ⟨_,_,_,ak,rfl⟩)
      exact⟨_,_,_,_,hl,i1,i2,i3,rfl,key fm fr tm t m n x _ (.inl ak) dy (fun _=>i4)⟩
     ·exact hl.elim
    ·exact hl.elim
   ·rename_i fm tm m
    split at hl
    ·rename_i fr n u' x dy
     split at hl
     ·rename_i y hy
      obtain⟨e,rfl⟩:=Cu hy
      cases e
      exact⟨_,_,_,_,hl,hc,Ext.refl c,rfl,rfl,key fm fr tm t m n x _ (.inr ak) dy (fun⟨_,_,_,h⟩=>by rw[ak] at h;cases h)⟩
     ·exact hl.elim
    ·exact hl.elim
   ·exact hl.elim
 ·exact hl.elim
end
end Go.Pon
namespace Go.Pon
open Go
def MR(w:World)(ok:Bool→Nat→Prop)(base:Nat):(m:Dz)→List Value→m.den→List Nat→Prop
 | .ro fr t,cs,x,bs=>bs=[]∧DR w (ok fr) t cs x
 | .own fr t,cs,x,bs=>∃ v,cs=[v]∧((v=.slice none 0 0∧x=([]:List t.den)∧bs=[]) ∨
   ∃ g cap cur e,v=.slice (some ⟨g,0,none⟩) (List.length x) cap∧w.heap[g]?=some (.cells cur e (0,0)) ∧
    List.length x≤cap∧cap≤maxLen∧cur.size=cap*t.size∧B7 (DR w (ok fr) t) t.size (cur.toList.take (List.length x*t.size)) x∧(fr=true→base≤g)∧bs=[g])
 | .ptr m,cs,x,bs=>∃ g e cur eo,cs=[.pointer (some ⟨g,0,none⟩)]∧w.heap[g]?=some (.cells cur e (0,0))∧MR w ok base m cur.toList x eo∧bs=g::eo
 | .optr m,cs,x,bs=>match x with
  | none=>cs=[.pointer none]∧bs=[]
  | some y=>∃ g e cur eo,cs=[.pointer (some ⟨g,0,none⟩)]∧w.heap[g]?=some (.cells cur e (0,0))∧MR w ok base m cur.toList y eo∧bs=g::eo
 | .pair a b,cs,x,bs=>∃ c1 c2 b1 b2,cs=c1++c2∧MR w ok base a c1 x.1 b1∧MR w ok base b c2 x.2 b2∧bs=b1++b2
 | .fn f m,cs,x,bs=>∃ vs:Array Value,cs=[.func (.func f) #[] vs]∧MR w ok base m vs.toList x bs
 | .nilm _,cs,_,bs=>cs=[.slice none 0 0]∧bs=[]
 | .full t,cs,x,bs=>t.flat=true∧((cs=[.slice none 0 0]∧x=([]:List t.den)∧bs=[])∨∃ g cap cur e,cs=[.slice (some ⟨g,0,none⟩) (List.length x) (List.length x)]∧w.heap[g]?=some (.cells cur e (0,0)) ∧
   List.length x≤cap∧cap≤maxLen∧cur.size=cap*t.size∧B7 (DR w (ok false) t) t.size (cur.toList.take (List.length x*t.size)) x∧bs=[g])
 | .bor t,cs,x,bs=>bs=[]∧∃ v,cs=[v]∧DR w (ok false) (.slice t) [v] x∧∀ a n c,v=.slice (some a) n c→a.off=0∧a.spot=none
 | .mapm k t,cs,x,bs=>t.flat=true∧∃ g es clock,cs=[.map (some g)]∧w.heap[g]?=some (.map es clock)∧Auv w k t es.toList x∧bs=[g]
 | .rp t,cs,x,bs=>bs=[]∧Bjt cs fun v=>∃ a vs,v=.pointer (some a)∧a.spot=none∧(0<t.size→ok false a.block)∧(∀ j y,vs[j]?=some y→w.cell? (a.add j)=some y)∧DR w (ok false) t vs x
 | .ign,_,_,bs=>bs=[]
 | .orp t,cs,x,bs=>match x with
  | none=>cs=[.pointer none]∧bs=[]
  | some x=>bs=[]∧Bjt cs fun v=>∃ a vs,v=.pointer (some a)∧a.spot=none∧(0<t.size→ok false a.block)∧(∀ j y,vs[j]?=some y→w.cell? (a.add j)=some y)∧DR w (ok false) t vs x
theorem MR.mono{w:World}{ok ok':Bool→Nat→Prop}{base:Nat}(h:∀ f b,ok f b→ok' f b):∀ {m:Dz} {cs:List Value} {x:m.den} {bs:List Nat},MR w ok base m cs x bs→MR w ok' base m cs x bs
 | .ro _ _,_,_,_,⟨h1,h2⟩=>⟨h1,h2.mono (h _)⟩
 | .own _ _,_,_,_,⟨v,h0,hr⟩=>⟨v,h0,hr.imp id fun⟨g,cap,cur,e,h1,h2,h3,h4,h5,h6,h7⟩=>⟨g,cap,cur,e,h1,h2,h3,h4,h5,h6.mono fun _ _=>DR.mono (h _),h7⟩⟩
 | .ptr m,_,_,_,⟨g,e,cur,eo,h1,h2,h3,h4⟩=>⟨g,e,cur,eo,h1,h2,MR.mono h h3,h4⟩
 | .optr m,_,none,_,hr=>hr
 | .optr m,_,some _,_,⟨g,e,cur,eo,h1,h2,h3,h4⟩=>⟨g,e,cur,eo,h1,h2,MR.mono h h3,h4⟩
 | .pair _ _,_,_,_,⟨c1,c2,b1,b2,h1,h2,h3,h4⟩=>⟨c1,c2,b1,b2,h1,MR.mono h h2,MR.mono h h3,h4⟩
 | .fn _ _,_,_,_,⟨vs,h1,h2⟩=>⟨vs,h1,MR.mono h h2⟩
 | .nilm _,_,_,_,hr=>hr
 | .full _,_,_,_,⟨h0,hr⟩=>⟨h0,hr.imp id fun⟨g,cap,cur,e,h1,h2,h3,h4,h5,h6,h7⟩=>⟨g,cap,cur,e,h1,h2,h3,h4,h5,h6.mono fun _ _=>DR.mono (h _),h7⟩⟩
 | .mapm _ _,_,_,_,hr=>hr
 | .bor t,_,_,_,⟨h0,v,h1,h2,h3⟩=>⟨h0,v,h1,DR.mono (t:=.slice t) (h _) h2,h3⟩
 | .rp _,_,_,_,⟨h0,v,h1,h2,a,vs,h3,h4,h5,h6,h7⟩=>⟨h0,v,h1,h2,a,vs,h3,h4,fun hp=>h _ _ (h5 hp),h6,h7.mono (h _)⟩
 | .ign,_,_,_,hr=>hr
 | .orp _,_,none,_,hr=>hr
 | .orp _,_,some _,_,⟨h0,v,h1,h2,a,vs,h3,h4,h5,h6,h7⟩=>⟨h0,v,h1,h2,a,vs,h3,h4,fun hp=>h _ _ (h5 hp),h6,h7.mono (h _)⟩
def MRL(w:World)(ok:Bool→Nat→Prop)(base:Nat):(ms:List Dz)→List Value→Iu ms→List Nat→Prop
 | [],vs,_,bs=>vs=[]∧bs=[]
 | m::ms,vs,x,bs=>∃ v r b1 b2,vs=v::r∧Ck v=m.ty.agg∧MR w ok base m v.cells.toList x.1 b1∧MRL w ok base ms r x.2 b2∧bs=b1++b2
theorem MRL.mono{w:World}{ok ok':Bool→Nat→Prop}{base:Nat}(h:∀ f b,ok f b→ok' f b):∀ {ms:List Dz} {vs:List Value} {x:Iu ms} {bs:List Nat},MRL w ok base ms vs x bs→MRL w ok' base ms vs x bs
 | [],_,_,_,hr=>hr
 | _::_,_,_,_,⟨v,r,b1,b2,h1,h2,h3,h4,h5⟩=>⟨v,r,b1,b2,h1,h2,h3.mono h,MRL.mono h h4,h5⟩
section
variable {K:Dg} {S:St} {used:Id→Nat→Prop} {γ:Id→Value} {a:Act} {w:World}
def Em(S:St)(γ:Id→Value)(l:List Id):List Nat:=l.filterMap fun id=>Bc (Ak S.objs id) (γ id)
theorem Bec{α:Type}{C:Gi}(h:Gd K S used γ a w){frz:Bool}:∀ (v:AV) (t:Ty) {c:Cl} (hc:Xr S frz c) {k:Bool→t.den→Cl→OpT α} {l0 l:List Id} {r:α}
  (hl:A6 C S.objs (roK frz v t c k) l0 r l),
  ∃ fr x c' l1,A6 C S.objs (k fr x c') l1 r l∧Xr S frz c'∧Ext c c'∧Cx c'.ups=Cx c.ups∧Aoe v=t.agg ∧
   ∀ cs,ARc (A3 K S.objs used γ w) v cs→DR w (okL K S γ c' fr) t cs x:=by
 intro v
 induction v with
 | d fr u y =>
  intro t c hc k l0 l r hl
  simp only[roK] at hl
  split at hl
  ·rename_i z hz
   obtain⟨e,rfl⟩:=Cu hz
   subst e
   exact⟨fr,_,c,l0,hl,hc,Ext.refl c,rfl,rfl,fun cs hr=>DR.mono (fun b hb=>Agt (fun h=>h) b hb) hr⟩
  ·exact hl.elim
 | pair v1 v2 xe tq =>
  intro t c hc k l0 l r hl
  cases t with
  | pair t u =>
   obtain⟨f1,x1,c1,l1,a1,a2,a3,a4,a5,a6⟩:=xe t hc hl
   obtain⟨f2,x2,c2,l2,b1,b2,b3,b4,b5,b6⟩:=tq u a2 a1
   refine⟨(f1||t.flat)&&(f2||u.flat),(x1,x2),c2,l2,b1,b2,a3.trans b3,b4.trans a4,rfl,fun cs ⟨d1,d2,e1,e2,e3⟩=>?_⟩
   have k1:=a6 d1 e2
   have k2:=b6 d2 e3
   have hn:=DR.len k1
   refine⟨?_,?_⟩
   ·rw[e1,ad4 (by omega),aa8 (by omega)]
    cases rf:t.flat with
    | true=>exact DR.flat rf k1
    | false=>exact k1.mono (Tc b3 (by simp;intro h _;exact h))
   ·rw[e1,ae7 (by omega),ag5 (by omega)]
    cases hfu:u.flat with
    | true=>exact DR.flat hfu k2
    | false=>exact k2.mono (Tc (Ext.refl _) (by simp))
  | slice t=>obtain⟨f,x,c',l1,a1,a2,a3,a4,a5,a6⟩:=Hl h hc (v:=.pair v1 v2) (k:=k) hl;exact⟨f,x,c',l1,a1,a2,a3,a4,a5,a6⟩
  | _=>exact hl.elim
 | nilp =>
  intro t c hc k l0 l r hl
  cases t with
  | ptr=>exact⟨true,(),c,l0,hl,hc,Ext.refl c,rfl,rfl,fun cs hr=>hr⟩
  | slice t=>obtain⟨f,x,c',l1,a1,a2,a3,a4,a5,a6⟩:=Hl h hc (v:=.nilp) (k:=k) hl;exact⟨f,x,c',l1,a1,a2,a3,a4,a5,a6⟩
  | _=>exact hl.elim
 | any=>intro t c hc k l0 l r hl;cases t with
  | slice t=>obtain⟨f,x,c',l1,a1,a2,a3,a4,a5,a6⟩:=Hl h hc (v:=.any) (k:=k) hl;exact⟨f,x,c',l1,a1,a2,a3,a4,a5,a6⟩
  | _=>exact hl.elim
 | un=>intro t c hc k l0 l r hl;cases t with
  | slice t=>obtain⟨f,x,c',l1,a1,a2,a3,a4,a5,a6⟩:=Hl h hc (v:=.un) (k:=k) hl;exact⟨f,x,c',l1,a1,a2,a3,a4,a5,a6⟩
  | _=>exact hl.elim
 | nils=>intro t c hc k l0 l r hl;cases t with
  | slice t=>obtain⟨f,x,c',l1,a1,a2,a3,a4,a5,a6⟩:=Hl h hc (v:=.nils) (k:=k) hl;exact⟨f,x,c',l1,a1,a2,a3,a4,a5,a6⟩
  | _=>exact hl.elim
 | own i n=>intro t c hc k l0 l r hl;cases t with
  | slice t=>obtain⟨f,x,c',l1,a1,a2,a3,a4,a5,a6⟩:=Hl h hc (v:=.own i n) (k:=k) hl;exact⟨f,x,c',l1,a1,a2,a3,a4,a5,a6⟩
  | _=>exact hl.elim
 | view i n p q cp=>intro t c hc k l0 l r hl;cases t with
  | slice t=>obtain⟨f,x,c',l1,a1,a2,a3,a4,a5,a6⟩:=Hl h hc (v:=.view i n p q cp) (k:=k) hl;exact⟨f,x,c',l1,a1,a2,a3,a4,a5,a6⟩
  | _=>exact hl.elim
 | mapp i=>intro t c hc k l0 l r hl;cases t<;>simp only[roK,Wk,A6] at hl
 | mview i n p q=>intro t c hc k l0 l r hl;cases t with
  | slice t=>obtain⟨f,x,c',l1,a1,a2,a3,a4,a5,a6⟩:=Hl h hc (v:=.mview i n p q) (k:=k) hl;exact⟨f,x,c',l1,a1,a2,a3,a4,a5,a6⟩
  | _=>exact hl.elim
 | ptr i n=>intro t c hc k l0 l r hl;cases t with
  | slice t=>obtain⟨f,x,c',l1,a1,a2,a3,a4,a5,a6⟩:=Hl h hc (v:=.ptr i n) (k:=k) hl;exact⟨f,x,c',l1,a1,a2,a3,a4,a5,a6⟩
  | _=>exact hl.elim
 | eptr i n p q=>intro t c hc k l0 l r hl;cases t with
  | slice t=>obtain⟨f,x,c',l1,a1,a2,a3,a4,a5,a6⟩:=Hl h hc (v:=.eptr i n p q) (k:=k) hl;exact⟨f,x,c',l1,a1,a2,a3,a4,a5,a6⟩
  | _=>exact hl.elim
 | rptr i n p=>intro t c hc k l0 l r hl;cases t with
  | slice t=>obtain⟨f,x,c',l1,a1,a2,a3,a4,a5,a6⟩:=Hl h hc (v:=.rptr i n p) (k:=k) hl;exact⟨f,x,c',l1,a1,a2,a3,a4,a5,a6⟩
  | _=>exact hl.elim
 | tup v ih=>intro t c hc k l0 l r hl;cases t with
  | slice t=>obtain⟨f,x,c',l1,a1,a2,a3,a4,a5,a6⟩:=Hl h hc (v:=.tup v) (k:=k) hl;exact⟨f,x,c',l1,a1,a2,a3,a4,a5,a6⟩
  | _=>exact hl.elim
 | ub e r0=>intro t c hc k l0 l r hl;cases t with
  | slice t=>obtain⟨f,x,c',l1,a1,a2,a3,a4,a5,a6⟩:=Hl h hc (v:=.ub e r0) (k:=k) hl;exact⟨f,x,c',l1,a1,a2,a3,a4,a5,a6⟩
  | _=>exact hl.elim
 | fn g v ih=>intro t c hc k l0 l r hl;cases t with
  | slice t=>obtain⟨f,x,c',l1,a1,a2,a3,a4,a5,a6⟩:=Hl h hc (v:=.fn g v) (k:=k) hl;exact⟨f,x,c',l1,a1,a2,a3,a4,a5,a6⟩
  | _=>exact hl.elim
end
end Go.Pon
namespace Go.Pon
open Go
section
variable {K:Dg} {S:St} {used:Id→Nat→Prop} {γ:Id→Value} {a:Act} {w:World}
theorem Kc(t:Ty):La t []=some t∧inT t []∧Bz t []=0:=by cases t<;>exact⟨rfl,trivial,rfl⟩
def Bbw(S:St)(new:List Id)(m:Dz):AV→Prop
 | .ptr id p=>p=[]∧id∈new∧∃ fr c,Ak S.objs id=some (.mem fr m.ty c)
 | _=>False
def Bvo(S:St)(new:List Id):Dz→AV→Prop
 | .ptr m,v=>Bbw S new m v
 | .optr m,v=>v=.nilp∨Bbw S new m v
 | _,_=>True
theorem Bbw.mono{new ny:List Id}(h:∀ i,i∈new→i∈ny){m:Dz}{v:AV}(hb:Bbw S new m v):Bbw S ny m v:=by
 cases v<;>first|exact hb.elim|exact⟨hb.1,h _ hb.2.1,hb.2.2⟩
theorem Bvo.mono{new ny:List Id}(h:∀ i,i∈new→i∈ny){m:Dz}{v:AV}(hb:Bvo S new m v):Bvo S ny m v:=by
 cases m<;>first|trivial|exact Bbw.mono h hb|exact hb.imp id (Bbw.mono h)
theorem Bqj(S:St)(γ:Id→Value)(l m:List Id):Em S γ (l++m)=Em S γ l++Em S γ m:=by simp[Em]
theorem Bq2(h:Gd K S used γ a w){id:Id}{fr:Bool}{u:Ty}{x:AV}(ak:Ak S.objs id=some (.mem fr u x)){m:Dz}(hu:u=m.ty)
  {ok:Bool→Nat→Prop} {y:m.den} {new:List Id} (hm:∀ cs,ARc (A3 K S.objs used γ w) x cs→MR w ok K.base m cs y (Em S γ new)) {cs:List Value}
  (hr:ARc (A3 K S.objs used γ w) (.ptr id []) cs) :
  ∃ g e cur eo,cs=[.pointer (some ⟨g,0,none⟩)]∧w.heap[g]?=some (.cells cur e (0,0))∧MR w ok K.base m cur.toList y eo∧Em S γ (id::new)=g::eo:=by
 obtain⟨_,v0,rfl,_,ct⟩:=hr
 obtain⟨g,u',h1,h2,h3,h4⟩:=ct u (Aa2 _ fr u x (.inl ak))
 have h1:γ id=_:=h1
 obtain⟨g',e,cur,o1,o2,o3,o4,o5⟩:=h.objs id _ ak
 have o1:γ id=_:=o1
 rw[h1] at o1
 cases o1
 have h0:Bz u []=0:=by cases u<;>rfl
 refine⟨g,e,cur,Em S γ new,by rw[h4,h0],o2,hm _ o4,?_⟩
 simp[Em,ak,h1,Bc]
theorem Bxp{α:Type}{C:Gi}(h:Gd K S used γ a w){frz:Bool}:∀ (m:Dz) (v:AV) {c:Cl} (hc:Xr S frz c) {k:m.den→Cl→OpT α} {l0 l:List Id} {r:α}
  (hl:A6 C S.objs (De frz m v c k) l0 r l),
  ∃ x c' l1 new,A6 C S.objs (k x c') l1 r l∧Xr S frz c'∧Ext c c'∧(Cx c'.ups).Perm (new++Cx c.ups)∧Aoe v=m.ty.agg∧Bvo S new m v ∧
   ∀ cs,ARc (A3 K S.objs used γ w) v cs→MR w (okL K S γ c') K.base m cs x (Em S γ new):=by
 intro m
 induction m with
 | ro fr t =>
  intro v c hc k l0 l r hl
  simp only[De] at hl
  obtain⟨f,x,c',l1,a1,a2,a3,a4,a5,a6⟩:=Bec h v t hc hl
  cases hb:(!fr||f||t.flat) with
  | false=>rw[hb] at a1;exact a1.elim
  | true =>
   rw[hb] at a1
   refine⟨x,c',l1,[],a1,a2,a3,by rw[a4];exact ad5 _,a5,trivial,fun cs hr=>⟨rfl,?_⟩⟩
   have hd:=a6 cs hr
   simp only[ak8,an4] at hb
   rcases hb with (rfl|rfl)|hb
   ·exact hd.mono (Tc (Ext.refl _) (by simp))
   ·exact hd.mono (Tc (Ext.refl _) (by simp))
   ·exact DR.flat hb hd
 | own fr t =>
  intro v c hc k l0 l r hl
  cases v
  case own id ab =>
   simp only[De] at hl
   cases hb:(Am4 c.ups id||Bbq c.br id) with
   | true=>rw[hb] at hl;exact hl.elim
   | false =>
    rw[hb] at hl
    rw[al1] at hb
    obtain⟨ob,ak,hl⟩:=hl
    dsimp only at hl
    split at hl
    ·rename_i af fr' u rows
     split at hl
     ·rename_i y h1 hy
      obtain⟨e,rfl⟩:=Cu hy
      cases e
      simp only[aa5,ak8,an4] at h1
      obtain⟨h1,h2⟩:=h1
      obtain rfl:=ab1 h1
      obtain⟨i1,i2,i3⟩:=hc.move hb.1 hb.2 ⟨_,ak⟩
      refine⟨_,_,_,[id],hl,i1,i2,by rw[i3];exact ad5 _,rfl,trivial,fun cs hr=>?_⟩
      obtain⟨_,v0,rfl,_,ct⟩:=hr
      have ct:v0=γ id:=ct _ _ (Fp _ af fr' _ rows (.inl ak))
      have rz:fr=true→fr'=true:=fun hf=>by
       rcases h2 with h2|h2
       ·rw[h2] at hf;cases hf
       ·exact h2
      refine⟨v0,rfl,?_⟩
      rcases h.objs id _ ak with⟨h1,h2⟩ | ⟨g,cap,cur,e,h1,h2,h3,h4,h5,h6,h7⟩
      ·exact .inl ⟨ct.trans h1,h2,by have h1:γ id=_:=h1;simp[Em,ak,h1,Bc]⟩
      ·exact .inr ⟨g,cap,cur,e,ct.trans h1,h2,h3,h4,h5,h6.mono fun _ _=>DR.mono fun b hb=>Agt rz b hb,fun hf=>h7 (rz hf),by have h1:γ id=_:=h1;simp[Em,ak,h1,Bc]⟩
     ·exact hl.elim
    ·exact hl.elim
  case nils =>
   simp only[De] at hl
   exact⟨_,c,l0,[],hl,hc,Ext.refl c,ad5 _,rfl,trivial,fun cs hr=>⟨_,hr,.inl ⟨rfl,rfl,rfl⟩⟩⟩
  all_goals (simp only[De,A6] at hl)
 | ptr m ih =>
  intro v c hc k l0 l r hl
  cases v
  case ptr id p =>
   cases p with
   | cons _ _=>simp only[De,A6] at hl
   | nil =>
    simp only[De] at hl
    cases hb:(Am4 c.ups id||Bbq c.br id) with
    | true=>rw[hb] at hl;exact hl.elim
    | false =>
     rw[hb] at hl
     rw[al1] at hb
     obtain⟨ob,ak,hl⟩:=hl
     dsimp only at hl
     split at hl
     ·rename_i fr u x
      cases hu:Ty.beq u m.ty with
      | false=>rw[hu] at hl;exact hl.elim
      | true =>
       rw[hu] at hl
       have hu:=Ty.beq_iff.1 hu
       obtain⟨i1,i2,i3⟩:=hc.move hb.1 hb.2 ⟨_,ak⟩
       obtain⟨y,c',l1,new,a1,a2,a3,a4,a5,a6,a7⟩:=ih x i1 hl
       refine⟨y,c',l1,id::new,a1,a2,i2.trans a3,?_,rfl,⟨rfl,by simp,fr,x,by rw[ak,hu]⟩,fun cs hr=>?_⟩
       ·rw[i3] at a4
        exact a4.trans List.perm_middle
       ·exact Bq2 h ak hu a7 hr
     ·exact hl.elim
  all_goals (simp only[De,A6] at hl)
 | optr m ih =>
  intro v c hc k l0 l r hl
  cases v
  case ptr id p =>
   cases p with
   | cons _ _=>simp only[De,A6] at hl
   | nil =>
    simp only[De] at hl
    cases hb:(Am4 c.ups id||Bbq c.br id) with
    | true=>rw[hb] at hl;exact hl.elim
    | false =>
     rw[hb] at hl
     rw[al1] at hb
     obtain⟨ob,ak,hl⟩:=hl
     dsimp only at hl
     split at hl
     ·rename_i fr u x
      cases hu:Ty.beq u m.ty with
      | false=>rw[hu] at hl;exact hl.elim
      | true =>
       rw[hu] at hl
       have hu:=Ty.beq_iff.1 hu
       obtain⟨i1,i2,i3⟩:=hc.move hb.1 hb.2 ⟨_,ak⟩
       obtain⟨y,c',l1,new,a1,a2,a3,a4,a5,a6,a7⟩:=ih x i1 hl
       refine⟨some y,c',l1,id::new,a1,a2,i2.trans a3,?_,rfl,.inr ⟨rfl,by simp,fr,x,by rw[ak,hu]⟩,fun cs hr=>?_⟩
       ·rw[i3] at a4
        exact a4.trans List.perm_middle
       ·exact Bq2 h ak hu a7 hr
     ·exact hl.elim
  case nilp =>
   simp only[De] at hl
   exact⟨none,c,l0,[],hl,hc,Ext.refl c,ad5 _,rfl,.inl rfl,fun cs hr=>⟨hr,rfl⟩⟩
  all_goals (simp only[De,A6] at hl)
 | pair p q xe tq =>
  intro v c hc k l0 l r hl
  have key:∀ v1 v2,A6 C S.objs (De frz p v1 c fun x c=>De frz q v2 c fun y c=>k (x,y) c) l0 r l→∃ x c' l1 new,A6 C S.objs (k x c') l1 r l∧Xr S frz c'∧Ext c c'∧(Cx c'.ups).Perm (new++Cx c.ups) ∧
    ∀ c1 c2,ARc (A3 K S.objs used γ w) v1 c1→ARc (A3 K S.objs used γ w) v2 c2→MR w (okL K S γ c') K.base (.pair p q) (c1++c2) x (Em S γ new):=by
   intro v1 v2 hl
   obtain⟨x1,c1,l1,n1,a1,a2,a3,a4,a5,a6,a7⟩:=xe v1 hc hl
   obtain⟨x2,c2,l2,n2,b1,b2,b3,b4,b5,b6,b7⟩:=tq v2 a2 a1
   refine⟨(x1,x2),c2,l2,n1++n2,b1,b2,a3.trans b3,?_,fun d1 d2 e1 e2=>⟨d1,d2,_,_,rfl,(a7 d1 e1).mono fun f=>Tc b3 id,b7 d2 e2,Bqj ..⟩⟩
   exact (b4.trans ((ar2 n2 a4))).trans (by rw[← ab6];exact List.Perm.append_right _ aj7)
  cases v
  case pair v1 v2 =>
   simp only[De] at hl
   obtain⟨x,c',l1,new,a1,a2,a3,a4,a5⟩:=key v1 v2 hl
   exact⟨x,c',l1,new,a1,a2,a3,a4,rfl,trivial,fun cs ⟨d1,d2,e1,e2,e3⟩=>by rw[e1];exact a5 d1 d2 e2 e3⟩
  case d fr t z =>
   cases t
   case pair t u =>
    simp only[De] at hl
    obtain⟨x,c',l1,new,a1,a2,a3,a4,a5⟩:=key (.d fr t z.1) (.d fr u z.2) hl
    refine⟨x,c',l1,new,a1,a2,a3,a4,rfl,trivial,fun cs hr=>?_⟩
    rw[← ad7 t.size cs]
    exact a5 _ _ hr.1 hr.2
   all_goals (simp only[De,A6] at hl)
  all_goals (simp only[De,A6] at hl)
 | full t =>
  intro v c hc k l0 l r hl
  cases v
  case view id ab lo hi cp =>
   simp only[De] at hl
   cases hb:(!(cp&&Nat.beq lo 0&&t.flat)||(Am4 c.ups id||Bbq c.br id)) with
   | true=>rw[hb] at hl;exact hl.elim
   | false =>
    rw[hb] at hl
    simp only[al1,Bool.not_eq_false',aa5] at hb
    obtain⟨⟨⟨hcp,fv⟩,qo⟩,f0,jr⟩:=hb
    obtain rfl:=ab1 fv
    subst hcp
    obtain⟨ob,ak,hl⟩:=hl
    dsimp only at hl
    split at hl
    ·rename_i af fr' u rows
     split at hl
     ·rename_i y h1 hy
      obtain⟨e,rfl⟩:=Cu hy
      cases e
      obtain rfl:=ab1 h1
      obtain⟨hq,hl⟩:=C7 hl
      simp only[aa5,ac4] at hq
      obtain⟨vo,qp⟩:=hq
      obtain⟨i1,i2,i3⟩:=hc.move f0 jr ⟨_,ak⟩
      refine⟨_,_,_,[id],hl,i1,i2,by rw[i3];exact ad5 _,rfl,trivial,fun cs hr=>?_⟩
      obtain⟨_,v0,rfl,_,ct⟩:=hr
      obtain⟨v1,v2,ad,cc,v3,v4,v5,v6,v7,v8⟩:=ct _ _ (Fp _ af fr' _ rows (.inl ak))
      obtain⟨g,m,ru,k1,k2⟩:=v7 vo
      have k1:γ id=_:=k1
      rcases h.objs id _ ak with⟨h1,h2⟩ | ⟨g',cap,cur,e,h1,h2,h3,h4,h5,h6,h7⟩
      ·have h1:γ id=_:=h1
       rw[k1] at h1;cases h1
      ·have h1:γ id=_:=h1
       have hg:g=g':=by rw[k1] at h1;cases h1;rfl
       subst hg
       refine⟨qo,.inr ⟨g,cap,cur,e,?_,h2,h3,h4,h5,h6.mono fun _ _=>DR.flat qo,by simp[Em,ak,h1,Bc]⟩⟩
       rw[v3,k2,v8 rfl,al9,ak1,qp]
     ·exact hl.elim
    ·exact hl.elim
  case nils =>
   simp only[De] at hl
   cases hf:t.flat with
   | false=>rw[hf] at hl;exact hl.elim
   | true =>
    rw[hf] at hl
    exact⟨_,c,l0,[],hl,hc,Ext.refl c,ad5 _,rfl,trivial,fun cs hr=>⟨hf,.inl ⟨hr,rfl,rfl⟩⟩⟩
  all_goals (simp only[De,A6] at hl)
 | bor t =>
  intro v c hc k l0 l r hl
  cases v
  case own id ab =>
   simp only[De] at hl
   cases hg:Anf c.ups id with
   | true=>rw[hg] at hl;exact hl.elim
   | false =>
    rw[hg] at hl
    have kj:¬ (id,none)∈c.ups:=fun hm=>by rw[Akx.2 hm] at hg;cases hg
    have key:∀ (af:Nat) (fr:Bool) (rows:List t.den) (c':Cl),af=ab→(Ak S.objs id=some (.sli af fr t rows)∨Ak S.objs id=some (.frz af fr t rows)) →
      ((∃ ab fr t rows,Ak S.objs id=some (.sli ab fr t rows))→lent c' id) →
      ∀ cs,ARc (A3 K S.objs used γ w) (.own id ab) cs→MR w (okL K S γ c') K.base (.bor t) cs rows (Em S γ []):=by
     intro af fr rows c' tr bz ag cs hr
     subst tr
     obtain⟨_,v0,rfl,_,ct⟩:=hr
     have ct:v0=γ id:=ct _ _ (Fp _ af fr _ rows bz)
     refine⟨rfl,v0,rfl,?_,fun a n c e=>?_⟩
     ·rw[ct]
      exact DR.mono (t:=.slice t) (Tc (Ext.refl _) (by simp)) (Bvx h bz ag)
     ·rw[ct] at e
      rcases bz with bz|bz
      ·rcases h.objs id _ bz with⟨h1,_⟩ | ⟨g,cap,cur,e',h1,_⟩
       ·have h1:γ id=_:=h1
        rw[h1] at e;cases e
       ·have h1:γ id=_:=h1
        rw[h1] at e;cases e;exact⟨rfl,rfl⟩
      ·exact (h.objs id _ bz).2 a n c e
    obtain⟨ob,ak,hl⟩:=hl
    dsimp only at hl
    split at hl
    ·rename_i af fr u rows
     split at hl
     ·rename_i y h1 hy
      obtain⟨e,rfl⟩:=Cu hy
      cases e
      obtain rfl:=ab1 h1
      obtain⟨i1,i2,i3,i4⟩:=hc.lend (id:=id) (o:=.frz af fr t rows) kj (.inl ⟨_,_,_,_,ak,rfl⟩)
      exact⟨_,_,_,[],hl,i1,i2,by rw[i3];exact ad5 _,rfl,trivial,key af fr rows _ rfl (.inl ak) fun _=>i4⟩
     ·exact hl.elim
    ·rename_i af fr u rows
     split at hl
     ·rename_i y h1 hy
      obtain⟨e,rfl⟩:=Cu hy
      cases e
      obtain rfl:=ab1 h1
      exact⟨_,c,_,[],hl,hc,Ext.refl c,ad5 _,rfl,trivial,key af fr rows c rfl (.inr ak) fun⟨_,_,_,_,h⟩=>by rw[ak] at h;cases h⟩
     ·exact hl.elim
    ·exact hl.elim
  all_goals (simp only[De,A6] at hl)
 | mapm kk t =>
  intro v c hc k l0 l r hl
  cases v
  case mapp id =>
   simp only[De] at hl
   cases hb:(Am4 c.ups id||Bbq c.br id) with
   | true=>rw[hb] at hl;exact hl.elim
   | false =>
    rw[hb] at hl
    rw[al1] at hb
    obtain⟨ob,ak,hl⟩:=hl
    dsimp only at hl
    split at hl
    ·rename_i rq u rows
     split at hl
     ·rename_i y h1 hy
      obtain⟨e,rfl⟩:=Cu hy
      cases e
      obtain rfl:=And.1 h1
      obtain⟨i1,i2,i3⟩:=hc.move hb.1 hb.2 ⟨_,ak⟩
      refine⟨_,_,_,[id],hl,i1,i2,by rw[i3];exact ad5 _,rfl,trivial,fun cs hr=>?_⟩
      obtain⟨_,v0,rfl,_,ct⟩:=hr
      have ct:v0=γ id:=ct _ _ ⟨rows,ak⟩
      obtain⟨h0,g,es,clock,h1,h2,h3⟩:=h.objs id _ ak
      have h1:γ id=_:=h1
      exact⟨h0,g,es,clock,by rw[ct,h1],h2,h3,by simp[Em,ak,h1,Bc]⟩
     ·exact hl.elim
    ·exact hl.elim
  all_goals (simp only[De,A6] at hl)
 | rp t =>
  intro v c hc k l0 l r hl
  cases v
  case rptr f u x =>
   simp only[De] at hl
   split at hl
   ·rename_i y hy
    obtain⟨e,rfl⟩:=Cu hy
    subst e
    refine⟨_,c,l0,[],hl,hc,Ext.refl c,ad5 _,rfl,trivial,fun cs hr=>⟨rfl,?_⟩⟩
    obtain⟨v,h1,h2,a,vs,h3,h4,h5,h6,h7⟩:=hr
    exact⟨v,h1,h2,a,vs,h3,h4,fun hp=>Agt (by simp) _ (h5 hp),h6,h7.mono fun b hb=>Agt (by simp) b hb⟩
   ·exact hl.elim
  case ptr id p =>
   cases p with
   | cons _ _=>simp only[De,A6] at hl
   | nil =>
    simp only[De] at hl
    cases hg:Anf c.ups id with
    | true=>rw[hg] at hl;exact hl.elim
    | false =>
     rw[hg] at hl
     have kj:¬ (id,none)∈c.ups:=fun hm=>by rw[Akx.2 hm] at hg;cases hg
     have key:∀ (fm:Bool) (m:AV) (x:t.den) (f:Bool) (c':Cl),(Ak S.objs id=some (.mem fm t m)∨Ak S.objs id=some (.mfz fm t m))→((∃ fr t m,Ak S.objs id=some (.mem fr t m))→lent c' id) →
       (∀ cs,ARc (A3 K S.objs used γ w) m cs→DR w (okL K S γ c' f) t cs x)→∀ cs,ARc (A3 K S.objs used γ w) (.ptr id []) cs→MR w (okL K S γ c') K.base (.rp t) cs x (Em S γ []):=by
      intro fm m x f c' bz ag hx cs hr
      obtain⟨_,v0,rfl,mn,ct⟩:=hr
      obtain⟨g,u',q1,q2,q3,q4⟩:=ct t (Aa2 _ fm t m bz)
      obtain⟨g',e',cur,m1,m2,m3,m4⟩:=Azb h bz
      have q1:γ id=_:=q1
      rw[q1] at m1
      cases m1
      have dw:okL K S γ c' false g:=by
       rcases bz with bz|bz
       ·have da:Bc (Ak S.objs id) (γ id)=some g:=by rw[bz,q1];rfl
        exact⟨fun j7 dj=>by rw[h.sep j7 id g dj da];exact ag ⟨_,_,_,bz⟩,(h.mod id g da).2,fun hf=>by cases hf⟩
       ·obtain⟨_,o6⟩:=h.objs id _ bz
        exact Agt (by simp) g (o6 _ q1)
      refine⟨rfl,v0,rfl,mn,⟨g,0,none⟩,cur.toList,by rw[q4,(Kc t).2.2],rfl,fun _=>dw,fun j y hj=>?_,(hx _ m4).mono (Tc (Ext.refl _) (by simp))⟩
      have:=Ab7 m2 0 cur.size j y (by
       rw[ag0,aa8 (by simp)]
       exact hj)
      simpa using this
     obtain⟨ob,ak,hl⟩:=hl
     dsimp only at hl
     split at hl
     ·rename_i fm u m
      cases hu:Ty.beq u t with
      | false=>rw[hu] at hl;exact hl.elim
      | true =>
       rw[hu] at hl
       obtain rfl:=Ty.beq_iff.1 hu
       obtain⟨i1,i2,i3,i4⟩:=hc.lend (id:=id) (o:=.mfz fm u m) kj (.inr ⟨_,_,_,ak,rfl⟩)
       obtain⟨f,x,c',l1,a1,a2,a3,a4,a5,a6⟩:=Bec h m u i1 hl
       exact⟨x,c',l1,[],a1,a2,i2.trans a3,by rw[a4,i3];exact ad5 _,rfl,trivial,key fm m x f c' (.inl ak) (fun _=>a3.lent i4) a6⟩
     ·rename_i fm u m
      cases hu:Ty.beq u t with
      | false=>rw[hu] at hl;exact hl.elim
      | true =>
       rw[hu] at hl
       obtain rfl:=Ty.beq_iff.1 hu
       obtain⟨f,x,c',l1,a1,a2,a3,a4,a5,a6⟩:=Bec h m u hc hl
       exact⟨x,c',l1,[],a1,a2,a3,by rw[a4];exact ad5 _,rfl,trivial,key fm m x f c' (.inr ak) (fun⟨_,_,_,h⟩=>by rw[ak] at h;cases h) a6⟩
     ·exact hl.elim
  all_goals (simp only[De,A6] at hl)
 | ign =>
  intro v c hc k l0 l r hl
  cases v
  case fn f x =>
   simp only[De] at hl
   exact⟨(),c,l0,[],hl,hc,Ext.refl c,ad5 _,rfl,trivial,fun cs hr=>rfl⟩
  all_goals (simp only[De,A6] at hl)
 | orp t =>
  intro v c hc k l0 l r hl
  cases v
  case nilp =>
   simp only[De] at hl
   exact⟨none,c,l0,[],hl,hc,Ext.refl c,ad5 _,rfl,trivial,fun cs hr=>⟨hr,rfl⟩⟩
  case rptr f u x =>
   simp only[De] at hl
   split at hl
   ·rename_i y hy
    obtain⟨e,rfl⟩:=Cu hy
    subst e
    refine⟨_,c,l0,[],hl,hc,Ext.refl c,ad5 _,rfl,trivial,fun cs hr=>⟨rfl,?_⟩⟩
    obtain⟨v,h1,h2,a,vs,h3,h4,h5,h6,h7⟩:=hr
    exact⟨v,h1,h2,a,vs,h3,h4,fun hp=>Agt (by simp) _ (h5 hp),h6,h7.mono fun b hb=>Agt (by simp) b hb⟩
   ·exact hl.elim
  all_goals (simp only[De,A6] at hl)
 | nilm t =>
  intro v c hc k l0 l r hl
  cases v
  case nils =>
   simp only[De] at hl
   exact⟨(),c,l0,[],hl,hc,Ext.refl c,ad5 _,rfl,trivial,fun cs hr=>⟨hr,rfl⟩⟩
  all_goals (simp only[De,A6] at hl)
 | fn f m ih =>
  intro v c hc k l0 l r hl
  cases v
  case fn g x =>
   simp only[De] at hl
   cases hg:Nat.beq f g with
   | false=>rw[hg] at hl;exact hl.elim
   | true =>
    rw[hg] at hl
    obtain rfl:=ab1 hg
    obtain⟨y,c',l1,new,a1,a2,a3,a4,a5,a6,a7⟩:=ih x hc hl
    exact⟨y,c',l1,new,a1,a2,a3,a4,rfl,trivial,fun cs ⟨vs,e1,e2⟩=>⟨vs,e1,a7 _ e2⟩⟩
  all_goals (simp only[De,A6] at hl)
def Bfy:AV→Bool
 | .any=>false
 | .un=>false
 | .tup _=>false
 | _=>true
theorem Zk{E:U5}{v:AV}{val:Value}(hs:Bfy v=true)(h:Dn E v val):Ev E v val:=by
 cases v<;>first|exact h|cases hs
theorem Bt0{α:Type}{C:Gi}{frz:Bool}{m:Dz}{v:AV}{c:Cl}{k:m.den→Cl→OpT α}{l0 l:List Id}{r:α}(hl:A6 C S.objs (De frz m v c k) l0 r l):Bfy v=true:=by
 cases v
 case any=>cases m with
  | ro fr t=>cases t<;>simp only[De,roK,Wk,A6] at hl
  | _=>simp only[De,A6] at hl
 case un=>cases m with
  | ro fr t=>cases t<;>simp only[De,roK,Wk,A6] at hl
  | _=>simp only[De,A6] at hl
 case tup _=>cases m with
  | ro fr t=>cases t<;>simp only[De,roK,Wk,A6] at hl
  | _=>simp only[De,A6] at hl
 all_goals rfl
theorem Uq{α:Type}{C:Gi}(h:Gd K S used γ a w){frz:Bool}:∀ (ms:List Dz) (vs:List AV) {c:Cl} (hc:Xr S frz c) {k:Iu ms→Cl→OpT α} {l0 l:List Id} {r:α}
  (hl:A6 C S.objs (Xc frz ms vs c k) l0 r l),
  ∃ x c' l1 new,A6 C S.objs (k x c') l1 r l∧Xr S frz c'∧Ext c c'∧(Cx c'.ups).Perm (new++Cx c.ups)∧(∀ (i:Nat) (m:Dz) (v:AV),ms[i]?=some m→vs[i]?=some v→Bvo S new m v) ∧
   ∀ vals:List Value,vals.length=vs.length→(∀ (i:Nat) (v:AV) (val:Value),vs[i]?=some v→vals[i]?=some val→Dn (A3 K S.objs used γ w) v val)→MRL w (okL K S γ c') K.base ms vals x (Em S γ new):=by
 intro ms
 induction ms with
 | nil =>
  intro vs c hc k l0 l r hl
  cases vs with
  | nil=>exact⟨(),c,l0,[],hl,hc,Ext.refl c,ad5 _,by simp,fun vals hv _=>⟨by simpa using hv,rfl⟩⟩
  | cons _ _=>exact hl.elim
 | cons m ms ih =>
  intro vs c hc k l0 l r hl
  cases vs with
  | nil=>exact hl.elim
  | cons v vs =>
   obtain⟨x1,c1,l1,n1,a1,a2,a3,a4,a5,a6,a7⟩:=Bxp h m v hc hl
   obtain⟨x2,c2,l2,n2,b1,b2,b3,b4,b5,b6⟩:=ih vs a2 a1
   refine⟨(x1,x2),c2,l2,n1++n2,b1,b2,a3.trans b3,?_,fun i m' v' h1 h2=>?_,fun vals hv hr=>?_⟩
   ·exact (b4.trans ((ar2 n2 a4))).trans (by rw[← ab6];exact List.Perm.append_right _ aj7)
   ·cases i with
    | zero =>
     simp at h1 h2
     subst h1 h2
     exact a6.mono (fun _ h=>al2 _ h)
    | succ i=>exact (b5 i m' v' (by simpa using h1) (by simpa using h2)).mono (fun _ h=>aj6 _ h)
   ·cases vals with
    | nil=>simp at hv
    | cons val vals =>
     have ct:=hr 0 v val rfl rfl
     have h1:=b6 vals (by simpa using hv) (fun i v' dt e1 e2=>hr (i+1) v' dt (by simpa using e1) (by simpa using e2))
     obtain⟨k1,k2⟩:=Zk (Bt0 hl) ct
     exact⟨val,vals,_,_,rfl,by rw[← k2,a5],(a7 _ k1).mono fun f=>Tc b3 id,h1,Bqj ..⟩
end
end Go.Pon
namespace Go.Pon
open Go
abbrev I7:=List (Id×Obj×Value)
def I7.ups(N:I7):Pm:=N.map fun p=>(p.1,some p.2.1)
def I7.blk(N:I7):List Nat:=N.filterMap fun p=>Bc (some p.2.1) p.2.2
def Obj.isNew:Obj→Prop
 | .sli 0 _ _ _=>True
 | .mem _ _ _=>True
 | .frz 0 _ _ _=>True
 | .mpo _ _ _=>True
 | _=>False
structure Ahe(n n':Id)(N:I7):Prop where
 fst:n'.1=n.1
 snd:n'.2.1=n.2.1
 le:n.2.2≤n'.2.2
 ids:∀ p∈N,p.1.1=n.1∧p.1.2.1=n.2.1∧n.2.2≤p.1.2.2∧p.1.2.2<n'.2.2
 nodup:(N.map (·.1)).Nodup
 fresh:∀ p∈N,p.2.1.isNew
theorem Ahe.nil(n:Id):Ahe n n []:=⟨rfl,rfl,ab4 _,by simp,by simp,by simp⟩
theorem Ahe.app{n n' qy:Id}{N M:I7}(h:Ahe n n' N)(k:Ahe n' qy M):Ahe n qy (M++N) where
 fst:=k.fst.trans h.fst
 snd:=k.snd.trans h.snd
 le:=af2 h.le k.le
 ids:=fun p hp=>by
  rcases ad9.1 hp with hp|hp
  ·obtain⟨h1,h2,h3,h4⟩:=k.ids p hp
   exact⟨h1.trans h.fst,h2.trans h.snd,af2 h.le h3,h4⟩
  ·obtain⟨h1,h2,h3,h4⟩:=h.ids p hp
   exact⟨h1,h2,h3,ae3 h4 k.le⟩
 nodup:=by
  rw[at2,an5]
  refine⟨k.nodup,h.nodup,fun i hi j hj e=>?_⟩
  obtain⟨p,hp,rfl⟩:=ag8.1 hi
  obtain⟨q,hq,rfl⟩:=ag8.1 hj
  have h1:=k.ids p hp
  have h2:=h.ids q hq
  rw[e] at h1
  omega
 fresh:=fun p hp=>by
  rcases ad9.1 hp with hp|hp
  ·exact k.fresh p hp
  ·exact h.fresh p hp
theorem Ahe.cons{n n':Id}{N:I7}(h:Ahe n.nxt n' N){o:Obj}(ho:o.isNew)(v:Value):Ahe n n' ((n,o,v)::N):=by
 obtain⟨n1,n2,n3⟩:=n
 obtain⟨h1,h2,h3,h4,h5,h6⟩:=h
 simp only[Id.nxt] at *
 refine⟨h1,h2,by show n3≤_;omega,fun p hp=>?_,?_,fun p hp=>?_⟩
 ·simp only[aa9] at hp
  rcases hp with rfl|hp
  ·exact⟨rfl,rfl,ab4 _,by show n3<_;omega⟩
  ·obtain⟨k1,k2,k3,k4⟩:=h4 p hp
   exact⟨k1,k2,by show n3≤_;omega,k4⟩
 ·simp only[ae5,ai8]
  refine⟨fun hm=>?_,h5⟩
  obtain⟨p,hp,e⟩:=ag8.1 hm
  have:=(h4 p hp).2.2.1
  rw[e] at this
  simp at this
  omega
 ·simp only[aa9] at hp
  rcases hp with rfl|hp
  ·exact ho
  ·exact h6 p hp
theorem I7.blk_app(N M:I7):I7.blk (N++M)=I7.blk N++I7.blk M:=by simp[I7.blk]
theorem I7.ups_app(N M:I7):I7.ups (N++M)=I7.ups N++I7.ups M:=by simp[I7.ups]
structure Zd(w:World)(ok:Bool→Nat→Prop)(base:Nat)(N:I7)(K:Dg)(E:U5):Prop where
 base:K.base=base
 w:E.w=w
 ok:∀ f b,ok f b→E.ok f b
 at_:∀ p∈N,E.o p.1=some p.2.1∧E.γ p.1=p.2.2∧E.used p.1 0
theorem Zd.sub{w:World}{ok:Bool→Nat→Prop}{base:Nat}{N M:I7}{K:Dg}{E:U5}(h:Zd w ok base N K E)(hs:∀ p∈M,p∈N):Zd w ok base M K E :=
 ⟨h.base,h.w,h.ok,fun p hp=>h.at_ p (hs p hp)⟩
section
variable {α:Type} {C:Gi} {objs:Pm} {w:World} {ok:Bool→Nat→Prop} {base:Nat}
theorem Bnk{N:I7}{n:Id}{v:AV}{m:Dz}{g e}{cur:Array Value}{K:Dg}{E:U5}(hg:w.heap[g]?=some (.cells cur e (0,0)))(hf:Bg m.ty v=true)
  (hv:∀ (K:Dg) (E:U5),Zd w ok base N K E→ARc E v cur.toList∧∀ p∈N,OR K E p.1 p.2.1)
  (hp:Zd w ok base ((n,.mem false m.ty v,.pointer (some ⟨g,0,none⟩))::N) K E) :
  ARc E (.ptr n []) [.pointer (some ⟨g,0,none⟩)]∧∀ p∈((n,Obj.mem false m.ty v,Value.pointer (some ⟨g,0,none⟩))::N:I7),OR K E p.1 p.2.1:=by
 obtain⟨h1,h2⟩:=hv K E (hp.sub fun p hp=>ab8 _ hp)
 obtain⟨p1,p2,p3⟩:=hp.at_ _ (ac1 ..)
 refine⟨⟨p3,_,rfl,rfl,fun t ht=>⟨g,t,p2,(Kc t).1,(Kc t).2.1,by rw[(Kc t).2.2]⟩⟩,fun p hm=>?_⟩
 rcases aa9.1 hm with rfl|hm
 ·exact⟨g,e,cur,p2,by rw[hp.w];exact hg,hf,h1,fun h=>by cases h⟩
 ·exact h2 p hm
theorem Blx:∀ (m:Dz) {cs:List Value} {x:m.den} {bs:List Nat} (hm:MR w ok base m cs x bs) {n:Id} {u:Pm} {k:AV→Id→Pm→OpT α} {l0 l:List Id} {r:α}
  (hl:A6 C objs (Ay5 m x n u k) l0 r l),
  ∃ v n' N,A6 C objs (k v n' (I7.ups N++u)) l0 r l∧Ahe n n' N∧Bg m.ty v=true∧Bfy v=true∧(I7.blk N).Perm bs ∧
   ∀ (K:Dg) (E:U5),Zd w ok base N K E→ARc E v cs∧∀ p∈N,OR K E p.1 p.2.1:=by
 intro m
 induction m with
 | ro fr t =>
  rintro cs x bs ⟨rfl,hd⟩ n u k l0 l r hl
  refine⟨_,n,[],hl,Ahe.nil n,by simp[mkD,Bg,Dz.ty,Ty.beq_iff],rfl,ad5 _,fun K E hp=>⟨?_,by simp⟩⟩
  show DR E.w (E.ok (fr||t.flat)) t cs x
  rw[hp.w]
  cases ht:t.flat with
  | true=>exact DR.flat ht hd
  | false=>rw[at0];exact hd.mono (hp.ok fr)
 | own fr t =>
  rintro cs x bs ⟨v,rfl,hd⟩ n u k l0 l r hl
  have hv:Ck v=false∧v.oneCell'=true:=by
   rcases hd with⟨rfl,_⟩ | ⟨_,_,_,_,rfl,_⟩<;>exact⟨rfl,rfl⟩
  refine⟨.own n 0,n.nxt,[(n,.sli 0 fr t x,v)],hl,(Ahe.nil n.nxt).cons (o:=.sli 0 fr t x) trivial v,by simp[Bg,Dz.ty,Ty.agg],rfl,?_,fun K E hp=>?_⟩
  ·rcases hd with⟨rfl,_,rfl⟩ | ⟨g,_,_,_,rfl,_,_,_,_,_,_,rfl⟩
   ·exact ad5 _
   ·exact ad5 _
  ·obtain⟨p1,p2,p3⟩:=hp.at_ _ (ac1 ..)
   refine⟨⟨p3,v,rfl,hv.2,fun t n _=>p2.symm⟩,fun p hm=>?_⟩
   obtain rfl:=ac3.1 hm
   show Bzj E fr t x K.base _
   rw[p2]
   rcases hd with⟨rfl,h2,_⟩ | ⟨g,cap,cur,e,rfl,h2,h3,h4,h5,h6,h7,_⟩
   ·exact .inl ⟨rfl,h2⟩
   ·exact .inr ⟨g,cap,cur,e,rfl,by rw[hp.w];exact h2,h3,h4,h5,by rw[hp.w];exact h6.mono fun _ _=>DR.mono (hp.ok fr),by rw[hp.base];exact h7⟩
 | ptr m ih =>
  rintro cs x bs ⟨g,e,cur,eo,rfl,h2,h3,rfl⟩ n u k l0 l r hl
  obtain⟨v,n',N,a1,a2,a3,a4,a5,a6⟩:=ih h3 hl
  exact⟨.ptr n [],n',(n,.mem false m.ty v,.pointer (some ⟨g,0,none⟩))::N,a1,a2.cons (o:=.mem false m.ty v) trivial _,rfl,rfl,by
   show (g::I7.blk N).Perm _
   exact List.Perm.cons g a5,fun K E hp=>Bnk h2 a3 a6 hp⟩
 | optr m ih =>
  intro cs x bs hm n u k l0 l r hl
  cases x with
  | none =>
   obtain⟨rfl,rfl⟩:=hm
   rcases hl with⟨_,hl⟩ | ⟨y,hy,_⟩
   ·exact⟨.nilp,n,[],hl,Ahe.nil n,rfl,rfl,ad5 _,fun K E hp=>⟨rfl,by simp⟩⟩
   ·cases hy
  | some x =>
   obtain⟨g,e,cur,eo,rfl,h2,h3,rfl⟩:=hm
   rcases hl with⟨hy,_⟩ | ⟨y,hy,hl⟩
   ·cases hy
   ·cases hy
    obtain⟨v,n',N,a1,a2,a3,a4,a5,a6⟩:=ih h3 hl
    exact⟨.ptr n [],n',(n,.mem false m.ty v,.pointer (some ⟨g,0,none⟩))::N,a1,a2.cons (o:=.mem false m.ty v) trivial _,rfl,rfl,by
     show (g::I7.blk N).Perm _
     exact List.Perm.cons g a5,fun K E hp=>Bnk h2 a3 a6 hp⟩
 | pair p q xe tq =>
  rintro cs x bs ⟨c1,c2,b1,b2,rfl,h2,h3,rfl⟩ n u k l0 l r hl
  obtain⟨v1,n1,N1,a1,a2,a3,a4,a5,a6⟩:=xe h2 hl
  obtain⟨v2,n2,N2,d1,d2,d3,d4,d5,d6⟩:=tq h3 a1
  refine⟨.pair v1 v2,n2,N2++N1,by rw[I7.ups_app,ab6];exact d1,a2.app d2,by simp[Bg,Dz.ty,a3,d3],rfl,?_,fun K E hp=>?_⟩
  ·rw[I7.blk_app]
   exact aj7.trans (as1 a5 d5)
  ·obtain⟨e1,e2⟩:=a6 K E (hp.sub fun p h=>aj6 _ h)
   obtain⟨e3,e4⟩:=d6 K E (hp.sub fun p h=>al2 _ h)
   refine⟨⟨c1,c2,rfl,e1,e3⟩,fun p h=>?_⟩
   rcases ad9.1 h with h|h
   ·exact e4 p h
   ·exact e2 p h
 | full t =>
  rintro cs x bs ⟨h0,hd⟩ n u k l0 l r hl
  rcases hd with⟨rfl,rfl,rfl⟩ | ⟨g,cap,cur,e,rfl,h2,h3,h4,h5,h6,rfl⟩
  ·refine⟨.view n 0 0 0 true,n.nxt,[(n,.sli 0 false t [],.slice none 0 0)],hl,(Ahe.nil n.nxt).cons (o:=.sli 0 false t []) trivial _,by simp[Bg,Dz.ty,Ty.agg],rfl,ad5 _,fun K E hp=>?_⟩
   obtain⟨p1,p2,p3⟩:=hp.at_ _ (ac1 ..)
   refine⟨⟨p3,_,rfl,rfl,fun t' n' bo=>⟨ac2 _,ac2 _,none,0,rfl,ab4 _,ac2 _,fun _=>rfl,fun h=>absurd h (Nat.lt_irrefl _),fun _=>rfl⟩⟩,fun p hm=>?_⟩
   obtain rfl:=ac3.1 hm
   exact .inl ⟨p2,rfl⟩
  ·refine⟨.view n 0 0 (List.length x) true,n.nxt,[(n,.sli 0 false t x,.slice (some ⟨g,0,none⟩) (List.length x) cap)],hl,(Ahe.nil n.nxt).cons (o:=.sli 0 false t x) trivial _,by simp[Bg,Dz.ty,Ty.agg],rfl,ad5 _,fun K E hp=>?_⟩
   obtain⟨p1,p2,p3⟩:=hp.at_ _ (ac1 ..)
   refine⟨⟨p3,_,rfl,rfl,fun t' n' bo=>?_⟩,fun p hm=>?_⟩
   ·have bo:Ahd (E.o n) 0 t' n':=bo
    have p1:E.o n=_:=p1
    rw[p1] at bo
    obtain⟨f2,r2,k1,k2⟩:=bo
    rcases k2 with k2|k2
    ·cases k2
     refine⟨ac2 _,by omega,_,_,rfl,ab4 _,by omega,(fun h=>by cases h),fun _=>⟨g,_,cap,p2,by rw[al9]⟩,fun _=>rfl⟩
    ·cases k2
   ·obtain rfl:=ac3.1 hm
    show Bzj E false t x K.base _
    rw[p2]
    exact .inr ⟨g,cap,cur,e,rfl,by rw[hp.w];exact h2,h3,h4,h5,by rw[hp.w];exact h6.mono fun _ _=>DR.mono (hp.ok false),(fun h=>by cases h)⟩
 | bor t =>
  rintro cs x bs ⟨rfl,v,rfl,hd,ha⟩ n u k l0 l r hl
  have hv:v.oneCell'=true∧Bc (some (.frz 0 false t x)) v=none:=by
   obtain⟨a,cap,e,_⟩:=hd
   cases e
   exact⟨rfl,rfl⟩
  refine⟨.own n 0,n.nxt,[(n,.frz 0 false t x,v)],hl,(Ahe.nil n.nxt).cons (o:=.frz 0 false t x) trivial v,by simp[Bg,Dz.ty,Ty.agg],rfl,?_,fun K E hp=>?_⟩
  ·simp[I7.blk,hv.2]
  ·obtain⟨p1,p2,p3⟩:=hp.at_ _ (ac1 ..)
   refine⟨⟨p3,v,rfl,hv.1,fun t n _=>p2.symm⟩,fun p hm=>?_⟩
   obtain rfl:=ac3.1 hm
   have p2:E.γ n=v:=p2
   show DR E.w (E.ok false) (.slice t) [E.γ n] x∧∀ a n' c,E.γ n=.slice (some a) n' c→_
   rw[p2,hp.w]
   exact⟨DR.mono (t:=.slice t) (hp.ok false) hd,ha⟩
 | mapm kk t =>
  rintro cs x bs ⟨h0,g,es,clock,rfl,h2,h3,rfl⟩ n u k l0 l r hl
  refine⟨.mapp n,n.nxt,[(n,.mpo kk t x,.map (some g))],hl,(Ahe.nil n.nxt).cons (o:=.mpo kk t x) trivial _,rfl,rfl,ad5 _,fun K E hp=>?_⟩
  obtain⟨p1,p2,p3⟩:=hp.at_ _ (ac1 ..)
  refine⟨⟨p3,_,rfl,rfl,fun _ _ _=>p2.symm⟩,fun p hm=>?_⟩
  obtain rfl:=ac3.1 hm
  exact⟨h0,g,es,clock,p2,by rw[hp.w];exact h2,by rw[hp.w];exact h3⟩
 | rp t =>
  rintro cs x bs ⟨rfl,hd⟩ n u k l0 l r hl
  refine⟨_,n,[],hl,Ahe.nil n,rfl,rfl,ad5 _,fun K E hp=>⟨?_,by simp⟩⟩
  obtain⟨v,h1,h2,a,vs,h3,h4,h5,h6,h7⟩:=hd
  refine⟨v,h1,h2,a,vs,h3,h4,fun h=>hp.ok _ _ (h5 h),?_,?_⟩
  ·rw[hp.w];exact h6
  ·rw[hp.w];exact h7.mono (hp.ok false)
 | ign =>
  intro cs x bs hm n u k l0 l r hl
  exact hl.elim
 | orp t =>
  intro cs x bs hm n u k l0 l r hl
  cases x with
  | none =>
   obtain⟨rfl,rfl⟩:=hm
   rcases hl with⟨_,hl⟩ | ⟨y,hy,_⟩
   ·exact⟨.nilp,n,[],hl,Ahe.nil n,rfl,rfl,ad5 _,fun K E hp=>⟨rfl,by simp⟩⟩
   ·cases hy
  | some x =>
   obtain⟨rfl,hd⟩:=hm
   rcases hl with⟨hy,_⟩ | ⟨y,hy,hl⟩
   ·cases hy
   ·cases hy
    refine⟨_,n,[],hl,Ahe.nil n,rfl,rfl,ad5 _,fun K E hp=>⟨?_,by simp⟩⟩
    obtain⟨v,h1,h2,a,vs,h3,h4,h5,h6,h7⟩:=hd
    refine⟨v,h1,h2,a,vs,h3,h4,fun h=>hp.ok _ _ (h5 h),?_,?_⟩
    ·rw[hp.w];exact h6
    ·rw[hp.w];exact h7.mono (hp.ok false)
 | nilm t =>
  rintro cs x bs ⟨rfl,rfl⟩ n u k l0 l r hl
  exact⟨.nils,n,[],hl,Ahe.nil n,rfl,rfl,ad5 _,fun K E hp=>⟨rfl,by simp⟩⟩
 | fn f m ih =>
  rintro cs x bs ⟨vs,rfl,h2⟩ n u k l0 l r hl
  obtain⟨v,n',N,a1,a2,a3,a4,a5,a6⟩:=ih h2 hl
  refine⟨.fn f v,n',N,a1,a2,rfl,rfl,a5,fun K E hp=>?_⟩
  obtain⟨e1,e2⟩:=a6 K E hp
  exact⟨⟨vs,rfl,e1⟩,e2⟩
def Aw3:AV→Bool
 | .un=>false
 | .tup _=>false
 | _=>true
theorem Bp9{v:AV}(h:Bfy v=true):Aw3 v=true:=by
 cases v<;>first|rfl|cases h
theorem Ayu{E:U5}{v:AV}{val:Value}(hs:Aw3 v=true)(h:Ev E v val):Dn E v val:=by
 cases v<;>first|exact h|exact True.intro|cases hs
theorem By7(m:Dz){val:Value}{x:m.den}{bs:List Nat}(hag:Ck val=m.ty.agg)(hm:MR w ok base m val.cells.toList x bs){n:Id}{u:Pm}{k:AV→Id→Pm→OpT α}{l0 l:List Id}{r:α}
  (hl:A6 C objs (Ck7 m x n u k) l0 r l) :
  ∃ v n' N,A6 C objs (k v n' (I7.ups N++u)) l0 r l∧Ahe n n' N∧Aw3 v=true∧(I7.blk N).Perm bs ∧
   ∀ (K:Dg) (E:U5),Zd w ok base N K E→Ev E v val∧∀ p∈N,OR K E p.1 p.2.1:=by
 have key:∀ (hl:A6 C objs (Ay5 m x n u k) l0 r l),∃ v n' N,A6 C objs (k v n' (I7.ups N++u)) l0 r l∧Ahe n n' N∧Aw3 v=true∧(I7.blk N).Perm bs ∧
   ∀ (K:Dg) (E:U5),Zd w ok base N K E→Ev E v val∧∀ p∈N,OR K E p.1 p.2.1:=fun hl=>by
  obtain⟨v1,n1,N1,a1,a2,a3,a4,a5,a6⟩:=Blx m hm hl
  exact⟨v1,n1,N1,a1,a2,Bp9 a4,a5,fun K E hp=>⟨⟨(a6 K E hp).1,by rw[hag];exact Bns a3⟩,(a6 K E hp).2⟩⟩
 cases m with
 | ign =>
  have hm:bs=[]:=hm
  subst hm
  exact⟨.any,n,[],hl,Ahe.nil n,rfl,ad5 _,fun K E hp=>⟨⟨trivial,hag.symm⟩,by simp⟩⟩
 | _=>exact key hl
theorem Blt:∀ (ms:List Dz) {vals:List Value} {x:Iu ms} {bs:List Nat} (hm:MRL w ok base ms vals x bs) {n:Id} {u:Pm} {k:List AV→Id→Pm→OpT α} {l0 l:List Id} {r:α}
  (hl:A6 C objs (Af4 ms x n u k) l0 r l),
  ∃ vs n' N,A6 C objs (k vs n' (I7.ups N++u)) l0 r l∧Ahe n n' N∧(I7.blk N).Perm bs∧vs.length=vals.length∧(∀ v∈vs,Aw3 v=true) ∧
   ∀ (K:Dg) (E:U5),Zd w ok base N K E→(∀ (i:Nat) (v:AV) (val:Value),vs[i]?=some v→vals[i]?=some val→Ev E v val)∧∀ p∈N,OR K E p.1 p.2.1:=by
 intro ms
 induction ms with
 | nil =>
  rintro vals x bs ⟨rfl,rfl⟩ n u k l0 l r hl
  exact⟨[],n,[],hl,Ahe.nil n,ad5 _,rfl,by simp,fun K E hp=>⟨by simp,by simp⟩⟩
 | cons m ms ih =>
  rintro vals x bs ⟨v0,au,b1,b2,rfl,hag,h2,h3,rfl⟩ n u k l0 l r hl
  obtain⟨v1,n1,N1,a1,a2,a4,a5,a6⟩:=By7 m hag h2 hl
  obtain⟨v2,n2,N2,d1,d2,d3,d4,d5,d6⟩:=ih h3 a1
  refine⟨v1::v2,n2,N2++N1,by rw[I7.ups_app,ab6];exact d1,a2.app d2,?_,by simp[d4],fun v hv=>?_,fun K E hp=>?_⟩
  ·rw[I7.blk_app]
   exact aj7.trans (as1 a5 d3)
  ·rcases aa9.1 hv with rfl|hv
   ·exact a4
   ·exact d5 v hv
  ·obtain⟨e1,e2⟩:=a6 K E (hp.sub fun p h=>aj6 _ h)
   obtain⟨e3,e4⟩:=d6 K E (hp.sub fun p h=>al2 _ h)
   refine⟨fun i v val hi hv=>?_,fun p h=>?_⟩
   ·cases i with
    | zero =>
     simp at hi hv
     subst hi hv
     exact e1
    | succ i=>exact e3 i v val (by simpa using hi) (by simpa using hv)
   ·rcases ad9.1 h with h|h
    ·exact e4 p h
    ·exact e2 p h
end
end Go.Pon
namespace Go.Pon
open Go
theorem Apu{l:List Id}{id:Id}:Aqn l id=true↔id∈l:=by
 induction l with
 | nil=>simp[Aqn]
 | cons a l ih=>simp only[Aqn,ak8,Xw,ih,aa9];exact or_congr_left eq_comm
theorem Bex:∀ u:Pm,Zh u=u.map (·.1)
 | []=>rfl
 | p::r=>by simp[Zh,Bex r]
theorem Ba5:∀ {u:Pm} {id:Id},Aqn (Zh u) id=true→(id,Ak u id)∈u
 | [],id,h=>by simp[Zh,Aqn] at h
 | (i,x)::r,id,h=>by
  rw[Mp]
  by_cases e:i=id
  ·subst e;simp
  ·rw[aa1 e]
   have:Aqn (Zh r) id=true:=by
    rw[Apu,Bex] at h ⊢
    rcases aa9.1 h with h|h
    ·exact absurd h.symm e
    ·exact h
   exact ab8 _ (Ba5 this)
theorem Ara{M:I7}{r:Pm}(hn:(M.map (·.1)).Nodup){p:Id×Obj×Value}(hp:p∈M):Ak (Da (I7.ups M) r) p.1=some p.2.1:=by
 induction M with
 | nil=>simp at hp
 | cons q M ih =>
  show Ak ((q.1,some q.2.1)::Da (I7.ups M) r) p.1=_
  rw[Mp]
  simp only[ae5,ai8] at hn
  rcases aa9.1 hp with rfl|hp
  ·simp
  ·rw[aa1 (fun e=>hn.1 (ag8.2 ⟨p,hp,e.symm⟩))]
   exact ih hn.2 hp
theorem Aqz{M:I7}{r:Pm}{j:Id}(hj:∀ p∈M,p.1≠j):Ak (Da (I7.ups M) r) j=Ak r j:=by
 induction M with
 | nil=>rfl
 | cons q M ih =>
  show Ak ((q.1,some q.2.1)::Da (I7.ups M) r) j=_
  rw[Mp,aa1 (hj q (ac1 ..))]
  exact ih fun p hp=>hj p (ab8 _ hp)
theorem Ajw{M:I7}{p:Id×Obj×Value}(hp:p∈M){g:Nat}(hg:Bc (some p.2.1) p.2.2=some g):g∈I7.blk M:=List.mem_filterMap.2 ⟨p,hp,hg⟩
theorem Cah{M:I7}(hn:(I7.blk M).Nodup){p q:Id×Obj×Value}(hp:p∈M)(hq:q∈M){g:Nat}(hg:Bc (some p.2.1) p.2.2=some g)(kj:Bc (some q.2.1) q.2.2=some g):p=q:=by
 induction M with
 | nil=>simp at hp
 | cons x M ih =>
  have key:∀ y∈M,Bc (some x.2.1) x.2.2=some g→Bc (some y.2.1) y.2.2=some g→False:=by
   intro y hy h1 h2
   have:I7.blk (x::M)=g::I7.blk M:=by simp[I7.blk,h1]
   rw[this] at hn
   exact (ai8.1 hn).1 (Ajw hy h2)
  have kl:(I7.blk M).Nodup:=by
   cases hx:Bc (some x.2.1) x.2.2 with
   | none=>simpa [I7.blk,hx] using hn
   | some y =>
    have:I7.blk (x::M)=y::I7.blk M:=by simp[I7.blk,hx]
    rw[this] at hn
    exact (ai8.1 hn).2
  rcases aa9.1 hp with qn|qn<;>rcases aa9.1 hq with nq|nq
  ·rw[qn,nq]
  ·exact (key q nq (qn▸hg) kj).elim
  ·exact (key p qn (nq▸kj) hg).elim
  ·exact ih kl qn nq
section
variable {K:Dg} {S:St} {used:Id→Nat→Prop} {γ:Id→Value} {a:Act} {w:World}
inductive Bub(S:St)(frz:Bool)(c:Cl)(j:Id):Option Obj→Prop
 | moved (h:j∈Cx c.ups):Bub S frz c j none
 | sli (hf:frz=true) (hm:j ∉ Cx c.ups) (ab:Nat) (fr:Bool) (t:Ty) (rows:List t.den) (h:Ak S.objs j=some (.sli ab fr t rows)) (hl:lent c j):Bub S frz c j (some (.frz ab fr t rows))
 | mem (hf:frz=true) (hm:j ∉ Cx c.ups) (fr:Bool) (t:Ty) (x:AV) (h:Ak S.objs j=some (.mem fr t x)) (hl:lent c j):Bub S frz c j (some (.mfz fr t x))
 | same (hm:j ∉ Cx c.ups) (o:Option Obj) (ho:o=Ak S.objs j):Bub S frz c j o
theorem Xr.left{frz:Bool}{c:Cl}(hc:Xr S frz c)(j:Id):Bub S frz c j (Ak (Da c.ups S.objs) j):=by
 rw[Aez]
 split
 ·rename_i hm
  have ir:=Ba5 hm
  cases ho:Ak c.ups j with
  | none =>
   rw[ho] at ir
   exact .moved (Nv.2 ir)
  | some o =>
   rw[ho] at ir
   have tk:j ∉ Cx c.ups:=fun h=>hc.apart j (Nv.1 h) (.inr ⟨o,ir⟩)
   obtain⟨hf,⟨ab,fr,t,rows,h1,rfl⟩ | ⟨fr,t,m,h1,rfl⟩⟩:=hc.frozen j o ir
   ·exact .sli hf tk ab fr t rows h1 (.inr ⟨_,ir⟩)
   ·exact .mem hf tk fr t m h1 (.inr ⟨_,ir⟩)
 ·rename_i hm
  refine .same (fun h=>hm ?_) _ rfl
  rw[Apu,Bex]
  exact ag8.2 ⟨_,Nv.1 h,rfl⟩
theorem Wv{frz:Bool}{c:Cl}{j:Id}{o:Option Obj}(h:Bub S frz c j o){v:Value}{g:Nat}(hl:Bc o v=some g):Bc (Ak S.objs j) v=some g∧j ∉ Cx c.ups∧o=Ak S.objs j:=by
 cases h with
 | moved _=>cases hl
 | sli=>cases hl
 | mem=>cases hl
 | same hm _ ho=>subst ho;exact⟨hl,hm,rfl⟩
theorem Cb6{frz:Bool}{c:Cl}{j:Id}{o:Option Obj}(h:Bub S frz c j o){ab:Nat}{t:Ty}{n:Nat}(hs:Ahd o ab t n):Ahd (Ak S.objs j) ab t n:=by
 obtain⟨fr,rows,h1,h2⟩:=hs
 cases h with
 | moved _=>rcases h2 with h2|h2<;>cases h2
 | sli hf hm af fr' t' rows' h hl =>
  rcases h2 with h2|h2
  ·cases h2
  ·cases h2;exact⟨_,_,h1,.inl h⟩
 | mem=>rcases h2 with h2|h2<;>cases h2
 | same hm _ ho=>subst ho;exact⟨fr,rows,h1,h2⟩
theorem Ck3{frz:Bool}{c:Cl}{j:Id}{o:Option Obj}(h:Bub S frz c j o){t:Ty}(hs:Awc o t):Awc (Ak S.objs j) t:=by
 obtain⟨fr,x,h2⟩:=hs
 cases h with
 | moved _=>rcases h2 with h2|h2<;>cases h2
 | sli=>rcases h2 with h2|h2<;>cases h2
 | mem hf hm fr' t' x' h hl =>
  rcases h2 with h2|h2
  ·cases h2
  ·cases h2;exact⟨_,_,.inl h⟩
 | same hm _ ho=>subst ho;exact⟨fr,x,h2⟩
theorem Cjy{frz:Bool}{c:Cl}{j:Id}{o:Option Obj}(h:Bub S frz c j o){k:IntKind}{t:Ty}(hs:Bpi o k t):Bpi (Ak S.objs j) k t:=by
 obtain⟨x,h2⟩:=hs
 cases h with
 | moved _=>cases h2
 | sli=>cases h2
 | mem=>cases h2
 | same hm _ ho=>subst ho;exact⟨x,h2⟩
theorem E8{l:List Id}{g:Nat}:g∈Em S γ l↔∃ id∈l,Bc (Ak S.objs id) (γ id)=some g:=by simp[Em,List.mem_filterMap]
def Coz(S:St)(used:Id→Nat→Prop)(γ:Id→Value)(mv:List Id)(p:Id×Obj×Value):Prop :=
 (∀ v,¬ used p.1 v)∨(p.2.2=γ p.1∧used p.1 0∧p.1∈mv∧∃ fr t c c',Ak S.objs p.1=some (.mem fr t c)∧p.2.1=.mem false t c')
def Xj(M:I7)(γ:Id→Value)(j:Id):Value:=(M.find? fun p=>idE p.1 j).elim (γ j) fun p=>p.2.2
theorem Au2{M:I7}{γ:Id→Value}(hn:(M.map (·.1)).Nodup){p:Id×Obj×Value}(hp:p∈M):Xj M γ p.1=p.2.2:=by
 induction M with
 | nil=>simp at hp
 | cons q M ih =>
  simp only[ae5,ai8] at hn
  rcases aa9.1 hp with rfl|hp
  ·simp[Xj,Xw.2 rfl]
  ·have:idE q.1 p.1=false:=by
    rw[an3]
    exact fun e=>hn.1 (ag8.2 ⟨p,hp,(Xw.1 e).symm⟩)
   have:=ih hn.2 hp
   simpa [Xj,List.find?_cons, *] using this
theorem Bn5{M:I7}{γ:Id→Value}{j:Id}(hj:∀ p∈M,p.1≠j):Xj M γ j=γ j:=by
 have:M.find? (fun p=>idE p.1 j)=none:=by
  rw[List.find?_eq_none]
  exact fun p hp e=>hj p hp (Xw.1 e)
 simp[Xj,this]
theorem Gd.after(h:Gd K S used γ a w)(hB:∀ b,K.B b→b<K.base){frz:Bool}{c:Cl}(hc:Xr S frz c){w':World}{M:I7}
  (bp:w.heap.size≤w'.heap.size) (hkeep:∀ b,b<w.heap.size→b ∉ Em S γ (Cx c.ups)→w'.heap[b]?=w.heap[b]?)
  (n7:w'.os=w.os∧w'.tape=w.tape∧w'.output=w.output)
  (hM:∀ p∈M,Coz S used γ (Cx c.ups) p) (gj:∀ p∈M,p.2.1.isNew) (dv:(M.map (·.1)).Nodup) (dh:(I7.blk M).Nodup)
  (ir:∀ g∈I7.blk M,g∈Em S γ (Cx c.ups)∨w.heap.size≤g) {ok:Bool→Nat→Prop}
  (bj:∀ f b,ok f b→b ∉ I7.blk M∧¬ K.B b∧(f=true→K.base≤b)∧∀ id,Bc (Ak (Da c.ups S.objs) id) (γ id)≠some b)
  (nm:∀ (K':Dg) (E:U5),Zd w' ok K.base M K' E→∀ p∈M,OR K' E p.1 p.2.1) :
  ∃ ah γ',Gd K { S with objs:=Da (I7.ups M) (Da c.ups S.objs) } ah γ' a w'∧Zd w' ok K.base M K (A3 K (Da (I7.ups M) (Da c.ups S.objs)) ah γ' w') ∧
   (∀ id v,ah id v→used id v∨∃ p∈M,p.1=id)∧∀ id v,used id v→ah id v∧γ' id=γ id:=by
 have ba:K.base≤w.heap.size:=h.frame.size
 let ah:Id→Nat→Prop:=fun j v=>used j v∨(v=0∧∃ p∈M,p.1=j)
 have hγ:∀ j v,used j v→Xj M γ j=γ j:=by
  intro j v hu
  by_cases hj:∃ p∈M,p.1=j
  ·obtain⟨p,hp,rfl⟩:=hj
   rw[Au2 dv hp]
   rcases hM p hp with hf | ⟨hv,_⟩
   ·exact absurd hu (hf v)
   ·exact hv
  ·exact Bn5 fun p hp e=>hj ⟨p,hp,e⟩
 have bv:∀ j g,Bc (Ak (Da (I7.ups M) (Da c.ups S.objs)) j) (Xj M γ j)=some g →
   (∃ p∈M,p.1=j∧Bc (some p.2.1) p.2.2=some g)∨((∀ p∈M,p.1≠j)∧Bc (Ak S.objs j) (γ j)=some g∧j ∉ Cx c.ups∧Ak (Da c.ups S.objs) j=Ak S.objs j):=by
  intro j g hg
  by_cases hj:∃ p∈M,p.1=j
  ·obtain⟨p,hp,rfl⟩:=hj
   rw[Au2 dv hp,Ara dv hp] at hg
   exact .inl ⟨p,hp,rfl,hg⟩
  ·have vq:∀ p∈M,p.1≠j:=fun p hp e=>hj ⟨p,hp,e⟩
   rw[Bn5 vq,Aqz vq] at hg
   exact .inr ⟨vq,Wv (hc.left j) hg⟩
 -- a block av6 is ba0 in the end,and old
 have dx:∀ j g,Bc (Ak (Da (I7.ups M) (Da c.ups S.objs)) j) (Xj M γ j)=some g→g<w.heap.size →
   ∃ i,Bc (Ak S.objs i) (γ i)=some g∧(i∈Cx c.ups∨(i=j∧(∀ p∈M,p.1≠j)∧i ∉ Cx c.ups∧Ak (Da c.ups S.objs) j=Ak S.objs j)):=by
  intro j g hg ar
  rcases bv j g hg with⟨p,hp,e,kc⟩ | ⟨h1,h2,h3,h4⟩
  ·rcases ir g (Ajw hp kc) with hb|hb
   ·obtain⟨i,hi,di⟩:=E8.1 hb
    exact⟨i,di,.inl hi⟩
   ·omega
  ·exact⟨j,h2,.inr ⟨rfl,h1,h3,h4⟩⟩
 have hs:Um (A3 K S.objs used γ w) (A3 K (Da (I7.ups M) (Da c.ups S.objs)) ah (Xj M γ) w'):=by
  refine⟨bp,fun fr b hb ck=>⟨⟨fun j hj=>?_,ck.2⟩,hkeep b hb fun hm=>?_⟩,fun j v hj=>.inl hj,fun j v hj t n bo=>⟨?_,hγ j v hj⟩,fun j hj t bh=>⟨?_,hγ j 0 hj⟩,fun j hj kk t bh=>⟨?_,hγ j 0 hj⟩⟩
  ·obtain⟨i,hi,_⟩:=dx j b hj hb
   exact ck.1 i hi
  ·obtain⟨i,_,hi⟩:=E8.1 hm
   exact ck.1 i hi
  ·have bo:Ahd (Ak (Da (I7.ups M) (Da c.ups S.objs)) j) v t n:=bo
   by_cases jn:∃ p∈M,p.1=j
   ·obtain⟨p,hp,rfl⟩:=jn
    rw[Ara dv hp] at bo
    rcases hM p hp with hf | ⟨_,_,_,fr,t',x,x',_,e⟩
    ·exact absurd hj (hf v)
    ·rw[e] at bo
     obtain⟨_,_,_,h2⟩:=bo
     rcases h2 with h2|h2<;>cases h2
   ·rw[Aqz fun p hp e=>jn ⟨p,hp,e⟩] at bo
    exact Cb6 (hc.left j) bo
  ·have bh:Awc (Ak (Da (I7.ups M) (Da c.ups S.objs)) j) t:=bh
   by_cases jn:∃ p∈M,p.1=j
   ·obtain⟨p,hp,rfl⟩:=jn
    rw[Ara dv hp] at bh
    rcases hM p hp with hf | ⟨_,_,_,fr,t',x,x',e0,e⟩
    ·exact absurd hj (hf 0)
    ·rw[e] at bh
     obtain⟨_,_,h2⟩:=bh
     rcases h2 with h2|h2
     ·cases h2;exact⟨fr,x,.inl e0⟩
     ·cases h2
   ·rw[Aqz fun p hp e=>jn ⟨p,hp,e⟩] at bh
    exact Ck3 (hc.left j) bh
  ·have bh:Bpi (Ak (Da (I7.ups M) (Da c.ups S.objs)) j) kk t:=bh
   by_cases jn:∃ p∈M,p.1=j
   ·obtain⟨p,hp,rfl⟩:=jn
    rw[Ara dv hp] at bh
    rcases hM p hp with hf | ⟨_,_,_,fr,t',x,x',e0,e⟩
    ·exact absurd hj (hf 0)
    ·rw[e] at bh
     obtain⟨_,h2⟩:=bh
     cases h2
   ·rw[Aqz fun p hp e=>jn ⟨p,hp,e⟩] at bh
    exact Cjy (hc.left j) bh
 have gf:Zd w' ok K.base M K (A3 K (Da (I7.ups M) (Da c.ups S.objs)) ah (Xj M γ) w'):=by
  refine⟨rfl,rfl,fun f b hb=>?_,fun p hp=>⟨Ara dv hp,Au2 dv hp,.inr ⟨rfl,p,hp,rfl⟩⟩⟩
  obtain⟨h1,h2,h3,h4⟩:=bj f b hb
  refine⟨fun j hj=>?_,h2,h3⟩
  rcases bv j b hj with⟨p,hp,e,kc⟩ | ⟨k1,k2,k3,k4⟩
  ·exact h1 (Ajw hp kc)
  ·exact h4 j (by rw[k4];exact k2)
 have n9:∀ j g,Bc (Ak S.objs j) (γ j)=some g→j ∉ Cx c.ups→w'.heap[g]?=w.heap[g]?:=fun j g hg hj =>
  hkeep g (Aav h hg) fun hm=>by
   obtain⟨i,hi,di⟩:=E8.1 hm
   rw[h.sep j i g hg di] at hj
   exact hj hi
 refine⟨ah,Xj M γ,h.move hs (fun j o hj=>?_) (fun j o hj=>?_) (fun j ab fr t rows v hj hu=>?_) (fun i j g hi hj=>?_) (fun i g hi=>?_) ?_,gf,fun id v hv=>hv.imp (fun h=>h) fun h=>h.2,fun id v hv=>⟨.inl hv,hγ id v hv⟩⟩
 ·by_cases jn:∃ p∈M,p.1=j
  ·obtain⟨p,hp,rfl⟩:=jn
   rw[Ara dv hp] at hj
   cases hj
   exact nm K _ gf p hp
  ·have vq:∀ p∈M,p.1≠j:=fun p hp e=>jn ⟨p,hp,e⟩
   rw[Aqz vq] at hj
   have hl:=hc.left j
   rw[hj] at hl
   cases hl with
   | sli hf hm ab fr t rows h0 ag =>
    obtain⟨v0,jb⟩:=h.ou j _ h0
    have hd:=Bvx h (.inl h0) (c:=c) fun _=>ag
    have hγj:(A3 K (Da (I7.ups M) (Da c.ups S.objs)) ah (Xj M γ) w').γ j=γ j:=hγ j v0 jb
    unfold OR
    rw[hγj]
    have aw0:∀ b,b<w.heap.size→okL K S γ c fr b→(A3 K (Da (I7.ups M) (Da c.ups S.objs)) ah (Xj M γ) w').ok fr b∧w'.heap[b]?=w.heap[b]?:=by
     intro b hb ck
     refine⟨⟨fun i hi=>?_,ck.2⟩,hkeep b hb fun hbm=>?_⟩
     ·obtain⟨i',fh,di⟩:=dx i b hi hb
      have cf:=ck.1 i' fh
      rcases di with di | ⟨rfl,k1,k2,k3⟩
      ·exact hc.apart i' (Nv.1 di) cf
      ·have da:=hc.left i'
       rw[k3] at da
       rcases cf with cf | ⟨o,ho⟩
       ·rw[hc.borrow hf] at cf;simp at cf
       ·have jc:Aqn (Zh c.ups) i'=true:=by
         rw[Apu,Bex];exact ag8.2 ⟨_,ho,rfl⟩
        have h5:=Ba5 jc
        have h6:Ak (Da c.ups S.objs) i'=Ak c.ups i':=by rw[Aez,aa0 jc]
        rw[k3] at h6
        cases h7:Ak c.ups i' with
        | none=>rw[h7] at h5;exact k2 (Nv.2 h5)
        | some o' =>
         rw[h7] at h5 h6
         obtain⟨_,⟨_,_,_,_,h8,rfl⟩ | ⟨_,_,_,h8,rfl⟩⟩:=hc.frozen i' _ h5
         ·rw[h6] at h8;cases h8
         ·rw[h6] at h8;cases h8
     ·obtain⟨i,hi,di⟩:=E8.1 hbm
      exact hc.apart i (Nv.1 hi) (ck.1 i di)
    refine⟨DR.move aw0 hd,?_⟩
    ·intro ad n cp hE
     rcases h.objs j _ h0 with⟨h1,_⟩ | ⟨g,cap,cur,e,h1,_⟩
     ·have h1:γ j=_:=h1
      rw[h1] at hE;cases hE
     ·have h1:γ j=_:=h1
      rw[h1] at hE;cases hE;exact⟨rfl,rfl⟩
   | mem hf hm fr t x h0 ag =>
    obtain⟨v0,jb⟩:=h.ou j _ h0
    obtain⟨g,e,cur,h1,h2,h3,h4,h5⟩:=h.objs j _ h0
    have h1:γ j=_:=h1
    have da:Bc (Ak S.objs j) (γ j)=some g:=by rw[h0,h1];rfl
    have hg:=hγ j v0 jb
    refine⟨⟨g,e,cur,hg.trans h1,?_,h3,h4.step hs,h5⟩,fun ad kg=>?_⟩
    ·exact (n9 j g da hm).trans h2
    ·have kg:Xj M γ j=_:=kg
     rw[hg,h1] at kg
     cases kg
     refine⟨fun i hi=>?_,(h.mod j g da).2,h5⟩
     obtain⟨i',fh,di⟩:=dx i g hi (Aav h da)
     have e:=h.sep i' j g fh da
     subst e
     rcases di with di | ⟨rfl,k1,k2,k3⟩
     ·exact hm di
     ·rw[hj,h0] at k3;cases k3
   | same hm _ ho =>
    have hj:=ho.symm
    obtain⟨v0,jb⟩:=h.ou j o hj
    exact OR.step hs (hγ j v0 jb) (fun g hg=>n9 j g (by rw[hj];exact hg) hm) (h.objs j o hj)
 ·by_cases jn:∃ p∈M,p.1=j
  ·exact⟨0,.inr ⟨rfl,jn⟩⟩
  ·rw[Aqz fun p hp e=>jn ⟨p,hp,e⟩] at hj
   have hl:=hc.left j
   rw[hj] at hl
   cases hl with
   | sli _ _ _ _ _ _ h0 _=>exact (h.ou j _ h0).imp fun v hv=>.inl hv
   | mem _ _ _ _ _ h0 _=>exact (h.ou j _ h0).imp fun v hv=>.inl hv
   | same _ _ ho=>exact (h.ou j _ ho.symm).imp fun v hv=>.inl hv
 ·by_cases jn:∃ p∈M,p.1=j
  ·obtain⟨p,hp,rfl⟩:=jn
   rw[Ara dv hp] at hj
   have hn:=gj p hp
   have hj:=at1 hj
   rw[hj] at hn
   rcases hM p hp with hf | ⟨_,_,_,_,_,_,_,_,e⟩
   ·rcases hu with hu | ⟨hu,_⟩
    ·exact absurd hu (hf v)
    ·omega
   ·rw[e] at hj;cases hj
  ·rw[Aqz fun p hp e=>jn ⟨p,hp,e⟩] at hj
   have hl:=hc.left j
   rw[hj] at hl
   rcases hu with hu | ⟨_,hu⟩
   ·cases hl with
    | same _ _ ho=>exact h.vers j ab fr t rows v ho.symm hu
   ·exact absurd hu jn
 ·rcases bv i g hi with⟨p,hp,e1,e2⟩ | ⟨e1,e2,e3,e4⟩<;>rcases bv j g hj with⟨q,hq,f1,f2⟩ | ⟨f1,f2,f3,f4⟩
  ·rw[← e1,← f1,Cah dh hp hq e2 f2]
  ·rcases ir g (Ajw hp e2) with hb|hb
   ·obtain⟨i',fh,di⟩:=E8.1 hb
    rw[h.sep i' j g di f2] at fh
    exact absurd fh f3
   ·have:=Aav h f2;omega
  ·rcases ir g (Ajw hq f2) with hb|hb
   ·obtain⟨i',fh,di⟩:=E8.1 hb
    rw[h.sep i' i g di e2] at fh
    exact absurd fh e3
   ·have:=Aav h e2;omega
  ·exact h.sep i j g e2 f2
 ·rcases bv i g hi with⟨p,hp,e1,e2⟩ | ⟨e1,e2,e3,e4⟩
  ·rcases ir g (Ajw hp e2) with hb|hb
   ·obtain⟨i',fh,di⟩:=E8.1 hb
    exact h.mod i' g di
   ·exact⟨.inl (by omega),fun j9=>by have:=hB g j9;omega⟩
  ·exact h.mod i g e2
 ·refine⟨n7.1.trans h.frame.os,n7.2.1.trans h.frame.tape,n7.2.2.trans h.frame.output,af2 h.frame.size bp,fun b hb ck=>?_⟩
  rw[hkeep b (ae3 hb ba) fun hm=>?_]
  ·exact h.frame.block b hb ck
  ·obtain⟨i,_,hi⟩:=E8.1 hm
   rcases (h.mod i b hi).1 with h1|h1
   ·have:K.base=K.w0.heap.size:=rfl
    omega
   ·exact ck h1
end
end Go.Pon
namespace Go.Pon
open Go
def Bp8:List Value→Value
 | [v]=>v
 | vs=>.tuple vs.toArray
def Bm2(P:Program)(f:FuncId)(args:List Value)(w:World)(R:Value→World→Prop):Prop :=
 ((callFunc f args.toArray).run P w=.ok (.enter f args.toArray) w∧Calls P f args.toArray w fun
  | .returned v,w'=>R v w'
  | _,_=>False) ∨
 ∃ v w',(callFunc f args.toArray).run P w=.ok (.value v) w'∧R v w'
def Bkt:Dz→Value→Value
 | .ptr _,v=>v
 | .optr _,v=>v
 | _,_=>.agg #[]
def Aty:List Dz→List Value→List Value
 | m::ms,v::vs=>Bkt m v::Aty ms vs
 | _,_=>[]
def Bdy(w:World)(B:Nat→Prop)(bs:List Nat)(f:Bool)(b:Nat):Prop:=b ∉ bs∧¬ B b∧(f=true→w.heap.size≤b)
def Cow(v0 r:Value):Prop:=∃ a0 m c0 a n c,v0=.slice a0 m c0∧r=.slice a n c∧n≤m∧n≤c∧c≤maxLen∧(a=none→c=0) ∧
 (0<n→∃ g,a0=some ⟨g,0,none⟩∧a=some ⟨g,0,none⟩)
def Bwk(w:World)(B:Nat→Prop)(s:B4)(vals:List Value)(bs:List Nat)(y:s.outDen)(v:Value)(w':World):Prop :=
 ∃ rs b1 b2,v=Bp8 rs∧MRL w' (Bdy w B (b1++b2)) w.heap.size s.outs rs y.1 b1∧MRL w' (Bdy w B (b1++b2)) w.heap.size (Aym s.ins) (Aty s.ins vals) y.2 b2 ∧
  (b1++b2).Nodup∧(∀ g∈b1++b2,w.heap.size≤g∨g∈bs)∧Aif w w' bs∧(Ayx s=true→∃ v0 r,vals=[v0]∧rs=[r]∧Cow v0 r)
def A7(P:Program)(f:FuncId)(s:B4)(F:Iu s.ins→Option s.outDen):Prop :=
 ∀ (w:World) (B:Nat→Prop) (vals:List Value) (x:Iu s.ins) (bs:List Nat) (y:s.outDen),F x=some y→(∀ b,B b→b<w.heap.size)→bs.Nodup→(∀ g∈bs,¬ B g) →
  MRL w (Bdy w B bs) w.heap.size s.ins vals x bs→Bm2 P f vals w (Bwk w B s vals bs y)
theorem MR.low{w:World}{ok:Bool→Nat→Prop}{base fo:Nat}(h:fo≤base):∀ {m:Dz} {cs:List Value} {x:m.den} {bs:List Nat},MR w ok base m cs x bs→MR w ok fo m cs x bs
 | .ro _ _,_,_,_,hr=>hr
 | .own _ _,_,_,_,⟨v,h0,hr⟩=>⟨v,h0,hr.imp id fun⟨g,cap,cur,e,h1,h2,h3,h4,h5,h6,h7,h8⟩=>⟨g,cap,cur,e,h1,h2,h3,h4,h5,h6,fun hf=>af2 h (h7 hf),h8⟩⟩
 | .ptr m,_,_,_,⟨g,e,cur,eo,h1,h2,h3,h4⟩=>⟨g,e,cur,eo,h1,h2,MR.low h h3,h4⟩
 | .optr m,_,none,_,hr=>hr
 | .optr m,_,some _,_,⟨g,e,cur,eo,h1,h2,h3,h4⟩=>⟨g,e,cur,eo,h1,h2,MR.low h h3,h4⟩
 | .pair _ _,_,_,_,⟨c1,c2,b1,b2,h1,h2,h3,h4⟩=>⟨c1,c2,b1,b2,h1,MR.low h h2,MR.low h h3,h4⟩
 | .fn _ _,_,_,_,⟨vs,h1,h2⟩=>⟨vs,h1,MR.low h h2⟩
 | .nilm _,_,_,_,hr=>hr
 | .rp _,_,_,_,hr=>hr
 | .bor _,_,_,_,hr=>hr
 | .mapm _ _,_,_,_,hr=>hr
 | .orp _,_,none,_,hr=>hr
 | .orp _,_,some _,_,hr=>hr
 | .ign,_,_,_,hr=>hr
 | .full _,_,_,_,hr=>hr
theorem MRL.low{w:World}{ok:Bool→Nat→Prop}{base fo:Nat}(h:fo≤base):∀ {ms:List Dz} {vs:List Value} {x:Iu ms} {bs:List Nat},MRL w ok base ms vs x bs→MRL w ok fo ms vs x bs
 | [],_,_,_,hr=>hr
 | _::_,_,_,_,⟨v,r,b1,b2,h1,h2,h3,h4,h5⟩=>⟨v,r,b1,b2,h1,h2,h3.low h,MRL.low h h4,h5⟩
theorem Ca5{fr:Bool}{t:Ty}(h:(!fr&&!t.flat)=false):fr=true∨t.flat=true:=by
 cases fr<;>cases ht:t.flat<;>simp_all
theorem MR.noalias{w:World}{ok:Bool→Nat→Prop}{base:Nat}:∀ {m:Dz} {cs:List Value} {x:m.den} {bs:List Nat},m.alias=false→MR w ok base m cs x bs→MR w (fun f b=>ok true b) base m cs x bs
 | .ro fr t,_,_,_,ha,⟨h1,h2⟩=>by
  rcases Ca5 (show (!fr&&!t.flat)=false from ha) with rfl|ht
  ·exact⟨h1,h2⟩
  ·exact⟨h1,DR.flat ht h2⟩
 | .own fr t,_,_,_,ha,⟨v,h0,hr⟩=>⟨v,h0,hr.imp id fun⟨g,cap,cur,e,h1,h2,h3,h4,h5,h6,h7⟩=>⟨g,cap,cur,e,h1,h2,h3,h4,h5,by
   rcases Ca5 (show (!fr&&!t.flat)=false from ha) with rfl|ht
   ·exact h6
   ·exact h6.mono fun _ _=>DR.flat ht,h7⟩⟩
 | .ptr m,_,_,_,ha,⟨g,e,cur,eo,h1,h2,h3,h4⟩=>⟨g,e,cur,eo,h1,h2,MR.noalias (m:=m) ha h3,h4⟩
 | .optr m,_,none,_,ha,hr=>hr
 | .optr m,_,some _,_,ha,⟨g,e,cur,eo,h1,h2,h3,h4⟩=>⟨g,e,cur,eo,h1,h2,MR.noalias (m:=m) ha h3,h4⟩
 | .pair a b,_,_,_,ha,⟨c1,c2,b1,b2,h1,h2,h3,h4⟩=>by
  have ha:(a.alias||b.alias)=false:=ha
  rw[al1] at ha
  exact⟨c1,c2,b1,b2,h1,MR.noalias ha.1 h2,MR.noalias ha.2 h3,h4⟩
 | .fn _ m,_,_,_,ha,⟨vs,h1,h2⟩=>⟨vs,h1,MR.noalias (m:=m) ha h2⟩
 | .nilm _,_,_,_,_,hr=>hr
 | .rp _,_,_,_,ha,_=>by cases ha
 | .bor _,_,_,_,ha,_=>by cases ha
 | .mapm _ _,_,_,_,ha,_=>by cases ha
 | .orp _,_,_,_,ha,_=>by cases ha
 | .ign,_,_,_,ha,_=>by cases ha
 | .full _,_,_,_,ha,⟨h0,hr⟩=>⟨h0,hr.imp id fun⟨g,cap,cur,e,h1,h2,h3,h4,h5,h6,h7⟩=>⟨g,cap,cur,e,h1,h2,h3,h4,h5,h6.mono fun _ _=>DR.flat h0,h7⟩⟩
theorem MRL.noalias{w:World}{ok:Bool→Nat→Prop}{base:Nat}:∀ {ms:List Dz} {vs:List Value} {x:Iu ms} {bs:List Nat},(∀ m∈ms,m.alias=false)→MRL w ok base ms vs x bs→MRL w (fun f b=>ok true b) base ms vs x bs
 | [],_,_,_,_,hr=>hr
 | _::_,_,_,_,ha,⟨v,r,b1,b2,h1,h2,h3,h4,h5⟩=>⟨v,r,b1,b2,h1,h2,h3.noalias (ha _ (ac1 ..)),MRL.noalias (fun m hm=>ha m (ab8 _ hm)) h4,h5⟩
theorem Hf{α:Type}{f:α→Bool}:∀ {l:List α},Sc f l=true↔∀ a∈l,f a=true
 | []=>by simp[Sc]
 | a::l=>by simp[Sc,Hf (l:=l)]
theorem Bxu{s:B4}(h:s.alias=false):(∀ m∈s.outs,m.alias=false)∧∀ m∈Aym s.ins,m.alias=false:=by
 unfold B4.alias at h
 simp only[al1,Bool.not_eq_false',Hf] at h
 refine⟨fun m hm=>by simpa using h.1 m hm,?_⟩
 have:∀ ms:List Dz,(∀ m∈ms,m.upd.alias=false)→∀ m∈Aym ms,m.alias=false:=by
  intro ms
  induction ms with
  | nil=>intro _ m hm;simp[Aym] at hm
  | cons a ms ih =>
   intro h0 m hm
   rcases aa9.1 (show m∈a.upd::Aym ms from hm) with rfl|hm
   ·exact h0 a (ac1 ..)
   ·exact ih (fun m hm=>h0 m (ab8 _ hm)) m hm
 exact this s.ins fun m hm=>by simpa using h.2 m hm
section
variable {K:Dg} {S:St} {used:Id→Nat→Prop} {γ:Id→Value} {a:Act} {w:World}
def Clb(S:St)(used:Id→Nat→Prop)(γ:Id→Value)(mv:List Id)(p:Id×Obj×Value):Prop :=
 p.2.2=γ p.1∧used p.1 0∧p.1∈mv∧(∃ fr t c c',Ak S.objs p.1=some (.mem fr t c)∧p.2.1=.mem false t c')∧∃ g,p.2.2=.pointer (some ⟨g,0,none⟩)
structure Amo(S:St)(used:Id→Nat→Prop)(γ:Id→Value)(mv:List Id)(n n':Id)(M:I7):Prop where
 fst:n'.1=n.1
 snd:n'.2.1=n.2.1
 le:n.2.2≤n'.2.2
 ids:∀ p∈M,(p.1.1=n.1∧p.1.2.1=n.2.1∧n.2.2≤p.1.2.2∧p.1.2.2<n'.2.2)∨Clb S used γ mv p
 nodup:(M.map (·.1)).Nodup
 fresh:∀ p∈M,p.2.1.isNew
theorem Amo.of{mv:List Id}{n n':Id}{M:I7}(h:Ahe n n' M):Amo S used γ mv n n' M :=
 ⟨h.fst,h.snd,h.le,fun p hp=>.inl (h.ids p hp),h.nodup,h.fresh⟩
theorem Bmu{mv:List Id}{p:Id×Obj×Value}(h:Clb S used γ mv p):∃ g,Bc (some p.2.1) p.2.2=some g∧γ p.1=.pointer (some ⟨g,0,none⟩):=by
 obtain⟨h1,_,_,⟨_,_,_,_,_,h2⟩,g,h3⟩:=h
 exact⟨g,by rw[h2,h3];rfl,by rw[← h1,h3]⟩
theorem Amo.app{mv:List Id}{n n' qy:Id}{N M:I7}(h:Amo S used γ mv n n' N)(k:Amo S used γ mv n' qy M)
  (hu:∀ id:Id,id.1=n.1→id.2.1=n.2.1→∀ v,¬ used id v) (dv:(I7.blk N++I7.blk M).Nodup):Amo S used γ mv n qy (M++N) where
 fst:=k.fst.trans h.fst
 snd:=k.snd.trans h.snd
 le:=af2 h.le k.le
 ids:=fun p hp=>by
  rcases ad9.1 hp with hp|hp
  ·rcases k.ids p hp with⟨h1,h2,h3,h4⟩|hb
   ·exact .inl ⟨h1.trans h.fst,h2.trans h.snd,af2 h.le h3,h4⟩
   ·exact .inr hb
  ·rcases h.ids p hp with⟨h1,h2,h3,h4⟩|hb
   ·exact .inl ⟨h1,h2,h3,ae3 h4 k.le⟩
   ·exact .inr hb
 nodup:=by
  rw[at2,an5]
  refine⟨k.nodup,h.nodup,fun i hi j hj e=>?_⟩
  obtain⟨p,hp,rfl⟩:=ag8.1 hi
  obtain⟨q,hq,rfl⟩:=ag8.1 hj
  rcases k.ids p hp with h1|h1<;>rcases h.ids q hq with h2|h2
  ·rw[e] at h1
   omega
  ·exact hu p.1 (h1.1.trans h.fst) (h1.2.1.trans h.snd) 0 (by rw[e];exact h2.2.1)
  ·exact hu q.1 h2.1 h2.2.1 0 (by rw[← e];exact h1.2.1)
  ·obtain⟨g,g1,g2⟩:=Bmu h1
   obtain⟨g',g3,g4⟩:=Bmu h2
   rw[e,g4] at g2
   cases g2
   rw[an5] at dv
   exact dv.2.2 g (Ajw hq g3) g (Ajw hp g1) rfl
 fresh:=fun p hp=>by
  rcases ad9.1 hp with hp|hp
  ·exact k.fresh p hp
  ·exact h.fresh p hp
variable {α:Type} {C:Gi} {objs:Pm} {w':World} {ok:Bool→Nat→Prop} {base:Nat}
theorem Byf(h:Gd K S used γ a w){mv:List Id}{m:Dz}{id:Id}{p:List Nat}{val:Value}(hv:Ev (A3 K S.objs used γ w) (.ptr id p) val)(hb:Bbw S mv m (.ptr id p))
  {x:m.den} {bs:List Nat} (hm:∃ g e cur eo,[val]=[Value.pointer (some ⟨g,0,none⟩)]∧w'.heap[g]?=some (.cells cur e (0,0))∧MR w' ok base m cur.toList x eo∧bs=g::eo)
  {n:Id} {u:Pm} {k:Id→Pm→OpT α} {l0 l:List Id} {r:α} (hu:∀ id:Id,id.1=n.1→id.2.1=n.2.1→∀ v,¬ used id v)
  (hl:A6 C objs (Ay5 m x n u fun a n' u'=>k n' ((id,some (.mem false m.ty a))::u')) l0 r l) :
  ∃ n' M,A6 C objs (k n' (I7.ups M++u)) l0 r l∧Amo S used γ mv n n' M∧(I7.blk M).Perm bs∧∀ (K':Dg) (E:U5),Zd w' ok base M K' E→∀ p∈M,OR K' E p.1 p.2.1:=by
 obtain⟨rfl,jc,fr,c,ak⟩:=hb
 obtain⟨g,e,cur,eo,h1,h2,h3,rfl⟩:=hm
 have aq:val=.pointer (some ⟨g,0,none⟩):=by simpa using h1
 obtain⟨nc,km⟩:=hv
 have er:val.cells.toList=[val]:=Bm (by rw[aq];rfl)
 rw[er] at nc
 obtain⟨ll,v0,e0,_,ct⟩:=nc
 have e0:val=v0:=by simpa using e0
 subst e0
 obtain⟨g',u',k1,k2,k3,k4⟩:=ct m.ty (Aa2 _ fr m.ty c (.inl ak))
 have hγ:γ id=.pointer (some ⟨g,0,none⟩):=by
  have k1:γ id=_:=k1
  rw[aq,(Kc m.ty).2.2] at k4
  cases k4
  exact k1
 obtain⟨v,n',N,a1,a2,a3,a4,a5,a6⟩:=Blx m h3 hl
 refine⟨n',(id,.mem false m.ty v,.pointer (some ⟨g,0,none⟩))::N,a1,⟨a2.fst,a2.snd,a2.le,fun p hp=>?_,?_,fun p hp=>?_⟩,?_,fun K' E hp p iu=>(Bnk h2 a3 a6 hp).2 p iu⟩
 ·rcases aa9.1 hp with rfl|hp
  ·exact .inr ⟨hγ.symm,ll,jc,⟨fr,m.ty,c,v,ak,rfl⟩,g,rfl⟩
  ·exact .inl (a2.ids p hp)
 ·simp only[ae5,ai8]
  refine⟨fun hm=>?_,a2.nodup⟩
  obtain⟨p,hp,e⟩:=ag8.1 hm
  obtain⟨i1,i2,_⟩:=a2.ids p hp
  exact hu p.1 i1 i2 0 (by rw[e];exact ll)
 ·rcases aa9.1 hp with rfl|hp
  ·trivial
  ·exact a2.fresh p hp
 ·show (g::I7.blk N).Perm _
  exact List.Perm.cons g a5
theorem Amo.nil(mv:List Id)(n:Id):Amo S used γ mv n n []:=Amo.of (Ahe.nil n)
theorem Br6(h:Gd K S used γ a w){mv:List Id}(m:Dz)(v:AV){val:Value}(hv:Dn (A3 K S.objs used γ w) v val)(hb:Bvo S mv m v)
  {x:m.upd.den} {bs:List Nat} (hm:MR w' ok base m.upd (Bkt m val).cells.toList x bs)
  {n:Id} {u:Pm} {k:Id→Pm→OpT α} {l0 l:List Id} {r:α} (hu:∀ id:Id,id.1=n.1→id.2.1=n.2.1→∀ v,¬ used id v)
  (hl:A6 C objs (Br7 m v x n u k) l0 r l) :
  ∃ n' M,A6 C objs (k n' (I7.ups M++u)) l0 r l∧Amo S used γ mv n n' M∧(I7.blk M).Perm bs∧∀ (K':Dg) (E:U5),Zd w' ok base M K' E→∀ p∈M,OR K' E p.1 p.2.1:=by
 have gk:bs=[]→A6 C objs (k n u) l0 r l→∃ n' M,A6 C objs (k n' (I7.ups M++u)) l0 r l∧Amo S used γ mv n n' M∧(I7.blk M).Perm bs∧∀ (K':Dg) (E:U5),Zd w' ok base M K' E→∀ p∈M,OR K' E p.1 p.2.1 :=
  fun oa hl=>⟨n,[],hl,Amo.nil mv n,by rw[oa];exact ad5 _,fun _ _ _ p hp=>by simp at hp⟩
 cases m with
 | ro fr t=>exact gk hm.1 hl
 | own fr t=>exact gk hm.1 hl
 | pair p q=>exact gk hm.1 hl
 | fn f m=>exact gk hm.1 hl
 | nilm t=>exact gk hm.1 hl
 | rp t=>exact gk hm.1 hl
 | bor t=>exact gk hm.1 hl
 | mapm k t=>exact gk hm.1 hl
 | orp t=>exact gk hm.1 hl
 | ign=>exact gk hm.1 hl
 | full t=>exact gk hm.1 hl
 | ptr m =>
  cases v
  case ptr id p =>
   have hb:Bbw S mv m (.ptr id p):=hb
   obtain rfl:=hb.1
   obtain⟨g,e,cur,eo,h1,h2,h3,h4⟩:=hm
   have h1:val.cells.toList=_:=h1
   have hv:Ev _ (.ptr id []) val:=hv
   have er:val.cells.toList=[val]:=Bm hv.2.symm
   exact Byf h hv hb ⟨g,e,cur,eo,by rw[← er,h1],h2,h3,h4⟩ hu hl
  all_goals exact (show False from hb).elim
 | optr m =>
  cases v
  case nilp =>
   rcases hl with⟨hx,hl⟩ | ⟨y,_,hl⟩
   ·subst hx
    exact gk hm.2 hl
   ·exact hl.elim
  case ptr id p =>
   have hb:Bbw S mv m (.ptr id p):=by
    rcases hb with hb|hb
    ·cases hb
    ·exact hb
   obtain rfl:=hb.1
   rcases hl with⟨hx,hl⟩ | ⟨y,hy,hl⟩
   ·exact hl.elim
   ·subst hy
    obtain⟨g,e,cur,eo,h1,h2,h3,h4⟩:=hm
    have h1:val.cells.toList=_:=h1
    have hv:Ev _ (.ptr id []) val:=hv
    have er:val.cells.toList=[val]:=Bm hv.2.symm
    exact Byf h hv hb ⟨g,e,cur,eo,by rw[← er,h1],h2,h3,h4⟩ hu hl
  all_goals
   rcases hb with hb|hb
   ·cases hb
   ·exact (show False from hb).elim
theorem Bs1(h:Gd K S used γ a w){mv:List Id}:∀ (ms:List Dz) (vs:List AV) {vals:List Value} (ag:vals.length=vs.length)
  (hv:∀ (i:Nat) (v:AV) (val:Value),vs[i]?=some v→vals[i]?=some val→Dn (A3 K S.objs used γ w) v val)
  (hb:∀ (i:Nat) (m:Dz) (v:AV),ms[i]?=some m→vs[i]?=some v→Bvo S mv m v)
  {x:Iu (Aym ms)} {bs:List Nat} (hm:MRL w' ok base (Aym ms) (Aty ms vals) x bs) (dv:bs.Nodup)
  {n:Id} {u:Pm} {k:Id→Pm→OpT α} {l0 l:List Id} {r:α} (hu:∀ id:Id,id.1=n.1→id.2.1=n.2.1→∀ v,¬ used id v)
  (hl:A6 C objs (Ark ms vs x n u k) l0 r l),
  ∃ n' M,A6 C objs (k n' (I7.ups M++u)) l0 r l∧Amo S used γ mv n n' M∧(I7.blk M).Perm bs∧∀ (K':Dg) (E:U5),Zd w' ok base M K' E→∀ p∈M,OR K' E p.1 p.2.1:=by
 intro ms
 induction ms with
 | nil =>
  intro vs vals ag hv hb x bs hm dv n u k l0 l r hu hl
  cases vs with
  | nil=>exact⟨n,[],hl,Amo.nil mv n,by rw[hm.2];exact ad5 _,fun _ _ _ p hp=>by simp at hp⟩
  | cons _ _=>exact hl.elim
 | cons m ms ih =>
  intro vs vals ag hv hb x bs hm dv n u k l0 l r hu hl
  cases vs with
  | nil=>exact hl.elim
  | cons v vs =>
   cases vals with
   | nil=>simp at ag
   | cons val vals =>
    obtain⟨v',r',b1,b2,e1,e2,e3,e4,rfl⟩:=hm
    obtain⟨rfl,rfl⟩:v'=Bkt m val∧r'=Aty ms vals:=by
     have e1:Bkt m val::Aty ms vals=v'::r':=e1
     cases e1;exact⟨rfl,rfl⟩
    have hl:A6 C objs (Br7 m v x.1 n u fun n' u'=>Ark ms vs x.2 n' u' k) l0 r l:=hl
    obtain⟨n1,M1,a1,a2,a3,a4⟩:=Br6 h m v (hv 0 v val rfl rfl) (hb 0 m v rfl rfl) e3 hu hl
    rw[an5] at dv
    obtain⟨n2,M2,c1,c2,c3,c4⟩:=ih vs (by simpa using ag) (fun i v val h1 h2=>hv (i+1) v val (by simpa using h1) (by simpa using h2)) (fun i m v h1 h2=>hb (i+1) m v (by simpa using h1) (by simpa using h2)) e4 dv.2.1
     (fun id i1 i2=>hu id (i1.trans a2.fst) (i2.trans a2.snd)) a1
    refine⟨n2,M2++M1,by rw[I7.ups_app,ab6];exact c1,a2.app c2 hu ?_,?_,fun K' E hp p iu=>?_⟩
    ·exact ((as1 a3 c3).nodup_iff).2 (an5.2 dv)
    ·rw[I7.blk_app]
     exact aj7.trans (as1 a3 c3)
    ·rcases ad9.1 iu with iu|iu
     ·exact c4 K' E (hp.sub fun p h=>al2 _ h) p iu
     ·exact a4 K' E (hp.sub fun p h=>aj6 _ h) p iu
end
end Go.Pon
